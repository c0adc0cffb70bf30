/- The plain side of the laws on the lexer: the program's Lex, on lists of bytes. -/
import Derived.Test.YthjmbagkomnpgaaDoorPlainOwn
import Derived.Test.YthjmbagkomnpgaaDoorLx18
namespace Go.Proofs.YthjmbagkomnpgaaDoor.Plain
open Go Go.RowKit Go.Proofs.YthjmbagkomnpgaaDoor.L Go.Proofs.YthjmbagkomnpgaaDoorW.PrintWords Go.Proofs.YthjmbagkomnpgaaDoorW.PrintLast

def own1 (t : Tk) : S38 := ⟨(t.kind : Int), mk t.text, (t.line : Int), (t.pos : Int)⟩
def ownR (acc : List S38) : Except Nat (List Tk) → List S38 × Int × Int
  | .error n => ([], (n : Int), 4)
  | .ok l => (acc ++ l.map own1, 0, 0)
theorem drop_facts {s l : Bs} {p : Nat} {c : UInt8} {t : Bs} (h : s.drop p = l) (hc : l = c :: t) : p < s.length ∧ s.length = p + t.length + 1 ∧ bt (mk s) (p : Int) = (c.toNat : Int) := by
  subst hc
  have hlen := congrArg List.length h
  simp only [List.length_drop, List.length_cons] at hlen
  have hp : p < s.length := by omega
  refine ⟨hp, by omega, ?_⟩
  rw [bt_mk s p hp]
  have : s.drop p = s[p] :: s.drop (p + 1) := List.drop_eq_getElem_cons hp
  rw [this] at h
  rw [(List.cons.inj h).1]
/-- What Lex does with a token. -/
def afterTok (k : Nat) (x0 : ByteArray) (x2 : List S38) (x3 x5 : Int) (bt122 : Int × Int) : Option (List S38 × Int × Int) := if bt122.1 = 0 then (some (([] : List (S38)), x3, 4)) else (if x3 ≤ (wrap64 (x3 + bt122.2)) then (if (wrap64 (x3 + bt122.2)) ≤ (x0.size : Int) then (if bt122.1 = 4 then (if 1 ≤ (wrap64 (bt122.2 - 1)) then (if (wrap64 (bt122.2 - 1)) ≤ ((x0.extract (x3 : Int).toNat ((wrap64 (x3 + bt122.2)) : Int).toNat).size : Int) then (if x2.length < 3518437208883 then (lexer_Lex.l0 k x0 (x2 ++ [(⟨bt122.1, (x0.extract (x3 : Int).toNat ((wrap64 (x3 + bt122.2)) : Int).toNat).extract 1 ((wrap64 (bt122.2 - 1)) : Int).toNat, x5, x3⟩ : S38)]) (wrap64 (x3 + bt122.2)) x5) else (none)) else (none)) else (none)) else (if x2.length < 3518437208883 then (lexer_Lex.l0 k x0 (x2 ++ [(⟨bt122.1, x0.extract (x3 : Int).toNat ((wrap64 (x3 + bt122.2)) : Int).toNat, x5, x3⟩ : S38)]) (wrap64 (x3 + bt122.2)) x5) else (none))) else (none)) else (none))
theorem afterTok_ok (k : Nat) (s : Bs) (acc : List S38) (p n kd m : Nat) (hp : p + m ≤ s.length) (hs : s.length ≤ 100000) (ha : acc.length ≤ 100000) (h0 : kd ≠ 0) (hm : kd = 4 → 2 ≤ m) :
    afterTok k (mk s) acc (p : Int) (n : Int) ((kd : Int), (m : Int)) = lexer_Lex.l0 k (mk s) (acc ++ [⟨(kd : Int), if kd = 4 then mk ((((s.drop p).take m).drop 1).take (m - 2)) else mk ((s.drop p).take m), (n : Int), (p : Int)⟩]) ((p + m : Nat) : Int) (n : Int) := by
  have w1 : wrap64 ((p : Int) + (m : Int)) = ((p + m : Nat) : Int) := by rw [wrap_id (by omega) (by omega)]; omega
  have hx : (mk s).extract p (p + m) = mk ((s.drop p).take m) := by
    rw [mk_extract, show p + m - p = m by omega]
  have hx' : (mk s).extract ((p : Int)).toNat (((p + m : Nat) : Int)).toNat = mk ((s.drop p).take m) := by rw [Int.toNat_natCast, Int.toNat_natCast, hx]
  have c0 : ¬ (kd : Int) = 0 := by omega
  have c1 : (p : Int) ≤ ((p + m : Nat) : Int) := by omega
  have c2 : ((p + m : Nat) : Int) ≤ ((mk s).size : Int) := by rw [mk_size]; omega
  have c3 : acc.length < 3518437208883 := Nat.lt_of_le_of_lt ha (by decide)
  have hlen : (mk ((s.drop p).take m)).size = m := by rw [mk_size, List.length_take, List.length_drop]; omega
  unfold afterTok
  simp only [w1, hx']
  rw [if_neg c0, if_pos c1, if_pos c2]
  by_cases h4 : kd = 4
  · have hm2 := hm h4
    have w2 : wrap64 ((m : Int) - 1) = ((m - 1 : Nat) : Int) := by rw [wrap_id (by omega) (by omega)]; omega
    have c4 : (kd : Int) = 4 := by omega
    have c5 : (1 : Int) ≤ ((m - 1 : Nat) : Int) := by omega
    have c6 : ((m - 1 : Nat) : Int) ≤ ((mk ((s.drop p).take m)).size : Int) := by rw [hlen]; omega
    have hy : (mk ((s.drop p).take m)).extract 1 (((m - 1 : Nat) : Int)).toNat = mk ((((s.drop p).take m).drop 1).take (m - 2)) := by rw [Int.toNat_natCast, mk_extract, show m - 1 - 1 = m - 2 by omega]
    rw [if_pos c4, w2, if_pos c5, if_pos c6, if_pos c3, hy, if_pos h4]
  · have c4 : ¬ (kd : Int) = 4 := by omega
    rw [if_neg c4, if_pos c3, if_neg h4]
set_option maxHeartbeats 4000000 in
theorem lex_l (s : Bs) (hs : s.length ≤ 100000) (l : Bs) (p n : Nat) : ∀ acc : List S38, s.drop p = l → p ≤ s.length → n ≤ p + 1 → acc.length ≤ p →
    Ev (fun k => lexer_Lex.l0 k (mk s) acc (p : Int) (n : Int)) (ownR acc (plex resB okV l p n)) := by
  refine plex_ind resB okV (P := fun l p n => ∀ acc : List S38, s.drop p = l → p ≤ s.length → n ≤ p + 1 → acc.length ≤ p →
    Ev (fun k => lexer_Lex.l0 k (mk s) acc (p : Int) (n : Int)) (ownR acc (plex resB okV l p n))) ?_ ?_ ?_ ?_ ?_ ?_ l.length l p n (Nat.le_refl _)
  · intro p n acc hl hp hn ha
    have : p = s.length := by have := congrArg List.length hl; simp at this; omega
    refine Ev.step (f := fun _ => some (acc, 0, 0)) (fun k => ?_) (by simpa [plex_nil, ownR] using Ev.now _)
    simp only [lexer_Lex.l0]; rw [if_neg (by rw [mk_size]; omega)]
  · intro t c p n hc ih acc hl hp hn ha
    obtain ⟨h1, h2, h3⟩ := drop_facts hl rfl
    rw [plex_lf _ _ _ _ hc]
    refine Ev.step (f := fun k => lexer_Lex.l0 k (mk s) acc ((p + 1 : Nat) : Int) ((n + 1 : Nat) : Int)) (fun k => ?_) (ih acc (by rw [← List.drop_drop, hl]; rfl) (by omega) (by omega) (by omega))
    simp only [lexer_Lex.l0]; rw [if_pos (by rw [mk_size]; omega), if_pos (by omega), h3, if_pos (by omega), wrap_nat (by omega), wrap_nat (by omega)]
  · intro t c p n hc ih acc hl hp hn ha
    obtain ⟨h1, h2, h3⟩ := drop_facts hl rfl
    rw [plex_blank _ _ _ _ hc]
    have hi := ih acc (by rw [← List.drop_drop, hl]; rfl) (by omega) (by omega) (by omega)
    have hj : Ev (fun k => lexer_Lex.j1 k (mk s) acc (p : Int) (n : Int) (c.toNat : Int) true) (ownR acc (plex resB okV t (p + 1) n)) :=
      Ev.step (f := fun k => lexer_Lex.l0 k (mk s) acc ((p + 1 : Nat) : Int) (n : Int)) (fun k => by simp only [lexer_Lex.j1]; rw [if_pos trivial, wrap_nat (by omega)]) hi
    refine Ev.step (fun k => ?_) hj
    simp only [lexer_Lex.l0]; rw [if_pos (by rw [mk_size]; omega), if_pos (by omega), h3, if_neg (by omega)]
    by_cases h32 : c.toNat = 32
    · rw [if_pos (by omega), show ((c.toNat : Int) == 32) = true by rw [beq_iff_eq]; omega]
    · rw [if_neg (by omega), show ((c.toNat : Int) == 9) = true by rw [beq_iff_eq]; omega]
  · intro t c p n hc ih acc hl hp hn ha
    obtain ⟨h1, h2, h3⟩ := drop_facts hl rfl
    rw [plex_note _ _ _ _ hc]
    have hr := runB_le notN t
    have hi := ih acc (by rw [← List.drop_drop, hl, List.drop_succ_cons]) (by omega) (by omega) (by omega)
    have hn35 : notN c = true := by unfold notN; rw [decide_eq_true_eq]; omega
    have hj : Ev (fun k => lexer_Lex.j1 k (mk s) acc (p : Int) (n : Int) (c.toNat : Int) false) (ownR acc (plex resB okV (t.drop (runB notN t)) (p + (runB notN t + 1)) n)) := by
      refine Ev.step (f := fun k => (lexer_run_note.f k (mk (c :: t))).bind fun t121 => lexer_Lex.l0 k (mk s) acc (wrap64 ((p : Int) + t121)) (n : Int)) (fun k => ?_) (Ev.bind (runn_ev (c :: t) (by rw [List.length_cons]; omega)) ?_)
      · simp only [lexer_Lex.j1]; rw [if_neg (by simp), if_pos (by omega), if_pos (by omega), if_pos (by rw [mk_size]; omega), Int.toNat_natCast, mk_from, hl]
      · rw [runB_cons, if_pos hn35, wrap_id (by omega) (by omega), show (p : Int) + ((runB notN t + 1 : Nat) : Int) = ((p + (runB notN t + 1) : Nat) : Int) by omega]
        exact hi
    refine Ev.step (fun k => ?_) hj
    simp only [lexer_Lex.l0]; rw [if_pos (by rw [mk_size]; omega), if_pos (by omega), h3, if_neg (by omega), if_neg (by omega), show ((c.toNat : Int) == 9) = false by rw [beq_eq_false_iff_ne]; omega]
  · intro t c p n hc hk acc hl hp hn ha
    obtain ⟨h1, h2, h3⟩ := drop_facts hl rfl
    rw [plex_bad _ _ _ _ hc hk]
    have hj : Ev (fun k => lexer_Lex.j1 k (mk s) acc (p : Int) (n : Int) (c.toNat : Int) false) ([], (p : Int), 4) := by
      refine Ev.step (f := fun k => (lexer_token.f k (mk (c :: t))).bind (afterTok k (mk s) acc (p : Int) (n : Int))) (fun k => ?_) (Ev.bind (token_ev c t (by rw [List.length_cons]; omega)) ?_)
      · simp only [lexer_Lex.j1]; rw [if_neg (by simp), if_neg (by have := hc.2.2; omega), if_pos (by omega), if_pos (by rw [mk_size]; omega), Int.toNat_natCast, mk_from, hl]; rfl
      · refine Ev.congr (f := fun _ => some ([], (p : Int), 4)) (fun k => ?_) (Ev.now _)
        unfold afterTok; rw [if_pos (by show (((tokL resB okV (c :: t)).1 : Nat) : Int) = 0; rw [hk]; rfl)]
    refine Ev.step (fun k => ?_) hj
    have := hc.1; have := hc.2.1
    simp only [lexer_Lex.l0]; rw [if_pos (by rw [mk_size]; omega), if_pos (by omega), h3, if_neg (by omega), if_neg (by omega), show ((c.toNat : Int) == 9) = false by rw [beq_eq_false_iff_ne]; omega]
  · intro t c p n hc hk ih acc hl hp hn ha
    obtain ⟨h1, h2, h3⟩ := drop_facts hl rfl
    have hle := tokL_le resB okV (c :: t) hk
    rw [List.length_cons] at hle
    rw [plex_tok _ _ _ _ hc hk]
    have hi := ih (acc ++ [own1 (mkTk resB okV (c :: t) p n)]) (by rw [← List.drop_drop, hl]) (by omega) (by omega) (by rw [List.length_append]; simp; omega)
    have hR : ownR (acc ++ [own1 (mkTk resB okV (c :: t) p n)]) (plex resB okV ((c :: t).drop (tokL resB okV (c :: t)).2) (p + (tokL resB okV (c :: t)).2) n) = ownR acc (match plex resB okV ((c :: t).drop (tokL resB okV (c :: t)).2) (p + (tokL resB okV (c :: t)).2) n with
      | .error m => .error m
      | .ok l => .ok (mkTk resB okV (c :: t) p n :: l)) := by
      cases plex resB okV ((c :: t).drop (tokL resB okV (c :: t)).2) (p + (tokL resB okV (c :: t)).2) n with
      | error m => rfl
      | ok l => simp [ownR]
    rw [hR] at hi
    generalize ownR acc (match plex resB okV ((c :: t).drop (tokL resB okV (c :: t)).2) (p + (tokL resB okV (c :: t)).2) n with
      | .error m => .error m
      | .ok l => .ok (mkTk resB okV (c :: t) p n :: l)) = R at hi ⊢
    have hj : Ev (fun k => lexer_Lex.j1 k (mk s) acc (p : Int) (n : Int) (c.toNat : Int) false) R := by
      refine Ev.step (f := fun k => (lexer_token.f k (mk (c :: t))).bind (afterTok k (mk s) acc (p : Int) (n : Int))) (fun k => ?_) (Ev.bind (token_ev c t (by rw [List.length_cons]; omega)) ?_)
      · simp only [lexer_Lex.j1]; rw [if_neg (by simp), if_neg (by have := hc.2.2; omega), if_pos (by omega), if_pos (by rw [mk_size]; omega), Int.toNat_natCast, mk_from, hl]; rfl
      · have hown : own1 (mkTk resB okV (c :: t) p n) = ⟨(((tokL resB okV (c :: t)).1 : Nat) : Int), if (tokL resB okV (c :: t)).1 = 4 then mk ((((s.drop p).take (tokL resB okV (c :: t)).2).drop 1).take ((tokL resB okV (c :: t)).2 - 2)) else mk ((s.drop p).take (tokL resB okV (c :: t)).2), (n : Int), (p : Int)⟩ := by
          unfold own1 mkTk
          rw [hl]
          by_cases h4 : (tokL resB okV (c :: t)).1 = 4
          · obtain ⟨_, _, h42⟩ := tokL_four resB okV c t h4
            rw [if_pos h4, if_pos h4, h42, List.take_succ_cons, List.drop_succ_cons, List.drop_zero, List.tail_cons, List.take_take, show min (runB notQ t + 2 - 2) (runB notQ t + 1) = runB notQ t + 2 - 2 by omega]
          · rw [if_neg h4, if_neg h4]
        have hm4 : (tokL resB okV (c :: t)).1 = 4 → 2 ≤ (tokL resB okV (c :: t)).2 := fun h4 => by
          obtain ⟨_, _, h42⟩ := tokL_four resB okV c t h4
          rw [h42]; exact Nat.le_add_left _ _
        have hpm : p + (tokL resB okV (c :: t)).2 ≤ s.length := by omega
        rw [hown] at hi
        have ha' : acc.length ≤ 100000 := by omega
        clear hR hown
        exact Ev.congr (fun k => afterTok_ok k s acc p n _ _ hpm hs ha' hk hm4) hi
    refine Ev.step (fun k => ?_) hj
    have := hc.1; have := hc.2.1
    simp only [lexer_Lex.l0]; rw [if_pos (by rw [mk_size]; omega), if_pos (by omega), h3, if_neg (by omega), if_neg (by omega), show ((c.toNat : Int) == 9) = false by rw [beq_eq_false_iff_ne]; omega]
theorem lex_ev (s : Bs) (hs : s.length ≤ 20000) : Ev (fun k => lexer_Lex.f k (mk s)) (ownR [] (plex resB okV s 0 1)) := by
  have := lex_l s (by omega) s 0 1 [] (by simp) (by omega) (by omega) (by simp)
  refine Ev.congr (fun k => ?_) this
  unfold lexer_Lex.f; rw [if_neg (by rw [mk_size]; omega)]; rfl
theorem lex_long (s : Bs) (hs : 20000 < s.length) : Ev (fun k => lexer_Lex.f k (mk s)) ([], 0, 3) := by
  refine Ev.congr (f := fun _ => some ([], 0, 3)) (fun k => ?_) (Ev.now _)
  unfold lexer_Lex.f; rw [if_pos (by rw [mk_size]; omega)]
end Go.Proofs.YthjmbagkomnpgaaDoor.Plain
