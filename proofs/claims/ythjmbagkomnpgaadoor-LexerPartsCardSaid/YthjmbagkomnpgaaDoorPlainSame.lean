/- The plain side of the laws on the lexer: the program's and the reference's Lex answer alike. -/
import Derived.Test.YthjmbagkomnpgaaDoorPlainRefLex
namespace Go.Proofs.YthjmbagkomnpgaaDoor.Plain
open Go Go.RowKit Go.Proofs.YthjmbagkomnpgaaDoor.L Go.Proofs.YthjmbagkomnpgaaDoorW.PrintWords Go.Proofs.YthjmbagkomnpgaaDoorW.PrintLast

def ref1 (t : Tk) : S40 := ⟨(t.kind : Int), mk t.text, (t.line : Int), (t.pos : Int)⟩
def refR (acc : List S40) : Except Nat (List Tk) → List S40 × Int × Int
  | .error n => ([], (n : Int), 4)
  | .ok l => (acc ++ l.map ref1, 0, 0)
theorem tokL_zero (l : Bs) : (tokL resB okV l).1 = 0 → (tokL resB okV l).2 = 0 := by
  cases l with
  | nil => intro _; rfl
  | cons c t =>
    simp only [tokL]
    by_cases a1 : isL c = true
    · rw [if_pos a1]
      by_cases a2 : resB ((c :: t).take (runB isW t + 1)) = true
      · rw [if_pos a2]; intro h; exact absurd h (by simp)
      · rw [if_neg a2]
        by_cases a3 : runB isW t + 1 ≤ 30
        · rw [if_pos a3]; intro h; exact absurd h (by simp)
        · rw [if_neg a3]; intro _; rfl
    · rw [if_neg a1]
      by_cases a2 : c.toNat = 47 ∨ c.toNat = 44 ∨ c.toNat = 58
      · rw [if_pos a2]; intro h; exact absurd h (by simp)
      · rw [if_neg a2]
        by_cases a3 : c.toNat = 34
        · rw [if_pos a3]
          by_cases a4 : (t.drop (runB notQ t)).head? = some 34 ∧ runB notQ t ≤ 2000
          · rw [if_pos a4]; intro h; exact absurd h (by simp)
          · rw [if_neg a4]; intro _; rfl
        · rw [if_neg a3]
          by_cases a4 : c.toNat = 45 ∨ isD c = true
          · rw [if_pos a4]
            by_cases a5 : okV ((c :: t).take (runB isD t + 1)) = true
            · rw [if_pos a5]; intro h; exact absurd h (by simp)
            · rw [if_neg a5]; intro _; rfl
          · rw [if_neg a4]; intro _; rfl
/-- What the reference's Lex does with a token. -/
def afterRef (k : Nat) (x0 : ByteArray) (x2 : List S40) (x5 x6 : Int) (bt163 : Int × Int) : Option (List S40 × Int × Int) := if bt163.2 = 0 then (some (([] : List (S40)), x6, 4)) else (if 0 ≤ x6 then (if x6 ≤ (wrap64 (x6 + bt163.2)) then (if (wrap64 (x6 + bt163.2)) ≤ (x0.size : Int) then (if bt163.1 = 4 then (if 0 ≤ (wrap64 (x6 + 1)) then (if (wrap64 (x6 + 1)) ≤ (wrap64 ((wrap64 (x6 + bt163.2)) - 1)) then (if (wrap64 ((wrap64 (x6 + bt163.2)) - 1)) ≤ (x0.size : Int) then (if x2.length < 3518437208883 then (culetref13_Lex.l0 k x0 (x2 ++ [(⟨bt163.1, x0.extract ((wrap64 (x6 + 1)) : Int).toNat ((wrap64 ((wrap64 (x6 + bt163.2)) - 1)) : Int).toNat, x5, x6⟩ : S40)]) x5 (wrap64 (x6 + bt163.2))) else (none)) else (none)) else (none)) else (none)) else (if x2.length < 3518437208883 then (culetref13_Lex.l0 k x0 (x2 ++ [(⟨bt163.1, x0.extract (x6 : Int).toNat ((wrap64 (x6 + bt163.2)) : Int).toNat, x5, x6⟩ : S40)]) x5 (wrap64 (x6 + bt163.2))) else (none))) else (none)) else (none)) else (none))
theorem afterRef_ok (k : Nat) (s : Bs) (acc : List S40) (p n kd m : Nat) (hp : p + m ≤ s.length) (hs : s.length ≤ 100000) (ha : acc.length ≤ 100000) (h0 : m ≠ 0) (hm : kd = 4 → 2 ≤ m) :
    afterRef k (mk s) acc (n : Int) (p : Int) ((kd : Int), (m : Int)) = culetref13_Lex.l0 k (mk s) (acc ++ [⟨(kd : Int), if kd = 4 then mk ((((s.drop p).take m).drop 1).take (m - 2)) else mk ((s.drop p).take m), (n : Int), (p : Int)⟩]) (n : Int) ((p + m : Nat) : Int) := by
  have w1 : wrap64 ((p : Int) + (m : Int)) = ((p + m : Nat) : Int) := by rw [wrap_id (by omega) (by omega)]; omega
  have wp : wrap64 ((p : Int) + 1) = ((p + 1 : Nat) : Int) := wrap_nat (by omega)
  have hx' : (mk s).extract ((p : Int)).toNat (((p + m : Nat) : Int)).toNat = mk ((s.drop p).take m) := by rw [Int.toNat_natCast, Int.toNat_natCast, mk_extract, show p + m - p = m by omega]
  have c0 : ¬ (m : Int) = 0 := by clear w1 wp; omega
  have cp : (0 : Int) ≤ (p : Int) := by clear w1 wp; omega
  have c1 : (p : Int) ≤ ((p + m : Nat) : Int) := by clear w1 wp; omega
  have c2 : ((p + m : Nat) : Int) ≤ ((mk s).size : Int) := by clear w1 wp; rw [mk_size]; omega
  have c3 : acc.length < 3518437208883 := Nat.lt_of_le_of_lt ha (by decide)
  unfold afterRef
  simp only [w1, wp, hx']
  rw [if_neg c0, if_pos cp, if_pos c1, if_pos c2]
  by_cases h4 : kd = 4
  · have hm2 := hm h4
    have w2 : wrap64 (((p + m : Nat) : Int) - 1) = ((p + m - 1 : Nat) : Int) := by clear w1 wp; rw [wrap_id (by omega) (by omega)]; omega
    have c4 : (kd : Int) = 4 := by clear w1 wp w2; omega
    have c5 : (0 : Int) ≤ ((p + 1 : Nat) : Int) := by clear w1 wp w2; omega
    have c6 : ((p + 1 : Nat) : Int) ≤ ((p + m - 1 : Nat) : Int) := by clear w1 wp w2; omega
    have c7 : ((p + m - 1 : Nat) : Int) ≤ ((mk s).size : Int) := by clear w1 wp w2; rw [mk_size]; omega
    have hy : (mk s).extract (((p + 1 : Nat) : Int)).toNat (((p + m - 1 : Nat) : Int)).toNat = mk ((((s.drop p).take m).drop 1).take (m - 2)) := by
      clear w1 wp w2
      rw [Int.toNat_natCast, Int.toNat_natCast, mk_extract, List.drop_take, List.drop_drop, List.take_take, show p + m - 1 - (p + 1) = m - 2 by omega, show min (m - 2) (m - 1) = m - 2 by omega]
    rw [if_pos c4, w2, if_pos c5, if_pos c6, if_pos c7, if_pos c3, hy, if_pos h4]
  · have c4 : ¬ (kd : Int) = 4 := by clear w1 wp; omega
    rw [if_neg c4, if_pos c3, if_neg h4]
theorem note_l1 (s : Bs) (hs : s.length ≤ 100000) (acc : List S40) (n : Int) (r : List S40 × Int × Int) : ∀ (d i : Nat), i + d = s.length → Ev (fun k => culetref13_Lex.l0 k (mk s) acc n ((i + runB notN (s.drop i) : Nat) : Int)) r → Ev (fun k => culetref13_Lex.l1 k (mk s) acc n (i : Int)) r
  | 0, i, h, hr => by
    obtain rfl : i = s.length := by omega
    rw [List.drop_length] at hr
    refine Ev.step (fun k => ?_) hr
    simp only [culetref13_Lex.l1]; rw [if_neg (by rw [mk_size]; omega)]; rfl
  | d + 1, i, h, hr => by
    have hi : i < s.length := by omega
    have hb := bt_mk s i hi
    have g0 : (0 : Int) ≤ (i : Int) := by omega
    have g1 : (i : Int) < ((mk s).size : Int) := by rw [mk_size]; omega
    have ih := note_l1 s hs acc n r d (i + 1) (by omega)
    rw [List.drop_eq_getElem_cons hi, runB_cons] at hr
    have hw : wrap64 ((i : Int) + 1) = ((i + 1 : Nat) : Int) := wrap_nat (by omega)
    generalize s[i] = c at hb hr
    by_cases h10 : c.toNat = 10
    · rw [if_neg (by simp [notN, h10]), Nat.add_zero] at hr
      refine Ev.step (fun k => ?_) hr
      simp only [culetref13_Lex.l1]; rw [if_pos g1, if_pos g0, hb, if_pos (by rw [h10]; rfl)]
    · rw [if_pos (by simp [notN, h10]), show i + (runB notN (s.drop (i + 1)) + 1) = i + 1 + runB notN (s.drop (i + 1)) by rw [Nat.add_assoc i 1, Nat.add_comm 1]] at hr
      refine Ev.step (fun k => ?_) (ih hr)
      simp only [culetref13_Lex.l1]; rw [if_pos g1, if_pos g0, hb, if_neg (show ¬ (c.toNat : Int) = 10 from fun h => h10 (Int.ofNat.inj h)), hw]
set_option maxHeartbeats 4000000 in
theorem rlex_l (s : Bs) (hs : s.length ≤ 100000) (l : Bs) (p n : Nat) : ∀ acc : List S40, s.drop p = l → p ≤ s.length → n ≤ p + 1 → acc.length ≤ p →
    Ev (fun k => culetref13_Lex.l0 k (mk s) acc (n : Int) (p : Int)) (refR acc (plex resB okV l p n)) := by
  refine plex_ind resB okV (P := fun l p n => ∀ acc : List S40, s.drop p = l → p ≤ s.length → n ≤ p + 1 → acc.length ≤ p →
    Ev (fun k => culetref13_Lex.l0 k (mk s) acc (n : Int) (p : Int)) (refR acc (plex resB okV l p n))) ?_ ?_ ?_ ?_ ?_ ?_ l.length l p n (Nat.le_refl _)
  · intro p n acc hl hp hn ha
    have : p = s.length := by have := congrArg List.length hl; simp at this; omega
    refine Ev.step (f := fun _ => some (acc, 0, 0)) (fun k => ?_) (by simpa [plex_nil, refR] using Ev.now _)
    simp only [culetref13_Lex.l0]; rw [if_neg (by rw [mk_size]; omega)]
  · intro t c p n hc ih acc hl hp hn ha
    obtain ⟨h1, h2, h3⟩ := drop_facts hl rfl
    rw [plex_lf _ _ _ _ hc]
    refine Ev.step (f := fun k => culetref13_Lex.l0 k (mk s) acc ((n + 1 : Nat) : Int) ((p + 1 : Nat) : Int)) (fun k => ?_) (ih acc (by rw [← List.drop_drop, hl]; rfl) (by omega) (by omega) (by omega))
    simp only [culetref13_Lex.l0]; rw [if_pos (by rw [mk_size]; omega), if_pos (by omega), h3, if_pos (by omega), wrap_nat (by omega), wrap_nat (by omega)]
  · intro t c p n hc ih acc hl hp hn ha
    obtain ⟨h1, h2, h3⟩ := drop_facts hl rfl
    rw [plex_blank _ _ _ _ hc]
    have hi := ih acc (by rw [← List.drop_drop, hl]; rfl) (by omega) (by omega) (by omega)
    have hj : Ev (fun k => culetref13_Lex.j1 k (mk s) acc (n : Int) (p : Int) (c.toNat : Int) true) (refR acc (plex resB okV t (p + 1) n)) :=
      Ev.step (f := fun k => culetref13_Lex.l0 k (mk s) acc (n : Int) ((p + 1 : Nat) : Int)) (fun k => by simp only [culetref13_Lex.j1]; rw [if_pos trivial, wrap_nat (by omega)]) hi
    refine Ev.step (fun k => ?_) hj
    simp only [culetref13_Lex.l0]; rw [if_pos (by rw [mk_size]; omega), if_pos (by omega), h3, if_neg (by omega)]
    by_cases h32 : c.toNat = 32
    · rw [if_pos (by omega)]
    · rw [if_neg (by omega), show ((c.toNat : Int) == 9) = true by rw [beq_iff_eq]; omega]
  · intro t c p n hc ih acc hl hp hn ha
    obtain ⟨h1, h2, h3⟩ := drop_facts hl rfl
    rw [plex_note _ _ _ _ hc]
    have hr := runB_le notN t
    have hi := ih acc (by rw [← List.drop_drop, hl, List.drop_succ_cons]) (by omega) (by omega) (by omega)
    have hn35 : notN c = true := by unfold notN; rw [decide_eq_true_eq]; omega
    have hj : Ev (fun k => culetref13_Lex.j1 k (mk s) acc (n : Int) (p : Int) (c.toNat : Int) false) (refR acc (plex resB okV (t.drop (runB notN t)) (p + (runB notN t + 1)) n)) := by
      refine Ev.step (f := fun k => culetref13_Lex.l1 k (mk s) acc (n : Int) (p : Int)) (fun k => ?_) (note_l1 s hs acc (n : Int) _ (s.length - p) p (by omega) ?_)
      · simp only [culetref13_Lex.j1]; rw [if_neg (by simp), if_pos (by omega)]
      · rw [hl, runB_cons, if_pos hn35]; exact hi
    refine Ev.step (fun k => ?_) hj
    simp only [culetref13_Lex.l0]; rw [if_pos (by rw [mk_size]; omega), if_pos (by omega), h3, if_neg (by omega), if_neg (by omega), show ((c.toNat : Int) == 9) = false by rw [beq_eq_false_iff_ne]; omega]
  · intro t c p n hc hk acc hl hp hn ha
    obtain ⟨h1, h2, h3⟩ := drop_facts hl rfl
    rw [plex_bad _ _ _ _ hc hk]
    have hj : Ev (fun k => culetref13_Lex.j1 k (mk s) acc (n : Int) (p : Int) (c.toNat : Int) false) ([], (p : Int), 4) := by
      refine Ev.step (f := fun k => (culetref13_length.f k (mk s) (p : Int)).bind (afterRef k (mk s) acc (n : Int) (p : Int))) (fun k => ?_) (Ev.bind (len_ev s hs p c t hl) ?_)
      · simp only [culetref13_Lex.j1]; rw [if_neg (by simp), if_neg (by have := hc.2.2; omega)]; rfl
      · refine Ev.congr (f := fun _ => some ([], (p : Int), 4)) (fun k => ?_) (Ev.now _)
        unfold afterRef; rw [if_pos (by show (((tokL resB okV (c :: t)).2 : Nat) : Int) = 0; rw [tokL_zero _ hk]; rfl)]
    refine Ev.step (fun k => ?_) hj
    have := hc.1; have := hc.2.1
    simp only [culetref13_Lex.l0]; rw [if_pos (by rw [mk_size]; omega), if_pos (by omega), h3, if_neg (by omega), if_neg (by omega), show ((c.toNat : Int) == 9) = false by rw [beq_eq_false_iff_ne]; omega]
  · intro t c p n hc hk ih acc hl hp hn ha
    obtain ⟨h1, h2, h3⟩ := drop_facts hl rfl
    have hle := tokL_le resB okV (c :: t) hk
    rw [List.length_cons] at hle
    rw [plex_tok _ _ _ _ hc hk]
    have hi := ih (acc ++ [ref1 (mkTk resB okV (c :: t) p n)]) (by rw [← List.drop_drop, hl]) (by omega) (by omega) (by rw [List.length_append]; simp; omega)
    have hR : refR (acc ++ [ref1 (mkTk resB okV (c :: t) p n)]) (plex resB okV ((c :: t).drop (tokL resB okV (c :: t)).2) (p + (tokL resB okV (c :: t)).2) n) = refR acc (match plex resB okV ((c :: t).drop (tokL resB okV (c :: t)).2) (p + (tokL resB okV (c :: t)).2) n with
      | .error m => .error m
      | .ok l => .ok (mkTk resB okV (c :: t) p n :: l)) := by
      cases plex resB okV ((c :: t).drop (tokL resB okV (c :: t)).2) (p + (tokL resB okV (c :: t)).2) n with
      | error m => rfl
      | ok l => simp [refR]
    rw [hR] at hi
    generalize refR acc (match plex resB okV ((c :: t).drop (tokL resB okV (c :: t)).2) (p + (tokL resB okV (c :: t)).2) n with
      | .error m => .error m
      | .ok l => .ok (mkTk resB okV (c :: t) p n :: l)) = R at hi ⊢
    have hj : Ev (fun k => culetref13_Lex.j1 k (mk s) acc (n : Int) (p : Int) (c.toNat : Int) false) R := by
      refine Ev.step (f := fun k => (culetref13_length.f k (mk s) (p : Int)).bind (afterRef k (mk s) acc (n : Int) (p : Int))) (fun k => ?_) (Ev.bind (len_ev s hs p c t hl) ?_)
      · simp only [culetref13_Lex.j1]; rw [if_neg (by simp), if_neg (by have := hc.2.2; omega)]; rfl
      · have hown : ref1 (mkTk resB okV (c :: t) p n) = ⟨(((tokL resB okV (c :: t)).1 : Nat) : Int), if (tokL resB okV (c :: t)).1 = 4 then mk ((((s.drop p).take (tokL resB okV (c :: t)).2).drop 1).take ((tokL resB okV (c :: t)).2 - 2)) else mk ((s.drop p).take (tokL resB okV (c :: t)).2), (n : Int), (p : Int)⟩ := by
          unfold ref1 mkTk
          rw [hl]
          by_cases h4 : (tokL resB okV (c :: t)).1 = 4
          · obtain ⟨_, _, h42⟩ := tokL_four resB okV c t h4
            rw [if_pos h4, if_pos h4, h42, List.take_succ_cons, List.drop_succ_cons, List.drop_zero, List.tail_cons, List.take_take, show min (runB notQ t + 2 - 2) (runB notQ t + 1) = runB notQ t + 2 - 2 by omega]
          · rw [if_neg h4, if_neg h4]
        have hm4 : (tokL resB okV (c :: t)).1 = 4 → 2 ≤ (tokL resB okV (c :: t)).2 := fun h4 => by
          obtain ⟨_, _, h42⟩ := tokL_four resB okV c t h4
          rw [h42]; exact Nat.le_add_left _ _
        have hpm : p + (tokL resB okV (c :: t)).2 ≤ s.length := by omega
        have hne : (tokL resB okV (c :: t)).2 ≠ 0 := by omega
        rw [hown] at hi
        have ha' : acc.length ≤ 100000 := by omega
        clear hR hown
        exact Ev.congr (fun k => afterRef_ok k s acc p n _ _ hpm hs ha' hne hm4) hi
    refine Ev.step (fun k => ?_) hj
    have := hc.1; have := hc.2.1
    simp only [culetref13_Lex.l0]; rw [if_pos (by rw [mk_size]; omega), if_pos (by omega), h3, if_neg (by omega), if_neg (by omega), show ((c.toNat : Int) == 9) = false by rw [beq_eq_false_iff_ne]; omega]
theorem rlex_ev (s : Bs) (hs : s.length ≤ 20000) : Ev (fun k => culetref13_Lex.f k (mk s)) (refR [] (plex resB okV s 0 1)) := by
  have := rlex_l s (by omega) s 0 1 [] (by simp) (by omega) (by omega) (by simp)
  refine Ev.congr (fun k => ?_) this
  unfold culetref13_Lex.f; rw [if_neg (by rw [mk_size]; omega)]; rfl
theorem rlex_long (s : Bs) (hs : 20000 < s.length) : Ev (fun k => culetref13_Lex.f k (mk s)) ([], 0, 3) := by
  refine Ev.congr (f := fun _ => some ([], 0, 3)) (fun k => ?_) (Ev.now _)
  unfold culetref13_Lex.f; rw [if_pos (by rw [mk_size]; omega)]

/-! ### the comparison -/
theorem theirs_l (T : List Tk) (hT : T.length ≤ 100000) : ∀ (d i : Nat), i + d = T.length → Ev (fun k => culetlaw13_theirs.l0 k ((T.take i).map ref1) (T.map own1) ((T.map own1).length : Int) (i : Int)) (T.map ref1)
  | 0, i, h => by
    obtain rfl : i = T.length := by omega
    refine Ev.step (f := fun _ => some (T.map ref1)) (fun k => ?_) (Ev.now _)
    simp only [culetlaw13_theirs.l0]; rw [if_neg (by rw [List.length_map]; omega), List.take_length]
  | d + 1, i, h => by
    have hi : i < T.length := by omega
    have ih := theirs_l T hT d (i + 1) (by omega)
    have hrd : rd_T38 (T.map own1) (i : Int) = own1 T[i] := by
      unfold rd_T38; rw [Int.toNat_natCast, List.getD_eq_getElem?_getD, List.getElem?_map, List.getElem?_eq_getElem hi]; rfl
    have c3 : ((T.take i).map ref1).length < 3518437208883 := Nat.lt_of_le_of_lt (show ((T.take i).map ref1).length ≤ 100000 by rw [List.length_map, List.length_take]; omega) (by decide)
    refine Ev.step (fun k => ?_) ih
    simp only [culetlaw13_theirs.l0]
    rw [if_pos (by rw [List.length_map]; omega), if_pos (by omega), if_pos (by rw [List.length_map]; omega), if_pos c3, hrd, wrap_nat (by omega)]
    rw [List.take_add_one, List.getElem?_eq_getElem hi, List.map_append]; rfl
theorem theirs_ev (T : List Tk) (hT : T.length ≤ 100000) : Ev (fun k => culetlaw13_theirs.f k (T.map own1)) (T.map ref1) := by
  have := theirs_l T hT T.length 0 (by omega)
  simpa [culetlaw13_theirs.f] using this
theorem same_l (A : List S40) (hA : A.length ≤ 1000000) : ∀ (d i : Nat), i + d = A.length → Ev (fun k => culetref13_Same.l0 k A A (i : Int)) true
  | 0, i, h => by
    refine Ev.step (f := fun _ => some true) (fun k => ?_) (Ev.now _)
    simp only [culetref13_Same.l0]; rw [if_neg (by omega)]
  | d + 1, i, h => by
    refine Ev.step (fun k => ?_) (same_l A hA d (i + 1) (by omega))
    simp only [culetref13_Same.l0]
    rw [if_pos (by omega), if_pos (by omega), if_pos (by omega), wrap_nat (by omega)]
    simp
theorem same_ev (A : List S40) (hA : A.length ≤ 1000000) : Ev (fun k => culetref13_Same.f k A A) true := by
  refine Ev.congr (fun k => ?_) (same_l A hA A.length 0 (by omega))
  unfold culetref13_Same.f; rw [if_pos rfl]; rfl
/-- The whole comparison that the laws make. -/
theorem both_ev (s : Bs) : Ev (fun k => (lexer_Lex.f k (mk s)).bind fun bt180 => ((culetref13_Lex.f k (mk s)).bind fun bt185 => ((culetlaw13_theirs.f k bt180.1).bind fun t190 => ((culetref13_Same.f k t190 bt185.1).bind fun t193 => (if t193 = true then (if bt180.2.1 = bt185.2.1 then (some (bt180.2.2 == bt185.2.2)) else (some false)) else (some false)))))) true := by
  by_cases h : s.length ≤ 20000
  · refine Ev.bind (lex_ev s h) (Ev.bind (rlex_ev s h) ?_)
    cases hx : plex resB okV s 0 1 with
    | error m =>
      refine Ev.bind (theirs_ev [] (by simp)) (Ev.bind (same_ev [] (by simp)) ?_)
      refine Ev.congr (fun k => ?_) (Ev.now true)
      rw [if_pos rfl, if_pos (by rfl)]; simp [ownR, refR]
    | ok T =>
      have hlen : T.length ≤ 20000 := by
        have := plex_len resB okV s 0 1 T hx; omega
      refine Ev.bind (a := T.map ref1) ?_ (Ev.bind (a := true) ?_ ?_)
      · exact theirs_ev T (by omega)
      · exact same_ev (T.map ref1) (by rw [List.length_map]; omega)
      · refine Ev.congr (fun k => ?_) (Ev.now true)
        rw [if_pos rfl, if_pos (by rfl)]; simp [ownR, refR]
  · refine Ev.bind (lex_long s (by omega)) (Ev.bind (rlex_long s (by omega)) ?_)
    refine Ev.bind (theirs_ev [] (by simp)) (Ev.bind (same_ev [] (by simp)) ?_)
    refine Ev.congr (fun k => ?_) (Ev.now true)
    rw [if_pos rfl, if_pos rfl]; simp
end Go.Proofs.YthjmbagkomnpgaaDoor.Plain
