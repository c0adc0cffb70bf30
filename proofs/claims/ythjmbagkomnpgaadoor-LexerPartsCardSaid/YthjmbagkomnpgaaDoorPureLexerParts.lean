/- The tokens of two texts with a line feed in between are those of both: the plain law. -/
import Derived.Test.YthjmbagkomnpgaaDoorPlainAwake
import Derived.Test.YthjmbagkomnpgaaDoorPlainSame
import Derived.Test.YthjmbagkomnpgaaDoorLx36
namespace Go.Proofs.YthjmbagkomnpgaaDoor.Pure
open Go Go.RowKit Go.Proofs.YthjmbagkomnpgaaDoor.L Go.Proofs.YthjmbagkomnpgaaDoorW.PrintWords Go.Proofs.YthjmbagkomnpgaaDoorW.PrintLast Go.Proofs.YthjmbagkomnpgaaDoor.Plain

theorem rd_own' (T : List Tk) (i : Nat) (hi : i < T.length) : rd_T38 (T.map own1) (i : Int) = own1 T[i] := by
  unfold rd_T38; rw [Int.toNat_natCast, List.getD_eq_getElem?_getD, List.getElem?_map, List.getElem?_eq_getElem hi]; rfl
theorem want_l (s : Bs) (hs : s.length ≤ 400) (Y Z : List Tk) (n e : Nat) (he : e ≤ 100000) (X : List S40) (hX : X.length ≤ 100000) (hY : Y.length ≤ 100000) (hpos : ∀ t ∈ Y, t.pos ≤ 100000 ∧ t.line ≤ 100000) (hZ : Z.length ≤ 100000) (hall : X ++ (Y.map (shiftTk (s.length + 1) e)).map ref1 = Z.map ref1) :
    ∀ (d i : Nat), i + d = Y.length → Ev (fun k => culetlaw13_LexerParts.l1 k (mk s) (Z.map own1) 0 (e : Int) (X ++ ((Y.take i).map (shiftTk (s.length + 1) e)).map ref1) (Y.map own1) ((Y.map own1).length : Int) (i : Int)) true
  | 0, i, h => by
    obtain rfl : i = Y.length := by omega
    rw [List.take_length, hall]
    refine Ev.step (f := fun k => (culetlaw13_theirs.f k (Z.map own1)).bind fun t262 => ((culetref13_Same.f k t262 (Z.map ref1)).bind fun t265 => (some t265))) (fun k => ?_) (Ev.bind (theirs_ev Z hZ) (Ev.bind (same_ev _ (by rw [List.length_map]; omega)) (Ev.now _)))
    simp only [culetlaw13_LexerParts.l1]
    rw [if_neg (by rw [List.length_map]; omega), if_pos trivial]
  | d + 1, i, h => by
    have hi : i < Y.length := by omega
    have ih := want_l s hs Y Z n e he X hX hY hpos hZ hall d (i + 1) (by omega)
    have hrd := rd_own' Y i hi
    obtain ⟨p1, p2⟩ := hpos _ (List.getElem_mem hi)
    have htk : (Y.take (i + 1)) = Y.take i ++ [Y[i]] := by rw [List.take_add_one, List.getElem?_eq_getElem hi]; rfl
    rw [htk] at ih
    generalize Y[i] = t at *
    have c3 : (X ++ ((Y.take i).map (shiftTk (s.length + 1) e)).map ref1).length < 3518437208883 := by
      refine Nat.lt_of_le_of_lt (show _ ≤ 200000 from ?_) (by decide)
      rw [List.length_append, List.length_map, List.length_map, List.length_take]; omega
    have g1 : (i : Int) < ((Y.map own1).length : Int) := by rw [List.length_map]; omega
    have g0 : (0 : Int) ≤ (i : Int) := by omega
    have w1 : wrap64 ((t.line : Int) + (e : Int)) = ((t.line + e : Nat) : Int) := by rw [wrap_id (by omega) (by omega)]; omega
    have w2 : wrap64 (wrap64 ((t.pos : Int) + ((mk s).size : Int)) + 1) = ((t.pos + (s.length + 1) : Nat) : Int) := by
      rw [mk_size, wrap_id (i := (t.pos : Int) + (s.length : Int)) (by omega) (by omega), wrap_id (by omega) (by omega)]; omega
    have w3 : wrap64 ((i : Int) + 1) = ((i + 1 : Nat) : Int) := wrap_nat (by omega)
    have hel : (⟨(own1 t).f0, (own1 t).f1, wrap64 ((own1 t).f2 + (e : Int)), wrap64 (wrap64 ((own1 t).f3 + ((mk s).size : Int)) + 1)⟩ : S40) = ref1 (shiftTk (s.length + 1) e t) := by
      show (⟨(t.kind : Int), mk t.text, wrap64 ((t.line : Int) + (e : Int)), wrap64 (wrap64 ((t.pos : Int) + ((mk s).size : Int)) + 1)⟩ : S40) = _
      rw [w1, w2]; rfl
    clear w1 w2
    refine Ev.step (fun k => ?_) ih
    simp only [culetlaw13_LexerParts.l1]
    rw [if_pos g1, if_pos g0, if_pos g1, if_pos c3, hrd, hel, w3, List.map_append, List.map_append, List.append_assoc]; rfl
theorem count_l (s : Bs) (hs : s.length ≤ 400) (A B C : List S38) (r : Bool) : ∀ (d i n : Nat), i + d = s.length → n ≤ i + 1 →
    Ev (fun k => (culetlaw13_theirs.f k A).bind fun t254 => (culetlaw13_LexerParts.l1 k (mk s) C 0 ((n + (s.drop i).count 10 : Nat) : Int) t254 B (B.length : Int) 0)) r →
    Ev (fun k => culetlaw13_LexerParts.l0 k (mk s) A B C 0 (n : Int) ((mk s).size : Int) (i : Int)) r
  | 0, i, n, h, hn, hr => by
    obtain rfl : i = s.length := by omega
    rw [List.drop_length, List.count_nil, Nat.add_zero] at hr
    refine Ev.step (fun k => ?_) hr
    simp only [culetlaw13_LexerParts.l0]; rw [if_neg (by rw [mk_size]; omega)]
  | d + 1, i, n, h, hn, hr => by
    have hi : i < s.length := by omega
    have hb := bt_mk s i hi
    have g0 : (0 : Int) ≤ (i : Int) := by omega
    have g1 : (i : Int) < ((mk s).size : Int) := by rw [mk_size]; omega
    rw [List.drop_eq_getElem_cons hi] at hr
    have w1 : wrap64 ((i : Int) + 1) = ((i + 1 : Nat) : Int) := wrap_nat (by omega)
    have w2 : wrap64 ((n : Int) + 1) = ((n + 1 : Nat) : Int) := wrap_nat (by omega)
    generalize s[i] = c at hb hr
    by_cases h10 : c = 10
    · rw [h10, List.count_cons_self, show n + ((s.drop (i + 1)).count 10 + 1) = n + 1 + (s.drop (i + 1)).count 10 by rw [Nat.add_assoc n 1, Nat.add_comm 1]] at hr
      have ih := count_l s hs A B C r d (i + 1) (n + 1) (by clear w1 w2; omega) (by clear w1 w2; omega) hr
      refine Ev.step (fun k => ?_) ih
      simp only [culetlaw13_LexerParts.l0]; rw [if_pos g1, if_pos g0, if_pos g1, hb, if_pos (by rw [h10]; rfl), w1, w2]
    · rw [List.count_cons_of_ne (by simpa using h10)] at hr
      have ih := count_l s hs A B C r d (i + 1) n (by clear w1 w2; omega) (by clear w1 w2; omega) hr
      have h10' : ¬ (c.toNat : Int) = 10 := fun h => h10 (UInt8.toNat_inj.1 (Int.ofNat.inj h))
      refine Ev.step (fun k => ?_) ih
      simp only [culetlaw13_LexerParts.l0]; rw [if_pos g1, if_pos g0, if_pos g1, hb, if_neg h10', w1]
theorem toks_bound (l : Bs) (p n : Nat) : ∀ toks, plex resB okV l p n = .ok toks → ∀ t ∈ toks, t.pos ≤ p + l.length ∧ t.line ≤ n + l.length := by
  refine plex_ind resB okV (P := fun l p n => ∀ toks, plex resB okV l p n = .ok toks → ∀ t ∈ toks, t.pos ≤ p + l.length ∧ t.line ≤ n + l.length) ?_ ?_ ?_ ?_ ?_ ?_ l.length l p n (Nat.le_refl _)
  · intro p n toks hx t ht
    obtain rfl := Except.ok.inj hx
    simp at ht
  · intro t c p n hc ih toks hx u hu
    rw [plex_lf _ _ _ _ hc] at hx
    have := ih toks hx u hu; simp only [List.length_cons]; omega
  · intro t c p n hc ih toks hx u hu
    rw [plex_blank _ _ _ _ hc] at hx
    have := ih toks hx u hu; simp only [List.length_cons]; omega
  · intro t c p n hc ih toks hx u hu
    rw [plex_note _ _ _ _ hc] at hx
    have hr := runB_le notN t
    have := ih toks hx u hu; rw [List.length_drop] at this; simp only [List.length_cons]; omega
  · intro t c p n hc hk toks hx
    rw [plex_bad _ _ _ _ hc hk] at hx
    cases hx
  · intro t c p n hc hk ih toks hx u hu
    have hle := tokL_le resB okV (c :: t) hk
    rw [plex_tok _ _ _ _ hc hk] at hx
    generalize hy : plex resB okV ((c :: t).drop (tokL resB okV (c :: t)).2) (p + (tokL resB okV (c :: t)).2) n = y at hx
    cases y with
    | error m => cases hx
    | ok l' =>
      obtain rfl := Except.ok.inj hx
      rcases List.mem_cons.1 hu with rfl | hu
      · exact ⟨Nat.le_add_right _ _, Nat.le_add_right _ _⟩
      · have := ih l' hy u hu
        rw [List.length_drop] at this; omega
theorem err_bound (l : Bs) (p n : Nat) : ∀ m, plex resB okV l p n = .error m → m ≤ p + l.length := by
  refine plex_ind resB okV (P := fun l p n => ∀ m, plex resB okV l p n = .error m → m ≤ p + l.length) ?_ ?_ ?_ ?_ ?_ ?_ l.length l p n (Nat.le_refl _)
  · intro p n m hx
    cases hx
  · intro t c p n hc ih m hx
    rw [plex_lf _ _ _ _ hc] at hx
    have := ih m hx; simp only [List.length_cons]; omega
  · intro t c p n hc ih m hx
    rw [plex_blank _ _ _ _ hc] at hx
    have := ih m hx; simp only [List.length_cons]; omega
  · intro t c p n hc ih m hx
    rw [plex_note _ _ _ _ hc] at hx
    have hr := runB_le notN t
    have := ih m hx; rw [List.length_drop] at this; simp only [List.length_cons]; omega
  · intro t c p n hc hk m hx
    rw [plex_bad _ _ _ _ hc hk] at hx
    rw [← Except.error.inj hx]; exact Nat.le_add_right _ _
  · intro t c p n hc hk ih m hx
    have hle := tokL_le resB okV (c :: t) hk
    rw [plex_tok _ _ _ _ hc hk] at hx
    generalize hy : plex resB okV ((c :: t).drop (tokL resB okV (c :: t)).2) (p + (tokL resB okV (c :: t)).2) n = y at hx
    cases y with
    | error m' =>
      have := ih m' hy
      rw [List.length_drop] at this
      rw [← Except.error.inj hx]; omega
    | ok l' => cases hx

theorem LexerParts : culetlaw13_LexerParts.Pure := by
  intro a0 a1 _ _
  refine Ev.rounds ?_
  rw [mk_of a0, mk_of a1]
  generalize a0.data.toList = s
  generalize a1.data.toList = b
  have yes : Ev (fun k => culetlaw13_LexerParts.j0 k (mk s) (mk b) true) true := Ev.step (f := fun _ => some true) (fun k => by simp only [culetlaw13_LexerParts.j0]; rw [if_pos trivial]) (Ev.now _)
  refine Ev.congr (fun k => by unfold culetlaw13_LexerParts.f; rfl) (Ev.bind awake_ev ?_)
  by_cases h1 : s.length ≤ 200
  · by_cases h2 : b.length ≤ 200
    · refine Ev.congr (f := fun k => culetlaw13_LexerParts.j0 k (mk s) (mk b) false) (fun k => by rw [if_pos rfl, if_neg (by rw [mk_size]; omega), decide_eq_false (by rw [mk_size]; omega)]) ?_
      have b1 : (mk s).size + 1 ≤ 9223372036854775807 := by rw [mk_size]; exact Nat.le_trans (show s.length + 1 ≤ 201 by omega) (by decide)
      have h10 : (⟨#[10]⟩ : ByteArray) = mk [10] := rfl
      have hcat : (mk s ++ (⟨#[10]⟩ : ByteArray)) ++ mk b = mk (s ++ 10 :: b) := by rw [h10, mk_append, mk_append]; simp
      have b2 : (mk s ++ (⟨#[10]⟩ : ByteArray)).size + (mk b).size ≤ 9223372036854775807 := by
        rw [h10, mk_append, mk_size, mk_size]
        exact Nat.le_trans (show (s ++ [10]).length + b.length ≤ 1000 by rw [List.length_append]; simp; omega) (by decide)
      have hall := plex_parts resB okV b s 0 1
      rw [show 0 + s.length + 1 = 0 + (s.length + 1) by omega, show 1 + s.count 10 + 1 = 1 + (s.count 10 + 1) by omega, plex_shift] at hall
      have hlex := lex_ev (s ++ 10 :: b) (by rw [List.length_append, List.length_cons]; omega)
      rw [hall] at hlex
      refine Ev.step (f := fun k => (lexer_Lex.f k (mk s)).bind fun bt239 => ((lexer_Lex.f k (mk b)).bind fun bt244 => ((lexer_Lex.f k (mk (s ++ 10 :: b))).bind fun bt249 => (if bt239.2.2 = 0 then (if bt244.2.2 = 0 then (culetlaw13_LexerParts.l0 k (mk s) bt239.1 bt244.1 bt249.1 bt249.2.2 1 ((mk s).size : Int) 0) else (if bt249.2.2 = bt244.2.2 then (if bt249.2.1 = (wrap64 ((wrap64 (((mk s).size : Int) + 1)) + bt244.2.1)) then (some ((bt249.1.length : Int) == 0)) else (some false)) else (some false))) else (if bt249.2.2 = bt239.2.2 then (if bt249.2.1 = bt239.2.1 then (some ((bt249.1.length : Int) == 0)) else (some false)) else (some false)))))) (fun k => ?_) (Ev.bind (lex_ev s (by omega)) (Ev.bind (lex_ev b (by omega)) (Ev.bind hlex ?_)))
      · simp only [culetlaw13_LexerParts.j0]
        rw [if_neg (by simp)]
        simp only [if_pos b1, if_pos b2, hcat]
      · clear hlex hall
        cases hx : plex resB okV s 0 1 with
        | error m =>
          refine Ev.congr (fun k => ?_) (Ev.now true)
          rw [if_neg (by simp [ownR]), if_pos (by simp [ownR, joinR]), if_pos (by simp [ownR, joinR])]; simp [ownR, joinR]
        | ok X =>
          cases hy : plex resB okV b 0 1 with
          | error m =>
            have w : wrap64 (wrap64 (((mk s).size : Int) + 1) + (m : Int)) = ((m + (s.length + 1) : Nat) : Int) := by
              have hm : m ≤ b.length := by
                have := err_bound b 0 1 m hy; omega
              rw [mk_size, wrap_id (i := (s.length : Int) + 1) (by omega) (by omega), wrap_id (by omega) (by omega)]; omega
            refine Ev.congr (fun k => ?_) (Ev.now true)
            rw [if_pos (by simp [ownR]), if_neg (by simp [ownR]), if_pos (by simp [ownR, joinR, shiftR]), if_pos (by
              show ((m + (s.length + 1) : Nat) : Int) = wrap64 (wrap64 (((mk s).size : Int) + 1) + (m : Int))
              rw [w])]
            simp [ownR, joinR, shiftR]
          | ok Y =>
            have lx := plex_len resB okV s 0 1 X hx
            have ly := plex_len resB okV b 0 1 Y hy
            have hb := toks_bound b 0 1 Y hy
            have hcnt := List.count_le_length (a := (10 : UInt8)) (l := s)
            refine Ev.congr (f := fun k => culetlaw13_LexerParts.l0 k (mk s) (X.map own1) (Y.map own1) ((X ++ Y.map (shiftTk (s.length + 1) (s.count 10 + 1))).map own1) 0 ((1 : Nat) : Int) ((mk s).size : Int) ((0 : Nat) : Int)) (fun k => ?_) (count_l s (by omega) _ _ _ true s.length 0 1 (by omega) (by omega) (Ev.bind (theirs_ev X (by omega)) ?_))
            · rw [if_pos (by simp [ownR]), if_pos (by simp [ownR])]
              simp only [ownR, joinR, shiftR, List.nil_append]; rfl
            · have := want_l s (by omega) Y (X ++ Y.map (shiftTk (s.length + 1) (s.count 10 + 1))) 0 (s.count 10 + 1) (by omega) (X.map ref1) (by rw [List.length_map]; omega) (by omega) (fun t ht => by have := hb t ht; omega) (by rw [List.length_append, List.length_map]; omega) (by rw [List.map_append]) Y.length 0 (by omega)
              rw [List.drop_zero, Nat.add_comm 1]
              simpa using this
    · refine Ev.congr (fun k => by rw [if_pos rfl, if_neg (by rw [mk_size]; omega), decide_eq_true (by rw [mk_size]; omega)]) yes
  · exact Ev.congr (fun k => by rw [if_pos rfl, if_pos (by rw [mk_size]; omega)]) yes

end Go.Proofs.YthjmbagkomnpgaaDoor.Pure
