/- ContrastMotions, on lists alone: a map not called unsymmetric under a quarter turn is not called so under a half turn if all squares are known; a map beside its mirror image is not called unsymmetric under the mirror. -/
import Derived.Test.YtalhpnfapagamaaPlain
namespace Go.Proofs.Ytalhpnfapagamaa.Pure
open Go.RowKit Go.Proofs.Ytalhpnfapagamaa.C Go.Proofs.Ytalhpnfapagamaa.Plain Go.Proofs.YtalhpnfapagamaaW.PrintWords Go.Proofs.YtalhpnfapagamaaW.PrintLast

/-! ### whole -/
def okB (b : Bool) (x : Int) : Bool := (x != 0) && (!b || x != 3)
theorem whole_l1 (m : List (List Int)) (b : Bool) (i : Nat) (hi : i < m.length) (hm : m.length ≤ 20) (hrow : m[i].length ≤ 20) (rest : Bool) (hr : Ev (fun k => culetlaw36_whole.l0 k m b ((i + 1 : Nat) : Int)) rest) :
    ∀ (d j : Nat), j + d = m[i].length → Ev (fun k => culetlaw36_whole.l1 k m b i j) (((m[i].drop j).all (okB b)) && rest)
  | 0, j, h => by
    obtain rfl : j = m[i].length := by omega
    refine Ev.step (f := fun k => culetlaw36_whole.l0 k m b ((i + 1 : Nat) : Int)) (fun k => ?_) (by simpa using hr)
    simp only [culetlaw36_whole.l1]; rw [if_pos (by omega), if_pos (by omega), row_at hi, if_neg (by omega), wrap_nat (by omega)]
  | d + 1, j, h => by
    have hj : j < m[i].length := by omega
    have e : m[i].drop j = m[i][j] :: m[i].drop (j + 1) := List.drop_eq_getElem_cons hj
    have hx : rd m[i] j = m[i][j] := by rw [rd_nat]; simp [hj]
    have ih := whole_l1 m b i hi hm hrow rest hr d (j + 1) (by omega)
    by_cases h0 : m[i][j] = 0
    · refine Ev.step (f := fun _ => some false) (fun k => ?_) (by rw [e, List.all_cons, show okB b m[i][j] = false by simp [okB, h0], Bool.false_and, Bool.false_and]; exact Ev.now _)
      simp only [culetlaw36_whole.l1]; rw [if_pos (by omega), if_pos (by omega), row_at hi, if_pos (by omega), if_pos (by omega), hx, if_pos h0]
    · cases b with
      | false =>
        refine Ev.step (f := fun k => culetlaw36_whole.l1 k m false i ((j + 1 : Nat) : Int)) (fun k => ?_) (by rw [e, List.all_cons, show okB false m[i][j] = true by simp [okB, h0], Bool.true_and]; exact ih)
        simp only [culetlaw36_whole.l1]; rw [if_pos (by omega), if_pos (by omega), row_at hi, if_pos (by omega), if_pos (by omega), hx, if_neg h0, if_neg (by simp), wrap_nat (by omega)]
      | true =>
        by_cases h3 : m[i][j] = 3
        · refine Ev.step (f := fun _ => some false) (fun k => ?_) (by rw [e, List.all_cons, show okB true m[i][j] = false by simp [okB, h3], Bool.false_and, Bool.false_and]; exact Ev.now _)
          simp only [culetlaw36_whole.l1]; rw [if_pos (by omega), if_pos (by omega), row_at hi, if_pos (by omega), if_pos (by omega), hx, if_neg h0, if_pos trivial, if_pos h3]
        · refine Ev.step (f := fun k => culetlaw36_whole.l1 k m true i ((j + 1 : Nat) : Int)) (fun k => ?_) (by rw [e, List.all_cons, show okB true m[i][j] = true by simp [okB, h0, h3], Bool.true_and]; exact ih)
          simp only [culetlaw36_whole.l1]; rw [if_pos (by omega), if_pos (by omega), row_at hi, if_pos (by omega), if_pos (by omega), hx, if_neg h0, if_pos trivial, if_neg h3, wrap_nat (by omega)]
theorem whole_l0 (m : List (List Int)) (b : Bool) (hm : m.length ≤ 20) (hrow : ∀ row ∈ m, row.length ≤ 20) : ∀ (d i : Nat), i + d = m.length → Ev (fun k => culetlaw36_whole.l0 k m b i) ((m.drop i).all (fun row => row.all (okB b)))
  | 0, i, h => by
    obtain rfl : i = m.length := by omega
    refine Ev.step (f := fun _ => some true) (fun k => ?_) (by simpa using Ev.now true)
    simp only [culetlaw36_whole.l0]; rw [if_neg (by omega)]
  | d + 1, i, h => by
    have hi : i < m.length := by omega
    have e : m.drop i = m[i] :: m.drop (i + 1) := List.drop_eq_getElem_cons hi
    rw [e, List.all_cons]
    refine Ev.step (f := fun k => culetlaw36_whole.l1 k m b i ((0 : Nat) : Int)) (fun k => ?_) ?_
    · simp only [culetlaw36_whole.l0]; rw [if_pos (by omega)]; rfl
    · have := whole_l1 m b i hi hm (hrow _ (List.getElem_mem hi)) _ (whole_l0 m b hm hrow d (i + 1) (by omega)) m[i].length 0 (by omega)
      simpa using this
theorem whole_ev (m : List (List Int)) (b : Bool) (hm : m.length ≤ 20) (hrow : ∀ row ∈ m, row.length ≤ 20) : Ev (fun k => culetlaw36_whole.f k m b) (m.all (fun row => row.all (okB b))) := by
  have := whole_l0 m b hm hrow m.length 0 (by omega)
  simpa [culetlaw36_whole.f] using this

/-! ### a map beside its mirror image -/
def both (m : List (List Int)) : List (List Int) := m.map fun row => row ++ row.reverse
theorem mo_l1 (m : List (List Int)) (acc : List (List Int)) (i : Nat) (hi : i < m.length) (hm : m.length ≤ 16) (hrow : m[i].length ≤ 16) (hacc : acc.length ≤ 16) (r : Bool)
    (hr : Ev (fun k => culetlaw36_ContrastMotions.l0 k m (acc ++ [m[i] ++ m[i].reverse]) ((i + 1 : Nat) : Int)) r) :
    ∀ (d : Nat), d ≤ m[i].length → Ev (fun k => culetlaw36_ContrastMotions.l1 k m acc i (m[i] ++ (m[i].drop d).reverse) ((d : Int) - 1)) r
  | 0, _ => by
    refine Ev.step (f := fun k => culetlaw36_ContrastMotions.l0 k m (acc ++ [m[i] ++ m[i].reverse]) ((i + 1 : Nat) : Int)) (fun k => ?_) hr
    simp only [culetlaw36_ContrastMotions.l1]; rw [if_neg (by omega), if_pos (by omega), wrap_nat (by omega), List.drop_zero]
  | d + 1, h => by
    have hd : d < m[i].length := by omega
    have e : m[i].drop d = m[i][d] :: m[i].drop (d + 1) := List.drop_eq_getElem_cons hd
    have hx : rd m[i] d = m[i][d] := by rw [rd_nat]; simp [hd]
    have e0 : ((d + 1 : Nat) : Int) - 1 = (d : Int) := by omega
    have hl : (m[i] ++ (m[i].drop (d + 1)).reverse).length ≤ 40 := by simp; omega
    refine Ev.step (f := fun k => culetlaw36_ContrastMotions.l1 k m acc i (m[i] ++ (m[i].drop d).reverse) ((d : Int) - 1)) (fun k => ?_) (mo_l1 m acc i hi hm hrow hacc r hr d (by omega))
    rw [e0]
    simp only [culetlaw36_ContrastMotions.l1]
    rw [if_pos (by omega), if_pos (by omega), if_pos (by omega), if_pos (by omega), row_at hi, if_pos (by omega), if_pos (by omega), hx, e, List.reverse_cons, ← List.append_assoc, show wrap64 ((d : Int) - 1) = (d : Int) - 1 by unfold wrap64; omega]
theorem mo_l0 (m : List (List Int)) (hm : m.length ≤ 16) (hrow : ∀ row ∈ m, row.length ≤ 16 ∧ 1 ≤ row.length) (r : Bool) (hr : Ev (fun k => (contrast_Symmetric.f k (both m)).bind fun bt160 => (if bt160.2.2.2 = 0 then (some bt160.2.2.1) else (some false))) r) :
    ∀ (d i : Nat), i + d = m.length → Ev (fun k => culetlaw36_ContrastMotions.l0 k m ((m.take i).map fun row => row ++ row.reverse) i) r
  | 0, i, h => by
    obtain rfl : i = m.length := by omega
    refine Ev.step (f := fun k => (contrast_Symmetric.f k (both m)).bind fun bt160 => (if bt160.2.2.2 = 0 then (some bt160.2.2.1) else (some false))) (fun k => ?_) hr
    simp only [culetlaw36_ContrastMotions.l0]; rw [if_neg (by omega), List.take_length]; rfl
  | d + 1, i, h => by
    have hi : i < m.length := by omega
    have hb := hrow _ (List.getElem_mem hi)
    have ih := mo_l0 m hm hrow r hr d (i + 1) (by omega)
    have e : (m.take (i + 1)).map (fun row => row ++ row.reverse) = (m.take i).map (fun row => row ++ row.reverse) ++ [m[i] ++ m[i].reverse] := by
      rw [List.take_succ_eq_append_getElem hi, List.map_append]; rfl
    rw [e] at ih
    have h1 := mo_l1 m ((m.take i).map fun row => row ++ row.reverse) i hi hm hb.1 (by simp; omega) r ih m[i].length (Nat.le_refl _)
    refine Ev.step (f := fun k => culetlaw36_ContrastMotions.l1 k m ((m.take i).map fun row => row ++ row.reverse) i (m[i] ++ (m[i].drop m[i].length).reverse) ((m[i].length : Int) - 1)) (fun k => ?_) h1
    simp only [culetlaw36_ContrastMotions.l0]
    rw [if_pos (by omega), Option.bind_some, if_pos (by omega), row_at hi, if_pos (by simp; omega), List.drop_length, List.nil_append, List.reverse_nil, List.append_nil, show wrap64 ((m[i].length : Int) - 1) = (m[i].length : Int) - 1 by unfold wrap64; omega]

theorem diff_same (x : Int) : diffB x x = false := by
  unfold diffB
  by_cases h1 : x = 1 <;> by_cases h2 : x = 2 <;> simp_all
theorem rowB_both {m : List (List Int)} (h : validB m = true) (hc : (rd_L1 m 0).length ≤ 8) : validB (both m) = true := by
  obtain ⟨h1, h2, h3, h4, _⟩ := validB_rows h
  unfold validB at h ⊢
  simp only [Bool.and_eq_true, decide_eq_true_eq, List.all_eq_true] at h ⊢
  have e0 : rd_L1 (both m) 0 = rd_L1 m 0 ++ (rd_L1 m 0).reverse := by
    have a := row_at (m := both m) (i := 0) (by simp [both]; omega)
    have b := row_at (m := m) (i := 0) (by omega)
    have a' : rd_L1 (both m) 0 = (both m)[0]'(by simp [both]; omega) := a
    have b' : rd_L1 m 0 = m[0] := b
    rw [a', b']; simp [both]
  refine ⟨⟨by simpa [both] using h1, by simpa [both] using h2⟩, fun row hr => ?_⟩
  obtain ⟨r0, hr0, rfl⟩ := List.mem_map.1 hr
  have := h.2 r0 hr0
  rw [e0]
  refine ⟨⟨⟨by simp; omega, by simp; omega⟩, by simp; omega⟩, fun x hx => ?_⟩
  rw [List.mem_append, List.mem_reverse] at hx
  exact this.2 x (hx.elim id id)
theorem both_mirror {m : List (List Int)} (h : validB m = true) (hc : (rd_L1 m 0).length ≤ 8) : ((sqAll (both m)).foldl (symStep (both m)) (symStart (both m))).2.2 = true := by
  rw [sym_fold]
  simp only [symStart, Bool.true_and, List.all_eq_true]
  rintro ⟨⟨i, j⟩, hi, hj⟩ _
  have hv := validB_rows (rowB_both h hc)
  dsimp only at hi hj ⊢
  have hci := (hv.2.2.2.2 i hi).1
  have him : i < m.length := by simpa [both] using hi
  have er : rd_L1 (both m) i = m[i] ++ m[i].reverse := by rw [row_at hi]; simp [both]
  have key : at2 (both m) i (((rd_L1 (both m) 0).length : Int) - 1 - j) = at2 (both m) i j := by
    unfold at2
    rw [← hci, show (((rd_L1 (both m) i).length : Int) - 1 - j) = (((rd_L1 (both m) i).length - 1 - j : Nat) : Int) by omega, rd_nat, rd_nat]
    have hp : (rd_L1 (both m) i).reverse = rd_L1 (both m) i := by rw [er]; simp
    have hlt : (rd_L1 (both m) i).length - 1 - j < (rd_L1 (both m) i).length := by omega
    rw [List.getD_eq_getElem?_getD, List.getD_eq_getElem?_getD]
    congr 1
    conv => rhs; rw [← hp]
    rw [List.getElem?_reverse hj]
  rw [key, diff_same]
  rfl

theorem known_half {m : List (List Int)} (h : validB m = true) (hq : ((sqAll m).foldl (symStep m) (symStart m)).1 = true) (hw : m.all (fun row => row.all (okB true)) = true) : ((sqAll m).foldl (symStep m) (symStart m)).2.1 = true := by
  have hv := validB_rows h
  rw [sym_fold] at hq ⊢
  simp only [symStart, Bool.and_eq_true, Bool.true_and, List.all_eq_true] at hq ⊢
  have hrc : m.length = (rd_L1 m 0).length := by have := eq_of_beq hq.1; omega
  have val : ∀ i j : Nat, i < m.length → j < m.length → at2 m i j = 1 ∨ at2 m i j = 2 := by
    intro i j hi hj
    have h1 := (hv.2.2.2.2 i hi).2 j (by omega)
    have hl := (hv.2.2.2.2 i hi).1
    rw [List.all_eq_true] at hw
    have h2 := hw (rd_L1 m i) (by rw [row_at hi]; exact List.getElem_mem hi)
    rw [List.all_eq_true] at h2
    have h3 := h2 (rd (rd_L1 m i) j) (by rw [rd_nat, List.getD_eq_getElem?_getD, List.getElem?_eq_getElem (by omega)]; exact List.getElem_mem (by omega))
    simp only [okB, Bool.not_true, Bool.false_or, Bool.and_eq_true, bne_iff_ne, ne_eq] at h3
    unfold at2
    omega
  have turn : ∀ i j : Nat, i < m.length → j < m.length → at2 m i j = at2 m j ((m.length : Int) - 1 - i) := by
    intro i j hi hj
    have hl := (hv.2.2.2.2 i hi).1
    have h1 := hq.2 ⟨(i, j), hi, by show j < (rd_L1 m i).length; omega⟩ (mem_sqAll m _)
    have h2 := val i j hi hj
    have h3 := val j (m.length - 1 - i) hj (by omega)
    rw [show ((m.length - 1 - i : Nat) : Int) = (m.length : Int) - 1 - i by omega] at h3
    dsimp only at h1
    rcases h2 with h2 | h2 <;> rcases h3 with h3 | h3 <;> rw [h2, h3] at h1 ⊢ <;> first | rfl | (revert h1; decide)
  rintro ⟨⟨i, j⟩, hi, hj⟩ _
  dsimp only at hi hj ⊢
  have hl := (hv.2.2.2.2 i hi).1
  have hj' : j < m.length := by omega
  have t1 := turn i j hi hj'
  have t2 := turn j (m.length - 1 - i) hj' (by omega)
  rw [show ((m.length - 1 - i : Nat) : Int) = (m.length : Int) - 1 - i by omega] at t2
  rw [← hrc, ← t2, ← t1, diff_same]
  rfl

theorem motions_j1 (m : List (List Int)) (h : validB m = true) : Ev (fun k => culetlaw36_ContrastMotions.j1 k m false) true := by
  obtain ⟨h1, h2, h3, h4, h5⟩ := validB_rows h
  by_cases hc : (rd_L1 m 0).length > 8
  · refine Ev.step (f := fun _ => some true) (fun k => ?_) (Ev.now true)
    simp only [culetlaw36_ContrastMotions.j1]; rw [if_neg (by simp), if_pos (by omega), if_pos (by omega)]
  · refine Ev.step (f := fun k => culetlaw36_ContrastMotions.l0 k m ((m.take 0).map fun row => row ++ row.reverse) ((0 : Nat) : Int)) (fun k => ?_) ?_
    · simp only [culetlaw36_ContrastMotions.j1]; rw [if_neg (by simp), if_pos (by omega), if_neg (by omega)]; rfl
    · refine mo_l0 m h2 (fun row hr => ?_) true ?_ m.length 0 (by omega)
      · obtain ⟨i, hi, rfl⟩ := List.mem_iff_getElem.1 hr
        have := (h5 i hi).1
        rw [row_at hi] at this
        omega
      · refine Ev.bind (sym_ev (both m)) ?_
        rw [if_pos (rowB_both h (by omega)), both_mirror h (by omega)]
        simpa using Ev.now true

theorem ContrastMotions (m : List (List Int)) (hm : m.length ≤ 9223372036854775807 ∧ ∀ row ∈ m, row.length ≤ 9223372036854775807 ∧ ∀ x ∈ row, (Lit.int .i64 x).wf = true) : ∃ k, culetlaw36_ContrastMotions.f k m = some true := by
  apply Ev.rounds (g := fun k => culetlaw36_ContrastMotions.f k m)
  refine Ev.congr (fun k => by unfold culetlaw36_ContrastMotions.f; rfl) (Ev.bind awake_ok ?_)
  simp only [if_true]
  refine Ev.bind (few_ev m [] hm.1 (by simp)) ?_
  have done : Ev (fun k => culetlaw36_ContrastMotions.j0 k m true) true := Ev.step (f := fun _ => some true) (fun k => by simp only [culetlaw36_ContrastMotions.j0, if_true]) (Ev.now true)
  by_cases hf : fewB m = true
  · rw [hf, show fewB [] = true from rfl]
    simp only [Bool.and_self, if_true, culetlaw36_theirs.f, Option.bind_some]
    refine Ev.bind (ref_valid_ev m) ?_
    cases hv : validB m with
    | false => simpa using done
    | true =>
      obtain ⟨h1, h2, h3, h4, h5⟩ := validB_rows hv
      refine Ev.step (f := fun k => (contrast_Symmetric.f k m).bind fun bt154 => (if bt154.2.2.2 = 0 then (if bt154.1 = true then (if bt154.2.1 = true then (culetlaw36_ContrastMotions.j1 k m false) else ((culetlaw36_whole.f k m true).bind fun t158 => (culetlaw36_ContrastMotions.j1 k m t158))) else (culetlaw36_ContrastMotions.j1 k m false)) else (culetlaw36_ContrastMotions.j1 k m true))) (fun k => ?_) ?_
      · simp only [culetlaw36_ContrastMotions.j0]; rw [if_neg (by simp)]
      · refine Ev.bind (sym_ev m) ?_
        rw [if_pos hv]
        simp only [if_true]
        cases hq : ((sqAll m).foldl (symStep m) (symStart m)).1 with
        | false => simpa using motions_j1 m hv
        | true =>
          cases hh : ((sqAll m).foldl (symStep m) (symStart m)).2.1 with
          | true => simpa using motions_j1 m hv
          | false =>
            simp only [if_true, Bool.false_eq_true, if_false]
            have hb := few_bounds hf
            refine Ev.bind (whole_ev m true hb.1 hb.2) ?_
            have hw : m.all (fun row => row.all (okB true)) = false := by
              cases hw : m.all (fun row => row.all (okB true)) with
              | false => rfl
              | true => rw [known_half hv hq hw] at hh; cases hh
            rw [hw]
            exact motions_j1 m hv
  · simp only [Bool.not_eq_true] at hf
    rw [hf]
    simpa using done

end Go.Proofs.Ytalhpnfapagamaa.Pure
