/- The plain side of the laws on contrast: what the printed functions come to, on lists alone. -/
import Derived.Test.YtalhpnfapagamaaF4
import Derived.Test.YtalhpnfapagamaaF5
namespace Go.Proofs.Ytalhpnfapagamaa.Plain
open Go.RowKit Go.Proofs.Ytalhpnfapagamaa.C Go.Proofs.YtalhpnfapagamaaW.PrintWords Go.Proofs.YtalhpnfapagamaaW.PrintLast

theorem wrap_nat {i : Nat} (h : i ≤ 9223372036854775806) : wrap64 ((i : Int) + 1) = ((i + 1 : Nat) : Int) := by unfold wrap64; omega
theorem row_at {m : List (List Int)} {i : Nat} (hi : i < m.length) : rd_L1 m i = m[i] := by rw [rd_L1_nat]; simp [hi]

theorem awake_ok : Ev (fun k => culetlaw36_awake.f k) true := Ev.of (fun k => culetlaw36_awake.mono k) (k := 40) (by decide +kernel)

def fewB (m : List (List Int)) : Bool := m.all (fun row => decide (row.length ≤ 20)) && decide (m.length ≤ 20)
theorem few_l0 (m : List (List Int)) (hm : m.length ≤ 9223372036854775807) : ∀ (d i : Nat), i + d = m.length → Ev (fun k => culetref35_Few.l0 k m i) ((m.drop i).all (fun row => decide (row.length ≤ 20)) && decide (m.length ≤ 20))
  | 0, i, h => by
    obtain rfl : i = m.length := by omega
    refine Ev.step (f := fun _ => some (decide (m.length ≤ 20))) (fun k => ?_) (by simpa using Ev.now _)
    simp only [culetref35_Few.l0]; rw [if_neg (by omega)]; congr 1; exact decide_eq_decide.2 (by omega)
  | d + 1, i, h => by
    have hi : i < m.length := by omega
    have e : m.drop i = m[i] :: m.drop (i + 1) := List.drop_eq_getElem_cons hi
    rw [e, List.all_cons]
    by_cases h1 : m[i].length ≤ 20
    · rw [decide_eq_true h1, Bool.true_and]
      refine Ev.step (f := fun k => culetref35_Few.l0 k m ((i + 1 : Nat) : Int)) (fun k => ?_) (few_l0 m hm d (i + 1) (by omega))
      simp only [culetref35_Few.l0]; rw [if_pos (by omega), if_pos (by omega), row_at hi, if_neg (by omega), wrap_nat (by omega)]
    · rw [decide_eq_false h1, Bool.false_and, Bool.false_and]
      refine Ev.step (f := fun _ => some false) (fun k => ?_) (Ev.now _)
      simp only [culetref35_Few.l0]; rw [if_pos (by omega), if_pos (by omega), row_at hi, if_pos (by omega)]
theorem few1_ev (m : List (List Int)) (hm : m.length ≤ 9223372036854775807) : Ev (fun k => culetref35_Few.f k m) (fewB m) := by
  have := few_l0 m hm m.length 0 (by omega)
  simpa [culetref35_Few.f, fewB] using this
theorem few_ev (a b : List (List Int)) (ha : a.length ≤ 9223372036854775807) (hb : b.length ≤ 9223372036854775807) : Ev (fun k => culetlaw36_few.f k a b) (fewB a && fewB b) := by
  refine Ev.congr (f := fun k => (culetref35_Few.f k a).bind fun t => if t = true then culetref35_Few.f k b else some false) (fun k => ?_) ?_
  · unfold culetlaw36_few.f culetlaw36_theirs.f
    simp
  · refine Ev.bind (few1_ev a ha) ?_
    cases fewB a with
    | true => simpa using few1_ev b hb
    | false => simpa using Ev.now false
theorem few_bounds {m : List (List Int)} (h : fewB m = true) : m.length ≤ 20 ∧ ∀ row ∈ m, row.length ≤ 20 := by
  simp only [fewB, Bool.and_eq_true, List.all_eq_true, decide_eq_true_eq] at h
  exact ⟨h.2, h.1⟩

/-! ### the reference's Valid -/
theorem rv_l1 (m : List (List Int)) (i : Nat) (hi : i < m.length) (hrow : m[i].length ≤ 16) (hm : m.length ≤ 16) (rest : Bool) (hr : Ev (fun k => culetref35_Valid.l0 k m ((i + 1 : Nat) : Int)) rest) :
    ∀ (d j : Nat), j + d = m[i].length → Ev (fun k => culetref35_Valid.l1 k m i j) (((m[i].drop j).all fun x => decide (0 ≤ x) && decide (x ≤ 3)) && rest)
  | 0, j, h => by
    obtain rfl : j = m[i].length := by omega
    refine Ev.step (f := fun k => culetref35_Valid.l0 k m ((i + 1 : Nat) : Int)) (fun k => ?_) (by simpa using hr)
    simp only [culetref35_Valid.l1]; rw [if_pos (by omega), if_pos (by omega), row_at hi, if_neg (by omega), wrap_nat (by omega)]
  | d + 1, j, h => by
    have hj : j < m[i].length := by omega
    have e : m[i].drop j = m[i][j] :: m[i].drop (j + 1) := List.drop_eq_getElem_cons hj
    have hx : rd m[i] j = m[i][j] := by rw [rd_nat]; simp [hj]
    by_cases h1 : m[i][j] < 0
    · refine Ev.step (f := fun _ => some false) (fun k => ?_) (by rw [e, List.all_cons, decide_eq_false (show ¬ 0 ≤ m[i][j] by omega), Bool.false_and, Bool.false_and, Bool.false_and]; exact Ev.now _)
      simp only [culetref35_Valid.l1]; rw [if_pos (by omega), if_pos (by omega), row_at hi, if_pos (by omega), if_pos (by omega), hx, if_pos h1]
    · by_cases h2 : m[i][j] > 3
      · refine Ev.step (f := fun _ => some false) (fun k => ?_) (by rw [e, List.all_cons, decide_eq_false (show ¬ m[i][j] ≤ 3 by omega), Bool.and_false, Bool.false_and, Bool.false_and]; exact Ev.now _)
        simp only [culetref35_Valid.l1]; rw [if_pos (by omega), if_pos (by omega), row_at hi, if_pos (by omega), if_pos (by omega), hx, if_neg h1, if_pos h2]
      · refine Ev.step (f := fun k => culetref35_Valid.l1 k m i ((j + 1 : Nat) : Int)) (fun k => ?_) (by rw [e, List.all_cons, decide_eq_true (show 0 ≤ m[i][j] by omega), decide_eq_true (show m[i][j] ≤ 3 by omega), Bool.true_and, Bool.true_and]; exact rv_l1 m i hi hrow hm rest hr d (j + 1) (by omega))
        simp only [culetref35_Valid.l1]; rw [if_pos (by omega), if_pos (by omega), row_at hi, if_pos (by omega), if_pos (by omega), hx, if_neg h1, if_neg h2, wrap_nat (by omega)]

theorem rv_l0 (m : List (List Int)) (hm : m.length ≤ 16) : ∀ (d i : Nat), i + d = m.length → Ev (fun k => culetref35_Valid.l0 k m i) ((m.drop i).all (rowB m))
  | 0, i, h => by
    obtain rfl : i = m.length := by omega
    refine Ev.step (f := fun _ => some true) (fun k => ?_) (by simpa using Ev.now true)
    simp only [culetref35_Valid.l0]; rw [if_neg (by omega)]
  | d + 1, i, h => by
    have hi : i < m.length := by omega
    have e : m.drop i = m[i] :: m.drop (i + 1) := List.drop_eq_getElem_cons hi
    have ih := rv_l0 m hm d (i + 1) (by omega)
    rw [e, List.all_cons]
    have j2t : Ev (fun k => culetref35_Valid.j2 k m i true) false := Ev.step (f := fun _ => some false) (fun k => by simp only [culetref35_Valid.j2, if_true]) (Ev.now _)
    by_cases h2 : m[i].length < 1
    · refine Ev.step (f := fun k => culetref35_Valid.j2 k m i true) (fun k => ?_) (by simpa [rowB, show ¬ 1 ≤ m[i].length by omega] using j2t)
      simp only [culetref35_Valid.l0]; rw [if_pos (by omega), if_pos (by omega), row_at hi, if_pos (by omega)]
    · by_cases h3 : m[i].length > 16
      · refine Ev.step (f := fun k => culetref35_Valid.j2 k m i true) (fun k => ?_) (by simpa [rowB, show ¬ m[i].length ≤ 16 by omega] using j2t)
        simp only [culetref35_Valid.l0]; rw [if_pos (by omega), if_pos (by omega), row_at hi, if_neg (by omega), if_pos (by omega)]
      · by_cases h1 : m[i].length = (rd_L1 m 0).length
        · refine Ev.step (f := fun k => culetref35_Valid.j2 k m i false) (fun k => ?_) ?_
          · simp only [culetref35_Valid.l0]; rw [if_pos (by omega), if_pos (by omega), row_at hi, if_neg (by omega), if_neg (by omega), if_pos (by omega), bne_eq_false_iff_eq.2 (by omega)]
          · refine Ev.step (f := fun k => culetref35_Valid.l1 k m i ((0 : Nat) : Int)) (fun k => by simp only [culetref35_Valid.j2]; rw [if_neg (by simp)]; rfl) ?_
            have := rv_l1 m i hi (by omega) hm ((m.drop (i + 1)).all (rowB m)) ih m[i].length 0 (by omega)
            simpa [rowB, h1, show 1 ≤ m[i].length by omega, show m[i].length ≤ 16 by omega, show 1 ≤ (rd_L1 m 0).length by omega, show (rd_L1 m 0).length ≤ 16 by omega] using this
        · refine Ev.step (f := fun k => culetref35_Valid.j2 k m i true) (fun k => ?_) (by simpa [rowB, h1] using j2t)
          simp only [culetref35_Valid.l0]; rw [if_pos (by omega), if_pos (by omega), row_at hi, if_neg (by omega), if_neg (by omega), if_pos (by omega), bne_iff_ne.2 (by omega)]

theorem ref_valid_ev (m : List (List Int)) : Ev (fun k => culetref35_Valid.f k m) (validB m) := by
  by_cases h1 : m.length < 1
  · refine Ev.congr (f := fun k => culetref35_Valid.j0 k m true) (fun k => by unfold culetref35_Valid.f; rw [if_pos (by omega)]) ?_
    refine Ev.step (f := fun _ => some false) (fun k => by simp only [culetref35_Valid.j0, if_true]) (by simpa [validB, show ¬ 1 ≤ m.length by omega] using Ev.now false)
  · by_cases h2 : m.length > 16
    · refine Ev.congr (f := fun k => culetref35_Valid.j0 k m true) (fun k => by unfold culetref35_Valid.f; rw [if_neg (by omega), decide_eq_true (by omega)]) ?_
      refine Ev.step (f := fun _ => some false) (fun k => by simp only [culetref35_Valid.j0, if_true]) (by simpa [validB, show ¬ m.length ≤ 16 by omega] using Ev.now false)
    · refine Ev.congr (f := fun k => culetref35_Valid.j0 k m false) (fun k => by unfold culetref35_Valid.f; rw [if_neg (by omega), decide_eq_false (by omega)]) ?_
      refine Ev.step (f := fun k => culetref35_Valid.l0 k m ((0 : Nat) : Int)) (fun k => by simp only [culetref35_Valid.j0]; rw [if_neg (by simp)]; rfl) ?_
      have := rv_l0 m (by omega) m.length 0 (by omega)
      have e : validB m = m.all (rowB m) := by unfold validB; rw [decide_eq_true (by omega), decide_eq_true (by omega)]; rfl
      rw [e]
      simpa using this

/-! ### What the program's functions come to -/
theorem of_ev (m : List (List Int)) : Ev (fun k => contrast_Of.f k m) (if validB m = true then (((sqAll m).foldl (stepOf m) (0, 0, 0)).1, ((sqAll m).foldl (stepOf m) (0, 0, 0)).2.1, ((sqAll m).foldl (stepOf m) (0, 0, 0)).2.2, 0) else (0, 0, 0, 1)) := by
  refine Ev.congr (fun k => by unfold contrast_Of.f; rfl) (Ev.bind (window_valid_ev m) ?_)
  cases validB m <;> simpa using Ev.now _
theorem sym_ev (m : List (List Int)) : Ev (fun k => contrast_Symmetric.f k m) (if validB m = true then (((sqAll m).foldl (symStep m) (symStart m)).1, ((sqAll m).foldl (symStep m) (symStart m)).2.1, ((sqAll m).foldl (symStep m) (symStart m)).2.2, 0) else (false, false, false, 1)) := by
  refine Ev.congr (fun k => by unfold contrast_Symmetric.f; rfl) (Ev.bind (window_valid_ev m) ?_)
  cases validB m <;> simpa using Ev.now _

theorem mem_sqRow (m : List (List Int)) (i : Nat) (hi : i < m.length) : ∀ (k : Nat) (h : k ≤ (rd_L1 m i).length) (x : Sq m), x.1.1 = i → x.1.2 < k → x ∈ sqRow m i hi k h
  | 0, _, _, _, hx => by omega
  | k + 1, h, x, h1, h2 => by
    simp only [sqRow, List.mem_append, List.mem_singleton]
    by_cases hk : x.1.2 < k
    · exact .inl (mem_sqRow m i hi k (by omega) x h1 hk)
    · right
      apply Subtype.ext
      exact Prod.ext h1 (by show x.1.2 = k; omega)
theorem mem_sqUpto (m : List (List Int)) : ∀ (i : Nat) (h : i ≤ m.length) (x : Sq m), x.1.1 < i → x ∈ sqUpto m i h
  | 0, _, _, hx => by omega
  | i + 1, h, x, hx => by
    simp only [sqUpto, List.mem_append]
    by_cases hk : x.1.1 < i
    · exact .inl (mem_sqUpto m i (by omega) x hk)
    · have e : x.1.1 = i := by omega
      exact .inr (mem_sqRow m i (by omega) _ _ x e (by have := x.2.2; rw [e] at this; exact this))
theorem mem_sqAll (m : List (List Int)) (x : Sq m) : x ∈ sqAll m := mem_sqUpto m _ _ x x.2.1
theorem sym_fold (m : List (List Int)) : ∀ (l : List (Sq m)) (s : Bool × Bool × Bool), l.foldl (symStep m) s = (s.1 && l.all (fun x => !diffB (at2 m x.1.1 x.1.2) (at2 m x.1.2 ((m.length : Int) - 1 - x.1.1))),
    s.2.1 && l.all (fun x => !diffB (at2 m x.1.1 x.1.2) (at2 m ((m.length : Int) - 1 - x.1.1) (((rd_L1 m 0).length : Int) - 1 - x.1.2))), s.2.2 && l.all (fun x => !diffB (at2 m x.1.1 x.1.2) (at2 m x.1.1 (((rd_L1 m 0).length : Int) - 1 - x.1.2))))
  | [], s => by simp
  | x :: l, s => by
    rw [List.foldl_cons, sym_fold m l]
    simp only [symStep, sym1, sym2, sym3, List.all_cons, Bool.and_assoc]

end Go.Proofs.Ytalhpnfapagamaa.Plain
