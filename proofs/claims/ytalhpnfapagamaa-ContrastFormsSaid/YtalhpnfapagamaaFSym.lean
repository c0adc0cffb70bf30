/- The reference's Symmetric, on lists alone: it comes to the program's. -/
import Derived.Test.YtalhpnfapagamaaFOf
import Derived.Test.YtalhpnfapagamaaFha
namespace Go.Proofs.Ytalhpnfapagamaa.Pure
open Go.RowKit Go.Proofs.Ytalhpnfapagamaa.C Go.Proofs.Ytalhpnfapagamaa.Plain Go.Proofs.YtalhpnfapagamaaW.PrintWords Go.Proofs.YtalhpnfapagamaaW.PrintLast

abbrev B3 := Bool × Bool × Bool
def symN (m : List (List Int)) (s : B3) (i j : Nat) : B3 := (sym1 m i j s.1, sym2 m i j s.2.1, sym3 m i j s.2.2)
theorem diff_add {a b : Int} (ha : 0 ≤ a) (ha3 : a ≤ 3) (hb : 0 ≤ b) (hb3 : b ≤ 3) : decide ((addT (0, 0, 0) a b).1 > 0) = diffB a b := by
  obtain ha | ha | ha | ha : a = 0 ∨ a = 1 ∨ a = 2 ∨ a = 3 := by omega
  all_goals obtain hb | hb | hb | hb : b = 0 ∨ b = 1 ∨ b = 2 ∨ b = 3 := by omega
  all_goals subst ha; subst hb; decide +kernel
theorem at2_bounds {m : List (List Int)} (hv : validB m = true) {i j : Nat} (hi : i < m.length) (hj : j < (rd_L1 m 0).length) : 0 ≤ at2 m i j ∧ at2 m i j ≤ 3 := ((validB_rows hv).2.2.2.2 i hi).2 j hj
theorem wrap_back {n i : Nat} (h : i < n) (hn : n ≤ 1000) : wrap64 (wrap64 ((n : Int) - 1) - (i : Int)) = ((n - 1 - i : Nat) : Int) := by unfold wrap64; omega
theorem symN_first (m : List (List Int)) (s : B3) (i : Nat) : ∀ n, (rowG (symN m) s i n).1 = true → s.1 = true
  | 0, h => h
  | n + 1, h => symN_first m s i n (by
      simp only [rowG, symN, sym1, Bool.and_eq_true] at h
      exact h.1)
theorem symA_first (m : List (List Int)) (s : B3) (c : Nat) : ∀ n, (allG (symN m) s c n).1 = true → s.1 = true
  | 0, h => h
  | n + 1, h => symA_first m s c n (symN_first m _ n c h)

theorem rsym_j3 {m : List (List Int)} (hv : validB m = true) {i j : Nat} (hi : i < m.length) (hj : j < (rd_L1 m 0).length) (q h mi : Bool) (r : Bool × Bool × Bool × Int)
    (hr : Ev (fun k => culetref36_Symmetric.l1 k m (m.length : Int) ((rd_L1 m 0).length : Int) q (sym2 m i j h) (sym3 m i j mi) i ((j + 1 : Nat) : Int)) r) :
    Ev (fun k => culetref36_Symmetric.j3 k m (m.length : Int) ((rd_L1 m 0).length : Int) q h mi i j) r := by
  obtain ⟨h1, h2, h3, h4, h5⟩ := validB_rows hv
  have hl := (h5 i hi).1
  have hl2 := (h5 (m.length - 1 - i) (by omega)).1
  have d2 := diff_add (at2_bounds hv hi hj).1 (at2_bounds hv hi hj).2 (at2_bounds hv (i := m.length - 1 - i) (j := (rd_L1 m 0).length - 1 - j) (by omega) (by omega)).1 (at2_bounds hv (i := m.length - 1 - i) (j := (rd_L1 m 0).length - 1 - j) (by omega) (by omega)).2
  have d3 := diff_add (at2_bounds hv hi hj).1 (at2_bounds hv hi hj).2 (at2_bounds hv (i := i) (j := (rd_L1 m 0).length - 1 - j) (by omega) (by omega)).1 (at2_bounds hv (i := i) (j := (rd_L1 m 0).length - 1 - j) (by omega) (by omega)).2
  have s2 : sym2 m i j h = (h && !diffB (at2 m i j) (at2 m ((m.length - 1 - i : Nat) : Int) (((rd_L1 m 0).length - 1 - j : Nat) : Int))) := by
    unfold sym2; rw [show (m.length : Int) - 1 - (i : Int) = ((m.length - 1 - i : Nat) : Int) by omega, show ((rd_L1 m 0).length : Int) - 1 - (j : Int) = (((rd_L1 m 0).length - 1 - j : Nat) : Int) by omega]
  have s3 : sym3 m i j mi = (mi && !diffB (at2 m i j) (at2 m i (((rd_L1 m 0).length - 1 - j : Nat) : Int))) := by
    unfold sym3; rw [show ((rd_L1 m 0).length : Int) - 1 - (j : Int) = (((rd_L1 m 0).length - 1 - j : Nat) : Int) by omega]
  refine Ev.step (f := fun k => (culetref36_Pairs_add.f k 0 0 0 (at2 m i j) (at2 m ((m.length - 1 - i : Nat) : Int) (((rd_L1 m 0).length - 1 - j : Nat) : Int))).bind fun t => if t.1 > 0 then ((culetref36_Pairs_add.f k 0 0 0 (at2 m i j) (at2 m i (((rd_L1 m 0).length - 1 - j : Nat) : Int))).bind fun t => if t.1 > 0 then culetref36_Symmetric.l1 k m (m.length : Int) ((rd_L1 m 0).length : Int) q false false i ((j + 1 : Nat) : Int) else culetref36_Symmetric.l1 k m (m.length : Int) ((rd_L1 m 0).length : Int) q false mi i ((j + 1 : Nat) : Int)) else ((culetref36_Pairs_add.f k 0 0 0 (at2 m i j) (at2 m i (((rd_L1 m 0).length - 1 - j : Nat) : Int))).bind fun t => if t.1 > 0 then culetref36_Symmetric.l1 k m (m.length : Int) ((rd_L1 m 0).length : Int) q h false i ((j + 1 : Nat) : Int) else culetref36_Symmetric.l1 k m (m.length : Int) ((rd_L1 m 0).length : Int) q h mi i ((j + 1 : Nat) : Int))) (fun k => ?_) ?_
  · simp only [culetref36_Symmetric.j3]
    simp only [wrap_back hi (show m.length ≤ 1000 by omega), wrap_back hj (show (rd_L1 m 0).length ≤ 1000 by omega), wrap_succ (show j ≤ 1000 by omega)]
    rw [if_pos (by omega), if_pos (by omega), if_pos (by omega), if_pos (by omega), if_pos (by omega), if_pos (by omega), if_pos (by omega), if_pos (by omega)]
    simp only [if_pos (show (((rd_L1 m 0).length - 1 - j : Nat) : Int) < ((rd_L1 m i).length : Int) by omega)]
    rfl
  · refine Ev.bind (radd_ev 0 0 0 _ _) ?_
    rw [s2, s3, ← d2, ← d3] at hr
    by_cases c2 : (addT (0, 0, 0) (at2 m i j) (at2 m ((m.length - 1 - i : Nat) : Int) (((rd_L1 m 0).length - 1 - j : Nat) : Int))).1 > 0
    · simp only [if_pos c2]
      refine Ev.bind (radd_ev 0 0 0 _ _) ?_
      rw [decide_eq_true c2, Bool.not_true, Bool.and_false] at hr
      by_cases c3 : (addT (0, 0, 0) (at2 m i j) (at2 m i (((rd_L1 m 0).length - 1 - j : Nat) : Int))).1 > 0
      · simp only [if_pos c3]
        rw [decide_eq_true c3, Bool.not_true, Bool.and_false] at hr
        exact hr
      · simp only [if_neg c3]
        rw [decide_eq_false c3, Bool.not_false, Bool.and_true] at hr
        exact hr
    · simp only [if_neg c2]
      refine Ev.bind (radd_ev 0 0 0 _ _) ?_
      rw [decide_eq_false c2, Bool.not_false, Bool.and_true] at hr
      by_cases c3 : (addT (0, 0, 0) (at2 m i j) (at2 m i (((rd_L1 m 0).length - 1 - j : Nat) : Int))).1 > 0
      · simp only [if_pos c3]
        rw [decide_eq_true c3, Bool.not_true, Bool.and_false] at hr
        exact hr
      · simp only [if_neg c3]
        rw [decide_eq_false c3, Bool.not_false, Bool.and_true] at hr
        exact hr
theorem rsym_l1 {m : List (List Int)} (hv : validB m = true) (s : B3) (hs : s.1 = true → m.length = (rd_L1 m 0).length) (i : Nat) (hi : i < m.length) (r : Bool × Bool × Bool × Int)
    (hr : Ev (fun k => culetref36_Symmetric.l0 k m (m.length : Int) ((rd_L1 m 0).length : Int) (rowG (symN m) s i (rd_L1 m 0).length).1 (rowG (symN m) s i (rd_L1 m 0).length).2.1 (rowG (symN m) s i (rd_L1 m 0).length).2.2 ((i + 1 : Nat) : Int)) r) :
    ∀ (d j : Nat), j + d = (rd_L1 m 0).length → Ev (fun k => culetref36_Symmetric.l1 k m (m.length : Int) ((rd_L1 m 0).length : Int) (rowG (symN m) s i j).1 (rowG (symN m) s i j).2.1 (rowG (symN m) s i j).2.2 i j) r
  | 0, j, h => by
    obtain ⟨h1, h2, h3, h4, h5⟩ := validB_rows hv
    obtain rfl : j = (rd_L1 m 0).length := by omega
    refine Ev.step (fun k => ?_) hr
    simp only [culetref36_Symmetric.l1]
    rw [if_neg (by omega), wrap_succ (by omega)]
  | d + 1, j, h => by
    obtain ⟨h1, h2, h3, h4, h5⟩ := validB_rows hv
    have hl := (h5 i hi).1
    have ih := rsym_l1 hv s hs i hi r hr d (j + 1) (by omega)
    have hq : (rowG (symN m) s i j).1 = true → m.length = (rd_L1 m 0).length := fun h => hs (symN_first m s i j h)
    have e : rowG (symN m) s i (j + 1) = symN m (rowG (symN m) s i j) i j := rfl
    rw [e] at ih
    generalize rowG (symN m) s i j = p at ih hq ⊢
    obtain ⟨q, hf, mi⟩ := p
    simp only [symN] at ih hq ⊢
    have fin := rsym_j3 hv hi (show j < (rd_L1 m 0).length by omega) (sym1 m i j q) hf mi r ih
    cases q with
    | false =>
      rw [show sym1 m i j false = false from rfl] at fin
      refine Ev.step (f := fun k => culetref36_Symmetric.j2 k m (m.length : Int) ((rd_L1 m 0).length : Int) false hf mi i j false) (fun k => ?_) (Ev.step (fun k => ?_) fin)
      · simp only [culetref36_Symmetric.l1]; rw [if_pos (by omega), if_neg (by simp)]
      · simp only [culetref36_Symmetric.j2]; rw [if_neg (by simp)]
    | true =>
      have hsq := hq rfl
      have hl2 := (h5 j (by omega)).1
      have d1 := diff_add (at2_bounds hv hi (show j < (rd_L1 m 0).length by omega)).1 (at2_bounds hv hi (show j < (rd_L1 m 0).length by omega)).2 (at2_bounds hv (i := j) (j := (rd_L1 m 0).length - 1 - i) (by omega) (by omega)).1 (at2_bounds hv (i := j) (j := (rd_L1 m 0).length - 1 - i) (by omega) (by omega)).2
      have s1 : sym1 m i j true = !diffB (at2 m i j) (at2 m j (((rd_L1 m 0).length - 1 - i : Nat) : Int)) := by
        unfold sym1; rw [Bool.true_and, show (m.length : Int) - 1 - (i : Int) = (((rd_L1 m 0).length - 1 - i : Nat) : Int) by omega]
      rw [s1, ← d1] at fin
      refine Ev.step (f := fun k => (culetref36_Pairs_add.f k 0 0 0 (at2 m i j) (at2 m j (((rd_L1 m 0).length - 1 - i : Nat) : Int))).bind fun t => culetref36_Symmetric.j2 k m (m.length : Int) ((rd_L1 m 0).length : Int) true hf mi i j (decide (t.1 > 0))) (fun k => ?_) (Ev.bind (radd_ev 0 0 0 _ _) ?_)
      · simp only [culetref36_Symmetric.l1]
        simp only [wrap_back (show i < (rd_L1 m 0).length by omega) (show (rd_L1 m 0).length ≤ 1000 by omega)]
        rw [if_pos (by omega), if_pos trivial, if_pos (by omega), if_pos (by omega), if_pos (by omega), if_pos (by omega), if_pos (by omega), if_pos (by omega), if_pos (by omega)]
        rfl
      · refine Ev.step (fun k => ?_) fin
        simp only [culetref36_Symmetric.j2]
        by_cases c1 : (addT (0, 0, 0) (at2 m i j) (at2 m j (((rd_L1 m 0).length - 1 - i : Nat) : Int))).1 > 0
        · rw [decide_eq_true c1, if_pos rfl, Bool.not_true]
        · rw [decide_eq_false c1, if_neg (by simp), Bool.not_false]
theorem rsym_l0 {m : List (List Int)} (hv : validB m = true) (s : B3) (hs : s.1 = true → m.length = (rd_L1 m 0).length) : ∀ (d i : Nat), i + d = m.length →
    Ev (fun k => culetref36_Symmetric.l0 k m (m.length : Int) ((rd_L1 m 0).length : Int) (allG (symN m) s (rd_L1 m 0).length i).1 (allG (symN m) s (rd_L1 m 0).length i).2.1 (allG (symN m) s (rd_L1 m 0).length i).2.2 i)
    ((allG (symN m) s (rd_L1 m 0).length m.length).1, (allG (symN m) s (rd_L1 m 0).length m.length).2.1, (allG (symN m) s (rd_L1 m 0).length m.length).2.2, 0)
  | 0, i, h => by
    obtain rfl : i = m.length := by omega
    refine Ev.step (fun k => ?_) (Ev.now _)
    simp only [culetref36_Symmetric.l0]; rw [if_neg (by omega)]
  | d + 1, i, h => by
    have ih := rsym_l0 hv s hs d (i + 1) (by omega)
    have := rsym_l1 hv (allG (symN m) s (rd_L1 m 0).length i) (fun h => hs (symA_first m s _ i h)) i (by omega) _ ih (rd_L1 m 0).length 0 (by omega)
    refine Ev.step (fun k => ?_) this
    simp only [culetref36_Symmetric.l0]; rw [if_pos (by omega)]
    rfl
theorem rsym_ev (m : List (List Int)) : Ev (fun k => culetref36_Symmetric.f k m) (if validB m = true then (((sqAll m).foldl (symStep m) (symStart m)).1, ((sqAll m).foldl (symStep m) (symStart m)).2.1, ((sqAll m).foldl (symStep m) (symStart m)).2.2, 0) else (false, false, false, 1)) := by
  refine Ev.congr (fun k => by unfold culetref36_Symmetric.f; rfl) (Ev.bind (ref_valid_ev m) ?_)
  cases hv : validB m with
  | false => simpa using Ev.now _
  | true =>
    simp only [if_true]
    obtain ⟨h1, h2, h3, h4, h5⟩ := validB_rows hv
    have := rsym_l0 hv (symStart m) (fun h => by have := beq_iff_eq.1 h; omega) m.length 0 (by omega)
    rw [← sq_fold hv (symN m)] at this
    refine Ev.congr (fun k => ?_) this
    rw [if_pos (by omega)]
    rfl

end Go.Proofs.Ytalhpnfapagamaa.Pure
