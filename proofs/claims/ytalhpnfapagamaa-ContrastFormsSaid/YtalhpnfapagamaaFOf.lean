/- The reference's Of and Change, on lists alone: they come to the program's. -/
import Derived.Test.YtalhpnfapagamaaFBase
namespace Go.Proofs.Ytalhpnfapagamaa.Pure
open Go.RowKit Go.Proofs.Ytalhpnfapagamaa.C Go.Proofs.Ytalhpnfapagamaa.Plain Go.Proofs.YtalhpnfapagamaaW.PrintWords Go.Proofs.YtalhpnfapagamaaW.PrintLast

def rst1 (m : List (List Int)) (p : P3) (i j : Nat) : P3 := if 0 < j then addT p (at2 m i ((j - 1 : Nat) : Int)) (at2 m i j) else p
def rst (m : List (List Int)) (p : P3) (i j : Nat) : P3 := if 0 < i then addT (rst1 m p i j) (at2 m ((i - 1 : Nat) : Int) j) (at2 m i j) else rst1 m p i j
theorem wrap_pred {i : Nat} (h0 : 0 < i) (h : i ≤ 9223372036854775806) : wrap64 ((i : Int) - 1) = ((i - 1 : Nat) : Int) := by unfold wrap64; omega
theorem wrap_succ {i : Nat} (h : i ≤ 1000) : wrap64 ((i : Int) + 1) = ((i + 1 : Nat) : Int) := by unfold wrap64; omega

theorem rof_l1 {m : List (List Int)} (hv : validB m = true) (p : P3) (i : Nat) (hi : i < m.length) (r : Int × Int × Int × Int)
    (hr : Ev (fun k => culetref36_Of.l0 k m ((i + 1 : Nat) : Int) (rowG (rst m) p i (rd_L1 m 0).length).1 (rowG (rst m) p i (rd_L1 m 0).length).2.1 (rowG (rst m) p i (rd_L1 m 0).length).2.2) r) :
    ∀ (d j : Nat), j + d = (rd_L1 m 0).length → Ev (fun k => culetref36_Of.l1 k m i j (rowG (rst m) p i j).1 (rowG (rst m) p i j).2.1 (rowG (rst m) p i j).2.2) r
  | 0, j, h => by
    obtain ⟨h1, h2, h3, h4, h5⟩ := validB_rows hv
    obtain rfl : j = (rd_L1 m 0).length := by omega
    have hl := (h5 i hi).1
    refine Ev.step (fun k => ?_) hr
    simp only [culetref36_Of.l1]
    rw [if_pos (by omega), if_pos (by omega), if_neg (by omega), wrap_succ (by omega)]
  | d + 1, j, h => by
    obtain ⟨h1, h2, h3, h4, h5⟩ := validB_rows hv
    have hl := (h5 i hi).1
    have ih := rof_l1 hv p i hi r hr d (j + 1) (by omega)
    have e : rowG (rst m) p i (j + 1) = rst m (rowG (rst m) p i j) i j := rfl
    rw [e] at ih
    generalize rowG (rst m) p i j = q at ih ⊢
    obtain ⟨x, y, z⟩ := q
    dsimp only
    by_cases hj : 0 < j
    · have e1 : rst1 m (x, y, z) i j = addT (x, y, z) (at2 m i ((j - 1 : Nat) : Int)) (at2 m i j) := by unfold rst1; rw [if_pos hj]
      by_cases hi0 : 0 < i
      · have e2 : rst m (x, y, z) i j = addT (rst1 m (x, y, z) i j) (at2 m ((i - 1 : Nat) : Int) j) (at2 m i j) := by unfold rst; rw [if_pos hi0]
        rw [e2, e1] at ih
        have hl2 := (h5 (i - 1) (by omega)).1
        refine Ev.step (f := fun k => (culetref36_Pairs_add.f k x y z (at2 m i ((j - 1 : Nat) : Int)) (at2 m i j)).bind fun t => (culetref36_Pairs_add.f k t.1 t.2.1 t.2.2 (at2 m ((i - 1 : Nat) : Int) j) (at2 m i j)).bind fun t => culetref36_Of.l1 k m i ((j + 1 : Nat) : Int) t.1 t.2.1 t.2.2) (fun k => ?_) ?_
        · simp only [culetref36_Of.l1]
          rw [if_pos (by omega), if_pos (by omega), if_pos (by omega), if_pos (by omega), wrap_pred hj (by omega), if_pos (by omega), if_pos (by omega), if_pos (by omega), wrap_succ (by omega)]
          simp only [if_pos (show (i : Int) > 0 by omega), wrap_pred hi0 (show i ≤ 9223372036854775806 by omega), if_pos (show 0 ≤ ((i - 1 : Nat) : Int) by omega), if_pos (show ((i - 1 : Nat) : Int) < (m.length : Int) by omega), if_pos (show (j : Int) < ((rd_L1 m ((i - 1 : Nat) : Int)).length : Int) by omega)]
          rfl
        · refine Ev.bind (radd_ev x y z _ _) ?_
          refine Ev.bind (radd_ev _ _ _ _ _) ?_
          exact ih
      · have e2 : rst m (x, y, z) i j = rst1 m (x, y, z) i j := by unfold rst; rw [if_neg hi0]
        rw [e2, e1] at ih
        refine Ev.step (f := fun k => (culetref36_Pairs_add.f k x y z (at2 m i ((j - 1 : Nat) : Int)) (at2 m i j)).bind fun t => culetref36_Of.l1 k m i ((j + 1 : Nat) : Int) t.1 t.2.1 t.2.2) (fun k => ?_) ?_
        · simp only [culetref36_Of.l1]
          rw [if_pos (by omega), if_pos (by omega), if_pos (by omega), if_pos (by omega), wrap_pred hj (by omega), if_pos (by omega), if_pos (by omega), if_pos (by omega), wrap_succ (by omega)]
          simp only [if_neg (show ¬ (i : Int) > 0 by omega)]
          rfl
        · refine Ev.bind (radd_ev x y z _ _) ?_
          exact ih
    · have e1 : rst1 m (x, y, z) i j = (x, y, z) := by unfold rst1; rw [if_neg hj]
      by_cases hi0 : 0 < i
      · have e2 : rst m (x, y, z) i j = addT (rst1 m (x, y, z) i j) (at2 m ((i - 1 : Nat) : Int) j) (at2 m i j) := by unfold rst; rw [if_pos hi0]
        rw [e2, e1] at ih
        have hl2 := (h5 (i - 1) (by omega)).1
        refine Ev.step (f := fun k => (culetref36_Pairs_add.f k x y z (at2 m ((i - 1 : Nat) : Int) j) (at2 m i j)).bind fun t => culetref36_Of.l1 k m i ((j + 1 : Nat) : Int) t.1 t.2.1 t.2.2) (fun k => ?_) ?_
        · simp only [culetref36_Of.l1]
          rw [if_pos (by omega), if_pos (by omega), if_pos (by omega), if_neg (by omega), if_pos (by omega), wrap_pred hi0 (by omega), if_pos (by omega), if_pos (by omega), if_pos (by omega), if_pos (by omega), wrap_succ (by omega)]
          rfl
        · refine Ev.bind (radd_ev x y z _ _) ?_
          exact ih
      · have e2 : rst m (x, y, z) i j = rst1 m (x, y, z) i j := by unfold rst; rw [if_neg hi0]
        rw [e2, e1] at ih
        refine Ev.step (fun k => ?_) ih
        simp only [culetref36_Of.l1]
        rw [if_pos (by omega), if_pos (by omega), if_pos (by omega), if_neg (by omega), if_neg (by omega), wrap_succ (by omega)]
theorem rof_l0 {m : List (List Int)} (hv : validB m = true) : ∀ (d i : Nat), i + d = m.length → Ev (fun k => culetref36_Of.l0 k m i (allG (rst m) (0, 0, 0) (rd_L1 m 0).length i).1 (allG (rst m) (0, 0, 0) (rd_L1 m 0).length i).2.1 (allG (rst m) (0, 0, 0) (rd_L1 m 0).length i).2.2)
    ((allG (rst m) (0, 0, 0) (rd_L1 m 0).length m.length).1, (allG (rst m) (0, 0, 0) (rd_L1 m 0).length m.length).2.1, (allG (rst m) (0, 0, 0) (rd_L1 m 0).length m.length).2.2, 0)
  | 0, i, h => by
    obtain rfl : i = m.length := by omega
    refine Ev.step (fun k => ?_) (Ev.now _)
    simp only [culetref36_Of.l0]; rw [if_neg (by omega)]
  | d + 1, i, h => by
    have ih := rof_l0 hv d (i + 1) (by omega)
    have := rof_l1 hv (allG (rst m) (0, 0, 0) (rd_L1 m 0).length i) i (by omega) _ ih (rd_L1 m 0).length 0 (by omega)
    refine Ev.step (fun k => ?_) this
    simp only [culetref36_Of.l0]; rw [if_pos (by omega)]
    rfl

/-! ### the same counts -/
def horL (u : Int → Int → Int) (m : List (List Int)) (i j : Nat) : Int := if 0 < j then u (at2 m i ((j - 1 : Nat) : Int)) (at2 m i j) else 0
def verL (u : Int → Int → Int) (m : List (List Int)) (i j : Nat) : Int := if 0 < i then u (at2 m ((i - 1 : Nat) : Int) j) (at2 m i j) else 0
def bothL (u : Int → Int → Int) (m : List (List Int)) (i j : Nat) : Int := horL u m i j + verL u m i j
theorem rst_adds (m : List (List Int)) (r c : Nat) : adds (rst m) (bothL u1 m) (bothL u2 m) (bothL u3 m) r c := by
  intro p i j hi hj hn ht
  unfold bothL horL verL rst rst1
  by_cases h1 : 0 < j
  · simp only [if_pos h1]
    obtain ⟨a1, a2, a3, _, _⟩ := addT_tot hn (by omega) (at2 m i ((j - 1 : Nat) : Int)) (at2 m i j)
    by_cases h2 : 0 < i
    · simp only [if_pos h2]
      obtain ⟨b1, b2, b3, _, _⟩ := addT_tot a1 (by omega) (at2 m ((i - 1 : Nat) : Int) j) (at2 m i j)
      refine ⟨?_, b1, by omega⟩
      rw [addT_u a1 (by omega), addT_u hn (by omega)]
      simp only [Int.add_assoc]
    · simp only [if_neg h2, Int.add_zero]
      exact ⟨addT_u hn (by omega) _ _, a1, by omega⟩
  · simp only [if_neg h1, Int.zero_add]
    by_cases h2 : 0 < i
    · simp only [if_pos h2]
      obtain ⟨b1, b2, b3, _, _⟩ := addT_tot hn (by omega) (at2 m ((i - 1 : Nat) : Int) j) (at2 m i j)
      exact ⟨addT_u hn (by omega) _ _, b1, by omega⟩
    · simp only [if_neg h2, Int.add_zero]
      exact ⟨trivial, hn, by omega⟩
theorem S_innerL (g : Nat → Int) : ∀ n, S n (fun i => if 0 < i then g (i - 1) else 0) = S (n - 1) g
  | 0 => rfl
  | n + 1 => by
    rw [S_first, if_neg (by omega), Int.zero_add]
    exact S_congr n (fun i _ => by rw [if_pos (by omega), Nat.add_sub_cancel])
theorem horL_S (u : Int → Int → Int) (m : List (List Int)) (i n : Nat) : S n (fun j => horL u m i j) = S n (fun j => hor u m n i j) := by
  rw [show S n (fun j => hor u m n i j) = S (n - 1) (fun j => u (at2 m i j) (at2 m i ((j + 1 : Nat) : Int))) from S_inner _ _, ← S_innerL]
  refine S_congr n (fun j _ => ?_)
  unfold horL
  by_cases h : 0 < j
  · rw [if_pos h, if_pos h, show j - 1 + 1 = j by omega]
  · rw [if_neg h, if_neg h]
theorem verL_S (u : Int → Int → Int) (m : List (List Int)) (j n : Nat) : S n (fun i => verL u m i j) = S n (fun i => ver u m n i j) := by
  rw [show S n (fun i => ver u m n i j) = S (n - 1) (fun i => u (at2 m i j) (at2 m ((i + 1 : Nat) : Int) j)) from S_inner _ _, ← S_innerL]
  refine S_congr n (fun i _ => ?_)
  unfold verL
  by_cases h : 0 < i
  · rw [if_pos h, if_pos h, show i - 1 + 1 = i by omega]
  · rw [if_neg h, if_neg h]
theorem both_S (u : Int → Int → Int) (m : List (List Int)) : S m.length (fun i => S (rd_L1 m 0).length (bothL u m i)) = cnt u m := by
  have e1 : S m.length (fun i => S (rd_L1 m 0).length (bothL u m i)) = S m.length (fun i => S (rd_L1 m 0).length (fun j => horL u m i j)) + S m.length (fun i => S (rd_L1 m 0).length (fun j => verL u m i j)) := by
    rw [← S_add]; exact S_congr _ (fun i _ => by rw [← S_add]; rfl)
  have e2 : cnt u m = S m.length (fun i => S (rd_L1 m 0).length (fun j => hor u m (rd_L1 m 0).length i j)) + S m.length (fun i => S (rd_L1 m 0).length (fun j => ver u m m.length i j)) := by
    unfold cnt; rw [← S_add]; exact S_congr _ (fun i _ => by rw [← S_add]; rfl)
  rw [e1, e2, S_comm (fun i j => verL u m i j), S_comm (fun i j => ver u m m.length i j)]
  congr 1
  · exact S_congr _ (fun i _ => horL_S u m i _)
  · exact S_congr _ (fun j _ => verL_S u m j _)
theorem rof_ev (m : List (List Int)) : Ev (fun k => culetref36_Of.f k m) (if validB m = true then (((sqAll m).foldl (stepOf m) (0, 0, 0)).1, ((sqAll m).foldl (stepOf m) (0, 0, 0)).2.1, ((sqAll m).foldl (stepOf m) (0, 0, 0)).2.2, 0) else (0, 0, 0, 1)) := by
  refine Ev.congr (fun k => by unfold culetref36_Of.f; rfl) (Ev.bind (ref_valid_ev m) ?_)
  cases hv : validB m with
  | false => simpa using Ev.now _
  | true =>
    simp only [if_true]
    obtain ⟨h1, h2, h3, h4, h5⟩ := validB_rows hv
    have := rof_l0 hv m.length 0 (by omega)
    rw [(all_sum (rst_adds m m.length (rd_L1 m 0).length) h4 m.length (Nat.le_refl _) h2).1] at this
    rw [of_cnt hv]
    simp only [both_S] at this
    exact this

/-! ### Change -/
def rch (a b : List (List Int)) (p : P3) (i j : Nat) : P3 := addT p (at2 a i j) (at2 b i j)
theorem rch_l1 {a b : List (List Int)} (ha : validB a = true) (hb : validB b = true) (e1 : a.length = b.length) (e2 : (rd_L1 a 0).length = (rd_L1 b 0).length) (p : P3) (i : Nat) (hi : i < a.length) (r : Int × Int × Int × Int)
    (hr : Ev (fun k => culetref36_Change.l0 k a b ((i + 1 : Nat) : Int) (rowG (rch a b) p i (rd_L1 a 0).length).1 (rowG (rch a b) p i (rd_L1 a 0).length).2.1 (rowG (rch a b) p i (rd_L1 a 0).length).2.2) r) :
    ∀ (d j : Nat), j + d = (rd_L1 a 0).length → Ev (fun k => culetref36_Change.l1 k a b i j (rowG (rch a b) p i j).1 (rowG (rch a b) p i j).2.1 (rowG (rch a b) p i j).2.2) r
  | 0, j, h => by
    obtain ⟨h1, h2, h3, h4, h5⟩ := validB_rows ha
    obtain rfl : j = (rd_L1 a 0).length := by omega
    have hl := (h5 i hi).1
    refine Ev.step (fun k => ?_) hr
    simp only [culetref36_Change.l1]
    rw [if_pos (by omega), if_pos (by omega), if_neg (by omega), wrap_succ (by omega)]
  | d + 1, j, h => by
    obtain ⟨h1, h2, h3, h4, h5⟩ := validB_rows ha
    have hl := (h5 i hi).1
    have hl2 := ((validB_rows hb).2.2.2.2 i (by omega)).1
    have ih := rch_l1 ha hb e1 e2 p i hi r hr d (j + 1) (by omega)
    have e : rowG (rch a b) p i (j + 1) = addT (rowG (rch a b) p i j) (at2 a i j) (at2 b i j) := rfl
    rw [e] at ih
    generalize rowG (rch a b) p i j = q at ih ⊢
    obtain ⟨x, y, z⟩ := q
    dsimp only
    refine Ev.step (f := fun k => (culetref36_Pairs_add.f k x y z (at2 a i j) (at2 b i j)).bind fun t => culetref36_Change.l1 k a b i ((j + 1 : Nat) : Int) t.1 t.2.1 t.2.2) (fun k => ?_) (Ev.bind (radd_ev x y z _ _) ih)
    simp only [culetref36_Change.l1]
    rw [if_pos (by omega), if_pos (by omega), if_pos (by omega), if_pos (by omega), if_pos (by omega), if_pos (by omega), wrap_succ (by omega)]
    rfl
theorem rch_l0 {a b : List (List Int)} (ha : validB a = true) (hb : validB b = true) (e1 : a.length = b.length) (e2 : (rd_L1 a 0).length = (rd_L1 b 0).length) : ∀ (d i : Nat), i + d = a.length → Ev (fun k => culetref36_Change.l0 k a b i (allG (rch a b) (0, 0, 0) (rd_L1 a 0).length i).1 (allG (rch a b) (0, 0, 0) (rd_L1 a 0).length i).2.1 (allG (rch a b) (0, 0, 0) (rd_L1 a 0).length i).2.2)
    ((allG (rch a b) (0, 0, 0) (rd_L1 a 0).length a.length).1, (allG (rch a b) (0, 0, 0) (rd_L1 a 0).length a.length).2.1, (allG (rch a b) (0, 0, 0) (rd_L1 a 0).length a.length).2.2, 0)
  | 0, i, h => by
    obtain rfl : i = a.length := by omega
    refine Ev.step (fun k => ?_) (Ev.now _)
    simp only [culetref36_Change.l0]; rw [if_neg (by omega)]
  | d + 1, i, h => by
    have ih := rch_l0 ha hb e1 e2 d (i + 1) (by omega)
    have := rch_l1 ha hb e1 e2 (allG (rch a b) (0, 0, 0) (rd_L1 a 0).length i) i (by omega) _ ih (rd_L1 a 0).length 0 (by omega)
    refine Ev.step (fun k => ?_) this
    simp only [culetref36_Change.l0]; rw [if_pos (by omega)]
    rfl
theorem rch_ev (a b : List (List Int)) : Ev (fun k => culetref36_Change.f k a b) (if validB a = true then (if validB b = true then (if a.length = b.length ∧ (rd_L1 a 0).length = (rd_L1 b 0).length then (((sqAll a).foldl (stepCh a b) (0, 0, 0)).1, ((sqAll a).foldl (stepCh a b) (0, 0, 0)).2.1, ((sqAll a).foldl (stepCh a b) (0, 0, 0)).2.2, (0 : Int)) else (0, 0, 0, 1)) else (0, 0, 0, 1)) else (0, 0, 0, 1)) := by
  have no : Ev (fun k => culetref36_Change.j0 k a b true 0 0 0) (0, 0, 0, 1) := Ev.step (f := fun _ => some (0, 0, 0, 1)) (fun k => by simp only [culetref36_Change.j0, if_true]) (Ev.now _)
  refine Ev.congr (fun k => by unfold culetref36_Change.f; rfl) (Ev.bind (ref_valid_ev a) ?_)
  cases ha : validB a with
  | false => simpa using no
  | true =>
    simp only [if_true]
    refine Ev.bind (ref_valid_ev b) ?_
    cases hb : validB b with
    | false => simpa using no
    | true =>
      simp only [if_true]
      obtain ⟨h1, h2, h3, h4, h5⟩ := validB_rows ha
      obtain ⟨g1, g2, g3, g4, g5⟩ := validB_rows hb
      by_cases e1 : a.length = b.length
      · simp only [if_pos (show (a.length : Int) = (b.length : Int) by omega), if_pos (show 0 < (a.length : Int) by omega), if_pos (show 0 < (b.length : Int) by omega)]
        by_cases e2 : (rd_L1 a 0).length = (rd_L1 b 0).length
        · rw [if_pos ⟨e1, e2⟩, show (((rd_L1 a 0).length : Int) != ((rd_L1 b 0).length : Int)) = false from bne_eq_false_iff_eq.2 (by omega)]
          refine Ev.step (f := fun k => culetref36_Change.l0 k a b 0 0 0 0) (fun k => by simp only [culetref36_Change.j0]; rw [if_neg (by simp)]) ?_
          have := rch_l0 ha hb e1 e2 a.length 0 (by omega)
          rw [← sq_fold ha (rch a b)] at this
          exact this
        · rw [if_neg (fun h => e2 h.2), show (((rd_L1 a 0).length : Int) != ((rd_L1 b 0).length : Int)) = true from bne_iff_ne.2 (by omega)]
          exact no
      · simp only [if_neg (show ¬ (a.length : Int) = (b.length : Int) by omega)]
        rw [if_neg (fun h => e1 h.1)]
        exact no

end Go.Proofs.Ytalhpnfapagamaa.Pure
