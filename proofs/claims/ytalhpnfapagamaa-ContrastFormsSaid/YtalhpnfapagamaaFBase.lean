/- The reference's counts and motions, on lists alone: they come to the program's. -/
import Derived.Test.YtalhpnfapagamaaFSums
import Derived.Test.YtalhpnfapagamaaFg
import Derived.Test.YtalhpnfapagamaaFf
namespace Go.Proofs.Ytalhpnfapagamaa.Pure
open Go.RowKit Go.Proofs.Ytalhpnfapagamaa.C Go.Proofs.Ytalhpnfapagamaa.Plain Go.Proofs.YtalhpnfapagamaaW.PrintWords Go.Proofs.YtalhpnfapagamaaW.PrintLast

/-! ### squares in order, as two recursions -/
def rowG {σ : Type} (st : σ → Nat → Nat → σ) (p : σ) (i : Nat) : Nat → σ
  | 0 => p
  | j + 1 => st (rowG st p i j) i j
def allG {σ : Type} (st : σ → Nat → Nat → σ) (p : σ) (c : Nat) : Nat → σ
  | 0 => p
  | i + 1 => rowG st (allG st p c i) i c
def idxUp (c : Nat) : Nat → List (Nat × Nat)
  | 0 => []
  | i + 1 => idxUp c i ++ (List.range c).map (fun j => (i, j))
theorem sqRow_ix (m : List (List Int)) (i : Nat) (hi : i < m.length) : ∀ (k : Nat) (h : k ≤ (rd_L1 m i).length), (sqRow m i hi k h).map (·.1) = (List.range k).map (fun j => (i, j))
  | 0, _ => rfl
  | k + 1, h => by simp only [sqRow, List.map_append]; rw [sqRow_ix m i hi k (by omega), List.range_succ, List.map_append]; rfl
theorem sqUpto_ix {m : List (List Int)} (hv : validB m = true) : ∀ (i : Nat) (h : i ≤ m.length), (sqUpto m i h).map (·.1) = idxUp (rd_L1 m 0).length i
  | 0, _ => rfl
  | i + 1, h => by
    have := ((validB_rows hv).2.2.2.2 i (by omega)).1
    simp only [sqUpto, idxUp, List.map_append]
    rw [sqUpto_ix hv i (by omega), sqRow_ix, this]
theorem row_fold {σ : Type} (st : σ → Nat → Nat → σ) (p : σ) (i : Nat) : ∀ n, ((List.range n).map (fun j => (i, j))).foldl (fun s x => st s x.1 x.2) p = rowG st p i n
  | 0 => rfl
  | n + 1 => by rw [List.range_succ, List.map_append, List.foldl_append, row_fold st p i n]; rfl
theorem all_fold {σ : Type} (st : σ → Nat → Nat → σ) (p : σ) (c : Nat) : ∀ n, (idxUp c n).foldl (fun s x => st s x.1 x.2) p = allG st p c n
  | 0 => rfl
  | n + 1 => by simp only [idxUp, allG, List.foldl_append]; rw [all_fold st p c n, row_fold]
theorem sq_fold {σ : Type} {m : List (List Int)} (hv : validB m = true) (st : σ → Nat → Nat → σ) (p : σ) : (sqAll m).foldl (fun s x => st s x.1.1 x.1.2) p = allG st p (rd_L1 m 0).length m.length := by
  rw [← all_fold, ← sqUpto_ix hv m.length (Nat.le_refl _), List.foldl_map]
  rfl

/-! ### counts as sums -/
abbrev P3 := Int × Int × Int
def adds (st : P3 → Nat → Nat → P3) (v1 v2 v3 : Nat → Nat → Int) (r c : Nat) : Prop :=
  ∀ p i j, i < r → j < c → nonneg p → tot p ≤ 999998 → st p i j = (p.1 + v1 i j, p.2.1 + v2 i j, p.2.2 + v3 i j) ∧ nonneg (st p i j) ∧ tot (st p i j) ≤ tot p + 2
theorem row_sum {st : P3 → Nat → Nat → P3} {v1 v2 v3 : Nat → Nat → Int} {r c : Nat} (h : adds st v1 v2 v3 r c) {p : P3} {i : Nat} (hi : i < r) (hn : nonneg p) : ∀ n, n ≤ c → tot p + 2 * n ≤ 999998 →
    rowG st p i n = (p.1 + S n (v1 i), p.2.1 + S n (v2 i), p.2.2 + S n (v3 i)) ∧ nonneg (rowG st p i n) ∧ tot (rowG st p i n) ≤ tot p + 2 * n
  | 0, _, _ => ⟨by simp [rowG, S], hn, by simp [rowG]⟩
  | n + 1, hc, hb => by
    obtain ⟨h1, h2, h3⟩ := row_sum h hi hn n (by omega) (by omega)
    obtain ⟨g1, g2, g3⟩ := h (rowG st p i n) i n hi (by omega) h2 (by omega)
    simp only [rowG, S]
    refine ⟨?_, g2, by omega⟩
    rw [g1, h1]
    simp only [Int.add_assoc]
theorem all_sum {st : P3 → Nat → Nat → P3} {v1 v2 v3 : Nat → Nat → Int} {r c : Nat} (h : adds st v1 v2 v3 r c) (hc : c ≤ 16) : ∀ n, n ≤ r → n ≤ 16 →
    allG st (0, 0, 0) c n = (S n (fun i => S c (v1 i)), S n (fun i => S c (v2 i)), S n (fun i => S c (v3 i))) ∧ nonneg (allG st (0, 0, 0) c n) ∧ tot (allG st (0, 0, 0) c n) ≤ 32 * n
  | 0, _, _ => ⟨rfl, ⟨by simp [allG], by simp [allG], by simp [allG]⟩, by simp [allG, tot]⟩
  | n + 1, hr, h16 => by
    obtain ⟨h1, h2, h3⟩ := all_sum h hc n (by omega) (by omega)
    obtain ⟨g1, g2, g3⟩ := row_sum h (i := n) (by omega) h2 c (Nat.le_refl _) (by omega)
    simp only [allG, S]
    refine ⟨?_, g2, by omega⟩
    rw [g1, h1]

/-! ### the reference's add -/
theorem radd_ev (x y z a b : Int) : Ev (fun k => culetref36_Pairs_add.f k x y z a b) (addT (x, y, z) a b) := by
  unfold addT
  by_cases h0 : a = 0
  · rw [if_pos (.inl h0)]
    refine Ev.congr (f := fun k => culetref36_Pairs_add.j0 k a b true x y z) (fun k => by unfold culetref36_Pairs_add.f; rw [if_pos h0]) ?_
    exact Ev.step (f := fun _ => some (x, y, z)) (fun k => by simp only [culetref36_Pairs_add.j0, if_true]) (Ev.now _)
  · by_cases h1 : b = 0
    · rw [if_pos (.inr h1)]
      refine Ev.congr (f := fun k => culetref36_Pairs_add.j0 k a b true x y z) (fun k => by unfold culetref36_Pairs_add.f; rw [if_neg h0, show (b == 0) = true by simpa using h1]) ?_
      exact Ev.step (f := fun _ => some (x, y, z)) (fun k => by simp only [culetref36_Pairs_add.j0, if_true]) (Ev.now _)
    · rw [if_neg (by omega)]
      refine Ev.congr (f := fun k => culetref36_Pairs_add.j0 k a b false x y z) (fun k => by unfold culetref36_Pairs_add.f; rw [if_neg h0, show (b == 0) = false by simpa using h1]) ?_
      by_cases h2 : a = 3 ∨ b = 3
      · rw [if_pos h2]
        refine Ev.step (f := fun k => culetref36_Pairs_add.j1 k a b true x y z) (fun k => ?_) (Ev.step (f := fun _ => some (x, wrap64 (y + 1), z)) (fun k => by simp only [culetref36_Pairs_add.j1, if_true]) (Ev.now _))
        simp only [culetref36_Pairs_add.j0]
        rw [if_neg (by simp)]
        by_cases h3 : a = 3
        · rw [if_pos h3]
        · rw [if_neg h3, show (b == 3) = true by simpa using h2.resolve_left h3]
      · rw [if_neg h2]
        refine Ev.step (f := fun k => culetref36_Pairs_add.j1 k a b false x y z) (fun k => ?_) ?_
        · simp only [culetref36_Pairs_add.j0]
          rw [if_neg (by simp), if_neg (by omega), show (b == 3) = false by simpa using fun e => h2 (.inr e)]
        · by_cases h3 : a = b
          · rw [if_pos h3]
            exact Ev.step (f := fun _ => some (x, y, wrap64 (z + 1))) (fun k => by simp only [culetref36_Pairs_add.j1]; rw [if_neg (by simp), if_pos h3]) (Ev.now _)
          · rw [if_neg h3]
            exact Ev.step (f := fun _ => some (wrap64 (x + 1), y, z)) (fun k => by simp only [culetref36_Pairs_add.j1]; rw [if_neg (by simp), if_neg h3]) (Ev.now _)

end Go.Proofs.Ytalhpnfapagamaa.Pure
