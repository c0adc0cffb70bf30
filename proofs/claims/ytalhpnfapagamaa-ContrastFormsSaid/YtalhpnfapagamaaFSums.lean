/- Sums over squares: the counts of Of and Change as sums, and what an exchange of rows and columns, or a turn, does to them. -/
import Derived.Test.YtalhpnfapagamaaFPairs
namespace Go.Proofs.Ytalhpnfapagamaa.Pure
open Go.RowKit Go.Proofs.Ytalhpnfapagamaa.C Go.Proofs.Ytalhpnfapagamaa.Plain Go.Proofs.YtalhpnfapagamaaW.PrintWords Go.Proofs.YtalhpnfapagamaaW.PrintLast

def S : Nat → (Nat → Int) → Int
  | 0, _ => 0
  | n + 1, f => S n f + f n
theorem S_congr {f g : Nat → Int} : ∀ (n : Nat), (∀ i, i < n → f i = g i) → S n f = S n g
  | 0, _ => rfl
  | n + 1, h => by simp only [S]; rw [S_congr n (fun i hi => h i (by omega)), h n (by omega)]
theorem S_add (f g : Nat → Int) : ∀ n, S n (fun i => f i + g i) = S n f + S n g
  | 0 => rfl
  | n + 1 => by simp only [S]; rw [S_add f g n]; omega
theorem S_zero : ∀ n, S n (fun _ => 0) = 0
  | 0 => rfl
  | n + 1 => by simp only [S]; rw [S_zero n]; rfl
theorem S_comm (f : Nat → Nat → Int) (m : Nat) : ∀ n, S n (fun i => S m (fun j => f i j)) = S m (fun j => S n (fun i => f i j))
  | 0 => by simp only [S]; exact (S_zero m).symm
  | n + 1 => by simp only [S]; rw [S_comm f m n, S_add]
theorem S_first (f : Nat → Int) : ∀ n, S (n + 1) f = f 0 + S n (fun i => f (i + 1))
  | 0 => by simp [S]
  | n + 1 => by
    have := S_first f n
    simp only [S] at this ⊢
    omega
theorem S_inner (g : Nat → Int) : ∀ n, S n (fun i => if i + 1 < n then g i else 0) = S (n - 1) g
  | 0 => rfl
  | n + 1 => by
    simp only [S, Nat.add_sub_cancel]
    rw [if_neg (by omega), S_congr n (g := g) (fun i hi => by rw [if_pos (by omega)])]
    omega

theorem w64b {x : Int} (h0 : -2000000 ≤ x) (h1 : x ≤ 2000000) : wrap64 x = x := by unfold wrap64; omega
/-! ### one pair's part in the three counts -/
def u1 (a b : Int) : Int := if a = 0 ∨ b = 0 then 0 else if a = 3 ∨ b = 3 then 0 else if a = b then 0 else 1
def u2 (a b : Int) : Int := if a = 0 ∨ b = 0 then 0 else if a = 3 ∨ b = 3 then 1 else 0
def u3 (a b : Int) : Int := if a = 0 ∨ b = 0 then 0 else if a = 3 ∨ b = 3 then 0 else if a = b then 1 else 0
theorem addT_u {p : Int × Int × Int} (hn : nonneg p) (ht : tot p ≤ 1000000) (a b : Int) : addT p a b = (p.1 + u1 a b, p.2.1 + u2 a b, p.2.2 + u3 a b) := by
  obtain ⟨x, y, z⟩ := p
  unfold nonneg tot at *
  unfold addT u1 u2 u3
  dsimp only at hn ht ⊢
  by_cases h0 : a = 0 ∨ b = 0
  · simp [h0]
  · by_cases h1 : a = 3 ∨ b = 3
    · simp [h0, h1, w64b (x := y + 1) (by omega) (by omega)]
    · by_cases h2 : a = b
      · simp only [if_neg h0, if_neg h1, if_pos h2, w64b (x := z + 1) (by omega) (by omega)]; simp
      · simp only [if_neg h0, if_neg h1, if_neg h2, w64b (x := x + 1) (by omega) (by omega)]; simp
def hor (u : Int → Int → Int) (m : List (List Int)) (c i j : Nat) : Int := if j + 1 < c then u (at2 m i j) (at2 m i ((j + 1 : Nat) : Int)) else 0
def ver (u : Int → Int → Int) (m : List (List Int)) (r i j : Nat) : Int := if i + 1 < r then u (at2 m i j) (at2 m ((i + 1 : Nat) : Int) j) else 0
theorem step_u {m : List (List Int)} (h : validB m = true) {p : Int × Int × Int} (hn : nonneg p) (ht : tot p ≤ 999998) (x : Sq m) :
    stepOf m p x = (p.1 + (hor u1 m (rd_L1 m 0).length x.1.1 x.1.2 + ver u1 m m.length x.1.1 x.1.2), p.2.1 + (hor u2 m (rd_L1 m 0).length x.1.1 x.1.2 + ver u2 m m.length x.1.1 x.1.2), p.2.2 + (hor u3 m (rd_L1 m 0).length x.1.1 x.1.2 + ver u3 m m.length x.1.1 x.1.2)) := by
  have hx := rect_len h x
  have hl := ((validB_rows h).2.2.2.2 x.1.1 x.2.1).1
  obtain ⟨⟨i, j⟩, hi, hj⟩ := x
  dsimp only at hx hl hi hj
  unfold hor ver stepOf
  dsimp only
  have e2 : ((j + 1 : Nat) : Int) = (j : Int) + 1 := rfl
  have e3 : ((i + 1 : Nat) : Int) = (i : Int) + 1 := rfl
  rw [e2, e3]
  by_cases h1 : j + 1 < (rd_L1 m 0).length
  · rw [if_pos (show (j : Int) + 1 < ((rd_L1 m i).length : Int) by omega)]
    simp only [if_pos h1]
    obtain ⟨a1, a2, a3, _, _⟩ := addT_tot hn (by omega) (at2 m i j) (at2 m i ((j : Int) + 1))
    by_cases h2 : i + 1 < m.length
    · have hl2 := ((validB_rows h).2.2.2.2 (i + 1) h2).1
      rw [e3] at hl2
      rw [if_pos (show (i : Int) + 1 < (m.length : Int) by omega), if_pos (show (j : Int) < ((rd_L1 m ((i : Int) + 1)).length : Int) by omega)]
      simp only [if_pos h2]
      rw [addT_u a1 (by omega), addT_u hn (by omega)]
      simp only [Int.add_assoc]
    · rw [if_neg (show ¬ (i : Int) + 1 < (m.length : Int) by omega)]
      simp only [if_neg h2, Int.add_zero]
      rw [addT_u hn (by omega)]
  · rw [if_neg (show ¬ (j : Int) + 1 < ((rd_L1 m i).length : Int) by omega)]
    simp only [if_neg h1, Int.zero_add]
    by_cases h2 : i + 1 < m.length
    · have hl2 := ((validB_rows h).2.2.2.2 (i + 1) h2).1
      rw [e3] at hl2
      rw [if_pos (show (i : Int) + 1 < (m.length : Int) by omega), if_pos (show (j : Int) < ((rd_L1 m ((i : Int) + 1)).length : Int) by omega)]
      simp only [if_pos h2]
      rw [addT_u hn (by omega)]
    · rw [if_neg (show ¬ (i : Int) + 1 < (m.length : Int) by omega)]
      simp only [if_neg h2, Int.add_zero]
/-- The sum of a number for each square of a list. -/
def sumSq {m : List (List Int)} (f : Nat → Nat → Int) (l : List (Sq m)) : Int := (l.map (fun x => f x.1.1 x.1.2)).sum
theorem sumSq_cons {m : List (List Int)} (f : Nat → Nat → Int) (x : Sq m) (l : List (Sq m)) : sumSq f (x :: l) = f x.1.1 x.1.2 + sumSq f l := by simp [sumSq]
theorem sumSq_append {m : List (List Int)} (f : Nat → Nat → Int) (a b : List (Sq m)) : sumSq f (a ++ b) = sumSq f a + sumSq f b := by simp [sumSq]
theorem sumSq_row {m : List (List Int)} (f : Nat → Nat → Int) (i : Nat) (hi : i < m.length) : ∀ (k : Nat) (h : k ≤ (rd_L1 m i).length), sumSq f (sqRow m i hi k h) = S k (f i)
  | 0, _ => rfl
  | k + 1, h => by
    simp only [sqRow, S]
    rw [sumSq_append, sumSq_row f i hi k (by omega)]
    simp [sumSq]
theorem sumSq_upto {m : List (List Int)} (hv : validB m = true) (f : Nat → Nat → Int) : ∀ (i : Nat) (h : i ≤ m.length), sumSq f (sqUpto m i h) = S i (fun i => S (rd_L1 m 0).length (f i))
  | 0, _ => rfl
  | i + 1, h => by
    have := ((validB_rows hv).2.2.2.2 i (by omega)).1
    simp only [sqUpto, S]
    rw [sumSq_append, sumSq_upto hv f i (by omega), sumSq_row, this]
theorem sumSq_all {m : List (List Int)} (hv : validB m = true) (f : Nat → Nat → Int) : sumSq f (sqAll m) = S m.length (fun i => S (rd_L1 m 0).length (f i)) := sumSq_upto hv f _ _
def both2 (u : Int → Int → Int) (m : List (List Int)) (i j : Nat) : Int := hor u m (rd_L1 m 0).length i j + ver u m m.length i j
theorem fold_u {m : List (List Int)} (h : validB m = true) : ∀ (l : List (Sq m)) (p : Int × Int × Int), nonneg p → tot p + 2 * l.length ≤ 999998 →
    l.foldl (stepOf m) p = (p.1 + sumSq (both2 u1 m) l, p.2.1 + sumSq (both2 u2 m) l, p.2.2 + sumSq (both2 u3 m) l)
  | [], p, _, _ => by simp [sumSq]
  | x :: l, p, hn, hb => by
    simp only [List.length_cons] at hb
    obtain ⟨h1, h2, h3⟩ := step_tot h hn (by omega) x
    have hnb := nb_le m x
    rw [List.foldl_cons, fold_u h l _ h1 (by omega), step_u h hn (by omega) x, sumSq_cons, sumSq_cons, sumSq_cons]
    simp only [both2, Int.add_assoc]
/-- The three counts of a map, as sums over rows and columns. -/
def cnt (u : Int → Int → Int) (m : List (List Int)) : Int := S m.length (fun i => S (rd_L1 m 0).length (fun j => both2 u m i j))
theorem of_cnt {m : List (List Int)} (h : validB m = true) : (sqAll m).foldl (stepOf m) (0, 0, 0) = (cnt u1 m, cnt u2 m, cnt u3 m) := by
  obtain ⟨h1, h2, h3, h4, _⟩ := validB_rows h
  have hlen := sqAll_len h
  have hms : m.length * (rd_L1 m 0).length ≤ 16 * 16 := Nat.mul_le_mul h2 h4
  rw [fold_u h (sqAll m) (0, 0, 0) ⟨by simp, by simp, by simp⟩ (by unfold tot; simp only []; omega), sumSq_all h, sumSq_all h, sumSq_all h]
  simp [cnt]

/-! ### rows and columns exchanged; upside down -/
end Go.Proofs.Ytalhpnfapagamaa.Pure
