/- Counting pairs, on lists alone. -/
import Derived.Test.YtalhpnfapagamaaFPlain
namespace Go.Proofs.Ytalhpnfapagamaa.Pure
open Go.RowKit Go.Proofs.Ytalhpnfapagamaa.C Go.Proofs.Ytalhpnfapagamaa.Plain Go.Proofs.YtalhpnfapagamaaW.PrintWords Go.Proofs.YtalhpnfapagamaaW.PrintLast

theorem change_ev (a b : List (List Int)) : Ev (fun k => contrast_Change.f k a b) (if validB a = true then (if validB b = true then (if a.length = b.length ∧ (rd_L1 a 0).length = (rd_L1 b 0).length then (((sqAll a).foldl (stepCh a b) (0, 0, 0)).1, ((sqAll a).foldl (stepCh a b) (0, 0, 0)).2.1, ((sqAll a).foldl (stepCh a b) (0, 0, 0)).2.2, (0 : Int)) else (0, 0, 0, 1)) else (0, 0, 0, 1)) else (0, 0, 0, 1)) := by
  refine Ev.congr (fun k => by unfold contrast_Change.f; rfl) (Ev.bind (window_valid_ev a) ?_)
  cases validB a with
  | false => simpa using Ev.now _
  | true =>
    simp only [if_true]
    refine Ev.bind (window_valid_ev b) ?_
    cases validB b with
    | false => simpa using Ev.now _
    | true =>
      simp only [if_true]
      by_cases h : a.length = b.length ∧ (rd_L1 a 0).length = (rd_L1 b 0).length
      · rw [if_pos h, if_pos h]; exact Ev.now _
      · rw [if_neg h, if_neg h]; exact Ev.now _

/-- The number of pairs counted so far. -/
def tot (p : Int × Int × Int) : Int := p.1 + p.2.1 + p.2.2
def nonneg (p : Int × Int × Int) : Prop := 0 ≤ p.1 ∧ 0 ≤ p.2.1 ∧ 0 ≤ p.2.2
theorem addT_tot {p : Int × Int × Int} (hn : nonneg p) (ht : tot p ≤ 1000000) (a b : Int) : nonneg (addT p a b) ∧ tot p ≤ tot (addT p a b) ∧ tot (addT p a b) ≤ tot p + 1 ∧ (a ≠ 0 → b ≠ 0 → tot (addT p a b) = tot p + 1) ∧ (a = b → (addT p a b).1 = p.1) := by
  obtain ⟨x, y, z⟩ := p
  unfold nonneg tot at *
  unfold addT
  dsimp only at hn ht ⊢
  by_cases h0 : a = 0 ∨ b = 0
  · rw [if_pos h0]; dsimp only; refine ⟨hn, by omega, by omega, fun h1 h2 => by omega, fun _ => rfl⟩
  · rw [if_neg h0]
    by_cases h1 : a = 3 ∨ b = 3
    · rw [if_pos h1]; dsimp only; unfold wrap64; refine ⟨by omega, by omega, by omega, fun _ _ => by omega, fun _ => rfl⟩
    · rw [if_neg h1]
      by_cases h2 : a = b
      · rw [if_pos h2]; dsimp only; unfold wrap64; refine ⟨by omega, by omega, by omega, fun _ _ => by omega, fun _ => rfl⟩
      · rw [if_neg h2]; dsimp only; unfold wrap64; refine ⟨by omega, by omega, by omega, fun _ _ => by omega, fun h => absurd h h2⟩

theorem rect_len {m : List (List Int)} (h : validB m = true) (x : Sq m) : x.1.2 < (rd_L1 m 0).length := by
  have := ((validB_rows h).2.2.2.2 x.1.1 x.2.1).1
  have := x.2.2
  omega
theorem sqUpto_len {m : List (List Int)} (h : validB m = true) : ∀ (i : Nat) (hi : i ≤ m.length), (sqUpto m i hi).length = i * (rd_L1 m 0).length
  | 0, _ => by simp [sqUpto]
  | i + 1, hi => by
    have := ((validB_rows h).2.2.2.2 i (by omega)).1
    simp only [sqUpto, List.length_append, sqRow_length]
    rw [sqUpto_len h i (by omega), this, Nat.add_mul, Nat.one_mul]
theorem sqAll_len {m : List (List Int)} (h : validB m = true) : (sqAll m).length = m.length * (rd_L1 m 0).length := sqUpto_len h _ _

/-- Square x has so many neighbours to its right and below. -/
def nb (m : List (List Int)) (x : Sq m) : Int := (if x.1.2 + 1 < (rd_L1 m 0).length then 1 else 0) + (if x.1.1 + 1 < m.length then 1 else 0)
def whole0 (m : List (List Int)) : Prop := ∀ i j : Nat, i < m.length → j < (rd_L1 m 0).length → at2 m i j ≠ 0
theorem step_tot {m : List (List Int)} (h : validB m = true) {p : Int × Int × Int} (hn : nonneg p) (ht : tot p ≤ 999998) (x : Sq m) : nonneg (stepOf m p x) ∧ tot (stepOf m p x) ≤ tot p + nb m x ∧ (whole0 m → tot (stepOf m p x) = tot p + nb m x) := by
  have hx := rect_len h x
  have hl := ((validB_rows h).2.2.2.2 x.1.1 x.2.1).1
  obtain ⟨⟨i, j⟩, hi, hj⟩ := x
  dsimp only at hx hl hi hj
  unfold nb stepOf
  dsimp only
  have e2 : ((j + 1 : Nat) : Int) = (j : Int) + 1 := rfl
  have e3 : ((i + 1 : Nat) : Int) = (i : Int) + 1 := rfl
  by_cases h1 : j + 1 < (rd_L1 m 0).length
  · rw [if_pos (show (j : Int) + 1 < ((rd_L1 m i).length : Int) by omega), if_pos h1]
    obtain ⟨a1, a2, a3, a4, _⟩ := addT_tot hn (by omega) (at2 m i j) (at2 m i ((j : Int) + 1))
    have w1 : whole0 m → tot (addT p (at2 m i j) (at2 m i ((j : Int) + 1))) = tot p + 1 := fun hw => a4 (hw i j hi hx) (by rw [← e2]; exact hw i (j + 1) hi h1)
    by_cases h2 : i + 1 < m.length
    · have hl2 := ((validB_rows h).2.2.2.2 (i + 1) h2).1
      rw [e3] at hl2
      rw [if_pos (show (i : Int) + 1 < (m.length : Int) by omega), if_pos (show (j : Int) < ((rd_L1 m ((i : Int) + 1)).length : Int) by omega), if_pos h2]
      obtain ⟨b1, b2, b3, b4, _⟩ := addT_tot a1 (by omega) (at2 m i j) (at2 m ((i : Int) + 1) j)
      refine ⟨b1, by omega, fun hw => ?_⟩
      have := w1 hw
      have := b4 (hw i j hi hx) (by rw [← e3]; exact hw (i + 1) j h2 hx)
      omega
    · rw [if_neg (show ¬ (i : Int) + 1 < (m.length : Int) by omega), if_neg h2]
      exact ⟨a1, by omega, fun hw => by have := w1 hw; omega⟩
  · rw [if_neg (show ¬ (j : Int) + 1 < ((rd_L1 m i).length : Int) by omega), if_neg h1]
    by_cases h2 : i + 1 < m.length
    · have hl2 := ((validB_rows h).2.2.2.2 (i + 1) h2).1
      rw [e3] at hl2
      rw [if_pos (show (i : Int) + 1 < (m.length : Int) by omega), if_pos (show (j : Int) < ((rd_L1 m ((i : Int) + 1)).length : Int) by omega), if_pos h2]
      obtain ⟨b1, b2, b3, b4, _⟩ := addT_tot hn (by omega) (at2 m i j) (at2 m ((i : Int) + 1) j)
      refine ⟨b1, by omega, fun hw => ?_⟩
      have := b4 (hw i j hi hx) (by rw [← e3]; exact hw (i + 1) j h2 hx)
      omega
    · rw [if_neg (show ¬ (i : Int) + 1 < (m.length : Int) by omega), if_neg h2]
      exact ⟨hn, by omega, fun _ => by omega⟩
theorem nb_le (m : List (List Int)) (x : Sq m) : 0 ≤ nb m x ∧ nb m x ≤ 2 := by unfold nb; split <;> split <;> omega
end Go.Proofs.Ytalhpnfapagamaa.Pure
