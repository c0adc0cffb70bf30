/- Counting pairs, on lists alone. -/
import Derived.Test.YtalhpnfapagamaaPlain
namespace Go.Proofs.Ytalhpnfapagamaa.Pure
open Go.RowKit Go.Proofs.Ytalhpnfapagamaa.C Go.Proofs.Ytalhpnfapagamaa.Plain Go.Proofs.YtalhpnfapagamaaW.PrintWords Go.Proofs.YtalhpnfapagamaaW.PrintLast

theorem change_ev (a b : List (List Int)) : Ev (fun k => contrast_Change.f k a b) (if validB a = true then (if validB b = true then (if a.length = b.length ∧ (rd_L1 a 0).length = (rd_L1 b 0).length then (((sqAll a).foldl (stepCh a b) (0, 0, 0)).1, ((sqAll a).foldl (stepCh a b) (0, 0, 0)).2.1, ((sqAll a).foldl (stepCh a b) (0, 0, 0)).2.2, (0 : Int)) else (0, 0, 0, 1)) else (0, 0, 0, 1)) else (0, 0, 0, 1)) := by
  refine Ev.congr (fun k => by unfold contrast_Change.f; rfl) (Ev.bind (window_valid_ev a) ?_)
  cases validB a with
  | false => simpa using Ev.now _
  | true =>
    simp only [if_true]
    refine Ev.bind (window_valid_ev b) ?_
    cases validB b with
    | false => simpa using Ev.now _
    | true =>
      simp only [if_true]
      by_cases h : a.length = b.length ∧ (rd_L1 a 0).length = (rd_L1 b 0).length
      · rw [if_pos h, if_pos h]; exact Ev.now _
      · rw [if_neg h, if_neg h]; exact Ev.now _

/-- The number of pairs counted so far. -/
def tot (p : Int × Int × Int) : Int := p.1 + p.2.1 + p.2.2
def nonneg (p : Int × Int × Int) : Prop := 0 ≤ p.1 ∧ 0 ≤ p.2.1 ∧ 0 ≤ p.2.2
theorem addT_tot {p : Int × Int × Int} (hn : nonneg p) (ht : tot p ≤ 1000000) (a b : Int) : nonneg (addT p a b) ∧ tot p ≤ tot (addT p a b) ∧ tot (addT p a b) ≤ tot p + 1 ∧ (a ≠ 0 → b ≠ 0 → tot (addT p a b) = tot p + 1) ∧ (a = b → (addT p a b).1 = p.1) := by
  obtain ⟨x, y, z⟩ := p
  unfold nonneg tot at *
  unfold addT
  dsimp only at hn ht ⊢
  by_cases h0 : a = 0 ∨ b = 0
  · rw [if_pos h0]; dsimp only; refine ⟨hn, by omega, by omega, fun h1 h2 => by omega, fun _ => rfl⟩
  · rw [if_neg h0]
    by_cases h1 : a = 3 ∨ b = 3
    · rw [if_pos h1]; dsimp only; unfold wrap64; refine ⟨by omega, by omega, by omega, fun _ _ => by omega, fun _ => rfl⟩
    · rw [if_neg h1]
      by_cases h2 : a = b
      · rw [if_pos h2]; dsimp only; unfold wrap64; refine ⟨by omega, by omega, by omega, fun _ _ => by omega, fun _ => rfl⟩
      · rw [if_neg h2]; dsimp only; unfold wrap64; refine ⟨by omega, by omega, by omega, fun _ _ => by omega, fun h => absurd h h2⟩

theorem rect_len {m : List (List Int)} (h : validB m = true) (x : Sq m) : x.1.2 < (rd_L1 m 0).length := by
  have := ((validB_rows h).2.2.2.2 x.1.1 x.2.1).1
  have := x.2.2
  omega
theorem sqUpto_len {m : List (List Int)} (h : validB m = true) : ∀ (i : Nat) (hi : i ≤ m.length), (sqUpto m i hi).length = i * (rd_L1 m 0).length
  | 0, _ => by simp [sqUpto]
  | i + 1, hi => by
    have := ((validB_rows h).2.2.2.2 i (by omega)).1
    simp only [sqUpto, List.length_append, sqRow_length]
    rw [sqUpto_len h i (by omega), this, Nat.add_mul, Nat.one_mul]
theorem sqAll_len {m : List (List Int)} (h : validB m = true) : (sqAll m).length = m.length * (rd_L1 m 0).length := sqUpto_len h _ _

theorem self_fold (m : List (List Int)) : ∀ (l : List (Sq m)) (p : Int × Int × Int), nonneg p → tot p + l.length ≤ 1000000 → nonneg (l.foldl (stepCh m m) p) ∧ (l.foldl (stepCh m m) p).1 = p.1 ∧ tot (l.foldl (stepCh m m) p) ≤ tot p + l.length
  | [], p, hn, _ => ⟨hn, rfl, by simp⟩
  | x :: l, p, hn, hb => by
    simp only [List.length_cons] at hb
    obtain ⟨h1, h2, h3, _, h5⟩ := addT_tot hn (by omega) (at2 m x.1.1 x.1.2) (at2 m x.1.1 x.1.2)
    have := self_fold m l (stepCh m m p x) h1 (by unfold stepCh; omega)
    refine ⟨this.1, this.2.1.trans (h5 rfl), ?_⟩
    have h6 := this.2.2
    simp only [List.foldl_cons, List.length_cons]
    unfold stepCh at h6 ⊢
    omega

/-- Square x has so many neighbours to its right and below. -/
def nb (m : List (List Int)) (x : Sq m) : Int := (if x.1.2 + 1 < (rd_L1 m 0).length then 1 else 0) + (if x.1.1 + 1 < m.length then 1 else 0)
def nbs (m : List (List Int)) (l : List (Sq m)) : Int := (l.map (nb m)).sum
theorem nbs_append (m : List (List Int)) (a b : List (Sq m)) : nbs m (a ++ b) = nbs m a + nbs m b := by simp [nbs]
def whole0 (m : List (List Int)) : Prop := ∀ i j : Nat, i < m.length → j < (rd_L1 m 0).length → at2 m i j ≠ 0
theorem step_tot {m : List (List Int)} (h : validB m = true) {p : Int × Int × Int} (hn : nonneg p) (ht : tot p ≤ 999998) (x : Sq m) : nonneg (stepOf m p x) ∧ tot (stepOf m p x) ≤ tot p + nb m x ∧ (whole0 m → tot (stepOf m p x) = tot p + nb m x) := by
  have hx := rect_len h x
  have hl := ((validB_rows h).2.2.2.2 x.1.1 x.2.1).1
  obtain ⟨⟨i, j⟩, hi, hj⟩ := x
  dsimp only at hx hl hi hj
  unfold nb stepOf
  dsimp only
  have e2 : ((j + 1 : Nat) : Int) = (j : Int) + 1 := rfl
  have e3 : ((i + 1 : Nat) : Int) = (i : Int) + 1 := rfl
  by_cases h1 : j + 1 < (rd_L1 m 0).length
  · rw [if_pos (show (j : Int) + 1 < ((rd_L1 m i).length : Int) by omega), if_pos h1]
    obtain ⟨a1, a2, a3, a4, _⟩ := addT_tot hn (by omega) (at2 m i j) (at2 m i ((j : Int) + 1))
    have w1 : whole0 m → tot (addT p (at2 m i j) (at2 m i ((j : Int) + 1))) = tot p + 1 := fun hw => a4 (hw i j hi hx) (by rw [← e2]; exact hw i (j + 1) hi h1)
    by_cases h2 : i + 1 < m.length
    · have hl2 := ((validB_rows h).2.2.2.2 (i + 1) h2).1
      rw [e3] at hl2
      rw [if_pos (show (i : Int) + 1 < (m.length : Int) by omega), if_pos (show (j : Int) < ((rd_L1 m ((i : Int) + 1)).length : Int) by omega), if_pos h2]
      obtain ⟨b1, b2, b3, b4, _⟩ := addT_tot a1 (by omega) (at2 m i j) (at2 m ((i : Int) + 1) j)
      refine ⟨b1, by omega, fun hw => ?_⟩
      have := w1 hw
      have := b4 (hw i j hi hx) (by rw [← e3]; exact hw (i + 1) j h2 hx)
      omega
    · rw [if_neg (show ¬ (i : Int) + 1 < (m.length : Int) by omega), if_neg h2]
      exact ⟨a1, by omega, fun hw => by have := w1 hw; omega⟩
  · rw [if_neg (show ¬ (j : Int) + 1 < ((rd_L1 m i).length : Int) by omega), if_neg h1]
    by_cases h2 : i + 1 < m.length
    · have hl2 := ((validB_rows h).2.2.2.2 (i + 1) h2).1
      rw [e3] at hl2
      rw [if_pos (show (i : Int) + 1 < (m.length : Int) by omega), if_pos (show (j : Int) < ((rd_L1 m ((i : Int) + 1)).length : Int) by omega), if_pos h2]
      obtain ⟨b1, b2, b3, b4, _⟩ := addT_tot hn (by omega) (at2 m i j) (at2 m ((i : Int) + 1) j)
      refine ⟨b1, by omega, fun hw => ?_⟩
      have := b4 (hw i j hi hx) (by rw [← e3]; exact hw (i + 1) j h2 hx)
      omega
    · rw [if_neg (show ¬ (i : Int) + 1 < (m.length : Int) by omega), if_neg h2]
      exact ⟨hn, by omega, fun _ => by omega⟩
theorem nb_le (m : List (List Int)) (x : Sq m) : 0 ≤ nb m x ∧ nb m x ≤ 2 := by unfold nb; split <;> split <;> omega
theorem of_fold {m : List (List Int)} (h : validB m = true) : ∀ (l : List (Sq m)) (p : Int × Int × Int), nonneg p → tot p + 2 * l.length ≤ 999998 → nonneg (l.foldl (stepOf m) p) ∧ tot (l.foldl (stepOf m) p) ≤ tot p + nbs m l ∧ (whole0 m → tot (l.foldl (stepOf m) p) = tot p + nbs m l)
  | [], p, hn, _ => ⟨hn, by simp [nbs], fun _ => by simp [nbs]⟩
  | x :: l, p, hn, hb => by
    simp only [List.length_cons] at hb
    obtain ⟨h1, h2, h3⟩ := step_tot h hn (by omega) x
    have hnb := nb_le m x
    obtain ⟨i1, i2, i3⟩ := of_fold h l (stepOf m p x) h1 (by omega)
    have e : nbs m (x :: l) = nb m x + nbs m l := by simp [nbs]
    simp only [List.foldl_cons]
    exact ⟨i1, by omega, fun hw => by have := h3 hw; have := i3 hw; omega⟩
theorem nbs_row {m : List (List Int)} (i : Nat) (hi : i < m.length) : ∀ (k : Nat) (h : k ≤ (rd_L1 m i).length), k ≤ (rd_L1 m 0).length → nbs m (sqRow m i hi k h) = (if k = (rd_L1 m 0).length then (k : Int) - 1 else k) + (if i + 1 < m.length then (k : Int) else 0) ∨ k = 0
  | 0, _, _ => .inr rfl
  | k + 1, h, hk => by
    left
    have e : sqRow m i hi (k + 1) h = sqRow m i hi k (by omega) ++ [⟨(i, k), hi, h⟩] := rfl
    have e1 : nbs m [(⟨(i, k), hi, h⟩ : Sq m)] = (if k + 1 < (rd_L1 m 0).length then 1 else 0) + (if i + 1 < m.length then 1 else 0) := by simp [nbs, nb]
    rw [e, nbs_append, e1]
    rcases nbs_row i hi k (by omega) (by omega) with ih | ih
    · rw [ih, if_neg (show ¬ k = (rd_L1 m 0).length by omega)]
      by_cases h1 : k + 1 = (rd_L1 m 0).length
      · rw [if_pos h1, if_neg (show ¬ k + 1 < (rd_L1 m 0).length by omega)]; split <;> omega
      · rw [if_neg h1, if_pos (show k + 1 < (rd_L1 m 0).length by omega)]; split <;> omega
    · subst ih
      simp only [sqRow, nbs, List.map_nil, List.sum_nil]
      by_cases h1 : 0 + 1 = (rd_L1 m 0).length
      · rw [if_pos h1, if_neg (show ¬ 0 + 1 < (rd_L1 m 0).length by omega)]; split <;> omega
      · rw [if_neg h1, if_pos (show 0 + 1 < (rd_L1 m 0).length by omega)]; split <;> omega
theorem nbs_upto {m : List (List Int)} (h : validB m = true) : ∀ (i : Nat) (hi : i ≤ m.length), nbs m (sqUpto m i hi) = (i : Int) * (((rd_L1 m 0).length : Int) - 1) + (if i = m.length then (i : Int) - 1 else i) * ((rd_L1 m 0).length : Int) ∨ i = 0
  | 0, _ => .inr rfl
  | i + 1, hi => by
    left
    obtain ⟨h1, h2, h3, h4, h5⟩ := validB_rows h
    have hl := (h5 i (by omega)).1
    have e : sqUpto m (i + 1) hi = sqUpto m i (by omega) ++ sqRow m i (by omega) (rd_L1 m i).length (Nat.le_refl _) := rfl
    rw [e, nbs_append]
    have hr := nbs_row (m := m) i (by omega) (rd_L1 m i).length (Nat.le_refl _) (by omega)
    rcases hr with hr | hr
    · have hr' : nbs m (sqRow m i (by omega) (rd_L1 m i).length (Nat.le_refl _)) = ((rd_L1 m 0).length : Int) - 1 + (if i + 1 < m.length then ((rd_L1 m 0).length : Int) else 0) := by rw [hr, if_pos hl, hl]
      rw [hr']
      clear hr hr' hl h5
      have e1 : ((i + 1 : Nat) : Int) = (i : Int) + 1 := rfl
      rcases nbs_upto h i (by omega) with ih | ih
      · rw [ih, if_neg (show ¬ i = m.length by omega), e1]
        generalize ((rd_L1 m 0).length : Int) = c at *
        by_cases h6 : i + 1 = m.length
        · rw [if_pos h6, if_neg (show ¬ i + 1 < m.length by omega), Int.add_mul, show (i : Int) + 1 - 1 = i by omega, Int.one_mul]; omega
        · rw [if_neg h6, if_pos (show i + 1 < m.length by omega), Int.add_mul, Int.add_mul, Int.one_mul, Int.one_mul]; omega
      · subst ih
        simp only [sqUpto, nbs, List.map_nil, List.sum_nil]
        by_cases h6 : 0 + 1 = m.length
        · rw [if_pos h6, if_neg (show ¬ 0 + 1 < m.length by omega)]; simp
        · rw [if_neg h6, if_pos (show 0 + 1 < m.length by omega)]; simp
    · omega
theorem nbs_all {m : List (List Int)} (h : validB m = true) : nbs m (sqAll m) = (m.length : Int) * (((rd_L1 m 0).length : Int) - 1) + ((rd_L1 m 0).length : Int) * ((m.length : Int) - 1) := by
  obtain ⟨h1, _⟩ := validB_rows h
  rcases nbs_upto h m.length (Nat.le_refl _) with ih | ih
  · show nbs m (sqUpto m m.length _) = _
    rw [ih, if_pos rfl, Int.mul_comm ((m.length : Int) - 1)]
  · omega
theorem mul_small {a b : Int} (ha : 0 ≤ a) (ha' : a ≤ 16) (hb : 0 ≤ b) (hb' : b ≤ 16) : 0 ≤ a * b ∧ a * b ≤ 256 := by
  refine ⟨Int.mul_nonneg ha hb, ?_⟩
  have := Int.mul_le_mul ha' hb' hb (by omega)
  omega
theorem w64 {x : Int} (h0 : -1000000 ≤ x) (h1 : x ≤ 1000000) : wrap64 x = x := by unfold wrap64; omega


end Go.Proofs.Ytalhpnfapagamaa.Pure
