-- Written by this session's own programs; what the law does not lean on is left out. Lean checks it.
import Derived.Test.YtalhpnfapagamaaQP
import Derived.Test.YtalhpnfapagamaaQSm
namespace Go.Proofs.Ytalhpnfapagamaa.Pure
open Go Go.RowKit Go.Proofs.Ytalhpnfapagamaa.S Go.Proofs.YtalhpnfapagamaaW.PrintWords Go.Proofs.YtalhpnfapagamaaW.PrintLast Go.Proofs.Ytalhpnfapagamaa.Plain

theorem mem_lapM {m0 : List S94} (h : ∀ x ∈ m0, x.f0.size ≤ 40) : ∀ x ∈ m0.map lapOf, x.f0.size ≤ 40 := fun x hx => by
 obtain ⟨y, hy, rfl⟩ := List.mem_map.1 hx
 exact h y hy
theorem mem_workM {m1 : List S68} (h : ∀ x ∈ m1, x.f0.size ≤ 40) : ∀ x ∈ m1.map workOf, x.f0.size ≤ 40 := fun x hx => by
 obtain ⟨y, hy, rfl⟩ := List.mem_map.1 hx
 exact h y hy
/-- The number of cuts. -/
def cntK (l : List S62) : Nat := (l.filter (fun s => decide (s.f0 = 3))).length
theorem cntK_cons (s : S62) (l : List S62) : cntK (s :: l) = (if s.f0 = 3 then 1 else 0) + cntK l := by
 unfold cntK
 by_cases h : s.f0 = 3
 ·
  rw [List.filter_cons_of_pos (by simp [h]), if_pos h, List.length_cons]; omega
 ·
  rw [List.filter_cons_of_neg (by simp [h]), if_neg h]; omega
theorem cntK_append (a b : List S62) : cntK (a ++ b) = cntK a + cntK b := by unfold cntK; rw [List.filter_append, List.length_append]
theorem cntK_cuts (l1 : List S93) (s l : Int) : ∀ m k, cntK (cutsL l1 s l m k) = (cutsL l1 s l m k).length
 | 0, _ => rfl
 | m + 1, k => by
  simp only [cutsL]
  split
  ·
   rw [cntK_cons, cntK_cuts l1 s l m (k + 1), List.length_cons]; simp; omega
  ·
   exact cntK_cuts l1 s l m (k + 1)
theorem cuts_length (l1 : List S93) (s l : Int) : (cutsL l1 s l l1.length 0).length = (wk l1 s).length := by rw [cuts_eq]; unfold wk; rw [List.length_map]
theorem cntK_side (l1 : List S93) (s : Int) : ∀ m i p, cntK (sideL l1 s m i p) = m * (wk l1 s).length
 | 0, _, _ => by simp [sideL, cntK]
 | m + 1, i, p => by
  simp only [sideL]
  rw [cntK_append, cntK_append, cntK_cuts, cuts_length, cntK_side l1 s m (i + 1) (i : Int), Nat.add_mul, Nat.one_mul]
  have : cntK (if ((i : Int) != p) = true then [(⟨1, (i : Int), 0⟩ : S62)] else []) = 0 := by split <;> rfl
  omega
theorem cntK_of (n0 : Nat) (l1 : List S93) (hs : sides l1) : cntK (ofL n0 l1) = l1.length * n0 := by
 have hb := wk_both hs
 have h1 := wk_some l1 1
 have h2 := wk_some l1 2
 unfold ofL ofA
 rw [← hb, Nat.add_mul, Nat.mul_comm _ n0, Nat.mul_comm _ n0]
 cases e1 : sidB l1 1 with
 | false =>
  rw [e1] at h1
  have z1 : (wk l1 1).length = 0 := by have := of_decide_eq_false h1.symm; omega
  cases e2 : sidB l1 2 with
  | false =>
   rw [e2] at h2
   have z2 : (wk l1 2).length = 0 := by have := of_decide_eq_false h2.symm; omega
   rw [z1, z2]; rfl
  | true => rw [if_neg (show ¬ (false = true) by simp), if_pos rfl, List.nil_append, cntK_side, z1]; omega
 | true =>
  cases e2 : sidB l1 2 with
  | false =>
   rw [e2] at h2
   have z2 : (wk l1 2).length = 0 := by have := of_decide_eq_false h2.symm; omega
   rw [if_pos rfl, if_neg (show ¬ (false = true) by simp), if_neg (show ¬ (false = true) by simp), List.append_nil, List.append_nil, cntK_side, z2]; omega
  | true =>
   rw [if_pos rfl, if_pos rfl, if_pos rfl, cntK_append, cntK_append, cntK_side, cntK_side]
   have : cntK [(⟨2, 0, 0⟩ : S62)] = 0 := rfl
   omega
end Go.Proofs.Ytalhpnfapagamaa.Pure
