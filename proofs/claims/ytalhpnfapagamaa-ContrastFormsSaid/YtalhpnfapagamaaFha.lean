-- Written by this session's own program over the kit's printer, with hand-made contracts, then mended by hand. Lean checks it.
import Derived.Test.YtalhpnfapagamaaF0
import Derived.Test.YtalhpnfapagamaaF5
import Derived.Test.YtalhpnfapagamaaF8
namespace Go.Proofs.Ytalhpnfapagamaa.C
open Go.RowKit Go.Proofs.YtalhpnfapagamaaW.PrintWords Go.Proofs.YtalhpnfapagamaaW.PrintLast Go.Proofs.YtalhpnfapagamaaW.PrintMore
attribute [local go_sem] max2_int min2_int max_two min_two max_three min_three max_four min_four   -- for this text's walks alone
set_option linter.unusedVariables false
set_option linter.unusedSimpArgs false

/-! ### culetref36_Symmetric: function 23 -/
mutual
def culetref36_Symmetric.l0 : Nat → List (List Int) → Int → Int → Bool → Bool → Bool → Int → Option (Bool × Bool × Bool × Int)
 | 0, _, _, _, _, _, _, _ => none
 | k + 1, x0, x6, x7, x8, x9, x10, x11 => if x11 < x6 then (culetref36_Symmetric.l1 k x0 x6 x7 x8 x9 x10 x11 0) else (some (x8, x9, x10, 0))
def culetref36_Symmetric.l1 : Nat → List (List Int) → Int → Int → Bool → Bool → Bool → Int → Int → Option (Bool × Bool × Bool × Int)
 | 0, _, _, _, _, _, _, _, _ => none
 | k + 1, x0, x6, x7, x8, x9, x10, x11, x12 => if x12 < x7 then (if x8 = true then (if 0 ≤ x11 then (if x11 < (x0.length : Int) then (if 0 ≤ x12 then (if x12 < ((rd_L1 x0 x11).length : Int) then (if x12 < (x0.length : Int) then (if 0 ≤ (wrap64 ((wrap64 (x7 - 1)) - x11)) then (if (wrap64 ((wrap64 (x7 - 1)) - x11)) < ((rd_L1 x0 x12).length : Int) then ((culetref36_Pairs_add.f k 0 0 0 (rd (rd_L1 x0 x11) x12) (rd (rd_L1 x0 x12) (wrap64 ((wrap64 (x7 - 1)) - x11)))).bind fun bt190 => (culetref36_Symmetric.j2 k x0 x6 x7 x8 x9 x10 x11 x12 (decide (bt190.1 > 0)))) else (none)) else (none)) else (none)) else (none)) else (none)) else (none)) else (none)) else (culetref36_Symmetric.j2 k x0 x6 x7 x8 x9 x10 x11 x12 false)) else (culetref36_Symmetric.l0 k x0 x6 x7 x8 x9 x10 (wrap64 (x11 + 1)))
def culetref36_Symmetric.j2 : Nat → List (List Int) → Int → Int → Bool → Bool → Bool → Int → Int → Bool → Option (Bool × Bool × Bool × Int)
 | 0, _, _, _, _, _, _, _, _, _ => none
 | k + 1, x0, x6, x7, x8, x9, x10, x11, x12, x58 => if x58 = true then (culetref36_Symmetric.j3 k x0 x6 x7 false x9 x10 x11 x12) else (culetref36_Symmetric.j3 k x0 x6 x7 x8 x9 x10 x11 x12)
def culetref36_Symmetric.j3 : Nat → List (List Int) → Int → Int → Bool → Bool → Bool → Int → Int → Option (Bool × Bool × Bool × Int)
 | 0, _, _, _, _, _, _, _, _ => none
 | k + 1, x0, x6, x7, x8, x9, x10, x11, x12 => if 0 ≤ x11 then (if x11 < (x0.length : Int) then (if 0 ≤ x12 then (if x12 < ((rd_L1 x0 x11).length : Int) then (if 0 ≤ (wrap64 ((wrap64 (x6 - 1)) - x11)) then (if (wrap64 ((wrap64 (x6 - 1)) - x11)) < (x0.length : Int) then (if 0 ≤ (wrap64 ((wrap64 (x7 - 1)) - x12)) then (if (wrap64 ((wrap64 (x7 - 1)) - x12)) < ((rd_L1 x0 (wrap64 ((wrap64 (x6 - 1)) - x11))).length : Int) then ((culetref36_Pairs_add.f k 0 0 0 (rd (rd_L1 x0 x11) x12) (rd (rd_L1 x0 (wrap64 ((wrap64 (x6 - 1)) - x11))) (wrap64 ((wrap64 (x7 - 1)) - x12)))).bind fun bt197 => (if bt197.1 > 0 then (if (wrap64 ((wrap64 (x7 - 1)) - x12)) < ((rd_L1 x0 x11).length : Int) then ((culetref36_Pairs_add.f k 0 0 0 (rd (rd_L1 x0 x11) x12) (rd (rd_L1 x0 x11) (wrap64 ((wrap64 (x7 - 1)) - x12)))).bind fun bt204 => (if bt204.1 > 0 then (culetref36_Symmetric.l1 k x0 x6 x7 x8 false false x11 (wrap64 (x12 + 1))) else (culetref36_Symmetric.l1 k x0 x6 x7 x8 false x10 x11 (wrap64 (x12 + 1))))) else (none)) else (if (wrap64 ((wrap64 (x7 - 1)) - x12)) < ((rd_L1 x0 x11).length : Int) then ((culetref36_Pairs_add.f k 0 0 0 (rd (rd_L1 x0 x11) x12) (rd (rd_L1 x0 x11) (wrap64 ((wrap64 (x7 - 1)) - x12)))).bind fun bt211 => (if bt211.1 > 0 then (culetref36_Symmetric.l1 k x0 x6 x7 x8 x9 false x11 (wrap64 (x12 + 1))) else (culetref36_Symmetric.l1 k x0 x6 x7 x8 x9 x10 x11 (wrap64 (x12 + 1))))) else (none)))) else (none)) else (none)) else (none)) else (none)) else (none)) else (none)) else (none)) else (none)
end
def culetref36_Symmetric.f (k : Nat) (l0 : List (List Int)) : Option (Bool × Bool × Bool × Int) := (culetref35_Valid.f k l0).bind fun t184 => (if t184 = true then (if 0 < (l0.length : Int) then (culetref36_Symmetric.l0 k l0 (l0.length : Int) ((rd_L1 l0 0).length : Int) ((l0.length : Int) == ((rd_L1 l0 0).length : Int)) true true 0) else (none)) else (some (false, false, false, 1)))
theorem culetref36_Symmetric.mono_l : ∀ k, (∀ y0 y1 y2 y3 y4 y5 y6, LeO (culetref36_Symmetric.l0 k y0 y1 y2 y3 y4 y5 y6) (culetref36_Symmetric.l0 (k + 1) y0 y1 y2 y3 y4 y5 y6)) ∧ (∀ y0 y1 y2 y3 y4 y5 y6 y7, LeO (culetref36_Symmetric.l1 k y0 y1 y2 y3 y4 y5 y6 y7) (culetref36_Symmetric.l1 (k + 1) y0 y1 y2 y3 y4 y5 y6 y7)) ∧ (∀ y0 y1 y2 y3 y4 y5 y6 y7 y8, LeO (culetref36_Symmetric.j2 k y0 y1 y2 y3 y4 y5 y6 y7 y8) (culetref36_Symmetric.j2 (k + 1) y0 y1 y2 y3 y4 y5 y6 y7 y8)) ∧ (∀ y0 y1 y2 y3 y4 y5 y6 y7, LeO (culetref36_Symmetric.j3 k y0 y1 y2 y3 y4 y5 y6 y7) (culetref36_Symmetric.j3 (k + 1) y0 y1 y2 y3 y4 y5 y6 y7))
 | 0 => ⟨fun _ _ _ _ _ _ _ r h => by simp [culetref36_Symmetric.l0] at h, fun _ _ _ _ _ _ _ _ r h => by simp [culetref36_Symmetric.l1] at h, fun _ _ _ _ _ _ _ _ _ r h => by simp [culetref36_Symmetric.j2] at h, fun _ _ _ _ _ _ _ _ r h => by simp [culetref36_Symmetric.j3] at h⟩
 | k + 1 => by
  obtain ⟨ih0, ih1, ih2, ih3⟩ := culetref36_Symmetric.mono_l k
  refine ⟨?_, ?_, ?_, ?_⟩
  ·
   intro y0 y1 y2 y3 y4 y5 y6
   unfold culetref36_Symmetric.l0
   repeat' first
   | (with_reducible exact ih0 _ _ _ _ _ _ _)
   | (with_reducible exact ih1 _ _ _ _ _ _ _ _)
   | (with_reducible exact ih2 _ _ _ _ _ _ _ _ _)
   | (with_reducible exact ih3 _ _ _ _ _ _ _ _)
   | (with_reducible exact culetref35_Valid.mono _ _)
   | (with_reducible exact culetref36_Pairs_add.mono _ _ _ _ _ _)
   | (with_reducible exact LeO.refl _)
   | (with_reducible exact LeO.none _)
   | (with_reducible refine LeO.ite ?_ ?_)
   | (with_reducible refine LeO.bind ?_ (fun _ => ?_))
   | exact ih0 _ _ _ _ _ _ _
   | exact ih1 _ _ _ _ _ _ _ _
   | exact ih2 _ _ _ _ _ _ _ _ _
   | exact ih3 _ _ _ _ _ _ _ _
   | exact culetref35_Valid.mono _ _
   | exact culetref36_Pairs_add.mono _ _ _ _ _ _
   | exact LeO.none _
   | refine LeO.ite ?_ ?_
   | refine LeO.bind ?_ (fun _ => ?_)
  ·
   intro y0 y1 y2 y3 y4 y5 y6 y7
   unfold culetref36_Symmetric.l1
   repeat' first
   | (with_reducible exact ih0 _ _ _ _ _ _ _)
   | (with_reducible exact ih1 _ _ _ _ _ _ _ _)
   | (with_reducible exact ih2 _ _ _ _ _ _ _ _ _)
   | (with_reducible exact ih3 _ _ _ _ _ _ _ _)
   | (with_reducible exact culetref35_Valid.mono _ _)
   | (with_reducible exact culetref36_Pairs_add.mono _ _ _ _ _ _)
   | (with_reducible exact LeO.refl _)
   | (with_reducible exact LeO.none _)
   | (with_reducible refine LeO.ite ?_ ?_)
   | (with_reducible refine LeO.bind ?_ (fun _ => ?_))
   | exact ih0 _ _ _ _ _ _ _
   | exact ih1 _ _ _ _ _ _ _ _
   | exact ih2 _ _ _ _ _ _ _ _ _
   | exact ih3 _ _ _ _ _ _ _ _
   | exact culetref35_Valid.mono _ _
   | exact culetref36_Pairs_add.mono _ _ _ _ _ _
   | exact LeO.none _
   | refine LeO.ite ?_ ?_
   | refine LeO.bind ?_ (fun _ => ?_)
  ·
   intro y0 y1 y2 y3 y4 y5 y6 y7 y8
   unfold culetref36_Symmetric.j2
   repeat' first
   | (with_reducible exact ih0 _ _ _ _ _ _ _)
   | (with_reducible exact ih1 _ _ _ _ _ _ _ _)
   | (with_reducible exact ih2 _ _ _ _ _ _ _ _ _)
   | (with_reducible exact ih3 _ _ _ _ _ _ _ _)
   | (with_reducible exact culetref35_Valid.mono _ _)
   | (with_reducible exact culetref36_Pairs_add.mono _ _ _ _ _ _)
   | (with_reducible exact LeO.refl _)
   | (with_reducible exact LeO.none _)
   | (with_reducible refine LeO.ite ?_ ?_)
   | (with_reducible refine LeO.bind ?_ (fun _ => ?_))
   | exact ih0 _ _ _ _ _ _ _
   | exact ih1 _ _ _ _ _ _ _ _
   | exact ih2 _ _ _ _ _ _ _ _ _
   | exact ih3 _ _ _ _ _ _ _ _
   | exact culetref35_Valid.mono _ _
   | exact culetref36_Pairs_add.mono _ _ _ _ _ _
   | exact LeO.none _
   | refine LeO.ite ?_ ?_
   | refine LeO.bind ?_ (fun _ => ?_)
  ·
   intro y0 y1 y2 y3 y4 y5 y6 y7
   unfold culetref36_Symmetric.j3
   repeat' first
   | (with_reducible exact ih0 _ _ _ _ _ _ _)
   | (with_reducible exact ih1 _ _ _ _ _ _ _ _)
   | (with_reducible exact ih2 _ _ _ _ _ _ _ _ _)
   | (with_reducible exact ih3 _ _ _ _ _ _ _ _)
   | (with_reducible exact culetref35_Valid.mono _ _)
   | (with_reducible exact culetref36_Pairs_add.mono _ _ _ _ _ _)
   | (with_reducible exact LeO.refl _)
   | (with_reducible exact LeO.none _)
   | (with_reducible refine LeO.ite ?_ ?_)
   | (with_reducible refine LeO.bind ?_ (fun _ => ?_))
   | exact ih0 _ _ _ _ _ _ _
   | exact ih1 _ _ _ _ _ _ _ _
   | exact ih2 _ _ _ _ _ _ _ _ _
   | exact ih3 _ _ _ _ _ _ _ _
   | exact culetref35_Valid.mono _ _
   | exact culetref36_Pairs_add.mono _ _ _ _ _ _
   | exact LeO.none _
   | refine LeO.ite ?_ ?_
   | refine LeO.bind ?_ (fun _ => ?_)
theorem culetref36_Symmetric.mono : ∀ a0 k, LeO (culetref36_Symmetric.f k a0) (culetref36_Symmetric.f (k + 1) a0) := by
 intro a0 k
 obtain ⟨ih0, ih1, ih2, ih3⟩ := culetref36_Symmetric.mono_l k
 unfold culetref36_Symmetric.f
 repeat' first
   | (with_reducible exact ih0 _ _ _ _ _ _ _)
   | (with_reducible exact ih1 _ _ _ _ _ _ _ _)
   | (with_reducible exact ih2 _ _ _ _ _ _ _ _ _)
   | (with_reducible exact ih3 _ _ _ _ _ _ _ _)
   | (with_reducible exact culetref35_Valid.mono _ _)
   | (with_reducible exact culetref36_Pairs_add.mono _ _ _ _ _ _)
   | (with_reducible exact LeO.refl _)
   | (with_reducible exact LeO.none _)
   | (with_reducible refine LeO.ite ?_ ?_)
   | (with_reducible refine LeO.bind ?_ (fun _ => ?_))
   | exact ih0 _ _ _ _ _ _ _
   | exact ih1 _ _ _ _ _ _ _ _
   | exact ih2 _ _ _ _ _ _ _ _ _
   | exact ih3 _ _ _ _ _ _ _ _
   | exact culetref35_Valid.mono _ _
   | exact culetref36_Pairs_add.mono _ _ _ _ _ _
   | exact LeO.none _
   | refine LeO.ite ?_ ?_
   | refine LeO.bind ?_ (fun _ => ?_)
def culetref36_Symmetric.T3 : Bool × List (List Nat × List Nat) := (true, [([], []), ([0], [0]), ([], []), ([2], [2]), ([3], [3]), ([4], [4]), ([1, 0, 1], [1]), ([5, 6, 0, 1, 2, 3, 4, 5, 6], [5])])
def culetref36_Symmetric.B3 : List Nat := [0, 1, 0, 4, 12, 28, 3, 127]
theorem culetref36_Symmetric.tab3 : rtab .any (opsOf Try.f23 3) = culetref36_Symmetric.T3 := by kernel_rfl
theorem culetref36_Symmetric.bits3 : waitsOk culetref36_Symmetric.T3.2 culetref36_Symmetric.B3 = true := by kernel_rfl
def culetref36_Symmetric.T11 : Bool × List (List Nat × List Nat) := (true, [([], []), ([0], [0]), ([1], [1]), ([1], [1]), ([1], [1]), ([3, 4, 1], [1, 3, 4]), ([5, 1], [1, 5]), ([1], [1]), ([6, 7, 1], [1, 6, 7]), ([8, 1], [1, 8]), ([1], [1]), ([1], [1]), ([10, 11, 1], [1, 10, 11]), ([12, 1], [1, 12]), ([1], [1]), ([14, 1], [1, 14]), ([1], [1]), ([15, 16, 1], [1, 15, 16]), ([13, 17, 1], [1, 13, 17]), ([18, 1], [1, 18]), ([2, 9, 19, 1, 1], [1, 2, 9, 19]), ([20, 1], [1, 20]), ([21, 1], [1, 21]), ([1, 22], [1, 22])])
def culetref36_Symmetric.B11 : List Nat := [0, 1, 3, 3, 3, 27, 59, 3, 251, 507, 3, 3, 3075, 7171, 3, 16387, 3, 114691, 261123, 523267, 1048575, 2097151, 4194303, 8388607]
theorem culetref36_Symmetric.tab11 : rtab .any (opsOf Try.f23 11) = culetref36_Symmetric.T11 := by kernel_rfl
theorem culetref36_Symmetric.bits11 : waitsOk culetref36_Symmetric.T11.2 culetref36_Symmetric.B11 = true := by kernel_rfl
def culetref36_Symmetric.T13 : Bool × List (List Nat × List Nat) := (true, [([], []), ([], []), ([], []), ([1, 2], [1, 2]), ([3], [3]), ([], []), ([4, 5], [4, 5]), ([6], [6]), ([], []), ([], []), ([9], [9]), ([], []), ([10, 11], [10, 11]), ([8, 12], [8, 12]), ([13], [13]), ([], []), ([15], [15]), ([], []), ([16, 17], [16, 17]), ([14, 18], [14, 18]), ([19], [19]), ([0, 7, 20], [0, 7, 20]), ([21], [21]), ([22], [22])])
def culetref36_Symmetric.B13 : List Nat := [0, 0, 0, 6, 14, 0, 62, 126, 0, 0, 512, 0, 3584, 7936, 16128, 0, 32768, 0, 229376, 524032, 1048320, 2097151, 4194303, 8388607]
theorem culetref36_Symmetric.tab13 : rtab .any (opsOf Try.f23 13) = culetref36_Symmetric.T13 := by kernel_rfl
theorem culetref36_Symmetric.bits13 : waitsOk culetref36_Symmetric.T13.2 culetref36_Symmetric.B13 = true := by kernel_rfl
def culetref36_Symmetric.T15 : Bool × List (List Nat × List Nat) := (true, [([], []), ([], []), ([], []), ([1, 2], [1, 2]), ([3], [3]), ([], []), ([4, 5], [4, 5]), ([6], [6]), ([], []), ([], []), ([8, 9], [8, 9]), ([10], [10]), ([], []), ([12], [12]), ([], []), ([13, 14], [13, 14]), ([11, 15], [11, 15]), ([16], [16]), ([0, 7, 17], [0, 7, 17]), ([18], [18]), ([19], [19])])
def culetref36_Symmetric.B15 : List Nat := [0, 0, 0, 6, 14, 0, 62, 126, 0, 0, 768, 1792, 0, 4096, 0, 28672, 65280, 130816, 262143, 524287, 1048575]
theorem culetref36_Symmetric.tab15 : rtab .any (opsOf Try.f23 15) = culetref36_Symmetric.T15 := by kernel_rfl
theorem culetref36_Symmetric.bits15 : waitsOk culetref36_Symmetric.T15.2 culetref36_Symmetric.B15 = true := by kernel_rfl

end Go.Proofs.Ytalhpnfapagamaa.C
