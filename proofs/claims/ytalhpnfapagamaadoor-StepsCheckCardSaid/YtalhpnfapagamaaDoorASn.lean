-- Written by this session's own programs; what the law does not lean on is left out. Lean checks it.
import Derived.Test.YtalhpnfapagamaaDoorAS
import Derived.Test.YtalhpnfapagamaaDoorASx25
import Derived.Test.YtalhpnfapagamaaDoorASx26
namespace Go.Proofs.YtalhpnfapagamaaDoor.S
open Go.RowKit Go.Proofs.YtalhpnfapagamaaDoorW.PrintWords Go.Proofs.YtalhpnfapagamaaDoorW.PrintLast Go.Proofs.YtalhpnfapagamaaDoorW.PrintMore Go.Proofs.YtalhpnfapagamaaDoorD
set_option linter.unusedVariables false
set_option linter.unusedSimpArgs false

mutual
def culetref49_next.j0 : Nat → Bool → List (S55) → List (S56) → Int → Int → Int → Bool → List Int → Int → Int → Int → Int → Bool → List Int → Option (Int × Bool × List Int × Bool)
 | 0, _, _, _, _, _, _, _, _, _, _, _, _, _, _ => none
 | k + 1, x115, x185000, x185001, x185002, x185003, x186000, x186001, x186002, x187000, x187001, x187002, x195000, x195001, x195002 => if x115 = true then (some (x186000, x186001, x186002, false)) else (if 0 ≤ x187002 then (if x187002 < (x185001.length : Int) then ((culetref49_both.f k x185000 x185001 x185002 x185003).bind fun t199 => (if t199 = true then (culetref49_next.j1 k ((rd_T56 x185001 x187002).f1) ((((rd_T56 x185001 x187002).f1) == 2) != x186001) x185000 x185001 x185002 x185003 x186000 x186001 x186002 x187000 x187001 x187002 x195000 x195001 x195002) else (culetref49_next.j1 k ((rd_T56 x185001 x187002).f1) false x185000 x185001 x185002 x185003 x186000 x186001 x186002 x187000 x187001 x187002 x195000 x195001 x195002))) else (none)) else (none))
def culetref49_next.j1 : Nat → Int → Bool → List (S55) → List (S56) → Int → Int → Int → Bool → List Int → Int → Int → Int → Int → Bool → List Int → Option (Int × Bool × List Int × Bool)
 | 0, _, _, _, _, _, _, _, _, _, _, _, _, _, _, _ => none
 | k + 1, x9, x132, x185000, x185001, x185002, x185003, x186000, x186001, x186002, x187000, x187001, x187002, x195000, x195001, x195002 => if x132 = true then (some (x186000, x186001, x186002, false)) else (culetref49_next.l0 k x9 0 x185000 x185001 x185002 x185003 x186000 x186001 x186002 x187000 x187001 x187002 x195000 x195001 x195002)
def culetref49_next.l0 : Nat → Int → Int → List (S55) → List (S56) → Int → Int → Int → Bool → List Int → Int → Int → Int → Int → Bool → List Int → Option (Int × Bool × List Int × Bool)
 | 0, _, _, _, _, _, _, _, _, _, _, _, _, _, _, _ => none
 | k + 1, x9, x10, x185000, x185001, x185002, x185003, x186000, x186001, x186002, x187000, x187001, x187002, x195000, x195001, x195002 => if x10 < x187002 then (if 0 ≤ x10 then (if x10 < (x185001.length : Int) then (if ((rd_T56 x185001 x10).f1) = x9 then (if x10 < (x186002.length : Int) then (if (rd x186002 x10) ≤ x187001 then (some (x186000, x186001, x186002, false)) else (culetref49_next.l0 k x9 (wrap64 (x10 + 1)) x185000 x185001 x185002 x185003 x186000 x186001 x186002 x187000 x187001 x187002 x195000 x195001 x195002)) else (none)) else (culetref49_next.l0 k x9 (wrap64 (x10 + 1)) x185000 x185001 x185002 x185003 x186000 x186001 x186002 x187000 x187001 x187002 x195000 x195001 x195002)) else (none)) else (none)) else (if 0 ≤ x187002 then (if x187002 < (x195002.length : Int) then (some (x195000, x195001, (x195002.set (x187002 : Int).toNat (wrap64 ((rd x195002 x187002) + 1))), true)) else (none)) else (none))
end
def culetref49_next.f (k : Nat) (l0_0 : List (S55)) (l0_1 : List (S56)) (a0_2 : Int) (a0_3 : Int) (a1_0 : Int) (a1_1 : Bool) (l1_2 : List Int) (a2_0 : Int) (a2_1 : Int) (a2_2 : Int) : Option (Int × Bool × List Int × Bool) := (some (([] : List Int) : List Int)).bind fun y188 => (if y188.length + l1_2.length < 17592186044416 then ((some (y188 ++ l1_2 : List Int)).bind fun y191 => (if a2_0 = 1 then (if a2_2 = 0 then (if a2_1 < 0 then (some (a1_0, a1_1, l1_2, false)) else (if a2_1 ≥ (l0_0.length : Int) then (some (a1_0, a1_1, l1_2, false)) else (if a2_1 = a1_0 then (some (a1_0, a1_1, l1_2, false)) else (some (a2_1, a1_1, y191, true))))) else (some (a1_0, a1_1, l1_2, false))) else (if a2_0 = 2 then (if a2_1 = 0 then (if a2_2 = 0 then ((culetref49_both.f k l0_0 l0_1 a0_2 a0_3).bind fun t195 => (if t195 = true then (if a1_1 = true then (some (a1_0, a1_1, l1_2, false)) else ((culetref49_finished.f k l0_0 l0_1 a0_2 a0_3 a1_0 a1_1 l1_2 1).bind fun t196 => (if t196 = true then (some (a1_0, true, y191, true)) else (some (a1_0, a1_1, l1_2, false))))) else (some (a1_0, a1_1, l1_2, false)))) else (some (a1_0, a1_1, l1_2, false))) else (some (a1_0, a1_1, l1_2, false))) else (if a2_0 = 3 then (if a2_2 < 0 then (culetref49_next.j0 k true l0_0 l0_1 a0_2 a0_3 a1_0 a1_1 l1_2 a2_0 a2_1 a2_2 a1_0 a1_1 y191) else (if a2_2 ≥ (l0_1.length : Int) then (culetref49_next.j0 k true l0_0 l0_1 a0_2 a0_3 a1_0 a1_1 l1_2 a2_0 a2_1 a2_2 a1_0 a1_1 y191) else (if a2_1 = a1_0 then (if a2_1 < 0 then (culetref49_next.j0 k true l0_0 l0_1 a0_2 a0_3 a1_0 a1_1 l1_2 a2_0 a2_1 a2_2 a1_0 a1_1 y191) else (if 0 ≤ a2_2 then (if a2_2 < (l1_2.length : Int) then (culetref49_next.j0 k ((rd l1_2 a2_2) != a2_1) l0_0 l0_1 a0_2 a0_3 a1_0 a1_1 l1_2 a2_0 a2_1 a2_2 a1_0 a1_1 y191) else (none)) else (none))) else (culetref49_next.j0 k true l0_0 l0_1 a0_2 a0_3 a1_0 a1_1 l1_2 a2_0 a2_1 a2_2 a1_0 a1_1 y191)))) else (some (a1_0, a1_1, l1_2, false)))))) else (none))
def culetref49_next.T1 : Bool × List (List Nat × List Nat) := (true, [([], []), ([0], [0]), ([], []), ([2], [2]), ([], []), ([], []), ([5], [5]), ([4, 6], [4, 6]), ([1, 3, 7], [1, 3, 7]), ([], []), ([9, 8, 7, 0, 1, 2, 3, 4, 5, 6, 7, 8, 9], [8, 9])])
def culetref49_next.B1 : List Nat := [0, 1, 0, 4, 0, 0, 32, 112, 255, 0, 1023]
theorem culetref49_next.tab1 : rtab .any (opsOf Tryd.f24 1) = culetref49_next.T1 := by kernel_rfl
theorem culetref49_next.bits1 : waitsOk culetref49_next.T1.2 culetref49_next.B1 = true := by kernel_rfl
def culetref49_next.T14 : Bool × List (List Nat × List Nat) := (true, [([], []), ([0], [0]), ([1], [1]), ([2], [2]), ([3], [3]), ([4, 3], [3, 4]), ([3], [3]), ([6, 3], [3, 6]), ([7, 3], [3, 7]), ([5, 8, 3], [3, 5, 8]), ([3, 9], [3, 9]), ([10, 3], [10]), ([11], [11]), ([12, 11], [11, 12]), ([11], [11]), ([14, 11], [11, 14]), ([13, 15, 11], [11, 13, 15]), ([11, 16], [11, 16]), ([17, 11], [17]), ([18], [18]), ([19, 18], [18, 19]), ([20, 18], [18, 20]), ([18, 21], [18, 21]), ([22, 18], [22]), ([23], [23]), ([24, 23], [23, 24]), ([23], [23]), ([26, 23], [23, 26]), ([25, 27, 23], [23, 25, 27]), ([28, 23], [23, 28]), ([23], [23]), ([30, 23], [23, 30]), ([29, 31, 23], [23, 29, 31]), ([23, 32], [23, 32])])
def culetref49_next.B14 : List Nat := [0, 1, 3, 7, 15, 31, 15, 79, 207, 511, 1023, 2047, 4095, 8191, 4095, 20479, 65535, 131071, 262143, 524287, 1048575, 2097151, 4194303, 8388607, 16777215, 33554431, 16777215, 83886079, 268435455, 536870911, 16777215, 1090519039, 4294967295, 8589934591]
theorem culetref49_next.tab14 : rtab .any (opsOf Tryd.f24 14) = culetref49_next.T14 := by kernel_rfl
theorem culetref49_next.bits14 : waitsOk culetref49_next.T14.2 culetref49_next.B14 = true := by kernel_rfl
def culetref49_next.T22 : Bool × List (List Nat × List Nat) := (true, [([], []), ([0], [0]), ([], []), ([1, 2], [1, 2]), ([3], [3]), ([4], [4]), ([], []), ([5, 6], [5, 6]), ([7], [7]), ([8], [8]), ([9, 8], [8, 9]), ([8], [8]), ([10, 11, 8], [8, 10, 11]), ([12, 8], [8, 12]), ([8], [8]), ([14, 8], [8, 14]), ([13, 15, 8], [8, 13, 15]), ([8, 16], [8, 16])])
def culetref49_next.B22 : List Nat := [0, 1, 0, 7, 15, 31, 0, 127, 255, 511, 1023, 511, 4095, 8191, 511, 16895, 65535, 131071]
theorem culetref49_next.tab22 : rtab .any (opsOf Tryd.f24 22) = culetref49_next.T22 := by kernel_rfl
theorem culetref49_next.bits22 : waitsOk culetref49_next.T22.2 culetref49_next.B22 = true := by kernel_rfl
set_option maxHeartbeats 8000000 in
set_option maxRecDepth 100000 in
theorem culetref49_next.calls (k : Nat) (A0_0 : Option Addr) (c0_0 : Nat) (l0_0 : List (S55)) (A0_1 : Option Addr) (c0_1 : Nat) (l0_1 : List (S56)) (a0_2 : Int) (a0_3 : Int) (a1_0 : Int) (a1_1 : Bool) (P1_2_ : Nat → Prop) (u9000_ : Value) (l1_2 : List Int) (a2_0 : Int) (a2_1 : Int) (a2_2 : Int) (r1 : Int) (r2 : Bool) (r3 : List Int) (r4 : Bool) (w0 w : World) (hB : Below w0.heap.size w0 w) (hr0_0 : ∀ W_, Kept w W_ (fun k_ => P1_2_ k_) → Kd.C k55 W_ A0_0 l0_0.length l0_0) (hc0_0 : l0_0.length ≤ c0_0) (hr0_1 : ∀ W_, Kept w W_ (fun k_ => P1_2_ k_) → Kd.C k56 W_ A0_1 l0_1.length l0_1) (hc0_1 : l0_1.length ≤ c0_1) (ho1_2 : Kd.R (Kd.int .i64) 3 w w0.heap.size P1_2_ u9000_ l1_2) (h : culetref49_next.f k l0_0 l0_1 a0_2 a0_3 a1_0 a1_1 l1_2 a2_0 a2_1 a2_2 = some (r1, r2, r3, r4)) :
  Calls Tryd.prog 24 #[.agg #[.slice A0_0 l0_0.length c0_0, .slice A0_1 l0_1.length c0_1, .int .i64 a0_2, .int .i64 a0_3], .agg #[.int .i64 a1_0, .bool a1_1, u9000_], .agg #[.int .i64 a2_0, .int .i64 a2_1, .int .i64 a2_2]] w fun e w' => ∃ v2_ : Value, e = .returned (.tuple #[.agg #[.int .i64 r1, .bool r2, v2_], .bool r4]) ∧ Kd.R (Kd.int .i64) 3 w' w0.heap.size (fun k_ => (P1_2_ k_ ∨ w.heap.size ≤ k_)) v2_ r3 ∧ Below w0.heap.size w0 w' ∧ Kept w w' (fun k_ => P1_2_ k_) := by
 have hu25 := Tryd.underlying25
 have hu66 := Tryd.underlying66
 have hu63 := Tryd.underlying63
 have HR0_0 := am_ hr0_0
 have HC0_0 := am_ hc0_0
 clear hr0_0 hc0_0
 have HR0_1 := am_ hr0_1
 have HC0_1 := am_ hc0_1
 clear hr0_1 hc0_1
 have HO1_2 := am_ (show Kd.R (Kd.int .i64) 3 w w0.heap.size (fun k_ => (P1_2_ k_ ∨ w.heap.size ≤ k_)) u9000_ l1_2 from Kd.R_mono ho1_2 (fun k_ hk => (.inl hk)))
 have HK := am_ (Kept.refl w (fun k_ => P1_2_ k_))
 have HW0 := am_ hB.size
 have HB := am_ hB
 clear hB
 have H : ((some (([] : List Int) : List Int)).bind fun y188 => (if y188.length + l1_2.length < 17592186044416 then ((some (y188 ++ l1_2 : List Int)).bind fun y191 => (if a2_0 = 1 then (if a2_2 = 0 then (if a2_1 < 0 then (some (a1_0, a1_1, l1_2, false)) else (if a2_1 ≥ (l0_0.length : Int) then (some (a1_0, a1_1, l1_2, false)) else (if a2_1 = a1_0 then (some (a1_0, a1_1, l1_2, false)) else (some (a2_1, a1_1, y191, true))))) else (some (a1_0, a1_1, l1_2, false))) else (if a2_0 = 2 then (if a2_1 = 0 then (if a2_2 = 0 then ((culetref49_both.f k l0_0 l0_1 a0_2 a0_3).bind fun t195 => (if t195 = true then (if a1_1 = true then (some (a1_0, a1_1, l1_2, false)) else ((culetref49_finished.f k l0_0 l0_1 a0_2 a0_3 a1_0 a1_1 l1_2 1).bind fun t196 => (if t196 = true then (some (a1_0, true, y191, true)) else (some (a1_0, a1_1, l1_2, false))))) else (some (a1_0, a1_1, l1_2, false)))) else (some (a1_0, a1_1, l1_2, false))) else (some (a1_0, a1_1, l1_2, false))) else (if a2_0 = 3 then (if a2_2 < 0 then (culetref49_next.j0 k true l0_0 l0_1 a0_2 a0_3 a1_0 a1_1 l1_2 a2_0 a2_1 a2_2 a1_0 a1_1 y191) else (if a2_2 ≥ (l0_1.length : Int) then (culetref49_next.j0 k true l0_0 l0_1 a0_2 a0_3 a1_0 a1_1 l1_2 a2_0 a2_1 a2_2 a1_0 a1_1 y191) else (if a2_1 = a1_0 then (if a2_1 < 0 then (culetref49_next.j0 k true l0_0 l0_1 a0_2 a0_3 a1_0 a1_1 l1_2 a2_0 a2_1 a2_2 a1_0 a1_1 y191) else (if 0 ≤ a2_2 then (if a2_2 < (l1_2.length : Int) then (culetref49_next.j0 k ((rd l1_2 a2_2) != a2_1) l0_0 l0_1 a0_2 a0_3 a1_0 a1_1 l1_2 a2_0 a2_1 a2_2 a1_0 a1_1 y191) else (none)) else (none))) else (culetref49_next.j0 k true l0_0 l0_1 a0_2 a0_3 a1_0 a1_1 l1_2 a2_0 a2_1 a2_2 a1_0 a1_1 y191)))) else (some (a1_0, a1_1, l1_2, false)))))) else (none))) = some (r1, r2, r3, r4) := h
 clear h
 obtain ⟨y188, hy188⟩ : ∃ y_ : List Int, y_ = (([] : List Int)) := ⟨_, rfl⟩
 replace H : (if y188.length + l1_2.length < 17592186044416 then ((some (y188 ++ l1_2 : List Int)).bind fun y191 => (if a2_0 = 1 then (if a2_2 = 0 then (if a2_1 < 0 then (some (a1_0, a1_1, l1_2, false)) else (if a2_1 ≥ (l0_0.length : Int) then (some (a1_0, a1_1, l1_2, false)) else (if a2_1 = a1_0 then (some (a1_0, a1_1, l1_2, false)) else (some (a2_1, a1_1, y191, true))))) else (some (a1_0, a1_1, l1_2, false))) else (if a2_0 = 2 then (if a2_1 = 0 then (if a2_2 = 0 then ((culetref49_both.f k l0_0 l0_1 a0_2 a0_3).bind fun t195 => (if t195 = true then (if a1_1 = true then (some (a1_0, a1_1, l1_2, false)) else ((culetref49_finished.f k l0_0 l0_1 a0_2 a0_3 a1_0 a1_1 l1_2 1).bind fun t196 => (if t196 = true then (some (a1_0, true, y191, true)) else (some (a1_0, a1_1, l1_2, false))))) else (some (a1_0, a1_1, l1_2, false)))) else (some (a1_0, a1_1, l1_2, false))) else (some (a1_0, a1_1, l1_2, false))) else (if a2_0 = 3 then (if a2_2 < 0 then (culetref49_next.j0 k true l0_0 l0_1 a0_2 a0_3 a1_0 a1_1 l1_2 a2_0 a2_1 a2_2 a1_0 a1_1 y191) else (if a2_2 ≥ (l0_1.length : Int) then (culetref49_next.j0 k true l0_0 l0_1 a0_2 a0_3 a1_0 a1_1 l1_2 a2_0 a2_1 a2_2 a1_0 a1_1 y191) else (if a2_1 = a1_0 then (if a2_1 < 0 then (culetref49_next.j0 k true l0_0 l0_1 a0_2 a0_3 a1_0 a1_1 l1_2 a2_0 a2_1 a2_2 a1_0 a1_1 y191) else (if 0 ≤ a2_2 then (if a2_2 < (l1_2.length : Int) then (culetref49_next.j0 k ((rd l1_2 a2_2) != a2_1) l0_0 l0_1 a0_2 a0_3 a1_0 a1_1 l1_2 a2_0 a2_1 a2_2 a1_0 a1_1 y191) else (none)) else (none))) else (culetref49_next.j0 k true l0_0 l0_1 a0_2 a0_3 a1_0 a1_1 l1_2 a2_0 a2_1 a2_2 a1_0 a1_1 y191)))) else (some (a1_0, a1_1, l1_2, false)))))) else (none)) = some (r1, r2, r3, r4) := by first | (rw [hy188]; with_reducible exact H) | (have H2_ := (Option.bind_some _ _).symm.trans H; rw [hy188]; with_reducible exact H2_) | (have H2_ := (Option.bind_some _ _).symm.trans H; with_reducible exact H2_) | with_reducible exact H | (rw [hy188]; exact H) | exact H
 have Ny188 := am_ hy188
 clear hy188
 by_cases c4 : y188.length + l1_2.length < 17592186044416
 ·
  rw [if_pos c4] at H
  have LMc4 := am_ c4
  clear c4
  obtain ⟨y191, hy191⟩ : ∃ y_ : List Int, y_ = (y188 ++ l1_2) := ⟨_, rfl⟩
  replace H : (if a2_0 = 1 then (if a2_2 = 0 then (if a2_1 < 0 then (some (a1_0, a1_1, l1_2, false)) else (if a2_1 ≥ (l0_0.length : Int) then (some (a1_0, a1_1, l1_2, false)) else (if a2_1 = a1_0 then (some (a1_0, a1_1, l1_2, false)) else (some (a2_1, a1_1, y191, true))))) else (some (a1_0, a1_1, l1_2, false))) else (if a2_0 = 2 then (if a2_1 = 0 then (if a2_2 = 0 then ((culetref49_both.f k l0_0 l0_1 a0_2 a0_3).bind fun t195 => (if t195 = true then (if a1_1 = true then (some (a1_0, a1_1, l1_2, false)) else ((culetref49_finished.f k l0_0 l0_1 a0_2 a0_3 a1_0 a1_1 l1_2 1).bind fun t196 => (if t196 = true then (some (a1_0, true, y191, true)) else (some (a1_0, a1_1, l1_2, false))))) else (some (a1_0, a1_1, l1_2, false)))) else (some (a1_0, a1_1, l1_2, false))) else (some (a1_0, a1_1, l1_2, false))) else (if a2_0 = 3 then (if a2_2 < 0 then (culetref49_next.j0 k true l0_0 l0_1 a0_2 a0_3 a1_0 a1_1 l1_2 a2_0 a2_1 a2_2 a1_0 a1_1 y191) else (if a2_2 ≥ (l0_1.length : Int) then (culetref49_next.j0 k true l0_0 l0_1 a0_2 a0_3 a1_0 a1_1 l1_2 a2_0 a2_1 a2_2 a1_0 a1_1 y191) else (if a2_1 = a1_0 then (if a2_1 < 0 then (culetref49_next.j0 k true l0_0 l0_1 a0_2 a0_3 a1_0 a1_1 l1_2 a2_0 a2_1 a2_2 a1_0 a1_1 y191) else (if 0 ≤ a2_2 then (if a2_2 < (l1_2.length : Int) then (culetref49_next.j0 k ((rd l1_2 a2_2) != a2_1) l0_0 l0_1 a0_2 a0_3 a1_0 a1_1 l1_2 a2_0 a2_1 a2_2 a1_0 a1_1 y191) else (none)) else (none))) else (culetref49_next.j0 k true l0_0 l0_1 a0_2 a0_3 a1_0 a1_1 l1_2 a2_0 a2_1 a2_2 a1_0 a1_1 y191)))) else (some (a1_0, a1_1, l1_2, false))))) = some (r1, r2, r3, r4) := by first | (rw [hy191]; with_reducible exact H) | (have H2_ := (Option.bind_some _ _).symm.trans H; rw [hy191]; with_reducible exact H2_) | (have H2_ := (Option.bind_some _ _).symm.trans H; with_reducible exact H2_) | with_reducible exact H | (rw [hy191]; exact H) | exact H
  have Ny191 := am_ hy191
  clear hy191
  go_enter Tryd.func24, Tryd.ntmps24
  try go_wp2_with (first | ((with_reducible refine gate_dst (N := 3) rfl ?_); (try (refine gate_guard (by rfl) ?_; dsimp only)); refine bev (N := 3) (cs := #[.slice A0_0 l0_0.length c0_0, .slice A0_1 l0_1.length c0_1, .int .i64 a0_2, .int .i64 a0_3]) (t := 25) ?_; intro gb184 hg w8 hbox hb; have z_ := aI (am_ (Kd.R_below (mr_ HO1_2.out) hb)) (aI (am_ (Kept.below (S := (fun k_ => P1_2_ k_)) (mp_ HK.out) hb)) (aI (am_ (below_step (mb_ HB.out) hb)) (aI (am_ (hbox)) (aI (am_ ((by rw [hg]; exact (by first | exact HK.out.1 | exact (show Kept w _ (fun k_ => P1_2_ k_) from mp_ HK.out).1) : w.heap.size ≤ gb184))) (am_ ((bz_ hg (mb_ HB.out) : w0.heap.size ≤ gb184))))))); clear HO1_2 HK HB; obtain ⟨HO1_2, HK, HB, BK184, GW184, GE184⟩ := z_; clear hb hbox hg; obtain ⟨Ao9, co9, eo9⟩ := Kd.R_slice HO1_2.out; subst eo9) | ((with_reducible refine gate_dst (N := 4) rfl ?_); (try (refine gate_guard (by rfl) ?_; dsimp only)); refine bev (N := 4) (cs := #[.int .i64 a1_0, .bool a1_1, .slice Ao9 l1_2.length co9]) (t := 66) ?_; intro gb185 hg w10 hbox hb; have z_ := aI (am_ (Kd.R_below (mr_ HO1_2.out) hb)) (aI (am_ (blk_below (mk_ BK184.out) hb)) (aI (am_ (Kept.below (S := (fun k_ => P1_2_ k_)) (mp_ HK.out) hb)) (aI (am_ (below_step (mb_ HB.out) hb)) (aI (am_ (hbox)) (aI (am_ ((by rw [hg]; exact (by first | exact HK.out.1 | exact (show Kept w _ (fun k_ => P1_2_ k_) from mp_ HK.out).1) : w.heap.size ≤ gb185))) (aI (am_ ((bz_ hg (mb_ HB.out) : w0.heap.size ≤ gb185))) (aI (am_ ((nl_ hg (mk_ BK184.out) : gb184 ≠ gb185))) (am_ ((ng_ hg (mk_ BK184.out) : gb185 ≠ gb184)))))))))); clear HO1_2 BK184 HK HB; obtain ⟨HO1_2, BK184, HK, HB, BK185, GW185, GE185, NB184_185, NB185_184⟩ := z_; clear hb hbox hg) | ((with_reducible refine gate_dst (N := 5) rfl ?_); (try (refine gate_guard (by rfl) ?_; dsimp only)); refine bev (N := 5) (cs := #[.int .i64 a2_0, .int .i64 a2_1, .int .i64 a2_2]) (t := 63) ?_; intro gb186 hg w11 hbox hb; have z_ := aI (am_ (Kd.R_below (mr_ HO1_2.out) hb)) (aI (am_ (blk_below (mk_ BK184.out) hb)) (aI (am_ (blk_below (mk_ BK185.out) hb)) (aI (am_ (Kept.below (S := (fun k_ => P1_2_ k_)) (mp_ HK.out) hb)) (aI (am_ (below_step (mb_ HB.out) hb)) (aI (am_ (hbox)) (aI (am_ ((by rw [hg]; exact (by first | exact HK.out.1 | exact (show Kept w _ (fun k_ => P1_2_ k_) from mp_ HK.out).1) : w.heap.size ≤ gb186))) (aI (am_ ((bz_ hg (mb_ HB.out) : w0.heap.size ≤ gb186))) (aI (am_ ((nl_ hg (mk_ BK184.out) : gb184 ≠ gb186))) (aI (am_ ((ng_ hg (mk_ BK184.out) : gb186 ≠ gb184))) (aI (am_ ((nl_ hg (mk_ BK185.out) : gb185 ≠ gb186))) (am_ ((ng_ hg (mk_ BK185.out) : gb186 ≠ gb185))))))))))))); clear HO1_2 BK184 BK185 HK HB; obtain ⟨HO1_2, BK184, BK185, HK, HB, BK186, GW186, GE186, NB184_186, NB186_184, NB185_186, NB186_185⟩ := z_; clear hb hbox hg) | ((with_reducible refine gate_dst (N := 6) rfl ?_); (try (refine gate_guard (by rfl) ?_; dsimp only)); refine bev (N := 6) (cs := #[.int .i64 0, .bool false, .slice none 0 0]) (t := 66) ?_; intro gb187 hg w12 hbox hb; have z_ := aI (am_ (Kd.R_below (mr_ HO1_2.out) hb)) (aI (am_ (blk_below (mk_ BK184.out) hb)) (aI (am_ (blk_below (mk_ BK185.out) hb)) (aI (am_ (blk_below (mk_ BK186.out) hb)) (aI (am_ (Kept.below (S := (fun k_ => P1_2_ k_)) (mp_ HK.out) hb)) (aI (am_ (below_step (mb_ HB.out) hb)) (aI (am_ (hbox)) (aI (am_ ((by rw [hg]; exact (by first | exact HK.out.1 | exact (show Kept w _ (fun k_ => P1_2_ k_) from mp_ HK.out).1) : w.heap.size ≤ gb187))) (aI (am_ ((bz_ hg (mb_ HB.out) : w0.heap.size ≤ gb187))) (aI (am_ ((nl_ hg (mk_ BK184.out) : gb184 ≠ gb187))) (aI (am_ ((ng_ hg (mk_ BK184.out) : gb187 ≠ gb184))) (aI (am_ ((nl_ hg (mk_ BK185.out) : gb185 ≠ gb187))) (aI (am_ ((ng_ hg (mk_ BK185.out) : gb187 ≠ gb185))) (aI (am_ ((nl_ hg (mk_ BK186.out) : gb186 ≠ gb187))) (am_ ((ng_ hg (mk_ BK186.out) : gb187 ≠ gb186)))))))))))))))); clear HO1_2 BK184 BK185 BK186 HK HB; obtain ⟨HO1_2, BK184, BK185, BK186, HK, HB, BK187, GW187, GE187, NB184_187, NB187_184, NB185_187, NB187_185, NB186_187, NB187_186⟩ := z_; clear hb hbox hg))
  have z_ := aI (am_ (Kd.R_drew HO1_2.out)) (aI (am_ (blk_drew BK184.out)) (aI (am_ (blk_drew BK185.out)) (aI (am_ (blk_drew BK186.out)) (aI (am_ (blk_drew BK187.out)) (aI (am_ (Kept.drew HK.out)) (am_ (below_drew1 HB.out)))))))
  clear HO1_2 BK184 BK185 BK186 BK187 HK HB
  obtain ⟨HO1_2, BK184, BK185, BK186, BK187, HK, HB⟩ := z_
  refine start_ (n := 11) (S := fun w' => w'.cell? ⟨gb185, 0, none⟩ = some (.int .i64 a1_0) ∧ w'.cell? ⟨gb185, 1, none⟩ = some (.bool a1_1) ∧ w'.cell? ⟨gb185, 2, none⟩ = some (.slice Ao9 l1_2.length co9)) (ds := []) #[false, false, false, false, false, false, false, false, false, false, false] (by kernel_rfl) rfl rfl ⟨(blk_cell BK185.out 0).trans rfl, (blk_cell BK185.out 1).trans rfl, (blk_cell BK185.out 2).trans rfl⟩ (fun hHeld => ?_); refine with_tabW culetref49_next.tab1 culetref49_next.bits1 (fun HT_ HW_ => ?_)
  generalize w12.drew = w13 at HO1_2 BK184 BK185 BK186 BK187 HK HB hHeld ⊢
  refine ltd (o := [0, 2, 5, 1, 3, 6]) (n := 0) (m := 11) (by kernel_rfl) ?_
  iterate 6 (first | (refine tne rfl rfl (take_ofW HT_.out HW_.out (by kernel_rfl)) (Or.inl ⟨by rfl, by rintro w' ⟨s0, s1, s2⟩; go_simp; with_reducible rfl⟩) hHeld ?_) | (refine pne rfl rfl (any_of HT_.out (by kernel_rfl)) (Or.inl ⟨by rfl, by intro w'; go_simp; with_reducible rfl⟩) ?_))
  refine join_ (σ := Value × Value × Nat) 1 #[true, true, true, true, true, true, true, true, true, true, false] (fun s_ => [(15, s_.1), (18, s_.2.1), (8, .pointer (some ⟨s_.2.2, 0, none⟩)), (19, .agg #[.int .i64 a1_0, .bool a1_1, s_.2.1])]) (fun s_ w' => (w'.cell? ⟨gb185, 0, none⟩ = some (.int .i64 a1_0) ∧ w'.cell? ⟨gb185, 1, none⟩ = some (.bool a1_1) ∧ w'.cell? ⟨gb185, 2, none⟩ = some (.slice Ao9 l1_2.length co9)) ∧ (Kd.R (Kd.int .i64) 3 w' w0.heap.size (fun k_ => (P1_2_ k_ ∨ w.heap.size ≤ k_) ∧ some k_ ≠ (.slice Ao9 l1_2.length co9 : Value).ownBlock) s_.2.1 y191) ∧ (Kd.R (Kd.int .i64) 3 w' w0.heap.size (fun k_ => (P1_2_ k_ ∨ w.heap.size ≤ k_) ∧ some k_ ≠ (s_.2.1 : Value).ownBlock) (.slice Ao9 l1_2.length co9) l1_2) ∧ (w'.heap[gb184]? = some (.cells #[.slice A0_0 l0_0.length c0_0, .slice A0_1 l0_1.length c0_1, .int .i64 a0_2, .int .i64 a0_3] 25 (0, 0))) ∧ (w'.heap[gb185]? = some (.cells #[.int .i64 a1_0, .bool a1_1, .slice Ao9 l1_2.length co9] 66 (0, 0))) ∧ (w'.heap[gb186]? = some (.cells #[.int .i64 a2_0, .int .i64 a2_1, .int .i64 a2_2] 63 (0, 0))) ∧ (w'.heap[gb187]? = some (.cells #[.int .i64 0, .bool false, .slice none 0 0] 66 (0, 0))) ∧ (w'.heap[s_.2.2]? = some (.cells #[.int .i64 0, .bool false, .slice none 0 0] 66 (0, 0))) ∧ (w.heap.size ≤ s_.2.2) ∧ (w0.heap.size ≤ s_.2.2) ∧ (gb184 ≠ s_.2.2) ∧ (s_.2.2 ≠ gb184) ∧ (gb185 ≠ s_.2.2) ∧ (s_.2.2 ≠ gb185) ∧ (gb186 ≠ s_.2.2) ∧ (s_.2.2 ≠ gb186) ∧ (gb187 ≠ s_.2.2) ∧ (s_.2.2 ≠ gb187) ∧ (Kept w w' (fun k_ => P1_2_ k_)) ∧ (Below w0.heap.size w0 w')) ?_ ?_
  rotate_left
  ·
   intro hCont
   refine two_ (i := 4) (j := 9) (Ni := some 15) (Nj := some 8) #[true, true, true, true, true, true, true, false, false, false, false] #[true, true, true, true, false, true, true, false, false, true, false] rfl rfl rfl rfl (two_of HT_.out (by kernel_rfl)) (by decide) (by decide) (fun K hK => ?_) (fun K hK => ?_)
   ·
    skip
    refine Kd.R_lit_step (Kd.int .i64) _ 3 ?hg (N := 15) ?hd (xs := ([] : List Int)) (inner := []) (ok := fun _ => True) (okp := fun _ => True) ?hr ?hp (fun _ hk => hk) trivial (Below.refl _ _) (Nat.le_refl _) (by simp) ?_; (case hd => rfl); (case hg => rfl); (case hr => first | (go_simp; done) | (go_simp; rfl)); (case hp => exact (Reps.none _ _))
    intro v189 w14 ho15 hb hg_ hnew_
    clear hg_ hnew_
    (first | rw [← Ny188.out] at ho15 | (simp only [Int.reduceToNat] at ho15; rw [← Ny188.out] at ho15))
    have z_ := aI (am_ (Kd.R_elder' (mr_ HO1_2.out) (Kd.R_base ho15) hb)) (aI (am_ (Kd.R_lower (Kd.R_new' (Kd.R_newM (M := fun k_ => (P1_2_ k_ ∨ w.heap.size ≤ k_)) ho15 (by first | exact HK.out.1 | exact (show Kept w _ (fun k_ => P1_2_ k_) from mp_ HK.out).1) (fun k_ h_ => .inr h_)) (Kd.R_lt (mr_ HO1_2.out))) (below_size (mb_ HB.out)))) (aI (am_ (blk_below (mk_ BK184.out) hb)) (aI (am_ (blk_below (mk_ BK185.out) hb)) (aI (am_ (blk_below (mk_ BK186.out) hb)) (aI (am_ (blk_below (mk_ BK187.out) hb)) (aI (am_ (Kept.below (S := (fun k_ => P1_2_ k_)) (mp_ HK.out) hb)) (am_ (below_step (mb_ HB.out) hb))))))))
    clear HO1_2 BK184 BK185 BK186 BK187 HK HB
    obtain ⟨HO1_2, HO190, BK184, BK185, BK186, BK187, HK, HB⟩ := z_
    clear hb ho15
    refine hK.out _ _ ⟨(blk_cell BK185.out 0).trans rfl, (blk_cell BK185.out 1).trans rfl, (blk_cell BK185.out 2).trans rfl⟩ (fun hHeld => ?_)
    clear hK K
    refine norm_ (a' := ?_) ?_ ?_
    rotate_left
    ·
     show Act.put _ (some 15) _ = _
     simp only [Act.put, List.setIfInBounds_toArray, List.set_cons_zero, List.set_cons_succ, i64_w, i32_w]
     rfl
    refine two_ (i := 7) (j := 9) (Ni := some 18) (Nj := some 8) #[true, true, true, true, true, true, true, true, false, false, false] #[true, true, true, true, true, true, true, false, false, true, false] rfl rfl rfl rfl (two_of HT_.out (by kernel_rfl)) (by decide) (by decide) (fun K hK => ?_) (fun K hK => ?_)
    ·
     skip
     refine Kd.R_append_rows_step (Kd.int .i64) (w0 := w0) w0.heap.size (by rfl) (.tmp 15) (.tmp 17) 64 3 (.int .i64 0) 8 rfl Tryd.underlying64 info3 rfl (by decide) (by omega) v189 y188 l1_2 _ _ _ (fun k_ => (P1_2_ k_ ∨ w.heap.size ≤ k_) ∧ some k_ ≠ (.slice Ao9 l1_2.length co9 : Value).ownBlock) (fun _ => False) rfl rfl ?aO ?aR (fun _ _ h => h) (fun _ h => h.elim) ?aF ?aB ?aS ?aL ?_
     (case aR => exact mc_ (Kd.R_reads' HO1_2.out).2.2)
     (case aB => exact (mb_ HB.out))
     (case aF => exact (fun k_ hk => ⟨(.inr (Nat.le_trans (by first | exact HK.out.1 | exact (show Kept w _ (fun k_ => P1_2_ k_) from mp_ HK.out).1) hk)), Kd.fresh' (Kd.R_lt (mr_ HO1_2.out)) k_ hk⟩))
     (case aO => exact (by (with_reducible repeat (first | apply Kd.R_alloc | apply Kd.R_drewN | apply Kd.R_drew)); exact Kd.R_mono HO190.out (fun _ hk => ⟨hk.1.1, hk.2⟩)))
     (case aS => exact (below_size (mb_ HB.out)))
     (case aL => have := LMc4.out; omega)
     intro v192 w16 ho hb hg hat
     rw [← Ny191.out] at ho
     have z_ := aI (am_ (Kd.R_after (ok := (fun k_ => (P1_2_ k_ ∨ w.heap.size ≤ k_))) (mr_ HO1_2.out) hg hat)) (aI (am_ (blk_grown (g := gb184) (o := .cells #[.slice A0_0 l0_0.length c0_0, .slice A0_1 l0_1.length c0_1, .int .i64 a0_2, .int .i64 a0_3] 25 (0, 0)) (mk_ BK184.out) hg (Kd.R_ne HO190.out BK184.out (by decide)))) (aI (am_ (blk_grown (g := gb185) (o := .cells #[.int .i64 a1_0, .bool a1_1, .slice Ao9 l1_2.length co9] 66 (0, 0)) (mk_ BK185.out) hg (Kd.R_ne HO190.out BK185.out (by decide)))) (aI (am_ (blk_grown (g := gb186) (o := .cells #[.int .i64 a2_0, .int .i64 a2_1, .int .i64 a2_2] 63 (0, 0)) (mk_ BK186.out) hg (Kd.R_ne HO190.out BK186.out (by decide)))) (aI (am_ (blk_grown (g := gb187) (o := .cells #[.int .i64 0, .bool false, .slice none 0 0] 66 (0, 0)) (mk_ BK187.out) hg (Kd.R_ne HO190.out BK187.out (by decide)))) (aI (am_ (hb)) (aI (am_ (Kept.of_grown (S := (fun k_ => P1_2_ k_)) hg (mp_ HK.out) (fun k_ e_ => (HO190.out.1 k_ e_).1.1))) (am_ (ho))))))))
     clear HO1_2 BK184 BK185 BK186 BK187 HB HK HO190
     obtain ⟨HO1_2, BK184, BK185, BK186, BK187, HB, HK, HO193⟩ := z_
     clear ho hb hg hat
     obtain ⟨Ao17, co17, eo17⟩ := Kd.R_slice HO193.out
     (first | subst eo17 | (injection eo17 with f1_ f2_ f3_; have f4_ := f1_.symm; have f5_ := f3_.symm; clear f1_ f2_ f3_; subst f4_; subst f5_))
     refine hK.out _ _ ⟨(blk_cell BK185.out 0).trans rfl, (blk_cell BK185.out 1).trans rfl, (blk_cell BK185.out 2).trans rfl⟩ (fun hHeld => ?_)
     clear hK K
     refine norm_ (a' := ?_) ?_ ?_
     rotate_left
     ·
      show Act.put _ (some 18) _ = _
      simp only [Act.put, List.setIfInBounds_toArray, List.set_cons_zero, List.set_cons_succ, i64_w, i32_w]
      rfl
     refine pure_ (i := 8) (N := some 19) (v := ?_) (a' := ?_) #[true, true, true, true, true, true, true, true, true, false, false] rfl rfl (any_of HT_.out (by kernel_rfl)) (fun _ _ _ h => h) (Or.inl ⟨by rfl, ?_⟩) ?_ ?_
     rotate_left
     ·
      intro w'
      go_simp
      with_reducible rfl
     rotate_left
     ·
      simp only [Act.put, List.setIfInBounds_toArray, List.set_cons_zero, List.set_cons_succ, i64_w, i32_w]
      rfl
     refine one_ (i := 9) (N := some 8) #[true, true, true, true, true, true, true, true, true, true, false] rfl rfl (one_of HT_.out (by kernel_rfl)) (by decide) (fun K hK => ?_)
     refine bst (N := 8) (cs := #[.int .i64 0, .bool false, .slice none 0 0]) (t := 66) ?_
     intro gb194 hg w18 hbox hb
     have z_ := aI (am_ (Kd.R_below (mr_ HO1_2.out) hb)) (aI (am_ (Kd.R_below (mr_ HO193.out) hb)) (aI (am_ (blk_below (mk_ BK184.out) hb)) (aI (am_ (blk_below (mk_ BK185.out) hb)) (aI (am_ (blk_below (mk_ BK186.out) hb)) (aI (am_ (blk_below (mk_ BK187.out) hb)) (aI (am_ (Kept.below (S := (fun k_ => P1_2_ k_)) (mp_ HK.out) hb)) (aI (am_ (below_step (mb_ HB.out) hb)) (aI (am_ (hbox)) (aI (am_ ((by rw [hg]; exact (by first | exact HK.out.1 | exact (show Kept w _ (fun k_ => P1_2_ k_) from mp_ HK.out).1) : w.heap.size ≤ gb194))) (aI (am_ ((bz_ hg (mb_ HB.out) : w0.heap.size ≤ gb194))) (aI (am_ ((nl_ hg (mk_ BK184.out) : gb184 ≠ gb194))) (aI (am_ ((ng_ hg (mk_ BK184.out) : gb194 ≠ gb184))) (aI (am_ ((nl_ hg (mk_ BK185.out) : gb185 ≠ gb194))) (aI (am_ ((ng_ hg (mk_ BK185.out) : gb194 ≠ gb185))) (aI (am_ ((nl_ hg (mk_ BK186.out) : gb186 ≠ gb194))) (aI (am_ ((ng_ hg (mk_ BK186.out) : gb194 ≠ gb186))) (aI (am_ ((nl_ hg (mk_ BK187.out) : gb187 ≠ gb194))) (am_ ((ng_ hg (mk_ BK187.out) : gb194 ≠ gb187))))))))))))))))))))
     clear HO1_2 HO193 BK184 BK185 BK186 BK187 HK HB
     obtain ⟨HO1_2, HO193, BK184, BK185, BK186, BK187, HK, HB, BK194, GW194, GE194, NB184_194, NB194_184, NB185_194, NB194_185, NB186_194, NB194_186, NB187_194, NB194_187⟩ := z_
     clear hb hbox hg
     refine hK.out _ _ ⟨(blk_cell BK185.out 0).trans rfl, (blk_cell BK185.out 1).trans rfl, (blk_cell BK185.out 2).trans rfl⟩ (fun hHeld => ?_)
     clear hK K
     refine norm_ (a' := ?_) ?_ ?_
     rotate_left
     ·
      show Act.put _ (some 8) _ = _
      simp only [Act.put, List.setIfInBounds_toArray, List.set_cons_zero, List.set_cons_succ, i64_w, i32_w]
      rfl
     exact norm_ (by simp only [putAll, Act.put, List.setIfInBounds_toArray, List.set_cons_zero, List.set_cons_succ]) (hCont (v189, .slice Ao17 y191.length co17, gb194) _ ⟨hHeld, (mr_ HO193.out), (mr_ HO1_2.out), (mk_ BK184.out), (mk_ BK185.out), (mk_ BK186.out), (mk_ BK187.out), (mk_ BK194.out), GW194.out, GE194.out, NB184_194.out, NB194_184.out, NB185_194.out, NB194_185.out, NB186_194.out, NB194_186.out, NB187_194.out, NB194_187.out, (mp_ HK.out), (mb_ HB.out)⟩)
    ·
     skip
     refine bst (N := 8) (cs := #[.int .i64 0, .bool false, .slice none 0 0]) (t := 66) ?_
     intro gb194 hg w16 hbox hb
     have z_ := aI (am_ (Kd.R_below (mr_ HO1_2.out) hb)) (aI (am_ (Kd.R_below (mr_ HO190.out) hb)) (aI (am_ (blk_below (mk_ BK184.out) hb)) (aI (am_ (blk_below (mk_ BK185.out) hb)) (aI (am_ (blk_below (mk_ BK186.out) hb)) (aI (am_ (blk_below (mk_ BK187.out) hb)) (aI (am_ (Kept.below (S := (fun k_ => P1_2_ k_)) (mp_ HK.out) hb)) (aI (am_ (below_step (mb_ HB.out) hb)) (aI (am_ (hbox)) (aI (am_ ((by rw [hg]; exact (by first | exact HK.out.1 | exact (show Kept w _ (fun k_ => P1_2_ k_) from mp_ HK.out).1) : w.heap.size ≤ gb194))) (aI (am_ ((bz_ hg (mb_ HB.out) : w0.heap.size ≤ gb194))) (aI (am_ ((nl_ hg (mk_ BK184.out) : gb184 ≠ gb194))) (aI (am_ ((ng_ hg (mk_ BK184.out) : gb194 ≠ gb184))) (aI (am_ ((nl_ hg (mk_ BK185.out) : gb185 ≠ gb194))) (aI (am_ ((ng_ hg (mk_ BK185.out) : gb194 ≠ gb185))) (aI (am_ ((nl_ hg (mk_ BK186.out) : gb186 ≠ gb194))) (aI (am_ ((ng_ hg (mk_ BK186.out) : gb194 ≠ gb186))) (aI (am_ ((nl_ hg (mk_ BK187.out) : gb187 ≠ gb194))) (am_ ((ng_ hg (mk_ BK187.out) : gb194 ≠ gb187))))))))))))))))))))
     clear HO1_2 HO190 BK184 BK185 BK186 BK187 HK HB
     obtain ⟨HO1_2, HO190, BK184, BK185, BK186, BK187, HK, HB, BK194, GW194, GE194, NB184_194, NB194_184, NB185_194, NB194_185, NB186_194, NB194_186, NB187_194, NB194_187⟩ := z_
     clear hb hbox hg
     refine hK.out _ _ ⟨(blk_cell BK185.out 0).trans rfl, (blk_cell BK185.out 1).trans rfl, (blk_cell BK185.out 2).trans rfl⟩ (fun hHeld => ?_)
     clear hK K
     refine norm_ (a' := ?_) ?_ ?_
     rotate_left
     ·
      show Act.put _ (some 8) _ = _
      simp only [Act.put, List.setIfInBounds_toArray, List.set_cons_zero, List.set_cons_succ, i64_w, i32_w]
      rfl
     refine one_ (i := 7) (N := some 18) #[true, true, true, true, true, true, true, true, false, true, false] rfl rfl (one_of HT_.out (by kernel_rfl)) (by decide) (fun K hK => ?_)
     refine Kd.R_append_rows_step (Kd.int .i64) (w0 := w0) w0.heap.size (by rfl) (.tmp 15) (.tmp 17) 64 3 (.int .i64 0) 8 rfl Tryd.underlying64 info3 rfl (by decide) (by omega) v189 y188 l1_2 _ _ _ (fun k_ => (P1_2_ k_ ∨ w.heap.size ≤ k_) ∧ some k_ ≠ (.slice Ao9 l1_2.length co9 : Value).ownBlock) (fun _ => False) rfl rfl ?aO ?aR (fun _ _ h => h) (fun _ h => h.elim) ?aF ?aB ?aS ?aL ?_
     (case aR => exact mc_ (Kd.R_reads' HO1_2.out).2.2)
     (case aB => exact (mb_ HB.out))
     (case aF => exact (fun k_ hk => ⟨(.inr (Nat.le_trans (by first | exact HK.out.1 | exact (show Kept w _ (fun k_ => P1_2_ k_) from mp_ HK.out).1) hk)), Kd.fresh' (Kd.R_lt (mr_ HO1_2.out)) k_ hk⟩))
     (case aO => exact (by (with_reducible repeat (first | apply Kd.R_alloc | apply Kd.R_drewN | apply Kd.R_drew)); exact Kd.R_mono HO190.out (fun _ hk => ⟨hk.1.1, hk.2⟩)))
     (case aS => exact (below_size (mb_ HB.out)))
     (case aL => have := LMc4.out; omega)
     intro v192 w17 ho hb hg hat
     rw [← Ny191.out] at ho
     have z_ := aI (am_ (Kd.R_after (ok := (fun k_ => (P1_2_ k_ ∨ w.heap.size ≤ k_))) (mr_ HO1_2.out) hg hat)) (aI (am_ (blk_grown (g := gb184) (o := .cells #[.slice A0_0 l0_0.length c0_0, .slice A0_1 l0_1.length c0_1, .int .i64 a0_2, .int .i64 a0_3] 25 (0, 0)) (mk_ BK184.out) hg (Kd.R_ne HO190.out BK184.out (by decide)))) (aI (am_ (blk_grown (g := gb185) (o := .cells #[.int .i64 a1_0, .bool a1_1, .slice Ao9 l1_2.length co9] 66 (0, 0)) (mk_ BK185.out) hg (Kd.R_ne HO190.out BK185.out (by decide)))) (aI (am_ (blk_grown (g := gb186) (o := .cells #[.int .i64 a2_0, .int .i64 a2_1, .int .i64 a2_2] 63 (0, 0)) (mk_ BK186.out) hg (Kd.R_ne HO190.out BK186.out (by decide)))) (aI (am_ (blk_grown (g := gb187) (o := .cells #[.int .i64 0, .bool false, .slice none 0 0] 66 (0, 0)) (mk_ BK187.out) hg (Kd.R_ne HO190.out BK187.out (by decide)))) (aI (am_ (blk_grown (g := gb194) (o := .cells #[.int .i64 0, .bool false, .slice none 0 0] 66 (0, 0)) (mk_ BK194.out) hg (Kd.R_ne HO190.out BK194.out (by decide)))) (aI (am_ (hb)) (aI (am_ (Kept.of_grown (S := (fun k_ => P1_2_ k_)) hg (mp_ HK.out) (fun k_ e_ => (HO190.out.1 k_ e_).1.1))) (am_ (ho)))))))))
     clear HO1_2 BK184 BK185 BK186 BK187 BK194 HB HK HO190
     obtain ⟨HO1_2, BK184, BK185, BK186, BK187, BK194, HB, HK, HO193⟩ := z_
     clear ho hb hg hat
     obtain ⟨Ao18, co18, eo18⟩ := Kd.R_slice HO193.out
     (first | subst eo18 | (injection eo18 with f1_ f2_ f3_; have f4_ := f1_.symm; have f5_ := f3_.symm; clear f1_ f2_ f3_; subst f4_; subst f5_))
     refine hK.out _ _ ⟨(blk_cell BK185.out 0).trans rfl, (blk_cell BK185.out 1).trans rfl, (blk_cell BK185.out 2).trans rfl⟩ (fun hHeld => ?_)
     clear hK K
     refine norm_ (a' := ?_) ?_ ?_
     rotate_left
     ·
      show Act.put _ (some 18) _ = _
      simp only [Act.put, List.setIfInBounds_toArray, List.set_cons_zero, List.set_cons_succ, i64_w, i32_w]
      rfl
     refine pure_ (i := 8) (N := some 19) (v := ?_) (a' := ?_) #[true, true, true, true, true, true, true, true, true, true, false] rfl rfl (any_of HT_.out (by kernel_rfl)) (fun _ _ _ h => h) (Or.inl ⟨by rfl, ?_⟩) ?_ ?_
     rotate_left
     ·
      intro w'
      go_simp
      with_reducible rfl
     rotate_left
     ·
      simp only [Act.put, List.setIfInBounds_toArray, List.set_cons_zero, List.set_cons_succ, i64_w, i32_w]
      rfl
     exact norm_ (by simp only [putAll, Act.put, List.setIfInBounds_toArray, List.set_cons_zero, List.set_cons_succ]) (hCont (v189, .slice Ao18 y191.length co18, gb194) _ ⟨hHeld, (mr_ HO193.out), (mr_ HO1_2.out), (mk_ BK184.out), (mk_ BK185.out), (mk_ BK186.out), (mk_ BK187.out), (mk_ BK194.out), GW194.out, GE194.out, NB184_194.out, NB194_184.out, NB185_194.out, NB194_185.out, NB186_194.out, NB194_186.out, NB187_194.out, NB194_187.out, (mp_ HK.out), (mb_ HB.out)⟩)
   ·
    skip
    refine bst (N := 8) (cs := #[.int .i64 0, .bool false, .slice none 0 0]) (t := 66) ?_
    intro gb194 hg w14 hbox hb
    have z_ := aI (am_ (Kd.R_below (mr_ HO1_2.out) hb)) (aI (am_ (blk_below (mk_ BK184.out) hb)) (aI (am_ (blk_below (mk_ BK185.out) hb)) (aI (am_ (blk_below (mk_ BK186.out) hb)) (aI (am_ (blk_below (mk_ BK187.out) hb)) (aI (am_ (Kept.below (S := (fun k_ => P1_2_ k_)) (mp_ HK.out) hb)) (aI (am_ (below_step (mb_ HB.out) hb)) (aI (am_ (hbox)) (aI (am_ ((by rw [hg]; exact (by first | exact HK.out.1 | exact (show Kept w _ (fun k_ => P1_2_ k_) from mp_ HK.out).1) : w.heap.size ≤ gb194))) (aI (am_ ((bz_ hg (mb_ HB.out) : w0.heap.size ≤ gb194))) (aI (am_ ((nl_ hg (mk_ BK184.out) : gb184 ≠ gb194))) (aI (am_ ((ng_ hg (mk_ BK184.out) : gb194 ≠ gb184))) (aI (am_ ((nl_ hg (mk_ BK185.out) : gb185 ≠ gb194))) (aI (am_ ((ng_ hg (mk_ BK185.out) : gb194 ≠ gb185))) (aI (am_ ((nl_ hg (mk_ BK186.out) : gb186 ≠ gb194))) (aI (am_ ((ng_ hg (mk_ BK186.out) : gb194 ≠ gb186))) (aI (am_ ((nl_ hg (mk_ BK187.out) : gb187 ≠ gb194))) (am_ ((ng_ hg (mk_ BK187.out) : gb194 ≠ gb187)))))))))))))))))))
    clear HO1_2 BK184 BK185 BK186 BK187 HK HB
    obtain ⟨HO1_2, BK184, BK185, BK186, BK187, HK, HB, BK194, GW194, GE194, NB184_194, NB194_184, NB185_194, NB194_185, NB186_194, NB194_186, NB187_194, NB194_187⟩ := z_
    clear hb hbox hg
    refine hK.out _ _ ⟨(blk_cell BK185.out 0).trans rfl, (blk_cell BK185.out 1).trans rfl, (blk_cell BK185.out 2).trans rfl⟩ (fun hHeld => ?_)
    clear hK K
    refine norm_ (a' := ?_) ?_ ?_
    rotate_left
    ·
     show Act.put _ (some 8) _ = _
     simp only [Act.put, List.setIfInBounds_toArray, List.set_cons_zero, List.set_cons_succ, i64_w, i32_w]
     rfl
    refine one_ (i := 4) (N := some 15) #[true, true, true, true, true, true, true, false, false, true, false] rfl rfl (one_of HT_.out (by kernel_rfl)) (by decide) (fun K hK => ?_)
    refine Kd.R_lit_step (Kd.int .i64) _ 3 ?hg (N := 15) ?hd (xs := ([] : List Int)) (inner := []) (ok := fun _ => True) (okp := fun _ => True) ?hr ?hp (fun _ hk => hk) trivial (Below.refl _ _) (Nat.le_refl _) (by simp) ?_; (case hd => rfl); (case hg => rfl); (case hr => first | (go_simp; done) | (go_simp; rfl)); (case hp => exact (Reps.none _ _))
    intro v189 w15 ho16 hb hg_ hnew_
    clear hg_ hnew_
    (first | rw [← Ny188.out] at ho16 | (simp only [Int.reduceToNat] at ho16; rw [← Ny188.out] at ho16))
    have z_ := aI (am_ (Kd.R_elder' (mr_ HO1_2.out) (Kd.R_base ho16) hb)) (aI (am_ (Kd.R_lower (Kd.R_new' (Kd.R_newM (M := fun k_ => (P1_2_ k_ ∨ w.heap.size ≤ k_)) ho16 (by first | exact HK.out.1 | exact (show Kept w _ (fun k_ => P1_2_ k_) from mp_ HK.out).1) (fun k_ h_ => .inr h_)) (Kd.R_lt (mr_ HO1_2.out))) (below_size (mb_ HB.out)))) (aI (am_ (blk_below (mk_ BK184.out) hb)) (aI (am_ (blk_below (mk_ BK185.out) hb)) (aI (am_ (blk_below (mk_ BK186.out) hb)) (aI (am_ (blk_below (mk_ BK187.out) hb)) (aI (am_ (blk_below (mk_ BK194.out) hb)) (aI (am_ (Kept.below (S := (fun k_ => P1_2_ k_)) (mp_ HK.out) hb)) (am_ (below_step (mb_ HB.out) hb)))))))))
    clear HO1_2 BK184 BK185 BK186 BK187 BK194 HK HB
    obtain ⟨HO1_2, HO190, BK184, BK185, BK186, BK187, BK194, HK, HB⟩ := z_
    clear hb ho16
    refine hK.out _ _ ⟨(blk_cell BK185.out 0).trans rfl, (blk_cell BK185.out 1).trans rfl, (blk_cell BK185.out 2).trans rfl⟩ (fun hHeld => ?_)
    clear hK K
    refine norm_ (a' := ?_) ?_ ?_
    rotate_left
    ·
     show Act.put _ (some 15) _ = _
     simp only [Act.put, List.setIfInBounds_toArray, List.set_cons_zero, List.set_cons_succ, i64_w, i32_w]
     rfl
    refine one_ (i := 7) (N := some 18) #[true, true, true, true, true, true, true, true, false, true, false] rfl rfl (one_of HT_.out (by kernel_rfl)) (by decide) (fun K hK => ?_)
    refine Kd.R_append_rows_step (Kd.int .i64) (w0 := w0) w0.heap.size (by rfl) (.tmp 15) (.tmp 17) 64 3 (.int .i64 0) 8 rfl Tryd.underlying64 info3 rfl (by decide) (by omega) v189 y188 l1_2 _ _ _ (fun k_ => (P1_2_ k_ ∨ w.heap.size ≤ k_) ∧ some k_ ≠ (.slice Ao9 l1_2.length co9 : Value).ownBlock) (fun _ => False) rfl rfl ?aO ?aR (fun _ _ h => h) (fun _ h => h.elim) ?aF ?aB ?aS ?aL ?_
    (case aR => exact mc_ (Kd.R_reads' HO1_2.out).2.2)
    (case aB => exact (mb_ HB.out))
    (case aF => exact (fun k_ hk => ⟨(.inr (Nat.le_trans (by first | exact HK.out.1 | exact (show Kept w _ (fun k_ => P1_2_ k_) from mp_ HK.out).1) hk)), Kd.fresh' (Kd.R_lt (mr_ HO1_2.out)) k_ hk⟩))
    (case aO => exact (by (with_reducible repeat (first | apply Kd.R_alloc | apply Kd.R_drewN | apply Kd.R_drew)); exact Kd.R_mono HO190.out (fun _ hk => ⟨hk.1.1, hk.2⟩)))
    (case aS => exact (below_size (mb_ HB.out)))
    (case aL => have := LMc4.out; omega)
    intro v192 w17 ho hb hg hat
    rw [← Ny191.out] at ho
    have z_ := aI (am_ (Kd.R_after (ok := (fun k_ => (P1_2_ k_ ∨ w.heap.size ≤ k_))) (mr_ HO1_2.out) hg hat)) (aI (am_ (blk_grown (g := gb184) (o := .cells #[.slice A0_0 l0_0.length c0_0, .slice A0_1 l0_1.length c0_1, .int .i64 a0_2, .int .i64 a0_3] 25 (0, 0)) (mk_ BK184.out) hg (Kd.R_ne HO190.out BK184.out (by decide)))) (aI (am_ (blk_grown (g := gb185) (o := .cells #[.int .i64 a1_0, .bool a1_1, .slice Ao9 l1_2.length co9] 66 (0, 0)) (mk_ BK185.out) hg (Kd.R_ne HO190.out BK185.out (by decide)))) (aI (am_ (blk_grown (g := gb186) (o := .cells #[.int .i64 a2_0, .int .i64 a2_1, .int .i64 a2_2] 63 (0, 0)) (mk_ BK186.out) hg (Kd.R_ne HO190.out BK186.out (by decide)))) (aI (am_ (blk_grown (g := gb187) (o := .cells #[.int .i64 0, .bool false, .slice none 0 0] 66 (0, 0)) (mk_ BK187.out) hg (Kd.R_ne HO190.out BK187.out (by decide)))) (aI (am_ (blk_grown (g := gb194) (o := .cells #[.int .i64 0, .bool false, .slice none 0 0] 66 (0, 0)) (mk_ BK194.out) hg (Kd.R_ne HO190.out BK194.out (by decide)))) (aI (am_ (hb)) (aI (am_ (Kept.of_grown (S := (fun k_ => P1_2_ k_)) hg (mp_ HK.out) (fun k_ e_ => (HO190.out.1 k_ e_).1.1))) (am_ (ho)))))))))
    clear HO1_2 BK184 BK185 BK186 BK187 BK194 HB HK HO190
    obtain ⟨HO1_2, BK184, BK185, BK186, BK187, BK194, HB, HK, HO193⟩ := z_
    clear ho hb hg hat
    obtain ⟨Ao18, co18, eo18⟩ := Kd.R_slice HO193.out
    (first | subst eo18 | (injection eo18 with f1_ f2_ f3_; have f4_ := f1_.symm; have f5_ := f3_.symm; clear f1_ f2_ f3_; subst f4_; subst f5_))
    refine hK.out _ _ ⟨(blk_cell BK185.out 0).trans rfl, (blk_cell BK185.out 1).trans rfl, (blk_cell BK185.out 2).trans rfl⟩ (fun hHeld => ?_)
    clear hK K
    refine norm_ (a' := ?_) ?_ ?_
    rotate_left
    ·
     show Act.put _ (some 18) _ = _
     simp only [Act.put, List.setIfInBounds_toArray, List.set_cons_zero, List.set_cons_succ, i64_w, i32_w]
     rfl
    refine pure_ (i := 8) (N := some 19) (v := ?_) (a' := ?_) #[true, true, true, true, true, true, true, true, true, true, false] rfl rfl (any_of HT_.out (by kernel_rfl)) (fun _ _ _ h => h) (Or.inl ⟨by rfl, ?_⟩) ?_ ?_
    rotate_left
    ·
     intro w'
     go_simp
     with_reducible rfl
    rotate_left
    ·
     simp only [Act.put, List.setIfInBounds_toArray, List.set_cons_zero, List.set_cons_succ, i64_w, i32_w]
     rfl
    exact norm_ (by simp only [putAll, Act.put, List.setIfInBounds_toArray, List.set_cons_zero, List.set_cons_succ]) (hCont (v189, .slice Ao18 y191.length co18, gb194) _ ⟨hHeld, (mr_ HO193.out), (mr_ HO1_2.out), (mk_ BK184.out), (mk_ BK185.out), (mk_ BK186.out), (mk_ BK187.out), (mk_ BK194.out), GW194.out, GE194.out, NB184_194.out, NB194_184.out, NB185_194.out, NB194_185.out, NB186_194.out, NB194_186.out, NB187_194.out, NB194_187.out, (mp_ HK.out), (mb_ HB.out)⟩)
  rintro ⟨v189, v192, gb194⟩ w19 ⟨hS_, h0_, h1_, h2_, h3_, h4_, h5_, h6_, h7_, h8_, h9_, h10_, h11_, h12_, h13_, h14_, h15_, h16_, h17_, h18_⟩
  have n0_ : Aside0 (Kd.R (Kd.int .i64) 3 w19 w0.heap.size (fun k_ => (P1_2_ k_ ∨ w.heap.size ≤ k_) ∧ some k_ ≠ (.slice Ao9 l1_2.length co9 : Value).ownBlock) v192 y191) := ⟨h0_⟩
  have n1_ : Aside0 (Kd.R (Kd.int .i64) 3 w19 w0.heap.size (fun k_ => (P1_2_ k_ ∨ w.heap.size ≤ k_) ∧ some k_ ≠ (v192 : Value).ownBlock) (.slice Ao9 l1_2.length co9) l1_2) := ⟨h1_⟩
  have n2_ : Aside0 (w19.heap[gb184]? = some (.cells #[.slice A0_0 l0_0.length c0_0, .slice A0_1 l0_1.length c0_1, .int .i64 a0_2, .int .i64 a0_3] 25 (0, 0))) := ⟨h2_⟩
  have n3_ : Aside0 (w19.heap[gb185]? = some (.cells #[.int .i64 a1_0, .bool a1_1, .slice Ao9 l1_2.length co9] 66 (0, 0))) := ⟨h3_⟩
  have n4_ : Aside0 (w19.heap[gb186]? = some (.cells #[.int .i64 a2_0, .int .i64 a2_1, .int .i64 a2_2] 63 (0, 0))) := ⟨h4_⟩
  have n5_ : Aside0 (w19.heap[gb187]? = some (.cells #[.int .i64 0, .bool false, .slice none 0 0] 66 (0, 0))) := ⟨h5_⟩
  have n6_ : Aside0 (w19.heap[gb194]? = some (.cells #[.int .i64 0, .bool false, .slice none 0 0] 66 (0, 0))) := ⟨h6_⟩
  have n7_ : Aside0 (w.heap.size ≤ gb194) := ⟨h7_⟩
  have n8_ : Aside0 (w0.heap.size ≤ gb194) := ⟨h8_⟩
  have n9_ : Aside0 (gb184 ≠ gb194) := ⟨h9_⟩
  have n10_ : Aside0 (gb194 ≠ gb184) := ⟨h10_⟩
  have n11_ : Aside0 (gb185 ≠ gb194) := ⟨h11_⟩
  have n12_ : Aside0 (gb194 ≠ gb185) := ⟨h12_⟩
  have n13_ : Aside0 (gb186 ≠ gb194) := ⟨h13_⟩
  have n14_ : Aside0 (gb194 ≠ gb186) := ⟨h14_⟩
  have n15_ : Aside0 (gb187 ≠ gb194) := ⟨h15_⟩
  have n16_ : Aside0 (gb194 ≠ gb187) := ⟨h16_⟩
  have n17_ : Aside0 (Kept w w19 (fun k_ => P1_2_ k_)) := ⟨h17_⟩
  have n18_ : Aside0 (Below w0.heap.size w0 w19) := ⟨h18_⟩
  clear HO1_2 BK184 BK185 BK186 BK187 HK HB
  clear h0_ h1_ h2_ h3_ h4_ h5_ h6_ h7_ h8_ h9_ h10_ h11_ h12_ h13_ h14_ h15_ h16_ h17_ h18_
  have HO193 := n0_
  have HO1_2 := n1_
  have BK184 := n2_
  have BK185 := n3_
  have BK186 := n4_
  have BK187 := n5_
  have BK194 := n6_
  have GW194 := n7_
  have GE194 := n8_
  have NB184_194 := n9_
  have NB194_184 := n10_
  have NB185_194 := n11_
  have NB194_185 := n12_
  have NB186_194 := n13_
  have NB194_186 := n14_
  have NB187_194 := n15_
  have NB194_187 := n16_
  have HK := n17_
  have HB := n18_
  clear n0_ n1_ n2_ n3_ n4_ n5_ n6_ n7_ n8_ n9_ n10_ n11_ n12_ n13_ n14_ n15_ n16_ n17_ n18_
  have hHeld : w19.cell? ⟨gb185, 0, none⟩ = some (.int .i64 a1_0) ∧ w19.cell? ⟨gb185, 1, none⟩ = some (.bool a1_1) ∧ w19.cell? ⟨gb185, 2, none⟩ = some (.slice Ao9 l1_2.length co9) := hS_
  obtain ⟨Ao20, co20, eo20⟩ := Kd.R_slice HO193.out
  (first | subst eo20 | (injection eo20 with f1_ f2_ f3_; have f4_ := f1_.symm; have f5_ := f3_.symm; clear f1_ f2_ f3_; subst f4_; subst f5_))
  refine norm_ (a' := ?_) ?_ ?_
  rotate_left
  ·
   simp only [putAll, Act.put, List.setIfInBounds_toArray, List.set_cons_zero, List.set_cons_succ]
   rfl
  refine one_ (i := 10) (N := none) #[true, true, true, true, true, true, true, true, true, true, true] rfl rfl (one_of HT_.out (by kernel_rfl)) (by decide) (fun K hK => ?_)
  have hs21 : w19.cell? ⟨gb194, 0, none⟩ = some (.int .i64 0) := (blk_cell BK194.out 0).trans rfl
  have hfs21 := blk_frozen BK194.out 0
  have hns21_0 := NB184_194.out
  have hns21_1 := NB185_194.out
  have hns21_2 := NB186_194.out
  have hns21_3 := NB187_194.out
  have hms21_0 := NB194_184.out
  have hms21_1 := NB194_185.out
  have hms21_2 := NB194_186.out
  have hms21_3 := NB194_187.out
  have hs22 : w19.cell? ⟨gb194, 1, none⟩ = some (.bool false) := (blk_cell BK194.out 1).trans rfl
  have hfs22 := blk_frozen BK194.out 1
  have hns22_0 := NB184_194.out
  have hns22_1 := NB185_194.out
  have hns22_2 := NB186_194.out
  have hns22_3 := NB187_194.out
  have hms22_0 := NB194_184.out
  have hms22_1 := NB194_185.out
  have hms22_2 := NB194_186.out
  have hms22_3 := NB194_187.out
  have hs23 : w19.cell? ⟨gb194, 2, none⟩ = some (.slice none 0 0) := (blk_cell BK194.out 2).trans rfl
  have hfs23 := blk_frozen BK194.out 2
  have hns23_0 := NB184_194.out
  have hns23_1 := NB185_194.out
  have hns23_2 := NB186_194.out
  have hns23_3 := NB187_194.out
  have hms23_0 := NB194_184.out
  have hms23_1 := NB194_185.out
  have hms23_2 := NB194_186.out
  have hms23_3 := NB194_187.out
  refine skip_ (w1 := ?_) (by rfl) rfl ?_ ?_
  rotate_left
  ·
   go_simp
   rfl
  refine hK.out _ _ ⟨((cell_far (p := ⟨gb194, _, none⟩) NB185_194.out _).trans (((cell_far (p := ⟨gb194, _, none⟩) NB185_194.out _).trans (((cell_far (p := ⟨gb194, _, none⟩) NB185_194.out _).trans (hHeld.1)))))), ((cell_far (p := ⟨gb194, _, none⟩) NB185_194.out _).trans (((cell_far (p := ⟨gb194, _, none⟩) NB185_194.out _).trans (((cell_far (p := ⟨gb194, _, none⟩) NB185_194.out _).trans (hHeld.2.1)))))), ((cell_far (p := ⟨gb194, _, none⟩) NB185_194.out _).trans (((cell_far (p := ⟨gb194, _, none⟩) NB185_194.out _).trans (((cell_far (p := ⟨gb194, _, none⟩) NB185_194.out _).trans (hHeld.2.2))))))⟩ (fun hHeld => ?_)
  clear hK K
  refine done_ (done_of HT_.out (by kernel_rfl)) ?_
  by_cases c5 : a2_0 = 1
  ·
   rw [if_pos c5] at H
   have c5b0 : (a2_0 == 1) = true := beq_iff_eq.mpr c5
   have c5b1 : (a2_0 != 1) = false := bne_eq_false_iff_eq.mpr c5
   clear c5
   by_cases c6 : a2_2 = 0
   ·
    rw [if_pos c6] at H
    have c6b0 : (a2_2 == 0) = true := beq_iff_eq.mpr c6
    have c6b1 : (a2_2 != 0) = false := bne_eq_false_iff_eq.mpr c6
    clear c6
    by_cases c7 : a2_1 < 0
    ·
     rw [if_pos c7] at H
     have c7b0 : decide (a2_1 < 0) = true := decide_eq_true c7
     clear c7
     simp only [Option.some.injEq, Prod.mk.injEq] at H
     obtain ⟨rfl, rfl, rfl, rfl⟩ := H
     have hnb24 := NB186_184.out
     have hnc24 := NB184_186.out
     have hnb25 := NB186_185.out
     have hnc25 := NB185_186.out
     have hnb26 := NB186_187.out
     have hnc26 := NB187_186.out
     have hnb27 := NB186_194.out
     have hnc27 := NB194_186.out
     have hcz28_0 : w19.cell? ⟨gb186, 0, none⟩ = some (.int .i64 a2_0) := (blk_cell BK186.out 0).trans rfl
     have hcz28_1 : w19.cell? ⟨gb186, 1, none⟩ = some (.int .i64 a2_1) := (blk_cell BK186.out 1).trans rfl
     have hcz28_2 : w19.cell? ⟨gb186, 2, none⟩ = some (.int .i64 a2_2) := (blk_cell BK186.out 2).trans rfl
     have hfz28_0 := blk_frozen BK186.out 0
     have hfz28_1 := blk_frozen BK186.out 1
     have hfz28_2 := blk_frozen BK186.out 2
     have hnb29 := NB185_184.out
     have hnc29 := NB184_185.out
     have hnb30 := NB185_187.out
     have hnc30 := NB187_185.out
     have hnb31 := NB185_194.out
     have hnc31 := NB194_185.out
     have hcz32_0 : w19.cell? ⟨gb185, 0, none⟩ = some (.int .i64 a1_0) := (blk_cell BK185.out 0).trans rfl
     have hcz32_1 : w19.cell? ⟨gb185, 1, none⟩ = some (.bool a1_1) := (blk_cell BK185.out 1).trans rfl
     have hcz32_2 : w19.cell? ⟨gb185, 2, none⟩ = some (.slice Ao9 l1_2.length co9) := (blk_cell BK185.out 2).trans rfl
     have hfz32_0 := blk_frozen BK185.out 0
     have hfz32_1 := blk_frozen BK185.out 1
     have hfz32_2 := blk_frozen BK185.out 2
     have hnb33 := NB187_184.out
     have hnc33 := NB184_187.out
     have hnb34 := NB187_194.out
     have hnc34 := NB194_187.out
     have hcz35_0 : w19.cell? ⟨gb187, 0, none⟩ = some (.int .i64 0) := (blk_cell BK187.out 0).trans rfl
     have hcz35_1 : w19.cell? ⟨gb187, 1, none⟩ = some (.bool false) := (blk_cell BK187.out 1).trans rfl
     have hcz35_2 : w19.cell? ⟨gb187, 2, none⟩ = some (.slice none 0 0) := (blk_cell BK187.out 2).trans rfl
     have hfz35_0 := blk_frozen BK187.out 0
     have hfz35_1 := blk_frozen BK187.out 1
     have hfz35_2 := blk_frozen BK187.out 2
     try go_wp2
     refine bodyPost_ret (results_ct rfl _ _ gb187 66 #[.int .i64 a1_0, .bool a1_1, .slice Ao9 l1_2.length co9] (0, 0) _ rfl (by (with_reducible repeat (first | refine blk_drewN ?_ _ | refine blk_drew ?_ | refine blk_alloc ?_ _)); refine blk_put (cs := #[.int .i64 a1_0, .bool a1_1, .slice none 0 0]) ?_ 2 _ rfl; (with_reducible repeat (first | refine blk_drewN ?_ _ | refine blk_drew ?_ | refine blk_alloc ?_ _)); refine blk_put (cs := #[.int .i64 a1_0, .bool false, .slice none 0 0]) ?_ 1 _ rfl; (with_reducible repeat (first | refine blk_drewN ?_ _ | refine blk_drew ?_ | refine blk_alloc ?_ _)); refine blk_put (cs := #[.int .i64 0, .bool false, .slice none 0 0]) ?_ 0 _ rfl; (with_reducible repeat (first | refine blk_drewN ?_ _ | refine blk_drew ?_ | refine blk_alloc ?_ _)); refine blk_far ?_ NB187_194.out _; (with_reducible repeat (first | refine blk_drewN ?_ _ | refine blk_drew ?_ | refine blk_alloc ?_ _)); refine blk_far ?_ NB187_194.out _; (with_reducible repeat (first | refine blk_drewN ?_ _ | refine blk_drew ?_ | refine blk_alloc ?_ _)); refine blk_far ?_ NB187_194.out _; (with_reducible repeat (first | refine blk_drewN ?_ _ | refine blk_drew ?_ | refine blk_alloc ?_ _)); exact BK187.out) Tryd.underlying66 rfl (by kernel_rfl)) rfl ?_
     exact ⟨_, by first | rfl | (simp [errW_none, errW_some] <;> rfl) | (simp [*, errW_none, errW_some] <;> rfl), by (with_reducible repeat (first | apply Kd.R_alloc | apply Kd.R_drewN | apply Kd.R_drew)); exact Kd.R_mono (Kd.R_far (p := ⟨gb187, 2, none⟩) (Kd.R_far (p := ⟨gb187, 1, none⟩) (Kd.R_far (p := ⟨gb187, 0, none⟩) (Kd.R_far (p := ⟨gb194, 2, none⟩) (Kd.R_far (p := ⟨gb194, 1, none⟩) (Kd.R_far (p := ⟨gb194, 0, none⟩) (Kd.R_types (Kd.R_types HO1_2.out BK194.out (by decide)) BK187.out (by decide)) (fun _ hk => hk.1.2) (.int .i64 a1_0)) (fun _ hk => hk.1.2) (.bool a1_1)) (fun _ hk => hk.1.2) (.slice Ao20 y191.length co20)) (fun _ hk => hk.2) (.int .i64 a1_0)) (fun _ hk => hk.2) (.bool a1_1)) (fun _ hk => hk.2) (.slice Ao9 l1_2.length co9)) (fun _ hk => hk.1.1.1), mb_ HB.out, mp_ HK.out⟩
    ·
     rw [if_neg c7] at H
     have c7b0 : decide (a2_1 < 0) = false := decide_eq_false c7
     clear c7
     by_cases c36 : a2_1 ≥ (l0_0.length : Int)
     ·
      rw [if_pos c36] at H
      have c36b0 : decide ((l0_0.length : Int) ≤ a2_1) = true := decide_eq_true c36
      clear c36
      simp only [Option.some.injEq, Prod.mk.injEq] at H
      obtain ⟨rfl, rfl, rfl, rfl⟩ := H
      have hnb53 := NB186_184.out
      have hnc53 := NB184_186.out
      have hnb54 := NB186_185.out
      have hnc54 := NB185_186.out
      have hnb55 := NB186_187.out
      have hnc55 := NB187_186.out
      have hnb56 := NB186_194.out
      have hnc56 := NB194_186.out
      have hcz57_0 : w19.cell? ⟨gb186, 0, none⟩ = some (.int .i64 a2_0) := (blk_cell BK186.out 0).trans rfl
      have hcz57_1 : w19.cell? ⟨gb186, 1, none⟩ = some (.int .i64 a2_1) := (blk_cell BK186.out 1).trans rfl
      have hcz57_2 : w19.cell? ⟨gb186, 2, none⟩ = some (.int .i64 a2_2) := (blk_cell BK186.out 2).trans rfl
      have hfz57_0 := blk_frozen BK186.out 0
      have hfz57_1 := blk_frozen BK186.out 1
      have hfz57_2 := blk_frozen BK186.out 2
      have hnb58 := NB184_185.out
      have hnc58 := NB185_184.out
      have hnb59 := NB184_187.out
      have hnc59 := NB187_184.out
      have hnb60 := NB184_194.out
      have hnc60 := NB194_184.out
      have hcz61_0 : w19.cell? ⟨gb184, 0, none⟩ = some (.slice A0_0 l0_0.length c0_0) := (blk_cell BK184.out 0).trans rfl
      have hcz61_1 : w19.cell? ⟨gb184, 1, none⟩ = some (.slice A0_1 l0_1.length c0_1) := (blk_cell BK184.out 1).trans rfl
      have hcz61_2 : w19.cell? ⟨gb184, 2, none⟩ = some (.int .i64 a0_2) := (blk_cell BK184.out 2).trans rfl
      have hcz61_3 : w19.cell? ⟨gb184, 3, none⟩ = some (.int .i64 a0_3) := (blk_cell BK184.out 3).trans rfl
      have hfz61_0 := blk_frozen BK184.out 0
      have hfz61_1 := blk_frozen BK184.out 1
      have hfz61_2 := blk_frozen BK184.out 2
      have hfz61_3 := blk_frozen BK184.out 3
      have hnb62 := NB185_187.out
      have hnc62 := NB187_185.out
      have hnb63 := NB185_194.out
      have hnc63 := NB194_185.out
      have hcz64_0 : w19.cell? ⟨gb185, 0, none⟩ = some (.int .i64 a1_0) := (blk_cell BK185.out 0).trans rfl
      have hcz64_1 : w19.cell? ⟨gb185, 1, none⟩ = some (.bool a1_1) := (blk_cell BK185.out 1).trans rfl
      have hcz64_2 : w19.cell? ⟨gb185, 2, none⟩ = some (.slice Ao9 l1_2.length co9) := (blk_cell BK185.out 2).trans rfl
      have hfz64_0 := blk_frozen BK185.out 0
      have hfz64_1 := blk_frozen BK185.out 1
      have hfz64_2 := blk_frozen BK185.out 2
      have hnb65 := NB187_194.out
      have hnc65 := NB194_187.out
      have hcz66_0 : w19.cell? ⟨gb187, 0, none⟩ = some (.int .i64 0) := (blk_cell BK187.out 0).trans rfl
      have hcz66_1 : w19.cell? ⟨gb187, 1, none⟩ = some (.bool false) := (blk_cell BK187.out 1).trans rfl
      have hcz66_2 : w19.cell? ⟨gb187, 2, none⟩ = some (.slice none 0 0) := (blk_cell BK187.out 2).trans rfl
      have hfz66_0 := blk_frozen BK187.out 0
      have hfz66_1 := blk_frozen BK187.out 1
      have hfz66_2 := blk_frozen BK187.out 2
      try go_wp2
      refine bodyPost_ret (results_ct rfl _ _ gb187 66 #[.int .i64 a1_0, .bool a1_1, .slice Ao9 l1_2.length co9] (0, 0) _ rfl (by (with_reducible repeat (first | refine blk_drewN ?_ _ | refine blk_drew ?_ | refine blk_alloc ?_ _)); refine blk_put (cs := #[.int .i64 a1_0, .bool a1_1, .slice none 0 0]) ?_ 2 _ rfl; (with_reducible repeat (first | refine blk_drewN ?_ _ | refine blk_drew ?_ | refine blk_alloc ?_ _)); refine blk_put (cs := #[.int .i64 a1_0, .bool false, .slice none 0 0]) ?_ 1 _ rfl; (with_reducible repeat (first | refine blk_drewN ?_ _ | refine blk_drew ?_ | refine blk_alloc ?_ _)); refine blk_put (cs := #[.int .i64 0, .bool false, .slice none 0 0]) ?_ 0 _ rfl; (with_reducible repeat (first | refine blk_drewN ?_ _ | refine blk_drew ?_ | refine blk_alloc ?_ _)); refine blk_far ?_ NB187_194.out _; (with_reducible repeat (first | refine blk_drewN ?_ _ | refine blk_drew ?_ | refine blk_alloc ?_ _)); refine blk_far ?_ NB187_194.out _; (with_reducible repeat (first | refine blk_drewN ?_ _ | refine blk_drew ?_ | refine blk_alloc ?_ _)); refine blk_far ?_ NB187_194.out _; (with_reducible repeat (first | refine blk_drewN ?_ _ | refine blk_drew ?_ | refine blk_alloc ?_ _)); exact BK187.out) Tryd.underlying66 rfl (by kernel_rfl)) rfl ?_
      exact ⟨_, by first | rfl | (simp [errW_none, errW_some] <;> rfl) | (simp [*, errW_none, errW_some] <;> rfl), by (with_reducible repeat (first | apply Kd.R_alloc | apply Kd.R_drewN | apply Kd.R_drew)); exact Kd.R_mono (Kd.R_far (p := ⟨gb187, 2, none⟩) (Kd.R_far (p := ⟨gb187, 1, none⟩) (Kd.R_far (p := ⟨gb187, 0, none⟩) (Kd.R_far (p := ⟨gb194, 2, none⟩) (Kd.R_far (p := ⟨gb194, 1, none⟩) (Kd.R_far (p := ⟨gb194, 0, none⟩) (Kd.R_types (Kd.R_types HO1_2.out BK194.out (by decide)) BK187.out (by decide)) (fun _ hk => hk.1.2) (.int .i64 a1_0)) (fun _ hk => hk.1.2) (.bool a1_1)) (fun _ hk => hk.1.2) (.slice Ao20 y191.length co20)) (fun _ hk => hk.2) (.int .i64 a1_0)) (fun _ hk => hk.2) (.bool a1_1)) (fun _ hk => hk.2) (.slice Ao9 l1_2.length co9)) (fun _ hk => hk.1.1.1), mb_ HB.out, mp_ HK.out⟩
     ·
      rw [if_neg c36] at H
      have c36b0 : decide ((l0_0.length : Int) ≤ a2_1) = false := decide_eq_false c36
      clear c36
      by_cases c67 : a2_1 = a1_0
      ·
       rw [if_pos c67] at H
       have c67b0 : (a2_1 == a1_0) = true := beq_iff_eq.mpr c67
       have c67b1 : (a2_1 != a1_0) = false := bne_eq_false_iff_eq.mpr c67
       clear c67
       simp only [Option.some.injEq, Prod.mk.injEq] at H
       obtain ⟨rfl, rfl, rfl, rfl⟩ := H
       have hnb84 := NB186_184.out
       have hnc84 := NB184_186.out
       have hnb85 := NB186_185.out
       have hnc85 := NB185_186.out
       have hnb86 := NB186_187.out
       have hnc86 := NB187_186.out
       have hnb87 := NB186_194.out
       have hnc87 := NB194_186.out
       have hcz88_0 : w19.cell? ⟨gb186, 0, none⟩ = some (.int .i64 a2_0) := (blk_cell BK186.out 0).trans rfl
       have hcz88_1 : w19.cell? ⟨gb186, 1, none⟩ = some (.int .i64 a2_1) := (blk_cell BK186.out 1).trans rfl
       have hcz88_2 : w19.cell? ⟨gb186, 2, none⟩ = some (.int .i64 a2_2) := (blk_cell BK186.out 2).trans rfl
       have hfz88_0 := blk_frozen BK186.out 0
       have hfz88_1 := blk_frozen BK186.out 1
       have hfz88_2 := blk_frozen BK186.out 2
       have hnb89 := NB184_185.out
       have hnc89 := NB185_184.out
       have hnb90 := NB184_187.out
       have hnc90 := NB187_184.out
       have hnb91 := NB184_194.out
       have hnc91 := NB194_184.out
       have hcz92_0 : w19.cell? ⟨gb184, 0, none⟩ = some (.slice A0_0 l0_0.length c0_0) := (blk_cell BK184.out 0).trans rfl
       have hcz92_1 : w19.cell? ⟨gb184, 1, none⟩ = some (.slice A0_1 l0_1.length c0_1) := (blk_cell BK184.out 1).trans rfl
       have hcz92_2 : w19.cell? ⟨gb184, 2, none⟩ = some (.int .i64 a0_2) := (blk_cell BK184.out 2).trans rfl
       have hcz92_3 : w19.cell? ⟨gb184, 3, none⟩ = some (.int .i64 a0_3) := (blk_cell BK184.out 3).trans rfl
       have hfz92_0 := blk_frozen BK184.out 0
       have hfz92_1 := blk_frozen BK184.out 1
       have hfz92_2 := blk_frozen BK184.out 2
       have hfz92_3 := blk_frozen BK184.out 3
       have hnb93 := NB185_187.out
       have hnc93 := NB187_185.out
       have hnb94 := NB185_194.out
       have hnc94 := NB194_185.out
       have hcz95_0 : w19.cell? ⟨gb185, 0, none⟩ = some (.int .i64 a1_0) := (blk_cell BK185.out 0).trans rfl
       have hcz95_1 : w19.cell? ⟨gb185, 1, none⟩ = some (.bool a1_1) := (blk_cell BK185.out 1).trans rfl
       have hcz95_2 : w19.cell? ⟨gb185, 2, none⟩ = some (.slice Ao9 l1_2.length co9) := (blk_cell BK185.out 2).trans rfl
       have hfz95_0 := blk_frozen BK185.out 0
       have hfz95_1 := blk_frozen BK185.out 1
       have hfz95_2 := blk_frozen BK185.out 2
       have hnb96 := NB187_194.out
       have hnc96 := NB194_187.out
       have hcz97_0 : w19.cell? ⟨gb187, 0, none⟩ = some (.int .i64 0) := (blk_cell BK187.out 0).trans rfl
       have hcz97_1 : w19.cell? ⟨gb187, 1, none⟩ = some (.bool false) := (blk_cell BK187.out 1).trans rfl
       have hcz97_2 : w19.cell? ⟨gb187, 2, none⟩ = some (.slice none 0 0) := (blk_cell BK187.out 2).trans rfl
       have hfz97_0 := blk_frozen BK187.out 0
       have hfz97_1 := blk_frozen BK187.out 1
       have hfz97_2 := blk_frozen BK187.out 2
       try go_wp2
       refine bodyPost_ret (results_ct rfl _ _ gb187 66 #[.int .i64 a1_0, .bool a1_1, .slice Ao9 l1_2.length co9] (0, 0) _ rfl (by (with_reducible repeat (first | refine blk_drewN ?_ _ | refine blk_drew ?_ | refine blk_alloc ?_ _)); refine blk_put (cs := #[.int .i64 a1_0, .bool a1_1, .slice none 0 0]) ?_ 2 _ rfl; (with_reducible repeat (first | refine blk_drewN ?_ _ | refine blk_drew ?_ | refine blk_alloc ?_ _)); refine blk_put (cs := #[.int .i64 a1_0, .bool false, .slice none 0 0]) ?_ 1 _ rfl; (with_reducible repeat (first | refine blk_drewN ?_ _ | refine blk_drew ?_ | refine blk_alloc ?_ _)); refine blk_put (cs := #[.int .i64 0, .bool false, .slice none 0 0]) ?_ 0 _ rfl; (with_reducible repeat (first | refine blk_drewN ?_ _ | refine blk_drew ?_ | refine blk_alloc ?_ _)); refine blk_far ?_ NB187_194.out _; (with_reducible repeat (first | refine blk_drewN ?_ _ | refine blk_drew ?_ | refine blk_alloc ?_ _)); refine blk_far ?_ NB187_194.out _; (with_reducible repeat (first | refine blk_drewN ?_ _ | refine blk_drew ?_ | refine blk_alloc ?_ _)); refine blk_far ?_ NB187_194.out _; (with_reducible repeat (first | refine blk_drewN ?_ _ | refine blk_drew ?_ | refine blk_alloc ?_ _)); exact BK187.out) Tryd.underlying66 rfl (by kernel_rfl)) rfl ?_
       exact ⟨_, by first | rfl | (simp [errW_none, errW_some] <;> rfl) | (simp [*, errW_none, errW_some] <;> rfl), by (with_reducible repeat (first | apply Kd.R_alloc | apply Kd.R_drewN | apply Kd.R_drew)); exact Kd.R_mono (Kd.R_far (p := ⟨gb187, 2, none⟩) (Kd.R_far (p := ⟨gb187, 1, none⟩) (Kd.R_far (p := ⟨gb187, 0, none⟩) (Kd.R_far (p := ⟨gb194, 2, none⟩) (Kd.R_far (p := ⟨gb194, 1, none⟩) (Kd.R_far (p := ⟨gb194, 0, none⟩) (Kd.R_types (Kd.R_types HO1_2.out BK194.out (by decide)) BK187.out (by decide)) (fun _ hk => hk.1.2) (.int .i64 a1_0)) (fun _ hk => hk.1.2) (.bool a1_1)) (fun _ hk => hk.1.2) (.slice Ao20 y191.length co20)) (fun _ hk => hk.2) (.int .i64 a1_0)) (fun _ hk => hk.2) (.bool a1_1)) (fun _ hk => hk.2) (.slice Ao9 l1_2.length co9)) (fun _ hk => hk.1.1.1), mb_ HB.out, mp_ HK.out⟩
      ·
       rw [if_neg c67] at H
       have c67b0 : (a2_1 == a1_0) = false := beq_eq_false_iff_ne.mpr c67
       have c67b1 : (a2_1 != a1_0) = true := bne_iff_ne.mpr c67
       simp only [Option.some.injEq, Prod.mk.injEq] at H
       obtain ⟨rfl, rfl, rfl, rfl⟩ := H
       have hnb114 := NB186_184.out
       have hnc114 := NB184_186.out
       have hnb115 := NB186_185.out
       have hnc115 := NB185_186.out
       have hnb116 := NB186_187.out
       have hnc116 := NB187_186.out
       have hnb117 := NB186_194.out
       have hnc117 := NB194_186.out
       have hcz118_0 : w19.cell? ⟨gb186, 0, none⟩ = some (.int .i64 a2_0) := (blk_cell BK186.out 0).trans rfl
       have hcz118_1 : w19.cell? ⟨gb186, 1, none⟩ = some (.int .i64 a2_1) := (blk_cell BK186.out 1).trans rfl
       have hcz118_2 : w19.cell? ⟨gb186, 2, none⟩ = some (.int .i64 a2_2) := (blk_cell BK186.out 2).trans rfl
       have hfz118_0 := blk_frozen BK186.out 0
       have hfz118_1 := blk_frozen BK186.out 1
       have hfz118_2 := blk_frozen BK186.out 2
       have hnb119 := NB184_185.out
       have hnc119 := NB185_184.out
       have hnb120 := NB184_187.out
       have hnc120 := NB187_184.out
       have hnb121 := NB184_194.out
       have hnc121 := NB194_184.out
       have hcz122_0 : w19.cell? ⟨gb184, 0, none⟩ = some (.slice A0_0 l0_0.length c0_0) := (blk_cell BK184.out 0).trans rfl
       have hcz122_1 : w19.cell? ⟨gb184, 1, none⟩ = some (.slice A0_1 l0_1.length c0_1) := (blk_cell BK184.out 1).trans rfl
       have hcz122_2 : w19.cell? ⟨gb184, 2, none⟩ = some (.int .i64 a0_2) := (blk_cell BK184.out 2).trans rfl
       have hcz122_3 : w19.cell? ⟨gb184, 3, none⟩ = some (.int .i64 a0_3) := (blk_cell BK184.out 3).trans rfl
       have hfz122_0 := blk_frozen BK184.out 0
       have hfz122_1 := blk_frozen BK184.out 1
       have hfz122_2 := blk_frozen BK184.out 2
       have hfz122_3 := blk_frozen BK184.out 3
       have hnb123 := NB185_187.out
       have hnc123 := NB187_185.out
       have hnb124 := NB185_194.out
       have hnc124 := NB194_185.out
       have hcz125_0 : w19.cell? ⟨gb185, 0, none⟩ = some (.int .i64 a1_0) := (blk_cell BK185.out 0).trans rfl
       have hcz125_1 : w19.cell? ⟨gb185, 1, none⟩ = some (.bool a1_1) := (blk_cell BK185.out 1).trans rfl
       have hcz125_2 : w19.cell? ⟨gb185, 2, none⟩ = some (.slice Ao9 l1_2.length co9) := (blk_cell BK185.out 2).trans rfl
       have hfz125_0 := blk_frozen BK185.out 0
       have hfz125_1 := blk_frozen BK185.out 1
       have hfz125_2 := blk_frozen BK185.out 2
       have hnb126 := NB194_187.out
       have hnc126 := NB187_194.out
       have hcz127_0 : w19.cell? ⟨gb194, 0, none⟩ = some (.int .i64 0) := (blk_cell BK194.out 0).trans rfl
       have hcz127_1 : w19.cell? ⟨gb194, 1, none⟩ = some (.bool false) := (blk_cell BK194.out 1).trans rfl
       have hcz127_2 : w19.cell? ⟨gb194, 2, none⟩ = some (.slice none 0 0) := (blk_cell BK194.out 2).trans rfl
       have hfz127_0 := blk_frozen BK194.out 0
       have hfz127_1 := blk_frozen BK194.out 1
       have hfz127_2 := blk_frozen BK194.out 2
       have hcz128_0 : w19.cell? ⟨gb187, 0, none⟩ = some (.int .i64 0) := (blk_cell BK187.out 0).trans rfl
       have hcz128_1 : w19.cell? ⟨gb187, 1, none⟩ = some (.bool false) := (blk_cell BK187.out 1).trans rfl
       have hcz128_2 : w19.cell? ⟨gb187, 2, none⟩ = some (.slice none 0 0) := (blk_cell BK187.out 2).trans rfl
       have hfz128_0 := blk_frozen BK187.out 0
       have hfz128_1 := blk_frozen BK187.out 1
       have hfz128_2 := blk_frozen BK187.out 2
       try go_wp2
       refine bodyPost_ret (results_ct rfl _ _ gb187 66 #[.int .i64 a2_1, .bool a1_1, .slice Ao20 y191.length co20] (0, 0) _ rfl (by (with_reducible repeat (first | refine blk_drewN ?_ _ | refine blk_drew ?_ | refine blk_alloc ?_ _)); refine blk_put (cs := #[.int .i64 a2_1, .bool a1_1, .slice none 0 0]) ?_ 2 _ rfl; (with_reducible repeat (first | refine blk_drewN ?_ _ | refine blk_drew ?_ | refine blk_alloc ?_ _)); refine blk_put (cs := #[.int .i64 a2_1, .bool false, .slice none 0 0]) ?_ 1 _ rfl; (with_reducible repeat (first | refine blk_drewN ?_ _ | refine blk_drew ?_ | refine blk_alloc ?_ _)); refine blk_put (cs := #[.int .i64 0, .bool false, .slice none 0 0]) ?_ 0 _ rfl; (with_reducible repeat (first | refine blk_drewN ?_ _ | refine blk_drew ?_ | refine blk_alloc ?_ _)); refine blk_far ?_ NB187_194.out _; (with_reducible repeat (first | refine blk_drewN ?_ _ | refine blk_drew ?_ | refine blk_alloc ?_ _)); refine blk_far ?_ NB187_194.out _; (with_reducible repeat (first | refine blk_drewN ?_ _ | refine blk_drew ?_ | refine blk_alloc ?_ _)); refine blk_far ?_ NB187_194.out _; (with_reducible repeat (first | refine blk_drewN ?_ _ | refine blk_drew ?_ | refine blk_alloc ?_ _)); refine blk_far ?_ NB187_194.out _; (with_reducible repeat (first | refine blk_drewN ?_ _ | refine blk_drew ?_ | refine blk_alloc ?_ _)); exact BK187.out) Tryd.underlying66 rfl (by kernel_rfl)) rfl ?_
       exact ⟨_, by first | rfl | (simp [errW_none, errW_some] <;> rfl) | (simp [*, errW_none, errW_some] <;> rfl), by (with_reducible repeat (first | apply Kd.R_alloc | apply Kd.R_drewN | apply Kd.R_drew)); exact Kd.R_mono (Kd.R_far (p := ⟨gb187, 2, none⟩) (Kd.R_far (p := ⟨gb187, 1, none⟩) (Kd.R_far (p := ⟨gb187, 0, none⟩) (Kd.R_far (p := ⟨gb194, 0, none⟩) (Kd.R_far (p := ⟨gb194, 2, none⟩) (Kd.R_far (p := ⟨gb194, 1, none⟩) (Kd.R_far (p := ⟨gb194, 0, none⟩) (Kd.R_types (Kd.R_types HO193.out BK194.out (by decide)) BK187.out (by decide)) (fun _ hk => hk.1.2) (.int .i64 a1_0)) (fun _ hk => hk.1.2) (.bool a1_1)) (fun _ hk => hk.1.2) (.slice Ao20 y191.length co20)) (fun _ hk => hk.1.2) (.int .i64 a2_1)) (fun _ hk => hk.2) (.int .i64 a2_1)) (fun _ hk => hk.2) (.bool a1_1)) (fun _ hk => hk.2) (.slice Ao20 y191.length co20)) (fun _ hk => hk.1.1.1), mb_ HB.out, mp_ HK.out⟩
   ·
    rw [if_neg c6] at H
    have c6b0 : (a2_2 == 0) = false := beq_eq_false_iff_ne.mpr c6
    have c6b1 : (a2_2 != 0) = true := bne_iff_ne.mpr c6
    simp only [Option.some.injEq, Prod.mk.injEq] at H
    obtain ⟨rfl, rfl, rfl, rfl⟩ := H
    have hnb145 := NB186_184.out
    have hnc145 := NB184_186.out
    have hnb146 := NB186_185.out
    have hnc146 := NB185_186.out
    have hnb147 := NB186_187.out
    have hnc147 := NB187_186.out
    have hnb148 := NB186_194.out
    have hnc148 := NB194_186.out
    have hcz149_0 : w19.cell? ⟨gb186, 0, none⟩ = some (.int .i64 a2_0) := (blk_cell BK186.out 0).trans rfl
    have hcz149_1 : w19.cell? ⟨gb186, 1, none⟩ = some (.int .i64 a2_1) := (blk_cell BK186.out 1).trans rfl
    have hcz149_2 : w19.cell? ⟨gb186, 2, none⟩ = some (.int .i64 a2_2) := (blk_cell BK186.out 2).trans rfl
    have hfz149_0 := blk_frozen BK186.out 0
    have hfz149_1 := blk_frozen BK186.out 1
    have hfz149_2 := blk_frozen BK186.out 2
    have hnb150 := NB185_184.out
    have hnc150 := NB184_185.out
    have hnb151 := NB185_187.out
    have hnc151 := NB187_185.out
    have hnb152 := NB185_194.out
    have hnc152 := NB194_185.out
    have hcz153_0 : w19.cell? ⟨gb185, 0, none⟩ = some (.int .i64 a1_0) := (blk_cell BK185.out 0).trans rfl
    have hcz153_1 : w19.cell? ⟨gb185, 1, none⟩ = some (.bool a1_1) := (blk_cell BK185.out 1).trans rfl
    have hcz153_2 : w19.cell? ⟨gb185, 2, none⟩ = some (.slice Ao9 l1_2.length co9) := (blk_cell BK185.out 2).trans rfl
    have hfz153_0 := blk_frozen BK185.out 0
    have hfz153_1 := blk_frozen BK185.out 1
    have hfz153_2 := blk_frozen BK185.out 2
    have hnb154 := NB187_184.out
    have hnc154 := NB184_187.out
    have hnb155 := NB187_194.out
    have hnc155 := NB194_187.out
    have hcz156_0 : w19.cell? ⟨gb187, 0, none⟩ = some (.int .i64 0) := (blk_cell BK187.out 0).trans rfl
    have hcz156_1 : w19.cell? ⟨gb187, 1, none⟩ = some (.bool false) := (blk_cell BK187.out 1).trans rfl
    have hcz156_2 : w19.cell? ⟨gb187, 2, none⟩ = some (.slice none 0 0) := (blk_cell BK187.out 2).trans rfl
    have hfz156_0 := blk_frozen BK187.out 0
    have hfz156_1 := blk_frozen BK187.out 1
    have hfz156_2 := blk_frozen BK187.out 2
    try go_wp2
    refine bodyPost_ret (results_ct rfl _ _ gb187 66 #[.int .i64 a1_0, .bool a1_1, .slice Ao9 l1_2.length co9] (0, 0) _ rfl (by (with_reducible repeat (first | refine blk_drewN ?_ _ | refine blk_drew ?_ | refine blk_alloc ?_ _)); refine blk_put (cs := #[.int .i64 a1_0, .bool a1_1, .slice none 0 0]) ?_ 2 _ rfl; (with_reducible repeat (first | refine blk_drewN ?_ _ | refine blk_drew ?_ | refine blk_alloc ?_ _)); refine blk_put (cs := #[.int .i64 a1_0, .bool false, .slice none 0 0]) ?_ 1 _ rfl; (with_reducible repeat (first | refine blk_drewN ?_ _ | refine blk_drew ?_ | refine blk_alloc ?_ _)); refine blk_put (cs := #[.int .i64 0, .bool false, .slice none 0 0]) ?_ 0 _ rfl; (with_reducible repeat (first | refine blk_drewN ?_ _ | refine blk_drew ?_ | refine blk_alloc ?_ _)); refine blk_far ?_ NB187_194.out _; (with_reducible repeat (first | refine blk_drewN ?_ _ | refine blk_drew ?_ | refine blk_alloc ?_ _)); refine blk_far ?_ NB187_194.out _; (with_reducible repeat (first | refine blk_drewN ?_ _ | refine blk_drew ?_ | refine blk_alloc ?_ _)); refine blk_far ?_ NB187_194.out _; (with_reducible repeat (first | refine blk_drewN ?_ _ | refine blk_drew ?_ | refine blk_alloc ?_ _)); exact BK187.out) Tryd.underlying66 rfl (by kernel_rfl)) rfl ?_
    exact ⟨_, by first | rfl | (simp [errW_none, errW_some] <;> rfl) | (simp [*, errW_none, errW_some] <;> rfl), by (with_reducible repeat (first | apply Kd.R_alloc | apply Kd.R_drewN | apply Kd.R_drew)); exact Kd.R_mono (Kd.R_far (p := ⟨gb187, 2, none⟩) (Kd.R_far (p := ⟨gb187, 1, none⟩) (Kd.R_far (p := ⟨gb187, 0, none⟩) (Kd.R_far (p := ⟨gb194, 2, none⟩) (Kd.R_far (p := ⟨gb194, 1, none⟩) (Kd.R_far (p := ⟨gb194, 0, none⟩) (Kd.R_types (Kd.R_types HO1_2.out BK194.out (by decide)) BK187.out (by decide)) (fun _ hk => hk.1.2) (.int .i64 a1_0)) (fun _ hk => hk.1.2) (.bool a1_1)) (fun _ hk => hk.1.2) (.slice Ao20 y191.length co20)) (fun _ hk => hk.2) (.int .i64 a1_0)) (fun _ hk => hk.2) (.bool a1_1)) (fun _ hk => hk.2) (.slice Ao9 l1_2.length co9)) (fun _ hk => hk.1.1.1), mb_ HB.out, mp_ HK.out⟩
  ·
   rw [if_neg c5] at H
   have c5b0 : (a2_0 == 1) = false := beq_eq_false_iff_ne.mpr c5
   have c5b1 : (a2_0 != 1) = true := bne_iff_ne.mpr c5
   by_cases c157 : a2_0 = 2
   ·
    rw [if_pos c157] at H
    have c157b0 : (a2_0 == 2) = true := beq_iff_eq.mpr c157
    have c157b1 : (a2_0 != 2) = false := bne_eq_false_iff_eq.mpr c157
    clear c157
    by_cases c158 : a2_1 = 0
    ·
     rw [if_pos c158] at H
     have c158b0 : (a2_1 == 0) = true := beq_iff_eq.mpr c158
     have c158b1 : (a2_1 != 0) = false := bne_eq_false_iff_eq.mpr c158
     clear c158
     by_cases c159 : a2_2 = 0
     ·
      rw [if_pos c159] at H
      have c159b0 : (a2_2 == 0) = true := beq_iff_eq.mpr c159
      have c159b1 : (a2_2 != 0) = false := bne_eq_false_iff_eq.mpr c159
      clear c159
      replace H := Option.bind_eq_some_iff.mp H
      obtain ⟨t195, A1600, H⟩ := H
      replace H : (if t195 = true then (if a1_1 = true then (some (a1_0, a1_1, l1_2, false)) else ((culetref49_finished.f k l0_0 l0_1 a0_2 a0_3 a1_0 a1_1 l1_2 1).bind fun t196 => (if t196 = true then (some (a1_0, true, y191, true)) else (some (a1_0, a1_1, l1_2, false))))) else (some (a1_0, a1_1, l1_2, false))) = some (r1, r2, r3, r4) := H
      have A160 := am_ A1600
      clear A1600
      by_cases c161 : t195 = true
      ·
       subst c161
       have H1 : (if a1_1 = true then (some (a1_0, a1_1, l1_2, false)) else ((culetref49_finished.f k l0_0 l0_1 a0_2 a0_3 a1_0 a1_1 l1_2 1).bind fun t196 => (if t196 = true then (some (a1_0, true, y191, true)) else (some (a1_0, a1_1, l1_2, false))))) = some (r1, r2, r3, r4) := by rw [if_pos rfl] at H; exact H
       clear H
       have H := H1
       clear H1
       by_cases c162 : a1_1 = true
       ·
        subst c162
        have H1 : (some (a1_0, true, l1_2, false)) = some (r1, r2, r3, r4) := by rw [if_pos rfl] at H; exact H
        clear H
        have H := H1
        clear H1
        simp only [Option.some.injEq, Prod.mk.injEq] at H
        obtain ⟨rfl, rfl, rfl, rfl⟩ := H
        have hnb179 := NB186_184.out
        have hnc179 := NB184_186.out
        have hnb180 := NB186_185.out
        have hnc180 := NB185_186.out
        have hnb181 := NB186_187.out
        have hnc181 := NB187_186.out
        have hnb182 := NB186_194.out
        have hnc182 := NB194_186.out
        have hcz183_0 : w19.cell? ⟨gb186, 0, none⟩ = some (.int .i64 a2_0) := (blk_cell BK186.out 0).trans rfl
        have hcz183_1 : w19.cell? ⟨gb186, 1, none⟩ = some (.int .i64 a2_1) := (blk_cell BK186.out 1).trans rfl
        have hcz183_2 : w19.cell? ⟨gb186, 2, none⟩ = some (.int .i64 a2_2) := (blk_cell BK186.out 2).trans rfl
        have hfz183_0 := blk_frozen BK186.out 0
        have hfz183_1 := blk_frozen BK186.out 1
        have hfz183_2 := blk_frozen BK186.out 2
        have hnb184 := NB184_185.out
        have hnc184 := NB185_184.out
        have hnb185 := NB184_187.out
        have hnc185 := NB187_184.out
        have hnb186 := NB184_194.out
        have hnc186 := NB194_184.out
        have hcz187_0 : w19.cell? ⟨gb184, 0, none⟩ = some (.slice A0_0 l0_0.length c0_0) := (blk_cell BK184.out 0).trans rfl
        have hcz187_1 : w19.cell? ⟨gb184, 1, none⟩ = some (.slice A0_1 l0_1.length c0_1) := (blk_cell BK184.out 1).trans rfl
        have hcz187_2 : w19.cell? ⟨gb184, 2, none⟩ = some (.int .i64 a0_2) := (blk_cell BK184.out 2).trans rfl
        have hcz187_3 : w19.cell? ⟨gb184, 3, none⟩ = some (.int .i64 a0_3) := (blk_cell BK184.out 3).trans rfl
        have hfz187_0 := blk_frozen BK184.out 0
        have hfz187_1 := blk_frozen BK184.out 1
        have hfz187_2 := blk_frozen BK184.out 2
        have hfz187_3 := blk_frozen BK184.out 3
        try go_wp2_with (first | (go_at_call 38; (with_reducible refine (culetref49_both.calls k _ _ l0_0 _ _ l0_1 a0_2 a0_3 true _ ?side1 ?side2 ?side3 ?side4 A160.out).mono ?_); (case side1 => exact Kd.C_kept_now HR0_0.out (mp_ HK.out)); (case side2 => exact HC0_0.out); (case side3 => exact Kd.C_kept_now HR0_1.out (mp_ HK.out)); (case side4 => exact HC0_1.out); rintro e w188 ⟨rfl, hb⟩; have z_ := aI (am_ (Kd.R_below (by (with_reducible repeat (first | apply Kd.R_alloc | apply Kd.R_drewN | apply Kd.R_drew)); exact (Kd.R_mono (Kd.R_far (p := ⟨gb194, 2, none⟩) (Kd.R_far (p := ⟨gb194, 1, none⟩) (Kd.R_far (p := ⟨gb194, 0, none⟩) (Kd.R_types HO1_2.out BK194.out (by decide)) (fun _ hk => hk.2) (.int .i64 a1_0)) (fun _ hk => hk.2) (.bool true)) (fun _ hk => hk.2) (.slice Ao20 y191.length co20)) (fun _ h_ => h_.1))) hb)) (aI (am_ (Kd.R_below (by (with_reducible repeat (first | apply Kd.R_alloc | apply Kd.R_drewN | apply Kd.R_drew)); exact (Kd.R_mono (Kd.R_far (p := ⟨gb194, 2, none⟩) (Kd.R_far (p := ⟨gb194, 1, none⟩) (Kd.R_far (p := ⟨gb194, 0, none⟩) (Kd.R_types HO193.out BK194.out (by decide)) (fun _ hk => hk.2) (.int .i64 a1_0)) (fun _ hk => hk.2) (.bool true)) (fun _ hk => hk.2) (.slice Ao20 y191.length co20)) (fun _ h_ => h_.1))) hb)) (aI (am_ (blk_below (g := gb184) (o := .cells #[.slice A0_0 l0_0.length c0_0, .slice A0_1 l0_1.length c0_1, .int .i64 a0_2, .int .i64 a0_3] 25 (0, 0)) (mf_ BK184.out) hb)) (aI (am_ (blk_below (g := gb185) (o := .cells #[.int .i64 a1_0, .bool true, .slice Ao9 l1_2.length co9] 66 (0, 0)) (mf_ BK185.out) hb)) (aI (am_ (blk_below (g := gb186) (o := .cells #[.int .i64 a2_0, .int .i64 a2_1, .int .i64 a2_2] 63 (0, 0)) (mf_ BK186.out) hb)) (aI (am_ (blk_below (g := gb187) (o := .cells #[.int .i64 0, .bool false, .slice none 0 0] 66 (0, 0)) (mf_ BK187.out) hb)) (aI (am_ (blk_below (g := gb194) (o := .cells #[.int .i64 a1_0, .bool true, .slice Ao20 y191.length co20] 66 (0, 0)) (by (with_reducible repeat (first | refine blk_drewN ?_ _ | refine blk_drew ?_ | refine blk_alloc ?_ _)); refine blk_put (cs := #[.int .i64 a1_0, .bool true, .slice none 0 0]) ?_ 2 _ rfl; (with_reducible repeat (first | refine blk_drewN ?_ _ | refine blk_drew ?_ | refine blk_alloc ?_ _)); refine blk_put (cs := #[.int .i64 a1_0, .bool false, .slice none 0 0]) ?_ 1 _ rfl; (with_reducible repeat (first | refine blk_drewN ?_ _ | refine blk_drew ?_ | refine blk_alloc ?_ _)); refine blk_put (cs := #[.int .i64 0, .bool false, .slice none 0 0]) ?_ 0 _ rfl; (with_reducible repeat (first | refine blk_drewN ?_ _ | refine blk_drew ?_ | refine blk_alloc ?_ _)); exact BK194.out) hb)) (aI (am_ (Kept.below (S := (fun k_ => P1_2_ k_)) (mp_ HK.out) hb)) (am_ (below_step (mb_ HB.out) hb))))))))); clear HO1_2 HO193 BK184 BK185 BK186 BK187 BK194 HK HB; obtain ⟨HO1_2, HO193, BK184, BK185, BK186, BK187, BK194, HK, HB⟩ := z_; (try clear hb); (try clear hb2); (try clear hk); (try clear hi); have hnb189 := NB185_187.out; have hnc189 := NB187_185.out; have hnb190 := NB185_194.out; have hnc190 := NB194_185.out; have hcz191_0 : w188.cell? ⟨gb185, 0, none⟩ = some (.int .i64 a1_0) := (blk_cell BK185.out 0).trans rfl; have hcz191_1 : w188.cell? ⟨gb185, 1, none⟩ = some (.bool true) := (blk_cell BK185.out 1).trans rfl; have hcz191_2 : w188.cell? ⟨gb185, 2, none⟩ = some (.slice Ao9 l1_2.length co9) := (blk_cell BK185.out 2).trans rfl; have hfz191_0 := blk_frozen BK185.out 0; have hfz191_1 := blk_frozen BK185.out 1; have hfz191_2 := blk_frozen BK185.out 2; have hnb192 := NB187_194.out; have hnc192 := NB194_187.out; have hcz193_0 : w188.cell? ⟨gb187, 0, none⟩ = some (.int .i64 0) := (blk_cell BK187.out 0).trans rfl; have hcz193_1 : w188.cell? ⟨gb187, 1, none⟩ = some (.bool false) := (blk_cell BK187.out 1).trans rfl; have hcz193_2 : w188.cell? ⟨gb187, 2, none⟩ = some (.slice none 0 0) := (blk_cell BK187.out 2).trans rfl; have hfz193_0 := blk_frozen BK187.out 0; have hfz193_1 := blk_frozen BK187.out 1; have hfz193_2 := blk_frozen BK187.out 2))
        refine bodyPost_ret (results_ct rfl _ _ gb187 66 #[.int .i64 a1_0, .bool true, .slice Ao9 l1_2.length co9] (0, 0) _ rfl (by (with_reducible repeat (first | refine blk_drewN ?_ _ | refine blk_drew ?_ | refine blk_alloc ?_ _)); refine blk_put (cs := #[.int .i64 a1_0, .bool true, .slice none 0 0]) ?_ 2 _ rfl; (with_reducible repeat (first | refine blk_drewN ?_ _ | refine blk_drew ?_ | refine blk_alloc ?_ _)); refine blk_put (cs := #[.int .i64 a1_0, .bool false, .slice none 0 0]) ?_ 1 _ rfl; (with_reducible repeat (first | refine blk_drewN ?_ _ | refine blk_drew ?_ | refine blk_alloc ?_ _)); refine blk_put (cs := #[.int .i64 0, .bool false, .slice none 0 0]) ?_ 0 _ rfl; (with_reducible repeat (first | refine blk_drewN ?_ _ | refine blk_drew ?_ | refine blk_alloc ?_ _)); exact BK187.out) Tryd.underlying66 rfl (by kernel_rfl)) rfl ?_
        exact ⟨_, by first | rfl | (simp [errW_none, errW_some] <;> rfl) | (simp [*, errW_none, errW_some] <;> rfl), by (with_reducible repeat (first | apply Kd.R_alloc | apply Kd.R_drewN | apply Kd.R_drew)); exact Kd.R_mono (Kd.R_far (p := ⟨gb187, 2, none⟩) (Kd.R_far (p := ⟨gb187, 1, none⟩) (Kd.R_far (p := ⟨gb187, 0, none⟩) (Kd.R_types HO1_2.out BK187.out (by decide)) (fun _ hk => hk.2) (.int .i64 a1_0)) (fun _ hk => hk.2) (.bool true)) (fun _ hk => hk.2) (.slice Ao9 l1_2.length co9)) (fun _ hk => hk.1.1), mb_ HB.out, mp_ HK.out⟩
       ·
        replace c162 := Bool.eq_false_iff.mpr c162
        subst c162
        have H1 : ((culetref49_finished.f k l0_0 l0_1 a0_2 a0_3 a1_0 false l1_2 1).bind fun t196 => (if t196 = true then (some (a1_0, true, y191, true)) else (some (a1_0, false, l1_2, false)))) = some (r1, r2, r3, r4) := by rw [if_neg (show ¬ (false = true) by decide)] at H; exact H
        clear H
        have H := H1
        clear H1
        replace H := Option.bind_eq_some_iff.mp H
        obtain ⟨t196, A1940, H⟩ := H
        replace H : (if t196 = true then (some (a1_0, true, y191, true)) else (some (a1_0, false, l1_2, false))) = some (r1, r2, r3, r4) := H
        have A194 := am_ A1940
        clear A1940
        by_cases c195 : t196 = true
        ·
         subst c195
         have H1 : (some (a1_0, true, y191, true)) = some (r1, r2, r3, r4) := by rw [if_pos rfl] at H; exact H
         clear H
         have H := H1
         clear H1
         simp only [Option.some.injEq, Prod.mk.injEq] at H
         obtain ⟨rfl, rfl, rfl, rfl⟩ := H
         have hnb212 := NB186_184.out
         have hnc212 := NB184_186.out
         have hnb213 := NB186_185.out
         have hnc213 := NB185_186.out
         have hnb214 := NB186_187.out
         have hnc214 := NB187_186.out
         have hnb215 := NB186_194.out
         have hnc215 := NB194_186.out
         have hcz216_0 : w19.cell? ⟨gb186, 0, none⟩ = some (.int .i64 a2_0) := (blk_cell BK186.out 0).trans rfl
         have hcz216_1 : w19.cell? ⟨gb186, 1, none⟩ = some (.int .i64 a2_1) := (blk_cell BK186.out 1).trans rfl
         have hcz216_2 : w19.cell? ⟨gb186, 2, none⟩ = some (.int .i64 a2_2) := (blk_cell BK186.out 2).trans rfl
         have hfz216_0 := blk_frozen BK186.out 0
         have hfz216_1 := blk_frozen BK186.out 1
         have hfz216_2 := blk_frozen BK186.out 2
         have hnb217 := NB184_185.out
         have hnc217 := NB185_184.out
         have hnb218 := NB184_187.out
         have hnc218 := NB187_184.out
         have hnb219 := NB184_194.out
         have hnc219 := NB194_184.out
         have hcz220_0 : w19.cell? ⟨gb184, 0, none⟩ = some (.slice A0_0 l0_0.length c0_0) := (blk_cell BK184.out 0).trans rfl
         have hcz220_1 : w19.cell? ⟨gb184, 1, none⟩ = some (.slice A0_1 l0_1.length c0_1) := (blk_cell BK184.out 1).trans rfl
         have hcz220_2 : w19.cell? ⟨gb184, 2, none⟩ = some (.int .i64 a0_2) := (blk_cell BK184.out 2).trans rfl
         have hcz220_3 : w19.cell? ⟨gb184, 3, none⟩ = some (.int .i64 a0_3) := (blk_cell BK184.out 3).trans rfl
         have hfz220_0 := blk_frozen BK184.out 0
         have hfz220_1 := blk_frozen BK184.out 1
         have hfz220_2 := blk_frozen BK184.out 2
         have hfz220_3 := blk_frozen BK184.out 3
         try go_wp2_with (first | (go_at_call 38; (with_reducible refine (culetref49_both.calls k _ _ l0_0 _ _ l0_1 a0_2 a0_3 true _ ?side1 ?side2 ?side3 ?side4 A160.out).mono ?_); (case side1 => exact Kd.C_kept_now HR0_0.out (mp_ HK.out)); (case side2 => exact HC0_0.out); (case side3 => exact Kd.C_kept_now HR0_1.out (mp_ HK.out)); (case side4 => exact HC0_1.out); rintro e w221 ⟨rfl, hb⟩; have z_ := aI (am_ (Kd.R_below (by (with_reducible repeat (first | apply Kd.R_alloc | apply Kd.R_drewN | apply Kd.R_drew)); exact (Kd.R_mono (Kd.R_far (p := ⟨gb194, 2, none⟩) (Kd.R_far (p := ⟨gb194, 1, none⟩) (Kd.R_far (p := ⟨gb194, 0, none⟩) (Kd.R_types HO1_2.out BK194.out (by decide)) (fun _ hk => hk.2) (.int .i64 a1_0)) (fun _ hk => hk.2) (.bool false)) (fun _ hk => hk.2) (.slice Ao20 y191.length co20)) (fun _ h_ => h_.1))) hb)) (aI (am_ (Kd.R_below (by (with_reducible repeat (first | apply Kd.R_alloc | apply Kd.R_drewN | apply Kd.R_drew)); exact (Kd.R_mono (Kd.R_far (p := ⟨gb194, 2, none⟩) (Kd.R_far (p := ⟨gb194, 1, none⟩) (Kd.R_far (p := ⟨gb194, 0, none⟩) (Kd.R_types HO193.out BK194.out (by decide)) (fun _ hk => hk.2) (.int .i64 a1_0)) (fun _ hk => hk.2) (.bool false)) (fun _ hk => hk.2) (.slice Ao20 y191.length co20)) (fun _ h_ => h_.1))) hb)) (aI (am_ (blk_below (g := gb184) (o := .cells #[.slice A0_0 l0_0.length c0_0, .slice A0_1 l0_1.length c0_1, .int .i64 a0_2, .int .i64 a0_3] 25 (0, 0)) (mf_ BK184.out) hb)) (aI (am_ (blk_below (g := gb185) (o := .cells #[.int .i64 a1_0, .bool false, .slice Ao9 l1_2.length co9] 66 (0, 0)) (mf_ BK185.out) hb)) (aI (am_ (blk_below (g := gb186) (o := .cells #[.int .i64 a2_0, .int .i64 a2_1, .int .i64 a2_2] 63 (0, 0)) (mf_ BK186.out) hb)) (aI (am_ (blk_below (g := gb187) (o := .cells #[.int .i64 0, .bool false, .slice none 0 0] 66 (0, 0)) (mf_ BK187.out) hb)) (aI (am_ (blk_below (g := gb194) (o := .cells #[.int .i64 a1_0, .bool false, .slice Ao20 y191.length co20] 66 (0, 0)) (by (with_reducible repeat (first | refine blk_drewN ?_ _ | refine blk_drew ?_ | refine blk_alloc ?_ _)); refine blk_put (cs := #[.int .i64 a1_0, .bool false, .slice none 0 0]) ?_ 2 _ rfl; (with_reducible repeat (first | refine blk_drewN ?_ _ | refine blk_drew ?_ | refine blk_alloc ?_ _)); refine blk_put (cs := #[.int .i64 a1_0, .bool false, .slice none 0 0]) ?_ 1 _ rfl; (with_reducible repeat (first | refine blk_drewN ?_ _ | refine blk_drew ?_ | refine blk_alloc ?_ _)); refine blk_put (cs := #[.int .i64 0, .bool false, .slice none 0 0]) ?_ 0 _ rfl; (with_reducible repeat (first | refine blk_drewN ?_ _ | refine blk_drew ?_ | refine blk_alloc ?_ _)); exact BK194.out) hb)) (aI (am_ (Kept.below (S := (fun k_ => P1_2_ k_)) (mp_ HK.out) hb)) (am_ (below_step (mb_ HB.out) hb))))))))); clear HO1_2 HO193 BK184 BK185 BK186 BK187 BK194 HK HB; obtain ⟨HO1_2, HO193, BK184, BK185, BK186, BK187, BK194, HK, HB⟩ := z_; (try clear hb); (try clear hb2); (try clear hk); (try clear hi); have hnb222 := NB185_187.out; have hnc222 := NB187_185.out; have hnb223 := NB185_194.out; have hnc223 := NB194_185.out; have hcz224_0 : w221.cell? ⟨gb185, 0, none⟩ = some (.int .i64 a1_0) := (blk_cell BK185.out 0).trans rfl; have hcz224_1 : w221.cell? ⟨gb185, 1, none⟩ = some (.bool false) := (blk_cell BK185.out 1).trans rfl; have hcz224_2 : w221.cell? ⟨gb185, 2, none⟩ = some (.slice Ao9 l1_2.length co9) := (blk_cell BK185.out 2).trans rfl; have hfz224_0 := blk_frozen BK185.out 0; have hfz224_1 := blk_frozen BK185.out 1; have hfz224_2 := blk_frozen BK185.out 2; have hcz225_0 : w221.cell? ⟨gb184, 0, none⟩ = some (.slice A0_0 l0_0.length c0_0) := (blk_cell BK184.out 0).trans rfl; have hcz225_1 : w221.cell? ⟨gb184, 1, none⟩ = some (.slice A0_1 l0_1.length c0_1) := (blk_cell BK184.out 1).trans rfl; have hcz225_2 : w221.cell? ⟨gb184, 2, none⟩ = some (.int .i64 a0_2) := (blk_cell BK184.out 2).trans rfl; have hcz225_3 : w221.cell? ⟨gb184, 3, none⟩ = some (.int .i64 a0_3) := (blk_cell BK184.out 3).trans rfl; have hfz225_0 := blk_frozen BK184.out 0; have hfz225_1 := blk_frozen BK184.out 1; have hfz225_2 := blk_frozen BK184.out 2; have hfz225_3 := blk_frozen BK184.out 3) | (go_at_call 25; (with_reducible refine (culetref49_finished.calls k _ _ l0_0 _ _ l0_1 a0_2 a0_3 a1_0 false _ _ l1_2 1 true _ ?side1 ?side2 ?side3 ?side4 ?side5 ?side6 A194.out).mono ?_); (case side1 => exact Kd.C_kept_now HR0_0.out (mp_ HK.out)); (case side2 => exact HC0_0.out); (case side3 => exact Kd.C_kept_now HR0_1.out (mp_ HK.out)); (case side4 => exact HC0_1.out); (case side5 => exact mc_ (Kd.R_reads' HO1_2.out).2.2); (case side6 => exact (Kd.R_reads' HO1_2.out).2.1); rintro e w226 ⟨rfl, hb⟩; have z_ := aI (am_ (Kd.R_below (mr_ HO1_2.out) hb)) (aI (am_ (Kd.R_below (mr_ HO193.out) hb)) (aI (am_ (blk_below (mk_ BK184.out) hb)) (aI (am_ (blk_below (mk_ BK185.out) hb)) (aI (am_ (blk_below (mk_ BK186.out) hb)) (aI (am_ (blk_below (mk_ BK187.out) hb)) (aI (am_ (blk_below (mk_ BK194.out) hb)) (aI (am_ (Kept.below (S := (fun k_ => P1_2_ k_)) (mp_ HK.out) hb)) (am_ (below_step (mb_ HB.out) hb))))))))); clear HO1_2 HO193 BK184 BK185 BK186 BK187 BK194 HK HB; obtain ⟨HO1_2, HO193, BK184, BK185, BK186, BK187, BK194, HK, HB⟩ := z_; (try clear hb); (try clear hb2); (try clear hk); (try clear hi); have hnb227 := NB194_187.out; have hnc227 := NB187_194.out; have hcz228_0 : w226.cell? ⟨gb194, 0, none⟩ = some (.int .i64 a1_0) := (blk_cell BK194.out 0).trans rfl; have hcz228_1 : w226.cell? ⟨gb194, 1, none⟩ = some (.bool false) := (blk_cell BK194.out 1).trans rfl; have hcz228_2 : w226.cell? ⟨gb194, 2, none⟩ = some (.slice Ao20 y191.length co20) := (blk_cell BK194.out 2).trans rfl; have hfz228_0 := blk_frozen BK194.out 0; have hfz228_1 := blk_frozen BK194.out 1; have hfz228_2 := blk_frozen BK194.out 2; have hcz229_0 : w226.cell? ⟨gb187, 0, none⟩ = some (.int .i64 0) := (blk_cell BK187.out 0).trans rfl; have hcz229_1 : w226.cell? ⟨gb187, 1, none⟩ = some (.bool false) := (blk_cell BK187.out 1).trans rfl; have hcz229_2 : w226.cell? ⟨gb187, 2, none⟩ = some (.slice none 0 0) := (blk_cell BK187.out 2).trans rfl; have hfz229_0 := blk_frozen BK187.out 0; have hfz229_1 := blk_frozen BK187.out 1; have hfz229_2 := blk_frozen BK187.out 2))
         refine bodyPost_ret (results_ct rfl _ _ gb187 66 #[.int .i64 a1_0, .bool true, .slice Ao20 y191.length co20] (0, 0) _ rfl (by (with_reducible repeat (first | refine blk_drewN ?_ _ | refine blk_drew ?_ | refine blk_alloc ?_ _)); refine blk_put (cs := #[.int .i64 a1_0, .bool true, .slice none 0 0]) ?_ 2 _ rfl; (with_reducible repeat (first | refine blk_drewN ?_ _ | refine blk_drew ?_ | refine blk_alloc ?_ _)); refine blk_put (cs := #[.int .i64 a1_0, .bool false, .slice none 0 0]) ?_ 1 _ rfl; (with_reducible repeat (first | refine blk_drewN ?_ _ | refine blk_drew ?_ | refine blk_alloc ?_ _)); refine blk_put (cs := #[.int .i64 0, .bool false, .slice none 0 0]) ?_ 0 _ rfl; (with_reducible repeat (first | refine blk_drewN ?_ _ | refine blk_drew ?_ | refine blk_alloc ?_ _)); refine blk_far ?_ NB187_194.out _; (with_reducible repeat (first | refine blk_drewN ?_ _ | refine blk_drew ?_ | refine blk_alloc ?_ _)); exact BK187.out) Tryd.underlying66 rfl (by kernel_rfl)) rfl ?_
         exact ⟨_, by first | rfl | (simp [errW_none, errW_some] <;> rfl) | (simp [*, errW_none, errW_some] <;> rfl), by (with_reducible repeat (first | apply Kd.R_alloc | apply Kd.R_drewN | apply Kd.R_drew)); exact Kd.R_mono (Kd.R_far (p := ⟨gb187, 2, none⟩) (Kd.R_far (p := ⟨gb187, 1, none⟩) (Kd.R_far (p := ⟨gb187, 0, none⟩) (Kd.R_far (p := ⟨gb194, 1, none⟩) (Kd.R_types (Kd.R_types HO193.out BK194.out (by decide)) BK187.out (by decide)) (fun _ hk => hk.1.2) (.bool true)) (fun _ hk => hk.2) (.int .i64 a1_0)) (fun _ hk => hk.2) (.bool true)) (fun _ hk => hk.2) (.slice Ao20 y191.length co20)) (fun _ hk => hk.1.1.1), mb_ HB.out, mp_ HK.out⟩
        ·
         replace c195 := Bool.eq_false_iff.mpr c195
         subst c195
         have H1 : (some (a1_0, false, l1_2, false)) = some (r1, r2, r3, r4) := by rw [if_neg (show ¬ (false = true) by decide)] at H; exact H
         clear H
         have H := H1
         clear H1
         simp only [Option.some.injEq, Prod.mk.injEq] at H
         obtain ⟨rfl, rfl, rfl, rfl⟩ := H
         have hnb246 := NB186_184.out
         have hnc246 := NB184_186.out
         have hnb247 := NB186_185.out
         have hnc247 := NB185_186.out
         have hnb248 := NB186_187.out
         have hnc248 := NB187_186.out
         have hnb249 := NB186_194.out
         have hnc249 := NB194_186.out
         have hcz250_0 : w19.cell? ⟨gb186, 0, none⟩ = some (.int .i64 a2_0) := (blk_cell BK186.out 0).trans rfl
         have hcz250_1 : w19.cell? ⟨gb186, 1, none⟩ = some (.int .i64 a2_1) := (blk_cell BK186.out 1).trans rfl
         have hcz250_2 : w19.cell? ⟨gb186, 2, none⟩ = some (.int .i64 a2_2) := (blk_cell BK186.out 2).trans rfl
         have hfz250_0 := blk_frozen BK186.out 0
         have hfz250_1 := blk_frozen BK186.out 1
         have hfz250_2 := blk_frozen BK186.out 2
         have hnb251 := NB184_185.out
         have hnc251 := NB185_184.out
         have hnb252 := NB184_187.out
         have hnc252 := NB187_184.out
         have hnb253 := NB184_194.out
         have hnc253 := NB194_184.out
         have hcz254_0 : w19.cell? ⟨gb184, 0, none⟩ = some (.slice A0_0 l0_0.length c0_0) := (blk_cell BK184.out 0).trans rfl
         have hcz254_1 : w19.cell? ⟨gb184, 1, none⟩ = some (.slice A0_1 l0_1.length c0_1) := (blk_cell BK184.out 1).trans rfl
         have hcz254_2 : w19.cell? ⟨gb184, 2, none⟩ = some (.int .i64 a0_2) := (blk_cell BK184.out 2).trans rfl
         have hcz254_3 : w19.cell? ⟨gb184, 3, none⟩ = some (.int .i64 a0_3) := (blk_cell BK184.out 3).trans rfl
         have hfz254_0 := blk_frozen BK184.out 0
         have hfz254_1 := blk_frozen BK184.out 1
         have hfz254_2 := blk_frozen BK184.out 2
         have hfz254_3 := blk_frozen BK184.out 3
         try go_wp2_with (first | (go_at_call 38; (with_reducible refine (culetref49_both.calls k _ _ l0_0 _ _ l0_1 a0_2 a0_3 true _ ?side1 ?side2 ?side3 ?side4 A160.out).mono ?_); (case side1 => exact Kd.C_kept_now HR0_0.out (mp_ HK.out)); (case side2 => exact HC0_0.out); (case side3 => exact Kd.C_kept_now HR0_1.out (mp_ HK.out)); (case side4 => exact HC0_1.out); rintro e w255 ⟨rfl, hb⟩; have z_ := aI (am_ (Kd.R_below (by (with_reducible repeat (first | apply Kd.R_alloc | apply Kd.R_drewN | apply Kd.R_drew)); exact (Kd.R_mono (Kd.R_far (p := ⟨gb194, 2, none⟩) (Kd.R_far (p := ⟨gb194, 1, none⟩) (Kd.R_far (p := ⟨gb194, 0, none⟩) (Kd.R_types HO1_2.out BK194.out (by decide)) (fun _ hk => hk.2) (.int .i64 a1_0)) (fun _ hk => hk.2) (.bool false)) (fun _ hk => hk.2) (.slice Ao20 y191.length co20)) (fun _ h_ => h_.1))) hb)) (aI (am_ (Kd.R_below (by (with_reducible repeat (first | apply Kd.R_alloc | apply Kd.R_drewN | apply Kd.R_drew)); exact (Kd.R_mono (Kd.R_far (p := ⟨gb194, 2, none⟩) (Kd.R_far (p := ⟨gb194, 1, none⟩) (Kd.R_far (p := ⟨gb194, 0, none⟩) (Kd.R_types HO193.out BK194.out (by decide)) (fun _ hk => hk.2) (.int .i64 a1_0)) (fun _ hk => hk.2) (.bool false)) (fun _ hk => hk.2) (.slice Ao20 y191.length co20)) (fun _ h_ => h_.1))) hb)) (aI (am_ (blk_below (g := gb184) (o := .cells #[.slice A0_0 l0_0.length c0_0, .slice A0_1 l0_1.length c0_1, .int .i64 a0_2, .int .i64 a0_3] 25 (0, 0)) (mf_ BK184.out) hb)) (aI (am_ (blk_below (g := gb185) (o := .cells #[.int .i64 a1_0, .bool false, .slice Ao9 l1_2.length co9] 66 (0, 0)) (mf_ BK185.out) hb)) (aI (am_ (blk_below (g := gb186) (o := .cells #[.int .i64 a2_0, .int .i64 a2_1, .int .i64 a2_2] 63 (0, 0)) (mf_ BK186.out) hb)) (aI (am_ (blk_below (g := gb187) (o := .cells #[.int .i64 0, .bool false, .slice none 0 0] 66 (0, 0)) (mf_ BK187.out) hb)) (aI (am_ (blk_below (g := gb194) (o := .cells #[.int .i64 a1_0, .bool false, .slice Ao20 y191.length co20] 66 (0, 0)) (by (with_reducible repeat (first | refine blk_drewN ?_ _ | refine blk_drew ?_ | refine blk_alloc ?_ _)); refine blk_put (cs := #[.int .i64 a1_0, .bool false, .slice none 0 0]) ?_ 2 _ rfl; (with_reducible repeat (first | refine blk_drewN ?_ _ | refine blk_drew ?_ | refine blk_alloc ?_ _)); refine blk_put (cs := #[.int .i64 a1_0, .bool false, .slice none 0 0]) ?_ 1 _ rfl; (with_reducible repeat (first | refine blk_drewN ?_ _ | refine blk_drew ?_ | refine blk_alloc ?_ _)); refine blk_put (cs := #[.int .i64 0, .bool false, .slice none 0 0]) ?_ 0 _ rfl; (with_reducible repeat (first | refine blk_drewN ?_ _ | refine blk_drew ?_ | refine blk_alloc ?_ _)); exact BK194.out) hb)) (aI (am_ (Kept.below (S := (fun k_ => P1_2_ k_)) (mp_ HK.out) hb)) (am_ (below_step (mb_ HB.out) hb))))))))); clear HO1_2 HO193 BK184 BK185 BK186 BK187 BK194 HK HB; obtain ⟨HO1_2, HO193, BK184, BK185, BK186, BK187, BK194, HK, HB⟩ := z_; (try clear hb); (try clear hb2); (try clear hk); (try clear hi); have hnb256 := NB185_187.out; have hnc256 := NB187_185.out; have hnb257 := NB185_194.out; have hnc257 := NB194_185.out; have hcz258_0 : w255.cell? ⟨gb185, 0, none⟩ = some (.int .i64 a1_0) := (blk_cell BK185.out 0).trans rfl; have hcz258_1 : w255.cell? ⟨gb185, 1, none⟩ = some (.bool false) := (blk_cell BK185.out 1).trans rfl; have hcz258_2 : w255.cell? ⟨gb185, 2, none⟩ = some (.slice Ao9 l1_2.length co9) := (blk_cell BK185.out 2).trans rfl; have hfz258_0 := blk_frozen BK185.out 0; have hfz258_1 := blk_frozen BK185.out 1; have hfz258_2 := blk_frozen BK185.out 2; have hcz259_0 : w255.cell? ⟨gb184, 0, none⟩ = some (.slice A0_0 l0_0.length c0_0) := (blk_cell BK184.out 0).trans rfl; have hcz259_1 : w255.cell? ⟨gb184, 1, none⟩ = some (.slice A0_1 l0_1.length c0_1) := (blk_cell BK184.out 1).trans rfl; have hcz259_2 : w255.cell? ⟨gb184, 2, none⟩ = some (.int .i64 a0_2) := (blk_cell BK184.out 2).trans rfl; have hcz259_3 : w255.cell? ⟨gb184, 3, none⟩ = some (.int .i64 a0_3) := (blk_cell BK184.out 3).trans rfl; have hfz259_0 := blk_frozen BK184.out 0; have hfz259_1 := blk_frozen BK184.out 1; have hfz259_2 := blk_frozen BK184.out 2; have hfz259_3 := blk_frozen BK184.out 3) | (go_at_call 25; (with_reducible refine (culetref49_finished.calls k _ _ l0_0 _ _ l0_1 a0_2 a0_3 a1_0 false _ _ l1_2 1 false _ ?side1 ?side2 ?side3 ?side4 ?side5 ?side6 A194.out).mono ?_); (case side1 => exact Kd.C_kept_now HR0_0.out (mp_ HK.out)); (case side2 => exact HC0_0.out); (case side3 => exact Kd.C_kept_now HR0_1.out (mp_ HK.out)); (case side4 => exact HC0_1.out); (case side5 => exact mc_ (Kd.R_reads' HO1_2.out).2.2); (case side6 => exact (Kd.R_reads' HO1_2.out).2.1); rintro e w260 ⟨rfl, hb⟩; have z_ := aI (am_ (Kd.R_below (mr_ HO1_2.out) hb)) (aI (am_ (Kd.R_below (mr_ HO193.out) hb)) (aI (am_ (blk_below (mk_ BK184.out) hb)) (aI (am_ (blk_below (mk_ BK185.out) hb)) (aI (am_ (blk_below (mk_ BK186.out) hb)) (aI (am_ (blk_below (mk_ BK187.out) hb)) (aI (am_ (blk_below (mk_ BK194.out) hb)) (aI (am_ (Kept.below (S := (fun k_ => P1_2_ k_)) (mp_ HK.out) hb)) (am_ (below_step (mb_ HB.out) hb))))))))); clear HO1_2 HO193 BK184 BK185 BK186 BK187 BK194 HK HB; obtain ⟨HO1_2, HO193, BK184, BK185, BK186, BK187, BK194, HK, HB⟩ := z_; (try clear hb); (try clear hb2); (try clear hk); (try clear hi); have hcz261_0 : w260.cell? ⟨gb185, 0, none⟩ = some (.int .i64 a1_0) := (blk_cell BK185.out 0).trans rfl; have hcz261_1 : w260.cell? ⟨gb185, 1, none⟩ = some (.bool false) := (blk_cell BK185.out 1).trans rfl; have hcz261_2 : w260.cell? ⟨gb185, 2, none⟩ = some (.slice Ao9 l1_2.length co9) := (blk_cell BK185.out 2).trans rfl; have hfz261_0 := blk_frozen BK185.out 0; have hfz261_1 := blk_frozen BK185.out 1; have hfz261_2 := blk_frozen BK185.out 2; have hnb262 := NB187_194.out; have hnc262 := NB194_187.out; have hcz263_0 : w260.cell? ⟨gb187, 0, none⟩ = some (.int .i64 0) := (blk_cell BK187.out 0).trans rfl; have hcz263_1 : w260.cell? ⟨gb187, 1, none⟩ = some (.bool false) := (blk_cell BK187.out 1).trans rfl; have hcz263_2 : w260.cell? ⟨gb187, 2, none⟩ = some (.slice none 0 0) := (blk_cell BK187.out 2).trans rfl; have hfz263_0 := blk_frozen BK187.out 0; have hfz263_1 := blk_frozen BK187.out 1; have hfz263_2 := blk_frozen BK187.out 2))
         refine bodyPost_ret (results_ct rfl _ _ gb187 66 #[.int .i64 a1_0, .bool false, .slice Ao9 l1_2.length co9] (0, 0) _ rfl (by (with_reducible repeat (first | refine blk_drewN ?_ _ | refine blk_drew ?_ | refine blk_alloc ?_ _)); refine blk_put (cs := #[.int .i64 a1_0, .bool false, .slice none 0 0]) ?_ 2 _ rfl; (with_reducible repeat (first | refine blk_drewN ?_ _ | refine blk_drew ?_ | refine blk_alloc ?_ _)); refine blk_put (cs := #[.int .i64 a1_0, .bool false, .slice none 0 0]) ?_ 1 _ rfl; (with_reducible repeat (first | refine blk_drewN ?_ _ | refine blk_drew ?_ | refine blk_alloc ?_ _)); refine blk_put (cs := #[.int .i64 0, .bool false, .slice none 0 0]) ?_ 0 _ rfl; (with_reducible repeat (first | refine blk_drewN ?_ _ | refine blk_drew ?_ | refine blk_alloc ?_ _)); exact BK187.out) Tryd.underlying66 rfl (by kernel_rfl)) rfl ?_
         exact ⟨_, by first | rfl | (simp [errW_none, errW_some] <;> rfl) | (simp [*, errW_none, errW_some] <;> rfl), by (with_reducible repeat (first | apply Kd.R_alloc | apply Kd.R_drewN | apply Kd.R_drew)); exact Kd.R_mono (Kd.R_far (p := ⟨gb187, 2, none⟩) (Kd.R_far (p := ⟨gb187, 1, none⟩) (Kd.R_far (p := ⟨gb187, 0, none⟩) (Kd.R_types HO1_2.out BK187.out (by decide)) (fun _ hk => hk.2) (.int .i64 a1_0)) (fun _ hk => hk.2) (.bool false)) (fun _ hk => hk.2) (.slice Ao9 l1_2.length co9)) (fun _ hk => hk.1.1), mb_ HB.out, mp_ HK.out⟩
      ·
       replace c161 := Bool.eq_false_iff.mpr c161
       subst c161
       have H1 : (some (a1_0, a1_1, l1_2, false)) = some (r1, r2, r3, r4) := by rw [if_neg (show ¬ (false = true) by decide)] at H; exact H
       clear H
       have H := H1
       clear H1
       simp only [Option.some.injEq, Prod.mk.injEq] at H
       obtain ⟨rfl, rfl, rfl, rfl⟩ := H
       have hnb280 := NB186_184.out
       have hnc280 := NB184_186.out
       have hnb281 := NB186_185.out
       have hnc281 := NB185_186.out
       have hnb282 := NB186_187.out
       have hnc282 := NB187_186.out
       have hnb283 := NB186_194.out
       have hnc283 := NB194_186.out
       have hcz284_0 : w19.cell? ⟨gb186, 0, none⟩ = some (.int .i64 a2_0) := (blk_cell BK186.out 0).trans rfl
       have hcz284_1 : w19.cell? ⟨gb186, 1, none⟩ = some (.int .i64 a2_1) := (blk_cell BK186.out 1).trans rfl
       have hcz284_2 : w19.cell? ⟨gb186, 2, none⟩ = some (.int .i64 a2_2) := (blk_cell BK186.out 2).trans rfl
       have hfz284_0 := blk_frozen BK186.out 0
       have hfz284_1 := blk_frozen BK186.out 1
       have hfz284_2 := blk_frozen BK186.out 2
       have hnb285 := NB184_185.out
       have hnc285 := NB185_184.out
       have hnb286 := NB184_187.out
       have hnc286 := NB187_184.out
       have hnb287 := NB184_194.out
       have hnc287 := NB194_184.out
       have hcz288_0 : w19.cell? ⟨gb184, 0, none⟩ = some (.slice A0_0 l0_0.length c0_0) := (blk_cell BK184.out 0).trans rfl
       have hcz288_1 : w19.cell? ⟨gb184, 1, none⟩ = some (.slice A0_1 l0_1.length c0_1) := (blk_cell BK184.out 1).trans rfl
       have hcz288_2 : w19.cell? ⟨gb184, 2, none⟩ = some (.int .i64 a0_2) := (blk_cell BK184.out 2).trans rfl
       have hcz288_3 : w19.cell? ⟨gb184, 3, none⟩ = some (.int .i64 a0_3) := (blk_cell BK184.out 3).trans rfl
       have hfz288_0 := blk_frozen BK184.out 0
       have hfz288_1 := blk_frozen BK184.out 1
       have hfz288_2 := blk_frozen BK184.out 2
       have hfz288_3 := blk_frozen BK184.out 3
       try go_wp2_with (first | (go_at_call 38; (with_reducible refine (culetref49_both.calls k _ _ l0_0 _ _ l0_1 a0_2 a0_3 false _ ?side1 ?side2 ?side3 ?side4 A160.out).mono ?_); (case side1 => exact Kd.C_kept_now HR0_0.out (mp_ HK.out)); (case side2 => exact HC0_0.out); (case side3 => exact Kd.C_kept_now HR0_1.out (mp_ HK.out)); (case side4 => exact HC0_1.out); rintro e w289 ⟨rfl, hb⟩; have z_ := aI (am_ (Kd.R_below (by (with_reducible repeat (first | apply Kd.R_alloc | apply Kd.R_drewN | apply Kd.R_drew)); exact (Kd.R_mono (Kd.R_far (p := ⟨gb194, 2, none⟩) (Kd.R_far (p := ⟨gb194, 1, none⟩) (Kd.R_far (p := ⟨gb194, 0, none⟩) (Kd.R_types HO1_2.out BK194.out (by decide)) (fun _ hk => hk.2) (.int .i64 a1_0)) (fun _ hk => hk.2) (.bool a1_1)) (fun _ hk => hk.2) (.slice Ao20 y191.length co20)) (fun _ h_ => h_.1))) hb)) (aI (am_ (Kd.R_below (by (with_reducible repeat (first | apply Kd.R_alloc | apply Kd.R_drewN | apply Kd.R_drew)); exact (Kd.R_mono (Kd.R_far (p := ⟨gb194, 2, none⟩) (Kd.R_far (p := ⟨gb194, 1, none⟩) (Kd.R_far (p := ⟨gb194, 0, none⟩) (Kd.R_types HO193.out BK194.out (by decide)) (fun _ hk => hk.2) (.int .i64 a1_0)) (fun _ hk => hk.2) (.bool a1_1)) (fun _ hk => hk.2) (.slice Ao20 y191.length co20)) (fun _ h_ => h_.1))) hb)) (aI (am_ (blk_below (g := gb184) (o := .cells #[.slice A0_0 l0_0.length c0_0, .slice A0_1 l0_1.length c0_1, .int .i64 a0_2, .int .i64 a0_3] 25 (0, 0)) (mf_ BK184.out) hb)) (aI (am_ (blk_below (g := gb185) (o := .cells #[.int .i64 a1_0, .bool a1_1, .slice Ao9 l1_2.length co9] 66 (0, 0)) (mf_ BK185.out) hb)) (aI (am_ (blk_below (g := gb186) (o := .cells #[.int .i64 a2_0, .int .i64 a2_1, .int .i64 a2_2] 63 (0, 0)) (mf_ BK186.out) hb)) (aI (am_ (blk_below (g := gb187) (o := .cells #[.int .i64 0, .bool false, .slice none 0 0] 66 (0, 0)) (mf_ BK187.out) hb)) (aI (am_ (blk_below (g := gb194) (o := .cells #[.int .i64 a1_0, .bool a1_1, .slice Ao20 y191.length co20] 66 (0, 0)) (by (with_reducible repeat (first | refine blk_drewN ?_ _ | refine blk_drew ?_ | refine blk_alloc ?_ _)); refine blk_put (cs := #[.int .i64 a1_0, .bool a1_1, .slice none 0 0]) ?_ 2 _ rfl; (with_reducible repeat (first | refine blk_drewN ?_ _ | refine blk_drew ?_ | refine blk_alloc ?_ _)); refine blk_put (cs := #[.int .i64 a1_0, .bool false, .slice none 0 0]) ?_ 1 _ rfl; (with_reducible repeat (first | refine blk_drewN ?_ _ | refine blk_drew ?_ | refine blk_alloc ?_ _)); refine blk_put (cs := #[.int .i64 0, .bool false, .slice none 0 0]) ?_ 0 _ rfl; (with_reducible repeat (first | refine blk_drewN ?_ _ | refine blk_drew ?_ | refine blk_alloc ?_ _)); exact BK194.out) hb)) (aI (am_ (Kept.below (S := (fun k_ => P1_2_ k_)) (mp_ HK.out) hb)) (am_ (below_step (mb_ HB.out) hb))))))))); clear HO1_2 HO193 BK184 BK185 BK186 BK187 BK194 HK HB; obtain ⟨HO1_2, HO193, BK184, BK185, BK186, BK187, BK194, HK, HB⟩ := z_; (try clear hb); (try clear hb2); (try clear hk); (try clear hi); have hnb290 := NB185_187.out; have hnc290 := NB187_185.out; have hnb291 := NB185_194.out; have hnc291 := NB194_185.out; have hcz292_0 : w289.cell? ⟨gb185, 0, none⟩ = some (.int .i64 a1_0) := (blk_cell BK185.out 0).trans rfl; have hcz292_1 : w289.cell? ⟨gb185, 1, none⟩ = some (.bool a1_1) := (blk_cell BK185.out 1).trans rfl; have hcz292_2 : w289.cell? ⟨gb185, 2, none⟩ = some (.slice Ao9 l1_2.length co9) := (blk_cell BK185.out 2).trans rfl; have hfz292_0 := blk_frozen BK185.out 0; have hfz292_1 := blk_frozen BK185.out 1; have hfz292_2 := blk_frozen BK185.out 2; have hnb293 := NB187_194.out; have hnc293 := NB194_187.out; have hcz294_0 : w289.cell? ⟨gb187, 0, none⟩ = some (.int .i64 0) := (blk_cell BK187.out 0).trans rfl; have hcz294_1 : w289.cell? ⟨gb187, 1, none⟩ = some (.bool false) := (blk_cell BK187.out 1).trans rfl; have hcz294_2 : w289.cell? ⟨gb187, 2, none⟩ = some (.slice none 0 0) := (blk_cell BK187.out 2).trans rfl; have hfz294_0 := blk_frozen BK187.out 0; have hfz294_1 := blk_frozen BK187.out 1; have hfz294_2 := blk_frozen BK187.out 2))
       refine bodyPost_ret (results_ct rfl _ _ gb187 66 #[.int .i64 a1_0, .bool a1_1, .slice Ao9 l1_2.length co9] (0, 0) _ rfl (by (with_reducible repeat (first | refine blk_drewN ?_ _ | refine blk_drew ?_ | refine blk_alloc ?_ _)); refine blk_put (cs := #[.int .i64 a1_0, .bool a1_1, .slice none 0 0]) ?_ 2 _ rfl; (with_reducible repeat (first | refine blk_drewN ?_ _ | refine blk_drew ?_ | refine blk_alloc ?_ _)); refine blk_put (cs := #[.int .i64 a1_0, .bool false, .slice none 0 0]) ?_ 1 _ rfl; (with_reducible repeat (first | refine blk_drewN ?_ _ | refine blk_drew ?_ | refine blk_alloc ?_ _)); refine blk_put (cs := #[.int .i64 0, .bool false, .slice none 0 0]) ?_ 0 _ rfl; (with_reducible repeat (first | refine blk_drewN ?_ _ | refine blk_drew ?_ | refine blk_alloc ?_ _)); exact BK187.out) Tryd.underlying66 rfl (by kernel_rfl)) rfl ?_
       exact ⟨_, by first | rfl | (simp [errW_none, errW_some] <;> rfl) | (simp [*, errW_none, errW_some] <;> rfl), by (with_reducible repeat (first | apply Kd.R_alloc | apply Kd.R_drewN | apply Kd.R_drew)); exact Kd.R_mono (Kd.R_far (p := ⟨gb187, 2, none⟩) (Kd.R_far (p := ⟨gb187, 1, none⟩) (Kd.R_far (p := ⟨gb187, 0, none⟩) (Kd.R_types HO1_2.out BK187.out (by decide)) (fun _ hk => hk.2) (.int .i64 a1_0)) (fun _ hk => hk.2) (.bool a1_1)) (fun _ hk => hk.2) (.slice Ao9 l1_2.length co9)) (fun _ hk => hk.1.1), mb_ HB.out, mp_ HK.out⟩
     ·
      rw [if_neg c159] at H
      have c159b0 : (a2_2 == 0) = false := beq_eq_false_iff_ne.mpr c159
      have c159b1 : (a2_2 != 0) = true := bne_iff_ne.mpr c159
      simp only [Option.some.injEq, Prod.mk.injEq] at H
      obtain ⟨rfl, rfl, rfl, rfl⟩ := H
      have hnb311 := NB186_184.out
      have hnc311 := NB184_186.out
      have hnb312 := NB186_185.out
      have hnc312 := NB185_186.out
      have hnb313 := NB186_187.out
      have hnc313 := NB187_186.out
      have hnb314 := NB186_194.out
      have hnc314 := NB194_186.out
      have hcz315_0 : w19.cell? ⟨gb186, 0, none⟩ = some (.int .i64 a2_0) := (blk_cell BK186.out 0).trans rfl
      have hcz315_1 : w19.cell? ⟨gb186, 1, none⟩ = some (.int .i64 a2_1) := (blk_cell BK186.out 1).trans rfl
      have hcz315_2 : w19.cell? ⟨gb186, 2, none⟩ = some (.int .i64 a2_2) := (blk_cell BK186.out 2).trans rfl
      have hfz315_0 := blk_frozen BK186.out 0
      have hfz315_1 := blk_frozen BK186.out 1
      have hfz315_2 := blk_frozen BK186.out 2
      have hnb316 := NB185_184.out
      have hnc316 := NB184_185.out
      have hnb317 := NB185_187.out
      have hnc317 := NB187_185.out
      have hnb318 := NB185_194.out
      have hnc318 := NB194_185.out
      have hcz319_0 : w19.cell? ⟨gb185, 0, none⟩ = some (.int .i64 a1_0) := (blk_cell BK185.out 0).trans rfl
      have hcz319_1 : w19.cell? ⟨gb185, 1, none⟩ = some (.bool a1_1) := (blk_cell BK185.out 1).trans rfl
      have hcz319_2 : w19.cell? ⟨gb185, 2, none⟩ = some (.slice Ao9 l1_2.length co9) := (blk_cell BK185.out 2).trans rfl
      have hfz319_0 := blk_frozen BK185.out 0
      have hfz319_1 := blk_frozen BK185.out 1
      have hfz319_2 := blk_frozen BK185.out 2
      have hnb320 := NB187_184.out
      have hnc320 := NB184_187.out
      have hnb321 := NB187_194.out
      have hnc321 := NB194_187.out
      have hcz322_0 : w19.cell? ⟨gb187, 0, none⟩ = some (.int .i64 0) := (blk_cell BK187.out 0).trans rfl
      have hcz322_1 : w19.cell? ⟨gb187, 1, none⟩ = some (.bool false) := (blk_cell BK187.out 1).trans rfl
      have hcz322_2 : w19.cell? ⟨gb187, 2, none⟩ = some (.slice none 0 0) := (blk_cell BK187.out 2).trans rfl
      have hfz322_0 := blk_frozen BK187.out 0
      have hfz322_1 := blk_frozen BK187.out 1
      have hfz322_2 := blk_frozen BK187.out 2
      try go_wp2
      refine bodyPost_ret (results_ct rfl _ _ gb187 66 #[.int .i64 a1_0, .bool a1_1, .slice Ao9 l1_2.length co9] (0, 0) _ rfl (by (with_reducible repeat (first | refine blk_drewN ?_ _ | refine blk_drew ?_ | refine blk_alloc ?_ _)); refine blk_put (cs := #[.int .i64 a1_0, .bool a1_1, .slice none 0 0]) ?_ 2 _ rfl; (with_reducible repeat (first | refine blk_drewN ?_ _ | refine blk_drew ?_ | refine blk_alloc ?_ _)); refine blk_put (cs := #[.int .i64 a1_0, .bool false, .slice none 0 0]) ?_ 1 _ rfl; (with_reducible repeat (first | refine blk_drewN ?_ _ | refine blk_drew ?_ | refine blk_alloc ?_ _)); refine blk_put (cs := #[.int .i64 0, .bool false, .slice none 0 0]) ?_ 0 _ rfl; (with_reducible repeat (first | refine blk_drewN ?_ _ | refine blk_drew ?_ | refine blk_alloc ?_ _)); refine blk_far ?_ NB187_194.out _; (with_reducible repeat (first | refine blk_drewN ?_ _ | refine blk_drew ?_ | refine blk_alloc ?_ _)); refine blk_far ?_ NB187_194.out _; (with_reducible repeat (first | refine blk_drewN ?_ _ | refine blk_drew ?_ | refine blk_alloc ?_ _)); refine blk_far ?_ NB187_194.out _; (with_reducible repeat (first | refine blk_drewN ?_ _ | refine blk_drew ?_ | refine blk_alloc ?_ _)); exact BK187.out) Tryd.underlying66 rfl (by kernel_rfl)) rfl ?_
      exact ⟨_, by first | rfl | (simp [errW_none, errW_some] <;> rfl) | (simp [*, errW_none, errW_some] <;> rfl), by (with_reducible repeat (first | apply Kd.R_alloc | apply Kd.R_drewN | apply Kd.R_drew)); exact Kd.R_mono (Kd.R_far (p := ⟨gb187, 2, none⟩) (Kd.R_far (p := ⟨gb187, 1, none⟩) (Kd.R_far (p := ⟨gb187, 0, none⟩) (Kd.R_far (p := ⟨gb194, 2, none⟩) (Kd.R_far (p := ⟨gb194, 1, none⟩) (Kd.R_far (p := ⟨gb194, 0, none⟩) (Kd.R_types (Kd.R_types HO1_2.out BK194.out (by decide)) BK187.out (by decide)) (fun _ hk => hk.1.2) (.int .i64 a1_0)) (fun _ hk => hk.1.2) (.bool a1_1)) (fun _ hk => hk.1.2) (.slice Ao20 y191.length co20)) (fun _ hk => hk.2) (.int .i64 a1_0)) (fun _ hk => hk.2) (.bool a1_1)) (fun _ hk => hk.2) (.slice Ao9 l1_2.length co9)) (fun _ hk => hk.1.1.1), mb_ HB.out, mp_ HK.out⟩
    ·
     rw [if_neg c158] at H
     have c158b0 : (a2_1 == 0) = false := beq_eq_false_iff_ne.mpr c158
     have c158b1 : (a2_1 != 0) = true := bne_iff_ne.mpr c158
     simp only [Option.some.injEq, Prod.mk.injEq] at H
     obtain ⟨rfl, rfl, rfl, rfl⟩ := H
     have hnb339 := NB186_184.out
     have hnc339 := NB184_186.out
     have hnb340 := NB186_185.out
     have hnc340 := NB185_186.out
     have hnb341 := NB186_187.out
     have hnc341 := NB187_186.out
     have hnb342 := NB186_194.out
     have hnc342 := NB194_186.out
     have hcz343_0 : w19.cell? ⟨gb186, 0, none⟩ = some (.int .i64 a2_0) := (blk_cell BK186.out 0).trans rfl
     have hcz343_1 : w19.cell? ⟨gb186, 1, none⟩ = some (.int .i64 a2_1) := (blk_cell BK186.out 1).trans rfl
     have hcz343_2 : w19.cell? ⟨gb186, 2, none⟩ = some (.int .i64 a2_2) := (blk_cell BK186.out 2).trans rfl
     have hfz343_0 := blk_frozen BK186.out 0
     have hfz343_1 := blk_frozen BK186.out 1
     have hfz343_2 := blk_frozen BK186.out 2
     have hnb344 := NB185_184.out
     have hnc344 := NB184_185.out
     have hnb345 := NB185_187.out
     have hnc345 := NB187_185.out
     have hnb346 := NB185_194.out
     have hnc346 := NB194_185.out
     have hcz347_0 : w19.cell? ⟨gb185, 0, none⟩ = some (.int .i64 a1_0) := (blk_cell BK185.out 0).trans rfl
     have hcz347_1 : w19.cell? ⟨gb185, 1, none⟩ = some (.bool a1_1) := (blk_cell BK185.out 1).trans rfl
     have hcz347_2 : w19.cell? ⟨gb185, 2, none⟩ = some (.slice Ao9 l1_2.length co9) := (blk_cell BK185.out 2).trans rfl
     have hfz347_0 := blk_frozen BK185.out 0
     have hfz347_1 := blk_frozen BK185.out 1
     have hfz347_2 := blk_frozen BK185.out 2
     have hnb348 := NB187_184.out
     have hnc348 := NB184_187.out
     have hnb349 := NB187_194.out
     have hnc349 := NB194_187.out
     have hcz350_0 : w19.cell? ⟨gb187, 0, none⟩ = some (.int .i64 0) := (blk_cell BK187.out 0).trans rfl
     have hcz350_1 : w19.cell? ⟨gb187, 1, none⟩ = some (.bool false) := (blk_cell BK187.out 1).trans rfl
     have hcz350_2 : w19.cell? ⟨gb187, 2, none⟩ = some (.slice none 0 0) := (blk_cell BK187.out 2).trans rfl
     have hfz350_0 := blk_frozen BK187.out 0
     have hfz350_1 := blk_frozen BK187.out 1
     have hfz350_2 := blk_frozen BK187.out 2
     try go_wp2
     refine bodyPost_ret (results_ct rfl _ _ gb187 66 #[.int .i64 a1_0, .bool a1_1, .slice Ao9 l1_2.length co9] (0, 0) _ rfl (by (with_reducible repeat (first | refine blk_drewN ?_ _ | refine blk_drew ?_ | refine blk_alloc ?_ _)); refine blk_put (cs := #[.int .i64 a1_0, .bool a1_1, .slice none 0 0]) ?_ 2 _ rfl; (with_reducible repeat (first | refine blk_drewN ?_ _ | refine blk_drew ?_ | refine blk_alloc ?_ _)); refine blk_put (cs := #[.int .i64 a1_0, .bool false, .slice none 0 0]) ?_ 1 _ rfl; (with_reducible repeat (first | refine blk_drewN ?_ _ | refine blk_drew ?_ | refine blk_alloc ?_ _)); refine blk_put (cs := #[.int .i64 0, .bool false, .slice none 0 0]) ?_ 0 _ rfl; (with_reducible repeat (first | refine blk_drewN ?_ _ | refine blk_drew ?_ | refine blk_alloc ?_ _)); refine blk_far ?_ NB187_194.out _; (with_reducible repeat (first | refine blk_drewN ?_ _ | refine blk_drew ?_ | refine blk_alloc ?_ _)); refine blk_far ?_ NB187_194.out _; (with_reducible repeat (first | refine blk_drewN ?_ _ | refine blk_drew ?_ | refine blk_alloc ?_ _)); refine blk_far ?_ NB187_194.out _; (with_reducible repeat (first | refine blk_drewN ?_ _ | refine blk_drew ?_ | refine blk_alloc ?_ _)); exact BK187.out) Tryd.underlying66 rfl (by kernel_rfl)) rfl ?_
     exact ⟨_, by first | rfl | (simp [errW_none, errW_some] <;> rfl) | (simp [*, errW_none, errW_some] <;> rfl), by (with_reducible repeat (first | apply Kd.R_alloc | apply Kd.R_drewN | apply Kd.R_drew)); exact Kd.R_mono (Kd.R_far (p := ⟨gb187, 2, none⟩) (Kd.R_far (p := ⟨gb187, 1, none⟩) (Kd.R_far (p := ⟨gb187, 0, none⟩) (Kd.R_far (p := ⟨gb194, 2, none⟩) (Kd.R_far (p := ⟨gb194, 1, none⟩) (Kd.R_far (p := ⟨gb194, 0, none⟩) (Kd.R_types (Kd.R_types HO1_2.out BK194.out (by decide)) BK187.out (by decide)) (fun _ hk => hk.1.2) (.int .i64 a1_0)) (fun _ hk => hk.1.2) (.bool a1_1)) (fun _ hk => hk.1.2) (.slice Ao20 y191.length co20)) (fun _ hk => hk.2) (.int .i64 a1_0)) (fun _ hk => hk.2) (.bool a1_1)) (fun _ hk => hk.2) (.slice Ao9 l1_2.length co9)) (fun _ hk => hk.1.1.1), mb_ HB.out, mp_ HK.out⟩
   ·
    rw [if_neg c157] at H
    have c157b0 : (a2_0 == 2) = false := beq_eq_false_iff_ne.mpr c157
    have c157b1 : (a2_0 != 2) = true := bne_iff_ne.mpr c157
    by_cases c351 : a2_0 = 3
    ·
     rw [if_pos c351] at H
     have c351b0 : (a2_0 == 3) = true := beq_iff_eq.mpr c351
     have c351b1 : (a2_0 != 3) = false := bne_eq_false_iff_eq.mpr c351
     clear c351
     have HC352 := am_ H
     clear H
     have hnb369 := NB186_184.out
     have hnc369 := NB184_186.out
     have hnb370 := NB186_185.out
     have hnc370 := NB185_186.out
     have hnb371 := NB186_187.out
     have hnc371 := NB187_186.out
     have hnb372 := NB186_194.out
     have hnc372 := NB194_186.out
     have hcz373_0 : w19.cell? ⟨gb186, 0, none⟩ = some (.int .i64 a2_0) := (blk_cell BK186.out 0).trans rfl
     have hcz373_1 : w19.cell? ⟨gb186, 1, none⟩ = some (.int .i64 a2_1) := (blk_cell BK186.out 1).trans rfl
     have hcz373_2 : w19.cell? ⟨gb186, 2, none⟩ = some (.int .i64 a2_2) := (blk_cell BK186.out 2).trans rfl
     have hfz373_0 := blk_frozen BK186.out 0
     have hfz373_1 := blk_frozen BK186.out 1
     have hfz373_2 := blk_frozen BK186.out 2
     go_upto_region 14 with (fail)
     go_cut [115] (fun v115 wc => ∃ (kq : Nat) (x115_351 : Bool), v115 = .bool x115_351 ∧ Aside0 (culetref49_next.j0 kq x115_351 l0_0 l0_1 a0_2 a0_3 a1_0 a1_1 l1_2 a2_0 a2_1 a2_2 a1_0 a1_1 y191 = some (r1, r2, r3, r4)) ∧ Aside0 (kq ≤ k) ∧ Aside0 (Kd.R (Kd.int .i64) 3 wc w0.heap.size (fun k_ => (P1_2_ k_ ∨ w.heap.size ≤ k_) ∧ some k_ ≠ ((.slice Ao20 y191.length co20) : Value).ownBlock) (.slice Ao9 l1_2.length co9) l1_2) ∧ Aside0 (Kd.R (Kd.int .i64) 3 wc w0.heap.size (fun k_ => (P1_2_ k_ ∨ w.heap.size ≤ k_) ∧ some k_ ≠ ((.slice Ao9 l1_2.length co9) : Value).ownBlock) (.slice Ao20 y191.length co20) y191) ∧ Aside0 (wc.heap[gb184]? = some (.cells #[(.slice A0_0 l0_0.length c0_0), (.slice A0_1 l0_1.length c0_1), .int .i64 a0_2, .int .i64 a0_3] 25 (0, 0))) ∧ Aside0 (wc.heap[gb185]? = some (.cells #[.int .i64 a1_0, .bool a1_1, (.slice Ao9 l1_2.length co9)] 66 (0, 0))) ∧ Aside0 (wc.heap[gb186]? = some (.cells #[.int .i64 a2_0, .int .i64 a2_1, .int .i64 a2_2] 63 (0, 0))) ∧ Aside0 (wc.heap[gb187]? = some (.cells #[.int .i64 0, .bool false, (.slice none 0 0)] 66 (0, 0))) ∧ Aside0 (wc.heap[gb194]? = some (.cells #[.int .i64 a1_0, .bool a1_1, (.slice Ao20 y191.length co20)] 66 (0, 0))) ∧ Aside0 (Kept w wc (fun k_ => P1_2_ k_)) ∧ Aside0 (Below w0.heap.size w0 wc))
     case first =>
      have H := HC352.out
      clear HC352
      have n0_ : Aside0 (Kd.R (Kd.int .i64) 3 (((w19.setCell ⟨gb194, 0, none⟩ (.int .i64 a1_0)).setCell ⟨gb194, 1, none⟩ (.bool a1_1)).setCell ⟨gb194, 2, none⟩ (.slice Ao20 y191.length co20)) w0.heap.size (fun k_ => (P1_2_ k_ ∨ w.heap.size ≤ k_) ∧ some k_ ≠ (.slice Ao20 y191.length co20 : Value).ownBlock) (.slice Ao9 l1_2.length co9) l1_2) := ⟨by (with_reducible repeat (first | apply Kd.R_alloc | apply Kd.R_drewN | apply Kd.R_drew)); exact Kd.R_mono (Kd.R_far (p := ⟨gb194, 2, none⟩) (Kd.R_far (p := ⟨gb194, 1, none⟩) (Kd.R_far (p := ⟨gb194, 0, none⟩) (Kd.R_types HO1_2.out BK194.out (by decide)) (fun _ hk => hk.2) (.int .i64 a1_0)) (fun _ hk => hk.2) (.bool a1_1)) (fun _ hk => hk.2) (.slice Ao20 y191.length co20)) (fun _ hk => ⟨hk.1.1, hk.1.2⟩)⟩
      have n1_ : Aside0 (Kd.R (Kd.int .i64) 3 (((w19.setCell ⟨gb194, 0, none⟩ (.int .i64 a1_0)).setCell ⟨gb194, 1, none⟩ (.bool a1_1)).setCell ⟨gb194, 2, none⟩ (.slice Ao20 y191.length co20)) w0.heap.size (fun k_ => (P1_2_ k_ ∨ w.heap.size ≤ k_) ∧ some k_ ≠ (.slice Ao9 l1_2.length co9 : Value).ownBlock) (.slice Ao20 y191.length co20) y191) := ⟨by (with_reducible repeat (first | apply Kd.R_alloc | apply Kd.R_drewN | apply Kd.R_drew)); exact Kd.R_mono (Kd.R_far (p := ⟨gb194, 2, none⟩) (Kd.R_far (p := ⟨gb194, 1, none⟩) (Kd.R_far (p := ⟨gb194, 0, none⟩) (Kd.R_types HO193.out BK194.out (by decide)) (fun _ hk => hk.2) (.int .i64 a1_0)) (fun _ hk => hk.2) (.bool a1_1)) (fun _ hk => hk.2) (.slice Ao20 y191.length co20)) (fun _ hk => ⟨hk.1.1, hk.1.2⟩)⟩
      have n2_ : Aside0 ((((w19.setCell ⟨gb194, 0, none⟩ (.int .i64 a1_0)).setCell ⟨gb194, 1, none⟩ (.bool a1_1)).setCell ⟨gb194, 2, none⟩ (.slice Ao20 y191.length co20)).heap[gb184]? = some (.cells #[.slice A0_0 l0_0.length c0_0, .slice A0_1 l0_1.length c0_1, .int .i64 a0_2, .int .i64 a0_3] 25 (0, 0))) := ⟨by (with_reducible repeat (first | refine blk_drewN ?_ _ | refine blk_drew ?_ | refine blk_alloc ?_ _)); refine blk_far ?_ NB184_194.out _; (with_reducible repeat (first | refine blk_drewN ?_ _ | refine blk_drew ?_ | refine blk_alloc ?_ _)); refine blk_far ?_ NB184_194.out _; (with_reducible repeat (first | refine blk_drewN ?_ _ | refine blk_drew ?_ | refine blk_alloc ?_ _)); refine blk_far ?_ NB184_194.out _; (with_reducible repeat (first | refine blk_drewN ?_ _ | refine blk_drew ?_ | refine blk_alloc ?_ _)); exact BK184.out⟩
      have n3_ : Aside0 ((((w19.setCell ⟨gb194, 0, none⟩ (.int .i64 a1_0)).setCell ⟨gb194, 1, none⟩ (.bool a1_1)).setCell ⟨gb194, 2, none⟩ (.slice Ao20 y191.length co20)).heap[gb185]? = some (.cells #[.int .i64 a1_0, .bool a1_1, .slice Ao9 l1_2.length co9] 66 (0, 0))) := ⟨by (with_reducible repeat (first | refine blk_drewN ?_ _ | refine blk_drew ?_ | refine blk_alloc ?_ _)); refine blk_far ?_ NB185_194.out _; (with_reducible repeat (first | refine blk_drewN ?_ _ | refine blk_drew ?_ | refine blk_alloc ?_ _)); refine blk_far ?_ NB185_194.out _; (with_reducible repeat (first | refine blk_drewN ?_ _ | refine blk_drew ?_ | refine blk_alloc ?_ _)); refine blk_far ?_ NB185_194.out _; (with_reducible repeat (first | refine blk_drewN ?_ _ | refine blk_drew ?_ | refine blk_alloc ?_ _)); exact BK185.out⟩
      have n4_ : Aside0 ((((w19.setCell ⟨gb194, 0, none⟩ (.int .i64 a1_0)).setCell ⟨gb194, 1, none⟩ (.bool a1_1)).setCell ⟨gb194, 2, none⟩ (.slice Ao20 y191.length co20)).heap[gb186]? = some (.cells #[.int .i64 a2_0, .int .i64 a2_1, .int .i64 a2_2] 63 (0, 0))) := ⟨by (with_reducible repeat (first | refine blk_drewN ?_ _ | refine blk_drew ?_ | refine blk_alloc ?_ _)); refine blk_far ?_ NB186_194.out _; (with_reducible repeat (first | refine blk_drewN ?_ _ | refine blk_drew ?_ | refine blk_alloc ?_ _)); refine blk_far ?_ NB186_194.out _; (with_reducible repeat (first | refine blk_drewN ?_ _ | refine blk_drew ?_ | refine blk_alloc ?_ _)); refine blk_far ?_ NB186_194.out _; (with_reducible repeat (first | refine blk_drewN ?_ _ | refine blk_drew ?_ | refine blk_alloc ?_ _)); exact BK186.out⟩
      have n5_ : Aside0 ((((w19.setCell ⟨gb194, 0, none⟩ (.int .i64 a1_0)).setCell ⟨gb194, 1, none⟩ (.bool a1_1)).setCell ⟨gb194, 2, none⟩ (.slice Ao20 y191.length co20)).heap[gb187]? = some (.cells #[.int .i64 0, .bool false, .slice none 0 0] 66 (0, 0))) := ⟨by (with_reducible repeat (first | refine blk_drewN ?_ _ | refine blk_drew ?_ | refine blk_alloc ?_ _)); refine blk_far ?_ NB187_194.out _; (with_reducible repeat (first | refine blk_drewN ?_ _ | refine blk_drew ?_ | refine blk_alloc ?_ _)); refine blk_far ?_ NB187_194.out _; (with_reducible repeat (first | refine blk_drewN ?_ _ | refine blk_drew ?_ | refine blk_alloc ?_ _)); refine blk_far ?_ NB187_194.out _; (with_reducible repeat (first | refine blk_drewN ?_ _ | refine blk_drew ?_ | refine blk_alloc ?_ _)); exact BK187.out⟩
      have n6_ : Aside0 ((((w19.setCell ⟨gb194, 0, none⟩ (.int .i64 a1_0)).setCell ⟨gb194, 1, none⟩ (.bool a1_1)).setCell ⟨gb194, 2, none⟩ (.slice Ao20 y191.length co20)).heap[gb194]? = some (.cells #[.int .i64 a1_0, .bool a1_1, .slice Ao20 y191.length co20] 66 (0, 0))) := ⟨by (with_reducible repeat (first | refine blk_drewN ?_ _ | refine blk_drew ?_ | refine blk_alloc ?_ _)); refine blk_put (cs := #[.int .i64 a1_0, .bool a1_1, .slice none 0 0]) ?_ 2 _ rfl; (with_reducible repeat (first | refine blk_drewN ?_ _ | refine blk_drew ?_ | refine blk_alloc ?_ _)); refine blk_put (cs := #[.int .i64 a1_0, .bool false, .slice none 0 0]) ?_ 1 _ rfl; (with_reducible repeat (first | refine blk_drewN ?_ _ | refine blk_drew ?_ | refine blk_alloc ?_ _)); refine blk_put (cs := #[.int .i64 0, .bool false, .slice none 0 0]) ?_ 0 _ rfl; (with_reducible repeat (first | refine blk_drewN ?_ _ | refine blk_drew ?_ | refine blk_alloc ?_ _)); exact BK194.out⟩
      have n7_ : Aside0 (Kept w (((w19.setCell ⟨gb194, 0, none⟩ (.int .i64 a1_0)).setCell ⟨gb194, 1, none⟩ (.bool a1_1)).setCell ⟨gb194, 2, none⟩ (.slice Ao20 y191.length co20)) (fun k_ => P1_2_ k_)) := ⟨mp_ HK.out⟩
      have n8_ : Aside0 (Below w0.heap.size w0 (((w19.setCell ⟨gb194, 0, none⟩ (.int .i64 a1_0)).setCell ⟨gb194, 1, none⟩ (.bool a1_1)).setCell ⟨gb194, 2, none⟩ (.slice Ao20 y191.length co20))) := ⟨mb_ HB.out⟩
      (try clear HO1_2)
      (try clear HO193)
      (try clear BK184)
      (try clear BK185)
      (try clear BK186)
      (try clear BK187)
      (try clear BK194)
      (try clear HK)
      (try clear HB)
      generalize (((w19.setCell ⟨gb194, 0, none⟩ (.int .i64 a1_0)).setCell ⟨gb194, 1, none⟩ (.bool a1_1)).setCell ⟨gb194, 2, none⟩ (.slice Ao20 y191.length co20)) = w375 at n0_ n1_ n2_ n3_ n4_ n5_ n6_ n7_ n8_ ⊢
      have HO1_2 := n0_
      have HO193 := n1_
      have BK184 := n2_
      have BK185 := n3_
      have BK186 := n4_
      have BK187 := n5_
      have BK194 := n6_
      have HK := n7_
      have HB := n8_
      clear n0_ n1_ n2_ n3_ n4_ n5_ n6_ n7_ n8_
      by_cases c374 : a2_2 < 0
      ·
       rw [if_pos c374] at H
       have c374b0 : decide (a2_2 < 0) = true := decide_eq_true c374
       clear c374
       (first | rw [c374b0] | (simp only [i64_w, i32_w]; rw [c374b0]) | skip)
       have H' := am_ H
       clear H
       try go_wp2
       have z_ := aI (am_ (Kd.R_drew HO1_2.out)) (aI (am_ (Kd.R_drew HO193.out)) (aI (am_ (blk_drew BK184.out)) (aI (am_ (blk_drew BK185.out)) (aI (am_ (blk_drew BK186.out)) (aI (am_ (blk_drew BK187.out)) (aI (am_ (blk_drew BK194.out)) (aI (am_ (Kept.drew HK.out)) (am_ (below_drew1 HB.out)))))))))
       clear HO1_2 HO193 BK184 BK185 BK186 BK187 BK194 HK HB
       obtain ⟨HO1_2, HO193, BK184, BK185, BK186, BK187, BK194, HK, HB⟩ := z_
       refine start_ (n := 34) (S := fun w' => w'.cell? ⟨gb186, 0, none⟩ = some (.int .i64 a2_0) ∧ w'.cell? ⟨gb186, 1, none⟩ = some (.int .i64 a2_1) ∧ w'.cell? ⟨gb186, 2, none⟩ = some (.int .i64 a2_2)) (ds := []) #[false, false, false, false, false, false, false, false, false, false, false, false, false, false, false, false, false, false, false, false, false, false, false, false, false, false, false, false, false, false, false, false, false, false] (by kernel_rfl) rfl rfl ⟨(blk_cell BK186.out 0).trans rfl, (blk_cell BK186.out 1).trans rfl, (blk_cell BK186.out 2).trans rfl⟩ (fun hHeld => ?_); refine with_tabW culetref49_next.tab14 culetref49_next.bits14 (fun HT_ HW_ => ?_)
       generalize w375.drew = w376 at HO1_2 HO193 BK184 BK185 BK186 BK187 BK194 HK HB hHeld ⊢
       refine ltd (o := [0, 1, 2, 3, 4, 5, 6, 7, 8, 9, 10, 11, 12, 13, 14, 15, 16, 17, 18, 19, 20, 21, 22, 23, 24, 25, 26, 27, 28, 29, 30, 31, 32, 33]) (n := 0) (m := 34) (by kernel_rfl) ?_
       iterate 34 (first | (refine pne rfl rfl (any_of HT_.out (by kernel_rfl)) (Or.inr ⟨by rfl, rfl⟩) ?_) | (refine tne rfl rfl (take_ofW HT_.out HW_.out (by kernel_rfl)) (Or.inl ⟨by rfl, by rintro w' ⟨s0, s1, s2⟩; go_simp; with_reducible rfl⟩) hHeld ?_) | (refine pne rfl rfl (any_of HT_.out (by kernel_rfl)) (Or.inl ⟨by rfl, by intro w'; go_simp; with_reducible rfl⟩) ?_))
       refine done_ (done_of HT_.out (by kernel_rfl)) ?_
       try go_wp2
       go_meet
       case rel => exact ⟨_, (true), rs_, H', ⟨by first | omega | exact Nat.le_refl _⟩, ⟨by (with_reducible repeat (first | apply Kd.R_alloc | apply Kd.R_drewN | apply Kd.R_drew)); exact HO1_2.out⟩, ⟨by (with_reducible repeat (first | apply Kd.R_alloc | apply Kd.R_drewN | apply Kd.R_drew)); exact HO193.out⟩, ⟨by (with_reducible repeat (first | refine blk_drewN ?_ _ | refine blk_drew ?_ | refine blk_alloc ?_ _)); exact BK184.out⟩, ⟨by (with_reducible repeat (first | refine blk_drewN ?_ _ | refine blk_drew ?_ | refine blk_alloc ?_ _)); exact BK185.out⟩, ⟨by (with_reducible repeat (first | refine blk_drewN ?_ _ | refine blk_drew ?_ | refine blk_alloc ?_ _)); exact BK186.out⟩, ⟨by (with_reducible repeat (first | refine blk_drewN ?_ _ | refine blk_drew ?_ | refine blk_alloc ?_ _)); exact BK187.out⟩, ⟨by (with_reducible repeat (first | refine blk_drewN ?_ _ | refine blk_drew ?_ | refine blk_alloc ?_ _)); exact BK194.out⟩, ⟨mp_ HK.out⟩, ⟨mb_ HB.out⟩⟩
      ·
       rw [if_neg c374] at H
       have c374b0 : decide (a2_2 < 0) = false := decide_eq_false c374
       clear c374
       (first | rw [c374b0] | (simp only [i64_w, i32_w]; rw [c374b0]) | skip)
       by_cases c377 : a2_2 ≥ (l0_1.length : Int)
       ·
        rw [if_pos c377] at H
        have c377b0 : decide ((l0_1.length : Int) ≤ a2_2) = true := decide_eq_true c377
        clear c377
        have H' := am_ H
        clear H
        try go_wp2
        have z_ := aI (am_ (Kd.R_drew HO1_2.out)) (aI (am_ (Kd.R_drew HO193.out)) (aI (am_ (blk_drew BK184.out)) (aI (am_ (blk_drew BK185.out)) (aI (am_ (blk_drew BK186.out)) (aI (am_ (blk_drew BK187.out)) (aI (am_ (blk_drew BK194.out)) (aI (am_ (Kept.drew HK.out)) (am_ (below_drew1 HB.out)))))))))
        clear HO1_2 HO193 BK184 BK185 BK186 BK187 BK194 HK HB
        obtain ⟨HO1_2, HO193, BK184, BK185, BK186, BK187, BK194, HK, HB⟩ := z_
        refine start_ (n := 34) (S := fun w' => w'.cell? ⟨gb186, 0, none⟩ = some (.int .i64 a2_0) ∧ w'.cell? ⟨gb186, 1, none⟩ = some (.int .i64 a2_1) ∧ w'.cell? ⟨gb186, 2, none⟩ = some (.int .i64 a2_2) ∧ w'.cell? ⟨gb184, 0, none⟩ = some (.slice A0_0 l0_0.length c0_0) ∧ w'.cell? ⟨gb184, 1, none⟩ = some (.slice A0_1 l0_1.length c0_1) ∧ w'.cell? ⟨gb184, 2, none⟩ = some (.int .i64 a0_2) ∧ w'.cell? ⟨gb184, 3, none⟩ = some (.int .i64 a0_3)) (ds := []) #[false, false, false, false, false, false, false, false, false, false, false, false, false, false, false, false, false, false, false, false, false, false, false, false, false, false, false, false, false, false, false, false, false, false] (by kernel_rfl) rfl rfl ⟨(blk_cell BK186.out 0).trans rfl, (blk_cell BK186.out 1).trans rfl, (blk_cell BK186.out 2).trans rfl, (blk_cell BK184.out 0).trans rfl, (blk_cell BK184.out 1).trans rfl, (blk_cell BK184.out 2).trans rfl, (blk_cell BK184.out 3).trans rfl⟩ (fun hHeld => ?_); refine with_tabW culetref49_next.tab14 culetref49_next.bits14 (fun HT_ HW_ => ?_)
        generalize w375.drew = w379 at HO1_2 HO193 BK184 BK185 BK186 BK187 BK194 HK HB hHeld ⊢
        refine ltd (o := [0, 1, 2, 3, 4, 6, 5, 7, 8, 9, 10, 11, 12, 13, 14, 15, 16, 17, 18, 19, 20, 21, 22, 23, 24, 25, 26, 27, 28, 29, 30, 31, 32, 33]) (n := 0) (m := 34) (by kernel_rfl) ?_
        iterate 34 (first | (refine pne rfl rfl (any_of HT_.out (by kernel_rfl)) (Or.inr ⟨by rfl, rfl⟩) ?_) | (refine tne rfl rfl (take_ofW HT_.out HW_.out (by kernel_rfl)) (Or.inl ⟨by rfl, by rintro w' ⟨s0, s1, s2, s3, s4, s5, s6⟩; go_simp; with_reducible rfl⟩) hHeld ?_) | (refine pne rfl rfl (any_of HT_.out (by kernel_rfl)) (Or.inl ⟨by rfl, by intro w'; go_simp; with_reducible rfl⟩) ?_))
        refine done_ (done_of HT_.out (by kernel_rfl)) ?_
        try go_wp2
        go_meet
        case rel => exact ⟨_, (true), rs_, H', ⟨by first | omega | exact Nat.le_refl _⟩, ⟨by (with_reducible repeat (first | apply Kd.R_alloc | apply Kd.R_drewN | apply Kd.R_drew)); exact HO1_2.out⟩, ⟨by (with_reducible repeat (first | apply Kd.R_alloc | apply Kd.R_drewN | apply Kd.R_drew)); exact HO193.out⟩, ⟨by (with_reducible repeat (first | refine blk_drewN ?_ _ | refine blk_drew ?_ | refine blk_alloc ?_ _)); exact BK184.out⟩, ⟨by (with_reducible repeat (first | refine blk_drewN ?_ _ | refine blk_drew ?_ | refine blk_alloc ?_ _)); exact BK185.out⟩, ⟨by (with_reducible repeat (first | refine blk_drewN ?_ _ | refine blk_drew ?_ | refine blk_alloc ?_ _)); exact BK186.out⟩, ⟨by (with_reducible repeat (first | refine blk_drewN ?_ _ | refine blk_drew ?_ | refine blk_alloc ?_ _)); exact BK187.out⟩, ⟨by (with_reducible repeat (first | refine blk_drewN ?_ _ | refine blk_drew ?_ | refine blk_alloc ?_ _)); exact BK194.out⟩, ⟨mp_ HK.out⟩, ⟨mb_ HB.out⟩⟩
       ·
        rw [if_neg c377] at H
        have c377b0 : decide ((l0_1.length : Int) ≤ a2_2) = false := decide_eq_false c377
        clear c377
        by_cases c380 : a2_1 = a1_0
        ·
         rw [if_pos c380] at H
         have c380b0 : (a2_1 == a1_0) = true := beq_iff_eq.mpr c380
         have c380b1 : (a2_1 != a1_0) = false := bne_eq_false_iff_eq.mpr c380
         clear c380
         by_cases c381 : a2_1 < 0
         ·
          rw [if_pos c381] at H
          have c381b0 : decide (a2_1 < 0) = true := decide_eq_true c381
          clear c381
          have H' := am_ H
          clear H
          try go_wp2
          have z_ := aI (am_ (Kd.R_drew HO1_2.out)) (aI (am_ (Kd.R_drew HO193.out)) (aI (am_ (blk_drew BK184.out)) (aI (am_ (blk_drew BK185.out)) (aI (am_ (blk_drew BK186.out)) (aI (am_ (blk_drew BK187.out)) (aI (am_ (blk_drew BK194.out)) (aI (am_ (Kept.drew HK.out)) (am_ (below_drew1 HB.out)))))))))
          clear HO1_2 HO193 BK184 BK185 BK186 BK187 BK194 HK HB
          obtain ⟨HO1_2, HO193, BK184, BK185, BK186, BK187, BK194, HK, HB⟩ := z_
          refine start_ (n := 34) (S := fun w' => w'.cell? ⟨gb186, 0, none⟩ = some (.int .i64 a2_0) ∧ w'.cell? ⟨gb186, 1, none⟩ = some (.int .i64 a2_1) ∧ w'.cell? ⟨gb186, 2, none⟩ = some (.int .i64 a2_2) ∧ w'.cell? ⟨gb184, 0, none⟩ = some (.slice A0_0 l0_0.length c0_0) ∧ w'.cell? ⟨gb184, 1, none⟩ = some (.slice A0_1 l0_1.length c0_1) ∧ w'.cell? ⟨gb184, 2, none⟩ = some (.int .i64 a0_2) ∧ w'.cell? ⟨gb184, 3, none⟩ = some (.int .i64 a0_3) ∧ w'.cell? ⟨gb185, 0, none⟩ = some (.int .i64 a1_0) ∧ w'.cell? ⟨gb185, 1, none⟩ = some (.bool a1_1) ∧ w'.cell? ⟨gb185, 2, none⟩ = some (.slice Ao9 l1_2.length co9)) (ds := []) #[false, false, false, false, false, false, false, false, false, false, false, false, false, false, false, false, false, false, false, false, false, false, false, false, false, false, false, false, false, false, false, false, false, false] (by kernel_rfl) rfl rfl ⟨(blk_cell BK186.out 0).trans rfl, (blk_cell BK186.out 1).trans rfl, (blk_cell BK186.out 2).trans rfl, (blk_cell BK184.out 0).trans rfl, (blk_cell BK184.out 1).trans rfl, (blk_cell BK184.out 2).trans rfl, (blk_cell BK184.out 3).trans rfl, (blk_cell BK185.out 0).trans rfl, (blk_cell BK185.out 1).trans rfl, (blk_cell BK185.out 2).trans rfl⟩ (fun hHeld => ?_); refine with_tabW culetref49_next.tab14 culetref49_next.bits14 (fun HT_ HW_ => ?_)
          generalize w375.drew = w383 at HO1_2 HO193 BK184 BK185 BK186 BK187 BK194 HK HB hHeld ⊢
          refine ltd (o := [0, 1, 2, 3, 4, 6, 5, 7, 8, 9, 10, 11, 12, 14, 13, 15, 16, 17, 18, 19, 20, 21, 22, 23, 24, 25, 26, 27, 28, 29, 30, 31, 32, 33]) (n := 0) (m := 34) (by kernel_rfl) ?_
          iterate 34 (first | (refine pne rfl rfl (any_of HT_.out (by kernel_rfl)) (Or.inr ⟨by rfl, rfl⟩) ?_) | (refine tne rfl rfl (take_ofW HT_.out HW_.out (by kernel_rfl)) (Or.inl ⟨by rfl, by rintro w' ⟨s0, s1, s2, s3, s4, s5, s6, s7, s8, s9⟩; go_simp; with_reducible rfl⟩) hHeld ?_) | (refine pne rfl rfl (any_of HT_.out (by kernel_rfl)) (Or.inl ⟨by rfl, by intro w'; go_simp; with_reducible rfl⟩) ?_))
          refine done_ (done_of HT_.out (by kernel_rfl)) ?_
          try go_wp2
          go_meet
          case rel => exact ⟨_, (true), rs_, H', ⟨by first | omega | exact Nat.le_refl _⟩, ⟨by (with_reducible repeat (first | apply Kd.R_alloc | apply Kd.R_drewN | apply Kd.R_drew)); exact HO1_2.out⟩, ⟨by (with_reducible repeat (first | apply Kd.R_alloc | apply Kd.R_drewN | apply Kd.R_drew)); exact HO193.out⟩, ⟨by (with_reducible repeat (first | refine blk_drewN ?_ _ | refine blk_drew ?_ | refine blk_alloc ?_ _)); exact BK184.out⟩, ⟨by (with_reducible repeat (first | refine blk_drewN ?_ _ | refine blk_drew ?_ | refine blk_alloc ?_ _)); exact BK185.out⟩, ⟨by (with_reducible repeat (first | refine blk_drewN ?_ _ | refine blk_drew ?_ | refine blk_alloc ?_ _)); exact BK186.out⟩, ⟨by (with_reducible repeat (first | refine blk_drewN ?_ _ | refine blk_drew ?_ | refine blk_alloc ?_ _)); exact BK187.out⟩, ⟨by (with_reducible repeat (first | refine blk_drewN ?_ _ | refine blk_drew ?_ | refine blk_alloc ?_ _)); exact BK194.out⟩, ⟨mp_ HK.out⟩, ⟨mb_ HB.out⟩⟩
         ·
          rw [if_neg c381] at H
          have c381b0 : decide (a2_1 < 0) = false := decide_eq_false c381
          clear c381
          by_cases c384 : 0 ≤ a2_2
          ·
           rw [if_pos c384] at H
           have c384b0 : decide (0 ≤ a2_2) = true := decide_eq_true c384
           clear c384
           by_cases c385 : a2_2 < (l1_2.length : Int)
           ·
            rw [if_pos c385] at H
            have c385b0 : decide (a2_2 < (l1_2.length : Int)) = true := decide_eq_true c385
            clear c385
            have H' := am_ H
            clear H
            try go_wp2
            have z_ := aI (am_ (Kd.R_drew HO1_2.out)) (aI (am_ (Kd.R_drew HO193.out)) (aI (am_ (blk_drew BK184.out)) (aI (am_ (blk_drew BK185.out)) (aI (am_ (blk_drew BK186.out)) (aI (am_ (blk_drew BK187.out)) (aI (am_ (blk_drew BK194.out)) (aI (am_ (Kept.drew HK.out)) (am_ (below_drew1 HB.out)))))))))
            clear HO1_2 HO193 BK184 BK185 BK186 BK187 BK194 HK HB
            obtain ⟨HO1_2, HO193, BK184, BK185, BK186, BK187, BK194, HK, HB⟩ := z_
            have p197 : 0 ≤ (a2_2 : Int) := of_decide_eq_true as_
            have q197 : a2_2 < (l1_2.length : Int) := of_decide_eq_true as_
            obtain ⟨ad197, e197, hx197_0⟩ := Kd.at_int (Kd.R_reads' HO1_2.out).2.2 a2_2 p197 q197
            cases e197
            replace p197 := eq_true p197
            replace q197 := eq_true q197
            refine start_ (n := 34) (S := fun w' => w'.cell? ⟨gb186, 0, none⟩ = some (.int .i64 a2_0) ∧ w'.cell? ⟨gb186, 1, none⟩ = some (.int .i64 a2_1) ∧ w'.cell? ⟨gb186, 2, none⟩ = some (.int .i64 a2_2) ∧ w'.cell? ⟨gb184, 0, none⟩ = some (.slice A0_0 l0_0.length c0_0) ∧ w'.cell? ⟨gb184, 1, none⟩ = some (.slice A0_1 l0_1.length c0_1) ∧ w'.cell? ⟨gb184, 2, none⟩ = some (.int .i64 a0_2) ∧ w'.cell? ⟨gb184, 3, none⟩ = some (.int .i64 a0_3) ∧ w'.cell? ⟨gb185, 0, none⟩ = some (.int .i64 a1_0) ∧ w'.cell? ⟨gb185, 1, none⟩ = some (.bool a1_1) ∧ w'.cell? ⟨gb185, 2, none⟩ = some (.slice (some ad197) l1_2.length co9) ∧ w'.cell? (ad197.add (a2_2).toNat) = some (.int .i64 (rd l1_2 a2_2))) (ds := []) #[false, false, false, false, false, false, false, false, false, false, false, false, false, false, false, false, false, false, false, false, false, false, false, false, false, false, false, false, false, false, false, false, false, false] (by kernel_rfl) rfl rfl ⟨(blk_cell BK186.out 0).trans rfl, (blk_cell BK186.out 1).trans rfl, (blk_cell BK186.out 2).trans rfl, (blk_cell BK184.out 0).trans rfl, (blk_cell BK184.out 1).trans rfl, (blk_cell BK184.out 2).trans rfl, (blk_cell BK184.out 3).trans rfl, (blk_cell BK185.out 0).trans rfl, (blk_cell BK185.out 1).trans rfl, (blk_cell BK185.out 2).trans rfl, hx197_0⟩ (fun hHeld => ?_); refine with_tabW culetref49_next.tab14 culetref49_next.bits14 (fun HT_ HW_ => ?_)
            generalize w375.drew = w387 at HO1_2 HO193 BK184 BK185 BK186 BK187 BK194 HK HB hx197_0 hHeld ⊢
            refine ltd (o := [0, 1, 2, 3, 4, 6, 5, 7, 8, 9, 10, 11, 12, 14, 13, 15, 16, 17, 18, 19, 20, 21, 22, 23, 24, 26, 30, 25, 27, 28, 29, 31, 32, 33]) (n := 0) (m := 34) (by kernel_rfl) ?_
            iterate 34 (first | (refine tne rfl rfl (take_ofW HT_.out HW_.out (by kernel_rfl)) (Or.inl ⟨by rfl, by rintro w' ⟨s0, s1, s2, s3, s4, s5, s6, s7, s8, s9, s10⟩; go_simp; with_reducible rfl⟩) hHeld ?_) | (refine pne rfl rfl (any_of HT_.out (by kernel_rfl)) (Or.inl ⟨by rfl, by intro w'; go_simp; with_reducible rfl⟩) ?_))
            refine done_ (done_of HT_.out (by kernel_rfl)) ?_
            try go_wp2
            go_meet
            case rel => exact ⟨_, (((rd l1_2 a2_2) != a2_1)), rs_, H', ⟨by first | omega | exact Nat.le_refl _⟩, ⟨by (with_reducible repeat (first | apply Kd.R_alloc | apply Kd.R_drewN | apply Kd.R_drew)); exact HO1_2.out⟩, ⟨by (with_reducible repeat (first | apply Kd.R_alloc | apply Kd.R_drewN | apply Kd.R_drew)); exact HO193.out⟩, ⟨by (with_reducible repeat (first | refine blk_drewN ?_ _ | refine blk_drew ?_ | refine blk_alloc ?_ _)); exact BK184.out⟩, ⟨by (with_reducible repeat (first | refine blk_drewN ?_ _ | refine blk_drew ?_ | refine blk_alloc ?_ _)); exact BK185.out⟩, ⟨by (with_reducible repeat (first | refine blk_drewN ?_ _ | refine blk_drew ?_ | refine blk_alloc ?_ _)); exact BK186.out⟩, ⟨by (with_reducible repeat (first | refine blk_drewN ?_ _ | refine blk_drew ?_ | refine blk_alloc ?_ _)); exact BK187.out⟩, ⟨by (with_reducible repeat (first | refine blk_drewN ?_ _ | refine blk_drew ?_ | refine blk_alloc ?_ _)); exact BK194.out⟩, ⟨mp_ HK.out⟩, ⟨mb_ HB.out⟩⟩
           ·
            rw [if_neg c385] at H
            exact absurd H (by simp)
          ·
           rw [if_neg c384] at H
           exact absurd H (by simp)
        ·
         rw [if_neg c380] at H
         have c380b0 : (a2_1 == a1_0) = false := beq_eq_false_iff_ne.mpr c380
         have c380b1 : (a2_1 != a1_0) = true := bne_iff_ne.mpr c380
         have H' := am_ H
         clear H
         try go_wp2
         have z_ := aI (am_ (Kd.R_drew HO1_2.out)) (aI (am_ (Kd.R_drew HO193.out)) (aI (am_ (blk_drew BK184.out)) (aI (am_ (blk_drew BK185.out)) (aI (am_ (blk_drew BK186.out)) (aI (am_ (blk_drew BK187.out)) (aI (am_ (blk_drew BK194.out)) (aI (am_ (Kept.drew HK.out)) (am_ (below_drew1 HB.out)))))))))
         clear HO1_2 HO193 BK184 BK185 BK186 BK187 BK194 HK HB
         obtain ⟨HO1_2, HO193, BK184, BK185, BK186, BK187, BK194, HK, HB⟩ := z_
         refine start_ (n := 34) (S := fun w' => w'.cell? ⟨gb186, 0, none⟩ = some (.int .i64 a2_0) ∧ w'.cell? ⟨gb186, 1, none⟩ = some (.int .i64 a2_1) ∧ w'.cell? ⟨gb186, 2, none⟩ = some (.int .i64 a2_2) ∧ w'.cell? ⟨gb184, 0, none⟩ = some (.slice A0_0 l0_0.length c0_0) ∧ w'.cell? ⟨gb184, 1, none⟩ = some (.slice A0_1 l0_1.length c0_1) ∧ w'.cell? ⟨gb184, 2, none⟩ = some (.int .i64 a0_2) ∧ w'.cell? ⟨gb184, 3, none⟩ = some (.int .i64 a0_3) ∧ w'.cell? ⟨gb185, 0, none⟩ = some (.int .i64 a1_0) ∧ w'.cell? ⟨gb185, 1, none⟩ = some (.bool a1_1) ∧ w'.cell? ⟨gb185, 2, none⟩ = some (.slice Ao9 l1_2.length co9)) (ds := []) #[false, false, false, false, false, false, false, false, false, false, false, false, false, false, false, false, false, false, false, false, false, false, false, false, false, false, false, false, false, false, false, false, false, false] (by kernel_rfl) rfl rfl ⟨(blk_cell BK186.out 0).trans rfl, (blk_cell BK186.out 1).trans rfl, (blk_cell BK186.out 2).trans rfl, (blk_cell BK184.out 0).trans rfl, (blk_cell BK184.out 1).trans rfl, (blk_cell BK184.out 2).trans rfl, (blk_cell BK184.out 3).trans rfl, (blk_cell BK185.out 0).trans rfl, (blk_cell BK185.out 1).trans rfl, (blk_cell BK185.out 2).trans rfl⟩ (fun hHeld => ?_); refine with_tabW culetref49_next.tab14 culetref49_next.bits14 (fun HT_ HW_ => ?_)
         generalize w375.drew = w389 at HO1_2 HO193 BK184 BK185 BK186 BK187 BK194 HK HB hHeld ⊢
         refine ltd (o := [0, 1, 2, 3, 4, 6, 5, 7, 8, 9, 10, 11, 12, 14, 13, 15, 16, 17, 18, 19, 20, 21, 22, 23, 24, 25, 26, 27, 28, 29, 30, 31, 32, 33]) (n := 0) (m := 34) (by kernel_rfl) ?_
         iterate 34 (first | (refine pne rfl rfl (any_of HT_.out (by kernel_rfl)) (Or.inr ⟨by rfl, rfl⟩) ?_) | (refine tne rfl rfl (take_ofW HT_.out HW_.out (by kernel_rfl)) (Or.inl ⟨by rfl, by rintro w' ⟨s0, s1, s2, s3, s4, s5, s6, s7, s8, s9⟩; go_simp; with_reducible rfl⟩) hHeld ?_) | (refine pne rfl rfl (any_of HT_.out (by kernel_rfl)) (Or.inl ⟨by rfl, by intro w'; go_simp; with_reducible rfl⟩) ?_))
         refine done_ (done_of HT_.out (by kernel_rfl)) ?_
         try go_wp2
         go_meet
         case rel => exact ⟨_, (true), rs_, H', ⟨by first | omega | exact Nat.le_refl _⟩, ⟨by (with_reducible repeat (first | apply Kd.R_alloc | apply Kd.R_drewN | apply Kd.R_drew)); exact HO1_2.out⟩, ⟨by (with_reducible repeat (first | apply Kd.R_alloc | apply Kd.R_drewN | apply Kd.R_drew)); exact HO193.out⟩, ⟨by (with_reducible repeat (first | refine blk_drewN ?_ _ | refine blk_drew ?_ | refine blk_alloc ?_ _)); exact BK184.out⟩, ⟨by (with_reducible repeat (first | refine blk_drewN ?_ _ | refine blk_drew ?_ | refine blk_alloc ?_ _)); exact BK185.out⟩, ⟨by (with_reducible repeat (first | refine blk_drewN ?_ _ | refine blk_drew ?_ | refine blk_alloc ?_ _)); exact BK186.out⟩, ⟨by (with_reducible repeat (first | refine blk_drewN ?_ _ | refine blk_drew ?_ | refine blk_alloc ?_ _)); exact BK187.out⟩, ⟨by (with_reducible repeat (first | refine blk_drewN ?_ _ | refine blk_drew ?_ | refine blk_alloc ?_ _)); exact BK194.out⟩, ⟨mp_ HK.out⟩, ⟨mb_ HB.out⟩⟩
     case rest =>
      clear HC352
      try clear p1
      try clear q1
      try clear hx1
      try clear p2
      try clear c3
      try clear p19
      try clear q19
      try clear hx19
      try clear c38
      try clear p197
      try clear q197
      try clear hx197
      try clear c380
      try clear c380b0
      try clear c380b1
      try clear c384
      try clear c385
      try clear hx197_0
      try clear p197
      try clear q197
      obtain ⟨kq, x115_351, rfl, HA, HJ351, HO_186002, HO_195002, BK184, BK185, BK186, BK187, BK194, HK, HB⟩ := hcut
      cases kq with
      | zero => exact absurd HA.out (by simp [culetref49_next.j0])
      | succ kj351 =>
       have H := HA.out
       clear HA
       simp only [culetref49_next.j0] at H
       by_cases c390 : x115_351 = true
       ·
        subst c390
        have H1 : (some (a1_0, a1_1, l1_2, false)) = some (r1, r2, r3, r4) := by rw [if_pos rfl] at H; exact H
        clear H
        have H := H1
        clear H1
        simp only [Option.some.injEq, Prod.mk.injEq] at H
        obtain ⟨rfl, rfl, rfl, rfl⟩ := H
        have hnb391 := NB185_184.out
        have hnc391 := NB184_185.out
        have hnb392 := NB185_186.out
        have hnc392 := NB186_185.out
        have hnb393 := NB185_187.out
        have hnc393 := NB187_185.out
        have hnb394 := NB185_194.out
        have hnc394 := NB194_185.out
        have hcz395_0 : wc.cell? ⟨gb185, 0, none⟩ = some (.int .i64 a1_0) := (blk_cell BK185.out 0).trans rfl
        have hcz395_1 : wc.cell? ⟨gb185, 1, none⟩ = some (.bool a1_1) := (blk_cell BK185.out 1).trans rfl
        have hcz395_2 : wc.cell? ⟨gb185, 2, none⟩ = some (.slice Ao9 l1_2.length co9) := (blk_cell BK185.out 2).trans rfl
        have hfz395_0 := blk_frozen BK185.out 0
        have hfz395_1 := blk_frozen BK185.out 1
        have hfz395_2 := blk_frozen BK185.out 2
        have hnb396 := NB187_184.out
        have hnc396 := NB184_187.out
        have hnb397 := NB187_186.out
        have hnc397 := NB186_187.out
        have hnb398 := NB187_194.out
        have hnc398 := NB194_187.out
        have hcz399_0 : wc.cell? ⟨gb187, 0, none⟩ = some (.int .i64 0) := (blk_cell BK187.out 0).trans rfl
        have hcz399_1 : wc.cell? ⟨gb187, 1, none⟩ = some (.bool false) := (blk_cell BK187.out 1).trans rfl
        have hcz399_2 : wc.cell? ⟨gb187, 2, none⟩ = some (.slice none 0 0) := (blk_cell BK187.out 2).trans rfl
        have hfz399_0 := blk_frozen BK187.out 0
        have hfz399_1 := blk_frozen BK187.out 1
        have hfz399_2 := blk_frozen BK187.out 2
        go_wp2
        refine bodyPost_ret (results_ct rfl _ _ gb187 66 #[.int .i64 a1_0, .bool a1_1, .slice Ao9 l1_2.length co9] (0, 0) _ rfl (by (with_reducible repeat (first | refine blk_drewN ?_ _ | refine blk_drew ?_ | refine blk_alloc ?_ _)); refine blk_put (cs := #[.int .i64 a1_0, .bool a1_1, .slice none 0 0]) ?_ 2 _ rfl; (with_reducible repeat (first | refine blk_drewN ?_ _ | refine blk_drew ?_ | refine blk_alloc ?_ _)); refine blk_put (cs := #[.int .i64 a1_0, .bool false, .slice none 0 0]) ?_ 1 _ rfl; (with_reducible repeat (first | refine blk_drewN ?_ _ | refine blk_drew ?_ | refine blk_alloc ?_ _)); refine blk_put (cs := #[.int .i64 0, .bool false, .slice none 0 0]) ?_ 0 _ rfl; (with_reducible repeat (first | refine blk_drewN ?_ _ | refine blk_drew ?_ | refine blk_alloc ?_ _)); exact BK187.out) Tryd.underlying66 rfl (by kernel_rfl)) rfl ?_
        exact ⟨_, by first | rfl | (simp [errW_none, errW_some] <;> rfl) | (simp [*, errW_none, errW_some] <;> rfl), by (with_reducible repeat (first | apply Kd.R_alloc | apply Kd.R_drewN | apply Kd.R_drew)); exact Kd.R_mono (Kd.R_far (p := ⟨gb187, 2, none⟩) (Kd.R_far (p := ⟨gb187, 1, none⟩) (Kd.R_far (p := ⟨gb187, 0, none⟩) (Kd.R_types HO_186002.out BK187.out (by decide)) (fun _ hk => hk.2) (.int .i64 a1_0)) (fun _ hk => hk.2) (.bool a1_1)) (fun _ hk => hk.2) (.slice Ao9 l1_2.length co9)) (fun _ hk => hk.1.1), mb_ HB.out, mp_ HK.out⟩
       ·
        replace c390 := Bool.eq_false_iff.mpr c390
        subst c390
        have H1 : (if 0 ≤ a2_2 then (if a2_2 < (l0_1.length : Int) then ((culetref49_both.f kj351 l0_0 l0_1 a0_2 a0_3).bind fun t199 => (if t199 = true then (culetref49_next.j1 kj351 ((rd_T56 l0_1 a2_2).f1) ((((rd_T56 l0_1 a2_2).f1) == 2) != a1_1) l0_0 l0_1 a0_2 a0_3 a1_0 a1_1 l1_2 a2_0 a2_1 a2_2 a1_0 a1_1 y191) else (culetref49_next.j1 kj351 ((rd_T56 l0_1 a2_2).f1) false l0_0 l0_1 a0_2 a0_3 a1_0 a1_1 l1_2 a2_0 a2_1 a2_2 a1_0 a1_1 y191))) else (none)) else (none)) = some (r1, r2, r3, r4) := by rw [if_neg (show ¬ (false = true) by decide)] at H; exact H
        clear H
        have H := H1
        clear H1
        by_cases c400 : 0 ≤ a2_2
        ·
         rw [if_pos c400] at H
         have c400b0 : decide (0 ≤ a2_2) = true := decide_eq_true c400
         clear c400
         by_cases c401 : a2_2 < (l0_1.length : Int)
         ·
          rw [if_pos c401] at H
          have c401b0 : decide (a2_2 < (l0_1.length : Int)) = true := decide_eq_true c401
          clear c401
          have HC402 := am_ H
          clear H
          have hnb403 := NB184_185.out
          have hnc403 := NB185_184.out
          have hnb404 := NB184_186.out
          have hnc404 := NB186_184.out
          have hnb405 := NB184_187.out
          have hnc405 := NB187_184.out
          have hnb406 := NB184_194.out
          have hnc406 := NB194_184.out
          have hcz407_0 : wc.cell? ⟨gb184, 0, none⟩ = some (.slice A0_0 l0_0.length c0_0) := (blk_cell BK184.out 0).trans rfl
          have hcz407_1 : wc.cell? ⟨gb184, 1, none⟩ = some (.slice A0_1 l0_1.length c0_1) := (blk_cell BK184.out 1).trans rfl
          have hcz407_2 : wc.cell? ⟨gb184, 2, none⟩ = some (.int .i64 a0_2) := (blk_cell BK184.out 2).trans rfl
          have hcz407_3 : wc.cell? ⟨gb184, 3, none⟩ = some (.int .i64 a0_3) := (blk_cell BK184.out 3).trans rfl
          have hfz407_0 := blk_frozen BK184.out 0
          have hfz407_1 := blk_frozen BK184.out 1
          have hfz407_2 := blk_frozen BK184.out 2
          have hfz407_3 := blk_frozen BK184.out 3
          have hnb408 := NB186_185.out
          have hnc408 := NB185_186.out
          have hnb409 := NB186_187.out
          have hnc409 := NB187_186.out
          have hnb410 := NB186_194.out
          have hnc410 := NB194_186.out
          have hcz411_0 : wc.cell? ⟨gb186, 0, none⟩ = some (.int .i64 a2_0) := (blk_cell BK186.out 0).trans rfl
          have hcz411_1 : wc.cell? ⟨gb186, 1, none⟩ = some (.int .i64 a2_1) := (blk_cell BK186.out 1).trans rfl
          have hcz411_2 : wc.cell? ⟨gb186, 2, none⟩ = some (.int .i64 a2_2) := (blk_cell BK186.out 2).trans rfl
          have hfz411_0 := blk_frozen BK186.out 0
          have hfz411_1 := blk_frozen BK186.out 1
          have hfz411_2 := blk_frozen BK186.out 2
          have p198 : 0 ≤ (a2_2 : Int) := of_decide_eq_true as_
          have q198 : a2_2 < (l0_1.length : Int) := of_decide_eq_true as_
          obtain ⟨ad198, e198, hx198_0, hx198_1, hx198_2⟩ := at_T56 (Kd.C_kept_now HR0_1.out HK.out) a2_2 p198 q198
          cases e198
          replace p198 := eq_true p198
          replace q198 := eq_true q198
          go_upto_region 17 with (fail)
          go_cut [132] (fun v132 wc => ∃ (kq : Nat) (x132_401 : Bool), v132 = .bool x132_401 ∧ Aside0 (culetref49_next.j1 kq ((rd_T56 l0_1 a2_2).f1) x132_401 l0_0 l0_1 a0_2 a0_3 a1_0 a1_1 l1_2 a2_0 a2_1 a2_2 a1_0 a1_1 y191 = some (r1, r2, r3, r4)) ∧ Aside0 (kq ≤ kj351) ∧ Aside0 (Kd.R (Kd.int .i64) 3 wc w0.heap.size (fun k_ => (P1_2_ k_ ∨ w.heap.size ≤ k_) ∧ some k_ ≠ ((.slice Ao20 y191.length co20) : Value).ownBlock) (.slice Ao9 l1_2.length co9) l1_2) ∧ Aside0 (Kd.R (Kd.int .i64) 3 wc w0.heap.size (fun k_ => (P1_2_ k_ ∨ w.heap.size ≤ k_) ∧ some k_ ≠ ((.slice Ao9 l1_2.length co9) : Value).ownBlock) (.slice Ao20 y191.length co20) y191) ∧ Aside0 (wc.heap[gb184]? = some (.cells #[(.slice A0_0 l0_0.length c0_0), (.slice (some ad198) l0_1.length c0_1), .int .i64 a0_2, .int .i64 a0_3] 25 (0, 0))) ∧ Aside0 (wc.heap[gb185]? = some (.cells #[.int .i64 a1_0, .bool a1_1, (.slice Ao9 l1_2.length co9)] 66 (0, 0))) ∧ Aside0 (wc.heap[gb186]? = some (.cells #[.int .i64 a2_0, .int .i64 a2_1, .int .i64 a2_2] 63 (0, 0))) ∧ Aside0 (wc.heap[gb187]? = some (.cells #[.int .i64 0, .bool false, (.slice none 0 0)] 66 (0, 0))) ∧ Aside0 (wc.heap[gb194]? = some (.cells #[.int .i64 a1_0, .bool a1_1, (.slice Ao20 y191.length co20)] 66 (0, 0))) ∧ Aside0 (Kept w wc (fun k_ => P1_2_ k_)) ∧ Aside0 (Below w0.heap.size w0 wc))
          case first =>
           have H := HC402.out
           clear HC402
           replace H := Option.bind_eq_some_iff.mp H
           obtain ⟨t199, A4120, H⟩ := H
           replace H : (if t199 = true then (culetref49_next.j1 kj351 ((rd_T56 l0_1 a2_2).f1) ((((rd_T56 l0_1 a2_2).f1) == 2) != a1_1) l0_0 l0_1 a0_2 a0_3 a1_0 a1_1 l1_2 a2_0 a2_1 a2_2 a1_0 a1_1 y191) else (culetref49_next.j1 kj351 ((rd_T56 l0_1 a2_2).f1) false l0_0 l0_1 a0_2 a0_3 a1_0 a1_1 l1_2 a2_0 a2_1 a2_2 a1_0 a1_1 y191)) = some (r1, r2, r3, r4) := H
           have A412 := am_ A4120
           clear A4120
           by_cases c413 : t199 = true
           ·
            subst c413
            have H1 : (culetref49_next.j1 kj351 ((rd_T56 l0_1 a2_2).f1) ((((rd_T56 l0_1 a2_2).f1) == 2) != a1_1) l0_0 l0_1 a0_2 a0_3 a1_0 a1_1 l1_2 a2_0 a2_1 a2_2 a1_0 a1_1 y191) = some (r1, r2, r3, r4) := by rw [if_pos rfl] at H; exact H
            clear H
            have H := H1
            clear H1
            have H' := am_ H
            clear H
            have hnb414 := NB184_185.out
            have hnc414 := NB185_184.out
            have hnb415 := NB184_186.out
            have hnc415 := NB186_184.out
            have hnb416 := NB184_187.out
            have hnc416 := NB187_184.out
            have hnb417 := NB184_194.out
            have hnc417 := NB194_184.out
            have hcz418_0 : wc.cell? ⟨gb184, 0, none⟩ = some (.slice A0_0 l0_0.length c0_0) := (blk_cell BK184.out 0).trans rfl
            have hcz418_1 : wc.cell? ⟨gb184, 1, none⟩ = some (.slice (some ad198) l0_1.length c0_1) := (blk_cell BK184.out 1).trans rfl
            have hcz418_2 : wc.cell? ⟨gb184, 2, none⟩ = some (.int .i64 a0_2) := (blk_cell BK184.out 2).trans rfl
            have hcz418_3 : wc.cell? ⟨gb184, 3, none⟩ = some (.int .i64 a0_3) := (blk_cell BK184.out 3).trans rfl
            have hfz418_0 := blk_frozen BK184.out 0
            have hfz418_1 := blk_frozen BK184.out 1
            have hfz418_2 := blk_frozen BK184.out 2
            have hfz418_3 := blk_frozen BK184.out 3
            go_wp2_with (first | ((with_reducible refine gate_callee (f := 38) rfl ?_); refine goesL_ (some 125) rfl rfl Tryd.func38 (by kernel_rfl) rfl #[.agg #[.slice A0_0 l0_0.length c0_0, .slice (some ad198) l0_1.length c0_1, .int .i64 a0_2, .int .i64 a0_3]] rfl ml_ ?_; (with_reducible refine (culetref49_both.calls kj351 _ _ l0_0 _ _ l0_1 a0_2 a0_3 true _ ?side1 ?side2 ?side3 ?side4 A412.out).mono ?_); (case side1 => exact Kd.C_kept_now HR0_0.out (mp_ HK.out)); (case side2 => exact HC0_0.out); (case side3 => exact Kd.C_kept_now HR0_1.out (mp_ HK.out)); (case side4 => exact HC0_1.out); rintro e w419 ⟨rfl, hb⟩; refine ⟨_, rfl, ?_⟩; have z_ := aI (am_ (Kd.R_below (mr_ HO_186002.out) hb)) (aI (am_ (Kd.R_below (mr_ HO_195002.out) hb)) (aI (am_ (blk_below (mk_ BK184.out) hb)) (aI (am_ (blk_below (mk_ BK185.out) hb)) (aI (am_ (blk_below (mk_ BK186.out) hb)) (aI (am_ (blk_below (mk_ BK187.out) hb)) (aI (am_ (blk_below (mk_ BK194.out) hb)) (aI (am_ (Kept.below (S := (fun k_ => P1_2_ k_)) (mp_ HK.out) hb)) (am_ (below_step (mb_ HB.out) hb))))))))); clear HO_186002 HO_195002 BK184 BK185 BK186 BK187 BK194 HK HB; obtain ⟨HO_186002, HO_195002, BK184, BK185, BK186, BK187, BK194, HK, HB⟩ := z_; (try clear hb); (try clear hb2); (try clear hk); (try clear hi); have hnb420 := NB185_186.out; have hnc420 := NB186_185.out; have hnb421 := NB185_187.out; have hnc421 := NB187_185.out; have hnb422 := NB185_194.out; have hnc422 := NB194_185.out; have hcz423_0 : w419.cell? ⟨gb185, 0, none⟩ = some (.int .i64 a1_0) := (blk_cell BK185.out 0).trans rfl; have hcz423_1 : w419.cell? ⟨gb185, 1, none⟩ = some (.bool a1_1) := (blk_cell BK185.out 1).trans rfl; have hcz423_2 : w419.cell? ⟨gb185, 2, none⟩ = some (.slice Ao9 l1_2.length co9) := (blk_cell BK185.out 2).trans rfl; have hfz423_0 := blk_frozen BK185.out 0; have hfz423_1 := blk_frozen BK185.out 1; have hfz423_2 := blk_frozen BK185.out 2))
            go_meet
            case rel => exact ⟨_, (((((rd_T56 l0_1 a2_2).f1) == 2) != a1_1)), rs_, H', ⟨by have := HJ351.out; first | omega | exact Nat.le_refl _⟩, ⟨by (with_reducible repeat (first | apply Kd.R_alloc | apply Kd.R_drewN | apply Kd.R_drew)); exact HO_186002.out⟩, ⟨by (with_reducible repeat (first | apply Kd.R_alloc | apply Kd.R_drewN | apply Kd.R_drew)); exact HO_195002.out⟩, ⟨by (with_reducible repeat (first | refine blk_drewN ?_ _ | refine blk_drew ?_ | refine blk_alloc ?_ _)); exact BK184.out⟩, ⟨by (with_reducible repeat (first | refine blk_drewN ?_ _ | refine blk_drew ?_ | refine blk_alloc ?_ _)); exact BK185.out⟩, ⟨by (with_reducible repeat (first | refine blk_drewN ?_ _ | refine blk_drew ?_ | refine blk_alloc ?_ _)); exact BK186.out⟩, ⟨by (with_reducible repeat (first | refine blk_drewN ?_ _ | refine blk_drew ?_ | refine blk_alloc ?_ _)); exact BK187.out⟩, ⟨by (with_reducible repeat (first | refine blk_drewN ?_ _ | refine blk_drew ?_ | refine blk_alloc ?_ _)); exact BK194.out⟩, ⟨mp_ HK.out⟩, ⟨mb_ HB.out⟩⟩
           ·
            replace c413 := Bool.eq_false_iff.mpr c413
            subst c413
            have H1 : (culetref49_next.j1 kj351 ((rd_T56 l0_1 a2_2).f1) false l0_0 l0_1 a0_2 a0_3 a1_0 a1_1 l1_2 a2_0 a2_1 a2_2 a1_0 a1_1 y191) = some (r1, r2, r3, r4) := by rw [if_neg (show ¬ (false = true) by decide)] at H; exact H
            clear H
            have H := H1
            clear H1
            have H' := am_ H
            clear H
            have hnb424 := NB184_185.out
            have hnc424 := NB185_184.out
            have hnb425 := NB184_186.out
            have hnc425 := NB186_184.out
            have hnb426 := NB184_187.out
            have hnc426 := NB187_184.out
            have hnb427 := NB184_194.out
            have hnc427 := NB194_184.out
            have hcz428_0 : wc.cell? ⟨gb184, 0, none⟩ = some (.slice A0_0 l0_0.length c0_0) := (blk_cell BK184.out 0).trans rfl
            have hcz428_1 : wc.cell? ⟨gb184, 1, none⟩ = some (.slice (some ad198) l0_1.length c0_1) := (blk_cell BK184.out 1).trans rfl
            have hcz428_2 : wc.cell? ⟨gb184, 2, none⟩ = some (.int .i64 a0_2) := (blk_cell BK184.out 2).trans rfl
            have hcz428_3 : wc.cell? ⟨gb184, 3, none⟩ = some (.int .i64 a0_3) := (blk_cell BK184.out 3).trans rfl
            have hfz428_0 := blk_frozen BK184.out 0
            have hfz428_1 := blk_frozen BK184.out 1
            have hfz428_2 := blk_frozen BK184.out 2
            have hfz428_3 := blk_frozen BK184.out 3
            go_wp2_with (first | ((with_reducible refine gate_callee (f := 38) rfl ?_); refine goesL_ (some 125) rfl rfl Tryd.func38 (by kernel_rfl) rfl #[.agg #[.slice A0_0 l0_0.length c0_0, .slice (some ad198) l0_1.length c0_1, .int .i64 a0_2, .int .i64 a0_3]] rfl ml_ ?_; (with_reducible refine (culetref49_both.calls kj351 _ _ l0_0 _ _ l0_1 a0_2 a0_3 false _ ?side1 ?side2 ?side3 ?side4 A412.out).mono ?_); (case side1 => exact Kd.C_kept_now HR0_0.out (mp_ HK.out)); (case side2 => exact HC0_0.out); (case side3 => exact Kd.C_kept_now HR0_1.out (mp_ HK.out)); (case side4 => exact HC0_1.out); rintro e w429 ⟨rfl, hb⟩; refine ⟨_, rfl, ?_⟩; have z_ := aI (am_ (Kd.R_below (mr_ HO_186002.out) hb)) (aI (am_ (Kd.R_below (mr_ HO_195002.out) hb)) (aI (am_ (blk_below (mk_ BK184.out) hb)) (aI (am_ (blk_below (mk_ BK185.out) hb)) (aI (am_ (blk_below (mk_ BK186.out) hb)) (aI (am_ (blk_below (mk_ BK187.out) hb)) (aI (am_ (blk_below (mk_ BK194.out) hb)) (aI (am_ (Kept.below (S := (fun k_ => P1_2_ k_)) (mp_ HK.out) hb)) (am_ (below_step (mb_ HB.out) hb))))))))); clear HO_186002 HO_195002 BK184 BK185 BK186 BK187 BK194 HK HB; obtain ⟨HO_186002, HO_195002, BK184, BK185, BK186, BK187, BK194, HK, HB⟩ := z_; (try clear hb); (try clear hb2); (try clear hk); (try clear hi)))
            go_meet
            case rel => exact ⟨_, (false), rs_, H', ⟨by have := HJ351.out; first | omega | exact Nat.le_refl _⟩, ⟨by (with_reducible repeat (first | apply Kd.R_alloc | apply Kd.R_drewN | apply Kd.R_drew)); exact HO_186002.out⟩, ⟨by (with_reducible repeat (first | apply Kd.R_alloc | apply Kd.R_drewN | apply Kd.R_drew)); exact HO_195002.out⟩, ⟨by (with_reducible repeat (first | refine blk_drewN ?_ _ | refine blk_drew ?_ | refine blk_alloc ?_ _)); exact BK184.out⟩, ⟨by (with_reducible repeat (first | refine blk_drewN ?_ _ | refine blk_drew ?_ | refine blk_alloc ?_ _)); exact BK185.out⟩, ⟨by (with_reducible repeat (first | refine blk_drewN ?_ _ | refine blk_drew ?_ | refine blk_alloc ?_ _)); exact BK186.out⟩, ⟨by (with_reducible repeat (first | refine blk_drewN ?_ _ | refine blk_drew ?_ | refine blk_alloc ?_ _)); exact BK187.out⟩, ⟨by (with_reducible repeat (first | refine blk_drewN ?_ _ | refine blk_drew ?_ | refine blk_alloc ?_ _)); exact BK194.out⟩, ⟨mp_ HK.out⟩, ⟨mb_ HB.out⟩⟩
          case rest =>
           clear HC402
           try clear p1
           try clear q1
           try clear hx1
           try clear p2
           try clear c3
           try clear c4
           try clear p19
           try clear q19
           try clear hx19
           try clear c38
           try clear c39
           try clear c40
           try clear c41
           try clear c42
           try clear p197
           try clear q197
           try clear hx197
           try clear p198
           try clear q198
           try clear hx198
           try clear c380
           try clear c380b0
           try clear c380b1
           try clear c384
           try clear c385
           try clear c390
           try clear c391
           try clear c392
           try clear c393
           try clear c394
           try clear c396
           try clear c397
           try clear c398
           try clear c400
           try clear c400b0
           try clear c401
           try clear c401b0
           try clear c403
           try clear c404
           try clear c405
           try clear c406
           try clear c408
           try clear c409
           try clear c410
           try clear c413
           try clear c414
           try clear c415
           try clear c416
           try clear c417
           try clear c420
           try clear c421
           try clear c422
           try clear c424
           try clear c425
           try clear c426
           try clear c427
           try clear hcz395_0
           try clear hcz395_1
           try clear hcz395_2
           try clear hcz399_0
           try clear hcz399_1
           try clear hcz399_2
           try clear hcz407_0
           try clear hcz407_1
           try clear hcz407_2
           try clear hcz407_3
           try clear hcz411_0
           try clear hcz411_1
           try clear hcz411_2
           try clear hcz418_0
           try clear hcz418_1
           try clear hcz418_2
           try clear hcz418_3
           try clear hcz423_0
           try clear hcz423_1
           try clear hcz423_2
           try clear hcz428_0
           try clear hcz428_1
           try clear hcz428_2
           try clear hcz428_3
           try clear hfz395_0
           try clear hfz395_1
           try clear hfz395_2
           try clear hfz399_0
           try clear hfz399_1
           try clear hfz399_2
           try clear hfz407_0
           try clear hfz407_1
           try clear hfz407_2
           try clear hfz407_3
           try clear hfz411_0
           try clear hfz411_1
           try clear hfz411_2
           try clear hfz418_0
           try clear hfz418_1
           try clear hfz418_2
           try clear hfz418_3
           try clear hfz423_0
           try clear hfz423_1
           try clear hfz423_2
           try clear hfz428_0
           try clear hfz428_1
           try clear hfz428_2
           try clear hfz428_3
           try clear hx197_0
           try clear hx198_0
           try clear hx198_1
           try clear hx198_2
           try clear p1
           try clear p19
           try clear p197
           try clear p198
           try clear p2
           try clear q1
           try clear q19
           try clear q197
           try clear q198
           obtain ⟨kq, x132_401, rfl, HA, HJ401, HO_186002, HO_195002, BK184, BK185, BK186, BK187, BK194, HK, HB⟩ := hcut
           cases kq with
           | zero => exact absurd HA.out (by simp [culetref49_next.j1])
           | succ kj401 =>
            have H := HA.out
            clear HA
            simp only [culetref49_next.j1] at H
            by_cases c430 : x132_401 = true
            ·
             subst c430
             have H1 : (some (a1_0, a1_1, l1_2, false)) = some (r1, r2, r3, r4) := by rw [if_pos rfl] at H; exact H
             clear H
             have H := H1
             clear H1
             simp only [Option.some.injEq, Prod.mk.injEq] at H
             obtain ⟨rfl, rfl, rfl, rfl⟩ := H
             have hnb431 := NB185_184.out
             have hnc431 := NB184_185.out
             have hnb432 := NB185_186.out
             have hnc432 := NB186_185.out
             have hnb433 := NB185_187.out
             have hnc433 := NB187_185.out
             have hnb434 := NB185_194.out
             have hnc434 := NB194_185.out
             have hcz435_0 : wc.cell? ⟨gb185, 0, none⟩ = some (.int .i64 a1_0) := (blk_cell BK185.out 0).trans rfl
             have hcz435_1 : wc.cell? ⟨gb185, 1, none⟩ = some (.bool a1_1) := (blk_cell BK185.out 1).trans rfl
             have hcz435_2 : wc.cell? ⟨gb185, 2, none⟩ = some (.slice Ao9 l1_2.length co9) := (blk_cell BK185.out 2).trans rfl
             have hfz435_0 := blk_frozen BK185.out 0
             have hfz435_1 := blk_frozen BK185.out 1
             have hfz435_2 := blk_frozen BK185.out 2
             have hnb436 := NB187_184.out
             have hnc436 := NB184_187.out
             have hnb437 := NB187_186.out
             have hnc437 := NB186_187.out
             have hnb438 := NB187_194.out
             have hnc438 := NB194_187.out
             have hcz439_0 : wc.cell? ⟨gb187, 0, none⟩ = some (.int .i64 0) := (blk_cell BK187.out 0).trans rfl
             have hcz439_1 : wc.cell? ⟨gb187, 1, none⟩ = some (.bool false) := (blk_cell BK187.out 1).trans rfl
             have hcz439_2 : wc.cell? ⟨gb187, 2, none⟩ = some (.slice none 0 0) := (blk_cell BK187.out 2).trans rfl
             have hfz439_0 := blk_frozen BK187.out 0
             have hfz439_1 := blk_frozen BK187.out 1
             have hfz439_2 := blk_frozen BK187.out 2
             go_wp2
             refine bodyPost_ret (results_ct rfl _ _ gb187 66 #[.int .i64 a1_0, .bool a1_1, .slice Ao9 l1_2.length co9] (0, 0) _ rfl (by (with_reducible repeat (first | refine blk_drewN ?_ _ | refine blk_drew ?_ | refine blk_alloc ?_ _)); refine blk_put (cs := #[.int .i64 a1_0, .bool a1_1, .slice none 0 0]) ?_ 2 _ rfl; (with_reducible repeat (first | refine blk_drewN ?_ _ | refine blk_drew ?_ | refine blk_alloc ?_ _)); refine blk_put (cs := #[.int .i64 a1_0, .bool false, .slice none 0 0]) ?_ 1 _ rfl; (with_reducible repeat (first | refine blk_drewN ?_ _ | refine blk_drew ?_ | refine blk_alloc ?_ _)); refine blk_put (cs := #[.int .i64 0, .bool false, .slice none 0 0]) ?_ 0 _ rfl; (with_reducible repeat (first | refine blk_drewN ?_ _ | refine blk_drew ?_ | refine blk_alloc ?_ _)); exact BK187.out) Tryd.underlying66 rfl (by kernel_rfl)) rfl ?_
             exact ⟨_, by first | rfl | (simp [errW_none, errW_some] <;> rfl) | (simp [*, errW_none, errW_some] <;> rfl), by (with_reducible repeat (first | apply Kd.R_alloc | apply Kd.R_drewN | apply Kd.R_drew)); exact Kd.R_mono (Kd.R_far (p := ⟨gb187, 2, none⟩) (Kd.R_far (p := ⟨gb187, 1, none⟩) (Kd.R_far (p := ⟨gb187, 0, none⟩) (Kd.R_types HO_186002.out BK187.out (by decide)) (fun _ hk => hk.2) (.int .i64 a1_0)) (fun _ hk => hk.2) (.bool a1_1)) (fun _ hk => hk.2) (.slice Ao9 l1_2.length co9)) (fun _ hk => hk.1.1), mb_ HB.out, mp_ HK.out⟩
            ·
             replace c430 := Bool.eq_false_iff.mpr c430
             subst c430
             have H1 : (culetref49_next.l0 kj401 ((rd_T56 l0_1 a2_2).f1) 0 l0_0 l0_1 a0_2 a0_3 a1_0 a1_1 l1_2 a2_0 a2_1 a2_2 a1_0 a1_1 y191) = some (r1, r2, r3, r4) := by rw [if_neg (show ¬ (false = true) by decide)] at H; exact H
             clear H
             have H := H1
             clear H1
             have H' := am_ H
             clear H
             go_wp2
             go_loopg [10] kj401 (fun kq v10 w' => ∃ (x10_3 : Int) (x188000_3 : Int) (x188001_3 : Bool), v10 = .int .i64 x10_3 ∧ Aside0 (culetref49_next.l0 kq ((rd_T56 l0_1 a2_2).f1) x10_3 l0_0 l0_1 a0_2 a0_3 a1_0 a1_1 l1_2 a2_0 a2_1 a2_2 a1_0 a1_1 y191 = some (r1, r2, r3, r4)) ∧ Aside0 (kq ≤ kj401) ∧ Aside0 (Kd.R (Kd.int .i64) 3 w' w0.heap.size (fun k_ => (P1_2_ k_ ∨ w.heap.size ≤ k_) ∧ some k_ ≠ ((.slice Ao20 y191.length co20) : Value).ownBlock) (.slice Ao9 l1_2.length co9) l1_2) ∧ Aside0 (Kd.R (Kd.int .i64) 3 w' w0.heap.size (fun k_ => (P1_2_ k_ ∨ w.heap.size ≤ k_) ∧ some k_ ≠ ((.slice Ao9 l1_2.length co9) : Value).ownBlock) (.slice Ao20 y191.length co20) y191) ∧ Aside0 (w'.heap[gb184]? = some (.cells #[(.slice A0_0 l0_0.length c0_0), (.slice (some ad198) l0_1.length c0_1), .int .i64 a0_2, .int .i64 a0_3] 25 (0, 0))) ∧ Aside0 (w'.heap[gb185]? = some (.cells #[.int .i64 a1_0, .bool a1_1, (.slice Ao9 l1_2.length co9)] 66 (0, 0))) ∧ Aside0 (w'.heap[gb186]? = some (.cells #[.int .i64 a2_0, .int .i64 a2_1, .int .i64 a2_2] 63 (0, 0))) ∧ Aside0 (w'.heap[gb187]? = some (.cells #[.int .i64 x188000_3, .bool x188001_3, (.slice none 0 0)] 66 (0, 0))) ∧ Aside0 (w'.heap[gb194]? = some (.cells #[.int .i64 a1_0, .bool a1_1, (.slice Ao20 y191.length co20)] 66 (0, 0))) ∧ Aside0 (Kept w w' (fun k_ => P1_2_ k_)) ∧ Aside0 (Below w0.heap.size w0 w'))
             case atStart => exact ⟨(0), (0), (false), rs_, H', ⟨Nat.le_refl _⟩, ⟨by (with_reducible repeat (first | apply Kd.R_alloc | apply Kd.R_drewN | apply Kd.R_drew)); exact HO_186002.out⟩, ⟨by (with_reducible repeat (first | apply Kd.R_alloc | apply Kd.R_drewN | apply Kd.R_drew)); exact HO_195002.out⟩, ⟨by (with_reducible repeat (first | refine blk_drewN ?_ _ | refine blk_drew ?_ | refine blk_alloc ?_ _)); exact BK184.out⟩, ⟨by (with_reducible repeat (first | refine blk_drewN ?_ _ | refine blk_drew ?_ | refine blk_alloc ?_ _)); exact BK185.out⟩, ⟨by (with_reducible repeat (first | refine blk_drewN ?_ _ | refine blk_drew ?_ | refine blk_alloc ?_ _)); exact BK186.out⟩, ⟨by (with_reducible repeat (first | refine blk_drewN ?_ _ | refine blk_drew ?_ | refine blk_alloc ?_ _)); exact BK187.out⟩, ⟨by (with_reducible repeat (first | refine blk_drewN ?_ _ | refine blk_drew ?_ | refine blk_alloc ?_ _)); exact BK194.out⟩, ⟨mp_ HK.out⟩, ⟨mb_ HB.out⟩⟩
             case round =>
              clear H'
              try clear p1
              try clear q1
              try clear hx1
              try clear p2
              try clear c3
              try clear c4
              try clear p19
              try clear q19
              try clear hx19
              try clear c38
              try clear c39
              try clear c40
              try clear c41
              try clear c42
              try clear c43
              try clear p197
              try clear q197
              try clear hx197
              try clear p198
              try clear q198
              try clear hx198
              try clear c380
              try clear c380b0
              try clear c380b1
              try clear c384
              try clear c385
              try clear c390
              try clear c391
              try clear c392
              try clear c393
              try clear c394
              try clear c396
              try clear c397
              try clear c398
              try clear c400
              try clear c400b0
              try clear c401
              try clear c401b0
              try clear c403
              try clear c404
              try clear c405
              try clear c406
              try clear c408
              try clear c409
              try clear c410
              try clear c413
              try clear c414
              try clear c415
              try clear c416
              try clear c417
              try clear c420
              try clear c421
              try clear c422
              try clear c424
              try clear c425
              try clear c426
              try clear c427
              try clear c430
              try clear c431
              try clear c432
              try clear c433
              try clear c434
              try clear c436
              try clear c437
              try clear c438
              try clear hcz395_0
              try clear hcz395_1
              try clear hcz395_2
              try clear hcz399_0
              try clear hcz399_1
              try clear hcz399_2
              try clear hcz407_0
              try clear hcz407_1
              try clear hcz407_2
              try clear hcz407_3
              try clear hcz411_0
              try clear hcz411_1
              try clear hcz411_2
              try clear hcz418_0
              try clear hcz418_1
              try clear hcz418_2
              try clear hcz418_3
              try clear hcz423_0
              try clear hcz423_1
              try clear hcz423_2
              try clear hcz428_0
              try clear hcz428_1
              try clear hcz428_2
              try clear hcz428_3
              try clear hcz435_0
              try clear hcz435_1
              try clear hcz435_2
              try clear hcz439_0
              try clear hcz439_1
              try clear hcz439_2
              try clear hfz395_0
              try clear hfz395_1
              try clear hfz395_2
              try clear hfz399_0
              try clear hfz399_1
              try clear hfz399_2
              try clear hfz407_0
              try clear hfz407_1
              try clear hfz407_2
              try clear hfz407_3
              try clear hfz411_0
              try clear hfz411_1
              try clear hfz411_2
              try clear hfz418_0
              try clear hfz418_1
              try clear hfz418_2
              try clear hfz418_3
              try clear hfz423_0
              try clear hfz423_1
              try clear hfz423_2
              try clear hfz428_0
              try clear hfz428_1
              try clear hfz428_2
              try clear hfz428_3
              try clear hfz435_0
              try clear hfz435_1
              try clear hfz435_2
              try clear hfz439_0
              try clear hfz439_1
              try clear hfz439_2
              try clear hx197_0
              try clear hx198_0
              try clear hx198_1
              try clear hx198_2
              try clear p1
              try clear p19
              try clear p197
              try clear p198
              try clear p2
              try clear q1
              try clear q19
              try clear q197
              try clear q198
              obtain ⟨x10_3, x188000_3, x188001_3, rfl, HA, HK3, HO_186002, HO_195002, BK184, BK185, BK186, BK187, BK194, HK, HB⟩ := hrel
              cases gk with
              | zero => exact absurd HA.out (by simp [culetref49_next.l0])
              | succ k3 =>
               have H := HA.out
               clear HA
               simp only [culetref49_next.l0] at H
               by_cases c440 : x10_3 < a2_2
               ·
                rw [if_pos c440] at H
                have c440b0 : decide (x10_3 < a2_2) = true := decide_eq_true c440
                clear c440
                by_cases c441 : 0 ≤ x10_3
                ·
                 rw [if_pos c441] at H
                 have c441b0 : decide (0 ≤ x10_3) = true := decide_eq_true c441
                 clear c441
                 by_cases c442 : x10_3 < (l0_1.length : Int)
                 ·
                  rw [if_pos c442] at H
                  have c442b0 : decide (x10_3 < (l0_1.length : Int)) = true := decide_eq_true c442
                  clear c442
                  by_cases c443 : ((rd_T56 l0_1 x10_3).f1) = ((rd_T56 l0_1 a2_2).f1)
                  ·
                   rw [if_pos c443] at H
                   have c443b0 : (((rd_T56 l0_1 x10_3).f1) == ((rd_T56 l0_1 a2_2).f1)) = true := beq_iff_eq.mpr c443
                   have c443b1 : (((rd_T56 l0_1 x10_3).f1) != ((rd_T56 l0_1 a2_2).f1)) = false := bne_eq_false_iff_eq.mpr c443
                   clear c443
                   by_cases c444 : x10_3 < (l1_2.length : Int)
                   ·
                    rw [if_pos c444] at H
                    have c444b0 : decide (x10_3 < (l1_2.length : Int)) = true := decide_eq_true c444
                    clear c444
                    by_cases c445 : (rd l1_2 x10_3) ≤ a2_1
                    ·
                     rw [if_pos c445] at H
                     have c445b0 : decide ((rd l1_2 x10_3) ≤ a2_1) = true := decide_eq_true c445
                     clear c445
                     simp only [Option.some.injEq, Prod.mk.injEq] at H
                     obtain ⟨rfl, rfl, rfl, rfl⟩ := H
                     have hnb446 := NB186_184.out
                     have hnc446 := NB184_186.out
                     have hnb447 := NB186_185.out
                     have hnc447 := NB185_186.out
                     have hnb448 := NB186_187.out
                     have hnc448 := NB187_186.out
                     have hnb449 := NB186_194.out
                     have hnc449 := NB194_186.out
                     have hcz450_0 : wr.cell? ⟨gb186, 0, none⟩ = some (.int .i64 a2_0) := (blk_cell BK186.out 0).trans rfl
                     have hcz450_1 : wr.cell? ⟨gb186, 1, none⟩ = some (.int .i64 a2_1) := (blk_cell BK186.out 1).trans rfl
                     have hcz450_2 : wr.cell? ⟨gb186, 2, none⟩ = some (.int .i64 a2_2) := (blk_cell BK186.out 2).trans rfl
                     have hfz450_0 := blk_frozen BK186.out 0
                     have hfz450_1 := blk_frozen BK186.out 1
                     have hfz450_2 := blk_frozen BK186.out 2
                     try go_wp2
                     have z_ := aI (am_ (Kd.R_drew HO_186002.out)) (aI (am_ (Kd.R_drew HO_195002.out)) (aI (am_ (blk_drew BK184.out)) (aI (am_ (blk_drew BK185.out)) (aI (am_ (blk_drew BK186.out)) (aI (am_ (blk_drew BK187.out)) (aI (am_ (blk_drew BK194.out)) (aI (am_ (Kept.drew HK.out)) (am_ (below_drew1 HB.out)))))))))
                     clear HO_186002 HO_195002 BK184 BK185 BK186 BK187 BK194 HK HB
                     obtain ⟨HO_186002, HO_195002, BK184, BK185, BK186, BK187, BK194, HK, HB⟩ := z_
                     have p200 : 0 ≤ (x10_3 : Int) := of_decide_eq_true as_
                     have q200 : x10_3 < (l0_1.length : Int) := of_decide_eq_true as_
                     obtain ⟨ad200, e200, hx200_0, hx200_1, hx200_2⟩ := at_T56 (Kd.C_kept_now HR0_1.out HK.out) x10_3 p200 q200
                     have hw200_2 := hx200_2
                     have hw200_1 := hx200_1
                     have hw200_0 := hx200_0
                     obtain rfl : ad198 = ad200 := (by injection e200)
                     replace p200 := eq_true p200
                     replace q200 := eq_true q200
                     have p201 : 0 ≤ (x10_3 : Int) := of_decide_eq_true as_
                     have q201 : x10_3 < (l1_2.length : Int) := of_decide_eq_true as_
                     obtain ⟨ad201, e201, hx201_0⟩ := Kd.at_int (Kd.R_reads' HO_186002.out).2.2 x10_3 p201 q201
                     cases e201
                     replace p201 := eq_true p201
                     replace q201 := eq_true q201
                     refine start_ (n := 18) (S := fun w' => w'.cell? ⟨gb184, 0, none⟩ = some (.slice A0_0 l0_0.length c0_0) ∧ w'.cell? ⟨gb184, 1, none⟩ = some (.slice (some ad198) l0_1.length c0_1) ∧ w'.cell? ⟨gb184, 2, none⟩ = some (.int .i64 a0_2) ∧ w'.cell? ⟨gb184, 3, none⟩ = some (.int .i64 a0_3) ∧ w'.cell? ⟨gb185, 0, none⟩ = some (.int .i64 a1_0) ∧ w'.cell? ⟨gb185, 1, none⟩ = some (.bool a1_1) ∧ w'.cell? ⟨gb185, 2, none⟩ = some (.slice (some ad201) l1_2.length co9) ∧ w'.cell? ⟨gb186, 0, none⟩ = some (.int .i64 a2_0) ∧ w'.cell? ⟨gb186, 1, none⟩ = some (.int .i64 a2_1) ∧ w'.cell? ⟨gb186, 2, none⟩ = some (.int .i64 a2_2) ∧ w'.cell? (ad198.add ((x10_3).toNat * 3)) = some (.string ((rd_T56 l0_1 x10_3).f0)) ∧ w'.cell? ⟨(ad198.add ((x10_3).toNat * 3)).block, (ad198.add ((x10_3).toNat * 3)).off + 1, none⟩ = some (.int .i64 ((rd_T56 l0_1 x10_3).f1)) ∧ w'.cell? ⟨(ad198.add ((x10_3).toNat * 3)).block, (ad198.add ((x10_3).toNat * 3)).off + 2, none⟩ = some (.int .i64 ((rd_T56 l0_1 x10_3).f2)) ∧ w'.cell? (ad201.add (x10_3).toNat) = some (.int .i64 (rd l1_2 x10_3))) (ds := []) #[false, false, false, false, false, false, false, false, false, false, false, false, false, false, false, false, false, false] (by kernel_rfl) rfl rfl ⟨(blk_cell BK184.out 0).trans rfl, (blk_cell BK184.out 1).trans rfl, (blk_cell BK184.out 2).trans rfl, (blk_cell BK184.out 3).trans rfl, (blk_cell BK185.out 0).trans rfl, (blk_cell BK185.out 1).trans rfl, (blk_cell BK185.out 2).trans rfl, (blk_cell BK186.out 0).trans rfl, (blk_cell BK186.out 1).trans rfl, (blk_cell BK186.out 2).trans rfl, hx200_0, hx200_1, hx200_2, hx201_0⟩ (fun hHeld => ?_); refine with_tabW culetref49_next.tab22 culetref49_next.bits22 (fun HT_ HW_ => ?_)
                     generalize wr.drew = w451 at HO_186002 HO_195002 BK184 BK185 BK186 BK187 BK194 HK HB hx200_0 hx200_1 hx200_2 hx201_0 hHeld ⊢
                     refine ltd (o := [0, 2, 6, 1, 3, 4, 5, 7, 8, 9, 11, 14, 10, 12, 13, 15, 16, 17]) (n := 0) (m := 18) (by kernel_rfl) ?_
                     iterate 18 (first | (refine tne rfl rfl (take_ofW HT_.out HW_.out (by kernel_rfl)) (Or.inl ⟨by rfl, by rintro w' ⟨s0, s1, s2, s3, s4, s5, s6, s7, s8, s9, s10, s11, s12, s13⟩; go_simp; with_reducible rfl⟩) hHeld ?_) | (refine pne rfl rfl (any_of HT_.out (by kernel_rfl)) (Or.inl ⟨by rfl, by intro w'; go_simp; with_reducible rfl⟩) ?_))
                     refine done_ (done_of HT_.out (by kernel_rfl)) ?_
                     have hnb452 := NB185_184.out
                     have hnc452 := NB184_185.out
                     have hnb453 := NB185_187.out
                     have hnc453 := NB187_185.out
                     have hnb454 := NB185_194.out
                     have hnc454 := NB194_185.out
                     have hcz455_0 : w451.cell? ⟨gb185, 0, none⟩ = some (.int .i64 a1_0) := (blk_cell BK185.out 0).trans rfl
                     have hcz455_1 : w451.cell? ⟨gb185, 1, none⟩ = some (.bool a1_1) := (blk_cell BK185.out 1).trans rfl
                     have hcz455_2 : w451.cell? ⟨gb185, 2, none⟩ = some (.slice (some ad201) l1_2.length co9) := (blk_cell BK185.out 2).trans rfl
                     have hfz455_0 := blk_frozen BK185.out 0
                     have hfz455_1 := blk_frozen BK185.out 1
                     have hfz455_2 := blk_frozen BK185.out 2
                     have hnb456 := NB187_184.out
                     have hnc456 := NB184_187.out
                     have hnb457 := NB187_194.out
                     have hnc457 := NB194_187.out
                     have hcz458_0 : w451.cell? ⟨gb187, 0, none⟩ = some (.int .i64 x188000_3) := (blk_cell BK187.out 0).trans rfl
                     have hcz458_1 : w451.cell? ⟨gb187, 1, none⟩ = some (.bool x188001_3) := (blk_cell BK187.out 1).trans rfl
                     have hcz458_2 : w451.cell? ⟨gb187, 2, none⟩ = some (.slice none 0 0) := (blk_cell BK187.out 2).trans rfl
                     have hfz458_0 := blk_frozen BK187.out 0
                     have hfz458_1 := blk_frozen BK187.out 1
                     have hfz458_2 := blk_frozen BK187.out 2
                     try go_wp2
                     refine bodyPost_ret (results_ct rfl _ _ gb187 66 #[.int .i64 a1_0, .bool a1_1, .slice (some ad201) l1_2.length co9] (0, 0) _ rfl (by (with_reducible repeat (first | refine blk_drewN ?_ _ | refine blk_drew ?_ | refine blk_alloc ?_ _)); refine blk_put (cs := #[.int .i64 a1_0, .bool a1_1, .slice none 0 0]) ?_ 2 _ rfl; (with_reducible repeat (first | refine blk_drewN ?_ _ | refine blk_drew ?_ | refine blk_alloc ?_ _)); refine blk_put (cs := #[.int .i64 a1_0, .bool x188001_3, .slice none 0 0]) ?_ 1 _ rfl; (with_reducible repeat (first | refine blk_drewN ?_ _ | refine blk_drew ?_ | refine blk_alloc ?_ _)); refine blk_put (cs := #[.int .i64 x188000_3, .bool x188001_3, .slice none 0 0]) ?_ 0 _ rfl; (with_reducible repeat (first | refine blk_drewN ?_ _ | refine blk_drew ?_ | refine blk_alloc ?_ _)); exact BK187.out) Tryd.underlying66 rfl (by kernel_rfl)) rfl ?_
                     exact ⟨_, by first | rfl | (simp [errW_none, errW_some] <;> rfl) | (simp [*, errW_none, errW_some] <;> rfl), by (with_reducible repeat (first | apply Kd.R_alloc | apply Kd.R_drewN | apply Kd.R_drew)); exact Kd.R_mono (Kd.R_far (p := ⟨gb187, 2, none⟩) (Kd.R_far (p := ⟨gb187, 1, none⟩) (Kd.R_far (p := ⟨gb187, 0, none⟩) (Kd.R_types HO_186002.out BK187.out (by decide)) (fun _ hk => hk.2) (.int .i64 a1_0)) (fun _ hk => hk.2) (.bool a1_1)) (fun _ hk => hk.2) (.slice (some ad201) l1_2.length co9)) (fun _ hk => hk.1.1), mb_ HB.out, mp_ HK.out⟩
                    ·
                     rw [if_neg c445] at H
                     have c445b0 : decide ((rd l1_2 x10_3) ≤ a2_1) = false := decide_eq_false c445
                     clear c445
                     have H' := am_ H
                     clear H
                     have hnb459 := NB186_184.out
                     have hnc459 := NB184_186.out
                     have hnb460 := NB186_185.out
                     have hnc460 := NB185_186.out
                     have hnb461 := NB186_187.out
                     have hnc461 := NB187_186.out
                     have hnb462 := NB186_194.out
                     have hnc462 := NB194_186.out
                     have hcz463_0 : wr.cell? ⟨gb186, 0, none⟩ = some (.int .i64 a2_0) := (blk_cell BK186.out 0).trans rfl
                     have hcz463_1 : wr.cell? ⟨gb186, 1, none⟩ = some (.int .i64 a2_1) := (blk_cell BK186.out 1).trans rfl
                     have hcz463_2 : wr.cell? ⟨gb186, 2, none⟩ = some (.int .i64 a2_2) := (blk_cell BK186.out 2).trans rfl
                     have hfz463_0 := blk_frozen BK186.out 0
                     have hfz463_1 := blk_frozen BK186.out 1
                     have hfz463_2 := blk_frozen BK186.out 2
                     try go_wp2
                     have z_ := aI (am_ (Kd.R_drew HO_186002.out)) (aI (am_ (Kd.R_drew HO_195002.out)) (aI (am_ (blk_drew BK184.out)) (aI (am_ (blk_drew BK185.out)) (aI (am_ (blk_drew BK186.out)) (aI (am_ (blk_drew BK187.out)) (aI (am_ (blk_drew BK194.out)) (aI (am_ (Kept.drew HK.out)) (am_ (below_drew1 HB.out)))))))))
                     clear HO_186002 HO_195002 BK184 BK185 BK186 BK187 BK194 HK HB
                     obtain ⟨HO_186002, HO_195002, BK184, BK185, BK186, BK187, BK194, HK, HB⟩ := z_
                     have p200 : 0 ≤ (x10_3 : Int) := of_decide_eq_true as_
                     have q200 : x10_3 < (l0_1.length : Int) := of_decide_eq_true as_
                     obtain ⟨ad200, e200, hx200_0, hx200_1, hx200_2⟩ := at_T56 (Kd.C_kept_now HR0_1.out HK.out) x10_3 p200 q200
                     have hw200_2 := hx200_2
                     have hw200_1 := hx200_1
                     have hw200_0 := hx200_0
                     obtain rfl : ad198 = ad200 := (by injection e200)
                     replace p200 := eq_true p200
                     replace q200 := eq_true q200
                     have p201 : 0 ≤ (x10_3 : Int) := of_decide_eq_true as_
                     have q201 : x10_3 < (l1_2.length : Int) := of_decide_eq_true as_
                     obtain ⟨ad201, e201, hx201_0⟩ := Kd.at_int (Kd.R_reads' HO_186002.out).2.2 x10_3 p201 q201
                     cases e201
                     replace p201 := eq_true p201
                     replace q201 := eq_true q201
                     refine start_ (n := 18) (S := fun w' => w'.cell? ⟨gb184, 0, none⟩ = some (.slice A0_0 l0_0.length c0_0) ∧ w'.cell? ⟨gb184, 1, none⟩ = some (.slice (some ad198) l0_1.length c0_1) ∧ w'.cell? ⟨gb184, 2, none⟩ = some (.int .i64 a0_2) ∧ w'.cell? ⟨gb184, 3, none⟩ = some (.int .i64 a0_3) ∧ w'.cell? ⟨gb185, 0, none⟩ = some (.int .i64 a1_0) ∧ w'.cell? ⟨gb185, 1, none⟩ = some (.bool a1_1) ∧ w'.cell? ⟨gb185, 2, none⟩ = some (.slice (some ad201) l1_2.length co9) ∧ w'.cell? ⟨gb186, 0, none⟩ = some (.int .i64 a2_0) ∧ w'.cell? ⟨gb186, 1, none⟩ = some (.int .i64 a2_1) ∧ w'.cell? ⟨gb186, 2, none⟩ = some (.int .i64 a2_2) ∧ w'.cell? (ad198.add ((x10_3).toNat * 3)) = some (.string ((rd_T56 l0_1 x10_3).f0)) ∧ w'.cell? ⟨(ad198.add ((x10_3).toNat * 3)).block, (ad198.add ((x10_3).toNat * 3)).off + 1, none⟩ = some (.int .i64 ((rd_T56 l0_1 x10_3).f1)) ∧ w'.cell? ⟨(ad198.add ((x10_3).toNat * 3)).block, (ad198.add ((x10_3).toNat * 3)).off + 2, none⟩ = some (.int .i64 ((rd_T56 l0_1 x10_3).f2)) ∧ w'.cell? (ad201.add (x10_3).toNat) = some (.int .i64 (rd l1_2 x10_3))) (ds := []) #[false, false, false, false, false, false, false, false, false, false, false, false, false, false, false, false, false, false] (by kernel_rfl) rfl rfl ⟨(blk_cell BK184.out 0).trans rfl, (blk_cell BK184.out 1).trans rfl, (blk_cell BK184.out 2).trans rfl, (blk_cell BK184.out 3).trans rfl, (blk_cell BK185.out 0).trans rfl, (blk_cell BK185.out 1).trans rfl, (blk_cell BK185.out 2).trans rfl, (blk_cell BK186.out 0).trans rfl, (blk_cell BK186.out 1).trans rfl, (blk_cell BK186.out 2).trans rfl, hx200_0, hx200_1, hx200_2, hx201_0⟩ (fun hHeld => ?_); refine with_tabW culetref49_next.tab22 culetref49_next.bits22 (fun HT_ HW_ => ?_)
                     generalize wr.drew = w464 at HO_186002 HO_195002 BK184 BK185 BK186 BK187 BK194 HK HB hx200_0 hx200_1 hx200_2 hx201_0 hHeld ⊢
                     refine ltd (o := [0, 2, 6, 1, 3, 4, 5, 7, 8, 9, 11, 14, 10, 12, 13, 15, 16, 17]) (n := 0) (m := 18) (by kernel_rfl) ?_
                     iterate 18 (first | (refine tne rfl rfl (take_ofW HT_.out HW_.out (by kernel_rfl)) (Or.inl ⟨by rfl, by rintro w' ⟨s0, s1, s2, s3, s4, s5, s6, s7, s8, s9, s10, s11, s12, s13⟩; go_simp; with_reducible rfl⟩) hHeld ?_) | (refine pne rfl rfl (any_of HT_.out (by kernel_rfl)) (Or.inl ⟨by rfl, by intro w'; go_simp; with_reducible rfl⟩) ?_))
                     refine done_ (done_of HT_.out (by kernel_rfl)) ?_
                     try go_wp2
                     go_roundg k3
                     case measure => have := HJ351.out; have := HJ401.out; have := HK3.out; omega
                     case rel => exact ⟨(wrap64 (x10_3 + 1)), (x188000_3), (x188001_3), rs_, H', ⟨by have := HJ351.out; have := HJ401.out; have := HK3.out; omega⟩, ⟨by (with_reducible repeat (first | apply Kd.R_alloc | apply Kd.R_drewN | apply Kd.R_drew)); exact HO_186002.out⟩, ⟨by (with_reducible repeat (first | apply Kd.R_alloc | apply Kd.R_drewN | apply Kd.R_drew)); exact HO_195002.out⟩, ⟨by (with_reducible repeat (first | refine blk_drewN ?_ _ | refine blk_drew ?_ | refine blk_alloc ?_ _)); exact BK184.out⟩, ⟨by (with_reducible repeat (first | refine blk_drewN ?_ _ | refine blk_drew ?_ | refine blk_alloc ?_ _)); exact BK185.out⟩, ⟨by (with_reducible repeat (first | refine blk_drewN ?_ _ | refine blk_drew ?_ | refine blk_alloc ?_ _)); exact BK186.out⟩, ⟨by (with_reducible repeat (first | refine blk_drewN ?_ _ | refine blk_drew ?_ | refine blk_alloc ?_ _)); exact BK187.out⟩, ⟨by (with_reducible repeat (first | refine blk_drewN ?_ _ | refine blk_drew ?_ | refine blk_alloc ?_ _)); exact BK194.out⟩, ⟨mp_ HK.out⟩, ⟨mb_ HB.out⟩⟩
                   ·
                    rw [if_neg c444] at H
                    exact absurd H (by simp)
                  ·
                   rw [if_neg c443] at H
                   have c443b0 : (((rd_T56 l0_1 x10_3).f1) == ((rd_T56 l0_1 a2_2).f1)) = false := beq_eq_false_iff_ne.mpr c443
                   have c443b1 : (((rd_T56 l0_1 x10_3).f1) != ((rd_T56 l0_1 a2_2).f1)) = true := bne_iff_ne.mpr c443
                   have H' := am_ H
                   clear H
                   have hnb465 := NB186_184.out
                   have hnc465 := NB184_186.out
                   have hnb466 := NB186_185.out
                   have hnc466 := NB185_186.out
                   have hnb467 := NB186_187.out
                   have hnc467 := NB187_186.out
                   have hnb468 := NB186_194.out
                   have hnc468 := NB194_186.out
                   have hcz469_0 : wr.cell? ⟨gb186, 0, none⟩ = some (.int .i64 a2_0) := (blk_cell BK186.out 0).trans rfl
                   have hcz469_1 : wr.cell? ⟨gb186, 1, none⟩ = some (.int .i64 a2_1) := (blk_cell BK186.out 1).trans rfl
                   have hcz469_2 : wr.cell? ⟨gb186, 2, none⟩ = some (.int .i64 a2_2) := (blk_cell BK186.out 2).trans rfl
                   have hfz469_0 := blk_frozen BK186.out 0
                   have hfz469_1 := blk_frozen BK186.out 1
                   have hfz469_2 := blk_frozen BK186.out 2
                   try go_wp2
                   have z_ := aI (am_ (Kd.R_drew HO_186002.out)) (aI (am_ (Kd.R_drew HO_195002.out)) (aI (am_ (blk_drew BK184.out)) (aI (am_ (blk_drew BK185.out)) (aI (am_ (blk_drew BK186.out)) (aI (am_ (blk_drew BK187.out)) (aI (am_ (blk_drew BK194.out)) (aI (am_ (Kept.drew HK.out)) (am_ (below_drew1 HB.out)))))))))
                   clear HO_186002 HO_195002 BK184 BK185 BK186 BK187 BK194 HK HB
                   obtain ⟨HO_186002, HO_195002, BK184, BK185, BK186, BK187, BK194, HK, HB⟩ := z_
                   have p200 : 0 ≤ (x10_3 : Int) := of_decide_eq_true as_
                   have q200 : x10_3 < (l0_1.length : Int) := of_decide_eq_true as_
                   obtain ⟨ad200, e200, hx200_0, hx200_1, hx200_2⟩ := at_T56 (Kd.C_kept_now HR0_1.out HK.out) x10_3 p200 q200
                   have hw200_2 := hx200_2
                   have hw200_1 := hx200_1
                   have hw200_0 := hx200_0
                   obtain rfl : ad198 = ad200 := (by injection e200)
                   replace p200 := eq_true p200
                   replace q200 := eq_true q200
                   refine start_ (n := 18) (S := fun w' => w'.cell? ⟨gb184, 0, none⟩ = some (.slice A0_0 l0_0.length c0_0) ∧ w'.cell? ⟨gb184, 1, none⟩ = some (.slice (some ad198) l0_1.length c0_1) ∧ w'.cell? ⟨gb184, 2, none⟩ = some (.int .i64 a0_2) ∧ w'.cell? ⟨gb184, 3, none⟩ = some (.int .i64 a0_3) ∧ w'.cell? (ad198.add ((x10_3).toNat * 3)) = some (.string ((rd_T56 l0_1 x10_3).f0)) ∧ w'.cell? ⟨(ad198.add ((x10_3).toNat * 3)).block, (ad198.add ((x10_3).toNat * 3)).off + 1, none⟩ = some (.int .i64 ((rd_T56 l0_1 x10_3).f1)) ∧ w'.cell? ⟨(ad198.add ((x10_3).toNat * 3)).block, (ad198.add ((x10_3).toNat * 3)).off + 2, none⟩ = some (.int .i64 ((rd_T56 l0_1 x10_3).f2))) (ds := []) #[false, false, false, false, false, false, false, false, false, false, false, false, false, false, false, false, false, false] (by kernel_rfl) rfl rfl ⟨(blk_cell BK184.out 0).trans rfl, (blk_cell BK184.out 1).trans rfl, (blk_cell BK184.out 2).trans rfl, (blk_cell BK184.out 3).trans rfl, hx200_0, hx200_1, hx200_2⟩ (fun hHeld => ?_); refine with_tabW culetref49_next.tab22 culetref49_next.bits22 (fun HT_ HW_ => ?_)
                   generalize wr.drew = w470 at HO_186002 HO_195002 BK184 BK185 BK186 BK187 BK194 HK HB hx200_0 hx200_1 hx200_2 hHeld ⊢
                   refine ltd (o := [0, 2, 6, 1, 3, 4, 5, 7, 8, 9, 10, 11, 12, 13, 14, 15, 16, 17]) (n := 0) (m := 18) (by kernel_rfl) ?_
                   iterate 18 (first | (refine pne rfl rfl (any_of HT_.out (by kernel_rfl)) (Or.inr ⟨by rfl, rfl⟩) ?_) | (refine tne rfl rfl (take_ofW HT_.out HW_.out (by kernel_rfl)) (Or.inl ⟨by rfl, by rintro w' ⟨s0, s1, s2, s3, s4, s5, s6⟩; go_simp; with_reducible rfl⟩) hHeld ?_) | (refine pne rfl rfl (any_of HT_.out (by kernel_rfl)) (Or.inl ⟨by rfl, by intro w'; go_simp; with_reducible rfl⟩) ?_))
                   refine done_ (done_of HT_.out (by kernel_rfl)) ?_
                   try go_wp2
                   go_roundg k3
                   case measure => have := HJ351.out; have := HJ401.out; have := HK3.out; omega
                   case rel => exact ⟨(wrap64 (x10_3 + 1)), (x188000_3), (x188001_3), rs_, H', ⟨by have := HJ351.out; have := HJ401.out; have := HK3.out; omega⟩, ⟨by (with_reducible repeat (first | apply Kd.R_alloc | apply Kd.R_drewN | apply Kd.R_drew)); exact HO_186002.out⟩, ⟨by (with_reducible repeat (first | apply Kd.R_alloc | apply Kd.R_drewN | apply Kd.R_drew)); exact HO_195002.out⟩, ⟨by (with_reducible repeat (first | refine blk_drewN ?_ _ | refine blk_drew ?_ | refine blk_alloc ?_ _)); exact BK184.out⟩, ⟨by (with_reducible repeat (first | refine blk_drewN ?_ _ | refine blk_drew ?_ | refine blk_alloc ?_ _)); exact BK185.out⟩, ⟨by (with_reducible repeat (first | refine blk_drewN ?_ _ | refine blk_drew ?_ | refine blk_alloc ?_ _)); exact BK186.out⟩, ⟨by (with_reducible repeat (first | refine blk_drewN ?_ _ | refine blk_drew ?_ | refine blk_alloc ?_ _)); exact BK187.out⟩, ⟨by (with_reducible repeat (first | refine blk_drewN ?_ _ | refine blk_drew ?_ | refine blk_alloc ?_ _)); exact BK194.out⟩, ⟨mp_ HK.out⟩, ⟨mb_ HB.out⟩⟩
                 ·
                  rw [if_neg c442] at H
                  exact absurd H (by simp)
                ·
                 rw [if_neg c441] at H
                 exact absurd H (by simp)
               ·
                rw [if_neg c440] at H
                have c440b0 : decide (x10_3 < a2_2) = false := decide_eq_false c440
                clear c440
                by_cases c471 : 0 ≤ a2_2
                ·
                 rw [if_pos c471] at H
                 have c471b0 : decide (0 ≤ a2_2) = true := decide_eq_true c471
                 clear c471
                 by_cases c472 : a2_2 < (y191.length : Int)
                 ·
                  rw [if_pos c472] at H
                  have c472b0 : decide (a2_2 < (y191.length : Int)) = true := decide_eq_true c472
                  clear c472
                  obtain ⟨y203, hy203⟩ : ∃ y_ : List Int, y_ = (y191.set (a2_2 : Int).toNat (wrap64 ((rd y191 a2_2) + 1))) := ⟨_, rfl⟩
                  replace H : (some (a1_0, a1_1, y203, true)) = some (r1, r2, r3, r4) := by first | (rw [hy203]; with_reducible exact H) | (have H2_ := (Option.bind_some _ _).symm.trans H; rw [hy203]; with_reducible exact H2_) | (have H2_ := (Option.bind_some _ _).symm.trans H; with_reducible exact H2_) | with_reducible exact H | (rw [hy203]; exact H) | exact H
                  have Ny203 := am_ hy203
                  clear hy203
                  simp only [Option.some.injEq, Prod.mk.injEq] at H
                  obtain ⟨rfl, rfl, rfl, rfl⟩ := H
                  have hnb474 := NB186_184.out
                  have hnc474 := NB184_186.out
                  have hnb475 := NB186_185.out
                  have hnc475 := NB185_186.out
                  have hnb476 := NB186_187.out
                  have hnc476 := NB187_186.out
                  have hnb477 := NB186_194.out
                  have hnc477 := NB194_186.out
                  have hcz478_0 : wr.cell? ⟨gb186, 0, none⟩ = some (.int .i64 a2_0) := (blk_cell BK186.out 0).trans rfl
                  have hcz478_1 : wr.cell? ⟨gb186, 1, none⟩ = some (.int .i64 a2_1) := (blk_cell BK186.out 1).trans rfl
                  have hcz478_2 : wr.cell? ⟨gb186, 2, none⟩ = some (.int .i64 a2_2) := (blk_cell BK186.out 2).trans rfl
                  have hfz478_0 := blk_frozen BK186.out 0
                  have hfz478_1 := blk_frozen BK186.out 1
                  have hfz478_2 := blk_frozen BK186.out 2
                  have hnb479 := NB194_184.out
                  have hnc479 := NB184_194.out
                  have hnb480 := NB194_185.out
                  have hnc480 := NB185_194.out
                  have hnb481 := NB194_187.out
                  have hnc481 := NB187_194.out
                  have hcz482_0 : wr.cell? ⟨gb194, 0, none⟩ = some (.int .i64 a1_0) := (blk_cell BK194.out 0).trans rfl
                  have hcz482_1 : wr.cell? ⟨gb194, 1, none⟩ = some (.bool a1_1) := (blk_cell BK194.out 1).trans rfl
                  have hcz482_2 : wr.cell? ⟨gb194, 2, none⟩ = some (.slice Ao20 y191.length co20) := (blk_cell BK194.out 2).trans rfl
                  have hfz482_0 := blk_frozen BK194.out 0
                  have hfz482_1 := blk_frozen BK194.out 1
                  have hfz482_2 := blk_frozen BK194.out 2
                  have p202 : 0 ≤ (a2_2 : Int) := of_decide_eq_true as_
                  have q202 : a2_2 < (y191.length : Int) := of_decide_eq_true as_
                  obtain ⟨ad202, e202, hx202_0⟩ := Kd.at_int (Kd.R_reads' HO_195002.out).2.2 a2_2 p202 q202
                  cases e202
                  replace p202 := eq_true p202
                  replace q202 := eq_true q202
                  have p473 : 0 ≤ (a2_2 : Int) := of_decide_eq_true as_
                  have q473 : (a2_2 : Int) < ((y191.length : Int) : Int) := of_decide_eq_true as_
                  obtain ⟨go473, co473, eo473, gb473, gl473, cl473, HG473⟩ := Kd.R_form HO_195002.out (by omega)
                  (first | cases eo473 | (injection eo473 with ea_ en_ ec_; (first | subst ea_ | (injection ea_ with ea_; subst ea_)); subst ec_; clear en_))
                  have GB473 := am_ gb473
                  have GG473 := am_ HG473
                  clear gb473 gl473 HG473
                  have HMgo473 := am_ (show (P1_2_ go473 ∨ w.heap.size ≤ go473) from (HO_195002.out.1 _ rfl).1)
                  (first | simp only [add_plain] at hx202_0 | skip)
                  obtain ⟨hx473_0, hf473_0⟩ := Kd.R_celln 0 HO_195002.out (a2_2 : Int) p473 q473
                  replace p473 := eq_true p473
                  replace q473 := eq_true q473
                  have HP483 := Kd.R_putg HO_195002.out (a2_2 : Int) (wrap64 ((rd y191 a2_2) + 1))
                  go_wp2_with (first | ((with_reducible refine gate_store (t := 3) (p := 166) rfl ?_); refine store_event (t := 3) (p := 166) (v := ?vo_w484) (w1 := (wr.setCell ⟨go473, (a2_2 : Int).toNat, none⟩ (.int .i64 (wrap64 ((rd y191 a2_2) + 1))))) ?hg ?ho ?hn ?hr ?_; (case ho => rfl); (case hg => rfl); (case hn => rfl); (case hr => first | (go_simp; done) | (go_simp; rfl)); intro w484 hw; have hg : wr.grownBy w484 (some go473) := (by rw [hw]; exact HP483.2); have hp_ : Kd.R (Kd.int .i64) 3 w484 w0.heap.size (fun k_ => (P1_2_ k_ ∨ w.heap.size ≤ k_) ∧ some k_ ≠ (.slice Ao9 l1_2.length co9 : Value).ownBlock) (.slice (some ⟨go473, 0, none⟩) y191.length co20) y203 := (by rw [hw, Ny203.out]; exact HP483.1); clear HP483; have z_ := aI (am_ (Kd.R_after (v := (.slice (some ⟨go473, 0, none⟩) y191.length co20)) (v1 := (.slice (some ⟨go473, 0, none⟩) y191.length co20)) (ok := (fun k_ => (P1_2_ k_ ∨ w.heap.size ≤ k_))) (mr_ HO_186002.out) hg (.inl rfl))) (aI (am_ (hp_)) (aI (am_ (blk_grown (g := gb184) (o := .cells #[.slice A0_0 l0_0.length c0_0, .slice (some ad198) l0_1.length c0_1, .int .i64 a0_2, .int .i64 a0_3] 25 (0, 0)) (mk_ BK184.out) hg (Kd.R_ne HO_195002.out BK184.out (by decide)))) (aI (am_ (blk_grown (g := gb185) (o := .cells #[.int .i64 a1_0, .bool a1_1, .slice Ao9 l1_2.length co9] 66 (0, 0)) (mk_ BK185.out) hg (Kd.R_ne HO_195002.out BK185.out (by decide)))) (aI (am_ (blk_grown (g := gb186) (o := .cells #[.int .i64 a2_0, .int .i64 a2_1, .int .i64 a2_2] 63 (0, 0)) (mk_ BK186.out) hg (Kd.R_ne HO_195002.out BK186.out (by decide)))) (aI (am_ (blk_grown (g := gb187) (o := .cells #[.int .i64 x188000_3, .bool x188001_3, .slice none 0 0] 66 (0, 0)) (mk_ BK187.out) hg (Kd.R_ne HO_195002.out BK187.out (by decide)))) (aI (am_ (blk_grown (g := gb194) (o := .cells #[.int .i64 a1_0, .bool a1_1, .slice (some ⟨go473, 0, none⟩) y191.length co20] 66 (0, 0)) (mk_ BK194.out) hg (Kd.R_ne HO_195002.out BK194.out (by decide)))) (aI (am_ ((by rw [hw]; exact below_set (HB.out) GB473.out : Below w0.heap.size w0 w484))) (am_ (Kept.of_grown (S := (fun k_ => P1_2_ k_)) hg (mp_ HK.out) (fun k_ e_ => (HO_195002.out.1 k_ e_).1)))))))))); clear HO_186002 HO_195002 BK184 BK185 BK186 BK187 BK194 HB HK; obtain ⟨HO_186002, HO_195002, BK184, BK185, BK186, BK187, BK194, HB, HK⟩ := z_; clear hg hw hp_; have hcz485_0 : w484.cell? ⟨gb194, 0, none⟩ = some (.int .i64 a1_0) := (blk_cell BK194.out 0).trans rfl; have hcz485_1 : w484.cell? ⟨gb194, 1, none⟩ = some (.bool a1_1) := (blk_cell BK194.out 1).trans rfl; have hcz485_2 : w484.cell? ⟨gb194, 2, none⟩ = some (.slice (some ⟨go473, 0, none⟩) y191.length co20) := (blk_cell BK194.out 2).trans rfl; have hfz485_0 := blk_frozen BK194.out 0; have hfz485_1 := blk_frozen BK194.out 1; have hfz485_2 := blk_frozen BK194.out 2; have hnb486 := NB187_184.out; have hnc486 := NB184_187.out; have hnb487 := NB187_185.out; have hnc487 := NB185_187.out; have hcz488_0 : w484.cell? ⟨gb187, 0, none⟩ = some (.int .i64 x188000_3) := (blk_cell BK187.out 0).trans rfl; have hcz488_1 : w484.cell? ⟨gb187, 1, none⟩ = some (.bool x188001_3) := (blk_cell BK187.out 1).trans rfl; have hcz488_2 : w484.cell? ⟨gb187, 2, none⟩ = some (.slice none 0 0) := (blk_cell BK187.out 2).trans rfl; have hfz488_0 := blk_frozen BK187.out 0; have hfz488_1 := blk_frozen BK187.out 1; have hfz488_2 := blk_frozen BK187.out 2))
                  refine bodyPost_ret (results_ct rfl _ _ gb187 66 #[.int .i64 a1_0, .bool a1_1, .slice (some ⟨go473, 0, none⟩) y191.length co20] (0, 0) _ rfl (by (with_reducible repeat (first | refine blk_drewN ?_ _ | refine blk_drew ?_ | refine blk_alloc ?_ _)); refine blk_put (cs := #[.int .i64 a1_0, .bool a1_1, .slice none 0 0]) ?_ 2 _ rfl; (with_reducible repeat (first | refine blk_drewN ?_ _ | refine blk_drew ?_ | refine blk_alloc ?_ _)); refine blk_put (cs := #[.int .i64 a1_0, .bool x188001_3, .slice none 0 0]) ?_ 1 _ rfl; (with_reducible repeat (first | refine blk_drewN ?_ _ | refine blk_drew ?_ | refine blk_alloc ?_ _)); refine blk_put (cs := #[.int .i64 x188000_3, .bool x188001_3, .slice none 0 0]) ?_ 0 _ rfl; (with_reducible repeat (first | refine blk_drewN ?_ _ | refine blk_drew ?_ | refine blk_alloc ?_ _)); exact BK187.out) Tryd.underlying66 rfl (by kernel_rfl)) rfl ?_
                  exact ⟨_, by first | rfl | (simp [errW_none, errW_some] <;> rfl) | (simp [*, errW_none, errW_some] <;> rfl), by (with_reducible repeat (first | apply Kd.R_alloc | apply Kd.R_drewN | apply Kd.R_drew)); exact Kd.R_mono (Kd.R_far (p := ⟨gb187, 2, none⟩) (Kd.R_far (p := ⟨gb187, 1, none⟩) (Kd.R_far (p := ⟨gb187, 0, none⟩) (Kd.R_types HO_195002.out BK187.out (by decide)) (fun _ hk => hk.2) (.int .i64 a1_0)) (fun _ hk => hk.2) (.bool a1_1)) (fun _ hk => hk.2) (.slice (some ⟨go473, 0, none⟩) y191.length co20)) (fun _ hk => hk.1.1), mb_ HB.out, mp_ HK.out⟩
                 ·
                  rw [if_neg c472] at H
                  exact absurd H (by simp)
                ·
                 rw [if_neg c471] at H
                 exact absurd H (by simp)
         ·
          rw [if_neg c401] at H
          exact absurd H (by simp)
        ·
         rw [if_neg c400] at H
         exact absurd H (by simp)
    ·
     rw [if_neg c351] at H
     have c351b0 : (a2_0 == 3) = false := beq_eq_false_iff_ne.mpr c351
     have c351b1 : (a2_0 != 3) = true := bne_iff_ne.mpr c351
     simp only [Option.some.injEq, Prod.mk.injEq] at H
     obtain ⟨rfl, rfl, rfl, rfl⟩ := H
     have hnb505 := NB186_184.out
     have hnc505 := NB184_186.out
     have hnb506 := NB186_185.out
     have hnc506 := NB185_186.out
     have hnb507 := NB186_187.out
     have hnc507 := NB187_186.out
     have hnb508 := NB186_194.out
     have hnc508 := NB194_186.out
     have hcz509_0 : w19.cell? ⟨gb186, 0, none⟩ = some (.int .i64 a2_0) := (blk_cell BK186.out 0).trans rfl
     have hcz509_1 : w19.cell? ⟨gb186, 1, none⟩ = some (.int .i64 a2_1) := (blk_cell BK186.out 1).trans rfl
     have hcz509_2 : w19.cell? ⟨gb186, 2, none⟩ = some (.int .i64 a2_2) := (blk_cell BK186.out 2).trans rfl
     have hfz509_0 := blk_frozen BK186.out 0
     have hfz509_1 := blk_frozen BK186.out 1
     have hfz509_2 := blk_frozen BK186.out 2
     have hnb510 := NB185_184.out
     have hnc510 := NB184_185.out
     have hnb511 := NB185_187.out
     have hnc511 := NB187_185.out
     have hnb512 := NB185_194.out
     have hnc512 := NB194_185.out
     have hcz513_0 : w19.cell? ⟨gb185, 0, none⟩ = some (.int .i64 a1_0) := (blk_cell BK185.out 0).trans rfl
     have hcz513_1 : w19.cell? ⟨gb185, 1, none⟩ = some (.bool a1_1) := (blk_cell BK185.out 1).trans rfl
     have hcz513_2 : w19.cell? ⟨gb185, 2, none⟩ = some (.slice Ao9 l1_2.length co9) := (blk_cell BK185.out 2).trans rfl
     have hfz513_0 := blk_frozen BK185.out 0
     have hfz513_1 := blk_frozen BK185.out 1
     have hfz513_2 := blk_frozen BK185.out 2
     have hnb514 := NB187_184.out
     have hnc514 := NB184_187.out
     have hnb515 := NB187_194.out
     have hnc515 := NB194_187.out
     have hcz516_0 : w19.cell? ⟨gb187, 0, none⟩ = some (.int .i64 0) := (blk_cell BK187.out 0).trans rfl
     have hcz516_1 : w19.cell? ⟨gb187, 1, none⟩ = some (.bool false) := (blk_cell BK187.out 1).trans rfl
     have hcz516_2 : w19.cell? ⟨gb187, 2, none⟩ = some (.slice none 0 0) := (blk_cell BK187.out 2).trans rfl
     have hfz516_0 := blk_frozen BK187.out 0
     have hfz516_1 := blk_frozen BK187.out 1
     have hfz516_2 := blk_frozen BK187.out 2
     try go_wp2
     refine bodyPost_ret (results_ct rfl _ _ gb187 66 #[.int .i64 a1_0, .bool a1_1, .slice Ao9 l1_2.length co9] (0, 0) _ rfl (by (with_reducible repeat (first | refine blk_drewN ?_ _ | refine blk_drew ?_ | refine blk_alloc ?_ _)); refine blk_put (cs := #[.int .i64 a1_0, .bool a1_1, .slice none 0 0]) ?_ 2 _ rfl; (with_reducible repeat (first | refine blk_drewN ?_ _ | refine blk_drew ?_ | refine blk_alloc ?_ _)); refine blk_put (cs := #[.int .i64 a1_0, .bool false, .slice none 0 0]) ?_ 1 _ rfl; (with_reducible repeat (first | refine blk_drewN ?_ _ | refine blk_drew ?_ | refine blk_alloc ?_ _)); refine blk_put (cs := #[.int .i64 0, .bool false, .slice none 0 0]) ?_ 0 _ rfl; (with_reducible repeat (first | refine blk_drewN ?_ _ | refine blk_drew ?_ | refine blk_alloc ?_ _)); refine blk_far ?_ NB187_194.out _; (with_reducible repeat (first | refine blk_drewN ?_ _ | refine blk_drew ?_ | refine blk_alloc ?_ _)); refine blk_far ?_ NB187_194.out _; (with_reducible repeat (first | refine blk_drewN ?_ _ | refine blk_drew ?_ | refine blk_alloc ?_ _)); refine blk_far ?_ NB187_194.out _; (with_reducible repeat (first | refine blk_drewN ?_ _ | refine blk_drew ?_ | refine blk_alloc ?_ _)); exact BK187.out) Tryd.underlying66 rfl (by kernel_rfl)) rfl ?_
     exact ⟨_, by first | rfl | (simp [errW_none, errW_some] <;> rfl) | (simp [*, errW_none, errW_some] <;> rfl), by (with_reducible repeat (first | apply Kd.R_alloc | apply Kd.R_drewN | apply Kd.R_drew)); exact Kd.R_mono (Kd.R_far (p := ⟨gb187, 2, none⟩) (Kd.R_far (p := ⟨gb187, 1, none⟩) (Kd.R_far (p := ⟨gb187, 0, none⟩) (Kd.R_far (p := ⟨gb194, 2, none⟩) (Kd.R_far (p := ⟨gb194, 1, none⟩) (Kd.R_far (p := ⟨gb194, 0, none⟩) (Kd.R_types (Kd.R_types HO1_2.out BK194.out (by decide)) BK187.out (by decide)) (fun _ hk => hk.1.2) (.int .i64 a1_0)) (fun _ hk => hk.1.2) (.bool a1_1)) (fun _ hk => hk.1.2) (.slice Ao20 y191.length co20)) (fun _ hk => hk.2) (.int .i64 a1_0)) (fun _ hk => hk.2) (.bool a1_1)) (fun _ hk => hk.2) (.slice Ao9 l1_2.length co9)) (fun _ hk => hk.1.1.1), mb_ HB.out, mp_ HK.out⟩
 ·
  rw [if_neg c4] at H
  exact absurd H (by simp)

end Go.Proofs.YtalhpnfapagamaaDoor.S
