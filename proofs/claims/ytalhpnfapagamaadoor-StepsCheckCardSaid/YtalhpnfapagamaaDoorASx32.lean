-- Written by this session's own programs; what the law does not lean on is left out. Lean checks it.
import Derived.Test.YtalhpnfapagamaaDoorAS
namespace Go.Proofs.YtalhpnfapagamaaDoor.S
open Go.RowKit Go.Proofs.YtalhpnfapagamaaDoorW.PrintWords Go.Proofs.YtalhpnfapagamaaDoorW.PrintLast Go.Proofs.YtalhpnfapagamaaDoorW.PrintMore Go.Proofs.YtalhpnfapagamaaDoorD
set_option linter.unusedVariables false
set_option linter.unusedSimpArgs false

mutual
def culetref44_Itoa.l0 : Nat → Int → ByteArray → Option (ByteArray)
 | 0, _, _ => none
 | k + 1, x0, x3 => if x0 > 0 then ((some (([(wrap64 (48 + (Int.tmod x0 10))) % 256] : List Int) : List Int)).bind fun y254 => (if (strOfNums y254).size + x3.size ≤ 9223372036854775807 then (culetref44_Itoa.l0 k (wrap64 (Int.tdiv x0 10)) ((strOfNums y254) ++ x3)) else (none))) else (some x3)
def culetref44_Itoa.f : Nat → Int → Option (ByteArray)
 | 0, _ => none
 | k + 1, a0 => if a0 < 0 then (if a0 < (-9) then ((culetref44_Itoa.f k (wrap64 (Int.tdiv a0 10))).bind fun t248 => ((culetref44_Itoa.f k (wrap64 (-(Int.tmod a0 10)))).bind fun t249 => (if t248.size + t249.size ≤ 9223372036854775807 then (some (t248 ++ t249)) else (none)))) else ((culetref44_Itoa.f k (wrap64 (-a0))).bind fun t250 => (if 1 + t250.size ≤ 9223372036854775807 then (some ((⟨#[45]⟩ : ByteArray) ++ t250)) else (none)))) else (culetref44_Itoa.l0 k (wrap64 (Int.tdiv a0 10)) (strOfNums (([(wrap64 (48 + (Int.tmod a0 10))) % 256] : List Int))))
end
theorem culetref44_Itoa.mono_l : ∀ k, (∀ y0, LeO (culetref44_Itoa.f k y0) (culetref44_Itoa.f (k + 1) y0)) ∧ (∀ y0 y1, LeO (culetref44_Itoa.l0 k y0 y1) (culetref44_Itoa.l0 (k + 1) y0 y1))
 | 0 => ⟨fun _ r h => by simp [culetref44_Itoa.f] at h, fun _ _ r h => by simp [culetref44_Itoa.l0] at h⟩
 | k + 1 => by
  obtain ⟨ih0, ih1⟩ := culetref44_Itoa.mono_l k
  refine ⟨?_, ?_⟩
  ·
   intro y0
   unfold culetref44_Itoa.f
   repeat' first
   | (with_reducible exact ih0 _)
   | (with_reducible exact ih1 _ _)
   | (with_reducible exact LeO.refl _)
   | (with_reducible exact LeO.none _)
   | (with_reducible refine LeO.ite ?_ ?_)
   | (with_reducible refine LeO.bind ?_ (fun _ => ?_))
  ·
   intro y0 y1
   unfold culetref44_Itoa.l0
   repeat' first
   | (with_reducible exact ih0 _)
   | (with_reducible exact ih1 _ _)
   | (with_reducible exact LeO.refl _)
   | (with_reducible exact LeO.none _)
   | (with_reducible refine LeO.ite ?_ ?_)
   | (with_reducible refine LeO.bind ?_ (fun _ => ?_))
theorem culetref44_Itoa.mono : ∀ a0 k, LeO (culetref44_Itoa.f k a0) (culetref44_Itoa.f (k + 1) a0) := by
 intro a0 k
 obtain ⟨ih0, ih1⟩ := culetref44_Itoa.mono_l k
 exact ih0 a0
set_option maxHeartbeats 8000000 in
set_option maxRecDepth 100000 in
theorem culetref44_Itoa.calls (k : Nat) : ∀ (a0 : Int) (r : ByteArray) (w : World) (h : culetref44_Itoa.f k a0 = some r),
  Calls Tryd.prog 27 #[.int .i64 a0] w fun e w' => e = .returned (.string r) ∧ Below w.heap.size w w' := by
 induction k using Nat.strongRecOn with
 | _ k ih =>
 intro a0 r w h
 cases k with
 | zero => exact absurd h (by simp [culetref44_Itoa.f])
 | succ k =>
 simp only [culetref44_Itoa.f] at h
 have HB := am_ (Below.refl w.heap.size w)
 have H : (if a0 < 0 then (if a0 < (-9) then ((culetref44_Itoa.f k (wrap64 (Int.tdiv a0 10))).bind fun t248 => ((culetref44_Itoa.f k (wrap64 (-(Int.tmod a0 10)))).bind fun t249 => (if t248.size + t249.size ≤ 9223372036854775807 then (some (t248 ++ t249)) else (none)))) else ((culetref44_Itoa.f k (wrap64 (-a0))).bind fun t250 => (if 1 + t250.size ≤ 9223372036854775807 then (some ((⟨#[45]⟩ : ByteArray) ++ t250)) else (none)))) else (culetref44_Itoa.l0 k (wrap64 (Int.tdiv a0 10)) (strOfNums (([(wrap64 (48 + (Int.tmod a0 10))) % 256] : List Int))))) = some r := h
 clear h
 by_cases c2 : a0 < 0
 ·
  rw [if_pos c2] at H
  have c2b0 : decide (a0 < 0) = true := decide_eq_true c2
  clear c2
  by_cases c3 : a0 < (-9)
  ·
   rw [if_pos c3] at H
   have c3b0 : decide (a0 < (-9)) = true := decide_eq_true c3
   clear c3
   replace H := Option.bind_eq_some_iff.mp H
   obtain ⟨t248, A40, H⟩ := H
   replace H : ((culetref44_Itoa.f k (wrap64 (-(Int.tmod a0 10)))).bind fun t249 => (if t248.size + t249.size ≤ 9223372036854775807 then (some (t248 ++ t249)) else (none))) = some r := H
   have A4 := am_ A40
   clear A40
   replace H := Option.bind_eq_some_iff.mp H
   obtain ⟨t249, A50, H⟩ := H
   replace H : (if t248.size + t249.size ≤ 9223372036854775807 then (some (t248 ++ t249)) else (none)) = some r := H
   have A5 := am_ A50
   clear A50
   by_cases c6 : t248.size + t249.size ≤ 9223372036854775807
   ·
    rw [if_pos c6] at H
    have c6b0 := eq_true c6
    have c6b1 : decide (t248.size + t249.size ≤ 9223372036854775807) = true := decide_eq_true c6
    try have c6b2 : (9223372036854775807 < t248.size + t249.size) = False := eq_false (Nat.not_lt.2 c6)
    obtain rfl := Option.some.inj H
    go_enter Tryd.func27, Tryd.ntmps27
    go_wp2_with (first | ((with_reducible refine gate_callee (f := 27) rfl ?_); refine goesL_ (some 10) rfl rfl Tryd.func27 (by kernel_rfl) rfl #[.int .i64 (wrap64 (Int.tdiv a0 10))] rfl ml_ ?_; (with_reducible refine (ih k (by omega) (wrap64 (Int.tdiv a0 10)) t248 _ A4.out).mono ?_); rintro e w7 ⟨rfl, hb⟩; refine ⟨_, rfl, ?_⟩; have n0_ := am_ (below_step (mb_ HB.out) hb); clear HB; have HB := n0_; clear n0_; (try clear hb); (try clear hb2); (try clear hk); (try clear hi)) | ((with_reducible refine gate_callee (f := 27) rfl ?_); refine goesL_ (some 14) rfl rfl Tryd.func27 (by kernel_rfl) rfl #[.int .i64 (wrap64 (-(Int.tmod a0 10)))] rfl ml_ ?_; (with_reducible refine (ih k (by omega) (wrap64 (-(Int.tmod a0 10))) t249 _ A5.out).mono ?_); rintro e w8 ⟨rfl, hb⟩; refine ⟨_, rfl, ?_⟩; have n0_ := am_ (below_step (mb_ HB.out) hb); clear HB; have HB := n0_; clear n0_; (try clear hb); (try clear hb2); (try clear hk); (try clear hi)))
    go_ret
    exact ⟨by first | rfl | (simp [errW_none, errW_some] <;> rfl) | (simp [*, errW_none, errW_some] <;> rfl), mb_ HB.out⟩
   ·
    rw [if_neg c6] at H
    exact absurd H (by simp)
  ·
   rw [if_neg c3] at H
   have c3b0 : decide (a0 < (-9)) = false := decide_eq_false c3
   clear c3
   replace H := Option.bind_eq_some_iff.mp H
   obtain ⟨t250, A90, H⟩ := H
   replace H : (if 1 + t250.size ≤ 9223372036854775807 then (some ((⟨#[45]⟩ : ByteArray) ++ t250)) else (none)) = some r := H
   have A9 := am_ A90
   clear A90
   by_cases c10 : 1 + t250.size ≤ 9223372036854775807
   ·
    rw [if_pos c10] at H
    have c10b0 := eq_true c10
    have c10b1 : decide (1 + t250.size ≤ 9223372036854775807) = true := decide_eq_true c10
    try have c10b2 : (9223372036854775807 < 1 + t250.size) = False := eq_false (Nat.not_lt.2 c10)
    obtain rfl := Option.some.inj H
    go_enter Tryd.func27, Tryd.ntmps27
    go_wp2_with (first | ((with_reducible refine gate_callee (f := 27) rfl ?_); refine goesL_ (some 18) rfl rfl Tryd.func27 (by kernel_rfl) rfl #[.int .i64 (wrap64 (-a0))] rfl ml_ ?_; (with_reducible refine (ih k (by omega) (wrap64 (-a0)) t250 _ A9.out).mono ?_); rintro e w11 ⟨rfl, hb⟩; refine ⟨_, rfl, ?_⟩; have n0_ := am_ (below_step (mb_ HB.out) hb); clear HB; have HB := n0_; clear n0_; (try clear hb); (try clear hb2); (try clear hk); (try clear hi)))
    go_ret
    exact ⟨by first | rfl | (simp [errW_none, errW_some] <;> rfl) | (simp [*, errW_none, errW_some] <;> rfl), mb_ HB.out⟩
   ·
    rw [if_neg c10] at H
    exact absurd H (by simp)
 ·
  rw [if_neg c2] at H
  have c2b0 : decide (a0 < 0) = false := decide_eq_false c2
  clear c2
  obtain ⟨y251, hy251⟩ : ∃ y_ : List Int, y_ = (([(wrap64 (48 + (Int.tmod a0 10))) % 256] : List Int)) := ⟨_, rfl⟩
  replace H : (culetref44_Itoa.l0 k (wrap64 (Int.tdiv a0 10)) (strOfNums y251)) = some r := by first | (rw [hy251]; with_reducible exact H) | (have H2_ := (Option.bind_some _ _).symm.trans H; rw [hy251]; with_reducible exact H2_) | (have H2_ := (Option.bind_some _ _).symm.trans H; with_reducible exact H2_) | with_reducible exact H | (rw [hy251]; exact H) | exact H
  have Ny251 := am_ hy251
  clear hy251
  have H' := am_ H
  clear H
  go_enter Tryd.func27, Tryd.ntmps27
  go_wp2_with (first | ((with_reducible refine gate_dst (N := 24) rfl ?_); refine Kd.R_lit (Kd.int .u8) _ 5 ?hg (N := 24) ?hd (xs := ([(wrap64 (48 + (Int.tmod a0 10))) % 256] : List Int)) (inner := [.int .u8 ((wrap64 (48 + (Int.tmod a0 10))) % 256)]) (ok := fun _ => True) (okp := fun _ => True) ?hr ?hp (fun _ hk => hk) trivial (Below.refl _ _) (Nat.le_refl _) (by simp) ?_; (case hd => rfl); (case hg => rfl); (case hr => first | (go_simp; done) | (go_simp; rfl)); (case hp => exact (Reps.one (show Kd.M (Kd.int .u8) _ _ _ ((wrap64 (48 + (Int.tmod a0 10))) % 256) [.int .u8 ((wrap64 (48 + (Int.tmod a0 10))) % 256)] from rfl) (Reps.none _ _))); intro v252 w12 ho13 hb hg_ hnew_; clear hg_ hnew_; (first | rw [← Ny251.out] at ho13 | (simp only [Int.reduceToNat] at ho13; rw [← Ny251.out] at ho13)); have n0_ := am_ (Kd.R_lower ho13 (below_size (mb_ HB.out))); have n1_ := am_ (below_step (mb_ HB.out) hb); clear HB; have HO253 := n0_; have HB := n1_; clear n0_ n1_; clear hb ho13; have hcv14 := own_string (P := Tryd.prog) Tryd.underlying82 Tryd.underlying5 Tryd.underlying9 (Kd.own_of_R HO253.out)))
  go_loopg [0, 3] k (fun kq v0 v3 w' => ∃ (x0_1 : Int) (x3_1 : ByteArray), v0 = .int .i64 x0_1 ∧ v3 = .string x3_1 ∧ Aside0 (culetref44_Itoa.l0 kq x0_1 x3_1 = some r) ∧ Aside0 (kq ≤ k) ∧ Aside0 (Below w.heap.size w w'))
  case atStart => exact ⟨(wrap64 (Int.tdiv a0 10)), (strOfNums y251), rs_, rs_, H', ⟨Nat.le_refl _⟩, ⟨mb_ HB.out⟩⟩
  case round =>
   clear H'
   try clear c1
   try clear hcv1
   try clear c2
   try clear c2b0
   try clear p2
   try clear c3
   try clear c3b0
   try clear c6
   try clear c6b0
   try clear c6b1
   try clear c6b2
   try clear p6
   try clear c10
   try clear c10b0
   try clear c10b1
   try clear c10b2
   try clear hcv14
   obtain ⟨x0_1, x3_1, rfl, rfl, HA, HK1, HB⟩ := hrel
   cases gk with
   | zero => exact absurd HA.out (by simp [culetref44_Itoa.l0])
   | succ k1 =>
    have H := HA.out
    clear HA
    simp only [culetref44_Itoa.l0] at H
    by_cases c15 : x0_1 > 0
    ·
     rw [if_pos c15] at H
     have c15b0 : decide (0 < x0_1) = true := decide_eq_true c15
     clear c15
     obtain ⟨y254, hy254⟩ : ∃ y_ : List Int, y_ = (([(wrap64 (48 + (Int.tmod x0_1 10))) % 256] : List Int)) := ⟨_, rfl⟩
     replace H : (if (strOfNums y254).size + x3_1.size ≤ 9223372036854775807 then (culetref44_Itoa.l0 k1 (wrap64 (Int.tdiv x0_1 10)) ((strOfNums y254) ++ x3_1)) else (none)) = some r := by first | (rw [hy254]; with_reducible exact H) | (have H2_ := (Option.bind_some _ _).symm.trans H; rw [hy254]; with_reducible exact H2_) | (have H2_ := (Option.bind_some _ _).symm.trans H; with_reducible exact H2_) | with_reducible exact H | (rw [hy254]; exact H) | exact H
     have Ny254 := am_ hy254
     clear hy254
     by_cases c16 : (strOfNums y254).size + x3_1.size ≤ 9223372036854775807
     ·
      rw [if_pos c16] at H
      have c16b0 := eq_true c16
      have c16b1 : decide ((strOfNums y254).size + x3_1.size ≤ 9223372036854775807) = true := decide_eq_true c16
      try have c16b2 : (9223372036854775807 < (strOfNums y254).size + x3_1.size) = False := eq_false (Nat.not_lt.2 c16)
      have H' := am_ H
      clear H
      go_wp2_with (first | ((with_reducible refine gate_dst (N := 36) rfl ?_); refine Kd.R_lit (Kd.int .u8) _ 5 ?hg (N := 36) ?hd (xs := ([(wrap64 (48 + (Int.tmod x0_1 10))) % 256] : List Int)) (inner := [.int .u8 ((wrap64 (48 + (Int.tmod x0_1 10))) % 256)]) (ok := fun _ => True) (okp := fun _ => True) ?hr ?hp (fun _ hk => hk) trivial (Below.refl _ _) (Nat.le_refl _) (by simp) ?_; (case hd => rfl); (case hg => rfl); (case hr => first | (go_simp; done) | (go_simp; rfl)); (case hp => exact (Reps.one (show Kd.M (Kd.int .u8) _ _ _ ((wrap64 (48 + (Int.tmod x0_1 10))) % 256) [.int .u8 ((wrap64 (48 + (Int.tmod x0_1 10))) % 256)] from rfl) (Reps.none _ _))); intro v255 w17 ho18 hb hg_ hnew_; clear hg_ hnew_; (first | rw [← Ny254.out] at ho18 | (simp only [Int.reduceToNat] at ho18; rw [← Ny254.out] at ho18)); have n0_ := am_ (Kd.R_lower ho18 (below_size (mb_ HB.out))); have n1_ := am_ (below_step (mb_ HB.out) hb); clear HB; have HO256 := n0_; have HB := n1_; clear n0_ n1_; clear hb ho18; have hcv19 := own_string (P := Tryd.prog) Tryd.underlying82 Tryd.underlying5 Tryd.underlying9 (Kd.own_of_R HO256.out)))
      go_roundg k1
      case measure => have := HK1.out; omega
      case rel => exact ⟨(wrap64 (Int.tdiv x0_1 10)), ((strOfNums y254) ++ x3_1), rs_, rs_, H', ⟨by have := HK1.out; omega⟩, ⟨mb_ HB.out⟩⟩
     ·
      rw [if_neg c16] at H
      exact absurd H (by simp)
    ·
     rw [if_neg c15] at H
     have c15b0 : decide (0 < x0_1) = false := decide_eq_false c15
     clear c15
     obtain rfl := Option.some.inj H
     go_wp2
     go_ret
     exact ⟨by first | rfl | (simp [errW_none, errW_some] <;> rfl) | (simp [*, errW_none, errW_some] <;> rfl), mb_ HB.out⟩

end Go.Proofs.YtalhpnfapagamaaDoor.S
