-- Written by this session's own programs; what the law does not lean on is left out. Lean checks it.
import Derived.Test.YtejgenhmhahgeaaDoorFS
namespace Go.Proofs.YtejgenhmhahgeaaDoor.T
open Go.RowKit Go.Proofs.YtejgenhmhahgeaaDoorW.PrintWords Go.Proofs.YtejgenhmhahgeaaDoorW.PrintLast Go.Proofs.YtejgenhmhahgeaaDoorW.PrintMore
set_option linter.unusedVariables false
set_option linter.unusedSimpArgs false

mutual
def culetref44_Itoa.l0 : Nat → Int → ByteArray → Option (ByteArray)
 | 0, _, _ => none
 | k + 1, x0, x3 => if x0 > 0 then ((some (([(wrap64 (48 + (Int.tmod x0 10))) % 256] : List Int) : List Int)).bind fun y326 => (if (strOfNums y326).size + x3.size ≤ 9223372036854775807 then (culetref44_Itoa.l0 k (wrap64 (Int.tdiv x0 10)) ((strOfNums y326) ++ x3)) else (none))) else (some x3)
def culetref44_Itoa.f : Nat → Int → Option (ByteArray)
 | 0, _ => none
 | k + 1, a0 => if a0 < 0 then (if a0 < (-9) then ((culetref44_Itoa.f k (wrap64 (Int.tdiv a0 10))).bind fun t320 => ((culetref44_Itoa.f k (wrap64 (-(Int.tmod a0 10)))).bind fun t321 => (if t320.size + t321.size ≤ 9223372036854775807 then (some (t320 ++ t321)) else (none)))) else ((culetref44_Itoa.f k (wrap64 (-a0))).bind fun t322 => (if 1 + t322.size ≤ 9223372036854775807 then (some ((⟨#[45]⟩ : ByteArray) ++ t322)) else (none)))) else (culetref44_Itoa.l0 k (wrap64 (Int.tdiv a0 10)) (strOfNums (([(wrap64 (48 + (Int.tmod a0 10))) % 256] : List Int))))
end
set_option maxHeartbeats 8000000 in
set_option maxRecDepth 100000 in
theorem culetref44_Itoa.calls (k : Nat) : ∀ (a0 : Int) (r : ByteArray) (w : World) (h : culetref44_Itoa.f k a0 = some r),
  Calls Tryd.prog 42 #[.int .i64 a0] w fun e w' => e = .returned (.string r) ∧ Below w.heap.size w w' := by
 induction k using Nat.strongRecOn with
 | _ k ih =>
 intro a0 r w h
 cases k with
 | zero => exact absurd h (by simp [culetref44_Itoa.f])
 | succ k =>
 simp only [culetref44_Itoa.f] at h
 have HB := Aside0.mk (Below.refl w.heap.size w)
 have H : (if a0 < 0 then (if a0 < (-9) then ((culetref44_Itoa.f k (wrap64 (Int.tdiv a0 10))).bind fun t320 => ((culetref44_Itoa.f k (wrap64 (-(Int.tmod a0 10)))).bind fun t321 => (if t320.size + t321.size ≤ 9223372036854775807 then (some (t320 ++ t321)) else (none)))) else ((culetref44_Itoa.f k (wrap64 (-a0))).bind fun t322 => (if 1 + t322.size ≤ 9223372036854775807 then (some ((⟨#[45]⟩ : ByteArray) ++ t322)) else (none)))) else (culetref44_Itoa.l0 k (wrap64 (Int.tdiv a0 10)) (strOfNums (([(wrap64 (48 + (Int.tmod a0 10))) % 256] : List Int))))) = some r := h
 clear h
 by_cases c2 : a0 < 0
 ·
  rw [if_pos c2] at H
  have c2b0 : decide (a0 < 0) = true := decide_eq_true c2
  clear c2
  by_cases c3 : a0 < (-9)
  ·
   rw [if_pos c3] at H
   have c3b0 : decide (a0 < (-9)) = true := decide_eq_true c3
   clear c3
   replace H := Option.bind_eq_some_iff.mp H
   obtain ⟨t320, A40, H⟩ := H
   replace H : ((culetref44_Itoa.f k (wrap64 (-(Int.tmod a0 10)))).bind fun t321 => (if t320.size + t321.size ≤ 9223372036854775807 then (some (t320 ++ t321)) else (none))) = some r := H
   have A4 := Aside0.mk A40
   clear A40
   replace H := Option.bind_eq_some_iff.mp H
   obtain ⟨t321, A50, H⟩ := H
   replace H : (if t320.size + t321.size ≤ 9223372036854775807 then (some (t320 ++ t321)) else (none)) = some r := H
   have A5 := Aside0.mk A50
   clear A50
   by_cases c6 : t320.size + t321.size ≤ 9223372036854775807
   ·
    rw [if_pos c6] at H
    have c6b0 := eq_true c6
    have c6b1 : decide (t320.size + t321.size ≤ 9223372036854775807) = true := decide_eq_true c6
    try have c6b2 : (9223372036854775807 < t320.size + t321.size) = False := eq_false (Nat.not_lt.2 c6)
    obtain rfl := Option.some.inj H
    go_enter Tryd.func42, Tryd.ntmps42
    go_wp2_with (first | ((with_reducible refine gate_callee (f := 42) rfl ?_); refine goesL_ (some 10) rfl rfl Tryd.func42 (by kernel_rfl) rfl #[.int .i64 (wrap64 (Int.tdiv a0 10))] rfl (by (try simp only [List.map_toArray, List.map_cons, List.map_nil]); first | done | rfl | (simp only [List.length_drop, List.length_take]; rfl)) ?_; (with_reducible refine (ih k (by omega) (wrap64 (Int.tdiv a0 10)) t320 _ A4.out).mono ?_); rintro e w7 ⟨rfl, hb⟩; refine ⟨_, rfl, ?_⟩; have n0_ := Aside0.mk (below_step (by repeat (first | (with_reducible first | exact HB.out | apply below_alloc | apply pw_below_drewN | apply below_drew1) | exact HB.out)) hb); clear HB; have HB := n0_; clear n0_; (try clear hb); (try clear hb2); (try clear hk); (try clear hi)) | ((with_reducible refine gate_callee (f := 42) rfl ?_); refine goesL_ (some 14) rfl rfl Tryd.func42 (by kernel_rfl) rfl #[.int .i64 (wrap64 (-(Int.tmod a0 10)))] rfl (by (try simp only [List.map_toArray, List.map_cons, List.map_nil]); first | done | rfl | (simp only [List.length_drop, List.length_take]; rfl)) ?_; (with_reducible refine (ih k (by omega) (wrap64 (-(Int.tmod a0 10))) t321 _ A5.out).mono ?_); rintro e w8 ⟨rfl, hb⟩; refine ⟨_, rfl, ?_⟩; have n0_ := Aside0.mk (below_step (by repeat (first | (with_reducible first | exact HB.out | apply below_alloc | apply pw_below_drewN | apply below_drew1) | exact HB.out)) hb); clear HB; have HB := n0_; clear n0_; (try clear hb); (try clear hb2); (try clear hk); (try clear hi)))
    go_ret
    exact ⟨by first | rfl | (simp [errW_none, errW_some] <;> rfl) | (simp [*, errW_none, errW_some] <;> rfl), by repeat (first | (with_reducible first | exact HB.out | apply below_alloc | apply pw_below_drewN | apply below_drew1) | exact HB.out)⟩
   ·
    rw [if_neg c6] at H
    exact absurd H (by simp)
  ·
   rw [if_neg c3] at H
   have c3b0 : decide (a0 < (-9)) = false := decide_eq_false c3
   clear c3
   replace H := Option.bind_eq_some_iff.mp H
   obtain ⟨t322, A90, H⟩ := H
   replace H : (if 1 + t322.size ≤ 9223372036854775807 then (some ((⟨#[45]⟩ : ByteArray) ++ t322)) else (none)) = some r := H
   have A9 := Aside0.mk A90
   clear A90
   by_cases c10 : 1 + t322.size ≤ 9223372036854775807
   ·
    rw [if_pos c10] at H
    have c10b0 := eq_true c10
    have c10b1 : decide (1 + t322.size ≤ 9223372036854775807) = true := decide_eq_true c10
    try have c10b2 : (9223372036854775807 < 1 + t322.size) = False := eq_false (Nat.not_lt.2 c10)
    obtain rfl := Option.some.inj H
    go_enter Tryd.func42, Tryd.ntmps42
    go_wp2_with (first | ((with_reducible refine gate_callee (f := 42) rfl ?_); refine goesL_ (some 18) rfl rfl Tryd.func42 (by kernel_rfl) rfl #[.int .i64 (wrap64 (-a0))] rfl (by (try simp only [List.map_toArray, List.map_cons, List.map_nil]); first | done | rfl | (simp only [List.length_drop, List.length_take]; rfl)) ?_; (with_reducible refine (ih k (by omega) (wrap64 (-a0)) t322 _ A9.out).mono ?_); rintro e w11 ⟨rfl, hb⟩; refine ⟨_, rfl, ?_⟩; have n0_ := Aside0.mk (below_step (by repeat (first | (with_reducible first | exact HB.out | apply below_alloc | apply pw_below_drewN | apply below_drew1) | exact HB.out)) hb); clear HB; have HB := n0_; clear n0_; (try clear hb); (try clear hb2); (try clear hk); (try clear hi)))
    go_ret
    exact ⟨by first | rfl | (simp [errW_none, errW_some] <;> rfl) | (simp [*, errW_none, errW_some] <;> rfl), by repeat (first | (with_reducible first | exact HB.out | apply below_alloc | apply pw_below_drewN | apply below_drew1) | exact HB.out)⟩
   ·
    rw [if_neg c10] at H
    exact absurd H (by simp)
 ·
  rw [if_neg c2] at H
  have c2b0 : decide (a0 < 0) = false := decide_eq_false c2
  clear c2
  obtain ⟨y323, hy323⟩ : ∃ y_ : List Int, y_ = (([(wrap64 (48 + (Int.tmod a0 10))) % 256] : List Int)) := ⟨_, rfl⟩
  replace H : (culetref44_Itoa.l0 k (wrap64 (Int.tdiv a0 10)) (strOfNums y323)) = some r := by first | (rw [hy323]; with_reducible exact H) | (have H2_ := (Option.bind_some _ _).symm.trans H; rw [hy323]; with_reducible exact H2_) | (have H2_ := (Option.bind_some _ _).symm.trans H; with_reducible exact H2_) | with_reducible exact H | (rw [hy323]; exact H) | exact H
  have Ny323 := Aside0.mk hy323
  clear hy323
  have H' := Aside0.mk H
  clear H
  go_enter Tryd.func42, Tryd.ntmps42
  go_wp2_with (first | ((with_reducible refine gate_dst (N := 24) rfl ?_); refine Kd.R_lit (Kd.int .u8) _ 5 ?hg (N := 24) ?hd (xs := ([(wrap64 (48 + (Int.tmod a0 10))) % 256] : List Int)) (inner := [.int .u8 ((wrap64 (48 + (Int.tmod a0 10))) % 256)]) (ok := fun _ => True) (okp := fun _ => True) ?hr ?hp (fun _ hk => hk) trivial (Below.refl _ _) (Nat.le_refl _) (by simp) ?_; (case hd => rfl); (case hg => rfl); (case hr => first | (go_simp; done) | (go_simp; rfl)); (case hp => exact (Reps.one (show Kd.M (Kd.int .u8) _ _ _ ((wrap64 (48 + (Int.tmod a0 10))) % 256) [.int .u8 ((wrap64 (48 + (Int.tmod a0 10))) % 256)] from rfl) (Reps.none _ _))); intro v324 w12 ho13 hb hg_ hnew_; clear hg_ hnew_; (first | rw [← Ny323.out] at ho13 | (simp only [Int.reduceToNat] at ho13; rw [← Ny323.out] at ho13)); have n0_ := Aside0.mk (Kd.R_lower ho13 (below_size (by repeat (first | (with_reducible first | exact HB.out | apply below_alloc | apply pw_below_drewN | apply below_drew1) | exact HB.out)))); have n1_ := Aside0.mk (below_step (by repeat (first | (with_reducible first | exact HB.out | apply below_alloc | apply pw_below_drewN | apply below_drew1) | exact HB.out)) hb); clear HB; have HO325 := n0_; have HB := n1_; clear n0_ n1_; clear hb ho13; have hcv14 := own_string (P := Tryd.prog) Tryd.underlying78 Tryd.underlying5 Tryd.underlying9 (Kd.own_of_R HO325.out)))
  go_loopg [0, 3] k (fun kq v0 v3 w' => ∃ (x0_1 : Int) (x3_1 : ByteArray), v0 = .int .i64 x0_1 ∧ v3 = .string x3_1 ∧ Aside0 (culetref44_Itoa.l0 kq x0_1 x3_1 = some r) ∧ Aside0 (kq ≤ k) ∧ Aside0 (Below w.heap.size w w'))
  case atStart => exact ⟨(wrap64 (Int.tdiv a0 10)), (strOfNums y323), (by first | rfl | (simp; done) | (simp [*]; done)), (by first | rfl | (simp; done) | (simp [*]; done)), H', ⟨Nat.le_refl _⟩, ⟨by repeat (first | (with_reducible first | exact HB.out | apply below_alloc | apply pw_below_drewN | apply below_drew1) | exact HB.out)⟩⟩
  case round =>
   clear H'
   try clear c1
   try clear hcv1
   try clear c2
   try clear c2b0
   try clear p2
   try clear c3
   try clear c3b0
   try clear c4
   try clear c6
   try clear c6b0
   try clear c6b1
   try clear c6b2
   try clear p6
   try clear c10
   try clear c10b0
   try clear c10b1
   try clear c10b2
   try clear hcv14
   obtain ⟨x0_1, x3_1, rfl, rfl, HA, HK1, HB⟩ := hrel
   cases gk with
   | zero => exact absurd HA.out (by simp [culetref44_Itoa.l0])
   | succ k1 =>
    have H := HA.out
    clear HA
    simp only [culetref44_Itoa.l0] at H
    by_cases c15 : x0_1 > 0
    ·
     rw [if_pos c15] at H
     have c15b0 : decide (0 < x0_1) = true := decide_eq_true c15
     clear c15
     obtain ⟨y326, hy326⟩ : ∃ y_ : List Int, y_ = (([(wrap64 (48 + (Int.tmod x0_1 10))) % 256] : List Int)) := ⟨_, rfl⟩
     replace H : (if (strOfNums y326).size + x3_1.size ≤ 9223372036854775807 then (culetref44_Itoa.l0 k1 (wrap64 (Int.tdiv x0_1 10)) ((strOfNums y326) ++ x3_1)) else (none)) = some r := by first | (rw [hy326]; with_reducible exact H) | (have H2_ := (Option.bind_some _ _).symm.trans H; rw [hy326]; with_reducible exact H2_) | (have H2_ := (Option.bind_some _ _).symm.trans H; with_reducible exact H2_) | with_reducible exact H | (rw [hy326]; exact H) | exact H
     have Ny326 := Aside0.mk hy326
     clear hy326
     by_cases c16 : (strOfNums y326).size + x3_1.size ≤ 9223372036854775807
     ·
      rw [if_pos c16] at H
      have c16b0 := eq_true c16
      have c16b1 : decide ((strOfNums y326).size + x3_1.size ≤ 9223372036854775807) = true := decide_eq_true c16
      try have c16b2 : (9223372036854775807 < (strOfNums y326).size + x3_1.size) = False := eq_false (Nat.not_lt.2 c16)
      have H' := Aside0.mk H
      clear H
      go_wp2_with (first | ((with_reducible refine gate_dst (N := 36) rfl ?_); refine Kd.R_lit (Kd.int .u8) _ 5 ?hg (N := 36) ?hd (xs := ([(wrap64 (48 + (Int.tmod x0_1 10))) % 256] : List Int)) (inner := [.int .u8 ((wrap64 (48 + (Int.tmod x0_1 10))) % 256)]) (ok := fun _ => True) (okp := fun _ => True) ?hr ?hp (fun _ hk => hk) trivial (Below.refl _ _) (Nat.le_refl _) (by simp) ?_; (case hd => rfl); (case hg => rfl); (case hr => first | (go_simp; done) | (go_simp; rfl)); (case hp => exact (Reps.one (show Kd.M (Kd.int .u8) _ _ _ ((wrap64 (48 + (Int.tmod x0_1 10))) % 256) [.int .u8 ((wrap64 (48 + (Int.tmod x0_1 10))) % 256)] from rfl) (Reps.none _ _))); intro v327 w17 ho18 hb hg_ hnew_; clear hg_ hnew_; (first | rw [← Ny326.out] at ho18 | (simp only [Int.reduceToNat] at ho18; rw [← Ny326.out] at ho18)); have n0_ := Aside0.mk (Kd.R_lower ho18 (below_size (by repeat (first | (with_reducible first | exact HB.out | apply below_alloc | apply pw_below_drewN | apply below_drew1) | exact HB.out)))); have n1_ := Aside0.mk (below_step (by repeat (first | (with_reducible first | exact HB.out | apply below_alloc | apply pw_below_drewN | apply below_drew1) | exact HB.out)) hb); clear HB; have HO328 := n0_; have HB := n1_; clear n0_ n1_; clear hb ho18; have hcv19 := own_string (P := Tryd.prog) Tryd.underlying78 Tryd.underlying5 Tryd.underlying9 (Kd.own_of_R HO328.out)))
      go_roundg k1
      case measure => have := HK1.out; omega
      case rel => exact ⟨(wrap64 (Int.tdiv x0_1 10)), ((strOfNums y326) ++ x3_1), (by first | rfl | (simp; done) | (simp [*]; done)), (by first | rfl | (simp; done) | (simp [*]; done)), H', ⟨by have := HK1.out; omega⟩, ⟨by repeat (first | (with_reducible first | exact HB.out | apply below_alloc | apply pw_below_drewN | apply below_drew1) | exact HB.out)⟩⟩
     ·
      rw [if_neg c16] at H
      exact absurd H (by simp)
    ·
     rw [if_neg c15] at H
     have c15b0 : decide (0 < x0_1) = false := decide_eq_false c15
     clear c15
     obtain rfl := Option.some.inj H
     go_wp2
     go_ret
     exact ⟨by first | rfl | (simp [errW_none, errW_some] <;> rfl) | (simp [*, errW_none, errW_some] <;> rfl), by repeat (first | (with_reducible first | exact HB.out | apply below_alloc | apply pw_below_drewN | apply below_drew1) | exact HB.out)⟩

end Go.Proofs.YtejgenhmhahgeaaDoor.T
