-- Written by this session's own programs; what the law does not lean on is left out. Lean checks it.
import Derived.Test.YtejgenhmhahgeaaDoorXS
import Derived.Test.YtejgenhmhahgeaaDoorXTx11
import Derived.Test.YtejgenhmhahgeaaDoorXTx16
import Derived.Test.YtejgenhmhahgeaaDoorXTx28
import Derived.Test.YtejgenhmhahgeaaDoorXJ
import Derived.Test.YtejgenhmhahgeaaDoorXTx45
import Derived.Test.YtejgenhmhahgeaaDoorXTx54
import Derived.Test.YtejgenhmhahgeaaDoorXTx55
namespace Go.Proofs.YtejgenhmhahgeaaDoor.T
open Go.RowKit Go.Proofs.YtejgenhmhahgeaaDoorW.PrintWords Go.Proofs.YtejgenhmhahgeaaDoorW.PrintLast Go.Proofs.YtejgenhmhahgeaaDoorW.PrintMore
set_option linter.unusedVariables false
set_option linter.unusedSimpArgs false

mutual
def culetlaw44_TariffText.j0 : Nat → ByteArray → Bool → ByteArray → List (S42) → Option (Bool)
 | 0, _, _, _, _ => none
 | k + 1, x0, x24, x435000, x435001 => if x24 = true then ((culetlaw44_awake.f k).bind fun t437 => (some t437)) else ((tariff_Parse.f k x0).bind fun bt438 => ((culetref44_Parse.f k x0).bind fun bt444 => ((culetlaw44_theirs.f k bt438.1 bt438.2.1).bind fun bt450 => ((culetref44_Equal.f k bt450.1 bt450.2 bt444.1 bt444.2.1).bind fun t454 => (if t454 = true then (culetlaw44_TariffText.j1 k (bt438.2.2 != bt444.2.2) x435000 x435001) else (culetlaw44_TariffText.j1 k true x435000 x435001))))))
def culetlaw44_TariffText.j1 : Nat → Bool → ByteArray → List (S42) → Option (Bool)
 | 0, _, _, _ => none
 | k + 1, x45, x435000, x435001 => if x45 = true then (some false) else ((culetlaw44_Own.f k x435000 x435001).bind fun bt455 => ((tariff_Print.f k bt455.1 bt455.2).bind fun bt459 => ((tariff_Parse.f k bt459.1).bind fun bt461 => (if bt459.2 = 0 then (if (bt459.1.size : Int) > 400 then (some true) else (if bt461.2.2 = 0 then ((culetlaw44_theirs.f k bt461.1 bt461.2.1).bind fun bt467 => ((culetref44_Equal.f k bt467.1 bt467.2 x435000 x435001).bind fun t471 => (some t471))) else (some false))) else (some true)))))
end
def culetlaw44_TariffText.f (k : Nat) (a0 : ByteArray) (a1_0 : ByteArray) (l1_1 : List (S42)) : Option (Bool) := (culetlaw44_awake.f k).bind fun t435 => (if t435 = true then (if (a0.size : Int) > 450 then (culetlaw44_TariffText.j0 k a0 true a1_0 l1_1) else ((culetref44_Few.f a1_0 l1_1).bind fun t436 => (culetlaw44_TariffText.j0 k a0 (!t436) a1_0 l1_1))) else (culetlaw44_TariffText.j0 k a0 true a1_0 l1_1))
def culetlaw44_TariffText.T5 : Bool × List (List Nat × List Nat) := (true, [([], []), ([0], [0]), ([], []), ([1, 2, 1], [1, 2]), ([3], [3]), ([4, 3], [4]), ([5], [5]), ([5], [5]), ([6, 7, 5], [5, 6, 7]), ([5, 8], [5, 8])])
def culetlaw44_TariffText.B5 : List Nat := [0, 1, 0, 7, 15, 31, 63, 63, 255, 511]
theorem culetlaw44_TariffText.tab5 : rtab .any (opsOf Tryd.f3 5) = culetlaw44_TariffText.T5 := by kernel_rfl
theorem culetlaw44_TariffText.bits5 : waitsOk culetlaw44_TariffText.T5.2 culetlaw44_TariffText.B5 = true := by kernel_rfl
def culetlaw44_TariffText.T9 : Bool × List (List Nat × List Nat) := (true, [([], []), ([0], [0]), ([1], [1]), ([2], [2]), ([3, 2], [2, 3]), ([4, 2], [2, 4]), ([2, 5], [2, 5]), ([6, 2], [6]), ([7], [7]), ([8, 7], [7, 8]), ([9, 7, 7], [7, 9]), ([10], [10]), ([11, 10, 10], [10, 11]), ([10], [10]), ([12, 13, 12, 10], [10, 12, 13]), ([10, 14, 7], [7, 10, 14]), ([7, 15], [7, 15]), ([16, 14, 0, 1, 2, 3, 4, 5, 6, 7, 8, 9, 10, 11, 12, 13, 14, 15, 16], [16])])
def culetlaw44_TariffText.B9 : List Nat := [0, 1, 3, 7, 15, 31, 63, 127, 255, 511, 1023, 2047, 4095, 2047, 16383, 32767, 65535, 131071]
theorem culetlaw44_TariffText.tab9 : rtab .any (opsOf Tryd.f3 9) = culetlaw44_TariffText.T9 := by kernel_rfl
theorem culetlaw44_TariffText.bits9 : waitsOk culetlaw44_TariffText.T9.2 culetlaw44_TariffText.B9 = true := by kernel_rfl
set_option maxHeartbeats 8000000 in
set_option maxRecDepth 100000 in
theorem culetlaw44_TariffText.calls (k : Nat) (a0 : ByteArray) (a1_0 : ByteArray) (A1_1 : Option Addr) (c1_1 : Nat) (l1_1 : List (S42)) (r : Bool) (w : World) (hTW : TW w) (hr1_1 : Kd.C k42 w A1_1 l1_1.length l1_1) (hc1_1 : l1_1.length ≤ c1_1) (h : culetlaw44_TariffText.f k a0 a1_0 l1_1 = some r) :
  Calls Tryd.prog 3 #[.string a0, .agg #[.string a1_0, .slice A1_1 l1_1.length c1_1]] w fun e w' => e = .returned (.bool r) ∧ Below w.heap.size w w' := by
 have hu24 := Tryd.underlying24
 have hu29 := Tryd.underlying29
 have HR1_1 := Aside0.mk hr1_1
 have HC1_1 := Aside0.mk hc1_1
 clear hr1_1 hc1_1
 have HB := Aside0.mk (Below.refl w.heap.size w)
 have HTW := Aside0.mk hTW
 clear hTW
 have H : ((culetlaw44_awake.f k).bind fun t435 => (if t435 = true then (if (a0.size : Int) > 450 then (culetlaw44_TariffText.j0 k a0 true a1_0 l1_1) else ((culetref44_Few.f a1_0 l1_1).bind fun t436 => (culetlaw44_TariffText.j0 k a0 (!t436) a1_0 l1_1))) else (culetlaw44_TariffText.j0 k a0 true a1_0 l1_1))) = some r := h
 clear h
 have HC3 := Aside0.mk H
 clear H
 go_enter Tryd.func3, Tryd.ntmps3
 go_upto_region 1 with (first | ((with_reducible refine gate_dst (N := 3) rfl ?_); (try (refine gate_guard (by rfl) ?_; dsimp only)); refine box_event ?hg (N := 3) ?hd (cs := #[.string a1_0, .slice A1_1 l1_1.length c1_1]) (t := 24) ?hr ?_; (case hd => rfl); (case hg => rfl); (case hr => first | (go_simp; done) | (go_simp; rfl)); intro gb434 hg w4 hbox hb; have n0_ := Aside0.mk (below_step (by repeat (first | (with_reducible first | exact HB.out | apply below_alloc | apply pw_below_drewN | apply below_drew1) | exact HB.out)) hb); have n1_ := Aside0.mk (hbox); have n2_ := Aside0.mk ((by rw [hg]; exact (below_size (by repeat (first | (with_reducible first | exact HB.out | apply below_alloc | apply pw_below_drewN | apply below_drew1) | exact HB.out))) : w.heap.size ≤ gb434)); have n3_ := Aside0.mk ((by rw [hg]; exact (below_size (by repeat (first | (with_reducible first | exact HB.out | apply below_alloc | apply pw_below_drewN | apply below_drew1) | exact HB.out))) : w.heap.size ≤ gb434)); clear HB; have HB := n0_; have BK434 := n1_; have GW434 := n2_; have GE434 := n3_; clear n0_ n1_ n2_ n3_; clear hb hbox hg))
 (try simp only [Act.put, List.setIfInBounds_toArray, List.set_cons_zero, List.set_cons_succ])
 go_cut [24] (fun v24 wc => ∃ (kq : Nat) (x24_2 : Bool), v24 = .bool x24_2 ∧ Aside0 (culetlaw44_TariffText.j0 kq a0 x24_2 a1_0 l1_1 = some r) ∧ Aside0 (kq ≤ k) ∧ Aside0 (wc.heap[gb434]? = some (.cells #[.string a1_0, (.slice A1_1 l1_1.length c1_1)] 24 (0, 0))) ∧ Aside0 (Below w.heap.size w wc))
 case first =>
  have H := HC3.out
  clear HC3
  replace H := Option.bind_eq_some_iff.mp H
  obtain ⟨t435, A50, H⟩ := H
  replace H : (if t435 = true then (if (a0.size : Int) > 450 then (culetlaw44_TariffText.j0 k a0 true a1_0 l1_1) else ((culetref44_Few.f a1_0 l1_1).bind fun t436 => (culetlaw44_TariffText.j0 k a0 (!t436) a1_0 l1_1))) else (culetlaw44_TariffText.j0 k a0 true a1_0 l1_1)) = some r := H
  have A5 := Aside0.mk A50
  clear A50
  by_cases c6 : t435 = true
  ·
   subst c6
   have H1 : (if (a0.size : Int) > 450 then (culetlaw44_TariffText.j0 k a0 true a1_0 l1_1) else ((culetref44_Few.f a1_0 l1_1).bind fun t436 => (culetlaw44_TariffText.j0 k a0 (!t436) a1_0 l1_1))) = some r := by rw [if_pos rfl] at H; exact H
   clear H
   have H := H1
   clear H1
   by_cases c7 : (a0.size : Int) > 450
   ·
    rw [if_pos c7] at H
    have c7b0 : decide (450 < (a0.size : Int)) = true := decide_eq_true c7
    have c7b1 : decide (450 < a0.size) = true := decide_eq_true (by omega)
    clear c7
    (first | rw [c7b0] | (simp only [i64_w, i32_w]; rw [c7b0]) | skip)
    have H' := Aside0.mk H
    clear H
    go_wp2_with (first | ((with_reducible refine gate_callee (f := 9) rfl ?_); refine goesL_ (some 13) rfl rfl Tryd.func9 (by kernel_rfl) rfl #[] rfl (by (try simp only [List.map_toArray, List.map_cons, List.map_nil]); first | done | rfl | (simp only [List.length_drop, List.length_take]; rfl)) ?_; (with_reducible refine (culetlaw44_awake.calls k  true _ (HTW.out.at (by repeat (first | (with_reducible first | exact HB.out | apply below_alloc | apply pw_below_drewN | apply below_drew1 | refine below_set ?_ GE434.out | refine below_set ?_ GE443.out | refine below_set ?_ GE449.out | refine below_set ?_ GE466.out) | exact HB.out))) A5.out).mono ?_); rintro e w8 ⟨rfl, hb⟩; refine ⟨_, rfl, ?_⟩; have n0_ := Aside0.mk (blk_below (g := gb434) (o := .cells #[.string a1_0, .slice A1_1 l1_1.length c1_1] 24 (0, 0)) (by (with_reducible repeat (first | refine blk_drewN ?_ _ | refine blk_drew ?_ | refine blk_alloc ?_ _)); exact BK434.out) hb); have n1_ := Aside0.mk (below_step (by repeat (first | (with_reducible first | exact HB.out | apply below_alloc | apply pw_below_drewN | apply below_drew1 | refine below_set ?_ GE434.out) | exact HB.out)) hb); clear BK434; clear HB; have BK434 := n0_; have HB := n1_; clear n0_ n1_; (try clear hb); (try clear hb2); (try clear hk); (try clear hi)))
    go_meet
    case rel => exact ⟨_, (true), (by first | rfl | (simp; done) | (simp [*]; done)), H', ⟨by first | omega | exact Nat.le_refl _⟩, ⟨by (with_reducible repeat (first | refine blk_drewN ?_ _ | refine blk_drew ?_ | refine blk_alloc ?_ _)); exact BK434.out⟩, ⟨by repeat (first | (with_reducible first | exact HB.out | apply below_alloc | apply pw_below_drewN | apply below_drew1 | refine below_set ?_ GE434.out) | exact HB.out)⟩⟩
   ·
    rw [if_neg c7] at H
    have c7b0 : decide (450 < (a0.size : Int)) = false := decide_eq_false c7
    have c7b1 : decide (450 < a0.size) = false := decide_eq_false (by omega)
    clear c7
    (first | rw [c7b0] | (simp only [i64_w, i32_w]; rw [c7b0]) | skip)
    replace H := Option.bind_eq_some_iff.mp H
    obtain ⟨t436, A90, H⟩ := H
    replace H : (culetlaw44_TariffText.j0 k a0 (!t436) a1_0 l1_1) = some r := H
    have A9 := Aside0.mk A90
    clear A90
    have H' := Aside0.mk H
    clear H
    go_wp2_with (first | ((with_reducible refine gate_callee (f := 9) rfl ?_); refine goesL_ (some 13) rfl rfl Tryd.func9 (by kernel_rfl) rfl #[] rfl (by (try simp only [List.map_toArray, List.map_cons, List.map_nil]); first | done | rfl | (simp only [List.length_drop, List.length_take]; rfl)) ?_; (with_reducible refine (culetlaw44_awake.calls k  true _ (HTW.out.at (by repeat (first | (with_reducible first | exact HB.out | apply below_alloc | apply pw_below_drewN | apply below_drew1 | refine below_set ?_ GE434.out | refine below_set ?_ GE443.out | refine below_set ?_ GE449.out | refine below_set ?_ GE466.out) | exact HB.out))) A5.out).mono ?_); rintro e w10 ⟨rfl, hb⟩; refine ⟨_, rfl, ?_⟩; have n0_ := Aside0.mk (blk_below (g := gb434) (o := .cells #[.string a1_0, .slice A1_1 l1_1.length c1_1] 24 (0, 0)) (by (with_reducible repeat (first | refine blk_drewN ?_ _ | refine blk_drew ?_ | refine blk_alloc ?_ _)); exact BK434.out) hb); have n1_ := Aside0.mk (below_step (by repeat (first | (with_reducible first | exact HB.out | apply below_alloc | apply pw_below_drewN | apply below_drew1 | refine below_set ?_ GE434.out) | exact HB.out)) hb); clear BK434; clear HB; have BK434 := n0_; have HB := n1_; clear n0_ n1_; (try clear hb); (try clear hb2); (try clear hk); (try clear hi); have hcz11_0 : w10.cell? ⟨gb434, 0, none⟩ = some (.string a1_0) := (blk_cell BK434.out 0).trans rfl; have hcz11_1 : w10.cell? ⟨gb434, 1, none⟩ = some (.slice A1_1 l1_1.length c1_1) := (blk_cell BK434.out 1).trans rfl; have hfz11_0 := blk_frozen BK434.out 0; have hfz11_1 := blk_frozen BK434.out 1) | (go_at_call 10; (with_reducible refine (culetref44_Few.calls a1_0 _ _ l1_1 t436 _ ?side1 ?side2 A9.out).mono ?_); (case side1 => repeat (first | exact (Kd.C_below HR1_1.out HB.out) | (with_reducible refine Kd.C_alloc ?_ _) | (with_reducible refine Kd.C_drewN ?_ _) | (with_reducible refine Kd.C_drew ?_))); (case side2 => exact HC1_1.out); rintro e w12 ⟨rfl, hb⟩; have n0_ := Aside0.mk (blk_below (g := gb434) (o := .cells #[.string a1_0, .slice A1_1 l1_1.length c1_1] 24 (0, 0)) (by (with_reducible repeat (first | refine blk_drewN ?_ _ | refine blk_drew ?_ | refine blk_alloc ?_ _)); exact BK434.out) hb); have n1_ := Aside0.mk (below_step (by repeat (first | (with_reducible first | exact HB.out | apply below_alloc | apply pw_below_drewN | apply below_drew1 | refine below_set ?_ GE434.out) | exact HB.out)) hb); clear BK434; clear HB; have BK434 := n0_; have HB := n1_; clear n0_ n1_; (try clear hb); (try clear hb2); (try clear hk); (try clear hi)))
    go_meet
    case rel => exact ⟨_, (!t436), (by first | rfl | (simp; done) | (simp [*]; done)), H', ⟨by first | omega | exact Nat.le_refl _⟩, ⟨by (with_reducible repeat (first | refine blk_drewN ?_ _ | refine blk_drew ?_ | refine blk_alloc ?_ _)); exact BK434.out⟩, ⟨by repeat (first | (with_reducible first | exact HB.out | apply below_alloc | apply pw_below_drewN | apply below_drew1 | refine below_set ?_ GE434.out) | exact HB.out)⟩⟩
  ·
   replace c6 := Bool.eq_false_iff.mpr c6
   subst c6
   have H1 : (culetlaw44_TariffText.j0 k a0 true a1_0 l1_1) = some r := by rw [if_neg (show ¬ (false = true) by decide)] at H; exact H
   clear H
   have H := H1
   clear H1
   have H' := Aside0.mk H
   clear H
   go_wp2_with (first | ((with_reducible refine gate_callee (f := 9) rfl ?_); refine goesL_ (some 13) rfl rfl Tryd.func9 (by kernel_rfl) rfl #[] rfl (by (try simp only [List.map_toArray, List.map_cons, List.map_nil]); first | done | rfl | (simp only [List.length_drop, List.length_take]; rfl)) ?_; (with_reducible refine (culetlaw44_awake.calls k  false _ (HTW.out.at (by repeat (first | (with_reducible first | exact HB.out | apply below_alloc | apply pw_below_drewN | apply below_drew1 | refine below_set ?_ GE434.out | refine below_set ?_ GE443.out | refine below_set ?_ GE449.out | refine below_set ?_ GE466.out) | exact HB.out))) A5.out).mono ?_); rintro e w13 ⟨rfl, hb⟩; refine ⟨_, rfl, ?_⟩; have n0_ := Aside0.mk (blk_below (g := gb434) (o := .cells #[.string a1_0, .slice A1_1 l1_1.length c1_1] 24 (0, 0)) (by (with_reducible repeat (first | refine blk_drewN ?_ _ | refine blk_drew ?_ | refine blk_alloc ?_ _)); exact BK434.out) hb); have n1_ := Aside0.mk (below_step (by repeat (first | (with_reducible first | exact HB.out | apply below_alloc | apply pw_below_drewN | apply below_drew1 | refine below_set ?_ GE434.out) | exact HB.out)) hb); clear BK434; clear HB; have BK434 := n0_; have HB := n1_; clear n0_ n1_; (try clear hb); (try clear hb2); (try clear hk); (try clear hi)))
   go_meet
   case rel => exact ⟨_, (true), (by first | rfl | (simp; done) | (simp [*]; done)), H', ⟨by first | omega | exact Nat.le_refl _⟩, ⟨by (with_reducible repeat (first | refine blk_drewN ?_ _ | refine blk_drew ?_ | refine blk_alloc ?_ _)); exact BK434.out⟩, ⟨by repeat (first | (with_reducible first | exact HB.out | apply below_alloc | apply pw_below_drewN | apply below_drew1 | refine below_set ?_ GE434.out) | exact HB.out)⟩⟩
 case rest =>
  clear HC3
  try clear c1
  try clear p2
  try clear c3
  try clear c6
  try clear c7
  try clear c7b0
  try clear c7b1
  try clear c9
  try clear hcz11_0
  try clear hcz11_1
  try clear hfz11_0
  try clear hfz11_1
  obtain ⟨kq, x24_2, rfl, HA, HJ2, BK434, HB⟩ := hcut
  cases kq with
  | zero => exact absurd HA.out (by simp [culetlaw44_TariffText.j0])
  | succ kj2 =>
   have H := HA.out
   clear HA
   simp only [culetlaw44_TariffText.j0] at H
   by_cases c14 : x24_2 = true
   ·
    subst c14
    have H1 : ((culetlaw44_awake.f kj2).bind fun t437 => (some t437)) = some r := by rw [if_pos rfl] at H; exact H
    clear H
    have H := H1
    clear H1
    replace H := Option.bind_eq_some_iff.mp H
    obtain ⟨t437, A150, H⟩ := H
    replace H : (some t437) = some r := H
    have A15 := Aside0.mk A150
    clear A150
    obtain rfl := Option.some.inj H
    go_wp2_with (first | ((with_reducible refine gate_callee (f := 9) rfl ?_); refine goesL_ (some 25) rfl rfl Tryd.func9 (by kernel_rfl) rfl #[] rfl (by (try simp only [List.map_toArray, List.map_cons, List.map_nil]); first | done | rfl | (simp only [List.length_drop, List.length_take]; rfl)) ?_; (with_reducible refine (culetlaw44_awake.calls kj2  t437 _ (HTW.out.at (by repeat (first | (with_reducible first | exact HB.out | apply below_alloc | apply pw_below_drewN | apply below_drew1 | refine below_set ?_ GE434.out | refine below_set ?_ GE443.out | refine below_set ?_ GE449.out | refine below_set ?_ GE466.out) | exact HB.out))) A15.out).mono ?_); rintro e w16 ⟨rfl, hb⟩; refine ⟨_, rfl, ?_⟩; have n0_ := Aside0.mk (blk_below (g := gb434) (o := .cells #[.string a1_0, .slice A1_1 l1_1.length c1_1] 24 (0, 0)) (by (with_reducible repeat (first | refine blk_drewN ?_ _ | refine blk_drew ?_ | refine blk_alloc ?_ _)); exact BK434.out) hb); have n1_ := Aside0.mk (below_step (by repeat (first | (with_reducible first | exact HB.out | apply below_alloc | apply pw_below_drewN | apply below_drew1 | refine below_set ?_ GE434.out) | exact HB.out)) hb); clear BK434; clear HB; have BK434 := n0_; have HB := n1_; clear n0_ n1_; (try clear hb); (try clear hb2); (try clear hk); (try clear hi)))
    go_ret
    exact ⟨by first | rfl | (simp [errW_none, errW_some] <;> rfl) | (simp [*, errW_none, errW_some] <;> rfl), by repeat (first | (with_reducible first | exact HB.out | apply below_alloc | apply pw_below_drewN | apply below_drew1 | refine below_set ?_ GE434.out) | exact HB.out)⟩
   ·
    replace c14 := Bool.eq_false_iff.mpr c14
    subst c14
    have H1 : ((tariff_Parse.f kj2 a0).bind fun bt438 => ((culetref44_Parse.f kj2 a0).bind fun bt444 => ((culetlaw44_theirs.f kj2 bt438.1 bt438.2.1).bind fun bt450 => ((culetref44_Equal.f kj2 bt450.1 bt450.2 bt444.1 bt444.2.1).bind fun t454 => (if t454 = true then (culetlaw44_TariffText.j1 kj2 (bt438.2.2 != bt444.2.2) a1_0 l1_1) else (culetlaw44_TariffText.j1 kj2 true a1_0 l1_1)))))) = some r := by rw [if_neg (show ¬ (false = true) by decide)] at H; exact H
    clear H
    have H := H1
    clear H1
    replace H := Option.bind_eq_some_iff.mp H
    obtain ⟨⟨t438, t439, t442⟩, A170, H⟩ := H
    replace H : ((culetref44_Parse.f kj2 a0).bind fun bt444 => ((culetlaw44_theirs.f kj2 t438 t439).bind fun bt450 => ((culetref44_Equal.f kj2 bt450.1 bt450.2 bt444.1 bt444.2.1).bind fun t454 => (if t454 = true then (culetlaw44_TariffText.j1 kj2 (t442 != bt444.2.2) a1_0 l1_1) else (culetlaw44_TariffText.j1 kj2 true a1_0 l1_1))))) = some r := H
    have A17 := Aside0.mk A170
    clear A170
    replace H := Option.bind_eq_some_iff.mp H
    obtain ⟨⟨t444, t445, t448⟩, A180, H⟩ := H
    replace H : ((culetlaw44_theirs.f kj2 t438 t439).bind fun bt450 => ((culetref44_Equal.f kj2 bt450.1 bt450.2 t444 t445).bind fun t454 => (if t454 = true then (culetlaw44_TariffText.j1 kj2 (t442 != t448) a1_0 l1_1) else (culetlaw44_TariffText.j1 kj2 true a1_0 l1_1)))) = some r := H
    have A18 := Aside0.mk A180
    clear A180
    have HC19 := Aside0.mk H
    clear H
    go_upto_region 5 with (first | ((with_reducible refine gate_callee (f := 11) rfl ?_); refine goesL_ (some 28) rfl rfl Tryd.func11 (by kernel_rfl) rfl #[.string a0] rfl (by (try simp only [List.map_toArray, List.map_cons, List.map_nil]); first | done | rfl | (simp only [List.length_drop, List.length_take]; rfl)) ?_; (with_reducible refine (tariff_Parse.calls kj2 a0 t438 t439 t442 _ (HTW.out.at (by repeat (first | (with_reducible first | exact HB.out | apply below_alloc | apply pw_below_drewN | apply below_drew1 | refine below_set ?_ GE434.out | refine below_set ?_ GE443.out | refine below_set ?_ GE449.out | refine below_set ?_ GE466.out) | exact HB.out))) A17.out).mono ?_); rintro e w20 ⟨v440, rfl, ho0, hb⟩; refine ⟨_, rfl, ?_⟩; have n0_ := Aside0.mk (Kd.R_lower ho0 (below_size (by repeat (first | (with_reducible first | exact HB.out | apply below_alloc | apply pw_below_drewN | apply below_drew1 | refine below_set ?_ GE434.out) | exact HB.out)))); have n1_ := Aside0.mk (blk_below (g := gb434) (o := .cells #[.string a1_0, .slice A1_1 l1_1.length c1_1] 24 (0, 0)) (by (with_reducible repeat (first | refine blk_drewN ?_ _ | refine blk_drew ?_ | refine blk_alloc ?_ _)); exact BK434.out) hb); have n2_ := Aside0.mk (below_step (by repeat (first | (with_reducible first | exact HB.out | apply below_alloc | apply pw_below_drewN | apply below_drew1 | refine below_set ?_ GE434.out) | exact HB.out)) hb); clear BK434; clear HB; have HO441 := n0_; have BK434 := n1_; have HB := n2_; clear n0_ n1_ n2_; (try clear hb); (try clear hb2); (try clear hk); (try clear hi); (try clear ho0)) | ((with_reducible refine gate_dst (N := 5) rfl ?_); (try (refine gate_guard (by rfl) ?_; dsimp only)); refine box_event ?hg (N := 5) ?hd (cs := #[.string (⟨#[]⟩ : ByteArray), .slice none 0 0]) (t := 29) ?hr ?_; (case hd => rfl); (case hg => rfl); (case hr => first | (go_simp; done) | (go_simp; rfl)); intro gb443 hg w21 hbox hb; have n0_ := Aside0.mk (Kd.R_below (by (with_reducible repeat (first | apply Kd.R_alloc | apply Kd.R_drewN | apply Kd.R_drew)); exact HO441.out) hb); have n1_ := Aside0.mk (blk_below (g := gb434) (o := .cells #[.string a1_0, .slice A1_1 l1_1.length c1_1] 24 (0, 0)) (by (with_reducible repeat (first | refine blk_drewN ?_ _ | refine blk_drew ?_ | refine blk_alloc ?_ _)); exact BK434.out) hb); have n2_ := Aside0.mk (below_step (by repeat (first | (with_reducible first | exact HB.out | apply below_alloc | apply pw_below_drewN | apply below_drew1 | refine below_set ?_ GE434.out) | exact HB.out)) hb); have n3_ := Aside0.mk (hbox); have n4_ := Aside0.mk ((by rw [hg]; exact (below_size (by repeat (first | (with_reducible first | exact HB.out | apply below_alloc | apply pw_below_drewN | apply below_drew1 | refine below_set ?_ GE434.out) | exact HB.out))) : w.heap.size ≤ gb443)); have n5_ := Aside0.mk ((by rw [hg]; exact (below_size (by repeat (first | (with_reducible first | exact HB.out | apply below_alloc | apply pw_below_drewN | apply below_drew1 | refine below_set ?_ GE434.out) | exact HB.out))) : w.heap.size ≤ gb443)); have n6_ := Aside0.mk ((by rw [hg]; exact Nat.ne_of_lt (blk_lt (g := gb434) (o := .cells #[.string a1_0, .slice A1_1 l1_1.length c1_1] 24 (0, 0)) (by (with_reducible repeat (first | refine blk_drewN ?_ _ | refine blk_drew ?_ | refine blk_alloc ?_ _)); exact BK434.out)) : gb434 ≠ gb443)); have n7_ := Aside0.mk ((by rw [hg]; exact Nat.ne_of_gt (blk_lt (g := gb434) (o := .cells #[.string a1_0, .slice A1_1 l1_1.length c1_1] 24 (0, 0)) (by (with_reducible repeat (first | refine blk_drewN ?_ _ | refine blk_drew ?_ | refine blk_alloc ?_ _)); exact BK434.out)) : gb443 ≠ gb434)); clear HO441; clear BK434; clear HB; have HO441 := n0_; have BK434 := n1_; have HB := n2_; have BK443 := n3_; have GW443 := n4_; have GE443 := n5_; have NB434_443 := n6_; have NB443_434 := n7_; clear n0_ n1_ n2_ n3_ n4_ n5_ n6_ n7_; clear hb hbox hg; have hnb22 := NB443_434.out; have hnc22 := NB434_443.out; have hcz23_0 : w21.cell? ⟨gb443, 0, none⟩ = some (.string (⟨#[]⟩ : ByteArray)) := (blk_cell BK443.out 0).trans rfl; have hcz23_1 : w21.cell? ⟨gb443, 1, none⟩ = some (.slice none 0 0) := (blk_cell BK443.out 1).trans rfl; have hfz23_0 := blk_frozen BK443.out 0; have hfz23_1 := blk_frozen BK443.out 1; obtain ⟨Ao24, co24, eo24⟩ := Kd.R_slice HO441.out; subst eo24) | ((with_reducible refine gate_callee (f := 12) rfl ?_); refine goesL_ (some 33) rfl rfl Tryd.func12 (by kernel_rfl) rfl #[.string a0] rfl (by (try simp only [List.map_toArray, List.map_cons, List.map_nil]); first | done | rfl | (simp only [List.length_drop, List.length_take]; rfl)) ?_; (with_reducible refine (culetref44_Parse.calls kj2 a0 t444 t445 t448 _ A18.out).mono ?_); rintro e w25 ⟨v446, rfl, ho0, hb⟩; refine ⟨_, rfl, ?_⟩; have n0_ := Aside0.mk (Kd.R_below (by (with_reducible repeat (first | apply Kd.R_alloc | apply Kd.R_drewN | apply Kd.R_drew)); exact (Kd.R_mono (Kd.R_far (p := ⟨gb443, 1, none⟩) (Kd.R_far (p := ⟨gb443, 0, none⟩) (Kd.R_types HO441.out BK443.out (by decide)) (fun _ hk => hk.2) (.string t438)) (fun _ hk => hk.2) (.slice Ao24 t439.length co24)) (fun _ h_ => h_.1))) hb); have n1_ := Aside0.mk (Kd.R_lower ho0 (below_size (by repeat (first | (with_reducible first | exact HB.out | apply below_alloc | apply pw_below_drewN | apply below_drew1 | refine below_set ?_ GE434.out | refine below_set ?_ GE443.out) | exact HB.out)))); have n2_ := Aside0.mk (blk_below (g := gb434) (o := .cells #[.string a1_0, .slice A1_1 l1_1.length c1_1] 24 (0, 0)) (by (with_reducible repeat (first | refine blk_drewN ?_ _ | refine blk_drew ?_ | refine blk_alloc ?_ _)); refine blk_far ?_ NB434_443.out _; (with_reducible repeat (first | refine blk_drewN ?_ _ | refine blk_drew ?_ | refine blk_alloc ?_ _)); refine blk_far ?_ NB434_443.out _; (with_reducible repeat (first | refine blk_drewN ?_ _ | refine blk_drew ?_ | refine blk_alloc ?_ _)); exact BK434.out) hb); have n3_ := Aside0.mk (blk_below (g := gb443) (o := .cells #[.string t438, .slice Ao24 t439.length co24] 29 (0, 0)) (by (with_reducible repeat (first | refine blk_drewN ?_ _ | refine blk_drew ?_ | refine blk_alloc ?_ _)); refine blk_put (cs := #[.string t438, .slice none 0 0]) ?_ 1 _ rfl; (with_reducible repeat (first | refine blk_drewN ?_ _ | refine blk_drew ?_ | refine blk_alloc ?_ _)); refine blk_put (cs := #[.string (⟨#[]⟩ : ByteArray), .slice none 0 0]) ?_ 0 _ rfl; (with_reducible repeat (first | refine blk_drewN ?_ _ | refine blk_drew ?_ | refine blk_alloc ?_ _)); exact BK443.out) hb); have n4_ := Aside0.mk (below_step (by repeat (first | (with_reducible first | exact HB.out | apply below_alloc | apply pw_below_drewN | apply below_drew1 | refine below_set ?_ GE434.out | refine below_set ?_ GE443.out) | exact HB.out)) hb); clear HO441; clear BK434; clear BK443; clear HB; have HO441 := n0_; have HO447 := n1_; have BK434 := n2_; have BK443 := n3_; have HB := n4_; clear n0_ n1_ n2_ n3_ n4_; (try clear hb); (try clear hb2); (try clear hk); (try clear hi); (try clear ho0)) | ((with_reducible refine gate_dst (N := 7) rfl ?_); (try (refine gate_guard (by rfl) ?_; dsimp only)); refine box_event ?hg (N := 7) ?hd (cs := #[.string (⟨#[]⟩ : ByteArray), .slice none 0 0]) (t := 24) ?hr ?_; (case hd => rfl); (case hg => rfl); (case hr => first | (go_simp; done) | (go_simp; rfl)); intro gb449 hg w26 hbox hb; have n0_ := Aside0.mk (Kd.R_below (by (with_reducible repeat (first | apply Kd.R_alloc | apply Kd.R_drewN | apply Kd.R_drew)); exact HO441.out) hb); have n1_ := Aside0.mk (Kd.R_below (by (with_reducible repeat (first | apply Kd.R_alloc | apply Kd.R_drewN | apply Kd.R_drew)); exact HO447.out) hb); have n2_ := Aside0.mk (blk_below (g := gb434) (o := .cells #[.string a1_0, .slice A1_1 l1_1.length c1_1] 24 (0, 0)) (by (with_reducible repeat (first | refine blk_drewN ?_ _ | refine blk_drew ?_ | refine blk_alloc ?_ _)); exact BK434.out) hb); have n3_ := Aside0.mk (blk_below (g := gb443) (o := .cells #[.string t438, .slice Ao24 t439.length co24] 29 (0, 0)) (by (with_reducible repeat (first | refine blk_drewN ?_ _ | refine blk_drew ?_ | refine blk_alloc ?_ _)); exact BK443.out) hb); have n4_ := Aside0.mk (below_step (by repeat (first | (with_reducible first | exact HB.out | apply below_alloc | apply pw_below_drewN | apply below_drew1 | refine below_set ?_ GE434.out | refine below_set ?_ GE443.out) | exact HB.out)) hb); have n5_ := Aside0.mk (hbox); have n6_ := Aside0.mk ((by rw [hg]; exact (below_size (by repeat (first | (with_reducible first | exact HB.out | apply below_alloc | apply pw_below_drewN | apply below_drew1 | refine below_set ?_ GE434.out | refine below_set ?_ GE443.out) | exact HB.out))) : w.heap.size ≤ gb449)); have n7_ := Aside0.mk ((by rw [hg]; exact (below_size (by repeat (first | (with_reducible first | exact HB.out | apply below_alloc | apply pw_below_drewN | apply below_drew1 | refine below_set ?_ GE434.out | refine below_set ?_ GE443.out) | exact HB.out))) : w.heap.size ≤ gb449)); have n8_ := Aside0.mk ((by rw [hg]; exact Nat.ne_of_lt (blk_lt (g := gb434) (o := .cells #[.string a1_0, .slice A1_1 l1_1.length c1_1] 24 (0, 0)) (by (with_reducible repeat (first | refine blk_drewN ?_ _ | refine blk_drew ?_ | refine blk_alloc ?_ _)); exact BK434.out)) : gb434 ≠ gb449)); have n9_ := Aside0.mk ((by rw [hg]; exact Nat.ne_of_gt (blk_lt (g := gb434) (o := .cells #[.string a1_0, .slice A1_1 l1_1.length c1_1] 24 (0, 0)) (by (with_reducible repeat (first | refine blk_drewN ?_ _ | refine blk_drew ?_ | refine blk_alloc ?_ _)); exact BK434.out)) : gb449 ≠ gb434)); have n10_ := Aside0.mk ((by rw [hg]; exact Nat.ne_of_lt (blk_lt (g := gb443) (o := .cells #[.string t438, .slice Ao24 t439.length co24] 29 (0, 0)) (by (with_reducible repeat (first | refine blk_drewN ?_ _ | refine blk_drew ?_ | refine blk_alloc ?_ _)); exact BK443.out)) : gb443 ≠ gb449)); have n11_ := Aside0.mk ((by rw [hg]; exact Nat.ne_of_gt (blk_lt (g := gb443) (o := .cells #[.string t438, .slice Ao24 t439.length co24] 29 (0, 0)) (by (with_reducible repeat (first | refine blk_drewN ?_ _ | refine blk_drew ?_ | refine blk_alloc ?_ _)); exact BK443.out)) : gb449 ≠ gb443)); clear HO441; clear HO447; clear BK434; clear BK443; clear HB; have HO441 := n0_; have HO447 := n1_; have BK434 := n2_; have BK443 := n3_; have HB := n4_; have BK449 := n5_; have GW449 := n6_; have GE449 := n7_; have NB434_449 := n8_; have NB449_434 := n9_; have NB443_449 := n10_; have NB449_443 := n11_; clear n0_ n1_ n2_ n3_ n4_ n5_ n6_ n7_ n8_ n9_ n10_ n11_; clear hb hbox hg; have hnb27 := NB449_434.out; have hnc27 := NB434_449.out; have hnb28 := NB449_443.out; have hnc28 := NB443_449.out; have hcz29_0 : w26.cell? ⟨gb449, 0, none⟩ = some (.string (⟨#[]⟩ : ByteArray)) := (blk_cell BK449.out 0).trans rfl; have hcz29_1 : w26.cell? ⟨gb449, 1, none⟩ = some (.slice none 0 0) := (blk_cell BK449.out 1).trans rfl; have hfz29_0 := blk_frozen BK449.out 0; have hfz29_1 := blk_frozen BK449.out 1; obtain ⟨Ao30, co30, eo30⟩ := Kd.R_slice HO447.out; subst eo30))
    (try simp only [Act.put, List.setIfInBounds_toArray, List.set_cons_zero, List.set_cons_succ])
    go_cut [45] (fun v45 wc => ∃ (kq : Nat) (x45_18 : Bool), v45 = .bool x45_18 ∧ Aside0 (culetlaw44_TariffText.j1 kq x45_18 a1_0 l1_1 = some r) ∧ Aside0 (kq ≤ kj2) ∧ Aside0 (Kd.R k63 63 wc w.heap.size (fun _ => True) (.slice Ao24 t439.length co24) t439) ∧ Aside0 (Kd.R k42 42 wc w.heap.size (fun _ => True) (.slice Ao30 t445.length co30) t445) ∧ Aside0 (wc.heap[gb434]? = some (.cells #[.string a1_0, (.slice A1_1 l1_1.length c1_1)] 24 (0, 0))) ∧ Aside0 (wc.heap[gb443]? = some (.cells #[.string t438, (.slice Ao24 t439.length co24)] 29 (0, 0))) ∧ Aside0 (wc.heap[gb449]? = some (.cells #[.string t444, (.slice Ao30 t445.length co30)] 24 (0, 0))) ∧ Aside0 (Below w.heap.size w wc))
    case first =>
     have H := HC19.out
     clear HC19
     replace H := Option.bind_eq_some_iff.mp H
     obtain ⟨⟨t450, t451⟩, A310, H⟩ := H
     replace H : ((culetref44_Equal.f kj2 t450 t451 t444 t445).bind fun t454 => (if t454 = true then (culetlaw44_TariffText.j1 kj2 (t442 != t448) a1_0 l1_1) else (culetlaw44_TariffText.j1 kj2 true a1_0 l1_1))) = some r := H
     have A31 := Aside0.mk A310
     clear A310
     replace H := Option.bind_eq_some_iff.mp H
     obtain ⟨t454, A320, H⟩ := H
     replace H : (if t454 = true then (culetlaw44_TariffText.j1 kj2 (t442 != t448) a1_0 l1_1) else (culetlaw44_TariffText.j1 kj2 true a1_0 l1_1)) = some r := H
     have A32 := Aside0.mk A320
     clear A320
     by_cases c33 : t454 = true
     ·
      subst c33
      have H1 : (culetlaw44_TariffText.j1 kj2 (t442 != t448) a1_0 l1_1) = some r := by rw [if_pos rfl] at H; exact H
      clear H
      have H := H1
      clear H1
      have H' := Aside0.mk H
      clear H
      try go_wp2
      have n0_ : Aside0 (Kd.R k63 63 ((w26.setCell ⟨gb449, 0, none⟩ (.string t444)).setCell ⟨gb449, 1, none⟩ (.slice Ao30 t445.length co30)) w.heap.size (fun _ => True) (.slice Ao24 t439.length co24) t439) := ⟨by (with_reducible repeat (first | apply Kd.R_alloc | apply Kd.R_drewN | apply Kd.R_drew)); exact Kd.R_mono (Kd.R_far (p := ⟨gb449, 1, none⟩) (Kd.R_far (p := ⟨gb449, 0, none⟩) (Kd.R_types HO441.out BK449.out (by decide)) (fun _ hk => hk.2) (.string t444)) (fun _ hk => hk.2) (.slice Ao30 t445.length co30)) (fun _ hk => trivial)⟩
      have n1_ : Aside0 (Kd.R k42 42 ((w26.setCell ⟨gb449, 0, none⟩ (.string t444)).setCell ⟨gb449, 1, none⟩ (.slice Ao30 t445.length co30)) w.heap.size (fun _ => True) (.slice Ao30 t445.length co30) t445) := ⟨by (with_reducible repeat (first | apply Kd.R_alloc | apply Kd.R_drewN | apply Kd.R_drew)); exact Kd.R_mono (Kd.R_far (p := ⟨gb449, 1, none⟩) (Kd.R_far (p := ⟨gb449, 0, none⟩) (Kd.R_types HO447.out BK449.out (by decide)) (fun _ hk => hk.2) (.string t444)) (fun _ hk => hk.2) (.slice Ao30 t445.length co30)) (fun _ hk => trivial)⟩
      have n2_ : Aside0 (((w26.setCell ⟨gb449, 0, none⟩ (.string t444)).setCell ⟨gb449, 1, none⟩ (.slice Ao30 t445.length co30)).heap[gb434]? = some (.cells #[.string a1_0, .slice A1_1 l1_1.length c1_1] 24 (0, 0))) := ⟨by (with_reducible repeat (first | refine blk_drewN ?_ _ | refine blk_drew ?_ | refine blk_alloc ?_ _)); refine blk_far ?_ NB434_449.out _; (with_reducible repeat (first | refine blk_drewN ?_ _ | refine blk_drew ?_ | refine blk_alloc ?_ _)); refine blk_far ?_ NB434_449.out _; (with_reducible repeat (first | refine blk_drewN ?_ _ | refine blk_drew ?_ | refine blk_alloc ?_ _)); exact BK434.out⟩
      have n3_ : Aside0 (((w26.setCell ⟨gb449, 0, none⟩ (.string t444)).setCell ⟨gb449, 1, none⟩ (.slice Ao30 t445.length co30)).heap[gb443]? = some (.cells #[.string t438, .slice Ao24 t439.length co24] 29 (0, 0))) := ⟨by (with_reducible repeat (first | refine blk_drewN ?_ _ | refine blk_drew ?_ | refine blk_alloc ?_ _)); refine blk_far ?_ NB443_449.out _; (with_reducible repeat (first | refine blk_drewN ?_ _ | refine blk_drew ?_ | refine blk_alloc ?_ _)); refine blk_far ?_ NB443_449.out _; (with_reducible repeat (first | refine blk_drewN ?_ _ | refine blk_drew ?_ | refine blk_alloc ?_ _)); exact BK443.out⟩
      have n4_ : Aside0 (((w26.setCell ⟨gb449, 0, none⟩ (.string t444)).setCell ⟨gb449, 1, none⟩ (.slice Ao30 t445.length co30)).heap[gb449]? = some (.cells #[.string t444, .slice Ao30 t445.length co30] 24 (0, 0))) := ⟨by (with_reducible repeat (first | refine blk_drewN ?_ _ | refine blk_drew ?_ | refine blk_alloc ?_ _)); refine blk_put (cs := #[.string t444, .slice none 0 0]) ?_ 1 _ rfl; (with_reducible repeat (first | refine blk_drewN ?_ _ | refine blk_drew ?_ | refine blk_alloc ?_ _)); refine blk_put (cs := #[.string (⟨#[]⟩ : ByteArray), .slice none 0 0]) ?_ 0 _ rfl; (with_reducible repeat (first | refine blk_drewN ?_ _ | refine blk_drew ?_ | refine blk_alloc ?_ _)); exact BK449.out⟩
      have n5_ : Aside0 (Below w.heap.size w ((w26.setCell ⟨gb449, 0, none⟩ (.string t444)).setCell ⟨gb449, 1, none⟩ (.slice Ao30 t445.length co30))) := ⟨by repeat (first | (with_reducible first | exact HB.out | apply below_alloc | apply pw_below_drewN | apply below_drew1 | refine below_set ?_ GE434.out | refine below_set ?_ GE443.out | refine below_set ?_ GE449.out) | exact HB.out)⟩
      (try clear HO441)
      (try clear HO447)
      (try clear BK434)
      (try clear BK443)
      (try clear BK449)
      (try clear HB)
      generalize ((w26.setCell ⟨gb449, 0, none⟩ (.string t444)).setCell ⟨gb449, 1, none⟩ (.slice Ao30 t445.length co30)) = w34 at n0_ n1_ n2_ n3_ n4_ n5_ ⊢
      have HO441 := n0_
      have HO447 := n1_
      have BK434 := n2_
      have BK443 := n3_
      have BK449 := n4_
      have HB := n5_
      clear n0_ n1_ n2_ n3_ n4_ n5_
      have n0_ := Aside0.mk (Kd.R_drew HO441.out)
      have n1_ := Aside0.mk (Kd.R_drew HO447.out)
      have n2_ := Aside0.mk (blk_drew BK434.out)
      have n3_ := Aside0.mk (blk_drew BK443.out)
      have n4_ := Aside0.mk (blk_drew BK449.out)
      have n5_ := Aside0.mk (below_drew1 HB.out)
      clear HO441
      clear HO447
      clear BK434
      clear BK443
      clear BK449
      clear HB
      have HO441 := n0_
      have HO447 := n1_
      have BK434 := n2_
      have BK443 := n3_
      have BK449 := n4_
      have HB := n5_
      clear n0_ n1_ n2_ n3_ n4_ n5_
      refine start_ (n := 10) (S := fun w' => w'.cell? ⟨gb443, 0, none⟩ = some (.string t438) ∧ w'.cell? ⟨gb443, 1, none⟩ = some (.slice Ao24 t439.length co24) ∧ w'.cell? ⟨gb449, 0, none⟩ = some (.string t444) ∧ w'.cell? ⟨gb449, 1, none⟩ = some (.slice Ao30 t445.length co30)) (ds := []) #[false, false, false, false, false, false, false, false, false, false] (by kernel_rfl) rfl rfl ⟨(blk_cell BK443.out 0).trans rfl, (blk_cell BK443.out 1).trans rfl, (blk_cell BK449.out 0).trans rfl, (blk_cell BK449.out 1).trans rfl⟩ (fun hHeld => ?_); refine with_tabW culetlaw44_TariffText.tab5 culetlaw44_TariffText.bits5 (fun HT_ HW_ => ?_)
      generalize w34.drew = w35 at HO441 HO447 BK434 BK443 BK449 HB hHeld ⊢
      refine take_ (i := 0) (N := some 36) (v := ?_) (a' := ?_) #[true, false, false, false, false, false, false, false, false, false] rfl rfl (take_ofW HT_.out HW_.out (by kernel_rfl)) (fun _ _ _ h => h) (Or.inl ⟨by rfl, ?_⟩) hHeld ?_ ?_
      rotate_left
      ·
       rintro w' ⟨s0, s1, s2, s3⟩
       go_simp
       with_reducible rfl
      rotate_left
      ·
       simp only [Act.put, List.setIfInBounds_toArray, List.set_cons_zero, List.set_cons_succ, i64_w, i32_w]
       rfl
      refine take_ (i := 2) (N := some 38) (v := ?_) (a' := ?_) #[true, false, true, false, false, false, false, false, false, false] rfl rfl (take_ofW HT_.out HW_.out (by kernel_rfl)) (fun _ _ _ h => h) (Or.inl ⟨by rfl, ?_⟩) hHeld ?_ ?_
      rotate_left
      ·
       rintro w' ⟨s0, s1, s2, s3⟩
       go_simp
       with_reducible rfl
      rotate_left
      ·
       simp only [Act.put, List.setIfInBounds_toArray, List.set_cons_zero, List.set_cons_succ, i64_w, i32_w]
       rfl
      refine one_ (i := 1) (N := some 37) #[true, true, true, false, false, false, false, false, false, false] rfl rfl (one_of HT_.out (by kernel_rfl)) (by decide) (fun K hK => ?_)
      refine goes_ Tryd.func14 (by kernel_rfl) rfl #[.agg #[.string t438, .slice Ao24 t439.length co24]] (by rfl) rfl rfl (by (try simp only [List.map_toArray, List.map_cons, List.map_nil]); first | done | rfl | (simp only [List.length_drop, List.length_take]; rfl)) ?_
      with_reducible refine (culetlaw44_theirs.calls kj2 t438 _ _ t439 t450 t451 _ ?side1 ?side2 A31.out).mono ?_
      (case side1 => repeat (first | exact (Kd.R_reads' HO441.out).2.2 | (with_reducible refine Kd.C_alloc ?_ _) | (with_reducible refine Kd.C_drewN ?_ _) | (with_reducible refine Kd.C_drew ?_)))
      (case side2 => exact (Kd.R_reads' HO441.out).2.1)
      rintro e w36 ⟨v452, rfl, ho0, hb⟩
      refine ⟨_, rfl, ?_⟩
      have n0_ := Aside0.mk (Kd.R_below (by (with_reducible repeat (first | apply Kd.R_alloc | apply Kd.R_drewN | apply Kd.R_drew)); exact HO441.out) hb)
      have n1_ := Aside0.mk (Kd.R_elder' (by (with_reducible repeat (first | apply Kd.R_alloc | apply Kd.R_drewN | apply Kd.R_drew)); exact HO447.out) (Kd.R_base ho0) hb)
      have n2_ := Aside0.mk (Kd.R_lower (Kd.R_new' ho0 (Kd.R_lt (by (with_reducible repeat (first | apply Kd.R_alloc | apply Kd.R_drewN | apply Kd.R_drew)); exact HO447.out))) (below_size (by repeat (first | (with_reducible first | exact HB.out | apply below_alloc | apply pw_below_drewN | apply below_drew1 | refine below_set ?_ GE434.out | refine below_set ?_ GE443.out | refine below_set ?_ GE449.out) | exact HB.out))))
      have n3_ := Aside0.mk (blk_below (g := gb434) (o := .cells #[.string a1_0, .slice A1_1 l1_1.length c1_1] 24 (0, 0)) (by (with_reducible repeat (first | refine blk_drewN ?_ _ | refine blk_drew ?_ | refine blk_alloc ?_ _)); exact BK434.out) hb)
      have n4_ := Aside0.mk (blk_below (g := gb443) (o := .cells #[.string t438, .slice Ao24 t439.length co24] 29 (0, 0)) (by (with_reducible repeat (first | refine blk_drewN ?_ _ | refine blk_drew ?_ | refine blk_alloc ?_ _)); exact BK443.out) hb)
      have n5_ := Aside0.mk (blk_below (g := gb449) (o := .cells #[.string t444, .slice Ao30 t445.length co30] 24 (0, 0)) (by (with_reducible repeat (first | refine blk_drewN ?_ _ | refine blk_drew ?_ | refine blk_alloc ?_ _)); exact BK449.out) hb)
      have n6_ := Aside0.mk (below_step (by repeat (first | (with_reducible first | exact HB.out | apply below_alloc | apply pw_below_drewN | apply below_drew1 | refine below_set ?_ GE434.out | refine below_set ?_ GE443.out | refine below_set ?_ GE449.out) | exact HB.out)) hb)
      clear HO441
      clear HO447
      clear BK434
      clear BK443
      clear BK449
      clear HB
      have HO441 := n0_
      have HO447 := n1_
      have HO453 := n2_
      have BK434 := n3_
      have BK443 := n4_
      have BK449 := n5_
      have HB := n6_
      clear n0_ n1_ n2_ n3_ n4_ n5_ n6_
      (try clear hb)
      (try clear hb2)
      (try clear hk)
      (try clear hi)
      (try clear ho0)
      obtain ⟨Ao37, co37, eo37⟩ := Kd.R_slice HO453.out
      (first | subst eo37 | (injection eo37 with f1_ f2_ f3_; have f4_ := f1_.symm; have f5_ := f3_.symm; clear f1_ f2_ f3_; subst f4_; subst f5_))
      refine hK.out _ _ ⟨(blk_cell BK443.out 0).trans rfl, (blk_cell BK443.out 1).trans rfl, (blk_cell BK449.out 0).trans rfl, (blk_cell BK449.out 1).trans rfl⟩ (fun hHeld => ?_)
      clear hK K
      refine norm_ (a' := ?_) ?_ ?_
      rotate_left
      ·
       show Act.put _ (some 37) _ = _
       simp only [Act.put, List.setIfInBounds_toArray, List.set_cons_zero, List.set_cons_succ, i64_w, i32_w]
       rfl
      refine one_ (i := 3) (N := some 39) #[true, true, true, true, false, false, false, false, false, false] rfl rfl (one_of HT_.out (by kernel_rfl)) (by decide) (fun K hK => ?_)
      refine goes_ Tryd.func13 (by kernel_rfl) rfl #[.agg #[.string t450, .slice Ao37 t451.length co37], .agg #[.string t444, .slice Ao30 t445.length co30]] (by rfl) rfl rfl (by (try simp only [List.map_toArray, List.map_cons, List.map_nil]); first | done | rfl | (simp only [List.length_drop, List.length_take]; rfl)) ?_
      with_reducible refine (culetref44_Equal.calls kj2 t450 _ _ t451 t444 _ _ t445 true _ ?side1 ?side2 ?side3 ?side4 A32.out).mono ?_
      (case side1 => repeat (first | exact (Kd.R_reads' HO453.out).2.2 | (with_reducible refine Kd.C_alloc ?_ _) | (with_reducible refine Kd.C_drewN ?_ _) | (with_reducible refine Kd.C_drew ?_)))
      (case side2 => exact (Kd.R_reads' HO453.out).2.1)
      (case side3 => repeat (first | exact (Kd.R_reads' HO447.out).2.2 | (with_reducible refine Kd.C_alloc ?_ _) | (with_reducible refine Kd.C_drewN ?_ _) | (with_reducible refine Kd.C_drew ?_)))
      (case side4 => exact (Kd.R_reads' HO447.out).2.1)
      rintro e w38 ⟨rfl, hb⟩
      refine ⟨_, rfl, ?_⟩
      have n0_ := Aside0.mk (Kd.R_below (by (with_reducible repeat (first | apply Kd.R_alloc | apply Kd.R_drewN | apply Kd.R_drew)); exact HO441.out) hb)
      have n1_ := Aside0.mk (Kd.R_below (by (with_reducible repeat (first | apply Kd.R_alloc | apply Kd.R_drewN | apply Kd.R_drew)); exact HO447.out) hb)
      have n2_ := Aside0.mk (Kd.R_below (by (with_reducible repeat (first | apply Kd.R_alloc | apply Kd.R_drewN | apply Kd.R_drew)); exact HO453.out) hb)
      have n3_ := Aside0.mk (blk_below (g := gb434) (o := .cells #[.string a1_0, .slice A1_1 l1_1.length c1_1] 24 (0, 0)) (by (with_reducible repeat (first | refine blk_drewN ?_ _ | refine blk_drew ?_ | refine blk_alloc ?_ _)); exact BK434.out) hb)
      have n4_ := Aside0.mk (blk_below (g := gb443) (o := .cells #[.string t438, .slice Ao24 t439.length co24] 29 (0, 0)) (by (with_reducible repeat (first | refine blk_drewN ?_ _ | refine blk_drew ?_ | refine blk_alloc ?_ _)); exact BK443.out) hb)
      have n5_ := Aside0.mk (blk_below (g := gb449) (o := .cells #[.string t444, .slice Ao30 t445.length co30] 24 (0, 0)) (by (with_reducible repeat (first | refine blk_drewN ?_ _ | refine blk_drew ?_ | refine blk_alloc ?_ _)); exact BK449.out) hb)
      have n6_ := Aside0.mk (below_step (by repeat (first | (with_reducible first | exact HB.out | apply below_alloc | apply pw_below_drewN | apply below_drew1 | refine below_set ?_ GE434.out | refine below_set ?_ GE443.out | refine below_set ?_ GE449.out) | exact HB.out)) hb)
      clear HO441
      clear HO447
      clear HO453
      clear BK434
      clear BK443
      clear BK449
      clear HB
      have HO441 := n0_
      have HO447 := n1_
      have HO453 := n2_
      have BK434 := n3_
      have BK443 := n4_
      have BK449 := n5_
      have HB := n6_
      clear n0_ n1_ n2_ n3_ n4_ n5_ n6_
      (try clear hb)
      (try clear hb2)
      (try clear hk)
      (try clear hi)
      refine hK.out _ _ ⟨(blk_cell BK443.out 0).trans rfl, (blk_cell BK443.out 1).trans rfl, (blk_cell BK449.out 0).trans rfl, (blk_cell BK449.out 1).trans rfl⟩ (fun hHeld => ?_)
      clear hK K
      refine norm_ (a' := ?_) ?_ ?_
      rotate_left
      ·
       show Act.put _ (some 39) _ = _
       simp only [Act.put, List.setIfInBounds_toArray, List.set_cons_zero, List.set_cons_succ, i64_w, i32_w]
       rfl
      refine pure_ (i := 4) (N := some 40) (v := ?_) (a' := ?_) #[true, true, true, true, true, false, false, false, false, false] rfl rfl (any_of HT_.out (by kernel_rfl)) (fun _ _ _ h => h) (Or.inl ⟨by rfl, ?_⟩) ?_ ?_
      rotate_left
      ·
       intro w'
       go_simp
       with_reducible rfl
      rotate_left
      ·
       simp only [Act.put, List.setIfInBounds_toArray, List.set_cons_zero, List.set_cons_succ, i64_w, i32_w]
       rfl
      refine pure_ (i := 5) (N := some 41) (v := ?_) (a' := ?_) #[true, true, true, true, true, true, false, false, false, false] rfl rfl (any_of HT_.out (by kernel_rfl)) (fun _ _ _ h => h) (Or.inl ⟨by rfl, ?_⟩) ?_ ?_
      rotate_left
      ·
       intro w'
       go_simp
       with_reducible rfl
      rotate_left
      ·
       simp only [Act.put, List.setIfInBounds_toArray, List.set_cons_zero, List.set_cons_succ, i64_w, i32_w]
       rfl
      refine pure_ (i := 6) (N := some 42) (v := ?_) (a' := ?_) #[true, true, true, true, true, true, true, false, false, false] rfl rfl (any_of HT_.out (by kernel_rfl)) (fun _ _ _ h => h) (Or.inl ⟨by rfl, ?_⟩) ?_ ?_
      rotate_left
      ·
       intro w'
       go_simp
       with_reducible rfl
      rotate_left
      ·
       simp only [Act.put, List.setIfInBounds_toArray, List.set_cons_zero, List.set_cons_succ, i64_w, i32_w]
       rfl
      refine pure_ (i := 7) (N := some 43) (v := ?_) (a' := ?_) #[true, true, true, true, true, true, true, true, false, false] rfl rfl (any_of HT_.out (by kernel_rfl)) (fun _ _ _ h => h) (Or.inl ⟨by rfl, ?_⟩) ?_ ?_
      rotate_left
      ·
       intro w'
       go_simp
       with_reducible rfl
      rotate_left
      ·
       simp only [Act.put, List.setIfInBounds_toArray, List.set_cons_zero, List.set_cons_succ, i64_w, i32_w]
       rfl
      refine pure_ (i := 8) (N := some 44) (v := ?_) (a' := ?_) #[true, true, true, true, true, true, true, true, true, false] rfl rfl (any_of HT_.out (by kernel_rfl)) (fun _ _ _ h => h) (Or.inl ⟨by rfl, ?_⟩) ?_ ?_
      rotate_left
      ·
       intro w'
       go_simp
       with_reducible rfl
      rotate_left
      ·
       simp only [Act.put, List.setIfInBounds_toArray, List.set_cons_zero, List.set_cons_succ, i64_w, i32_w]
       rfl
      refine pure_ (i := 9) (N := some 45) (v := ?_) (a' := ?_) #[true, true, true, true, true, true, true, true, true, true] rfl rfl (any_of HT_.out (by kernel_rfl)) (fun _ _ _ h => h) (Or.inl ⟨by rfl, ?_⟩) ?_ ?_
      rotate_left
      ·
       intro w'
       go_simp
       with_reducible rfl
      rotate_left
      ·
       simp only [Act.put, List.setIfInBounds_toArray, List.set_cons_zero, List.set_cons_succ, i64_w, i32_w]
       rfl
      refine done_ (done_of HT_.out (by kernel_rfl)) ?_
      try go_wp2
      go_meet
      case rel => exact ⟨_, ((t442 != t448)), (by first | rfl | (simp; done) | (simp [*]; done)), H', ⟨by have := HJ2.out; first | omega | exact Nat.le_refl _⟩, ⟨by (with_reducible repeat (first | apply Kd.R_alloc | apply Kd.R_drewN | apply Kd.R_drew)); exact HO441.out⟩, ⟨by (with_reducible repeat (first | apply Kd.R_alloc | apply Kd.R_drewN | apply Kd.R_drew)); exact Kd.R_mono HO447.out (fun _ hk => trivial)⟩, ⟨by (with_reducible repeat (first | refine blk_drewN ?_ _ | refine blk_drew ?_ | refine blk_alloc ?_ _)); exact BK434.out⟩, ⟨by (with_reducible repeat (first | refine blk_drewN ?_ _ | refine blk_drew ?_ | refine blk_alloc ?_ _)); exact BK443.out⟩, ⟨by (with_reducible repeat (first | refine blk_drewN ?_ _ | refine blk_drew ?_ | refine blk_alloc ?_ _)); exact BK449.out⟩, ⟨by repeat (first | (with_reducible first | exact HB.out | apply below_alloc | apply pw_below_drewN | apply below_drew1 | refine below_set ?_ GE434.out | refine below_set ?_ GE443.out | refine below_set ?_ GE449.out) | exact HB.out)⟩⟩
     ·
      replace c33 := Bool.eq_false_iff.mpr c33
      subst c33
      have H1 : (culetlaw44_TariffText.j1 kj2 true a1_0 l1_1) = some r := by rw [if_neg (show ¬ (false = true) by decide)] at H; exact H
      clear H
      have H := H1
      clear H1
      have H' := Aside0.mk H
      clear H
      try go_wp2
      have n0_ : Aside0 (Kd.R k63 63 ((w26.setCell ⟨gb449, 0, none⟩ (.string t444)).setCell ⟨gb449, 1, none⟩ (.slice Ao30 t445.length co30)) w.heap.size (fun _ => True) (.slice Ao24 t439.length co24) t439) := ⟨by (with_reducible repeat (first | apply Kd.R_alloc | apply Kd.R_drewN | apply Kd.R_drew)); exact Kd.R_mono (Kd.R_far (p := ⟨gb449, 1, none⟩) (Kd.R_far (p := ⟨gb449, 0, none⟩) (Kd.R_types HO441.out BK449.out (by decide)) (fun _ hk => hk.2) (.string t444)) (fun _ hk => hk.2) (.slice Ao30 t445.length co30)) (fun _ hk => trivial)⟩
      have n1_ : Aside0 (Kd.R k42 42 ((w26.setCell ⟨gb449, 0, none⟩ (.string t444)).setCell ⟨gb449, 1, none⟩ (.slice Ao30 t445.length co30)) w.heap.size (fun _ => True) (.slice Ao30 t445.length co30) t445) := ⟨by (with_reducible repeat (first | apply Kd.R_alloc | apply Kd.R_drewN | apply Kd.R_drew)); exact Kd.R_mono (Kd.R_far (p := ⟨gb449, 1, none⟩) (Kd.R_far (p := ⟨gb449, 0, none⟩) (Kd.R_types HO447.out BK449.out (by decide)) (fun _ hk => hk.2) (.string t444)) (fun _ hk => hk.2) (.slice Ao30 t445.length co30)) (fun _ hk => trivial)⟩
      have n2_ : Aside0 (((w26.setCell ⟨gb449, 0, none⟩ (.string t444)).setCell ⟨gb449, 1, none⟩ (.slice Ao30 t445.length co30)).heap[gb434]? = some (.cells #[.string a1_0, .slice A1_1 l1_1.length c1_1] 24 (0, 0))) := ⟨by (with_reducible repeat (first | refine blk_drewN ?_ _ | refine blk_drew ?_ | refine blk_alloc ?_ _)); refine blk_far ?_ NB434_449.out _; (with_reducible repeat (first | refine blk_drewN ?_ _ | refine blk_drew ?_ | refine blk_alloc ?_ _)); refine blk_far ?_ NB434_449.out _; (with_reducible repeat (first | refine blk_drewN ?_ _ | refine blk_drew ?_ | refine blk_alloc ?_ _)); exact BK434.out⟩
      have n3_ : Aside0 (((w26.setCell ⟨gb449, 0, none⟩ (.string t444)).setCell ⟨gb449, 1, none⟩ (.slice Ao30 t445.length co30)).heap[gb443]? = some (.cells #[.string t438, .slice Ao24 t439.length co24] 29 (0, 0))) := ⟨by (with_reducible repeat (first | refine blk_drewN ?_ _ | refine blk_drew ?_ | refine blk_alloc ?_ _)); refine blk_far ?_ NB443_449.out _; (with_reducible repeat (first | refine blk_drewN ?_ _ | refine blk_drew ?_ | refine blk_alloc ?_ _)); refine blk_far ?_ NB443_449.out _; (with_reducible repeat (first | refine blk_drewN ?_ _ | refine blk_drew ?_ | refine blk_alloc ?_ _)); exact BK443.out⟩
      have n4_ : Aside0 (((w26.setCell ⟨gb449, 0, none⟩ (.string t444)).setCell ⟨gb449, 1, none⟩ (.slice Ao30 t445.length co30)).heap[gb449]? = some (.cells #[.string t444, .slice Ao30 t445.length co30] 24 (0, 0))) := ⟨by (with_reducible repeat (first | refine blk_drewN ?_ _ | refine blk_drew ?_ | refine blk_alloc ?_ _)); refine blk_put (cs := #[.string t444, .slice none 0 0]) ?_ 1 _ rfl; (with_reducible repeat (first | refine blk_drewN ?_ _ | refine blk_drew ?_ | refine blk_alloc ?_ _)); refine blk_put (cs := #[.string (⟨#[]⟩ : ByteArray), .slice none 0 0]) ?_ 0 _ rfl; (with_reducible repeat (first | refine blk_drewN ?_ _ | refine blk_drew ?_ | refine blk_alloc ?_ _)); exact BK449.out⟩
      have n5_ : Aside0 (Below w.heap.size w ((w26.setCell ⟨gb449, 0, none⟩ (.string t444)).setCell ⟨gb449, 1, none⟩ (.slice Ao30 t445.length co30))) := ⟨by repeat (first | (with_reducible first | exact HB.out | apply below_alloc | apply pw_below_drewN | apply below_drew1 | refine below_set ?_ GE434.out | refine below_set ?_ GE443.out | refine below_set ?_ GE449.out) | exact HB.out)⟩
      (try clear HO441)
      (try clear HO447)
      (try clear BK434)
      (try clear BK443)
      (try clear BK449)
      (try clear HB)
      generalize ((w26.setCell ⟨gb449, 0, none⟩ (.string t444)).setCell ⟨gb449, 1, none⟩ (.slice Ao30 t445.length co30)) = w39 at n0_ n1_ n2_ n3_ n4_ n5_ ⊢
      have HO441 := n0_
      have HO447 := n1_
      have BK434 := n2_
      have BK443 := n3_
      have BK449 := n4_
      have HB := n5_
      clear n0_ n1_ n2_ n3_ n4_ n5_
      have n0_ := Aside0.mk (Kd.R_drew HO441.out)
      have n1_ := Aside0.mk (Kd.R_drew HO447.out)
      have n2_ := Aside0.mk (blk_drew BK434.out)
      have n3_ := Aside0.mk (blk_drew BK443.out)
      have n4_ := Aside0.mk (blk_drew BK449.out)
      have n5_ := Aside0.mk (below_drew1 HB.out)
      clear HO441
      clear HO447
      clear BK434
      clear BK443
      clear BK449
      clear HB
      have HO441 := n0_
      have HO447 := n1_
      have BK434 := n2_
      have BK443 := n3_
      have BK449 := n4_
      have HB := n5_
      clear n0_ n1_ n2_ n3_ n4_ n5_
      refine start_ (n := 10) (S := fun w' => w'.cell? ⟨gb443, 0, none⟩ = some (.string t438) ∧ w'.cell? ⟨gb443, 1, none⟩ = some (.slice Ao24 t439.length co24) ∧ w'.cell? ⟨gb449, 0, none⟩ = some (.string t444) ∧ w'.cell? ⟨gb449, 1, none⟩ = some (.slice Ao30 t445.length co30)) (ds := []) #[false, false, false, false, false, false, false, false, false, false] (by kernel_rfl) rfl rfl ⟨(blk_cell BK443.out 0).trans rfl, (blk_cell BK443.out 1).trans rfl, (blk_cell BK449.out 0).trans rfl, (blk_cell BK449.out 1).trans rfl⟩ (fun hHeld => ?_); refine with_tabW culetlaw44_TariffText.tab5 culetlaw44_TariffText.bits5 (fun HT_ HW_ => ?_)
      generalize w39.drew = w40 at HO441 HO447 BK434 BK443 BK449 HB hHeld ⊢
      refine take_ (i := 0) (N := some 36) (v := ?_) (a' := ?_) #[true, false, false, false, false, false, false, false, false, false] rfl rfl (take_ofW HT_.out HW_.out (by kernel_rfl)) (fun _ _ _ h => h) (Or.inl ⟨by rfl, ?_⟩) hHeld ?_ ?_
      rotate_left
      ·
       rintro w' ⟨s0, s1, s2, s3⟩
       go_simp
       with_reducible rfl
      rotate_left
      ·
       simp only [Act.put, List.setIfInBounds_toArray, List.set_cons_zero, List.set_cons_succ, i64_w, i32_w]
       rfl
      refine take_ (i := 2) (N := some 38) (v := ?_) (a' := ?_) #[true, false, true, false, false, false, false, false, false, false] rfl rfl (take_ofW HT_.out HW_.out (by kernel_rfl)) (fun _ _ _ h => h) (Or.inl ⟨by rfl, ?_⟩) hHeld ?_ ?_
      rotate_left
      ·
       rintro w' ⟨s0, s1, s2, s3⟩
       go_simp
       with_reducible rfl
      rotate_left
      ·
       simp only [Act.put, List.setIfInBounds_toArray, List.set_cons_zero, List.set_cons_succ, i64_w, i32_w]
       rfl
      refine one_ (i := 1) (N := some 37) #[true, true, true, false, false, false, false, false, false, false] rfl rfl (one_of HT_.out (by kernel_rfl)) (by decide) (fun K hK => ?_)
      refine goes_ Tryd.func14 (by kernel_rfl) rfl #[.agg #[.string t438, .slice Ao24 t439.length co24]] (by rfl) rfl rfl (by (try simp only [List.map_toArray, List.map_cons, List.map_nil]); first | done | rfl | (simp only [List.length_drop, List.length_take]; rfl)) ?_
      with_reducible refine (culetlaw44_theirs.calls kj2 t438 _ _ t439 t450 t451 _ ?side1 ?side2 A31.out).mono ?_
      (case side1 => repeat (first | exact (Kd.R_reads' HO441.out).2.2 | (with_reducible refine Kd.C_alloc ?_ _) | (with_reducible refine Kd.C_drewN ?_ _) | (with_reducible refine Kd.C_drew ?_)))
      (case side2 => exact (Kd.R_reads' HO441.out).2.1)
      rintro e w41 ⟨v452, rfl, ho0, hb⟩
      refine ⟨_, rfl, ?_⟩
      have n0_ := Aside0.mk (Kd.R_below (by (with_reducible repeat (first | apply Kd.R_alloc | apply Kd.R_drewN | apply Kd.R_drew)); exact HO441.out) hb)
      have n1_ := Aside0.mk (Kd.R_elder' (by (with_reducible repeat (first | apply Kd.R_alloc | apply Kd.R_drewN | apply Kd.R_drew)); exact HO447.out) (Kd.R_base ho0) hb)
      have n2_ := Aside0.mk (Kd.R_lower (Kd.R_new' ho0 (Kd.R_lt (by (with_reducible repeat (first | apply Kd.R_alloc | apply Kd.R_drewN | apply Kd.R_drew)); exact HO447.out))) (below_size (by repeat (first | (with_reducible first | exact HB.out | apply below_alloc | apply pw_below_drewN | apply below_drew1 | refine below_set ?_ GE434.out | refine below_set ?_ GE443.out | refine below_set ?_ GE449.out) | exact HB.out))))
      have n3_ := Aside0.mk (blk_below (g := gb434) (o := .cells #[.string a1_0, .slice A1_1 l1_1.length c1_1] 24 (0, 0)) (by (with_reducible repeat (first | refine blk_drewN ?_ _ | refine blk_drew ?_ | refine blk_alloc ?_ _)); exact BK434.out) hb)
      have n4_ := Aside0.mk (blk_below (g := gb443) (o := .cells #[.string t438, .slice Ao24 t439.length co24] 29 (0, 0)) (by (with_reducible repeat (first | refine blk_drewN ?_ _ | refine blk_drew ?_ | refine blk_alloc ?_ _)); exact BK443.out) hb)
      have n5_ := Aside0.mk (blk_below (g := gb449) (o := .cells #[.string t444, .slice Ao30 t445.length co30] 24 (0, 0)) (by (with_reducible repeat (first | refine blk_drewN ?_ _ | refine blk_drew ?_ | refine blk_alloc ?_ _)); exact BK449.out) hb)
      have n6_ := Aside0.mk (below_step (by repeat (first | (with_reducible first | exact HB.out | apply below_alloc | apply pw_below_drewN | apply below_drew1 | refine below_set ?_ GE434.out | refine below_set ?_ GE443.out | refine below_set ?_ GE449.out) | exact HB.out)) hb)
      clear HO441
      clear HO447
      clear BK434
      clear BK443
      clear BK449
      clear HB
      have HO441 := n0_
      have HO447 := n1_
      have HO453 := n2_
      have BK434 := n3_
      have BK443 := n4_
      have BK449 := n5_
      have HB := n6_
      clear n0_ n1_ n2_ n3_ n4_ n5_ n6_
      (try clear hb)
      (try clear hb2)
      (try clear hk)
      (try clear hi)
      (try clear ho0)
      obtain ⟨Ao42, co42, eo42⟩ := Kd.R_slice HO453.out
      (first | subst eo42 | (injection eo42 with f1_ f2_ f3_; have f4_ := f1_.symm; have f5_ := f3_.symm; clear f1_ f2_ f3_; subst f4_; subst f5_))
      refine hK.out _ _ ⟨(blk_cell BK443.out 0).trans rfl, (blk_cell BK443.out 1).trans rfl, (blk_cell BK449.out 0).trans rfl, (blk_cell BK449.out 1).trans rfl⟩ (fun hHeld => ?_)
      clear hK K
      refine norm_ (a' := ?_) ?_ ?_
      rotate_left
      ·
       show Act.put _ (some 37) _ = _
       simp only [Act.put, List.setIfInBounds_toArray, List.set_cons_zero, List.set_cons_succ, i64_w, i32_w]
       rfl
      refine one_ (i := 3) (N := some 39) #[true, true, true, true, false, false, false, false, false, false] rfl rfl (one_of HT_.out (by kernel_rfl)) (by decide) (fun K hK => ?_)
      refine goes_ Tryd.func13 (by kernel_rfl) rfl #[.agg #[.string t450, .slice Ao42 t451.length co42], .agg #[.string t444, .slice Ao30 t445.length co30]] (by rfl) rfl rfl (by (try simp only [List.map_toArray, List.map_cons, List.map_nil]); first | done | rfl | (simp only [List.length_drop, List.length_take]; rfl)) ?_
      with_reducible refine (culetref44_Equal.calls kj2 t450 _ _ t451 t444 _ _ t445 false _ ?side1 ?side2 ?side3 ?side4 A32.out).mono ?_
      (case side1 => repeat (first | exact (Kd.R_reads' HO453.out).2.2 | (with_reducible refine Kd.C_alloc ?_ _) | (with_reducible refine Kd.C_drewN ?_ _) | (with_reducible refine Kd.C_drew ?_)))
      (case side2 => exact (Kd.R_reads' HO453.out).2.1)
      (case side3 => repeat (first | exact (Kd.R_reads' HO447.out).2.2 | (with_reducible refine Kd.C_alloc ?_ _) | (with_reducible refine Kd.C_drewN ?_ _) | (with_reducible refine Kd.C_drew ?_)))
      (case side4 => exact (Kd.R_reads' HO447.out).2.1)
      rintro e w43 ⟨rfl, hb⟩
      refine ⟨_, rfl, ?_⟩
      have n0_ := Aside0.mk (Kd.R_below (by (with_reducible repeat (first | apply Kd.R_alloc | apply Kd.R_drewN | apply Kd.R_drew)); exact HO441.out) hb)
      have n1_ := Aside0.mk (Kd.R_below (by (with_reducible repeat (first | apply Kd.R_alloc | apply Kd.R_drewN | apply Kd.R_drew)); exact HO447.out) hb)
      have n2_ := Aside0.mk (Kd.R_below (by (with_reducible repeat (first | apply Kd.R_alloc | apply Kd.R_drewN | apply Kd.R_drew)); exact HO453.out) hb)
      have n3_ := Aside0.mk (blk_below (g := gb434) (o := .cells #[.string a1_0, .slice A1_1 l1_1.length c1_1] 24 (0, 0)) (by (with_reducible repeat (first | refine blk_drewN ?_ _ | refine blk_drew ?_ | refine blk_alloc ?_ _)); exact BK434.out) hb)
      have n4_ := Aside0.mk (blk_below (g := gb443) (o := .cells #[.string t438, .slice Ao24 t439.length co24] 29 (0, 0)) (by (with_reducible repeat (first | refine blk_drewN ?_ _ | refine blk_drew ?_ | refine blk_alloc ?_ _)); exact BK443.out) hb)
      have n5_ := Aside0.mk (blk_below (g := gb449) (o := .cells #[.string t444, .slice Ao30 t445.length co30] 24 (0, 0)) (by (with_reducible repeat (first | refine blk_drewN ?_ _ | refine blk_drew ?_ | refine blk_alloc ?_ _)); exact BK449.out) hb)
      have n6_ := Aside0.mk (below_step (by repeat (first | (with_reducible first | exact HB.out | apply below_alloc | apply pw_below_drewN | apply below_drew1 | refine below_set ?_ GE434.out | refine below_set ?_ GE443.out | refine below_set ?_ GE449.out) | exact HB.out)) hb)
      clear HO441
      clear HO447
      clear HO453
      clear BK434
      clear BK443
      clear BK449
      clear HB
      have HO441 := n0_
      have HO447 := n1_
      have HO453 := n2_
      have BK434 := n3_
      have BK443 := n4_
      have BK449 := n5_
      have HB := n6_
      clear n0_ n1_ n2_ n3_ n4_ n5_ n6_
      (try clear hb)
      (try clear hb2)
      (try clear hk)
      (try clear hi)
      refine hK.out _ _ ⟨(blk_cell BK443.out 0).trans rfl, (blk_cell BK443.out 1).trans rfl, (blk_cell BK449.out 0).trans rfl, (blk_cell BK449.out 1).trans rfl⟩ (fun hHeld => ?_)
      clear hK K
      refine norm_ (a' := ?_) ?_ ?_
      rotate_left
      ·
       show Act.put _ (some 39) _ = _
       simp only [Act.put, List.setIfInBounds_toArray, List.set_cons_zero, List.set_cons_succ, i64_w, i32_w]
       rfl
      refine pure_ (i := 4) (N := some 40) (v := ?_) (a' := ?_) #[true, true, true, true, true, false, false, false, false, false] rfl rfl (any_of HT_.out (by kernel_rfl)) (fun _ _ _ h => h) (Or.inl ⟨by rfl, ?_⟩) ?_ ?_
      rotate_left
      ·
       intro w'
       go_simp
       with_reducible rfl
      rotate_left
      ·
       simp only [Act.put, List.setIfInBounds_toArray, List.set_cons_zero, List.set_cons_succ, i64_w, i32_w]
       rfl
      refine pure_ (i := 5) (N := some 41) (v := ?_) (a' := ?_) #[true, true, true, true, true, true, false, false, false, false] rfl rfl (any_of HT_.out (by kernel_rfl)) (fun _ _ _ h => h) (Or.inl ⟨by rfl, ?_⟩) ?_ ?_
      rotate_left
      ·
       intro w'
       go_simp
       with_reducible rfl
      rotate_left
      ·
       simp only [Act.put, List.setIfInBounds_toArray, List.set_cons_zero, List.set_cons_succ, i64_w, i32_w]
       rfl
      refine pure_ (i := 6) (N := some 42) (v := undef) (a' := ?_) #[true, true, true, true, true, true, true, false, false, false] rfl rfl (any_of HT_.out (by kernel_rfl)) (fun _ _ _ h => h) (Or.inr ⟨by rfl, rfl⟩) ?_ ?_
      rotate_left
      ·
       simp only [Act.put, List.setIfInBounds_toArray, List.set_cons_zero, List.set_cons_succ, i64_w, i32_w]
       rfl
      refine pure_ (i := 7) (N := some 43) (v := undef) (a' := ?_) #[true, true, true, true, true, true, true, true, false, false] rfl rfl (any_of HT_.out (by kernel_rfl)) (fun _ _ _ h => h) (Or.inr ⟨by rfl, rfl⟩) ?_ ?_
      rotate_left
      ·
       simp only [Act.put, List.setIfInBounds_toArray, List.set_cons_zero, List.set_cons_succ, i64_w, i32_w]
       rfl
      refine pure_ (i := 8) (N := some 44) (v := undef) (a' := ?_) #[true, true, true, true, true, true, true, true, true, false] rfl rfl (any_of HT_.out (by kernel_rfl)) (fun _ _ _ h => h) (Or.inr ⟨by rfl, rfl⟩) ?_ ?_
      rotate_left
      ·
       simp only [Act.put, List.setIfInBounds_toArray, List.set_cons_zero, List.set_cons_succ, i64_w, i32_w]
       rfl
      refine pure_ (i := 9) (N := some 45) (v := ?_) (a' := ?_) #[true, true, true, true, true, true, true, true, true, true] rfl rfl (any_of HT_.out (by kernel_rfl)) (fun _ _ _ h => h) (Or.inl ⟨by rfl, ?_⟩) ?_ ?_
      rotate_left
      ·
       intro w'
       go_simp
       with_reducible rfl
      rotate_left
      ·
       simp only [Act.put, List.setIfInBounds_toArray, List.set_cons_zero, List.set_cons_succ, i64_w, i32_w]
       rfl
      refine done_ (done_of HT_.out (by kernel_rfl)) ?_
      try go_wp2
      go_meet
      case rel => exact ⟨_, (true), (by first | rfl | (simp; done) | (simp [*]; done)), H', ⟨by have := HJ2.out; first | omega | exact Nat.le_refl _⟩, ⟨by (with_reducible repeat (first | apply Kd.R_alloc | apply Kd.R_drewN | apply Kd.R_drew)); exact HO441.out⟩, ⟨by (with_reducible repeat (first | apply Kd.R_alloc | apply Kd.R_drewN | apply Kd.R_drew)); exact Kd.R_mono HO447.out (fun _ hk => trivial)⟩, ⟨by (with_reducible repeat (first | refine blk_drewN ?_ _ | refine blk_drew ?_ | refine blk_alloc ?_ _)); exact BK434.out⟩, ⟨by (with_reducible repeat (first | refine blk_drewN ?_ _ | refine blk_drew ?_ | refine blk_alloc ?_ _)); exact BK443.out⟩, ⟨by (with_reducible repeat (first | refine blk_drewN ?_ _ | refine blk_drew ?_ | refine blk_alloc ?_ _)); exact BK449.out⟩, ⟨by repeat (first | (with_reducible first | exact HB.out | apply below_alloc | apply pw_below_drewN | apply below_drew1 | refine below_set ?_ GE434.out | refine below_set ?_ GE443.out | refine below_set ?_ GE449.out) | exact HB.out)⟩⟩
    case rest =>
     clear HC19
     try clear c1
     try clear c2
     try clear p2
     try clear c3
     try clear c6
     try clear c7
     try clear c7b0
     try clear c7b1
     try clear c9
     try clear c11
     try clear c12
     try clear c13
     try clear c14
     try clear c22
     try clear c27
     try clear c28
     try clear c33
     try clear hcz11_0
     try clear hcz11_1
     try clear hcz23_0
     try clear hcz23_1
     try clear hcz29_0
     try clear hcz29_1
     try clear hfz11_0
     try clear hfz11_1
     try clear hfz23_0
     try clear hfz23_1
     try clear hfz29_0
     try clear hfz29_1
     try clear p2
     obtain ⟨kq, x45_18, rfl, HA, HJ18, HO_444001, HO_450001, BK434, BK443, BK449, HB⟩ := hcut
     cases kq with
     | zero => exact absurd HA.out (by simp [culetlaw44_TariffText.j1])
     | succ kj18 =>
      have H := HA.out
      clear HA
      simp only [culetlaw44_TariffText.j1] at H
      by_cases c44 : x45_18 = true
      ·
       subst c44
       have H1 : (some false) = some r := by rw [if_pos rfl] at H; exact H
       clear H
       have H := H1
       clear H1
       obtain rfl := Option.some.inj H
       go_wp2
       go_ret
       exact ⟨by first | rfl | (simp [errW_none, errW_some] <;> rfl) | (simp [*, errW_none, errW_some] <;> rfl), by repeat (first | (with_reducible first | exact HB.out | apply below_alloc | apply pw_below_drewN | apply below_drew1 | refine below_set ?_ GE434.out | refine below_set ?_ GE443.out | refine below_set ?_ GE449.out) | exact HB.out)⟩
      ·
       replace c44 := Bool.eq_false_iff.mpr c44
       subst c44
       have H1 : ((culetlaw44_Own.f kj18 a1_0 l1_1).bind fun bt455 => ((tariff_Print.f kj18 bt455.1 bt455.2).bind fun bt459 => ((tariff_Parse.f kj18 bt459.1).bind fun bt461 => (if bt459.2 = 0 then (if (bt459.1.size : Int) > 400 then (some true) else (if bt461.2.2 = 0 then ((culetlaw44_theirs.f kj18 bt461.1 bt461.2.1).bind fun bt467 => ((culetref44_Equal.f kj18 bt467.1 bt467.2 a1_0 l1_1).bind fun t471 => (some t471))) else (some false))) else (some true))))) = some r := by rw [if_neg (show ¬ (false = true) by decide)] at H; exact H
       clear H
       have H := H1
       clear H1
       replace H := Option.bind_eq_some_iff.mp H
       obtain ⟨⟨t455, t456⟩, A450, H⟩ := H
       replace H : ((tariff_Print.f kj18 t455 t456).bind fun bt459 => ((tariff_Parse.f kj18 bt459.1).bind fun bt461 => (if bt459.2 = 0 then (if (bt459.1.size : Int) > 400 then (some true) else (if bt461.2.2 = 0 then ((culetlaw44_theirs.f kj18 bt461.1 bt461.2.1).bind fun bt467 => ((culetref44_Equal.f kj18 bt467.1 bt467.2 a1_0 l1_1).bind fun t471 => (some t471))) else (some false))) else (some true)))) = some r := H
       have A45 := Aside0.mk A450
       clear A450
       replace H := Option.bind_eq_some_iff.mp H
       obtain ⟨⟨t459, t460⟩, A460, H⟩ := H
       replace H : ((tariff_Parse.f kj18 t459).bind fun bt461 => (if t460 = 0 then (if (t459.size : Int) > 400 then (some true) else (if bt461.2.2 = 0 then ((culetlaw44_theirs.f kj18 bt461.1 bt461.2.1).bind fun bt467 => ((culetref44_Equal.f kj18 bt467.1 bt467.2 a1_0 l1_1).bind fun t471 => (some t471))) else (some false))) else (some true))) = some r := H
       have A46 := Aside0.mk A460
       clear A460
       replace H := Option.bind_eq_some_iff.mp H
       obtain ⟨⟨t461, t462, t465⟩, A470, H⟩ := H
       replace H : (if t460 = 0 then (if (t459.size : Int) > 400 then (some true) else (if t465 = 0 then ((culetlaw44_theirs.f kj18 t461 t462).bind fun bt467 => ((culetref44_Equal.f kj18 bt467.1 bt467.2 a1_0 l1_1).bind fun t471 => (some t471))) else (some false))) else (some true)) = some r := H
       have A47 := Aside0.mk A470
       clear A470
       by_cases c48 : t460 = 0
       ·
        rw [if_pos c48] at H
        have c48b0 : (t460 == 0) = true := beq_iff_eq.mpr c48
        have c48b1 : (t460 != 0) = false := bne_eq_false_iff_eq.mpr c48
        clear c48
        by_cases c49 : (t459.size : Int) > 400
        ·
         rw [if_pos c49] at H
         have c49b0 : decide (400 < (t459.size : Int)) = true := decide_eq_true c49
         have c49b1 : decide (400 < t459.size) = true := decide_eq_true (by omega)
         clear c49
         obtain rfl := Option.some.inj H
         have hnb50 := NB434_443.out
         have hnc50 := NB443_434.out
         have hnb51 := NB434_449.out
         have hnc51 := NB449_434.out
         have hcz52_0 : wc.cell? ⟨gb434, 0, none⟩ = some (.string a1_0) := (blk_cell BK434.out 0).trans rfl
         have hcz52_1 : wc.cell? ⟨gb434, 1, none⟩ = some (.slice A1_1 l1_1.length c1_1) := (blk_cell BK434.out 1).trans rfl
         have hfz52_0 := blk_frozen BK434.out 0
         have hfz52_1 := blk_frozen BK434.out 1
         try go_wp2_with (first | ((with_reducible refine gate_callee (f := 16) rfl ?_); refine goesL_ (some 48) rfl rfl Tryd.func16 (by kernel_rfl) rfl #[.agg #[.string a1_0, .slice A1_1 l1_1.length c1_1]] rfl (by (try simp only [List.map_toArray, List.map_cons, List.map_nil]); first | done | rfl | (simp only [List.length_drop, List.length_take]; rfl)) ?_; (with_reducible refine (culetlaw44_Own.calls kj18 a1_0 _ _ l1_1 t455 t456 _ ?side1 ?side2 A45.out).mono ?_); (case side1 => repeat (first | exact (Kd.C_below HR1_1.out HB.out) | (with_reducible refine Kd.C_alloc ?_ _) | (with_reducible refine Kd.C_drewN ?_ _) | (with_reducible refine Kd.C_drew ?_))); (case side2 => exact HC1_1.out); rintro e w53 ⟨v457, rfl, ho0, hb⟩; refine ⟨_, rfl, ?_⟩; have n0_ := Aside0.mk (Kd.R_elder' (by (with_reducible repeat (first | apply Kd.R_alloc | apply Kd.R_drewN | apply Kd.R_drew)); exact HO_444001.out) (Kd.R_base ho0) hb); have n1_ := Aside0.mk (Kd.R_below (by (with_reducible repeat (first | apply Kd.R_alloc | apply Kd.R_drewN | apply Kd.R_drew)); exact HO_450001.out) hb); have n2_ := Aside0.mk (Kd.R_lower (Kd.R_new' ho0 (Kd.R_lt (by (with_reducible repeat (first | apply Kd.R_alloc | apply Kd.R_drewN | apply Kd.R_drew)); exact HO_444001.out))) (below_size (by repeat (first | (with_reducible first | exact HB.out | apply below_alloc | apply pw_below_drewN | apply below_drew1 | refine below_set ?_ GE434.out | refine below_set ?_ GE443.out | refine below_set ?_ GE449.out) | exact HB.out)))); have n3_ := Aside0.mk (blk_below (g := gb434) (o := .cells #[.string a1_0, .slice A1_1 l1_1.length c1_1] 24 (0, 0)) (by (with_reducible repeat (first | refine blk_drewN ?_ _ | refine blk_drew ?_ | refine blk_alloc ?_ _)); exact BK434.out) hb); have n4_ := Aside0.mk (blk_below (g := gb443) (o := .cells #[.string t438, .slice Ao24 t439.length co24] 29 (0, 0)) (by (with_reducible repeat (first | refine blk_drewN ?_ _ | refine blk_drew ?_ | refine blk_alloc ?_ _)); exact BK443.out) hb); have n5_ := Aside0.mk (blk_below (g := gb449) (o := .cells #[.string t444, .slice Ao30 t445.length co30] 24 (0, 0)) (by (with_reducible repeat (first | refine blk_drewN ?_ _ | refine blk_drew ?_ | refine blk_alloc ?_ _)); exact BK449.out) hb); have n6_ := Aside0.mk (below_step (by repeat (first | (with_reducible first | exact HB.out | apply below_alloc | apply pw_below_drewN | apply below_drew1 | refine below_set ?_ GE434.out | refine below_set ?_ GE443.out | refine below_set ?_ GE449.out) | exact HB.out)) hb); clear HO_444001; clear HO_450001; clear BK434; clear BK443; clear BK449; clear HB; have HO_444001 := n0_; have HO_450001 := n1_; have HO458 := n2_; have BK434 := n3_; have BK443 := n4_; have BK449 := n5_; have HB := n6_; clear n0_ n1_ n2_ n3_ n4_ n5_ n6_; (try clear hb); (try clear hb2); (try clear hk); (try clear hi); (try clear ho0); obtain ⟨Ao54, co54, eo54⟩ := Kd.R_slice HO458.out; subst eo54) | ((with_reducible refine gate_callee (f := 15) rfl ?_); refine goesL_ (some 49) rfl rfl Tryd.func15 (by kernel_rfl) rfl #[.agg #[.string t455, .slice Ao54 t456.length co54]] rfl (by (try simp only [List.map_toArray, List.map_cons, List.map_nil]); first | done | rfl | (simp only [List.length_drop, List.length_take]; rfl)) ?_; (with_reducible refine (tariff_Print.calls kj18 t455 _ _ t456 t459 t460 _ (HTW.out.at (by repeat (first | (with_reducible first | exact HB.out | apply below_alloc | apply pw_below_drewN | apply below_drew1 | refine below_set ?_ GE434.out | refine below_set ?_ GE443.out | refine below_set ?_ GE449.out | refine below_set ?_ GE466.out) | exact HB.out))) ?side1 ?side2 A46.out).mono ?_); (case side1 => repeat (first | exact (Kd.R_reads' HO458.out).2.2 | (with_reducible refine Kd.C_alloc ?_ _) | (with_reducible refine Kd.C_drewN ?_ _) | (with_reducible refine Kd.C_drew ?_))); (case side2 => exact (Kd.R_reads' HO458.out).2.1); rintro e w55 ⟨rfl, hb⟩; refine ⟨_, rfl, ?_⟩; have n0_ := Aside0.mk (Kd.R_below (by (with_reducible repeat (first | apply Kd.R_alloc | apply Kd.R_drewN | apply Kd.R_drew)); exact HO_444001.out) hb); have n1_ := Aside0.mk (Kd.R_below (by (with_reducible repeat (first | apply Kd.R_alloc | apply Kd.R_drewN | apply Kd.R_drew)); exact HO_450001.out) hb); have n2_ := Aside0.mk (Kd.R_below (by (with_reducible repeat (first | apply Kd.R_alloc | apply Kd.R_drewN | apply Kd.R_drew)); exact HO458.out) hb); have n3_ := Aside0.mk (blk_below (g := gb434) (o := .cells #[.string a1_0, .slice A1_1 l1_1.length c1_1] 24 (0, 0)) (by (with_reducible repeat (first | refine blk_drewN ?_ _ | refine blk_drew ?_ | refine blk_alloc ?_ _)); exact BK434.out) hb); have n4_ := Aside0.mk (blk_below (g := gb443) (o := .cells #[.string t438, .slice Ao24 t439.length co24] 29 (0, 0)) (by (with_reducible repeat (first | refine blk_drewN ?_ _ | refine blk_drew ?_ | refine blk_alloc ?_ _)); exact BK443.out) hb); have n5_ := Aside0.mk (blk_below (g := gb449) (o := .cells #[.string t444, .slice Ao30 t445.length co30] 24 (0, 0)) (by (with_reducible repeat (first | refine blk_drewN ?_ _ | refine blk_drew ?_ | refine blk_alloc ?_ _)); exact BK449.out) hb); have n6_ := Aside0.mk (below_step (by repeat (first | (with_reducible first | exact HB.out | apply below_alloc | apply pw_below_drewN | apply below_drew1 | refine below_set ?_ GE434.out | refine below_set ?_ GE443.out | refine below_set ?_ GE449.out) | exact HB.out)) hb); clear HO_444001; clear HO_450001; clear HO458; clear BK434; clear BK443; clear BK449; clear HB; have HO_444001 := n0_; have HO_450001 := n1_; have HO458 := n2_; have BK434 := n3_; have BK443 := n4_; have BK449 := n5_; have HB := n6_; clear n0_ n1_ n2_ n3_ n4_ n5_ n6_; (try clear hb); (try clear hb2); (try clear hk); (try clear hi)) | ((with_reducible refine gate_callee (f := 11) rfl ?_); refine goesL_ (some 54) rfl rfl Tryd.func11 (by kernel_rfl) rfl #[.string t459] rfl (by (try simp only [List.map_toArray, List.map_cons, List.map_nil]); first | done | rfl | (simp only [List.length_drop, List.length_take]; rfl)) ?_; (with_reducible refine (tariff_Parse.calls kj18 t459 t461 t462 t465 _ (HTW.out.at (by repeat (first | (with_reducible first | exact HB.out | apply below_alloc | apply pw_below_drewN | apply below_drew1 | refine below_set ?_ GE434.out | refine below_set ?_ GE443.out | refine below_set ?_ GE449.out | refine below_set ?_ GE466.out) | exact HB.out))) A47.out).mono ?_); rintro e w56 ⟨v463, rfl, ho0, hb⟩; refine ⟨_, rfl, ?_⟩; have n0_ := Aside0.mk (Kd.R_elder' (by (with_reducible repeat (first | apply Kd.R_alloc | apply Kd.R_drewN | apply Kd.R_drew)); exact HO_444001.out) (Kd.R_base ho0) hb); have n1_ := Aside0.mk (Kd.R_below (by (with_reducible repeat (first | apply Kd.R_alloc | apply Kd.R_drewN | apply Kd.R_drew)); exact HO_450001.out) hb); have n2_ := Aside0.mk (Kd.R_elder' (by (with_reducible repeat (first | apply Kd.R_alloc | apply Kd.R_drewN | apply Kd.R_drew)); exact HO458.out) (Kd.R_base ho0) hb); have n3_ := Aside0.mk (Kd.R_lower (Kd.R_new' (Kd.R_new' ho0 (Kd.R_lt (by (with_reducible repeat (first | apply Kd.R_alloc | apply Kd.R_drewN | apply Kd.R_drew)); exact HO_444001.out))) (Kd.R_lt (by (with_reducible repeat (first | apply Kd.R_alloc | apply Kd.R_drewN | apply Kd.R_drew)); exact HO458.out))) (below_size (by repeat (first | (with_reducible first | exact HB.out | apply below_alloc | apply pw_below_drewN | apply below_drew1 | refine below_set ?_ GE434.out | refine below_set ?_ GE443.out | refine below_set ?_ GE449.out) | exact HB.out)))); have n4_ := Aside0.mk (blk_below (g := gb434) (o := .cells #[.string a1_0, .slice A1_1 l1_1.length c1_1] 24 (0, 0)) (by (with_reducible repeat (first | refine blk_drewN ?_ _ | refine blk_drew ?_ | refine blk_alloc ?_ _)); exact BK434.out) hb); have n5_ := Aside0.mk (blk_below (g := gb443) (o := .cells #[.string t438, .slice Ao24 t439.length co24] 29 (0, 0)) (by (with_reducible repeat (first | refine blk_drewN ?_ _ | refine blk_drew ?_ | refine blk_alloc ?_ _)); exact BK443.out) hb); have n6_ := Aside0.mk (blk_below (g := gb449) (o := .cells #[.string t444, .slice Ao30 t445.length co30] 24 (0, 0)) (by (with_reducible repeat (first | refine blk_drewN ?_ _ | refine blk_drew ?_ | refine blk_alloc ?_ _)); exact BK449.out) hb); have n7_ := Aside0.mk (below_step (by repeat (first | (with_reducible first | exact HB.out | apply below_alloc | apply pw_below_drewN | apply below_drew1 | refine below_set ?_ GE434.out | refine below_set ?_ GE443.out | refine below_set ?_ GE449.out) | exact HB.out)) hb); clear HO_444001; clear HO_450001; clear HO458; clear BK434; clear BK443; clear BK449; clear HB; have HO_444001 := n0_; have HO_450001 := n1_; have HO458 := n2_; have HO464 := n3_; have BK434 := n4_; have BK443 := n5_; have BK449 := n6_; have HB := n7_; clear n0_ n1_ n2_ n3_ n4_ n5_ n6_ n7_; (try clear hb); (try clear hb2); (try clear hk); (try clear hi); (try clear ho0)) | ((with_reducible refine gate_dst (N := 11) rfl ?_); (try (refine gate_guard (by rfl) ?_; dsimp only)); refine box_event ?hg (N := 11) ?hd (cs := #[.string (⟨#[]⟩ : ByteArray), .slice none 0 0]) (t := 29) ?hr ?_; (case hd => rfl); (case hg => rfl); (case hr => first | (go_simp; done) | (go_simp; rfl)); intro gb466 hg w57 hbox hb; have n0_ := Aside0.mk (Kd.R_below (by (with_reducible repeat (first | apply Kd.R_alloc | apply Kd.R_drewN | apply Kd.R_drew)); exact HO_444001.out) hb); have n1_ := Aside0.mk (Kd.R_below (by (with_reducible repeat (first | apply Kd.R_alloc | apply Kd.R_drewN | apply Kd.R_drew)); exact HO_450001.out) hb); have n2_ := Aside0.mk (Kd.R_below (by (with_reducible repeat (first | apply Kd.R_alloc | apply Kd.R_drewN | apply Kd.R_drew)); exact HO458.out) hb); have n3_ := Aside0.mk (Kd.R_below (by (with_reducible repeat (first | apply Kd.R_alloc | apply Kd.R_drewN | apply Kd.R_drew)); exact HO464.out) hb); have n4_ := Aside0.mk (blk_below (g := gb434) (o := .cells #[.string a1_0, .slice A1_1 l1_1.length c1_1] 24 (0, 0)) (by (with_reducible repeat (first | refine blk_drewN ?_ _ | refine blk_drew ?_ | refine blk_alloc ?_ _)); exact BK434.out) hb); have n5_ := Aside0.mk (blk_below (g := gb443) (o := .cells #[.string t438, .slice Ao24 t439.length co24] 29 (0, 0)) (by (with_reducible repeat (first | refine blk_drewN ?_ _ | refine blk_drew ?_ | refine blk_alloc ?_ _)); exact BK443.out) hb); have n6_ := Aside0.mk (blk_below (g := gb449) (o := .cells #[.string t444, .slice Ao30 t445.length co30] 24 (0, 0)) (by (with_reducible repeat (first | refine blk_drewN ?_ _ | refine blk_drew ?_ | refine blk_alloc ?_ _)); exact BK449.out) hb); have n7_ := Aside0.mk (below_step (by repeat (first | (with_reducible first | exact HB.out | apply below_alloc | apply pw_below_drewN | apply below_drew1 | refine below_set ?_ GE434.out | refine below_set ?_ GE443.out | refine below_set ?_ GE449.out) | exact HB.out)) hb); have n8_ := Aside0.mk (hbox); have n9_ := Aside0.mk ((by rw [hg]; exact (below_size (by repeat (first | (with_reducible first | exact HB.out | apply below_alloc | apply pw_below_drewN | apply below_drew1 | refine below_set ?_ GE434.out | refine below_set ?_ GE443.out | refine below_set ?_ GE449.out) | exact HB.out))) : w.heap.size ≤ gb466)); have n10_ := Aside0.mk ((by rw [hg]; exact (below_size (by repeat (first | (with_reducible first | exact HB.out | apply below_alloc | apply pw_below_drewN | apply below_drew1 | refine below_set ?_ GE434.out | refine below_set ?_ GE443.out | refine below_set ?_ GE449.out) | exact HB.out))) : w.heap.size ≤ gb466)); have n11_ := Aside0.mk ((by rw [hg]; exact Nat.ne_of_lt (blk_lt (g := gb434) (o := .cells #[.string a1_0, .slice A1_1 l1_1.length c1_1] 24 (0, 0)) (by (with_reducible repeat (first | refine blk_drewN ?_ _ | refine blk_drew ?_ | refine blk_alloc ?_ _)); exact BK434.out)) : gb434 ≠ gb466)); have n12_ := Aside0.mk ((by rw [hg]; exact Nat.ne_of_gt (blk_lt (g := gb434) (o := .cells #[.string a1_0, .slice A1_1 l1_1.length c1_1] 24 (0, 0)) (by (with_reducible repeat (first | refine blk_drewN ?_ _ | refine blk_drew ?_ | refine blk_alloc ?_ _)); exact BK434.out)) : gb466 ≠ gb434)); have n13_ := Aside0.mk ((by rw [hg]; exact Nat.ne_of_lt (blk_lt (g := gb443) (o := .cells #[.string t438, .slice Ao24 t439.length co24] 29 (0, 0)) (by (with_reducible repeat (first | refine blk_drewN ?_ _ | refine blk_drew ?_ | refine blk_alloc ?_ _)); exact BK443.out)) : gb443 ≠ gb466)); have n14_ := Aside0.mk ((by rw [hg]; exact Nat.ne_of_gt (blk_lt (g := gb443) (o := .cells #[.string t438, .slice Ao24 t439.length co24] 29 (0, 0)) (by (with_reducible repeat (first | refine blk_drewN ?_ _ | refine blk_drew ?_ | refine blk_alloc ?_ _)); exact BK443.out)) : gb466 ≠ gb443)); have n15_ := Aside0.mk ((by rw [hg]; exact Nat.ne_of_lt (blk_lt (g := gb449) (o := .cells #[.string t444, .slice Ao30 t445.length co30] 24 (0, 0)) (by (with_reducible repeat (first | refine blk_drewN ?_ _ | refine blk_drew ?_ | refine blk_alloc ?_ _)); exact BK449.out)) : gb449 ≠ gb466)); have n16_ := Aside0.mk ((by rw [hg]; exact Nat.ne_of_gt (blk_lt (g := gb449) (o := .cells #[.string t444, .slice Ao30 t445.length co30] 24 (0, 0)) (by (with_reducible repeat (first | refine blk_drewN ?_ _ | refine blk_drew ?_ | refine blk_alloc ?_ _)); exact BK449.out)) : gb466 ≠ gb449)); clear HO_444001; clear HO_450001; clear HO458; clear HO464; clear BK434; clear BK443; clear BK449; clear HB; have HO_444001 := n0_; have HO_450001 := n1_; have HO458 := n2_; have HO464 := n3_; have BK434 := n4_; have BK443 := n5_; have BK449 := n6_; have HB := n7_; have BK466 := n8_; have GW466 := n9_; have GE466 := n10_; have NB434_466 := n11_; have NB466_434 := n12_; have NB443_466 := n13_; have NB466_443 := n14_; have NB449_466 := n15_; have NB466_449 := n16_; clear n0_ n1_ n2_ n3_ n4_ n5_ n6_ n7_ n8_ n9_ n10_ n11_ n12_ n13_ n14_ n15_ n16_; clear hb hbox hg; have hnb58 := NB466_434.out; have hnc58 := NB434_466.out; have hnb59 := NB466_443.out; have hnc59 := NB443_466.out; have hnb60 := NB466_449.out; have hnc60 := NB449_466.out; have hcz61_0 : w57.cell? ⟨gb466, 0, none⟩ = some (.string (⟨#[]⟩ : ByteArray)) := (blk_cell BK466.out 0).trans rfl; have hcz61_1 : w57.cell? ⟨gb466, 1, none⟩ = some (.slice none 0 0) := (blk_cell BK466.out 1).trans rfl; have hfz61_0 := blk_frozen BK466.out 0; have hfz61_1 := blk_frozen BK466.out 1; obtain ⟨Ao62, co62, eo62⟩ := Kd.R_slice HO464.out; subst eo62))
         have n0_ : Aside0 (Kd.R k63 63 ((w57.setCell ⟨gb466, 0, none⟩ (.string t461)).setCell ⟨gb466, 1, none⟩ (.slice Ao62 t462.length co62)) w.heap.size (fun k_ => some k_ ≠ (.slice Ao54 t456.length co54 : Value).ownBlock ∧ some k_ ≠ (.slice Ao62 t462.length co62 : Value).ownBlock) (.slice Ao24 t439.length co24) t439) := ⟨by (with_reducible repeat (first | apply Kd.R_alloc | apply Kd.R_drewN | apply Kd.R_drew)); exact Kd.R_mono (Kd.R_far (p := ⟨gb466, 1, none⟩) (Kd.R_far (p := ⟨gb466, 0, none⟩) (Kd.R_types HO_444001.out BK466.out (by decide)) (fun _ hk => hk.2) (.string t461)) (fun _ hk => hk.2) (.slice Ao62 t462.length co62)) (fun _ hk => ⟨hk.1.1.2, hk.1.2⟩)⟩
         have n1_ : Aside0 (Kd.R k42 42 ((w57.setCell ⟨gb466, 0, none⟩ (.string t461)).setCell ⟨gb466, 1, none⟩ (.slice Ao62 t462.length co62)) w.heap.size (fun _ => True) (.slice Ao30 t445.length co30) t445) := ⟨by (with_reducible repeat (first | apply Kd.R_alloc | apply Kd.R_drewN | apply Kd.R_drew)); exact Kd.R_mono (Kd.R_far (p := ⟨gb466, 1, none⟩) (Kd.R_far (p := ⟨gb466, 0, none⟩) (Kd.R_types HO_450001.out BK466.out (by decide)) (fun _ hk => hk.2) (.string t461)) (fun _ hk => hk.2) (.slice Ao62 t462.length co62)) (fun _ hk => trivial)⟩
         have n2_ : Aside0 (Kd.R k63 63 ((w57.setCell ⟨gb466, 0, none⟩ (.string t461)).setCell ⟨gb466, 1, none⟩ (.slice Ao62 t462.length co62)) w.heap.size (fun k_ => some k_ ≠ (.slice Ao24 t439.length co24 : Value).ownBlock ∧ some k_ ≠ (.slice Ao62 t462.length co62 : Value).ownBlock) (.slice Ao54 t456.length co54) t456) := ⟨by (with_reducible repeat (first | apply Kd.R_alloc | apply Kd.R_drewN | apply Kd.R_drew)); exact Kd.R_mono (Kd.R_far (p := ⟨gb466, 1, none⟩) (Kd.R_far (p := ⟨gb466, 0, none⟩) (Kd.R_types HO458.out BK466.out (by decide)) (fun _ hk => hk.2) (.string t461)) (fun _ hk => hk.2) (.slice Ao62 t462.length co62)) (fun _ hk => ⟨hk.1.1.2, hk.1.2⟩)⟩
         have n3_ : Aside0 (Kd.R k63 63 ((w57.setCell ⟨gb466, 0, none⟩ (.string t461)).setCell ⟨gb466, 1, none⟩ (.slice Ao62 t462.length co62)) w.heap.size (fun k_ => some k_ ≠ (.slice Ao24 t439.length co24 : Value).ownBlock ∧ some k_ ≠ (.slice Ao54 t456.length co54 : Value).ownBlock) (.slice Ao62 t462.length co62) t462) := ⟨by (with_reducible repeat (first | apply Kd.R_alloc | apply Kd.R_drewN | apply Kd.R_drew)); exact Kd.R_mono (Kd.R_far (p := ⟨gb466, 1, none⟩) (Kd.R_far (p := ⟨gb466, 0, none⟩) (Kd.R_types HO464.out BK466.out (by decide)) (fun _ hk => hk.2) (.string t461)) (fun _ hk => hk.2) (.slice Ao62 t462.length co62)) (fun _ hk => ⟨hk.1.1.2, hk.1.2⟩)⟩
         have n4_ : Aside0 (((w57.setCell ⟨gb466, 0, none⟩ (.string t461)).setCell ⟨gb466, 1, none⟩ (.slice Ao62 t462.length co62)).heap[gb434]? = some (.cells #[.string a1_0, .slice A1_1 l1_1.length c1_1] 24 (0, 0))) := ⟨by (with_reducible repeat (first | refine blk_drewN ?_ _ | refine blk_drew ?_ | refine blk_alloc ?_ _)); refine blk_far ?_ NB434_466.out _; (with_reducible repeat (first | refine blk_drewN ?_ _ | refine blk_drew ?_ | refine blk_alloc ?_ _)); refine blk_far ?_ NB434_466.out _; (with_reducible repeat (first | refine blk_drewN ?_ _ | refine blk_drew ?_ | refine blk_alloc ?_ _)); exact BK434.out⟩
         have n5_ : Aside0 (((w57.setCell ⟨gb466, 0, none⟩ (.string t461)).setCell ⟨gb466, 1, none⟩ (.slice Ao62 t462.length co62)).heap[gb443]? = some (.cells #[.string t438, .slice Ao24 t439.length co24] 29 (0, 0))) := ⟨by (with_reducible repeat (first | refine blk_drewN ?_ _ | refine blk_drew ?_ | refine blk_alloc ?_ _)); refine blk_far ?_ NB443_466.out _; (with_reducible repeat (first | refine blk_drewN ?_ _ | refine blk_drew ?_ | refine blk_alloc ?_ _)); refine blk_far ?_ NB443_466.out _; (with_reducible repeat (first | refine blk_drewN ?_ _ | refine blk_drew ?_ | refine blk_alloc ?_ _)); exact BK443.out⟩
         have n6_ : Aside0 (((w57.setCell ⟨gb466, 0, none⟩ (.string t461)).setCell ⟨gb466, 1, none⟩ (.slice Ao62 t462.length co62)).heap[gb449]? = some (.cells #[.string t444, .slice Ao30 t445.length co30] 24 (0, 0))) := ⟨by (with_reducible repeat (first | refine blk_drewN ?_ _ | refine blk_drew ?_ | refine blk_alloc ?_ _)); refine blk_far ?_ NB449_466.out _; (with_reducible repeat (first | refine blk_drewN ?_ _ | refine blk_drew ?_ | refine blk_alloc ?_ _)); refine blk_far ?_ NB449_466.out _; (with_reducible repeat (first | refine blk_drewN ?_ _ | refine blk_drew ?_ | refine blk_alloc ?_ _)); exact BK449.out⟩
         have n7_ : Aside0 (((w57.setCell ⟨gb466, 0, none⟩ (.string t461)).setCell ⟨gb466, 1, none⟩ (.slice Ao62 t462.length co62)).heap[gb466]? = some (.cells #[.string t461, .slice Ao62 t462.length co62] 29 (0, 0))) := ⟨by (with_reducible repeat (first | refine blk_drewN ?_ _ | refine blk_drew ?_ | refine blk_alloc ?_ _)); refine blk_put (cs := #[.string t461, .slice none 0 0]) ?_ 1 _ rfl; (with_reducible repeat (first | refine blk_drewN ?_ _ | refine blk_drew ?_ | refine blk_alloc ?_ _)); refine blk_put (cs := #[.string (⟨#[]⟩ : ByteArray), .slice none 0 0]) ?_ 0 _ rfl; (with_reducible repeat (first | refine blk_drewN ?_ _ | refine blk_drew ?_ | refine blk_alloc ?_ _)); exact BK466.out⟩
         have n8_ : Aside0 (Below w.heap.size w ((w57.setCell ⟨gb466, 0, none⟩ (.string t461)).setCell ⟨gb466, 1, none⟩ (.slice Ao62 t462.length co62))) := ⟨by repeat (first | (with_reducible first | exact HB.out | apply below_alloc | apply pw_below_drewN | apply below_drew1 | refine below_set ?_ GE434.out | refine below_set ?_ GE443.out | refine below_set ?_ GE449.out | refine below_set ?_ GE466.out) | exact HB.out)⟩
         (try clear HO_444001)
         (try clear HO_450001)
         (try clear HO458)
         (try clear HO464)
         (try clear BK434)
         (try clear BK443)
         (try clear BK449)
         (try clear BK466)
         (try clear HB)
         generalize ((w57.setCell ⟨gb466, 0, none⟩ (.string t461)).setCell ⟨gb466, 1, none⟩ (.slice Ao62 t462.length co62)) = w63 at n0_ n1_ n2_ n3_ n4_ n5_ n6_ n7_ n8_ ⊢
         have HO_444001 := n0_
         have HO_450001 := n1_
         have HO458 := n2_
         have HO464 := n3_
         have BK434 := n4_
         have BK443 := n5_
         have BK449 := n6_
         have BK466 := n7_
         have HB := n8_
         clear n0_ n1_ n2_ n3_ n4_ n5_ n6_ n7_ n8_
         have n0_ := Aside0.mk (Kd.R_drew HO_444001.out)
         have n1_ := Aside0.mk (Kd.R_drew HO_450001.out)
         have n2_ := Aside0.mk (Kd.R_drew HO458.out)
         have n3_ := Aside0.mk (Kd.R_drew HO464.out)
         have n4_ := Aside0.mk (blk_drew BK434.out)
         have n5_ := Aside0.mk (blk_drew BK443.out)
         have n6_ := Aside0.mk (blk_drew BK449.out)
         have n7_ := Aside0.mk (blk_drew BK466.out)
         have n8_ := Aside0.mk (below_drew1 HB.out)
         clear HO_444001
         clear HO_450001
         clear HO458
         clear HO464
         clear BK434
         clear BK443
         clear BK449
         clear BK466
         clear HB
         have HO_444001 := n0_
         have HO_450001 := n1_
         have HO458 := n2_
         have HO464 := n3_
         have BK434 := n4_
         have BK443 := n5_
         have BK449 := n6_
         have BK466 := n7_
         have HB := n8_
         clear n0_ n1_ n2_ n3_ n4_ n5_ n6_ n7_ n8_
         refine start_ (n := 18) (S := fun w' => True) (ds := []) #[false, false, false, false, false, false, false, false, false, false, false, false, false, false, false, false, false, false] (by kernel_rfl) rfl rfl trivial (fun hHeld => ?_); refine with_tabW culetlaw44_TariffText.tab9 culetlaw44_TariffText.bits9 (fun HT_ HW_ => ?_)
         generalize w63.drew = w64 at HO_444001 HO_450001 HO458 HO464 BK434 BK443 BK449 BK466 HB hHeld ⊢
         refine pure_ (i := 0) (N := some 57) (v := ?_) (a' := ?_) #[true, false, false, false, false, false, false, false, false, false, false, false, false, false, false, false, false, false] rfl rfl (any_of HT_.out (by kernel_rfl)) (fun _ _ _ h => h) (Or.inl ⟨by rfl, ?_⟩) ?_ ?_
         rotate_left
         ·
          intro w'
          go_simp
          with_reducible rfl
         rotate_left
         ·
          simp only [Act.put, List.setIfInBounds_toArray, List.set_cons_zero, List.set_cons_succ, i64_w, i32_w]
          rfl
         refine pure_ (i := 1) (N := some 58) (v := ?_) (a' := ?_) #[true, true, false, false, false, false, false, false, false, false, false, false, false, false, false, false, false, false] rfl rfl (any_of HT_.out (by kernel_rfl)) (fun _ _ _ h => h) (Or.inl ⟨by rfl, ?_⟩) ?_ ?_
         rotate_left
         ·
          intro w'
          go_simp
          with_reducible rfl
         rotate_left
         ·
          simp only [Act.put, List.setIfInBounds_toArray, List.set_cons_zero, List.set_cons_succ, i64_w, i32_w]
          rfl
         refine pure_ (i := 2) (N := some 59) (v := ?_) (a' := ?_) #[true, true, true, false, false, false, false, false, false, false, false, false, false, false, false, false, false, false] rfl rfl (any_of HT_.out (by kernel_rfl)) (fun _ _ _ h => h) (Or.inl ⟨by rfl, ?_⟩) ?_ ?_
         rotate_left
         ·
          intro w'
          go_simp
          with_reducible rfl
         rotate_left
         ·
          simp only [Act.put, List.setIfInBounds_toArray, List.set_cons_zero, List.set_cons_succ, i64_w, i32_w]
          rfl
         refine pure_ (i := 3) (N := some 60) (v := ?_) (a' := ?_) #[true, true, true, true, false, false, false, false, false, false, false, false, false, false, false, false, false, false] rfl rfl (any_of HT_.out (by kernel_rfl)) (fun _ _ _ h => h) (Or.inl ⟨by rfl, ?_⟩) ?_ ?_
         rotate_left
         ·
          intro w'
          go_simp
          with_reducible rfl
         rotate_left
         ·
          simp only [Act.put, List.setIfInBounds_toArray, List.set_cons_zero, List.set_cons_succ, i64_w, i32_w]
          rfl
         refine pure_ (i := 4) (N := some 61) (v := ?_) (a' := ?_) #[true, true, true, true, true, false, false, false, false, false, false, false, false, false, false, false, false, false] rfl rfl (any_of HT_.out (by kernel_rfl)) (fun _ _ _ h => h) (Or.inl ⟨by rfl, ?_⟩) ?_ ?_
         rotate_left
         ·
          intro w'
          go_simp
          with_reducible rfl
         rotate_left
         ·
          simp only [Act.put, List.setIfInBounds_toArray, List.set_cons_zero, List.set_cons_succ, i64_w, i32_w]
          rfl
         refine pure_ (i := 5) (N := some 62) (v := ?_) (a' := ?_) #[true, true, true, true, true, true, false, false, false, false, false, false, false, false, false, false, false, false] rfl rfl (any_of HT_.out (by kernel_rfl)) (fun _ _ _ h => h) (Or.inl ⟨by rfl, ?_⟩) ?_ ?_
         rotate_left
         ·
          intro w'
          go_simp
          with_reducible rfl
         rotate_left
         ·
          simp only [Act.put, List.setIfInBounds_toArray, List.set_cons_zero, List.set_cons_succ, i64_w, i32_w]
          rfl
         refine pure_ (i := 6) (N := some 63) (v := ?_) (a' := ?_) #[true, true, true, true, true, true, true, false, false, false, false, false, false, false, false, false, false, false] rfl rfl (any_of HT_.out (by kernel_rfl)) (fun _ _ _ h => h) (Or.inl ⟨by rfl, ?_⟩) ?_ ?_
         rotate_left
         ·
          intro w'
          go_simp
          with_reducible rfl
         rotate_left
         ·
          simp only [Act.put, List.setIfInBounds_toArray, List.set_cons_zero, List.set_cons_succ, i64_w, i32_w]
          rfl
         refine pure_ (i := 7) (N := some 64) (v := ?_) (a' := ?_) #[true, true, true, true, true, true, true, true, false, false, false, false, false, false, false, false, false, false] rfl rfl (any_of HT_.out (by kernel_rfl)) (fun _ _ _ h => h) (Or.inl ⟨by rfl, ?_⟩) ?_ ?_
         rotate_left
         ·
          intro w'
          go_simp
          with_reducible rfl
         rotate_left
         ·
          simp only [Act.put, List.setIfInBounds_toArray, List.set_cons_zero, List.set_cons_succ, i64_w, i32_w]
          rfl
         refine pure_ (i := 8) (N := some 65) (v := undef) (a' := ?_) #[true, true, true, true, true, true, true, true, true, false, false, false, false, false, false, false, false, false] rfl rfl (any_of HT_.out (by kernel_rfl)) (fun _ _ _ h => h) (Or.inr ⟨by rfl, rfl⟩) ?_ ?_
         rotate_left
         ·
          simp only [Act.put, List.setIfInBounds_toArray, List.set_cons_zero, List.set_cons_succ, i64_w, i32_w]
          rfl
         refine pure_ (i := 9) (N := some 66) (v := undef) (a' := ?_) #[true, true, true, true, true, true, true, true, true, true, false, false, false, false, false, false, false, false] rfl rfl (any_of HT_.out (by kernel_rfl)) (fun _ _ _ h => h) (Or.inr ⟨by rfl, rfl⟩) ?_ ?_
         rotate_left
         ·
          simp only [Act.put, List.setIfInBounds_toArray, List.set_cons_zero, List.set_cons_succ, i64_w, i32_w]
          rfl
         refine pure_ (i := 10) (N := some 67) (v := undef) (a' := ?_) #[true, true, true, true, true, true, true, true, true, true, true, false, false, false, false, false, false, false] rfl rfl (any_of HT_.out (by kernel_rfl)) (fun _ _ _ h => h) (Or.inr ⟨by rfl, rfl⟩) ?_ ?_
         rotate_left
         ·
          simp only [Act.put, List.setIfInBounds_toArray, List.set_cons_zero, List.set_cons_succ, i64_w, i32_w]
          rfl
         refine pure_ (i := 11) (N := some 68) (v := undef) (a' := ?_) #[true, true, true, true, true, true, true, true, true, true, true, true, false, false, false, false, false, false] rfl rfl (any_of HT_.out (by kernel_rfl)) (fun _ _ _ h => h) (Or.inr ⟨by rfl, rfl⟩) ?_ ?_
         rotate_left
         ·
          simp only [Act.put, List.setIfInBounds_toArray, List.set_cons_zero, List.set_cons_succ, i64_w, i32_w]
          rfl
         refine pure_ (i := 12) (N := some 69) (v := undef) (a' := ?_) #[true, true, true, true, true, true, true, true, true, true, true, true, true, false, false, false, false, false] rfl rfl (any_of HT_.out (by kernel_rfl)) (fun _ _ _ h => h) (Or.inr ⟨by rfl, rfl⟩) ?_ ?_
         rotate_left
         ·
          simp only [Act.put, List.setIfInBounds_toArray, List.set_cons_zero, List.set_cons_succ, i64_w, i32_w]
          rfl
         refine pure_ (i := 13) (N := some 70) (v := undef) (a' := ?_) #[true, true, true, true, true, true, true, true, true, true, true, true, true, true, false, false, false, false] rfl rfl (any_of HT_.out (by kernel_rfl)) (fun _ _ _ h => h) (Or.inr ⟨by rfl, rfl⟩) ?_ ?_
         rotate_left
         ·
          simp only [Act.put, List.setIfInBounds_toArray, List.set_cons_zero, List.set_cons_succ, i64_w, i32_w]
          rfl
         refine pure_ (i := 14) (N := some 71) (v := undef) (a' := ?_) #[true, true, true, true, true, true, true, true, true, true, true, true, true, true, true, false, false, false] rfl rfl (any_of HT_.out (by kernel_rfl)) (fun _ _ _ h => h) (Or.inr ⟨by rfl, rfl⟩) ?_ ?_
         rotate_left
         ·
          simp only [Act.put, List.setIfInBounds_toArray, List.set_cons_zero, List.set_cons_succ, i64_w, i32_w]
          rfl
         refine pure_ (i := 15) (N := some 72) (v := undef) (a' := ?_) #[true, true, true, true, true, true, true, true, true, true, true, true, true, true, true, true, false, false] rfl rfl (any_of HT_.out (by kernel_rfl)) (fun _ _ _ h => h) (Or.inr ⟨by rfl, rfl⟩) ?_ ?_
         rotate_left
         ·
          simp only [Act.put, List.setIfInBounds_toArray, List.set_cons_zero, List.set_cons_succ, i64_w, i32_w]
          rfl
         refine pure_ (i := 16) (N := some 73) (v := ?_) (a' := ?_) #[true, true, true, true, true, true, true, true, true, true, true, true, true, true, true, true, true, false] rfl rfl (any_of HT_.out (by kernel_rfl)) (fun _ _ _ h => h) (Or.inl ⟨by rfl, ?_⟩) ?_ ?_
         rotate_left
         ·
          intro w'
          go_simp
          with_reducible rfl
         rotate_left
         ·
          simp only [Act.put, List.setIfInBounds_toArray, List.set_cons_zero, List.set_cons_succ, i64_w, i32_w]
          rfl
         refine pure_ (i := 17) (N := some 4) (v := ?_) (a' := ?_) #[true, true, true, true, true, true, true, true, true, true, true, true, true, true, true, true, true, true] rfl rfl (any_of HT_.out (by kernel_rfl)) (fun _ _ _ h => h) (Or.inl ⟨by rfl, ?_⟩) ?_ ?_
         rotate_left
         ·
          intro w'
          go_simp
          with_reducible rfl
         rotate_left
         ·
          simp only [Act.put, List.setIfInBounds_toArray, List.set_cons_zero, List.set_cons_succ, i64_w, i32_w]
          rfl
         refine done_ (done_of HT_.out (by kernel_rfl)) ?_
         try go_wp2
         go_ret
         exact ⟨by first | rfl | (simp [errW_none, errW_some] <;> rfl) | (simp [*, errW_none, errW_some] <;> rfl), by repeat (first | (with_reducible first | exact HB.out | apply below_alloc | apply pw_below_drewN | apply below_drew1 | refine below_set ?_ GE434.out | refine below_set ?_ GE443.out | refine below_set ?_ GE449.out | refine below_set ?_ GE466.out) | exact HB.out)⟩
        ·
         rw [if_neg c49] at H
         have c49b0 : decide (400 < (t459.size : Int)) = false := decide_eq_false c49
         have c49b1 : decide (400 < t459.size) = false := decide_eq_false (by omega)
         clear c49
         by_cases c65 : t465 = 0
         ·
          rw [if_pos c65] at H
          have c65b0 : (t465 == 0) = true := beq_iff_eq.mpr c65
          have c65b1 : (t465 != 0) = false := bne_eq_false_iff_eq.mpr c65
          clear c65
          replace H := Option.bind_eq_some_iff.mp H
          obtain ⟨⟨t467, t468⟩, A660, H⟩ := H
          replace H : ((culetref44_Equal.f kj18 t467 t468 a1_0 l1_1).bind fun t471 => (some t471)) = some r := H
          have A66 := Aside0.mk A660
          clear A660
          replace H := Option.bind_eq_some_iff.mp H
          obtain ⟨t471, A670, H⟩ := H
          replace H : (some t471) = some r := H
          have A67 := Aside0.mk A670
          clear A670
          obtain rfl := Option.some.inj H
          have hnb68 := NB434_443.out
          have hnc68 := NB443_434.out
          have hnb69 := NB434_449.out
          have hnc69 := NB449_434.out
          have hcz70_0 : wc.cell? ⟨gb434, 0, none⟩ = some (.string a1_0) := (blk_cell BK434.out 0).trans rfl
          have hcz70_1 : wc.cell? ⟨gb434, 1, none⟩ = some (.slice A1_1 l1_1.length c1_1) := (blk_cell BK434.out 1).trans rfl
          have hfz70_0 := blk_frozen BK434.out 0
          have hfz70_1 := blk_frozen BK434.out 1
          try go_wp2_with (first | ((with_reducible refine gate_callee (f := 16) rfl ?_); refine goesL_ (some 48) rfl rfl Tryd.func16 (by kernel_rfl) rfl #[.agg #[.string a1_0, .slice A1_1 l1_1.length c1_1]] rfl (by (try simp only [List.map_toArray, List.map_cons, List.map_nil]); first | done | rfl | (simp only [List.length_drop, List.length_take]; rfl)) ?_; (with_reducible refine (culetlaw44_Own.calls kj18 a1_0 _ _ l1_1 t455 t456 _ ?side1 ?side2 A45.out).mono ?_); (case side1 => repeat (first | exact (Kd.C_below HR1_1.out HB.out) | (with_reducible refine Kd.C_alloc ?_ _) | (with_reducible refine Kd.C_drewN ?_ _) | (with_reducible refine Kd.C_drew ?_))); (case side2 => exact HC1_1.out); rintro e w71 ⟨v457, rfl, ho0, hb⟩; refine ⟨_, rfl, ?_⟩; have n0_ := Aside0.mk (Kd.R_elder' (by (with_reducible repeat (first | apply Kd.R_alloc | apply Kd.R_drewN | apply Kd.R_drew)); exact HO_444001.out) (Kd.R_base ho0) hb); have n1_ := Aside0.mk (Kd.R_below (by (with_reducible repeat (first | apply Kd.R_alloc | apply Kd.R_drewN | apply Kd.R_drew)); exact HO_450001.out) hb); have n2_ := Aside0.mk (Kd.R_lower (Kd.R_new' ho0 (Kd.R_lt (by (with_reducible repeat (first | apply Kd.R_alloc | apply Kd.R_drewN | apply Kd.R_drew)); exact HO_444001.out))) (below_size (by repeat (first | (with_reducible first | exact HB.out | apply below_alloc | apply pw_below_drewN | apply below_drew1 | refine below_set ?_ GE434.out | refine below_set ?_ GE443.out | refine below_set ?_ GE449.out) | exact HB.out)))); have n3_ := Aside0.mk (blk_below (g := gb434) (o := .cells #[.string a1_0, .slice A1_1 l1_1.length c1_1] 24 (0, 0)) (by (with_reducible repeat (first | refine blk_drewN ?_ _ | refine blk_drew ?_ | refine blk_alloc ?_ _)); exact BK434.out) hb); have n4_ := Aside0.mk (blk_below (g := gb443) (o := .cells #[.string t438, .slice Ao24 t439.length co24] 29 (0, 0)) (by (with_reducible repeat (first | refine blk_drewN ?_ _ | refine blk_drew ?_ | refine blk_alloc ?_ _)); exact BK443.out) hb); have n5_ := Aside0.mk (blk_below (g := gb449) (o := .cells #[.string t444, .slice Ao30 t445.length co30] 24 (0, 0)) (by (with_reducible repeat (first | refine blk_drewN ?_ _ | refine blk_drew ?_ | refine blk_alloc ?_ _)); exact BK449.out) hb); have n6_ := Aside0.mk (below_step (by repeat (first | (with_reducible first | exact HB.out | apply below_alloc | apply pw_below_drewN | apply below_drew1 | refine below_set ?_ GE434.out | refine below_set ?_ GE443.out | refine below_set ?_ GE449.out) | exact HB.out)) hb); clear HO_444001; clear HO_450001; clear BK434; clear BK443; clear BK449; clear HB; have HO_444001 := n0_; have HO_450001 := n1_; have HO458 := n2_; have BK434 := n3_; have BK443 := n4_; have BK449 := n5_; have HB := n6_; clear n0_ n1_ n2_ n3_ n4_ n5_ n6_; (try clear hb); (try clear hb2); (try clear hk); (try clear hi); (try clear ho0); obtain ⟨Ao72, co72, eo72⟩ := Kd.R_slice HO458.out; subst eo72) | ((with_reducible refine gate_callee (f := 15) rfl ?_); refine goesL_ (some 49) rfl rfl Tryd.func15 (by kernel_rfl) rfl #[.agg #[.string t455, .slice Ao72 t456.length co72]] rfl (by (try simp only [List.map_toArray, List.map_cons, List.map_nil]); first | done | rfl | (simp only [List.length_drop, List.length_take]; rfl)) ?_; (with_reducible refine (tariff_Print.calls kj18 t455 _ _ t456 t459 t460 _ (HTW.out.at (by repeat (first | (with_reducible first | exact HB.out | apply below_alloc | apply pw_below_drewN | apply below_drew1 | refine below_set ?_ GE434.out | refine below_set ?_ GE443.out | refine below_set ?_ GE449.out | refine below_set ?_ GE466.out) | exact HB.out))) ?side1 ?side2 A46.out).mono ?_); (case side1 => repeat (first | exact (Kd.R_reads' HO458.out).2.2 | (with_reducible refine Kd.C_alloc ?_ _) | (with_reducible refine Kd.C_drewN ?_ _) | (with_reducible refine Kd.C_drew ?_))); (case side2 => exact (Kd.R_reads' HO458.out).2.1); rintro e w73 ⟨rfl, hb⟩; refine ⟨_, rfl, ?_⟩; have n0_ := Aside0.mk (Kd.R_below (by (with_reducible repeat (first | apply Kd.R_alloc | apply Kd.R_drewN | apply Kd.R_drew)); exact HO_444001.out) hb); have n1_ := Aside0.mk (Kd.R_below (by (with_reducible repeat (first | apply Kd.R_alloc | apply Kd.R_drewN | apply Kd.R_drew)); exact HO_450001.out) hb); have n2_ := Aside0.mk (Kd.R_below (by (with_reducible repeat (first | apply Kd.R_alloc | apply Kd.R_drewN | apply Kd.R_drew)); exact HO458.out) hb); have n3_ := Aside0.mk (blk_below (g := gb434) (o := .cells #[.string a1_0, .slice A1_1 l1_1.length c1_1] 24 (0, 0)) (by (with_reducible repeat (first | refine blk_drewN ?_ _ | refine blk_drew ?_ | refine blk_alloc ?_ _)); exact BK434.out) hb); have n4_ := Aside0.mk (blk_below (g := gb443) (o := .cells #[.string t438, .slice Ao24 t439.length co24] 29 (0, 0)) (by (with_reducible repeat (first | refine blk_drewN ?_ _ | refine blk_drew ?_ | refine blk_alloc ?_ _)); exact BK443.out) hb); have n5_ := Aside0.mk (blk_below (g := gb449) (o := .cells #[.string t444, .slice Ao30 t445.length co30] 24 (0, 0)) (by (with_reducible repeat (first | refine blk_drewN ?_ _ | refine blk_drew ?_ | refine blk_alloc ?_ _)); exact BK449.out) hb); have n6_ := Aside0.mk (below_step (by repeat (first | (with_reducible first | exact HB.out | apply below_alloc | apply pw_below_drewN | apply below_drew1 | refine below_set ?_ GE434.out | refine below_set ?_ GE443.out | refine below_set ?_ GE449.out) | exact HB.out)) hb); clear HO_444001; clear HO_450001; clear HO458; clear BK434; clear BK443; clear BK449; clear HB; have HO_444001 := n0_; have HO_450001 := n1_; have HO458 := n2_; have BK434 := n3_; have BK443 := n4_; have BK449 := n5_; have HB := n6_; clear n0_ n1_ n2_ n3_ n4_ n5_ n6_; (try clear hb); (try clear hb2); (try clear hk); (try clear hi)) | ((with_reducible refine gate_callee (f := 11) rfl ?_); refine goesL_ (some 54) rfl rfl Tryd.func11 (by kernel_rfl) rfl #[.string t459] rfl (by (try simp only [List.map_toArray, List.map_cons, List.map_nil]); first | done | rfl | (simp only [List.length_drop, List.length_take]; rfl)) ?_; (with_reducible refine (tariff_Parse.calls kj18 t459 t461 t462 t465 _ (HTW.out.at (by repeat (first | (with_reducible first | exact HB.out | apply below_alloc | apply pw_below_drewN | apply below_drew1 | refine below_set ?_ GE434.out | refine below_set ?_ GE443.out | refine below_set ?_ GE449.out | refine below_set ?_ GE466.out) | exact HB.out))) A47.out).mono ?_); rintro e w74 ⟨v463, rfl, ho0, hb⟩; refine ⟨_, rfl, ?_⟩; have n0_ := Aside0.mk (Kd.R_elder' (by (with_reducible repeat (first | apply Kd.R_alloc | apply Kd.R_drewN | apply Kd.R_drew)); exact HO_444001.out) (Kd.R_base ho0) hb); have n1_ := Aside0.mk (Kd.R_below (by (with_reducible repeat (first | apply Kd.R_alloc | apply Kd.R_drewN | apply Kd.R_drew)); exact HO_450001.out) hb); have n2_ := Aside0.mk (Kd.R_elder' (by (with_reducible repeat (first | apply Kd.R_alloc | apply Kd.R_drewN | apply Kd.R_drew)); exact HO458.out) (Kd.R_base ho0) hb); have n3_ := Aside0.mk (Kd.R_lower (Kd.R_new' (Kd.R_new' ho0 (Kd.R_lt (by (with_reducible repeat (first | apply Kd.R_alloc | apply Kd.R_drewN | apply Kd.R_drew)); exact HO_444001.out))) (Kd.R_lt (by (with_reducible repeat (first | apply Kd.R_alloc | apply Kd.R_drewN | apply Kd.R_drew)); exact HO458.out))) (below_size (by repeat (first | (with_reducible first | exact HB.out | apply below_alloc | apply pw_below_drewN | apply below_drew1 | refine below_set ?_ GE434.out | refine below_set ?_ GE443.out | refine below_set ?_ GE449.out) | exact HB.out)))); have n4_ := Aside0.mk (blk_below (g := gb434) (o := .cells #[.string a1_0, .slice A1_1 l1_1.length c1_1] 24 (0, 0)) (by (with_reducible repeat (first | refine blk_drewN ?_ _ | refine blk_drew ?_ | refine blk_alloc ?_ _)); exact BK434.out) hb); have n5_ := Aside0.mk (blk_below (g := gb443) (o := .cells #[.string t438, .slice Ao24 t439.length co24] 29 (0, 0)) (by (with_reducible repeat (first | refine blk_drewN ?_ _ | refine blk_drew ?_ | refine blk_alloc ?_ _)); exact BK443.out) hb); have n6_ := Aside0.mk (blk_below (g := gb449) (o := .cells #[.string t444, .slice Ao30 t445.length co30] 24 (0, 0)) (by (with_reducible repeat (first | refine blk_drewN ?_ _ | refine blk_drew ?_ | refine blk_alloc ?_ _)); exact BK449.out) hb); have n7_ := Aside0.mk (below_step (by repeat (first | (with_reducible first | exact HB.out | apply below_alloc | apply pw_below_drewN | apply below_drew1 | refine below_set ?_ GE434.out | refine below_set ?_ GE443.out | refine below_set ?_ GE449.out) | exact HB.out)) hb); clear HO_444001; clear HO_450001; clear HO458; clear BK434; clear BK443; clear BK449; clear HB; have HO_444001 := n0_; have HO_450001 := n1_; have HO458 := n2_; have HO464 := n3_; have BK434 := n4_; have BK443 := n5_; have BK449 := n6_; have HB := n7_; clear n0_ n1_ n2_ n3_ n4_ n5_ n6_ n7_; (try clear hb); (try clear hb2); (try clear hk); (try clear hi); (try clear ho0)) | ((with_reducible refine gate_dst (N := 11) rfl ?_); (try (refine gate_guard (by rfl) ?_; dsimp only)); refine box_event ?hg (N := 11) ?hd (cs := #[.string (⟨#[]⟩ : ByteArray), .slice none 0 0]) (t := 29) ?hr ?_; (case hd => rfl); (case hg => rfl); (case hr => first | (go_simp; done) | (go_simp; rfl)); intro gb466 hg w75 hbox hb; have n0_ := Aside0.mk (Kd.R_below (by (with_reducible repeat (first | apply Kd.R_alloc | apply Kd.R_drewN | apply Kd.R_drew)); exact HO_444001.out) hb); have n1_ := Aside0.mk (Kd.R_below (by (with_reducible repeat (first | apply Kd.R_alloc | apply Kd.R_drewN | apply Kd.R_drew)); exact HO_450001.out) hb); have n2_ := Aside0.mk (Kd.R_below (by (with_reducible repeat (first | apply Kd.R_alloc | apply Kd.R_drewN | apply Kd.R_drew)); exact HO458.out) hb); have n3_ := Aside0.mk (Kd.R_below (by (with_reducible repeat (first | apply Kd.R_alloc | apply Kd.R_drewN | apply Kd.R_drew)); exact HO464.out) hb); have n4_ := Aside0.mk (blk_below (g := gb434) (o := .cells #[.string a1_0, .slice A1_1 l1_1.length c1_1] 24 (0, 0)) (by (with_reducible repeat (first | refine blk_drewN ?_ _ | refine blk_drew ?_ | refine blk_alloc ?_ _)); exact BK434.out) hb); have n5_ := Aside0.mk (blk_below (g := gb443) (o := .cells #[.string t438, .slice Ao24 t439.length co24] 29 (0, 0)) (by (with_reducible repeat (first | refine blk_drewN ?_ _ | refine blk_drew ?_ | refine blk_alloc ?_ _)); exact BK443.out) hb); have n6_ := Aside0.mk (blk_below (g := gb449) (o := .cells #[.string t444, .slice Ao30 t445.length co30] 24 (0, 0)) (by (with_reducible repeat (first | refine blk_drewN ?_ _ | refine blk_drew ?_ | refine blk_alloc ?_ _)); exact BK449.out) hb); have n7_ := Aside0.mk (below_step (by repeat (first | (with_reducible first | exact HB.out | apply below_alloc | apply pw_below_drewN | apply below_drew1 | refine below_set ?_ GE434.out | refine below_set ?_ GE443.out | refine below_set ?_ GE449.out) | exact HB.out)) hb); have n8_ := Aside0.mk (hbox); have n9_ := Aside0.mk ((by rw [hg]; exact (below_size (by repeat (first | (with_reducible first | exact HB.out | apply below_alloc | apply pw_below_drewN | apply below_drew1 | refine below_set ?_ GE434.out | refine below_set ?_ GE443.out | refine below_set ?_ GE449.out) | exact HB.out))) : w.heap.size ≤ gb466)); have n10_ := Aside0.mk ((by rw [hg]; exact (below_size (by repeat (first | (with_reducible first | exact HB.out | apply below_alloc | apply pw_below_drewN | apply below_drew1 | refine below_set ?_ GE434.out | refine below_set ?_ GE443.out | refine below_set ?_ GE449.out) | exact HB.out))) : w.heap.size ≤ gb466)); have n11_ := Aside0.mk ((by rw [hg]; exact Nat.ne_of_lt (blk_lt (g := gb434) (o := .cells #[.string a1_0, .slice A1_1 l1_1.length c1_1] 24 (0, 0)) (by (with_reducible repeat (first | refine blk_drewN ?_ _ | refine blk_drew ?_ | refine blk_alloc ?_ _)); exact BK434.out)) : gb434 ≠ gb466)); have n12_ := Aside0.mk ((by rw [hg]; exact Nat.ne_of_gt (blk_lt (g := gb434) (o := .cells #[.string a1_0, .slice A1_1 l1_1.length c1_1] 24 (0, 0)) (by (with_reducible repeat (first | refine blk_drewN ?_ _ | refine blk_drew ?_ | refine blk_alloc ?_ _)); exact BK434.out)) : gb466 ≠ gb434)); have n13_ := Aside0.mk ((by rw [hg]; exact Nat.ne_of_lt (blk_lt (g := gb443) (o := .cells #[.string t438, .slice Ao24 t439.length co24] 29 (0, 0)) (by (with_reducible repeat (first | refine blk_drewN ?_ _ | refine blk_drew ?_ | refine blk_alloc ?_ _)); exact BK443.out)) : gb443 ≠ gb466)); have n14_ := Aside0.mk ((by rw [hg]; exact Nat.ne_of_gt (blk_lt (g := gb443) (o := .cells #[.string t438, .slice Ao24 t439.length co24] 29 (0, 0)) (by (with_reducible repeat (first | refine blk_drewN ?_ _ | refine blk_drew ?_ | refine blk_alloc ?_ _)); exact BK443.out)) : gb466 ≠ gb443)); have n15_ := Aside0.mk ((by rw [hg]; exact Nat.ne_of_lt (blk_lt (g := gb449) (o := .cells #[.string t444, .slice Ao30 t445.length co30] 24 (0, 0)) (by (with_reducible repeat (first | refine blk_drewN ?_ _ | refine blk_drew ?_ | refine blk_alloc ?_ _)); exact BK449.out)) : gb449 ≠ gb466)); have n16_ := Aside0.mk ((by rw [hg]; exact Nat.ne_of_gt (blk_lt (g := gb449) (o := .cells #[.string t444, .slice Ao30 t445.length co30] 24 (0, 0)) (by (with_reducible repeat (first | refine blk_drewN ?_ _ | refine blk_drew ?_ | refine blk_alloc ?_ _)); exact BK449.out)) : gb466 ≠ gb449)); clear HO_444001; clear HO_450001; clear HO458; clear HO464; clear BK434; clear BK443; clear BK449; clear HB; have HO_444001 := n0_; have HO_450001 := n1_; have HO458 := n2_; have HO464 := n3_; have BK434 := n4_; have BK443 := n5_; have BK449 := n6_; have HB := n7_; have BK466 := n8_; have GW466 := n9_; have GE466 := n10_; have NB434_466 := n11_; have NB466_434 := n12_; have NB443_466 := n13_; have NB466_443 := n14_; have NB449_466 := n15_; have NB466_449 := n16_; clear n0_ n1_ n2_ n3_ n4_ n5_ n6_ n7_ n8_ n9_ n10_ n11_ n12_ n13_ n14_ n15_ n16_; clear hb hbox hg; have hnb76 := NB466_434.out; have hnc76 := NB434_466.out; have hnb77 := NB466_443.out; have hnc77 := NB443_466.out; have hnb78 := NB466_449.out; have hnc78 := NB449_466.out; have hcz79_0 : w75.cell? ⟨gb466, 0, none⟩ = some (.string (⟨#[]⟩ : ByteArray)) := (blk_cell BK466.out 0).trans rfl; have hcz79_1 : w75.cell? ⟨gb466, 1, none⟩ = some (.slice none 0 0) := (blk_cell BK466.out 1).trans rfl; have hfz79_0 := blk_frozen BK466.out 0; have hfz79_1 := blk_frozen BK466.out 1; obtain ⟨Ao80, co80, eo80⟩ := Kd.R_slice HO464.out; subst eo80))
          have n0_ : Aside0 (Kd.R k63 63 ((w75.setCell ⟨gb466, 0, none⟩ (.string t461)).setCell ⟨gb466, 1, none⟩ (.slice Ao80 t462.length co80)) w.heap.size (fun k_ => some k_ ≠ (.slice Ao72 t456.length co72 : Value).ownBlock ∧ some k_ ≠ (.slice Ao80 t462.length co80 : Value).ownBlock) (.slice Ao24 t439.length co24) t439) := ⟨by (with_reducible repeat (first | apply Kd.R_alloc | apply Kd.R_drewN | apply Kd.R_drew)); exact Kd.R_mono (Kd.R_far (p := ⟨gb466, 1, none⟩) (Kd.R_far (p := ⟨gb466, 0, none⟩) (Kd.R_types HO_444001.out BK466.out (by decide)) (fun _ hk => hk.2) (.string t461)) (fun _ hk => hk.2) (.slice Ao80 t462.length co80)) (fun _ hk => ⟨hk.1.1.2, hk.1.2⟩)⟩
          have n1_ : Aside0 (Kd.R k42 42 ((w75.setCell ⟨gb466, 0, none⟩ (.string t461)).setCell ⟨gb466, 1, none⟩ (.slice Ao80 t462.length co80)) w.heap.size (fun _ => True) (.slice Ao30 t445.length co30) t445) := ⟨by (with_reducible repeat (first | apply Kd.R_alloc | apply Kd.R_drewN | apply Kd.R_drew)); exact Kd.R_mono (Kd.R_far (p := ⟨gb466, 1, none⟩) (Kd.R_far (p := ⟨gb466, 0, none⟩) (Kd.R_types HO_450001.out BK466.out (by decide)) (fun _ hk => hk.2) (.string t461)) (fun _ hk => hk.2) (.slice Ao80 t462.length co80)) (fun _ hk => trivial)⟩
          have n2_ : Aside0 (Kd.R k63 63 ((w75.setCell ⟨gb466, 0, none⟩ (.string t461)).setCell ⟨gb466, 1, none⟩ (.slice Ao80 t462.length co80)) w.heap.size (fun k_ => some k_ ≠ (.slice Ao24 t439.length co24 : Value).ownBlock ∧ some k_ ≠ (.slice Ao80 t462.length co80 : Value).ownBlock) (.slice Ao72 t456.length co72) t456) := ⟨by (with_reducible repeat (first | apply Kd.R_alloc | apply Kd.R_drewN | apply Kd.R_drew)); exact Kd.R_mono (Kd.R_far (p := ⟨gb466, 1, none⟩) (Kd.R_far (p := ⟨gb466, 0, none⟩) (Kd.R_types HO458.out BK466.out (by decide)) (fun _ hk => hk.2) (.string t461)) (fun _ hk => hk.2) (.slice Ao80 t462.length co80)) (fun _ hk => ⟨hk.1.1.2, hk.1.2⟩)⟩
          have n3_ : Aside0 (Kd.R k63 63 ((w75.setCell ⟨gb466, 0, none⟩ (.string t461)).setCell ⟨gb466, 1, none⟩ (.slice Ao80 t462.length co80)) w.heap.size (fun k_ => some k_ ≠ (.slice Ao24 t439.length co24 : Value).ownBlock ∧ some k_ ≠ (.slice Ao72 t456.length co72 : Value).ownBlock) (.slice Ao80 t462.length co80) t462) := ⟨by (with_reducible repeat (first | apply Kd.R_alloc | apply Kd.R_drewN | apply Kd.R_drew)); exact Kd.R_mono (Kd.R_far (p := ⟨gb466, 1, none⟩) (Kd.R_far (p := ⟨gb466, 0, none⟩) (Kd.R_types HO464.out BK466.out (by decide)) (fun _ hk => hk.2) (.string t461)) (fun _ hk => hk.2) (.slice Ao80 t462.length co80)) (fun _ hk => ⟨hk.1.1.2, hk.1.2⟩)⟩
          have n4_ : Aside0 (((w75.setCell ⟨gb466, 0, none⟩ (.string t461)).setCell ⟨gb466, 1, none⟩ (.slice Ao80 t462.length co80)).heap[gb434]? = some (.cells #[.string a1_0, .slice A1_1 l1_1.length c1_1] 24 (0, 0))) := ⟨by (with_reducible repeat (first | refine blk_drewN ?_ _ | refine blk_drew ?_ | refine blk_alloc ?_ _)); refine blk_far ?_ NB434_466.out _; (with_reducible repeat (first | refine blk_drewN ?_ _ | refine blk_drew ?_ | refine blk_alloc ?_ _)); refine blk_far ?_ NB434_466.out _; (with_reducible repeat (first | refine blk_drewN ?_ _ | refine blk_drew ?_ | refine blk_alloc ?_ _)); exact BK434.out⟩
          have n5_ : Aside0 (((w75.setCell ⟨gb466, 0, none⟩ (.string t461)).setCell ⟨gb466, 1, none⟩ (.slice Ao80 t462.length co80)).heap[gb443]? = some (.cells #[.string t438, .slice Ao24 t439.length co24] 29 (0, 0))) := ⟨by (with_reducible repeat (first | refine blk_drewN ?_ _ | refine blk_drew ?_ | refine blk_alloc ?_ _)); refine blk_far ?_ NB443_466.out _; (with_reducible repeat (first | refine blk_drewN ?_ _ | refine blk_drew ?_ | refine blk_alloc ?_ _)); refine blk_far ?_ NB443_466.out _; (with_reducible repeat (first | refine blk_drewN ?_ _ | refine blk_drew ?_ | refine blk_alloc ?_ _)); exact BK443.out⟩
          have n6_ : Aside0 (((w75.setCell ⟨gb466, 0, none⟩ (.string t461)).setCell ⟨gb466, 1, none⟩ (.slice Ao80 t462.length co80)).heap[gb449]? = some (.cells #[.string t444, .slice Ao30 t445.length co30] 24 (0, 0))) := ⟨by (with_reducible repeat (first | refine blk_drewN ?_ _ | refine blk_drew ?_ | refine blk_alloc ?_ _)); refine blk_far ?_ NB449_466.out _; (with_reducible repeat (first | refine blk_drewN ?_ _ | refine blk_drew ?_ | refine blk_alloc ?_ _)); refine blk_far ?_ NB449_466.out _; (with_reducible repeat (first | refine blk_drewN ?_ _ | refine blk_drew ?_ | refine blk_alloc ?_ _)); exact BK449.out⟩
          have n7_ : Aside0 (((w75.setCell ⟨gb466, 0, none⟩ (.string t461)).setCell ⟨gb466, 1, none⟩ (.slice Ao80 t462.length co80)).heap[gb466]? = some (.cells #[.string t461, .slice Ao80 t462.length co80] 29 (0, 0))) := ⟨by (with_reducible repeat (first | refine blk_drewN ?_ _ | refine blk_drew ?_ | refine blk_alloc ?_ _)); refine blk_put (cs := #[.string t461, .slice none 0 0]) ?_ 1 _ rfl; (with_reducible repeat (first | refine blk_drewN ?_ _ | refine blk_drew ?_ | refine blk_alloc ?_ _)); refine blk_put (cs := #[.string (⟨#[]⟩ : ByteArray), .slice none 0 0]) ?_ 0 _ rfl; (with_reducible repeat (first | refine blk_drewN ?_ _ | refine blk_drew ?_ | refine blk_alloc ?_ _)); exact BK466.out⟩
          have n8_ : Aside0 (Below w.heap.size w ((w75.setCell ⟨gb466, 0, none⟩ (.string t461)).setCell ⟨gb466, 1, none⟩ (.slice Ao80 t462.length co80))) := ⟨by repeat (first | (with_reducible first | exact HB.out | apply below_alloc | apply pw_below_drewN | apply below_drew1 | refine below_set ?_ GE434.out | refine below_set ?_ GE443.out | refine below_set ?_ GE449.out | refine below_set ?_ GE466.out) | exact HB.out)⟩
          (try clear HO_444001)
          (try clear HO_450001)
          (try clear HO458)
          (try clear HO464)
          (try clear BK434)
          (try clear BK443)
          (try clear BK449)
          (try clear BK466)
          (try clear HB)
          generalize ((w75.setCell ⟨gb466, 0, none⟩ (.string t461)).setCell ⟨gb466, 1, none⟩ (.slice Ao80 t462.length co80)) = w81 at n0_ n1_ n2_ n3_ n4_ n5_ n6_ n7_ n8_ ⊢
          have HO_444001 := n0_
          have HO_450001 := n1_
          have HO458 := n2_
          have HO464 := n3_
          have BK434 := n4_
          have BK443 := n5_
          have BK449 := n6_
          have BK466 := n7_
          have HB := n8_
          clear n0_ n1_ n2_ n3_ n4_ n5_ n6_ n7_ n8_
          have n0_ := Aside0.mk (Kd.R_drew HO_444001.out)
          have n1_ := Aside0.mk (Kd.R_drew HO_450001.out)
          have n2_ := Aside0.mk (Kd.R_drew HO458.out)
          have n3_ := Aside0.mk (Kd.R_drew HO464.out)
          have n4_ := Aside0.mk (blk_drew BK434.out)
          have n5_ := Aside0.mk (blk_drew BK443.out)
          have n6_ := Aside0.mk (blk_drew BK449.out)
          have n7_ := Aside0.mk (blk_drew BK466.out)
          have n8_ := Aside0.mk (below_drew1 HB.out)
          clear HO_444001
          clear HO_450001
          clear HO458
          clear HO464
          clear BK434
          clear BK443
          clear BK449
          clear BK466
          clear HB
          have HO_444001 := n0_
          have HO_450001 := n1_
          have HO458 := n2_
          have HO464 := n3_
          have BK434 := n4_
          have BK443 := n5_
          have BK449 := n6_
          have BK466 := n7_
          have HB := n8_
          clear n0_ n1_ n2_ n3_ n4_ n5_ n6_ n7_ n8_
          refine start_ (n := 18) (S := fun w' => w'.cell? ⟨gb466, 0, none⟩ = some (.string t461) ∧ w'.cell? ⟨gb466, 1, none⟩ = some (.slice Ao80 t462.length co80) ∧ w'.cell? ⟨gb434, 0, none⟩ = some (.string a1_0) ∧ w'.cell? ⟨gb434, 1, none⟩ = some (.slice A1_1 l1_1.length c1_1)) (ds := []) #[false, false, false, false, false, false, false, false, false, false, false, false, false, false, false, false, false, false] (by kernel_rfl) rfl rfl ⟨(blk_cell BK466.out 0).trans rfl, (blk_cell BK466.out 1).trans rfl, (blk_cell BK434.out 0).trans rfl, (blk_cell BK434.out 1).trans rfl⟩ (fun hHeld => ?_); refine with_tabW culetlaw44_TariffText.tab9 culetlaw44_TariffText.bits9 (fun HT_ HW_ => ?_)
          generalize w81.drew = w82 at HO_444001 HO_450001 HO458 HO464 BK434 BK443 BK449 BK466 HB hHeld ⊢
          refine pure_ (i := 0) (N := some 57) (v := ?_) (a' := ?_) #[true, false, false, false, false, false, false, false, false, false, false, false, false, false, false, false, false, false] rfl rfl (any_of HT_.out (by kernel_rfl)) (fun _ _ _ h => h) (Or.inl ⟨by rfl, ?_⟩) ?_ ?_
          rotate_left
          ·
           intro w'
           go_simp
           with_reducible rfl
          rotate_left
          ·
           simp only [Act.put, List.setIfInBounds_toArray, List.set_cons_zero, List.set_cons_succ, i64_w, i32_w]
           rfl
          refine pure_ (i := 1) (N := some 58) (v := ?_) (a' := ?_) #[true, true, false, false, false, false, false, false, false, false, false, false, false, false, false, false, false, false] rfl rfl (any_of HT_.out (by kernel_rfl)) (fun _ _ _ h => h) (Or.inl ⟨by rfl, ?_⟩) ?_ ?_
          rotate_left
          ·
           intro w'
           go_simp
           with_reducible rfl
          rotate_left
          ·
           simp only [Act.put, List.setIfInBounds_toArray, List.set_cons_zero, List.set_cons_succ, i64_w, i32_w]
           rfl
          refine pure_ (i := 2) (N := some 59) (v := ?_) (a' := ?_) #[true, true, true, false, false, false, false, false, false, false, false, false, false, false, false, false, false, false] rfl rfl (any_of HT_.out (by kernel_rfl)) (fun _ _ _ h => h) (Or.inl ⟨by rfl, ?_⟩) ?_ ?_
          rotate_left
          ·
           intro w'
           go_simp
           with_reducible rfl
          rotate_left
          ·
           simp only [Act.put, List.setIfInBounds_toArray, List.set_cons_zero, List.set_cons_succ, i64_w, i32_w]
           rfl
          refine pure_ (i := 3) (N := some 60) (v := ?_) (a' := ?_) #[true, true, true, true, false, false, false, false, false, false, false, false, false, false, false, false, false, false] rfl rfl (any_of HT_.out (by kernel_rfl)) (fun _ _ _ h => h) (Or.inl ⟨by rfl, ?_⟩) ?_ ?_
          rotate_left
          ·
           intro w'
           go_simp
           with_reducible rfl
          rotate_left
          ·
           simp only [Act.put, List.setIfInBounds_toArray, List.set_cons_zero, List.set_cons_succ, i64_w, i32_w]
           rfl
          refine pure_ (i := 4) (N := some 61) (v := ?_) (a' := ?_) #[true, true, true, true, true, false, false, false, false, false, false, false, false, false, false, false, false, false] rfl rfl (any_of HT_.out (by kernel_rfl)) (fun _ _ _ h => h) (Or.inl ⟨by rfl, ?_⟩) ?_ ?_
          rotate_left
          ·
           intro w'
           go_simp
           with_reducible rfl
          rotate_left
          ·
           simp only [Act.put, List.setIfInBounds_toArray, List.set_cons_zero, List.set_cons_succ, i64_w, i32_w]
           rfl
          refine pure_ (i := 5) (N := some 62) (v := ?_) (a' := ?_) #[true, true, true, true, true, true, false, false, false, false, false, false, false, false, false, false, false, false] rfl rfl (any_of HT_.out (by kernel_rfl)) (fun _ _ _ h => h) (Or.inl ⟨by rfl, ?_⟩) ?_ ?_
          rotate_left
          ·
           intro w'
           go_simp
           with_reducible rfl
          rotate_left
          ·
           simp only [Act.put, List.setIfInBounds_toArray, List.set_cons_zero, List.set_cons_succ, i64_w, i32_w]
           rfl
          refine pure_ (i := 6) (N := some 63) (v := ?_) (a' := ?_) #[true, true, true, true, true, true, true, false, false, false, false, false, false, false, false, false, false, false] rfl rfl (any_of HT_.out (by kernel_rfl)) (fun _ _ _ h => h) (Or.inl ⟨by rfl, ?_⟩) ?_ ?_
          rotate_left
          ·
           intro w'
           go_simp
           with_reducible rfl
          rotate_left
          ·
           simp only [Act.put, List.setIfInBounds_toArray, List.set_cons_zero, List.set_cons_succ, i64_w, i32_w]
           rfl
          refine pure_ (i := 7) (N := some 64) (v := ?_) (a' := ?_) #[true, true, true, true, true, true, true, true, false, false, false, false, false, false, false, false, false, false] rfl rfl (any_of HT_.out (by kernel_rfl)) (fun _ _ _ h => h) (Or.inl ⟨by rfl, ?_⟩) ?_ ?_
          rotate_left
          ·
           intro w'
           go_simp
           with_reducible rfl
          rotate_left
          ·
           simp only [Act.put, List.setIfInBounds_toArray, List.set_cons_zero, List.set_cons_succ, i64_w, i32_w]
           rfl
          refine pure_ (i := 8) (N := some 65) (v := ?_) (a' := ?_) #[true, true, true, true, true, true, true, true, true, false, false, false, false, false, false, false, false, false] rfl rfl (any_of HT_.out (by kernel_rfl)) (fun _ _ _ h => h) (Or.inl ⟨by rfl, ?_⟩) ?_ ?_
          rotate_left
          ·
           intro w'
           go_simp
           with_reducible rfl
          rotate_left
          ·
           simp only [Act.put, List.setIfInBounds_toArray, List.set_cons_zero, List.set_cons_succ, i64_w, i32_w]
           rfl
          refine pure_ (i := 9) (N := some 66) (v := ?_) (a' := ?_) #[true, true, true, true, true, true, true, true, true, true, false, false, false, false, false, false, false, false] rfl rfl (any_of HT_.out (by kernel_rfl)) (fun _ _ _ h => h) (Or.inl ⟨by rfl, ?_⟩) ?_ ?_
          rotate_left
          ·
           intro w'
           go_simp
           with_reducible rfl
          rotate_left
          ·
           simp only [Act.put, List.setIfInBounds_toArray, List.set_cons_zero, List.set_cons_succ, i64_w, i32_w]
           rfl
          refine pure_ (i := 10) (N := some 67) (v := ?_) (a' := ?_) #[true, true, true, true, true, true, true, true, true, true, true, false, false, false, false, false, false, false] rfl rfl (any_of HT_.out (by kernel_rfl)) (fun _ _ _ h => h) (Or.inl ⟨by rfl, ?_⟩) ?_ ?_
          rotate_left
          ·
           intro w'
           go_simp
           with_reducible rfl
          rotate_left
          ·
           simp only [Act.put, List.setIfInBounds_toArray, List.set_cons_zero, List.set_cons_succ, i64_w, i32_w]
           rfl
          refine take_ (i := 11) (N := some 68) (v := ?_) (a' := ?_) #[true, true, true, true, true, true, true, true, true, true, true, true, false, false, false, false, false, false] rfl rfl (take_ofW HT_.out HW_.out (by kernel_rfl)) (fun _ _ _ h => h) (Or.inl ⟨by rfl, ?_⟩) hHeld ?_ ?_
          rotate_left
          ·
           rintro w' ⟨s0, s1, s2, s3⟩
           go_simp
           with_reducible rfl
          rotate_left
          ·
           simp only [Act.put, List.setIfInBounds_toArray, List.set_cons_zero, List.set_cons_succ, i64_w, i32_w]
           rfl
          refine take_ (i := 13) (N := some 70) (v := ?_) (a' := ?_) #[true, true, true, true, true, true, true, true, true, true, true, true, false, true, false, false, false, false] rfl rfl (take_ofW HT_.out HW_.out (by kernel_rfl)) (fun _ _ _ h => h) (Or.inl ⟨by rfl, ?_⟩) hHeld ?_ ?_
          rotate_left
          ·
           rintro w' ⟨s0, s1, s2, s3⟩
           go_simp
           with_reducible rfl
          rotate_left
          ·
           simp only [Act.put, List.setIfInBounds_toArray, List.set_cons_zero, List.set_cons_succ, i64_w, i32_w]
           rfl
          refine one_ (i := 12) (N := some 69) #[true, true, true, true, true, true, true, true, true, true, true, true, true, true, false, false, false, false] rfl rfl (one_of HT_.out (by kernel_rfl)) (by decide) (fun K hK => ?_)
          refine goes_ Tryd.func14 (by kernel_rfl) rfl #[.agg #[.string t461, .slice Ao80 t462.length co80]] (by rfl) rfl rfl (by (try simp only [List.map_toArray, List.map_cons, List.map_nil]); first | done | rfl | (simp only [List.length_drop, List.length_take]; rfl)) ?_
          with_reducible refine (culetlaw44_theirs.calls kj18 t461 _ _ t462 t467 t468 _ ?side1 ?side2 A66.out).mono ?_
          (case side1 => repeat (first | exact (Kd.R_reads' HO464.out).2.2 | (with_reducible refine Kd.C_alloc ?_ _) | (with_reducible refine Kd.C_drewN ?_ _) | (with_reducible refine Kd.C_drew ?_)))
          (case side2 => exact (Kd.R_reads' HO464.out).2.1)
          rintro e w83 ⟨v469, rfl, ho0, hb⟩
          refine ⟨_, rfl, ?_⟩
          have n0_ := Aside0.mk (Kd.R_below (by (with_reducible repeat (first | apply Kd.R_alloc | apply Kd.R_drewN | apply Kd.R_drew)); exact HO_444001.out) hb)
          have n1_ := Aside0.mk (Kd.R_elder' (by (with_reducible repeat (first | apply Kd.R_alloc | apply Kd.R_drewN | apply Kd.R_drew)); exact HO_450001.out) (Kd.R_base ho0) hb)
          have n2_ := Aside0.mk (Kd.R_below (by (with_reducible repeat (first | apply Kd.R_alloc | apply Kd.R_drewN | apply Kd.R_drew)); exact HO458.out) hb)
          have n3_ := Aside0.mk (Kd.R_below (by (with_reducible repeat (first | apply Kd.R_alloc | apply Kd.R_drewN | apply Kd.R_drew)); exact HO464.out) hb)
          have n4_ := Aside0.mk (Kd.R_lower (Kd.R_new' ho0 (Kd.R_lt (by (with_reducible repeat (first | apply Kd.R_alloc | apply Kd.R_drewN | apply Kd.R_drew)); exact HO_450001.out))) (below_size (by repeat (first | (with_reducible first | exact HB.out | apply below_alloc | apply pw_below_drewN | apply below_drew1 | refine below_set ?_ GE434.out | refine below_set ?_ GE443.out | refine below_set ?_ GE449.out | refine below_set ?_ GE466.out) | exact HB.out))))
          have n5_ := Aside0.mk (blk_below (g := gb434) (o := .cells #[.string a1_0, .slice A1_1 l1_1.length c1_1] 24 (0, 0)) (by (with_reducible repeat (first | refine blk_drewN ?_ _ | refine blk_drew ?_ | refine blk_alloc ?_ _)); exact BK434.out) hb)
          have n6_ := Aside0.mk (blk_below (g := gb443) (o := .cells #[.string t438, .slice Ao24 t439.length co24] 29 (0, 0)) (by (with_reducible repeat (first | refine blk_drewN ?_ _ | refine blk_drew ?_ | refine blk_alloc ?_ _)); exact BK443.out) hb)
          have n7_ := Aside0.mk (blk_below (g := gb449) (o := .cells #[.string t444, .slice Ao30 t445.length co30] 24 (0, 0)) (by (with_reducible repeat (first | refine blk_drewN ?_ _ | refine blk_drew ?_ | refine blk_alloc ?_ _)); exact BK449.out) hb)
          have n8_ := Aside0.mk (blk_below (g := gb466) (o := .cells #[.string t461, .slice Ao80 t462.length co80] 29 (0, 0)) (by (with_reducible repeat (first | refine blk_drewN ?_ _ | refine blk_drew ?_ | refine blk_alloc ?_ _)); exact BK466.out) hb)
          have n9_ := Aside0.mk (below_step (by repeat (first | (with_reducible first | exact HB.out | apply below_alloc | apply pw_below_drewN | apply below_drew1 | refine below_set ?_ GE434.out | refine below_set ?_ GE443.out | refine below_set ?_ GE449.out | refine below_set ?_ GE466.out) | exact HB.out)) hb)
          clear HO_444001
          clear HO_450001
          clear HO458
          clear HO464
          clear BK434
          clear BK443
          clear BK449
          clear BK466
          clear HB
          have HO_444001 := n0_
          have HO_450001 := n1_
          have HO458 := n2_
          have HO464 := n3_
          have HO470 := n4_
          have BK434 := n5_
          have BK443 := n6_
          have BK449 := n7_
          have BK466 := n8_
          have HB := n9_
          clear n0_ n1_ n2_ n3_ n4_ n5_ n6_ n7_ n8_ n9_
          (try clear hb)
          (try clear hb2)
          (try clear hk)
          (try clear hi)
          (try clear ho0)
          obtain ⟨Ao84, co84, eo84⟩ := Kd.R_slice HO470.out
          (first | subst eo84 | (injection eo84 with f1_ f2_ f3_; have f4_ := f1_.symm; have f5_ := f3_.symm; clear f1_ f2_ f3_; subst f4_; subst f5_))
          refine hK.out _ _ ⟨(blk_cell BK466.out 0).trans rfl, (blk_cell BK466.out 1).trans rfl, (blk_cell BK434.out 0).trans rfl, (blk_cell BK434.out 1).trans rfl⟩ (fun hHeld => ?_)
          clear hK K
          refine norm_ (a' := ?_) ?_ ?_
          rotate_left
          ·
           show Act.put _ (some 69) _ = _
           simp only [Act.put, List.setIfInBounds_toArray, List.set_cons_zero, List.set_cons_succ, i64_w, i32_w]
           rfl
          refine one_ (i := 14) (N := some 71) #[true, true, true, true, true, true, true, true, true, true, true, true, true, true, true, false, false, false] rfl rfl (one_of HT_.out (by kernel_rfl)) (by decide) (fun K hK => ?_)
          refine goes_ Tryd.func13 (by kernel_rfl) rfl #[.agg #[.string t467, .slice Ao84 t468.length co84], .agg #[.string a1_0, .slice A1_1 l1_1.length c1_1]] (by rfl) rfl rfl (by (try simp only [List.map_toArray, List.map_cons, List.map_nil]); first | done | rfl | (simp only [List.length_drop, List.length_take]; rfl)) ?_
          with_reducible refine (culetref44_Equal.calls kj18 t467 _ _ t468 a1_0 _ _ l1_1 t471 _ ?side1 ?side2 ?side3 ?side4 A67.out).mono ?_
          (case side1 => repeat (first | exact (Kd.R_reads' HO470.out).2.2 | (with_reducible refine Kd.C_alloc ?_ _) | (with_reducible refine Kd.C_drewN ?_ _) | (with_reducible refine Kd.C_drew ?_)))
          (case side2 => exact (Kd.R_reads' HO470.out).2.1)
          (case side3 => repeat (first | exact (Kd.C_below HR1_1.out HB.out) | (with_reducible refine Kd.C_alloc ?_ _) | (with_reducible refine Kd.C_drewN ?_ _) | (with_reducible refine Kd.C_drew ?_)))
          (case side4 => exact HC1_1.out)
          rintro e w85 ⟨rfl, hb⟩
          refine ⟨_, rfl, ?_⟩
          have n0_ := Aside0.mk (Kd.R_below (by (with_reducible repeat (first | apply Kd.R_alloc | apply Kd.R_drewN | apply Kd.R_drew)); exact HO_444001.out) hb)
          have n1_ := Aside0.mk (Kd.R_below (by (with_reducible repeat (first | apply Kd.R_alloc | apply Kd.R_drewN | apply Kd.R_drew)); exact HO_450001.out) hb)
          have n2_ := Aside0.mk (Kd.R_below (by (with_reducible repeat (first | apply Kd.R_alloc | apply Kd.R_drewN | apply Kd.R_drew)); exact HO458.out) hb)
          have n3_ := Aside0.mk (Kd.R_below (by (with_reducible repeat (first | apply Kd.R_alloc | apply Kd.R_drewN | apply Kd.R_drew)); exact HO464.out) hb)
          have n4_ := Aside0.mk (Kd.R_below (by (with_reducible repeat (first | apply Kd.R_alloc | apply Kd.R_drewN | apply Kd.R_drew)); exact HO470.out) hb)
          have n5_ := Aside0.mk (blk_below (g := gb434) (o := .cells #[.string a1_0, .slice A1_1 l1_1.length c1_1] 24 (0, 0)) (by (with_reducible repeat (first | refine blk_drewN ?_ _ | refine blk_drew ?_ | refine blk_alloc ?_ _)); exact BK434.out) hb)
          have n6_ := Aside0.mk (blk_below (g := gb443) (o := .cells #[.string t438, .slice Ao24 t439.length co24] 29 (0, 0)) (by (with_reducible repeat (first | refine blk_drewN ?_ _ | refine blk_drew ?_ | refine blk_alloc ?_ _)); exact BK443.out) hb)
          have n7_ := Aside0.mk (blk_below (g := gb449) (o := .cells #[.string t444, .slice Ao30 t445.length co30] 24 (0, 0)) (by (with_reducible repeat (first | refine blk_drewN ?_ _ | refine blk_drew ?_ | refine blk_alloc ?_ _)); exact BK449.out) hb)
          have n8_ := Aside0.mk (blk_below (g := gb466) (o := .cells #[.string t461, .slice Ao80 t462.length co80] 29 (0, 0)) (by (with_reducible repeat (first | refine blk_drewN ?_ _ | refine blk_drew ?_ | refine blk_alloc ?_ _)); exact BK466.out) hb)
          have n9_ := Aside0.mk (below_step (by repeat (first | (with_reducible first | exact HB.out | apply below_alloc | apply pw_below_drewN | apply below_drew1 | refine below_set ?_ GE434.out | refine below_set ?_ GE443.out | refine below_set ?_ GE449.out | refine below_set ?_ GE466.out) | exact HB.out)) hb)
          clear HO_444001
          clear HO_450001
          clear HO458
          clear HO464
          clear HO470
          clear BK434
          clear BK443
          clear BK449
          clear BK466
          clear HB
          have HO_444001 := n0_
          have HO_450001 := n1_
          have HO458 := n2_
          have HO464 := n3_
          have HO470 := n4_
          have BK434 := n5_
          have BK443 := n6_
          have BK449 := n7_
          have BK466 := n8_
          have HB := n9_
          clear n0_ n1_ n2_ n3_ n4_ n5_ n6_ n7_ n8_ n9_
          (try clear hb)
          (try clear hb2)
          (try clear hk)
          (try clear hi)
          refine hK.out _ _ ⟨(blk_cell BK466.out 0).trans rfl, (blk_cell BK466.out 1).trans rfl, (blk_cell BK434.out 0).trans rfl, (blk_cell BK434.out 1).trans rfl⟩ (fun hHeld => ?_)
          clear hK K
          refine norm_ (a' := ?_) ?_ ?_
          rotate_left
          ·
           show Act.put _ (some 71) _ = _
           simp only [Act.put, List.setIfInBounds_toArray, List.set_cons_zero, List.set_cons_succ, i64_w, i32_w]
           rfl
          refine pure_ (i := 15) (N := some 72) (v := ?_) (a' := ?_) #[true, true, true, true, true, true, true, true, true, true, true, true, true, true, true, true, false, false] rfl rfl (any_of HT_.out (by kernel_rfl)) (fun _ _ _ h => h) (Or.inl ⟨by rfl, ?_⟩) ?_ ?_
          rotate_left
          ·
           intro w'
           go_simp
           with_reducible rfl
          rotate_left
          ·
           simp only [Act.put, List.setIfInBounds_toArray, List.set_cons_zero, List.set_cons_succ, i64_w, i32_w]
           rfl
          refine pure_ (i := 16) (N := some 73) (v := ?_) (a' := ?_) #[true, true, true, true, true, true, true, true, true, true, true, true, true, true, true, true, true, false] rfl rfl (any_of HT_.out (by kernel_rfl)) (fun _ _ _ h => h) (Or.inl ⟨by rfl, ?_⟩) ?_ ?_
          rotate_left
          ·
           intro w'
           go_simp
           with_reducible rfl
          rotate_left
          ·
           simp only [Act.put, List.setIfInBounds_toArray, List.set_cons_zero, List.set_cons_succ, i64_w, i32_w]
           rfl
          refine pure_ (i := 17) (N := some 4) (v := ?_) (a' := ?_) #[true, true, true, true, true, true, true, true, true, true, true, true, true, true, true, true, true, true] rfl rfl (any_of HT_.out (by kernel_rfl)) (fun _ _ _ h => h) (Or.inl ⟨by rfl, ?_⟩) ?_ ?_
          rotate_left
          ·
           intro w'
           go_simp
           with_reducible rfl
          rotate_left
          ·
           simp only [Act.put, List.setIfInBounds_toArray, List.set_cons_zero, List.set_cons_succ, i64_w, i32_w]
           rfl
          refine done_ (done_of HT_.out (by kernel_rfl)) ?_
          try go_wp2
          go_ret
          exact ⟨by first | rfl | (simp [errW_none, errW_some] <;> rfl) | (simp [*, errW_none, errW_some] <;> rfl), by repeat (first | (with_reducible first | exact HB.out | apply below_alloc | apply pw_below_drewN | apply below_drew1 | refine below_set ?_ GE434.out | refine below_set ?_ GE443.out | refine below_set ?_ GE449.out | refine below_set ?_ GE466.out) | exact HB.out)⟩
         ·
          rw [if_neg c65] at H
          have c65b0 : (t465 == 0) = false := beq_eq_false_iff_ne.mpr c65
          have c65b1 : (t465 != 0) = true := bne_iff_ne.mpr c65
          obtain rfl := Option.some.inj H
          have hnb86 := NB434_443.out
          have hnc86 := NB443_434.out
          have hnb87 := NB434_449.out
          have hnc87 := NB449_434.out
          have hcz88_0 : wc.cell? ⟨gb434, 0, none⟩ = some (.string a1_0) := (blk_cell BK434.out 0).trans rfl
          have hcz88_1 : wc.cell? ⟨gb434, 1, none⟩ = some (.slice A1_1 l1_1.length c1_1) := (blk_cell BK434.out 1).trans rfl
          have hfz88_0 := blk_frozen BK434.out 0
          have hfz88_1 := blk_frozen BK434.out 1
          try go_wp2_with (first | ((with_reducible refine gate_callee (f := 16) rfl ?_); refine goesL_ (some 48) rfl rfl Tryd.func16 (by kernel_rfl) rfl #[.agg #[.string a1_0, .slice A1_1 l1_1.length c1_1]] rfl (by (try simp only [List.map_toArray, List.map_cons, List.map_nil]); first | done | rfl | (simp only [List.length_drop, List.length_take]; rfl)) ?_; (with_reducible refine (culetlaw44_Own.calls kj18 a1_0 _ _ l1_1 t455 t456 _ ?side1 ?side2 A45.out).mono ?_); (case side1 => repeat (first | exact (Kd.C_below HR1_1.out HB.out) | (with_reducible refine Kd.C_alloc ?_ _) | (with_reducible refine Kd.C_drewN ?_ _) | (with_reducible refine Kd.C_drew ?_))); (case side2 => exact HC1_1.out); rintro e w89 ⟨v457, rfl, ho0, hb⟩; refine ⟨_, rfl, ?_⟩; have n0_ := Aside0.mk (Kd.R_elder' (by (with_reducible repeat (first | apply Kd.R_alloc | apply Kd.R_drewN | apply Kd.R_drew)); exact HO_444001.out) (Kd.R_base ho0) hb); have n1_ := Aside0.mk (Kd.R_below (by (with_reducible repeat (first | apply Kd.R_alloc | apply Kd.R_drewN | apply Kd.R_drew)); exact HO_450001.out) hb); have n2_ := Aside0.mk (Kd.R_lower (Kd.R_new' ho0 (Kd.R_lt (by (with_reducible repeat (first | apply Kd.R_alloc | apply Kd.R_drewN | apply Kd.R_drew)); exact HO_444001.out))) (below_size (by repeat (first | (with_reducible first | exact HB.out | apply below_alloc | apply pw_below_drewN | apply below_drew1 | refine below_set ?_ GE434.out | refine below_set ?_ GE443.out | refine below_set ?_ GE449.out) | exact HB.out)))); have n3_ := Aside0.mk (blk_below (g := gb434) (o := .cells #[.string a1_0, .slice A1_1 l1_1.length c1_1] 24 (0, 0)) (by (with_reducible repeat (first | refine blk_drewN ?_ _ | refine blk_drew ?_ | refine blk_alloc ?_ _)); exact BK434.out) hb); have n4_ := Aside0.mk (blk_below (g := gb443) (o := .cells #[.string t438, .slice Ao24 t439.length co24] 29 (0, 0)) (by (with_reducible repeat (first | refine blk_drewN ?_ _ | refine blk_drew ?_ | refine blk_alloc ?_ _)); exact BK443.out) hb); have n5_ := Aside0.mk (blk_below (g := gb449) (o := .cells #[.string t444, .slice Ao30 t445.length co30] 24 (0, 0)) (by (with_reducible repeat (first | refine blk_drewN ?_ _ | refine blk_drew ?_ | refine blk_alloc ?_ _)); exact BK449.out) hb); have n6_ := Aside0.mk (below_step (by repeat (first | (with_reducible first | exact HB.out | apply below_alloc | apply pw_below_drewN | apply below_drew1 | refine below_set ?_ GE434.out | refine below_set ?_ GE443.out | refine below_set ?_ GE449.out) | exact HB.out)) hb); clear HO_444001; clear HO_450001; clear BK434; clear BK443; clear BK449; clear HB; have HO_444001 := n0_; have HO_450001 := n1_; have HO458 := n2_; have BK434 := n3_; have BK443 := n4_; have BK449 := n5_; have HB := n6_; clear n0_ n1_ n2_ n3_ n4_ n5_ n6_; (try clear hb); (try clear hb2); (try clear hk); (try clear hi); (try clear ho0); obtain ⟨Ao90, co90, eo90⟩ := Kd.R_slice HO458.out; subst eo90) | ((with_reducible refine gate_callee (f := 15) rfl ?_); refine goesL_ (some 49) rfl rfl Tryd.func15 (by kernel_rfl) rfl #[.agg #[.string t455, .slice Ao90 t456.length co90]] rfl (by (try simp only [List.map_toArray, List.map_cons, List.map_nil]); first | done | rfl | (simp only [List.length_drop, List.length_take]; rfl)) ?_; (with_reducible refine (tariff_Print.calls kj18 t455 _ _ t456 t459 t460 _ (HTW.out.at (by repeat (first | (with_reducible first | exact HB.out | apply below_alloc | apply pw_below_drewN | apply below_drew1 | refine below_set ?_ GE434.out | refine below_set ?_ GE443.out | refine below_set ?_ GE449.out | refine below_set ?_ GE466.out) | exact HB.out))) ?side1 ?side2 A46.out).mono ?_); (case side1 => repeat (first | exact (Kd.R_reads' HO458.out).2.2 | (with_reducible refine Kd.C_alloc ?_ _) | (with_reducible refine Kd.C_drewN ?_ _) | (with_reducible refine Kd.C_drew ?_))); (case side2 => exact (Kd.R_reads' HO458.out).2.1); rintro e w91 ⟨rfl, hb⟩; refine ⟨_, rfl, ?_⟩; have n0_ := Aside0.mk (Kd.R_below (by (with_reducible repeat (first | apply Kd.R_alloc | apply Kd.R_drewN | apply Kd.R_drew)); exact HO_444001.out) hb); have n1_ := Aside0.mk (Kd.R_below (by (with_reducible repeat (first | apply Kd.R_alloc | apply Kd.R_drewN | apply Kd.R_drew)); exact HO_450001.out) hb); have n2_ := Aside0.mk (Kd.R_below (by (with_reducible repeat (first | apply Kd.R_alloc | apply Kd.R_drewN | apply Kd.R_drew)); exact HO458.out) hb); have n3_ := Aside0.mk (blk_below (g := gb434) (o := .cells #[.string a1_0, .slice A1_1 l1_1.length c1_1] 24 (0, 0)) (by (with_reducible repeat (first | refine blk_drewN ?_ _ | refine blk_drew ?_ | refine blk_alloc ?_ _)); exact BK434.out) hb); have n4_ := Aside0.mk (blk_below (g := gb443) (o := .cells #[.string t438, .slice Ao24 t439.length co24] 29 (0, 0)) (by (with_reducible repeat (first | refine blk_drewN ?_ _ | refine blk_drew ?_ | refine blk_alloc ?_ _)); exact BK443.out) hb); have n5_ := Aside0.mk (blk_below (g := gb449) (o := .cells #[.string t444, .slice Ao30 t445.length co30] 24 (0, 0)) (by (with_reducible repeat (first | refine blk_drewN ?_ _ | refine blk_drew ?_ | refine blk_alloc ?_ _)); exact BK449.out) hb); have n6_ := Aside0.mk (below_step (by repeat (first | (with_reducible first | exact HB.out | apply below_alloc | apply pw_below_drewN | apply below_drew1 | refine below_set ?_ GE434.out | refine below_set ?_ GE443.out | refine below_set ?_ GE449.out) | exact HB.out)) hb); clear HO_444001; clear HO_450001; clear HO458; clear BK434; clear BK443; clear BK449; clear HB; have HO_444001 := n0_; have HO_450001 := n1_; have HO458 := n2_; have BK434 := n3_; have BK443 := n4_; have BK449 := n5_; have HB := n6_; clear n0_ n1_ n2_ n3_ n4_ n5_ n6_; (try clear hb); (try clear hb2); (try clear hk); (try clear hi)) | ((with_reducible refine gate_callee (f := 11) rfl ?_); refine goesL_ (some 54) rfl rfl Tryd.func11 (by kernel_rfl) rfl #[.string t459] rfl (by (try simp only [List.map_toArray, List.map_cons, List.map_nil]); first | done | rfl | (simp only [List.length_drop, List.length_take]; rfl)) ?_; (with_reducible refine (tariff_Parse.calls kj18 t459 t461 t462 t465 _ (HTW.out.at (by repeat (first | (with_reducible first | exact HB.out | apply below_alloc | apply pw_below_drewN | apply below_drew1 | refine below_set ?_ GE434.out | refine below_set ?_ GE443.out | refine below_set ?_ GE449.out | refine below_set ?_ GE466.out) | exact HB.out))) A47.out).mono ?_); rintro e w92 ⟨v463, rfl, ho0, hb⟩; refine ⟨_, rfl, ?_⟩; have n0_ := Aside0.mk (Kd.R_elder' (by (with_reducible repeat (first | apply Kd.R_alloc | apply Kd.R_drewN | apply Kd.R_drew)); exact HO_444001.out) (Kd.R_base ho0) hb); have n1_ := Aside0.mk (Kd.R_below (by (with_reducible repeat (first | apply Kd.R_alloc | apply Kd.R_drewN | apply Kd.R_drew)); exact HO_450001.out) hb); have n2_ := Aside0.mk (Kd.R_elder' (by (with_reducible repeat (first | apply Kd.R_alloc | apply Kd.R_drewN | apply Kd.R_drew)); exact HO458.out) (Kd.R_base ho0) hb); have n3_ := Aside0.mk (Kd.R_lower (Kd.R_new' (Kd.R_new' ho0 (Kd.R_lt (by (with_reducible repeat (first | apply Kd.R_alloc | apply Kd.R_drewN | apply Kd.R_drew)); exact HO_444001.out))) (Kd.R_lt (by (with_reducible repeat (first | apply Kd.R_alloc | apply Kd.R_drewN | apply Kd.R_drew)); exact HO458.out))) (below_size (by repeat (first | (with_reducible first | exact HB.out | apply below_alloc | apply pw_below_drewN | apply below_drew1 | refine below_set ?_ GE434.out | refine below_set ?_ GE443.out | refine below_set ?_ GE449.out) | exact HB.out)))); have n4_ := Aside0.mk (blk_below (g := gb434) (o := .cells #[.string a1_0, .slice A1_1 l1_1.length c1_1] 24 (0, 0)) (by (with_reducible repeat (first | refine blk_drewN ?_ _ | refine blk_drew ?_ | refine blk_alloc ?_ _)); exact BK434.out) hb); have n5_ := Aside0.mk (blk_below (g := gb443) (o := .cells #[.string t438, .slice Ao24 t439.length co24] 29 (0, 0)) (by (with_reducible repeat (first | refine blk_drewN ?_ _ | refine blk_drew ?_ | refine blk_alloc ?_ _)); exact BK443.out) hb); have n6_ := Aside0.mk (blk_below (g := gb449) (o := .cells #[.string t444, .slice Ao30 t445.length co30] 24 (0, 0)) (by (with_reducible repeat (first | refine blk_drewN ?_ _ | refine blk_drew ?_ | refine blk_alloc ?_ _)); exact BK449.out) hb); have n7_ := Aside0.mk (below_step (by repeat (first | (with_reducible first | exact HB.out | apply below_alloc | apply pw_below_drewN | apply below_drew1 | refine below_set ?_ GE434.out | refine below_set ?_ GE443.out | refine below_set ?_ GE449.out) | exact HB.out)) hb); clear HO_444001; clear HO_450001; clear HO458; clear BK434; clear BK443; clear BK449; clear HB; have HO_444001 := n0_; have HO_450001 := n1_; have HO458 := n2_; have HO464 := n3_; have BK434 := n4_; have BK443 := n5_; have BK449 := n6_; have HB := n7_; clear n0_ n1_ n2_ n3_ n4_ n5_ n6_ n7_; (try clear hb); (try clear hb2); (try clear hk); (try clear hi); (try clear ho0)) | ((with_reducible refine gate_dst (N := 11) rfl ?_); (try (refine gate_guard (by rfl) ?_; dsimp only)); refine box_event ?hg (N := 11) ?hd (cs := #[.string (⟨#[]⟩ : ByteArray), .slice none 0 0]) (t := 29) ?hr ?_; (case hd => rfl); (case hg => rfl); (case hr => first | (go_simp; done) | (go_simp; rfl)); intro gb466 hg w93 hbox hb; have n0_ := Aside0.mk (Kd.R_below (by (with_reducible repeat (first | apply Kd.R_alloc | apply Kd.R_drewN | apply Kd.R_drew)); exact HO_444001.out) hb); have n1_ := Aside0.mk (Kd.R_below (by (with_reducible repeat (first | apply Kd.R_alloc | apply Kd.R_drewN | apply Kd.R_drew)); exact HO_450001.out) hb); have n2_ := Aside0.mk (Kd.R_below (by (with_reducible repeat (first | apply Kd.R_alloc | apply Kd.R_drewN | apply Kd.R_drew)); exact HO458.out) hb); have n3_ := Aside0.mk (Kd.R_below (by (with_reducible repeat (first | apply Kd.R_alloc | apply Kd.R_drewN | apply Kd.R_drew)); exact HO464.out) hb); have n4_ := Aside0.mk (blk_below (g := gb434) (o := .cells #[.string a1_0, .slice A1_1 l1_1.length c1_1] 24 (0, 0)) (by (with_reducible repeat (first | refine blk_drewN ?_ _ | refine blk_drew ?_ | refine blk_alloc ?_ _)); exact BK434.out) hb); have n5_ := Aside0.mk (blk_below (g := gb443) (o := .cells #[.string t438, .slice Ao24 t439.length co24] 29 (0, 0)) (by (with_reducible repeat (first | refine blk_drewN ?_ _ | refine blk_drew ?_ | refine blk_alloc ?_ _)); exact BK443.out) hb); have n6_ := Aside0.mk (blk_below (g := gb449) (o := .cells #[.string t444, .slice Ao30 t445.length co30] 24 (0, 0)) (by (with_reducible repeat (first | refine blk_drewN ?_ _ | refine blk_drew ?_ | refine blk_alloc ?_ _)); exact BK449.out) hb); have n7_ := Aside0.mk (below_step (by repeat (first | (with_reducible first | exact HB.out | apply below_alloc | apply pw_below_drewN | apply below_drew1 | refine below_set ?_ GE434.out | refine below_set ?_ GE443.out | refine below_set ?_ GE449.out) | exact HB.out)) hb); have n8_ := Aside0.mk (hbox); have n9_ := Aside0.mk ((by rw [hg]; exact (below_size (by repeat (first | (with_reducible first | exact HB.out | apply below_alloc | apply pw_below_drewN | apply below_drew1 | refine below_set ?_ GE434.out | refine below_set ?_ GE443.out | refine below_set ?_ GE449.out) | exact HB.out))) : w.heap.size ≤ gb466)); have n10_ := Aside0.mk ((by rw [hg]; exact (below_size (by repeat (first | (with_reducible first | exact HB.out | apply below_alloc | apply pw_below_drewN | apply below_drew1 | refine below_set ?_ GE434.out | refine below_set ?_ GE443.out | refine below_set ?_ GE449.out) | exact HB.out))) : w.heap.size ≤ gb466)); have n11_ := Aside0.mk ((by rw [hg]; exact Nat.ne_of_lt (blk_lt (g := gb434) (o := .cells #[.string a1_0, .slice A1_1 l1_1.length c1_1] 24 (0, 0)) (by (with_reducible repeat (first | refine blk_drewN ?_ _ | refine blk_drew ?_ | refine blk_alloc ?_ _)); exact BK434.out)) : gb434 ≠ gb466)); have n12_ := Aside0.mk ((by rw [hg]; exact Nat.ne_of_gt (blk_lt (g := gb434) (o := .cells #[.string a1_0, .slice A1_1 l1_1.length c1_1] 24 (0, 0)) (by (with_reducible repeat (first | refine blk_drewN ?_ _ | refine blk_drew ?_ | refine blk_alloc ?_ _)); exact BK434.out)) : gb466 ≠ gb434)); have n13_ := Aside0.mk ((by rw [hg]; exact Nat.ne_of_lt (blk_lt (g := gb443) (o := .cells #[.string t438, .slice Ao24 t439.length co24] 29 (0, 0)) (by (with_reducible repeat (first | refine blk_drewN ?_ _ | refine blk_drew ?_ | refine blk_alloc ?_ _)); exact BK443.out)) : gb443 ≠ gb466)); have n14_ := Aside0.mk ((by rw [hg]; exact Nat.ne_of_gt (blk_lt (g := gb443) (o := .cells #[.string t438, .slice Ao24 t439.length co24] 29 (0, 0)) (by (with_reducible repeat (first | refine blk_drewN ?_ _ | refine blk_drew ?_ | refine blk_alloc ?_ _)); exact BK443.out)) : gb466 ≠ gb443)); have n15_ := Aside0.mk ((by rw [hg]; exact Nat.ne_of_lt (blk_lt (g := gb449) (o := .cells #[.string t444, .slice Ao30 t445.length co30] 24 (0, 0)) (by (with_reducible repeat (first | refine blk_drewN ?_ _ | refine blk_drew ?_ | refine blk_alloc ?_ _)); exact BK449.out)) : gb449 ≠ gb466)); have n16_ := Aside0.mk ((by rw [hg]; exact Nat.ne_of_gt (blk_lt (g := gb449) (o := .cells #[.string t444, .slice Ao30 t445.length co30] 24 (0, 0)) (by (with_reducible repeat (first | refine blk_drewN ?_ _ | refine blk_drew ?_ | refine blk_alloc ?_ _)); exact BK449.out)) : gb466 ≠ gb449)); clear HO_444001; clear HO_450001; clear HO458; clear HO464; clear BK434; clear BK443; clear BK449; clear HB; have HO_444001 := n0_; have HO_450001 := n1_; have HO458 := n2_; have HO464 := n3_; have BK434 := n4_; have BK443 := n5_; have BK449 := n6_; have HB := n7_; have BK466 := n8_; have GW466 := n9_; have GE466 := n10_; have NB434_466 := n11_; have NB466_434 := n12_; have NB443_466 := n13_; have NB466_443 := n14_; have NB449_466 := n15_; have NB466_449 := n16_; clear n0_ n1_ n2_ n3_ n4_ n5_ n6_ n7_ n8_ n9_ n10_ n11_ n12_ n13_ n14_ n15_ n16_; clear hb hbox hg; have hnb94 := NB466_434.out; have hnc94 := NB434_466.out; have hnb95 := NB466_443.out; have hnc95 := NB443_466.out; have hnb96 := NB466_449.out; have hnc96 := NB449_466.out; have hcz97_0 : w93.cell? ⟨gb466, 0, none⟩ = some (.string (⟨#[]⟩ : ByteArray)) := (blk_cell BK466.out 0).trans rfl; have hcz97_1 : w93.cell? ⟨gb466, 1, none⟩ = some (.slice none 0 0) := (blk_cell BK466.out 1).trans rfl; have hfz97_0 := blk_frozen BK466.out 0; have hfz97_1 := blk_frozen BK466.out 1; obtain ⟨Ao98, co98, eo98⟩ := Kd.R_slice HO464.out; subst eo98))
          have n0_ : Aside0 (Kd.R k63 63 ((w93.setCell ⟨gb466, 0, none⟩ (.string t461)).setCell ⟨gb466, 1, none⟩ (.slice Ao98 t462.length co98)) w.heap.size (fun k_ => some k_ ≠ (.slice Ao90 t456.length co90 : Value).ownBlock ∧ some k_ ≠ (.slice Ao98 t462.length co98 : Value).ownBlock) (.slice Ao24 t439.length co24) t439) := ⟨by (with_reducible repeat (first | apply Kd.R_alloc | apply Kd.R_drewN | apply Kd.R_drew)); exact Kd.R_mono (Kd.R_far (p := ⟨gb466, 1, none⟩) (Kd.R_far (p := ⟨gb466, 0, none⟩) (Kd.R_types HO_444001.out BK466.out (by decide)) (fun _ hk => hk.2) (.string t461)) (fun _ hk => hk.2) (.slice Ao98 t462.length co98)) (fun _ hk => ⟨hk.1.1.2, hk.1.2⟩)⟩
          have n1_ : Aside0 (Kd.R k42 42 ((w93.setCell ⟨gb466, 0, none⟩ (.string t461)).setCell ⟨gb466, 1, none⟩ (.slice Ao98 t462.length co98)) w.heap.size (fun _ => True) (.slice Ao30 t445.length co30) t445) := ⟨by (with_reducible repeat (first | apply Kd.R_alloc | apply Kd.R_drewN | apply Kd.R_drew)); exact Kd.R_mono (Kd.R_far (p := ⟨gb466, 1, none⟩) (Kd.R_far (p := ⟨gb466, 0, none⟩) (Kd.R_types HO_450001.out BK466.out (by decide)) (fun _ hk => hk.2) (.string t461)) (fun _ hk => hk.2) (.slice Ao98 t462.length co98)) (fun _ hk => trivial)⟩
          have n2_ : Aside0 (Kd.R k63 63 ((w93.setCell ⟨gb466, 0, none⟩ (.string t461)).setCell ⟨gb466, 1, none⟩ (.slice Ao98 t462.length co98)) w.heap.size (fun k_ => some k_ ≠ (.slice Ao24 t439.length co24 : Value).ownBlock ∧ some k_ ≠ (.slice Ao98 t462.length co98 : Value).ownBlock) (.slice Ao90 t456.length co90) t456) := ⟨by (with_reducible repeat (first | apply Kd.R_alloc | apply Kd.R_drewN | apply Kd.R_drew)); exact Kd.R_mono (Kd.R_far (p := ⟨gb466, 1, none⟩) (Kd.R_far (p := ⟨gb466, 0, none⟩) (Kd.R_types HO458.out BK466.out (by decide)) (fun _ hk => hk.2) (.string t461)) (fun _ hk => hk.2) (.slice Ao98 t462.length co98)) (fun _ hk => ⟨hk.1.1.2, hk.1.2⟩)⟩
          have n3_ : Aside0 (Kd.R k63 63 ((w93.setCell ⟨gb466, 0, none⟩ (.string t461)).setCell ⟨gb466, 1, none⟩ (.slice Ao98 t462.length co98)) w.heap.size (fun k_ => some k_ ≠ (.slice Ao24 t439.length co24 : Value).ownBlock ∧ some k_ ≠ (.slice Ao90 t456.length co90 : Value).ownBlock) (.slice Ao98 t462.length co98) t462) := ⟨by (with_reducible repeat (first | apply Kd.R_alloc | apply Kd.R_drewN | apply Kd.R_drew)); exact Kd.R_mono (Kd.R_far (p := ⟨gb466, 1, none⟩) (Kd.R_far (p := ⟨gb466, 0, none⟩) (Kd.R_types HO464.out BK466.out (by decide)) (fun _ hk => hk.2) (.string t461)) (fun _ hk => hk.2) (.slice Ao98 t462.length co98)) (fun _ hk => ⟨hk.1.1.2, hk.1.2⟩)⟩
          have n4_ : Aside0 (((w93.setCell ⟨gb466, 0, none⟩ (.string t461)).setCell ⟨gb466, 1, none⟩ (.slice Ao98 t462.length co98)).heap[gb434]? = some (.cells #[.string a1_0, .slice A1_1 l1_1.length c1_1] 24 (0, 0))) := ⟨by (with_reducible repeat (first | refine blk_drewN ?_ _ | refine blk_drew ?_ | refine blk_alloc ?_ _)); refine blk_far ?_ NB434_466.out _; (with_reducible repeat (first | refine blk_drewN ?_ _ | refine blk_drew ?_ | refine blk_alloc ?_ _)); refine blk_far ?_ NB434_466.out _; (with_reducible repeat (first | refine blk_drewN ?_ _ | refine blk_drew ?_ | refine blk_alloc ?_ _)); exact BK434.out⟩
          have n5_ : Aside0 (((w93.setCell ⟨gb466, 0, none⟩ (.string t461)).setCell ⟨gb466, 1, none⟩ (.slice Ao98 t462.length co98)).heap[gb443]? = some (.cells #[.string t438, .slice Ao24 t439.length co24] 29 (0, 0))) := ⟨by (with_reducible repeat (first | refine blk_drewN ?_ _ | refine blk_drew ?_ | refine blk_alloc ?_ _)); refine blk_far ?_ NB443_466.out _; (with_reducible repeat (first | refine blk_drewN ?_ _ | refine blk_drew ?_ | refine blk_alloc ?_ _)); refine blk_far ?_ NB443_466.out _; (with_reducible repeat (first | refine blk_drewN ?_ _ | refine blk_drew ?_ | refine blk_alloc ?_ _)); exact BK443.out⟩
          have n6_ : Aside0 (((w93.setCell ⟨gb466, 0, none⟩ (.string t461)).setCell ⟨gb466, 1, none⟩ (.slice Ao98 t462.length co98)).heap[gb449]? = some (.cells #[.string t444, .slice Ao30 t445.length co30] 24 (0, 0))) := ⟨by (with_reducible repeat (first | refine blk_drewN ?_ _ | refine blk_drew ?_ | refine blk_alloc ?_ _)); refine blk_far ?_ NB449_466.out _; (with_reducible repeat (first | refine blk_drewN ?_ _ | refine blk_drew ?_ | refine blk_alloc ?_ _)); refine blk_far ?_ NB449_466.out _; (with_reducible repeat (first | refine blk_drewN ?_ _ | refine blk_drew ?_ | refine blk_alloc ?_ _)); exact BK449.out⟩
          have n7_ : Aside0 (((w93.setCell ⟨gb466, 0, none⟩ (.string t461)).setCell ⟨gb466, 1, none⟩ (.slice Ao98 t462.length co98)).heap[gb466]? = some (.cells #[.string t461, .slice Ao98 t462.length co98] 29 (0, 0))) := ⟨by (with_reducible repeat (first | refine blk_drewN ?_ _ | refine blk_drew ?_ | refine blk_alloc ?_ _)); refine blk_put (cs := #[.string t461, .slice none 0 0]) ?_ 1 _ rfl; (with_reducible repeat (first | refine blk_drewN ?_ _ | refine blk_drew ?_ | refine blk_alloc ?_ _)); refine blk_put (cs := #[.string (⟨#[]⟩ : ByteArray), .slice none 0 0]) ?_ 0 _ rfl; (with_reducible repeat (first | refine blk_drewN ?_ _ | refine blk_drew ?_ | refine blk_alloc ?_ _)); exact BK466.out⟩
          have n8_ : Aside0 (Below w.heap.size w ((w93.setCell ⟨gb466, 0, none⟩ (.string t461)).setCell ⟨gb466, 1, none⟩ (.slice Ao98 t462.length co98))) := ⟨by repeat (first | (with_reducible first | exact HB.out | apply below_alloc | apply pw_below_drewN | apply below_drew1 | refine below_set ?_ GE434.out | refine below_set ?_ GE443.out | refine below_set ?_ GE449.out | refine below_set ?_ GE466.out) | exact HB.out)⟩
          (try clear HO_444001)
          (try clear HO_450001)
          (try clear HO458)
          (try clear HO464)
          (try clear BK434)
          (try clear BK443)
          (try clear BK449)
          (try clear BK466)
          (try clear HB)
          generalize ((w93.setCell ⟨gb466, 0, none⟩ (.string t461)).setCell ⟨gb466, 1, none⟩ (.slice Ao98 t462.length co98)) = w99 at n0_ n1_ n2_ n3_ n4_ n5_ n6_ n7_ n8_ ⊢
          have HO_444001 := n0_
          have HO_450001 := n1_
          have HO458 := n2_
          have HO464 := n3_
          have BK434 := n4_
          have BK443 := n5_
          have BK449 := n6_
          have BK466 := n7_
          have HB := n8_
          clear n0_ n1_ n2_ n3_ n4_ n5_ n6_ n7_ n8_
          have n0_ := Aside0.mk (Kd.R_drew HO_444001.out)
          have n1_ := Aside0.mk (Kd.R_drew HO_450001.out)
          have n2_ := Aside0.mk (Kd.R_drew HO458.out)
          have n3_ := Aside0.mk (Kd.R_drew HO464.out)
          have n4_ := Aside0.mk (blk_drew BK434.out)
          have n5_ := Aside0.mk (blk_drew BK443.out)
          have n6_ := Aside0.mk (blk_drew BK449.out)
          have n7_ := Aside0.mk (blk_drew BK466.out)
          have n8_ := Aside0.mk (below_drew1 HB.out)
          clear HO_444001
          clear HO_450001
          clear HO458
          clear HO464
          clear BK434
          clear BK443
          clear BK449
          clear BK466
          clear HB
          have HO_444001 := n0_
          have HO_450001 := n1_
          have HO458 := n2_
          have HO464 := n3_
          have BK434 := n4_
          have BK443 := n5_
          have BK449 := n6_
          have BK466 := n7_
          have HB := n8_
          clear n0_ n1_ n2_ n3_ n4_ n5_ n6_ n7_ n8_
          refine start_ (n := 18) (S := fun w' => True) (ds := []) #[false, false, false, false, false, false, false, false, false, false, false, false, false, false, false, false, false, false] (by kernel_rfl) rfl rfl trivial (fun hHeld => ?_); refine with_tabW culetlaw44_TariffText.tab9 culetlaw44_TariffText.bits9 (fun HT_ HW_ => ?_)
          generalize w99.drew = w100 at HO_444001 HO_450001 HO458 HO464 BK434 BK443 BK449 BK466 HB hHeld ⊢
          refine pure_ (i := 0) (N := some 57) (v := ?_) (a' := ?_) #[true, false, false, false, false, false, false, false, false, false, false, false, false, false, false, false, false, false] rfl rfl (any_of HT_.out (by kernel_rfl)) (fun _ _ _ h => h) (Or.inl ⟨by rfl, ?_⟩) ?_ ?_
          rotate_left
          ·
           intro w'
           go_simp
           with_reducible rfl
          rotate_left
          ·
           simp only [Act.put, List.setIfInBounds_toArray, List.set_cons_zero, List.set_cons_succ, i64_w, i32_w]
           rfl
          refine pure_ (i := 1) (N := some 58) (v := ?_) (a' := ?_) #[true, true, false, false, false, false, false, false, false, false, false, false, false, false, false, false, false, false] rfl rfl (any_of HT_.out (by kernel_rfl)) (fun _ _ _ h => h) (Or.inl ⟨by rfl, ?_⟩) ?_ ?_
          rotate_left
          ·
           intro w'
           go_simp
           with_reducible rfl
          rotate_left
          ·
           simp only [Act.put, List.setIfInBounds_toArray, List.set_cons_zero, List.set_cons_succ, i64_w, i32_w]
           rfl
          refine pure_ (i := 2) (N := some 59) (v := ?_) (a' := ?_) #[true, true, true, false, false, false, false, false, false, false, false, false, false, false, false, false, false, false] rfl rfl (any_of HT_.out (by kernel_rfl)) (fun _ _ _ h => h) (Or.inl ⟨by rfl, ?_⟩) ?_ ?_
          rotate_left
          ·
           intro w'
           go_simp
           with_reducible rfl
          rotate_left
          ·
           simp only [Act.put, List.setIfInBounds_toArray, List.set_cons_zero, List.set_cons_succ, i64_w, i32_w]
           rfl
          refine pure_ (i := 3) (N := some 60) (v := ?_) (a' := ?_) #[true, true, true, true, false, false, false, false, false, false, false, false, false, false, false, false, false, false] rfl rfl (any_of HT_.out (by kernel_rfl)) (fun _ _ _ h => h) (Or.inl ⟨by rfl, ?_⟩) ?_ ?_
          rotate_left
          ·
           intro w'
           go_simp
           with_reducible rfl
          rotate_left
          ·
           simp only [Act.put, List.setIfInBounds_toArray, List.set_cons_zero, List.set_cons_succ, i64_w, i32_w]
           rfl
          refine pure_ (i := 4) (N := some 61) (v := ?_) (a' := ?_) #[true, true, true, true, true, false, false, false, false, false, false, false, false, false, false, false, false, false] rfl rfl (any_of HT_.out (by kernel_rfl)) (fun _ _ _ h => h) (Or.inl ⟨by rfl, ?_⟩) ?_ ?_
          rotate_left
          ·
           intro w'
           go_simp
           with_reducible rfl
          rotate_left
          ·
           simp only [Act.put, List.setIfInBounds_toArray, List.set_cons_zero, List.set_cons_succ, i64_w, i32_w]
           rfl
          refine pure_ (i := 5) (N := some 62) (v := ?_) (a' := ?_) #[true, true, true, true, true, true, false, false, false, false, false, false, false, false, false, false, false, false] rfl rfl (any_of HT_.out (by kernel_rfl)) (fun _ _ _ h => h) (Or.inl ⟨by rfl, ?_⟩) ?_ ?_
          rotate_left
          ·
           intro w'
           go_simp
           with_reducible rfl
          rotate_left
          ·
           simp only [Act.put, List.setIfInBounds_toArray, List.set_cons_zero, List.set_cons_succ, i64_w, i32_w]
           rfl
          refine pure_ (i := 6) (N := some 63) (v := ?_) (a' := ?_) #[true, true, true, true, true, true, true, false, false, false, false, false, false, false, false, false, false, false] rfl rfl (any_of HT_.out (by kernel_rfl)) (fun _ _ _ h => h) (Or.inl ⟨by rfl, ?_⟩) ?_ ?_
          rotate_left
          ·
           intro w'
           go_simp
           with_reducible rfl
          rotate_left
          ·
           simp only [Act.put, List.setIfInBounds_toArray, List.set_cons_zero, List.set_cons_succ, i64_w, i32_w]
           rfl
          refine pure_ (i := 7) (N := some 64) (v := ?_) (a' := ?_) #[true, true, true, true, true, true, true, true, false, false, false, false, false, false, false, false, false, false] rfl rfl (any_of HT_.out (by kernel_rfl)) (fun _ _ _ h => h) (Or.inl ⟨by rfl, ?_⟩) ?_ ?_
          rotate_left
          ·
           intro w'
           go_simp
           with_reducible rfl
          rotate_left
          ·
           simp only [Act.put, List.setIfInBounds_toArray, List.set_cons_zero, List.set_cons_succ, i64_w, i32_w]
           rfl
          refine pure_ (i := 8) (N := some 65) (v := ?_) (a' := ?_) #[true, true, true, true, true, true, true, true, true, false, false, false, false, false, false, false, false, false] rfl rfl (any_of HT_.out (by kernel_rfl)) (fun _ _ _ h => h) (Or.inl ⟨by rfl, ?_⟩) ?_ ?_
          rotate_left
          ·
           intro w'
           go_simp
           with_reducible rfl
          rotate_left
          ·
           simp only [Act.put, List.setIfInBounds_toArray, List.set_cons_zero, List.set_cons_succ, i64_w, i32_w]
           rfl
          refine pure_ (i := 9) (N := some 66) (v := ?_) (a' := ?_) #[true, true, true, true, true, true, true, true, true, true, false, false, false, false, false, false, false, false] rfl rfl (any_of HT_.out (by kernel_rfl)) (fun _ _ _ h => h) (Or.inl ⟨by rfl, ?_⟩) ?_ ?_
          rotate_left
          ·
           intro w'
           go_simp
           with_reducible rfl
          rotate_left
          ·
           simp only [Act.put, List.setIfInBounds_toArray, List.set_cons_zero, List.set_cons_succ, i64_w, i32_w]
           rfl
          refine pure_ (i := 10) (N := some 67) (v := ?_) (a' := ?_) #[true, true, true, true, true, true, true, true, true, true, true, false, false, false, false, false, false, false] rfl rfl (any_of HT_.out (by kernel_rfl)) (fun _ _ _ h => h) (Or.inl ⟨by rfl, ?_⟩) ?_ ?_
          rotate_left
          ·
           intro w'
           go_simp
           with_reducible rfl
          rotate_left
          ·
           simp only [Act.put, List.setIfInBounds_toArray, List.set_cons_zero, List.set_cons_succ, i64_w, i32_w]
           rfl
          refine pure_ (i := 11) (N := some 68) (v := undef) (a' := ?_) #[true, true, true, true, true, true, true, true, true, true, true, true, false, false, false, false, false, false] rfl rfl (any_of HT_.out (by kernel_rfl)) (fun _ _ _ h => h) (Or.inr ⟨by rfl, rfl⟩) ?_ ?_
          rotate_left
          ·
           simp only [Act.put, List.setIfInBounds_toArray, List.set_cons_zero, List.set_cons_succ, i64_w, i32_w]
           rfl
          refine pure_ (i := 12) (N := some 69) (v := undef) (a' := ?_) #[true, true, true, true, true, true, true, true, true, true, true, true, true, false, false, false, false, false] rfl rfl (any_of HT_.out (by kernel_rfl)) (fun _ _ _ h => h) (Or.inr ⟨by rfl, rfl⟩) ?_ ?_
          rotate_left
          ·
           simp only [Act.put, List.setIfInBounds_toArray, List.set_cons_zero, List.set_cons_succ, i64_w, i32_w]
           rfl
          refine pure_ (i := 13) (N := some 70) (v := undef) (a' := ?_) #[true, true, true, true, true, true, true, true, true, true, true, true, true, true, false, false, false, false] rfl rfl (any_of HT_.out (by kernel_rfl)) (fun _ _ _ h => h) (Or.inr ⟨by rfl, rfl⟩) ?_ ?_
          rotate_left
          ·
           simp only [Act.put, List.setIfInBounds_toArray, List.set_cons_zero, List.set_cons_succ, i64_w, i32_w]
           rfl
          refine pure_ (i := 14) (N := some 71) (v := undef) (a' := ?_) #[true, true, true, true, true, true, true, true, true, true, true, true, true, true, true, false, false, false] rfl rfl (any_of HT_.out (by kernel_rfl)) (fun _ _ _ h => h) (Or.inr ⟨by rfl, rfl⟩) ?_ ?_
          rotate_left
          ·
           simp only [Act.put, List.setIfInBounds_toArray, List.set_cons_zero, List.set_cons_succ, i64_w, i32_w]
           rfl
          refine pure_ (i := 15) (N := some 72) (v := ?_) (a' := ?_) #[true, true, true, true, true, true, true, true, true, true, true, true, true, true, true, true, false, false] rfl rfl (any_of HT_.out (by kernel_rfl)) (fun _ _ _ h => h) (Or.inl ⟨by rfl, ?_⟩) ?_ ?_
          rotate_left
          ·
           intro w'
           go_simp
           with_reducible rfl
          rotate_left
          ·
           simp only [Act.put, List.setIfInBounds_toArray, List.set_cons_zero, List.set_cons_succ, i64_w, i32_w]
           rfl
          refine pure_ (i := 16) (N := some 73) (v := ?_) (a' := ?_) #[true, true, true, true, true, true, true, true, true, true, true, true, true, true, true, true, true, false] rfl rfl (any_of HT_.out (by kernel_rfl)) (fun _ _ _ h => h) (Or.inl ⟨by rfl, ?_⟩) ?_ ?_
          rotate_left
          ·
           intro w'
           go_simp
           with_reducible rfl
          rotate_left
          ·
           simp only [Act.put, List.setIfInBounds_toArray, List.set_cons_zero, List.set_cons_succ, i64_w, i32_w]
           rfl
          refine pure_ (i := 17) (N := some 4) (v := ?_) (a' := ?_) #[true, true, true, true, true, true, true, true, true, true, true, true, true, true, true, true, true, true] rfl rfl (any_of HT_.out (by kernel_rfl)) (fun _ _ _ h => h) (Or.inl ⟨by rfl, ?_⟩) ?_ ?_
          rotate_left
          ·
           intro w'
           go_simp
           with_reducible rfl
          rotate_left
          ·
           simp only [Act.put, List.setIfInBounds_toArray, List.set_cons_zero, List.set_cons_succ, i64_w, i32_w]
           rfl
          refine done_ (done_of HT_.out (by kernel_rfl)) ?_
          try go_wp2
          go_ret
          exact ⟨by first | rfl | (simp [errW_none, errW_some] <;> rfl) | (simp [*, errW_none, errW_some] <;> rfl), by repeat (first | (with_reducible first | exact HB.out | apply below_alloc | apply pw_below_drewN | apply below_drew1 | refine below_set ?_ GE434.out | refine below_set ?_ GE443.out | refine below_set ?_ GE449.out | refine below_set ?_ GE466.out) | exact HB.out)⟩
       ·
        rw [if_neg c48] at H
        have c48b0 : (t460 == 0) = false := beq_eq_false_iff_ne.mpr c48
        have c48b1 : (t460 != 0) = true := bne_iff_ne.mpr c48
        obtain rfl := Option.some.inj H
        have hnb101 := NB434_443.out
        have hnc101 := NB443_434.out
        have hnb102 := NB434_449.out
        have hnc102 := NB449_434.out
        have hcz103_0 : wc.cell? ⟨gb434, 0, none⟩ = some (.string a1_0) := (blk_cell BK434.out 0).trans rfl
        have hcz103_1 : wc.cell? ⟨gb434, 1, none⟩ = some (.slice A1_1 l1_1.length c1_1) := (blk_cell BK434.out 1).trans rfl
        have hfz103_0 := blk_frozen BK434.out 0
        have hfz103_1 := blk_frozen BK434.out 1
        try go_wp2_with (first | ((with_reducible refine gate_callee (f := 16) rfl ?_); refine goesL_ (some 48) rfl rfl Tryd.func16 (by kernel_rfl) rfl #[.agg #[.string a1_0, .slice A1_1 l1_1.length c1_1]] rfl (by (try simp only [List.map_toArray, List.map_cons, List.map_nil]); first | done | rfl | (simp only [List.length_drop, List.length_take]; rfl)) ?_; (with_reducible refine (culetlaw44_Own.calls kj18 a1_0 _ _ l1_1 t455 t456 _ ?side1 ?side2 A45.out).mono ?_); (case side1 => repeat (first | exact (Kd.C_below HR1_1.out HB.out) | (with_reducible refine Kd.C_alloc ?_ _) | (with_reducible refine Kd.C_drewN ?_ _) | (with_reducible refine Kd.C_drew ?_))); (case side2 => exact HC1_1.out); rintro e w104 ⟨v457, rfl, ho0, hb⟩; refine ⟨_, rfl, ?_⟩; have n0_ := Aside0.mk (Kd.R_elder' (by (with_reducible repeat (first | apply Kd.R_alloc | apply Kd.R_drewN | apply Kd.R_drew)); exact HO_444001.out) (Kd.R_base ho0) hb); have n1_ := Aside0.mk (Kd.R_below (by (with_reducible repeat (first | apply Kd.R_alloc | apply Kd.R_drewN | apply Kd.R_drew)); exact HO_450001.out) hb); have n2_ := Aside0.mk (Kd.R_lower (Kd.R_new' ho0 (Kd.R_lt (by (with_reducible repeat (first | apply Kd.R_alloc | apply Kd.R_drewN | apply Kd.R_drew)); exact HO_444001.out))) (below_size (by repeat (first | (with_reducible first | exact HB.out | apply below_alloc | apply pw_below_drewN | apply below_drew1 | refine below_set ?_ GE434.out | refine below_set ?_ GE443.out | refine below_set ?_ GE449.out) | exact HB.out)))); have n3_ := Aside0.mk (blk_below (g := gb434) (o := .cells #[.string a1_0, .slice A1_1 l1_1.length c1_1] 24 (0, 0)) (by (with_reducible repeat (first | refine blk_drewN ?_ _ | refine blk_drew ?_ | refine blk_alloc ?_ _)); exact BK434.out) hb); have n4_ := Aside0.mk (blk_below (g := gb443) (o := .cells #[.string t438, .slice Ao24 t439.length co24] 29 (0, 0)) (by (with_reducible repeat (first | refine blk_drewN ?_ _ | refine blk_drew ?_ | refine blk_alloc ?_ _)); exact BK443.out) hb); have n5_ := Aside0.mk (blk_below (g := gb449) (o := .cells #[.string t444, .slice Ao30 t445.length co30] 24 (0, 0)) (by (with_reducible repeat (first | refine blk_drewN ?_ _ | refine blk_drew ?_ | refine blk_alloc ?_ _)); exact BK449.out) hb); have n6_ := Aside0.mk (below_step (by repeat (first | (with_reducible first | exact HB.out | apply below_alloc | apply pw_below_drewN | apply below_drew1 | refine below_set ?_ GE434.out | refine below_set ?_ GE443.out | refine below_set ?_ GE449.out) | exact HB.out)) hb); clear HO_444001; clear HO_450001; clear BK434; clear BK443; clear BK449; clear HB; have HO_444001 := n0_; have HO_450001 := n1_; have HO458 := n2_; have BK434 := n3_; have BK443 := n4_; have BK449 := n5_; have HB := n6_; clear n0_ n1_ n2_ n3_ n4_ n5_ n6_; (try clear hb); (try clear hb2); (try clear hk); (try clear hi); (try clear ho0); obtain ⟨Ao105, co105, eo105⟩ := Kd.R_slice HO458.out; subst eo105) | ((with_reducible refine gate_callee (f := 15) rfl ?_); refine goesL_ (some 49) rfl rfl Tryd.func15 (by kernel_rfl) rfl #[.agg #[.string t455, .slice Ao105 t456.length co105]] rfl (by (try simp only [List.map_toArray, List.map_cons, List.map_nil]); first | done | rfl | (simp only [List.length_drop, List.length_take]; rfl)) ?_; (with_reducible refine (tariff_Print.calls kj18 t455 _ _ t456 t459 t460 _ (HTW.out.at (by repeat (first | (with_reducible first | exact HB.out | apply below_alloc | apply pw_below_drewN | apply below_drew1 | refine below_set ?_ GE434.out | refine below_set ?_ GE443.out | refine below_set ?_ GE449.out | refine below_set ?_ GE466.out) | exact HB.out))) ?side1 ?side2 A46.out).mono ?_); (case side1 => repeat (first | exact (Kd.R_reads' HO458.out).2.2 | (with_reducible refine Kd.C_alloc ?_ _) | (with_reducible refine Kd.C_drewN ?_ _) | (with_reducible refine Kd.C_drew ?_))); (case side2 => exact (Kd.R_reads' HO458.out).2.1); rintro e w106 ⟨rfl, hb⟩; refine ⟨_, rfl, ?_⟩; have n0_ := Aside0.mk (Kd.R_below (by (with_reducible repeat (first | apply Kd.R_alloc | apply Kd.R_drewN | apply Kd.R_drew)); exact HO_444001.out) hb); have n1_ := Aside0.mk (Kd.R_below (by (with_reducible repeat (first | apply Kd.R_alloc | apply Kd.R_drewN | apply Kd.R_drew)); exact HO_450001.out) hb); have n2_ := Aside0.mk (Kd.R_below (by (with_reducible repeat (first | apply Kd.R_alloc | apply Kd.R_drewN | apply Kd.R_drew)); exact HO458.out) hb); have n3_ := Aside0.mk (blk_below (g := gb434) (o := .cells #[.string a1_0, .slice A1_1 l1_1.length c1_1] 24 (0, 0)) (by (with_reducible repeat (first | refine blk_drewN ?_ _ | refine blk_drew ?_ | refine blk_alloc ?_ _)); exact BK434.out) hb); have n4_ := Aside0.mk (blk_below (g := gb443) (o := .cells #[.string t438, .slice Ao24 t439.length co24] 29 (0, 0)) (by (with_reducible repeat (first | refine blk_drewN ?_ _ | refine blk_drew ?_ | refine blk_alloc ?_ _)); exact BK443.out) hb); have n5_ := Aside0.mk (blk_below (g := gb449) (o := .cells #[.string t444, .slice Ao30 t445.length co30] 24 (0, 0)) (by (with_reducible repeat (first | refine blk_drewN ?_ _ | refine blk_drew ?_ | refine blk_alloc ?_ _)); exact BK449.out) hb); have n6_ := Aside0.mk (below_step (by repeat (first | (with_reducible first | exact HB.out | apply below_alloc | apply pw_below_drewN | apply below_drew1 | refine below_set ?_ GE434.out | refine below_set ?_ GE443.out | refine below_set ?_ GE449.out) | exact HB.out)) hb); clear HO_444001; clear HO_450001; clear HO458; clear BK434; clear BK443; clear BK449; clear HB; have HO_444001 := n0_; have HO_450001 := n1_; have HO458 := n2_; have BK434 := n3_; have BK443 := n4_; have BK449 := n5_; have HB := n6_; clear n0_ n1_ n2_ n3_ n4_ n5_ n6_; (try clear hb); (try clear hb2); (try clear hk); (try clear hi)) | ((with_reducible refine gate_callee (f := 11) rfl ?_); refine goesL_ (some 54) rfl rfl Tryd.func11 (by kernel_rfl) rfl #[.string t459] rfl (by (try simp only [List.map_toArray, List.map_cons, List.map_nil]); first | done | rfl | (simp only [List.length_drop, List.length_take]; rfl)) ?_; (with_reducible refine (tariff_Parse.calls kj18 t459 t461 t462 t465 _ (HTW.out.at (by repeat (first | (with_reducible first | exact HB.out | apply below_alloc | apply pw_below_drewN | apply below_drew1 | refine below_set ?_ GE434.out | refine below_set ?_ GE443.out | refine below_set ?_ GE449.out | refine below_set ?_ GE466.out) | exact HB.out))) A47.out).mono ?_); rintro e w107 ⟨v463, rfl, ho0, hb⟩; refine ⟨_, rfl, ?_⟩; have n0_ := Aside0.mk (Kd.R_elder' (by (with_reducible repeat (first | apply Kd.R_alloc | apply Kd.R_drewN | apply Kd.R_drew)); exact HO_444001.out) (Kd.R_base ho0) hb); have n1_ := Aside0.mk (Kd.R_below (by (with_reducible repeat (first | apply Kd.R_alloc | apply Kd.R_drewN | apply Kd.R_drew)); exact HO_450001.out) hb); have n2_ := Aside0.mk (Kd.R_elder' (by (with_reducible repeat (first | apply Kd.R_alloc | apply Kd.R_drewN | apply Kd.R_drew)); exact HO458.out) (Kd.R_base ho0) hb); have n3_ := Aside0.mk (Kd.R_lower (Kd.R_new' (Kd.R_new' ho0 (Kd.R_lt (by (with_reducible repeat (first | apply Kd.R_alloc | apply Kd.R_drewN | apply Kd.R_drew)); exact HO_444001.out))) (Kd.R_lt (by (with_reducible repeat (first | apply Kd.R_alloc | apply Kd.R_drewN | apply Kd.R_drew)); exact HO458.out))) (below_size (by repeat (first | (with_reducible first | exact HB.out | apply below_alloc | apply pw_below_drewN | apply below_drew1 | refine below_set ?_ GE434.out | refine below_set ?_ GE443.out | refine below_set ?_ GE449.out) | exact HB.out)))); have n4_ := Aside0.mk (blk_below (g := gb434) (o := .cells #[.string a1_0, .slice A1_1 l1_1.length c1_1] 24 (0, 0)) (by (with_reducible repeat (first | refine blk_drewN ?_ _ | refine blk_drew ?_ | refine blk_alloc ?_ _)); exact BK434.out) hb); have n5_ := Aside0.mk (blk_below (g := gb443) (o := .cells #[.string t438, .slice Ao24 t439.length co24] 29 (0, 0)) (by (with_reducible repeat (first | refine blk_drewN ?_ _ | refine blk_drew ?_ | refine blk_alloc ?_ _)); exact BK443.out) hb); have n6_ := Aside0.mk (blk_below (g := gb449) (o := .cells #[.string t444, .slice Ao30 t445.length co30] 24 (0, 0)) (by (with_reducible repeat (first | refine blk_drewN ?_ _ | refine blk_drew ?_ | refine blk_alloc ?_ _)); exact BK449.out) hb); have n7_ := Aside0.mk (below_step (by repeat (first | (with_reducible first | exact HB.out | apply below_alloc | apply pw_below_drewN | apply below_drew1 | refine below_set ?_ GE434.out | refine below_set ?_ GE443.out | refine below_set ?_ GE449.out) | exact HB.out)) hb); clear HO_444001; clear HO_450001; clear HO458; clear BK434; clear BK443; clear BK449; clear HB; have HO_444001 := n0_; have HO_450001 := n1_; have HO458 := n2_; have HO464 := n3_; have BK434 := n4_; have BK443 := n5_; have BK449 := n6_; have HB := n7_; clear n0_ n1_ n2_ n3_ n4_ n5_ n6_ n7_; (try clear hb); (try clear hb2); (try clear hk); (try clear hi); (try clear ho0)) | ((with_reducible refine gate_dst (N := 11) rfl ?_); (try (refine gate_guard (by rfl) ?_; dsimp only)); refine box_event ?hg (N := 11) ?hd (cs := #[.string (⟨#[]⟩ : ByteArray), .slice none 0 0]) (t := 29) ?hr ?_; (case hd => rfl); (case hg => rfl); (case hr => first | (go_simp; done) | (go_simp; rfl)); intro gb466 hg w108 hbox hb; have n0_ := Aside0.mk (Kd.R_below (by (with_reducible repeat (first | apply Kd.R_alloc | apply Kd.R_drewN | apply Kd.R_drew)); exact HO_444001.out) hb); have n1_ := Aside0.mk (Kd.R_below (by (with_reducible repeat (first | apply Kd.R_alloc | apply Kd.R_drewN | apply Kd.R_drew)); exact HO_450001.out) hb); have n2_ := Aside0.mk (Kd.R_below (by (with_reducible repeat (first | apply Kd.R_alloc | apply Kd.R_drewN | apply Kd.R_drew)); exact HO458.out) hb); have n3_ := Aside0.mk (Kd.R_below (by (with_reducible repeat (first | apply Kd.R_alloc | apply Kd.R_drewN | apply Kd.R_drew)); exact HO464.out) hb); have n4_ := Aside0.mk (blk_below (g := gb434) (o := .cells #[.string a1_0, .slice A1_1 l1_1.length c1_1] 24 (0, 0)) (by (with_reducible repeat (first | refine blk_drewN ?_ _ | refine blk_drew ?_ | refine blk_alloc ?_ _)); exact BK434.out) hb); have n5_ := Aside0.mk (blk_below (g := gb443) (o := .cells #[.string t438, .slice Ao24 t439.length co24] 29 (0, 0)) (by (with_reducible repeat (first | refine blk_drewN ?_ _ | refine blk_drew ?_ | refine blk_alloc ?_ _)); exact BK443.out) hb); have n6_ := Aside0.mk (blk_below (g := gb449) (o := .cells #[.string t444, .slice Ao30 t445.length co30] 24 (0, 0)) (by (with_reducible repeat (first | refine blk_drewN ?_ _ | refine blk_drew ?_ | refine blk_alloc ?_ _)); exact BK449.out) hb); have n7_ := Aside0.mk (below_step (by repeat (first | (with_reducible first | exact HB.out | apply below_alloc | apply pw_below_drewN | apply below_drew1 | refine below_set ?_ GE434.out | refine below_set ?_ GE443.out | refine below_set ?_ GE449.out) | exact HB.out)) hb); have n8_ := Aside0.mk (hbox); have n9_ := Aside0.mk ((by rw [hg]; exact (below_size (by repeat (first | (with_reducible first | exact HB.out | apply below_alloc | apply pw_below_drewN | apply below_drew1 | refine below_set ?_ GE434.out | refine below_set ?_ GE443.out | refine below_set ?_ GE449.out) | exact HB.out))) : w.heap.size ≤ gb466)); have n10_ := Aside0.mk ((by rw [hg]; exact (below_size (by repeat (first | (with_reducible first | exact HB.out | apply below_alloc | apply pw_below_drewN | apply below_drew1 | refine below_set ?_ GE434.out | refine below_set ?_ GE443.out | refine below_set ?_ GE449.out) | exact HB.out))) : w.heap.size ≤ gb466)); have n11_ := Aside0.mk ((by rw [hg]; exact Nat.ne_of_lt (blk_lt (g := gb434) (o := .cells #[.string a1_0, .slice A1_1 l1_1.length c1_1] 24 (0, 0)) (by (with_reducible repeat (first | refine blk_drewN ?_ _ | refine blk_drew ?_ | refine blk_alloc ?_ _)); exact BK434.out)) : gb434 ≠ gb466)); have n12_ := Aside0.mk ((by rw [hg]; exact Nat.ne_of_gt (blk_lt (g := gb434) (o := .cells #[.string a1_0, .slice A1_1 l1_1.length c1_1] 24 (0, 0)) (by (with_reducible repeat (first | refine blk_drewN ?_ _ | refine blk_drew ?_ | refine blk_alloc ?_ _)); exact BK434.out)) : gb466 ≠ gb434)); have n13_ := Aside0.mk ((by rw [hg]; exact Nat.ne_of_lt (blk_lt (g := gb443) (o := .cells #[.string t438, .slice Ao24 t439.length co24] 29 (0, 0)) (by (with_reducible repeat (first | refine blk_drewN ?_ _ | refine blk_drew ?_ | refine blk_alloc ?_ _)); exact BK443.out)) : gb443 ≠ gb466)); have n14_ := Aside0.mk ((by rw [hg]; exact Nat.ne_of_gt (blk_lt (g := gb443) (o := .cells #[.string t438, .slice Ao24 t439.length co24] 29 (0, 0)) (by (with_reducible repeat (first | refine blk_drewN ?_ _ | refine blk_drew ?_ | refine blk_alloc ?_ _)); exact BK443.out)) : gb466 ≠ gb443)); have n15_ := Aside0.mk ((by rw [hg]; exact Nat.ne_of_lt (blk_lt (g := gb449) (o := .cells #[.string t444, .slice Ao30 t445.length co30] 24 (0, 0)) (by (with_reducible repeat (first | refine blk_drewN ?_ _ | refine blk_drew ?_ | refine blk_alloc ?_ _)); exact BK449.out)) : gb449 ≠ gb466)); have n16_ := Aside0.mk ((by rw [hg]; exact Nat.ne_of_gt (blk_lt (g := gb449) (o := .cells #[.string t444, .slice Ao30 t445.length co30] 24 (0, 0)) (by (with_reducible repeat (first | refine blk_drewN ?_ _ | refine blk_drew ?_ | refine blk_alloc ?_ _)); exact BK449.out)) : gb466 ≠ gb449)); clear HO_444001; clear HO_450001; clear HO458; clear HO464; clear BK434; clear BK443; clear BK449; clear HB; have HO_444001 := n0_; have HO_450001 := n1_; have HO458 := n2_; have HO464 := n3_; have BK434 := n4_; have BK443 := n5_; have BK449 := n6_; have HB := n7_; have BK466 := n8_; have GW466 := n9_; have GE466 := n10_; have NB434_466 := n11_; have NB466_434 := n12_; have NB443_466 := n13_; have NB466_443 := n14_; have NB449_466 := n15_; have NB466_449 := n16_; clear n0_ n1_ n2_ n3_ n4_ n5_ n6_ n7_ n8_ n9_ n10_ n11_ n12_ n13_ n14_ n15_ n16_; clear hb hbox hg; have hnb109 := NB466_434.out; have hnc109 := NB434_466.out; have hnb110 := NB466_443.out; have hnc110 := NB443_466.out; have hnb111 := NB466_449.out; have hnc111 := NB449_466.out; have hcz112_0 : w108.cell? ⟨gb466, 0, none⟩ = some (.string (⟨#[]⟩ : ByteArray)) := (blk_cell BK466.out 0).trans rfl; have hcz112_1 : w108.cell? ⟨gb466, 1, none⟩ = some (.slice none 0 0) := (blk_cell BK466.out 1).trans rfl; have hfz112_0 := blk_frozen BK466.out 0; have hfz112_1 := blk_frozen BK466.out 1; obtain ⟨Ao113, co113, eo113⟩ := Kd.R_slice HO464.out; subst eo113))
        have n0_ : Aside0 (Kd.R k63 63 ((w108.setCell ⟨gb466, 0, none⟩ (.string t461)).setCell ⟨gb466, 1, none⟩ (.slice Ao113 t462.length co113)) w.heap.size (fun k_ => some k_ ≠ (.slice Ao105 t456.length co105 : Value).ownBlock ∧ some k_ ≠ (.slice Ao113 t462.length co113 : Value).ownBlock) (.slice Ao24 t439.length co24) t439) := ⟨by (with_reducible repeat (first | apply Kd.R_alloc | apply Kd.R_drewN | apply Kd.R_drew)); exact Kd.R_mono (Kd.R_far (p := ⟨gb466, 1, none⟩) (Kd.R_far (p := ⟨gb466, 0, none⟩) (Kd.R_types HO_444001.out BK466.out (by decide)) (fun _ hk => hk.2) (.string t461)) (fun _ hk => hk.2) (.slice Ao113 t462.length co113)) (fun _ hk => ⟨hk.1.1.2, hk.1.2⟩)⟩
        have n1_ : Aside0 (Kd.R k42 42 ((w108.setCell ⟨gb466, 0, none⟩ (.string t461)).setCell ⟨gb466, 1, none⟩ (.slice Ao113 t462.length co113)) w.heap.size (fun _ => True) (.slice Ao30 t445.length co30) t445) := ⟨by (with_reducible repeat (first | apply Kd.R_alloc | apply Kd.R_drewN | apply Kd.R_drew)); exact Kd.R_mono (Kd.R_far (p := ⟨gb466, 1, none⟩) (Kd.R_far (p := ⟨gb466, 0, none⟩) (Kd.R_types HO_450001.out BK466.out (by decide)) (fun _ hk => hk.2) (.string t461)) (fun _ hk => hk.2) (.slice Ao113 t462.length co113)) (fun _ hk => trivial)⟩
        have n2_ : Aside0 (Kd.R k63 63 ((w108.setCell ⟨gb466, 0, none⟩ (.string t461)).setCell ⟨gb466, 1, none⟩ (.slice Ao113 t462.length co113)) w.heap.size (fun k_ => some k_ ≠ (.slice Ao24 t439.length co24 : Value).ownBlock ∧ some k_ ≠ (.slice Ao113 t462.length co113 : Value).ownBlock) (.slice Ao105 t456.length co105) t456) := ⟨by (with_reducible repeat (first | apply Kd.R_alloc | apply Kd.R_drewN | apply Kd.R_drew)); exact Kd.R_mono (Kd.R_far (p := ⟨gb466, 1, none⟩) (Kd.R_far (p := ⟨gb466, 0, none⟩) (Kd.R_types HO458.out BK466.out (by decide)) (fun _ hk => hk.2) (.string t461)) (fun _ hk => hk.2) (.slice Ao113 t462.length co113)) (fun _ hk => ⟨hk.1.1.2, hk.1.2⟩)⟩
        have n3_ : Aside0 (Kd.R k63 63 ((w108.setCell ⟨gb466, 0, none⟩ (.string t461)).setCell ⟨gb466, 1, none⟩ (.slice Ao113 t462.length co113)) w.heap.size (fun k_ => some k_ ≠ (.slice Ao24 t439.length co24 : Value).ownBlock ∧ some k_ ≠ (.slice Ao105 t456.length co105 : Value).ownBlock) (.slice Ao113 t462.length co113) t462) := ⟨by (with_reducible repeat (first | apply Kd.R_alloc | apply Kd.R_drewN | apply Kd.R_drew)); exact Kd.R_mono (Kd.R_far (p := ⟨gb466, 1, none⟩) (Kd.R_far (p := ⟨gb466, 0, none⟩) (Kd.R_types HO464.out BK466.out (by decide)) (fun _ hk => hk.2) (.string t461)) (fun _ hk => hk.2) (.slice Ao113 t462.length co113)) (fun _ hk => ⟨hk.1.1.2, hk.1.2⟩)⟩
        have n4_ : Aside0 (((w108.setCell ⟨gb466, 0, none⟩ (.string t461)).setCell ⟨gb466, 1, none⟩ (.slice Ao113 t462.length co113)).heap[gb434]? = some (.cells #[.string a1_0, .slice A1_1 l1_1.length c1_1] 24 (0, 0))) := ⟨by (with_reducible repeat (first | refine blk_drewN ?_ _ | refine blk_drew ?_ | refine blk_alloc ?_ _)); refine blk_far ?_ NB434_466.out _; (with_reducible repeat (first | refine blk_drewN ?_ _ | refine blk_drew ?_ | refine blk_alloc ?_ _)); refine blk_far ?_ NB434_466.out _; (with_reducible repeat (first | refine blk_drewN ?_ _ | refine blk_drew ?_ | refine blk_alloc ?_ _)); exact BK434.out⟩
        have n5_ : Aside0 (((w108.setCell ⟨gb466, 0, none⟩ (.string t461)).setCell ⟨gb466, 1, none⟩ (.slice Ao113 t462.length co113)).heap[gb443]? = some (.cells #[.string t438, .slice Ao24 t439.length co24] 29 (0, 0))) := ⟨by (with_reducible repeat (first | refine blk_drewN ?_ _ | refine blk_drew ?_ | refine blk_alloc ?_ _)); refine blk_far ?_ NB443_466.out _; (with_reducible repeat (first | refine blk_drewN ?_ _ | refine blk_drew ?_ | refine blk_alloc ?_ _)); refine blk_far ?_ NB443_466.out _; (with_reducible repeat (first | refine blk_drewN ?_ _ | refine blk_drew ?_ | refine blk_alloc ?_ _)); exact BK443.out⟩
        have n6_ : Aside0 (((w108.setCell ⟨gb466, 0, none⟩ (.string t461)).setCell ⟨gb466, 1, none⟩ (.slice Ao113 t462.length co113)).heap[gb449]? = some (.cells #[.string t444, .slice Ao30 t445.length co30] 24 (0, 0))) := ⟨by (with_reducible repeat (first | refine blk_drewN ?_ _ | refine blk_drew ?_ | refine blk_alloc ?_ _)); refine blk_far ?_ NB449_466.out _; (with_reducible repeat (first | refine blk_drewN ?_ _ | refine blk_drew ?_ | refine blk_alloc ?_ _)); refine blk_far ?_ NB449_466.out _; (with_reducible repeat (first | refine blk_drewN ?_ _ | refine blk_drew ?_ | refine blk_alloc ?_ _)); exact BK449.out⟩
        have n7_ : Aside0 (((w108.setCell ⟨gb466, 0, none⟩ (.string t461)).setCell ⟨gb466, 1, none⟩ (.slice Ao113 t462.length co113)).heap[gb466]? = some (.cells #[.string t461, .slice Ao113 t462.length co113] 29 (0, 0))) := ⟨by (with_reducible repeat (first | refine blk_drewN ?_ _ | refine blk_drew ?_ | refine blk_alloc ?_ _)); refine blk_put (cs := #[.string t461, .slice none 0 0]) ?_ 1 _ rfl; (with_reducible repeat (first | refine blk_drewN ?_ _ | refine blk_drew ?_ | refine blk_alloc ?_ _)); refine blk_put (cs := #[.string (⟨#[]⟩ : ByteArray), .slice none 0 0]) ?_ 0 _ rfl; (with_reducible repeat (first | refine blk_drewN ?_ _ | refine blk_drew ?_ | refine blk_alloc ?_ _)); exact BK466.out⟩
        have n8_ : Aside0 (Below w.heap.size w ((w108.setCell ⟨gb466, 0, none⟩ (.string t461)).setCell ⟨gb466, 1, none⟩ (.slice Ao113 t462.length co113))) := ⟨by repeat (first | (with_reducible first | exact HB.out | apply below_alloc | apply pw_below_drewN | apply below_drew1 | refine below_set ?_ GE434.out | refine below_set ?_ GE443.out | refine below_set ?_ GE449.out | refine below_set ?_ GE466.out) | exact HB.out)⟩
        (try clear HO_444001)
        (try clear HO_450001)
        (try clear HO458)
        (try clear HO464)
        (try clear BK434)
        (try clear BK443)
        (try clear BK449)
        (try clear BK466)
        (try clear HB)
        generalize ((w108.setCell ⟨gb466, 0, none⟩ (.string t461)).setCell ⟨gb466, 1, none⟩ (.slice Ao113 t462.length co113)) = w114 at n0_ n1_ n2_ n3_ n4_ n5_ n6_ n7_ n8_ ⊢
        have HO_444001 := n0_
        have HO_450001 := n1_
        have HO458 := n2_
        have HO464 := n3_
        have BK434 := n4_
        have BK443 := n5_
        have BK449 := n6_
        have BK466 := n7_
        have HB := n8_
        clear n0_ n1_ n2_ n3_ n4_ n5_ n6_ n7_ n8_
        have n0_ := Aside0.mk (Kd.R_drew HO_444001.out)
        have n1_ := Aside0.mk (Kd.R_drew HO_450001.out)
        have n2_ := Aside0.mk (Kd.R_drew HO458.out)
        have n3_ := Aside0.mk (Kd.R_drew HO464.out)
        have n4_ := Aside0.mk (blk_drew BK434.out)
        have n5_ := Aside0.mk (blk_drew BK443.out)
        have n6_ := Aside0.mk (blk_drew BK449.out)
        have n7_ := Aside0.mk (blk_drew BK466.out)
        have n8_ := Aside0.mk (below_drew1 HB.out)
        clear HO_444001
        clear HO_450001
        clear HO458
        clear HO464
        clear BK434
        clear BK443
        clear BK449
        clear BK466
        clear HB
        have HO_444001 := n0_
        have HO_450001 := n1_
        have HO458 := n2_
        have HO464 := n3_
        have BK434 := n4_
        have BK443 := n5_
        have BK449 := n6_
        have BK466 := n7_
        have HB := n8_
        clear n0_ n1_ n2_ n3_ n4_ n5_ n6_ n7_ n8_
        refine start_ (n := 18) (S := fun w' => True) (ds := []) #[false, false, false, false, false, false, false, false, false, false, false, false, false, false, false, false, false, false] (by kernel_rfl) rfl rfl trivial (fun hHeld => ?_); refine with_tabW culetlaw44_TariffText.tab9 culetlaw44_TariffText.bits9 (fun HT_ HW_ => ?_)
        generalize w114.drew = w115 at HO_444001 HO_450001 HO458 HO464 BK434 BK443 BK449 BK466 HB hHeld ⊢
        refine pure_ (i := 0) (N := some 57) (v := ?_) (a' := ?_) #[true, false, false, false, false, false, false, false, false, false, false, false, false, false, false, false, false, false] rfl rfl (any_of HT_.out (by kernel_rfl)) (fun _ _ _ h => h) (Or.inl ⟨by rfl, ?_⟩) ?_ ?_
        rotate_left
        ·
         intro w'
         go_simp
         with_reducible rfl
        rotate_left
        ·
         simp only [Act.put, List.setIfInBounds_toArray, List.set_cons_zero, List.set_cons_succ, i64_w, i32_w]
         rfl
        refine pure_ (i := 1) (N := some 58) (v := ?_) (a' := ?_) #[true, true, false, false, false, false, false, false, false, false, false, false, false, false, false, false, false, false] rfl rfl (any_of HT_.out (by kernel_rfl)) (fun _ _ _ h => h) (Or.inl ⟨by rfl, ?_⟩) ?_ ?_
        rotate_left
        ·
         intro w'
         go_simp
         with_reducible rfl
        rotate_left
        ·
         simp only [Act.put, List.setIfInBounds_toArray, List.set_cons_zero, List.set_cons_succ, i64_w, i32_w]
         rfl
        refine pure_ (i := 2) (N := some 59) (v := ?_) (a' := ?_) #[true, true, true, false, false, false, false, false, false, false, false, false, false, false, false, false, false, false] rfl rfl (any_of HT_.out (by kernel_rfl)) (fun _ _ _ h => h) (Or.inl ⟨by rfl, ?_⟩) ?_ ?_
        rotate_left
        ·
         intro w'
         go_simp
         with_reducible rfl
        rotate_left
        ·
         simp only [Act.put, List.setIfInBounds_toArray, List.set_cons_zero, List.set_cons_succ, i64_w, i32_w]
         rfl
        refine pure_ (i := 3) (N := some 60) (v := undef) (a' := ?_) #[true, true, true, true, false, false, false, false, false, false, false, false, false, false, false, false, false, false] rfl rfl (any_of HT_.out (by kernel_rfl)) (fun _ _ _ h => h) (Or.inr ⟨by rfl, rfl⟩) ?_ ?_
        rotate_left
        ·
         simp only [Act.put, List.setIfInBounds_toArray, List.set_cons_zero, List.set_cons_succ, i64_w, i32_w]
         rfl
        refine pure_ (i := 4) (N := some 61) (v := undef) (a' := ?_) #[true, true, true, true, true, false, false, false, false, false, false, false, false, false, false, false, false, false] rfl rfl (any_of HT_.out (by kernel_rfl)) (fun _ _ _ h => h) (Or.inr ⟨by rfl, rfl⟩) ?_ ?_
        rotate_left
        ·
         simp only [Act.put, List.setIfInBounds_toArray, List.set_cons_zero, List.set_cons_succ, i64_w, i32_w]
         rfl
        refine pure_ (i := 5) (N := some 62) (v := undef) (a' := ?_) #[true, true, true, true, true, true, false, false, false, false, false, false, false, false, false, false, false, false] rfl rfl (any_of HT_.out (by kernel_rfl)) (fun _ _ _ h => h) (Or.inr ⟨by rfl, rfl⟩) ?_ ?_
        rotate_left
        ·
         simp only [Act.put, List.setIfInBounds_toArray, List.set_cons_zero, List.set_cons_succ, i64_w, i32_w]
         rfl
        refine pure_ (i := 6) (N := some 63) (v := ?_) (a' := ?_) #[true, true, true, true, true, true, true, false, false, false, false, false, false, false, false, false, false, false] rfl rfl (any_of HT_.out (by kernel_rfl)) (fun _ _ _ h => h) (Or.inl ⟨by rfl, ?_⟩) ?_ ?_
        rotate_left
        ·
         intro w'
         go_simp
         with_reducible rfl
        rotate_left
        ·
         simp only [Act.put, List.setIfInBounds_toArray, List.set_cons_zero, List.set_cons_succ, i64_w, i32_w]
         rfl
        refine pure_ (i := 7) (N := some 64) (v := ?_) (a' := ?_) #[true, true, true, true, true, true, true, true, false, false, false, false, false, false, false, false, false, false] rfl rfl (any_of HT_.out (by kernel_rfl)) (fun _ _ _ h => h) (Or.inl ⟨by rfl, ?_⟩) ?_ ?_
        rotate_left
        ·
         intro w'
         go_simp
         with_reducible rfl
        rotate_left
        ·
         simp only [Act.put, List.setIfInBounds_toArray, List.set_cons_zero, List.set_cons_succ, i64_w, i32_w]
         rfl
        refine pure_ (i := 8) (N := some 65) (v := undef) (a' := ?_) #[true, true, true, true, true, true, true, true, true, false, false, false, false, false, false, false, false, false] rfl rfl (any_of HT_.out (by kernel_rfl)) (fun _ _ _ h => h) (Or.inr ⟨by rfl, rfl⟩) ?_ ?_
        rotate_left
        ·
         simp only [Act.put, List.setIfInBounds_toArray, List.set_cons_zero, List.set_cons_succ, i64_w, i32_w]
         rfl
        refine pure_ (i := 9) (N := some 66) (v := undef) (a' := ?_) #[true, true, true, true, true, true, true, true, true, true, false, false, false, false, false, false, false, false] rfl rfl (any_of HT_.out (by kernel_rfl)) (fun _ _ _ h => h) (Or.inr ⟨by rfl, rfl⟩) ?_ ?_
        rotate_left
        ·
         simp only [Act.put, List.setIfInBounds_toArray, List.set_cons_zero, List.set_cons_succ, i64_w, i32_w]
         rfl
        refine pure_ (i := 10) (N := some 67) (v := undef) (a' := ?_) #[true, true, true, true, true, true, true, true, true, true, true, false, false, false, false, false, false, false] rfl rfl (any_of HT_.out (by kernel_rfl)) (fun _ _ _ h => h) (Or.inr ⟨by rfl, rfl⟩) ?_ ?_
        rotate_left
        ·
         simp only [Act.put, List.setIfInBounds_toArray, List.set_cons_zero, List.set_cons_succ, i64_w, i32_w]
         rfl
        refine pure_ (i := 11) (N := some 68) (v := undef) (a' := ?_) #[true, true, true, true, true, true, true, true, true, true, true, true, false, false, false, false, false, false] rfl rfl (any_of HT_.out (by kernel_rfl)) (fun _ _ _ h => h) (Or.inr ⟨by rfl, rfl⟩) ?_ ?_
        rotate_left
        ·
         simp only [Act.put, List.setIfInBounds_toArray, List.set_cons_zero, List.set_cons_succ, i64_w, i32_w]
         rfl
        refine pure_ (i := 12) (N := some 69) (v := undef) (a' := ?_) #[true, true, true, true, true, true, true, true, true, true, true, true, true, false, false, false, false, false] rfl rfl (any_of HT_.out (by kernel_rfl)) (fun _ _ _ h => h) (Or.inr ⟨by rfl, rfl⟩) ?_ ?_
        rotate_left
        ·
         simp only [Act.put, List.setIfInBounds_toArray, List.set_cons_zero, List.set_cons_succ, i64_w, i32_w]
         rfl
        refine pure_ (i := 13) (N := some 70) (v := undef) (a' := ?_) #[true, true, true, true, true, true, true, true, true, true, true, true, true, true, false, false, false, false] rfl rfl (any_of HT_.out (by kernel_rfl)) (fun _ _ _ h => h) (Or.inr ⟨by rfl, rfl⟩) ?_ ?_
        rotate_left
        ·
         simp only [Act.put, List.setIfInBounds_toArray, List.set_cons_zero, List.set_cons_succ, i64_w, i32_w]
         rfl
        refine pure_ (i := 14) (N := some 71) (v := undef) (a' := ?_) #[true, true, true, true, true, true, true, true, true, true, true, true, true, true, true, false, false, false] rfl rfl (any_of HT_.out (by kernel_rfl)) (fun _ _ _ h => h) (Or.inr ⟨by rfl, rfl⟩) ?_ ?_
        rotate_left
        ·
         simp only [Act.put, List.setIfInBounds_toArray, List.set_cons_zero, List.set_cons_succ, i64_w, i32_w]
         rfl
        refine pure_ (i := 15) (N := some 72) (v := undef) (a' := ?_) #[true, true, true, true, true, true, true, true, true, true, true, true, true, true, true, true, false, false] rfl rfl (any_of HT_.out (by kernel_rfl)) (fun _ _ _ h => h) (Or.inr ⟨by rfl, rfl⟩) ?_ ?_
        rotate_left
        ·
         simp only [Act.put, List.setIfInBounds_toArray, List.set_cons_zero, List.set_cons_succ, i64_w, i32_w]
         rfl
        refine pure_ (i := 16) (N := some 73) (v := ?_) (a' := ?_) #[true, true, true, true, true, true, true, true, true, true, true, true, true, true, true, true, true, false] rfl rfl (any_of HT_.out (by kernel_rfl)) (fun _ _ _ h => h) (Or.inl ⟨by rfl, ?_⟩) ?_ ?_
        rotate_left
        ·
         intro w'
         go_simp
         with_reducible rfl
        rotate_left
        ·
         simp only [Act.put, List.setIfInBounds_toArray, List.set_cons_zero, List.set_cons_succ, i64_w, i32_w]
         rfl
        refine pure_ (i := 17) (N := some 4) (v := ?_) (a' := ?_) #[true, true, true, true, true, true, true, true, true, true, true, true, true, true, true, true, true, true] rfl rfl (any_of HT_.out (by kernel_rfl)) (fun _ _ _ h => h) (Or.inl ⟨by rfl, ?_⟩) ?_ ?_
        rotate_left
        ·
         intro w'
         go_simp
         with_reducible rfl
        rotate_left
        ·
         simp only [Act.put, List.setIfInBounds_toArray, List.set_cons_zero, List.set_cons_succ, i64_w, i32_w]
         rfl
        refine done_ (done_of HT_.out (by kernel_rfl)) ?_
        try go_wp2
        go_ret
        exact ⟨by first | rfl | (simp [errW_none, errW_some] <;> rfl) | (simp [*, errW_none, errW_some] <;> rfl), by repeat (first | (with_reducible first | exact HB.out | apply below_alloc | apply pw_below_drewN | apply below_drew1 | refine below_set ?_ GE434.out | refine below_set ?_ GE443.out | refine below_set ?_ GE449.out | refine below_set ?_ GE466.out) | exact HB.out)⟩

end Go.Proofs.YtejgenhmhahgeaaDoor.T
