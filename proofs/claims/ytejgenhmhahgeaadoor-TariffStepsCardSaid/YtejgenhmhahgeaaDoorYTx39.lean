-- Written by this session's own programs; what the law does not lean on is left out. Lean checks it.
import Derived.Test.YtejgenhmhahgeaaDoorYS
import Derived.Test.YtejgenhmhahgeaaDoorYQ
import Derived.Test.YtejgenhmhahgeaaDoorYTx26
import Derived.Test.YtejgenhmhahgeaaDoorYTx27
import Derived.Test.YtejgenhmhahgeaaDoorYTx28
import Derived.Test.YtejgenhmhahgeaaDoorYJ
import Derived.Test.YtejgenhmhahgeaaDoorYTx38
namespace Go.Proofs.YtejgenhmhahgeaaDoor.T
open Go.RowKit Go.Proofs.YtejgenhmhahgeaaDoorW.PrintWords Go.Proofs.YtejgenhmhahgeaaDoorW.PrintLast Go.Proofs.YtejgenhmhahgeaaDoorW.PrintMore
set_option linter.unusedVariables false
set_option linter.unusedSimpArgs false

mutual
def culetlaw44_TariffSteps.j0 : Nat → Bool → ByteArray → List (S42) → Int → Int → Option (Bool)
 | 0, _, _, _, _, _ => none
 | k + 1, x30, x248000, x248001, x249000, x249001 => if x30 = true then ((culetlaw44_awake.f k).bind fun t251 => (some t251)) else ((culetlaw44_Own.f k x248000 x248001).bind fun bt252 => ((tariff_Value.f k bt252.1 bt252.2 x249000).bind fun bt257 => ((tariff_Value.f k bt252.1 bt252.2 x249001).bind fun bt259 => ((tariff_ClassOf.f k bt252.1 bt252.2 x249000).bind fun bt261 => ((tariff_ClassOf.f k bt252.1 bt252.2 x249001).bind fun bt263 => (if bt257.2 = 0 then (if bt259.2 = 0 then (if bt261.2 = 0 then (culetlaw44_TariffSteps.j1 k bt257.1 bt257.2 bt259.1 bt259.2 bt261.1 bt261.2 bt263.1 bt263.2 (bt263.2 != 0) x249000 x249001 bt252.1 bt252.2) else (culetlaw44_TariffSteps.j1 k bt257.1 bt257.2 bt259.1 bt259.2 bt261.1 bt261.2 bt263.1 bt263.2 true x249000 x249001 bt252.1 bt252.2)) else (culetlaw44_TariffSteps.j1 k bt257.1 bt257.2 bt259.1 bt259.2 bt261.1 bt261.2 bt263.1 bt263.2 true x249000 x249001 bt252.1 bt252.2)) else (culetlaw44_TariffSteps.j1 k bt257.1 bt257.2 bt259.1 bt259.2 bt261.1 bt261.2 bt263.1 bt263.2 true x249000 x249001 bt252.1 bt252.2)))))))
def culetlaw44_TariffSteps.j1 : Nat → Int → Int → Int → Int → Int → Int → Int → Int → Bool → Int → Int → ByteArray → List (S63) → Option (Bool)
 | 0, _, _, _, _, _, _, _, _, _, _, _, _, _ => none
 | k + 1, x6, x7, x8, x9, x10, x11, x12, x13, x75, x249000, x249001, x257000, x257001 => if x75 = true then (if x7 = x11 then (some (x9 == x13)) else (some false)) else ((tariff_Next.f k x257000 x257001 x249000).bind fun bt265 => (if bt265.2 = 0 then (if ((decide (bt265.1 ≤ x249001)) == (x10 != x12)) = true then (if x10 = x12 then (some (decide (x6 ≤ x8))) else ((tariff_Fair.f k x257000 x257001).bind fun t267 => (if t267 = true then (some (decide (x6 ≤ x8))) else (some true)))) else (some false)) else (if (false == (x10 != x12)) = true then (if x10 = x12 then (some (decide (x6 ≤ x8))) else ((tariff_Fair.f k x257000 x257001).bind fun t268 => (if t268 = true then (some (decide (x6 ≤ x8))) else (some true)))) else (some false))))
end
def culetlaw44_TariffSteps.f (k : Nat) (a0_0 : ByteArray) (l0_1 : List (S42)) (a1_0 : Int) (a1_1 : Int) : Option (Bool) := (culetlaw44_awake.f k).bind fun t249 => (if t249 = true then ((culetref44_Few.f a0_0 l0_1).bind fun t250 => (if t250 = true then (culetlaw44_TariffSteps.j0 k (decide (a1_0 > a1_1)) a0_0 l0_1 a1_0 a1_1) else (culetlaw44_TariffSteps.j0 k true a0_0 l0_1 a1_0 a1_1))) else (culetlaw44_TariffSteps.j0 k true a0_0 l0_1 a1_0 a1_1))
set_option maxHeartbeats 8000000 in
set_option maxRecDepth 100000 in
theorem culetlaw44_TariffSteps.calls (k : Nat) (a0_0 : ByteArray) (A0_1 : Option Addr) (c0_1 : Nat) (l0_1 : List (S42)) (a1_0 : Int) (a1_1 : Int) (r : Bool) (w : World) (hTW : TW w) (hr0_1 : Kd.C k42 w A0_1 l0_1.length l0_1) (hc0_1 : l0_1.length ≤ c0_1) (h : culetlaw44_TariffSteps.f k a0_0 l0_1 a1_0 a1_1 = some r) :
  Calls Tryd.prog 5 #[.agg #[.string a0_0, .slice A0_1 l0_1.length c0_1], .agg #[.int .i64 a1_0, .int .i64 a1_1]] w fun e w' => e = .returned (.bool r) ∧ Below w.heap.size w w' := by
 have hu24 := Tryd.underlying24
 have hu46 := Tryd.underlying46
 have hu46 := Tryd.underlying46
 have hu42 := Tryd.underlying42
 have hu29 := Tryd.underlying29
 have HR0_1 := Aside0.mk hr0_1
 have HC0_1 := Aside0.mk hc0_1
 clear hr0_1 hc0_1
 have HB := Aside0.mk (Below.refl w.heap.size w)
 have HTW := Aside0.mk hTW
 clear hTW
 have H : ((culetlaw44_awake.f k).bind fun t249 => (if t249 = true then ((culetref44_Few.f a0_0 l0_1).bind fun t250 => (if t250 = true then (culetlaw44_TariffSteps.j0 k (decide (a1_0 > a1_1)) a0_0 l0_1 a1_0 a1_1) else (culetlaw44_TariffSteps.j0 k true a0_0 l0_1 a1_0 a1_1))) else (culetlaw44_TariffSteps.j0 k true a0_0 l0_1 a1_0 a1_1))) = some r := h
 clear h
 have HC3 := Aside0.mk H
 clear H
 go_enter Tryd.func5, Tryd.ntmps5
 go_upto_region 1 with (first | ((with_reducible refine gate_dst (N := 2) rfl ?_); refine box_event ?hg (N := 2) ?hd (cs := #[.string a0_0, .slice A0_1 l0_1.length c0_1]) (t := 24) ?hr ?_; (case hd => rfl); (case hg => rfl); (case hr => first | (go_simp; done) | (go_simp; rfl)); intro gb247 hg w4 hbox hb; have n0_ := Aside0.mk (below_step (by repeat (first | (with_reducible first | exact HB.out | apply below_alloc | apply pw_below_drewN | apply below_drew1) | exact HB.out)) hb); have n1_ := Aside0.mk (hbox); have n2_ := Aside0.mk ((by rw [hg]; exact (below_size (by repeat (first | (with_reducible first | exact HB.out | apply below_alloc | apply pw_below_drewN | apply below_drew1) | exact HB.out))) : w.heap.size ≤ gb247)); have n3_ := Aside0.mk ((by rw [hg]; exact (below_size (by repeat (first | (with_reducible first | exact HB.out | apply below_alloc | apply pw_below_drewN | apply below_drew1) | exact HB.out))) : w.heap.size ≤ gb247)); clear HB; have HB := n0_; have BK247 := n1_; have GW247 := n2_; have GE247 := n3_; clear n0_ n1_ n2_ n3_; clear hb hbox hg) | ((with_reducible refine gate_dst (N := 3) rfl ?_); refine box_event ?hg (N := 3) ?hd (cs := #[.int .i64 a1_0, .int .i64 a1_1]) (t := 46) ?hr ?_; (case hd => rfl); (case hg => rfl); (case hr => first | (go_simp; done) | (go_simp; rfl)); intro gb248 hg w5 hbox hb; have n0_ := Aside0.mk (blk_below (g := gb247) (o := .cells #[.string a0_0, .slice A0_1 l0_1.length c0_1] 24 (0, 0)) (by (with_reducible repeat (first | refine blk_drewN ?_ _ | refine blk_drew ?_ | refine blk_alloc ?_ _)); exact BK247.out) hb); have n1_ := Aside0.mk (below_step (by repeat (first | (with_reducible first | exact HB.out | apply below_alloc | apply pw_below_drewN | apply below_drew1 | refine below_set ?_ GE247.out) | exact HB.out)) hb); have n2_ := Aside0.mk (hbox); have n3_ := Aside0.mk ((by rw [hg]; exact (below_size (by repeat (first | (with_reducible first | exact HB.out | apply below_alloc | apply pw_below_drewN | apply below_drew1 | refine below_set ?_ GE247.out) | exact HB.out))) : w.heap.size ≤ gb248)); have n4_ := Aside0.mk ((by rw [hg]; exact (below_size (by repeat (first | (with_reducible first | exact HB.out | apply below_alloc | apply pw_below_drewN | apply below_drew1 | refine below_set ?_ GE247.out) | exact HB.out))) : w.heap.size ≤ gb248)); have n5_ := Aside0.mk ((by rw [hg]; exact Nat.ne_of_lt (blk_lt (g := gb247) (o := .cells #[.string a0_0, .slice A0_1 l0_1.length c0_1] 24 (0, 0)) (by (with_reducible repeat (first | refine blk_drewN ?_ _ | refine blk_drew ?_ | refine blk_alloc ?_ _)); exact BK247.out)) : gb247 ≠ gb248)); have n6_ := Aside0.mk ((by rw [hg]; exact Nat.ne_of_gt (blk_lt (g := gb247) (o := .cells #[.string a0_0, .slice A0_1 l0_1.length c0_1] 24 (0, 0)) (by (with_reducible repeat (first | refine blk_drewN ?_ _ | refine blk_drew ?_ | refine blk_alloc ?_ _)); exact BK247.out)) : gb248 ≠ gb247)); clear BK247; clear HB; have BK247 := n0_; have HB := n1_; have BK248 := n2_; have GW248 := n3_; have GE248 := n4_; have NB247_248 := n5_; have NB248_247 := n6_; clear n0_ n1_ n2_ n3_ n4_ n5_ n6_; clear hb hbox hg))
 (try simp only [Act.put, List.setIfInBounds_toArray, List.set_cons_zero, List.set_cons_succ])
 go_cut [30] (fun v30 wc => ∃ (kq : Nat) (x30_2 : Bool), v30 = .bool x30_2 ∧ Aside0 (culetlaw44_TariffSteps.j0 kq x30_2 a0_0 l0_1 a1_0 a1_1 = some r) ∧ Aside0 (kq ≤ k) ∧ Aside0 (wc.heap[gb247]? = some (.cells #[.string a0_0, (.slice A0_1 l0_1.length c0_1)] 24 (0, 0))) ∧ Aside0 (wc.heap[gb248]? = some (.cells #[.int .i64 a1_0, .int .i64 a1_1] 46 (0, 0))) ∧ Aside0 (Below w.heap.size w wc))
 case first =>
  have H := HC3.out
  clear HC3
  replace H := Option.bind_eq_some_iff.mp H
  obtain ⟨t249, A60, H⟩ := H
  replace H : (if t249 = true then ((culetref44_Few.f a0_0 l0_1).bind fun t250 => (if t250 = true then (culetlaw44_TariffSteps.j0 k (decide (a1_0 > a1_1)) a0_0 l0_1 a1_0 a1_1) else (culetlaw44_TariffSteps.j0 k true a0_0 l0_1 a1_0 a1_1))) else (culetlaw44_TariffSteps.j0 k true a0_0 l0_1 a1_0 a1_1)) = some r := H
  have A6 := Aside0.mk A60
  clear A60
  by_cases c7 : t249 = true
  ·
   subst c7
   have H1 : ((culetref44_Few.f a0_0 l0_1).bind fun t250 => (if t250 = true then (culetlaw44_TariffSteps.j0 k (decide (a1_0 > a1_1)) a0_0 l0_1 a1_0 a1_1) else (culetlaw44_TariffSteps.j0 k true a0_0 l0_1 a1_0 a1_1))) = some r := by rw [if_pos rfl] at H; exact H
   clear H
   have H := H1
   clear H1
   replace H := Option.bind_eq_some_iff.mp H
   obtain ⟨t250, A80, H⟩ := H
   replace H : (if t250 = true then (culetlaw44_TariffSteps.j0 k (decide (a1_0 > a1_1)) a0_0 l0_1 a1_0 a1_1) else (culetlaw44_TariffSteps.j0 k true a0_0 l0_1 a1_0 a1_1)) = some r := H
   have A8 := Aside0.mk A80
   clear A80
   by_cases c9 : t250 = true
   ·
    subst c9
    have H1 : (culetlaw44_TariffSteps.j0 k (decide (a1_0 > a1_1)) a0_0 l0_1 a1_0 a1_1) = some r := by rw [if_pos rfl] at H; exact H
    clear H
    have H := H1
    clear H1
    have H' := Aside0.mk H
    clear H
    go_wp2_with (first | ((with_reducible refine gate_callee (f := 9) rfl ?_); refine goesL_ (some 17) rfl rfl Tryd.func9 (by kernel_rfl) rfl #[] rfl (by (try simp only [List.map_toArray, List.map_cons, List.map_nil]); first | done | rfl | (simp only [List.length_drop, List.length_take]; rfl)) ?_; (with_reducible refine (culetlaw44_awake.calls k  true _ (HTW.out.at (by repeat (first | (with_reducible first | exact HB.out | apply below_alloc | apply pw_below_drewN | apply below_drew1 | refine below_set ?_ GE247.out | refine below_set ?_ GE248.out | refine below_set ?_ GE256.out) | exact HB.out))) A6.out).mono ?_); rintro e w10 ⟨rfl, hb⟩; refine ⟨_, rfl, ?_⟩; have n0_ := Aside0.mk (blk_below (g := gb247) (o := .cells #[.string a0_0, .slice A0_1 l0_1.length c0_1] 24 (0, 0)) (by (with_reducible repeat (first | refine blk_drewN ?_ _ | refine blk_drew ?_ | refine blk_alloc ?_ _)); exact BK247.out) hb); have n1_ := Aside0.mk (blk_below (g := gb248) (o := .cells #[.int .i64 a1_0, .int .i64 a1_1] 46 (0, 0)) (by (with_reducible repeat (first | refine blk_drewN ?_ _ | refine blk_drew ?_ | refine blk_alloc ?_ _)); exact BK248.out) hb); have n2_ := Aside0.mk (below_step (by repeat (first | (with_reducible first | exact HB.out | apply below_alloc | apply pw_below_drewN | apply below_drew1 | refine below_set ?_ GE247.out | refine below_set ?_ GE248.out) | exact HB.out)) hb); clear BK247; clear BK248; clear HB; have BK247 := n0_; have BK248 := n1_; have HB := n2_; clear n0_ n1_ n2_; (try clear hb); (try clear hb2); (try clear hk); (try clear hi); have hnb11 := NB247_248.out; have hnc11 := NB248_247.out; have hcz12_0 : w10.cell? ⟨gb247, 0, none⟩ = some (.string a0_0) := (blk_cell BK247.out 0).trans rfl; have hcz12_1 : w10.cell? ⟨gb247, 1, none⟩ = some (.slice A0_1 l0_1.length c0_1) := (blk_cell BK247.out 1).trans rfl; have hfz12_0 := blk_frozen BK247.out 0; have hfz12_1 := blk_frozen BK247.out 1) | (go_at_call 10; (with_reducible refine (culetref44_Few.calls a0_0 _ _ l0_1 true _ ?side1 ?side2 A8.out).mono ?_); (case side1 => repeat (first | exact (Kd.C_below HR0_1.out HB.out) | (with_reducible refine Kd.C_alloc ?_ _) | (with_reducible refine Kd.C_drewN ?_ _) | (with_reducible refine Kd.C_drew ?_))); (case side2 => exact HC0_1.out); rintro e w13 ⟨rfl, hb⟩; have n0_ := Aside0.mk (blk_below (g := gb247) (o := .cells #[.string a0_0, .slice A0_1 l0_1.length c0_1] 24 (0, 0)) (by (with_reducible repeat (first | refine blk_drewN ?_ _ | refine blk_drew ?_ | refine blk_alloc ?_ _)); exact BK247.out) hb); have n1_ := Aside0.mk (blk_below (g := gb248) (o := .cells #[.int .i64 a1_0, .int .i64 a1_1] 46 (0, 0)) (by (with_reducible repeat (first | refine blk_drewN ?_ _ | refine blk_drew ?_ | refine blk_alloc ?_ _)); exact BK248.out) hb); have n2_ := Aside0.mk (below_step (by repeat (first | (with_reducible first | exact HB.out | apply below_alloc | apply pw_below_drewN | apply below_drew1 | refine below_set ?_ GE247.out | refine below_set ?_ GE248.out) | exact HB.out)) hb); clear BK247; clear BK248; clear HB; have BK247 := n0_; have BK248 := n1_; have HB := n2_; clear n0_ n1_ n2_; (try clear hb); (try clear hb2); (try clear hk); (try clear hi); have hcz14_0 : w13.cell? ⟨gb248, 0, none⟩ = some (.int .i64 a1_0) := (blk_cell BK248.out 0).trans rfl; have hcz14_1 : w13.cell? ⟨gb248, 1, none⟩ = some (.int .i64 a1_1) := (blk_cell BK248.out 1).trans rfl; have hfz14_0 := blk_frozen BK248.out 0; have hfz14_1 := blk_frozen BK248.out 1))
    go_meet
    case rel => exact ⟨_, (decide (a1_0 > a1_1)), (by first | rfl | (simp; done) | (simp [*]; done)), H', ⟨by first | omega | exact Nat.le_refl _⟩, ⟨by (with_reducible repeat (first | refine blk_drewN ?_ _ | refine blk_drew ?_ | refine blk_alloc ?_ _)); exact BK247.out⟩, ⟨by (with_reducible repeat (first | refine blk_drewN ?_ _ | refine blk_drew ?_ | refine blk_alloc ?_ _)); exact BK248.out⟩, ⟨by repeat (first | (with_reducible first | exact HB.out | apply below_alloc | apply pw_below_drewN | apply below_drew1 | refine below_set ?_ GE247.out | refine below_set ?_ GE248.out) | exact HB.out)⟩⟩
   ·
    replace c9 := Bool.eq_false_iff.mpr c9
    subst c9
    have H1 : (culetlaw44_TariffSteps.j0 k true a0_0 l0_1 a1_0 a1_1) = some r := by rw [if_neg (show ¬ (false = true) by decide)] at H; exact H
    clear H
    have H := H1
    clear H1
    have H' := Aside0.mk H
    clear H
    go_wp2_with (first | ((with_reducible refine gate_callee (f := 9) rfl ?_); refine goesL_ (some 17) rfl rfl Tryd.func9 (by kernel_rfl) rfl #[] rfl (by (try simp only [List.map_toArray, List.map_cons, List.map_nil]); first | done | rfl | (simp only [List.length_drop, List.length_take]; rfl)) ?_; (with_reducible refine (culetlaw44_awake.calls k  true _ (HTW.out.at (by repeat (first | (with_reducible first | exact HB.out | apply below_alloc | apply pw_below_drewN | apply below_drew1 | refine below_set ?_ GE247.out | refine below_set ?_ GE248.out | refine below_set ?_ GE256.out) | exact HB.out))) A6.out).mono ?_); rintro e w15 ⟨rfl, hb⟩; refine ⟨_, rfl, ?_⟩; have n0_ := Aside0.mk (blk_below (g := gb247) (o := .cells #[.string a0_0, .slice A0_1 l0_1.length c0_1] 24 (0, 0)) (by (with_reducible repeat (first | refine blk_drewN ?_ _ | refine blk_drew ?_ | refine blk_alloc ?_ _)); exact BK247.out) hb); have n1_ := Aside0.mk (blk_below (g := gb248) (o := .cells #[.int .i64 a1_0, .int .i64 a1_1] 46 (0, 0)) (by (with_reducible repeat (first | refine blk_drewN ?_ _ | refine blk_drew ?_ | refine blk_alloc ?_ _)); exact BK248.out) hb); have n2_ := Aside0.mk (below_step (by repeat (first | (with_reducible first | exact HB.out | apply below_alloc | apply pw_below_drewN | apply below_drew1 | refine below_set ?_ GE247.out | refine below_set ?_ GE248.out) | exact HB.out)) hb); clear BK247; clear BK248; clear HB; have BK247 := n0_; have BK248 := n1_; have HB := n2_; clear n0_ n1_ n2_; (try clear hb); (try clear hb2); (try clear hk); (try clear hi); have hnb16 := NB247_248.out; have hnc16 := NB248_247.out; have hcz17_0 : w15.cell? ⟨gb247, 0, none⟩ = some (.string a0_0) := (blk_cell BK247.out 0).trans rfl; have hcz17_1 : w15.cell? ⟨gb247, 1, none⟩ = some (.slice A0_1 l0_1.length c0_1) := (blk_cell BK247.out 1).trans rfl; have hfz17_0 := blk_frozen BK247.out 0; have hfz17_1 := blk_frozen BK247.out 1) | (go_at_call 10; (with_reducible refine (culetref44_Few.calls a0_0 _ _ l0_1 false _ ?side1 ?side2 A8.out).mono ?_); (case side1 => repeat (first | exact (Kd.C_below HR0_1.out HB.out) | (with_reducible refine Kd.C_alloc ?_ _) | (with_reducible refine Kd.C_drewN ?_ _) | (with_reducible refine Kd.C_drew ?_))); (case side2 => exact HC0_1.out); rintro e w18 ⟨rfl, hb⟩; have n0_ := Aside0.mk (blk_below (g := gb247) (o := .cells #[.string a0_0, .slice A0_1 l0_1.length c0_1] 24 (0, 0)) (by (with_reducible repeat (first | refine blk_drewN ?_ _ | refine blk_drew ?_ | refine blk_alloc ?_ _)); exact BK247.out) hb); have n1_ := Aside0.mk (blk_below (g := gb248) (o := .cells #[.int .i64 a1_0, .int .i64 a1_1] 46 (0, 0)) (by (with_reducible repeat (first | refine blk_drewN ?_ _ | refine blk_drew ?_ | refine blk_alloc ?_ _)); exact BK248.out) hb); have n2_ := Aside0.mk (below_step (by repeat (first | (with_reducible first | exact HB.out | apply below_alloc | apply pw_below_drewN | apply below_drew1 | refine below_set ?_ GE247.out | refine below_set ?_ GE248.out) | exact HB.out)) hb); clear BK247; clear BK248; clear HB; have BK247 := n0_; have BK248 := n1_; have HB := n2_; clear n0_ n1_ n2_; (try clear hb); (try clear hb2); (try clear hk); (try clear hi)))
    go_meet
    case rel => exact ⟨_, (true), (by first | rfl | (simp; done) | (simp [*]; done)), H', ⟨by first | omega | exact Nat.le_refl _⟩, ⟨by (with_reducible repeat (first | refine blk_drewN ?_ _ | refine blk_drew ?_ | refine blk_alloc ?_ _)); exact BK247.out⟩, ⟨by (with_reducible repeat (first | refine blk_drewN ?_ _ | refine blk_drew ?_ | refine blk_alloc ?_ _)); exact BK248.out⟩, ⟨by repeat (first | (with_reducible first | exact HB.out | apply below_alloc | apply pw_below_drewN | apply below_drew1 | refine below_set ?_ GE247.out | refine below_set ?_ GE248.out) | exact HB.out)⟩⟩
  ·
   replace c7 := Bool.eq_false_iff.mpr c7
   subst c7
   have H1 : (culetlaw44_TariffSteps.j0 k true a0_0 l0_1 a1_0 a1_1) = some r := by rw [if_neg (show ¬ (false = true) by decide)] at H; exact H
   clear H
   have H := H1
   clear H1
   have H' := Aside0.mk H
   clear H
   go_wp2_with (first | ((with_reducible refine gate_callee (f := 9) rfl ?_); refine goesL_ (some 17) rfl rfl Tryd.func9 (by kernel_rfl) rfl #[] rfl (by (try simp only [List.map_toArray, List.map_cons, List.map_nil]); first | done | rfl | (simp only [List.length_drop, List.length_take]; rfl)) ?_; (with_reducible refine (culetlaw44_awake.calls k  false _ (HTW.out.at (by repeat (first | (with_reducible first | exact HB.out | apply below_alloc | apply pw_below_drewN | apply below_drew1 | refine below_set ?_ GE247.out | refine below_set ?_ GE248.out | refine below_set ?_ GE256.out) | exact HB.out))) A6.out).mono ?_); rintro e w19 ⟨rfl, hb⟩; refine ⟨_, rfl, ?_⟩; have n0_ := Aside0.mk (blk_below (g := gb247) (o := .cells #[.string a0_0, .slice A0_1 l0_1.length c0_1] 24 (0, 0)) (by (with_reducible repeat (first | refine blk_drewN ?_ _ | refine blk_drew ?_ | refine blk_alloc ?_ _)); exact BK247.out) hb); have n1_ := Aside0.mk (blk_below (g := gb248) (o := .cells #[.int .i64 a1_0, .int .i64 a1_1] 46 (0, 0)) (by (with_reducible repeat (first | refine blk_drewN ?_ _ | refine blk_drew ?_ | refine blk_alloc ?_ _)); exact BK248.out) hb); have n2_ := Aside0.mk (below_step (by repeat (first | (with_reducible first | exact HB.out | apply below_alloc | apply pw_below_drewN | apply below_drew1 | refine below_set ?_ GE247.out | refine below_set ?_ GE248.out) | exact HB.out)) hb); clear BK247; clear BK248; clear HB; have BK247 := n0_; have BK248 := n1_; have HB := n2_; clear n0_ n1_ n2_; (try clear hb); (try clear hb2); (try clear hk); (try clear hi)))
   go_meet
   case rel => exact ⟨_, (true), (by first | rfl | (simp; done) | (simp [*]; done)), H', ⟨by first | omega | exact Nat.le_refl _⟩, ⟨by (with_reducible repeat (first | refine blk_drewN ?_ _ | refine blk_drew ?_ | refine blk_alloc ?_ _)); exact BK247.out⟩, ⟨by (with_reducible repeat (first | refine blk_drewN ?_ _ | refine blk_drew ?_ | refine blk_alloc ?_ _)); exact BK248.out⟩, ⟨by repeat (first | (with_reducible first | exact HB.out | apply below_alloc | apply pw_below_drewN | apply below_drew1 | refine below_set ?_ GE247.out | refine below_set ?_ GE248.out) | exact HB.out)⟩⟩
 case rest =>
  clear HC3
  try clear c1
  try clear p2
  try clear c5
  try clear c7
  try clear c9
  try clear c11
  try clear c16
  try clear hcz12_0
  try clear hcz12_1
  try clear hcz14_0
  try clear hcz14_1
  try clear hcz17_0
  try clear hcz17_1
  try clear hfz12_0
  try clear hfz12_1
  try clear hfz14_0
  try clear hfz14_1
  try clear hfz17_0
  try clear hfz17_1
  obtain ⟨kq, x30_2, rfl, HA, HJ2, BK247, BK248, HB⟩ := hcut
  cases kq with
  | zero => exact absurd HA.out (by simp [culetlaw44_TariffSteps.j0])
  | succ kj2 =>
   have H := HA.out
   clear HA
   simp only [culetlaw44_TariffSteps.j0] at H
   by_cases c20 : x30_2 = true
   ·
    subst c20
    have H1 : ((culetlaw44_awake.f kj2).bind fun t251 => (some t251)) = some r := by rw [if_pos rfl] at H; exact H
    clear H
    have H := H1
    clear H1
    replace H := Option.bind_eq_some_iff.mp H
    obtain ⟨t251, A210, H⟩ := H
    replace H : (some t251) = some r := H
    have A21 := Aside0.mk A210
    clear A210
    obtain rfl := Option.some.inj H
    go_wp2_with (first | ((with_reducible refine gate_callee (f := 9) rfl ?_); refine goesL_ (some 31) rfl rfl Tryd.func9 (by kernel_rfl) rfl #[] rfl (by (try simp only [List.map_toArray, List.map_cons, List.map_nil]); first | done | rfl | (simp only [List.length_drop, List.length_take]; rfl)) ?_; (with_reducible refine (culetlaw44_awake.calls kj2  t251 _ (HTW.out.at (by repeat (first | (with_reducible first | exact HB.out | apply below_alloc | apply pw_below_drewN | apply below_drew1 | refine below_set ?_ GE247.out | refine below_set ?_ GE248.out | refine below_set ?_ GE256.out) | exact HB.out))) A21.out).mono ?_); rintro e w22 ⟨rfl, hb⟩; refine ⟨_, rfl, ?_⟩; have n0_ := Aside0.mk (blk_below (g := gb247) (o := .cells #[.string a0_0, .slice A0_1 l0_1.length c0_1] 24 (0, 0)) (by (with_reducible repeat (first | refine blk_drewN ?_ _ | refine blk_drew ?_ | refine blk_alloc ?_ _)); exact BK247.out) hb); have n1_ := Aside0.mk (blk_below (g := gb248) (o := .cells #[.int .i64 a1_0, .int .i64 a1_1] 46 (0, 0)) (by (with_reducible repeat (first | refine blk_drewN ?_ _ | refine blk_drew ?_ | refine blk_alloc ?_ _)); exact BK248.out) hb); have n2_ := Aside0.mk (below_step (by repeat (first | (with_reducible first | exact HB.out | apply below_alloc | apply pw_below_drewN | apply below_drew1 | refine below_set ?_ GE247.out | refine below_set ?_ GE248.out) | exact HB.out)) hb); clear BK247; clear BK248; clear HB; have BK247 := n0_; have BK248 := n1_; have HB := n2_; clear n0_ n1_ n2_; (try clear hb); (try clear hb2); (try clear hk); (try clear hi)))
    go_ret
    exact ⟨by first | rfl | (simp [errW_none, errW_some] <;> rfl) | (simp [*, errW_none, errW_some] <;> rfl), by repeat (first | (with_reducible first | exact HB.out | apply below_alloc | apply pw_below_drewN | apply below_drew1 | refine below_set ?_ GE247.out | refine below_set ?_ GE248.out) | exact HB.out)⟩
   ·
    replace c20 := Bool.eq_false_iff.mpr c20
    subst c20
    have H1 : ((culetlaw44_Own.f kj2 a0_0 l0_1).bind fun bt252 => ((tariff_Value.f kj2 bt252.1 bt252.2 a1_0).bind fun bt257 => ((tariff_Value.f kj2 bt252.1 bt252.2 a1_1).bind fun bt259 => ((tariff_ClassOf.f kj2 bt252.1 bt252.2 a1_0).bind fun bt261 => ((tariff_ClassOf.f kj2 bt252.1 bt252.2 a1_1).bind fun bt263 => (if bt257.2 = 0 then (if bt259.2 = 0 then (if bt261.2 = 0 then (culetlaw44_TariffSteps.j1 kj2 bt257.1 bt257.2 bt259.1 bt259.2 bt261.1 bt261.2 bt263.1 bt263.2 (bt263.2 != 0) a1_0 a1_1 bt252.1 bt252.2) else (culetlaw44_TariffSteps.j1 kj2 bt257.1 bt257.2 bt259.1 bt259.2 bt261.1 bt261.2 bt263.1 bt263.2 true a1_0 a1_1 bt252.1 bt252.2)) else (culetlaw44_TariffSteps.j1 kj2 bt257.1 bt257.2 bt259.1 bt259.2 bt261.1 bt261.2 bt263.1 bt263.2 true a1_0 a1_1 bt252.1 bt252.2)) else (culetlaw44_TariffSteps.j1 kj2 bt257.1 bt257.2 bt259.1 bt259.2 bt261.1 bt261.2 bt263.1 bt263.2 true a1_0 a1_1 bt252.1 bt252.2))))))) = some r := by rw [if_neg (show ¬ (false = true) by decide)] at H; exact H
    clear H
    have H := H1
    clear H1
    replace H := Option.bind_eq_some_iff.mp H
    obtain ⟨⟨t252, t253⟩, A230, H⟩ := H
    replace H : ((tariff_Value.f kj2 t252 t253 a1_0).bind fun bt257 => ((tariff_Value.f kj2 t252 t253 a1_1).bind fun bt259 => ((tariff_ClassOf.f kj2 t252 t253 a1_0).bind fun bt261 => ((tariff_ClassOf.f kj2 t252 t253 a1_1).bind fun bt263 => (if bt257.2 = 0 then (if bt259.2 = 0 then (if bt261.2 = 0 then (culetlaw44_TariffSteps.j1 kj2 bt257.1 bt257.2 bt259.1 bt259.2 bt261.1 bt261.2 bt263.1 bt263.2 (bt263.2 != 0) a1_0 a1_1 t252 t253) else (culetlaw44_TariffSteps.j1 kj2 bt257.1 bt257.2 bt259.1 bt259.2 bt261.1 bt261.2 bt263.1 bt263.2 true a1_0 a1_1 t252 t253)) else (culetlaw44_TariffSteps.j1 kj2 bt257.1 bt257.2 bt259.1 bt259.2 bt261.1 bt261.2 bt263.1 bt263.2 true a1_0 a1_1 t252 t253)) else (culetlaw44_TariffSteps.j1 kj2 bt257.1 bt257.2 bt259.1 bt259.2 bt261.1 bt261.2 bt263.1 bt263.2 true a1_0 a1_1 t252 t253)))))) = some r := H
    have A23 := Aside0.mk A230
    clear A230
    replace H := Option.bind_eq_some_iff.mp H
    obtain ⟨⟨t257, t258⟩, A240, H⟩ := H
    replace H : ((tariff_Value.f kj2 t252 t253 a1_1).bind fun bt259 => ((tariff_ClassOf.f kj2 t252 t253 a1_0).bind fun bt261 => ((tariff_ClassOf.f kj2 t252 t253 a1_1).bind fun bt263 => (if t258 = 0 then (if bt259.2 = 0 then (if bt261.2 = 0 then (culetlaw44_TariffSteps.j1 kj2 t257 t258 bt259.1 bt259.2 bt261.1 bt261.2 bt263.1 bt263.2 (bt263.2 != 0) a1_0 a1_1 t252 t253) else (culetlaw44_TariffSteps.j1 kj2 t257 t258 bt259.1 bt259.2 bt261.1 bt261.2 bt263.1 bt263.2 true a1_0 a1_1 t252 t253)) else (culetlaw44_TariffSteps.j1 kj2 t257 t258 bt259.1 bt259.2 bt261.1 bt261.2 bt263.1 bt263.2 true a1_0 a1_1 t252 t253)) else (culetlaw44_TariffSteps.j1 kj2 t257 t258 bt259.1 bt259.2 bt261.1 bt261.2 bt263.1 bt263.2 true a1_0 a1_1 t252 t253))))) = some r := H
    have A24 := Aside0.mk A240
    clear A240
    replace H := Option.bind_eq_some_iff.mp H
    obtain ⟨⟨t259, t260⟩, A250, H⟩ := H
    replace H : ((tariff_ClassOf.f kj2 t252 t253 a1_0).bind fun bt261 => ((tariff_ClassOf.f kj2 t252 t253 a1_1).bind fun bt263 => (if t258 = 0 then (if t260 = 0 then (if bt261.2 = 0 then (culetlaw44_TariffSteps.j1 kj2 t257 t258 t259 t260 bt261.1 bt261.2 bt263.1 bt263.2 (bt263.2 != 0) a1_0 a1_1 t252 t253) else (culetlaw44_TariffSteps.j1 kj2 t257 t258 t259 t260 bt261.1 bt261.2 bt263.1 bt263.2 true a1_0 a1_1 t252 t253)) else (culetlaw44_TariffSteps.j1 kj2 t257 t258 t259 t260 bt261.1 bt261.2 bt263.1 bt263.2 true a1_0 a1_1 t252 t253)) else (culetlaw44_TariffSteps.j1 kj2 t257 t258 t259 t260 bt261.1 bt261.2 bt263.1 bt263.2 true a1_0 a1_1 t252 t253)))) = some r := H
    have A25 := Aside0.mk A250
    clear A250
    replace H := Option.bind_eq_some_iff.mp H
    obtain ⟨⟨t261, t262⟩, A260, H⟩ := H
    replace H : ((tariff_ClassOf.f kj2 t252 t253 a1_1).bind fun bt263 => (if t258 = 0 then (if t260 = 0 then (if t262 = 0 then (culetlaw44_TariffSteps.j1 kj2 t257 t258 t259 t260 t261 t262 bt263.1 bt263.2 (bt263.2 != 0) a1_0 a1_1 t252 t253) else (culetlaw44_TariffSteps.j1 kj2 t257 t258 t259 t260 t261 t262 bt263.1 bt263.2 true a1_0 a1_1 t252 t253)) else (culetlaw44_TariffSteps.j1 kj2 t257 t258 t259 t260 t261 t262 bt263.1 bt263.2 true a1_0 a1_1 t252 t253)) else (culetlaw44_TariffSteps.j1 kj2 t257 t258 t259 t260 t261 t262 bt263.1 bt263.2 true a1_0 a1_1 t252 t253))) = some r := H
    have A26 := Aside0.mk A260
    clear A260
    replace H := Option.bind_eq_some_iff.mp H
    obtain ⟨⟨t263, t264⟩, A270, H⟩ := H
    replace H : (if t258 = 0 then (if t260 = 0 then (if t262 = 0 then (culetlaw44_TariffSteps.j1 kj2 t257 t258 t259 t260 t261 t262 t263 t264 (t264 != 0) a1_0 a1_1 t252 t253) else (culetlaw44_TariffSteps.j1 kj2 t257 t258 t259 t260 t261 t262 t263 t264 true a1_0 a1_1 t252 t253)) else (culetlaw44_TariffSteps.j1 kj2 t257 t258 t259 t260 t261 t262 t263 t264 true a1_0 a1_1 t252 t253)) else (culetlaw44_TariffSteps.j1 kj2 t257 t258 t259 t260 t261 t262 t263 t264 true a1_0 a1_1 t252 t253)) = some r := H
    have A27 := Aside0.mk A270
    clear A270
    have HC28 := Aside0.mk H
    clear H
    have hnb29 := NB247_248.out
    have hnc29 := NB248_247.out
    have hcz30_0 : wc.cell? ⟨gb247, 0, none⟩ = some (.string a0_0) := (blk_cell BK247.out 0).trans rfl
    have hcz30_1 : wc.cell? ⟨gb247, 1, none⟩ = some (.slice A0_1 l0_1.length c0_1) := (blk_cell BK247.out 1).trans rfl
    have hfz30_0 := blk_frozen BK247.out 0
    have hfz30_1 := blk_frozen BK247.out 1
    go_upto_region 8 with (first | ((with_reducible refine gate_callee (f := 16) rfl ?_); refine goesL_ (some 33) rfl rfl Tryd.func16 (by kernel_rfl) rfl #[.agg #[.string a0_0, .slice A0_1 l0_1.length c0_1]] rfl (by (try simp only [List.map_toArray, List.map_cons, List.map_nil]); first | done | rfl | (simp only [List.length_drop, List.length_take]; rfl)) ?_; (with_reducible refine (culetlaw44_Own.calls kj2 a0_0 _ _ l0_1 t252 t253 _ ?side1 ?side2 A23.out).mono ?_); (case side1 => repeat (first | exact (Kd.C_below HR0_1.out HB.out) | (with_reducible refine Kd.C_alloc ?_ _) | (with_reducible refine Kd.C_drewN ?_ _) | (with_reducible refine Kd.C_drew ?_))); (case side2 => exact HC0_1.out); rintro e w31 ⟨v254, rfl, ho0, hb⟩; refine ⟨_, rfl, ?_⟩; have n0_ := Aside0.mk (Kd.R_lower ho0 (below_size (by repeat (first | (with_reducible first | exact HB.out | apply below_alloc | apply pw_below_drewN | apply below_drew1 | refine below_set ?_ GE247.out | refine below_set ?_ GE248.out) | exact HB.out)))); have n1_ := Aside0.mk (blk_below (g := gb247) (o := .cells #[.string a0_0, .slice A0_1 l0_1.length c0_1] 24 (0, 0)) (by (with_reducible repeat (first | refine blk_drewN ?_ _ | refine blk_drew ?_ | refine blk_alloc ?_ _)); exact BK247.out) hb); have n2_ := Aside0.mk (blk_below (g := gb248) (o := .cells #[.int .i64 a1_0, .int .i64 a1_1] 46 (0, 0)) (by (with_reducible repeat (first | refine blk_drewN ?_ _ | refine blk_drew ?_ | refine blk_alloc ?_ _)); exact BK248.out) hb); have n3_ := Aside0.mk (below_step (by repeat (first | (with_reducible first | exact HB.out | apply below_alloc | apply pw_below_drewN | apply below_drew1 | refine below_set ?_ GE247.out | refine below_set ?_ GE248.out) | exact HB.out)) hb); clear BK247; clear BK248; clear HB; have HO255 := n0_; have BK247 := n1_; have BK248 := n2_; have HB := n3_; clear n0_ n1_ n2_ n3_; (try clear hb); (try clear hb2); (try clear hk); (try clear hi); (try clear ho0)) | ((with_reducible refine gate_dst (N := 5) rfl ?_); refine box_event ?hg (N := 5) ?hd (cs := #[.string (⟨#[]⟩ : ByteArray), .slice none 0 0]) (t := 29) ?hr ?_; (case hd => rfl); (case hg => rfl); (case hr => first | (go_simp; done) | (go_simp; rfl)); intro gb256 hg w32 hbox hb; have n0_ := Aside0.mk (Kd.R_below (by (with_reducible repeat (first | apply Kd.R_alloc | apply Kd.R_drewN | apply Kd.R_drew)); exact HO255.out) hb); have n1_ := Aside0.mk (blk_below (g := gb247) (o := .cells #[.string a0_0, .slice A0_1 l0_1.length c0_1] 24 (0, 0)) (by (with_reducible repeat (first | refine blk_drewN ?_ _ | refine blk_drew ?_ | refine blk_alloc ?_ _)); exact BK247.out) hb); have n2_ := Aside0.mk (blk_below (g := gb248) (o := .cells #[.int .i64 a1_0, .int .i64 a1_1] 46 (0, 0)) (by (with_reducible repeat (first | refine blk_drewN ?_ _ | refine blk_drew ?_ | refine blk_alloc ?_ _)); exact BK248.out) hb); have n3_ := Aside0.mk (below_step (by repeat (first | (with_reducible first | exact HB.out | apply below_alloc | apply pw_below_drewN | apply below_drew1 | refine below_set ?_ GE247.out | refine below_set ?_ GE248.out) | exact HB.out)) hb); have n4_ := Aside0.mk (hbox); have n5_ := Aside0.mk ((by rw [hg]; exact (below_size (by repeat (first | (with_reducible first | exact HB.out | apply below_alloc | apply pw_below_drewN | apply below_drew1 | refine below_set ?_ GE247.out | refine below_set ?_ GE248.out) | exact HB.out))) : w.heap.size ≤ gb256)); have n6_ := Aside0.mk ((by rw [hg]; exact (below_size (by repeat (first | (with_reducible first | exact HB.out | apply below_alloc | apply pw_below_drewN | apply below_drew1 | refine below_set ?_ GE247.out | refine below_set ?_ GE248.out) | exact HB.out))) : w.heap.size ≤ gb256)); have n7_ := Aside0.mk ((by rw [hg]; exact Nat.ne_of_lt (blk_lt (g := gb247) (o := .cells #[.string a0_0, .slice A0_1 l0_1.length c0_1] 24 (0, 0)) (by (with_reducible repeat (first | refine blk_drewN ?_ _ | refine blk_drew ?_ | refine blk_alloc ?_ _)); exact BK247.out)) : gb247 ≠ gb256)); have n8_ := Aside0.mk ((by rw [hg]; exact Nat.ne_of_gt (blk_lt (g := gb247) (o := .cells #[.string a0_0, .slice A0_1 l0_1.length c0_1] 24 (0, 0)) (by (with_reducible repeat (first | refine blk_drewN ?_ _ | refine blk_drew ?_ | refine blk_alloc ?_ _)); exact BK247.out)) : gb256 ≠ gb247)); have n9_ := Aside0.mk ((by rw [hg]; exact Nat.ne_of_lt (blk_lt (g := gb248) (o := .cells #[.int .i64 a1_0, .int .i64 a1_1] 46 (0, 0)) (by (with_reducible repeat (first | refine blk_drewN ?_ _ | refine blk_drew ?_ | refine blk_alloc ?_ _)); exact BK248.out)) : gb248 ≠ gb256)); have n10_ := Aside0.mk ((by rw [hg]; exact Nat.ne_of_gt (blk_lt (g := gb248) (o := .cells #[.int .i64 a1_0, .int .i64 a1_1] 46 (0, 0)) (by (with_reducible repeat (first | refine blk_drewN ?_ _ | refine blk_drew ?_ | refine blk_alloc ?_ _)); exact BK248.out)) : gb256 ≠ gb248)); clear HO255; clear BK247; clear BK248; clear HB; have HO255 := n0_; have BK247 := n1_; have BK248 := n2_; have HB := n3_; have BK256 := n4_; have GW256 := n5_; have GE256 := n6_; have NB247_256 := n7_; have NB256_247 := n8_; have NB248_256 := n9_; have NB256_248 := n10_; clear n0_ n1_ n2_ n3_ n4_ n5_ n6_ n7_ n8_ n9_ n10_; clear hb hbox hg; have hnb33 := NB256_247.out; have hnc33 := NB247_256.out; have hnb34 := NB256_248.out; have hnc34 := NB248_256.out; have hcz35_0 : w32.cell? ⟨gb256, 0, none⟩ = some (.string (⟨#[]⟩ : ByteArray)) := (blk_cell BK256.out 0).trans rfl; have hcz35_1 : w32.cell? ⟨gb256, 1, none⟩ = some (.slice none 0 0) := (blk_cell BK256.out 1).trans rfl; have hfz35_0 := blk_frozen BK256.out 0; have hfz35_1 := blk_frozen BK256.out 1; obtain ⟨Ao36, co36, eo36⟩ := Kd.R_slice HO255.out; subst eo36; have hcz37_0 : w32.cell? ⟨gb248, 0, none⟩ = some (.int .i64 a1_0) := (blk_cell BK248.out 0).trans rfl; have hcz37_1 : w32.cell? ⟨gb248, 1, none⟩ = some (.int .i64 a1_1) := (blk_cell BK248.out 1).trans rfl; have hfz37_0 := blk_frozen BK248.out 0; have hfz37_1 := blk_frozen BK248.out 1) | ((with_reducible refine gate_callee (f := 18) rfl ?_); refine goesL_ (some 38) rfl rfl Tryd.func18 (by kernel_rfl) rfl #[.agg #[.string t252, .slice Ao36 t253.length co36], .int .i64 a1_0] rfl (by (try simp only [List.map_toArray, List.map_cons, List.map_nil]); first | done | rfl | (simp only [List.length_drop, List.length_take]; rfl)) ?_; (with_reducible refine (tariff_Value.calls kj2 t252 _ _ t253 a1_0 t257 t258 _ ?side1 ?side2 A24.out).mono ?_); (case side1 => refine (Kd.R_reads' (e := 63) (base := w.heap.size) (ok := fun k_ => True) (n := t253.length) (c := co36) ?_).2.2; exact (by (with_reducible repeat (first | apply Kd.R_alloc | apply Kd.R_drewN | apply Kd.R_drew)); exact (Kd.R_mono (Kd.R_far (p := ⟨gb256, 1, none⟩) (Kd.R_far (p := ⟨gb256, 0, none⟩) (Kd.R_types HO255.out BK256.out (by decide)) (fun _ hk => hk.2) (.string t252)) (fun _ hk => hk.2) (.slice Ao36 t253.length co36)) (fun _ h_ => h_.1)))); (case side2 => exact (Kd.R_reads' HO255.out).2.1); rintro e w38 ⟨rfl, hb⟩; refine ⟨_, rfl, ?_⟩; have n0_ := Aside0.mk (Kd.R_below (by (with_reducible repeat (first | apply Kd.R_alloc | apply Kd.R_drewN | apply Kd.R_drew)); exact (Kd.R_mono (Kd.R_far (p := ⟨gb256, 1, none⟩) (Kd.R_far (p := ⟨gb256, 0, none⟩) (Kd.R_types HO255.out BK256.out (by decide)) (fun _ hk => hk.2) (.string t252)) (fun _ hk => hk.2) (.slice Ao36 t253.length co36)) (fun _ h_ => h_.1))) hb); have n1_ := Aside0.mk (blk_below (g := gb247) (o := .cells #[.string a0_0, .slice A0_1 l0_1.length c0_1] 24 (0, 0)) (by (with_reducible repeat (first | refine blk_drewN ?_ _ | refine blk_drew ?_ | refine blk_alloc ?_ _)); refine blk_far ?_ NB247_256.out _; (with_reducible repeat (first | refine blk_drewN ?_ _ | refine blk_drew ?_ | refine blk_alloc ?_ _)); refine blk_far ?_ NB247_256.out _; (with_reducible repeat (first | refine blk_drewN ?_ _ | refine blk_drew ?_ | refine blk_alloc ?_ _)); exact BK247.out) hb); have n2_ := Aside0.mk (blk_below (g := gb248) (o := .cells #[.int .i64 a1_0, .int .i64 a1_1] 46 (0, 0)) (by (with_reducible repeat (first | refine blk_drewN ?_ _ | refine blk_drew ?_ | refine blk_alloc ?_ _)); refine blk_far ?_ NB248_256.out _; (with_reducible repeat (first | refine blk_drewN ?_ _ | refine blk_drew ?_ | refine blk_alloc ?_ _)); refine blk_far ?_ NB248_256.out _; (with_reducible repeat (first | refine blk_drewN ?_ _ | refine blk_drew ?_ | refine blk_alloc ?_ _)); exact BK248.out) hb); have n3_ := Aside0.mk (blk_below (g := gb256) (o := .cells #[.string t252, .slice Ao36 t253.length co36] 29 (0, 0)) (by (with_reducible repeat (first | refine blk_drewN ?_ _ | refine blk_drew ?_ | refine blk_alloc ?_ _)); refine blk_put (cs := #[.string t252, .slice none 0 0]) ?_ 1 _ rfl; (with_reducible repeat (first | refine blk_drewN ?_ _ | refine blk_drew ?_ | refine blk_alloc ?_ _)); refine blk_put (cs := #[.string (⟨#[]⟩ : ByteArray), .slice none 0 0]) ?_ 0 _ rfl; (with_reducible repeat (first | refine blk_drewN ?_ _ | refine blk_drew ?_ | refine blk_alloc ?_ _)); exact BK256.out) hb); have n4_ := Aside0.mk (below_step (by repeat (first | (with_reducible first | exact HB.out | apply below_alloc | apply pw_below_drewN | apply below_drew1 | refine below_set ?_ GE247.out | refine below_set ?_ GE248.out | refine below_set ?_ GE256.out) | exact HB.out)) hb); clear HO255; clear BK247; clear BK248; clear BK256; clear HB; have HO255 := n0_; have BK247 := n1_; have BK248 := n2_; have BK256 := n3_; have HB := n4_; clear n0_ n1_ n2_ n3_ n4_; (try clear hb); (try clear hb2); (try clear hk); (try clear hi); have hcz39_0 : w38.cell? ⟨gb256, 0, none⟩ = some (.string t252) := (blk_cell BK256.out 0).trans rfl; have hcz39_1 : w38.cell? ⟨gb256, 1, none⟩ = some (.slice Ao36 t253.length co36) := (blk_cell BK256.out 1).trans rfl; have hfz39_0 := blk_frozen BK256.out 0; have hfz39_1 := blk_frozen BK256.out 1; have hcz40_0 : w38.cell? ⟨gb248, 0, none⟩ = some (.int .i64 a1_0) := (blk_cell BK248.out 0).trans rfl; have hcz40_1 : w38.cell? ⟨gb248, 1, none⟩ = some (.int .i64 a1_1) := (blk_cell BK248.out 1).trans rfl; have hfz40_0 := blk_frozen BK248.out 0; have hfz40_1 := blk_frozen BK248.out 1) | ((with_reducible refine gate_callee (f := 18) rfl ?_); refine goesL_ (some 45) rfl rfl Tryd.func18 (by kernel_rfl) rfl #[.agg #[.string t252, .slice Ao36 t253.length co36], .int .i64 a1_1] rfl (by (try simp only [List.map_toArray, List.map_cons, List.map_nil]); first | done | rfl | (simp only [List.length_drop, List.length_take]; rfl)) ?_; (with_reducible refine (tariff_Value.calls kj2 t252 _ _ t253 a1_1 t259 t260 _ ?side1 ?side2 A25.out).mono ?_); (case side1 => repeat (first | exact (Kd.R_reads' HO255.out).2.2 | (with_reducible refine Kd.C_alloc ?_ _) | (with_reducible refine Kd.C_drewN ?_ _) | (with_reducible refine Kd.C_drew ?_))); (case side2 => exact (Kd.R_reads' HO255.out).2.1); rintro e w41 ⟨rfl, hb⟩; refine ⟨_, rfl, ?_⟩; have n0_ := Aside0.mk (Kd.R_below (by (with_reducible repeat (first | apply Kd.R_alloc | apply Kd.R_drewN | apply Kd.R_drew)); exact HO255.out) hb); have n1_ := Aside0.mk (blk_below (g := gb247) (o := .cells #[.string a0_0, .slice A0_1 l0_1.length c0_1] 24 (0, 0)) (by (with_reducible repeat (first | refine blk_drewN ?_ _ | refine blk_drew ?_ | refine blk_alloc ?_ _)); exact BK247.out) hb); have n2_ := Aside0.mk (blk_below (g := gb248) (o := .cells #[.int .i64 a1_0, .int .i64 a1_1] 46 (0, 0)) (by (with_reducible repeat (first | refine blk_drewN ?_ _ | refine blk_drew ?_ | refine blk_alloc ?_ _)); exact BK248.out) hb); have n3_ := Aside0.mk (blk_below (g := gb256) (o := .cells #[.string t252, .slice Ao36 t253.length co36] 29 (0, 0)) (by (with_reducible repeat (first | refine blk_drewN ?_ _ | refine blk_drew ?_ | refine blk_alloc ?_ _)); exact BK256.out) hb); have n4_ := Aside0.mk (below_step (by repeat (first | (with_reducible first | exact HB.out | apply below_alloc | apply pw_below_drewN | apply below_drew1 | refine below_set ?_ GE247.out | refine below_set ?_ GE248.out | refine below_set ?_ GE256.out) | exact HB.out)) hb); clear HO255; clear BK247; clear BK248; clear BK256; clear HB; have HO255 := n0_; have BK247 := n1_; have BK248 := n2_; have BK256 := n3_; have HB := n4_; clear n0_ n1_ n2_ n3_ n4_; (try clear hb); (try clear hb2); (try clear hk); (try clear hi); have hcz42_0 : w41.cell? ⟨gb256, 0, none⟩ = some (.string t252) := (blk_cell BK256.out 0).trans rfl; have hcz42_1 : w41.cell? ⟨gb256, 1, none⟩ = some (.slice Ao36 t253.length co36) := (blk_cell BK256.out 1).trans rfl; have hfz42_0 := blk_frozen BK256.out 0; have hfz42_1 := blk_frozen BK256.out 1; have hcz43_0 : w41.cell? ⟨gb248, 0, none⟩ = some (.int .i64 a1_0) := (blk_cell BK248.out 0).trans rfl; have hcz43_1 : w41.cell? ⟨gb248, 1, none⟩ = some (.int .i64 a1_1) := (blk_cell BK248.out 1).trans rfl; have hfz43_0 := blk_frozen BK248.out 0; have hfz43_1 := blk_frozen BK248.out 1) | ((with_reducible refine gate_callee (f := 20) rfl ?_); refine goesL_ (some 52) rfl rfl Tryd.func20 (by kernel_rfl) rfl #[.agg #[.string t252, .slice Ao36 t253.length co36], .int .i64 a1_0] rfl (by (try simp only [List.map_toArray, List.map_cons, List.map_nil]); first | done | rfl | (simp only [List.length_drop, List.length_take]; rfl)) ?_; (with_reducible refine (tariff_ClassOf.calls kj2 t252 _ _ t253 a1_0 t261 t262 _ ?side1 ?side2 A26.out).mono ?_); (case side1 => repeat (first | exact (Kd.R_reads' HO255.out).2.2 | (with_reducible refine Kd.C_alloc ?_ _) | (with_reducible refine Kd.C_drewN ?_ _) | (with_reducible refine Kd.C_drew ?_))); (case side2 => exact (Kd.R_reads' HO255.out).2.1); rintro e w44 ⟨rfl, hb⟩; refine ⟨_, rfl, ?_⟩; have n0_ := Aside0.mk (Kd.R_below (by (with_reducible repeat (first | apply Kd.R_alloc | apply Kd.R_drewN | apply Kd.R_drew)); exact HO255.out) hb); have n1_ := Aside0.mk (blk_below (g := gb247) (o := .cells #[.string a0_0, .slice A0_1 l0_1.length c0_1] 24 (0, 0)) (by (with_reducible repeat (first | refine blk_drewN ?_ _ | refine blk_drew ?_ | refine blk_alloc ?_ _)); exact BK247.out) hb); have n2_ := Aside0.mk (blk_below (g := gb248) (o := .cells #[.int .i64 a1_0, .int .i64 a1_1] 46 (0, 0)) (by (with_reducible repeat (first | refine blk_drewN ?_ _ | refine blk_drew ?_ | refine blk_alloc ?_ _)); exact BK248.out) hb); have n3_ := Aside0.mk (blk_below (g := gb256) (o := .cells #[.string t252, .slice Ao36 t253.length co36] 29 (0, 0)) (by (with_reducible repeat (first | refine blk_drewN ?_ _ | refine blk_drew ?_ | refine blk_alloc ?_ _)); exact BK256.out) hb); have n4_ := Aside0.mk (below_step (by repeat (first | (with_reducible first | exact HB.out | apply below_alloc | apply pw_below_drewN | apply below_drew1 | refine below_set ?_ GE247.out | refine below_set ?_ GE248.out | refine below_set ?_ GE256.out) | exact HB.out)) hb); clear HO255; clear BK247; clear BK248; clear BK256; clear HB; have HO255 := n0_; have BK247 := n1_; have BK248 := n2_; have BK256 := n3_; have HB := n4_; clear n0_ n1_ n2_ n3_ n4_; (try clear hb); (try clear hb2); (try clear hk); (try clear hi); have hcz45_0 : w44.cell? ⟨gb256, 0, none⟩ = some (.string t252) := (blk_cell BK256.out 0).trans rfl; have hcz45_1 : w44.cell? ⟨gb256, 1, none⟩ = some (.slice Ao36 t253.length co36) := (blk_cell BK256.out 1).trans rfl; have hfz45_0 := blk_frozen BK256.out 0; have hfz45_1 := blk_frozen BK256.out 1; have hcz46_0 : w44.cell? ⟨gb248, 0, none⟩ = some (.int .i64 a1_0) := (blk_cell BK248.out 0).trans rfl; have hcz46_1 : w44.cell? ⟨gb248, 1, none⟩ = some (.int .i64 a1_1) := (blk_cell BK248.out 1).trans rfl; have hfz46_0 := blk_frozen BK248.out 0; have hfz46_1 := blk_frozen BK248.out 1) | ((with_reducible refine gate_callee (f := 20) rfl ?_); refine goesL_ (some 59) rfl rfl Tryd.func20 (by kernel_rfl) rfl #[.agg #[.string t252, .slice Ao36 t253.length co36], .int .i64 a1_1] rfl (by (try simp only [List.map_toArray, List.map_cons, List.map_nil]); first | done | rfl | (simp only [List.length_drop, List.length_take]; rfl)) ?_; (with_reducible refine (tariff_ClassOf.calls kj2 t252 _ _ t253 a1_1 t263 t264 _ ?side1 ?side2 A27.out).mono ?_); (case side1 => repeat (first | exact (Kd.R_reads' HO255.out).2.2 | (with_reducible refine Kd.C_alloc ?_ _) | (with_reducible refine Kd.C_drewN ?_ _) | (with_reducible refine Kd.C_drew ?_))); (case side2 => exact (Kd.R_reads' HO255.out).2.1); rintro e w47 ⟨rfl, hb⟩; refine ⟨_, rfl, ?_⟩; have n0_ := Aside0.mk (Kd.R_below (by (with_reducible repeat (first | apply Kd.R_alloc | apply Kd.R_drewN | apply Kd.R_drew)); exact HO255.out) hb); have n1_ := Aside0.mk (blk_below (g := gb247) (o := .cells #[.string a0_0, .slice A0_1 l0_1.length c0_1] 24 (0, 0)) (by (with_reducible repeat (first | refine blk_drewN ?_ _ | refine blk_drew ?_ | refine blk_alloc ?_ _)); exact BK247.out) hb); have n2_ := Aside0.mk (blk_below (g := gb248) (o := .cells #[.int .i64 a1_0, .int .i64 a1_1] 46 (0, 0)) (by (with_reducible repeat (first | refine blk_drewN ?_ _ | refine blk_drew ?_ | refine blk_alloc ?_ _)); exact BK248.out) hb); have n3_ := Aside0.mk (blk_below (g := gb256) (o := .cells #[.string t252, .slice Ao36 t253.length co36] 29 (0, 0)) (by (with_reducible repeat (first | refine blk_drewN ?_ _ | refine blk_drew ?_ | refine blk_alloc ?_ _)); exact BK256.out) hb); have n4_ := Aside0.mk (below_step (by repeat (first | (with_reducible first | exact HB.out | apply below_alloc | apply pw_below_drewN | apply below_drew1 | refine below_set ?_ GE247.out | refine below_set ?_ GE248.out | refine below_set ?_ GE256.out) | exact HB.out)) hb); clear HO255; clear BK247; clear BK248; clear BK256; clear HB; have HO255 := n0_; have BK247 := n1_; have BK248 := n2_; have BK256 := n3_; have HB := n4_; clear n0_ n1_ n2_ n3_ n4_; (try clear hb); (try clear hb2); (try clear hk); (try clear hi)))
    (try simp only [Act.put, List.setIfInBounds_toArray, List.set_cons_zero, List.set_cons_succ])
    go_cut [75] (fun v75 wc => ∃ (kq : Nat) (x75_27 : Bool), v75 = .bool x75_27 ∧ Aside0 (culetlaw44_TariffSteps.j1 kq t257 t258 t259 t260 t261 t262 t263 t264 x75_27 a1_0 a1_1 t252 t253 = some r) ∧ Aside0 (kq ≤ kj2) ∧ Aside0 (Kd.R k63 63 wc w.heap.size (fun _ => True) (.slice Ao36 t253.length co36) t253) ∧ Aside0 (wc.heap[gb247]? = some (.cells #[.string a0_0, (.slice A0_1 l0_1.length c0_1)] 24 (0, 0))) ∧ Aside0 (wc.heap[gb248]? = some (.cells #[.int .i64 a1_0, .int .i64 a1_1] 46 (0, 0))) ∧ Aside0 (wc.heap[gb256]? = some (.cells #[.string t252, (.slice Ao36 t253.length co36)] 29 (0, 0))) ∧ Aside0 (Below w.heap.size w wc))
    case first =>
     have H := HC28.out
     clear HC28
     by_cases c48 : t258 = 0
     ·
      rw [if_pos c48] at H
      have c48b0 : (t258 == 0) = true := beq_iff_eq.mpr c48
      have c48b1 : (t258 != 0) = false := bne_eq_false_iff_eq.mpr c48
      clear c48
      (first | rw [c48b0] | (simp only [i64_w, i32_w]; rw [c48b0]) | skip)
      by_cases c49 : t260 = 0
      ·
       rw [if_pos c49] at H
       have c49b0 : (t260 == 0) = true := beq_iff_eq.mpr c49
       have c49b1 : (t260 != 0) = false := bne_eq_false_iff_eq.mpr c49
       clear c49
       by_cases c50 : t262 = 0
       ·
        rw [if_pos c50] at H
        have c50b0 : (t262 == 0) = true := beq_iff_eq.mpr c50
        have c50b1 : (t262 != 0) = false := bne_eq_false_iff_eq.mpr c50
        clear c50
        have H' := Aside0.mk H
        clear H
        go_wp2
        go_meet
        case rel => exact ⟨_, ((t264 != 0)), (by first | rfl | (simp; done) | (simp [*]; done)), H', ⟨by have := HJ2.out; first | omega | exact Nat.le_refl _⟩, ⟨by (with_reducible repeat (first | apply Kd.R_alloc | apply Kd.R_drewN | apply Kd.R_drew)); exact HO255.out⟩, ⟨by (with_reducible repeat (first | refine blk_drewN ?_ _ | refine blk_drew ?_ | refine blk_alloc ?_ _)); exact BK247.out⟩, ⟨by (with_reducible repeat (first | refine blk_drewN ?_ _ | refine blk_drew ?_ | refine blk_alloc ?_ _)); exact BK248.out⟩, ⟨by (with_reducible repeat (first | refine blk_drewN ?_ _ | refine blk_drew ?_ | refine blk_alloc ?_ _)); exact BK256.out⟩, ⟨by repeat (first | (with_reducible first | exact HB.out | apply below_alloc | apply pw_below_drewN | apply below_drew1 | refine below_set ?_ GE247.out | refine below_set ?_ GE248.out | refine below_set ?_ GE256.out) | exact HB.out)⟩⟩
       ·
        rw [if_neg c50] at H
        have c50b0 : (t262 == 0) = false := beq_eq_false_iff_ne.mpr c50
        have c50b1 : (t262 != 0) = true := bne_iff_ne.mpr c50
        have H' := Aside0.mk H
        clear H
        go_wp2
        go_meet
        case rel => exact ⟨_, (true), (by first | rfl | (simp; done) | (simp [*]; done)), H', ⟨by have := HJ2.out; first | omega | exact Nat.le_refl _⟩, ⟨by (with_reducible repeat (first | apply Kd.R_alloc | apply Kd.R_drewN | apply Kd.R_drew)); exact HO255.out⟩, ⟨by (with_reducible repeat (first | refine blk_drewN ?_ _ | refine blk_drew ?_ | refine blk_alloc ?_ _)); exact BK247.out⟩, ⟨by (with_reducible repeat (first | refine blk_drewN ?_ _ | refine blk_drew ?_ | refine blk_alloc ?_ _)); exact BK248.out⟩, ⟨by (with_reducible repeat (first | refine blk_drewN ?_ _ | refine blk_drew ?_ | refine blk_alloc ?_ _)); exact BK256.out⟩, ⟨by repeat (first | (with_reducible first | exact HB.out | apply below_alloc | apply pw_below_drewN | apply below_drew1 | refine below_set ?_ GE247.out | refine below_set ?_ GE248.out | refine below_set ?_ GE256.out) | exact HB.out)⟩⟩
      ·
       rw [if_neg c49] at H
       have c49b0 : (t260 == 0) = false := beq_eq_false_iff_ne.mpr c49
       have c49b1 : (t260 != 0) = true := bne_iff_ne.mpr c49
       have H' := Aside0.mk H
       clear H
       go_wp2
       go_meet
       case rel => exact ⟨_, (true), (by first | rfl | (simp; done) | (simp [*]; done)), H', ⟨by have := HJ2.out; first | omega | exact Nat.le_refl _⟩, ⟨by (with_reducible repeat (first | apply Kd.R_alloc | apply Kd.R_drewN | apply Kd.R_drew)); exact HO255.out⟩, ⟨by (with_reducible repeat (first | refine blk_drewN ?_ _ | refine blk_drew ?_ | refine blk_alloc ?_ _)); exact BK247.out⟩, ⟨by (with_reducible repeat (first | refine blk_drewN ?_ _ | refine blk_drew ?_ | refine blk_alloc ?_ _)); exact BK248.out⟩, ⟨by (with_reducible repeat (first | refine blk_drewN ?_ _ | refine blk_drew ?_ | refine blk_alloc ?_ _)); exact BK256.out⟩, ⟨by repeat (first | (with_reducible first | exact HB.out | apply below_alloc | apply pw_below_drewN | apply below_drew1 | refine below_set ?_ GE247.out | refine below_set ?_ GE248.out | refine below_set ?_ GE256.out) | exact HB.out)⟩⟩
     ·
      rw [if_neg c48] at H
      have c48b0 : (t258 == 0) = false := beq_eq_false_iff_ne.mpr c48
      have c48b1 : (t258 != 0) = true := bne_iff_ne.mpr c48
      (first | rw [c48b0] | (simp only [i64_w, i32_w]; rw [c48b0]) | skip)
      have H' := Aside0.mk H
      clear H
      go_wp2
      go_meet
      case rel => exact ⟨_, (true), (by first | rfl | (simp; done) | (simp [*]; done)), H', ⟨by have := HJ2.out; first | omega | exact Nat.le_refl _⟩, ⟨by (with_reducible repeat (first | apply Kd.R_alloc | apply Kd.R_drewN | apply Kd.R_drew)); exact HO255.out⟩, ⟨by (with_reducible repeat (first | refine blk_drewN ?_ _ | refine blk_drew ?_ | refine blk_alloc ?_ _)); exact BK247.out⟩, ⟨by (with_reducible repeat (first | refine blk_drewN ?_ _ | refine blk_drew ?_ | refine blk_alloc ?_ _)); exact BK248.out⟩, ⟨by (with_reducible repeat (first | refine blk_drewN ?_ _ | refine blk_drew ?_ | refine blk_alloc ?_ _)); exact BK256.out⟩, ⟨by repeat (first | (with_reducible first | exact HB.out | apply below_alloc | apply pw_below_drewN | apply below_drew1 | refine below_set ?_ GE247.out | refine below_set ?_ GE248.out | refine below_set ?_ GE256.out) | exact HB.out)⟩⟩
    case rest =>
     clear HC28
     try clear c1
     try clear c2
     try clear p2
     try clear c3
     try clear c4
     try clear c5
     try clear c7
     try clear c9
     try clear c11
     try clear c16
     try clear c18
     try clear c20
     try clear c29
     try clear c33
     try clear c34
     try clear c48
     try clear c48b0
     try clear c48b1
     try clear c49
     try clear c49b0
     try clear c49b1
     try clear c50
     try clear c50b0
     try clear c50b1
     try clear hcz12_0
     try clear hcz12_1
     try clear hcz14_0
     try clear hcz14_1
     try clear hcz17_0
     try clear hcz17_1
     try clear hcz30_0
     try clear hcz30_1
     try clear hcz35_0
     try clear hcz35_1
     try clear hcz37_0
     try clear hcz37_1
     try clear hcz39_0
     try clear hcz39_1
     try clear hcz40_0
     try clear hcz40_1
     try clear hcz42_0
     try clear hcz42_1
     try clear hcz43_0
     try clear hcz43_1
     try clear hcz45_0
     try clear hcz45_1
     try clear hcz46_0
     try clear hcz46_1
     try clear hfz12_0
     try clear hfz12_1
     try clear hfz14_0
     try clear hfz14_1
     try clear hfz17_0
     try clear hfz17_1
     try clear hfz30_0
     try clear hfz30_1
     try clear hfz35_0
     try clear hfz35_1
     try clear hfz37_0
     try clear hfz37_1
     try clear hfz39_0
     try clear hfz39_1
     try clear hfz40_0
     try clear hfz40_1
     try clear hfz42_0
     try clear hfz42_1
     try clear hfz43_0
     try clear hfz43_1
     try clear hfz45_0
     try clear hfz45_1
     try clear hfz46_0
     try clear hfz46_1
     try clear p2
     obtain ⟨kq, x75_27, rfl, HA, HJ27, HO_257001, BK247, BK248, BK256, HB⟩ := hcut
     cases kq with
     | zero => exact absurd HA.out (by simp [culetlaw44_TariffSteps.j1])
     | succ kj27 =>
      have H := HA.out
      clear HA
      simp only [culetlaw44_TariffSteps.j1] at H
      by_cases c51 : x75_27 = true
      ·
       subst c51
       have H1 : (if t258 = t262 then (some (t260 == t264)) else (some false)) = some r := by rw [if_pos rfl] at H; exact H
       clear H
       have H := H1
       clear H1
       by_cases c52 : t258 = t262
       ·
        rw [if_pos c52] at H
        have c52b0 : (t258 == t262) = true := beq_iff_eq.mpr c52
        have c52b1 : (t258 != t262) = false := bne_eq_false_iff_eq.mpr c52
        clear c52
        obtain rfl := Option.some.inj H
        go_wp2
        go_ret
        exact ⟨by first | rfl | (simp [errW_none, errW_some] <;> rfl) | (simp [*, errW_none, errW_some] <;> rfl), by repeat (first | (with_reducible first | exact HB.out | apply below_alloc | apply pw_below_drewN | apply below_drew1 | refine below_set ?_ GE247.out | refine below_set ?_ GE248.out | refine below_set ?_ GE256.out) | exact HB.out)⟩
       ·
        rw [if_neg c52] at H
        have c52b0 : (t258 == t262) = false := beq_eq_false_iff_ne.mpr c52
        have c52b1 : (t258 != t262) = true := bne_iff_ne.mpr c52
        obtain rfl := Option.some.inj H
        go_wp2
        go_ret
        exact ⟨by first | rfl | (simp [errW_none, errW_some] <;> rfl) | (simp [*, errW_none, errW_some] <;> rfl), by repeat (first | (with_reducible first | exact HB.out | apply below_alloc | apply pw_below_drewN | apply below_drew1 | refine below_set ?_ GE247.out | refine below_set ?_ GE248.out | refine below_set ?_ GE256.out) | exact HB.out)⟩
      ·
       replace c51 := Bool.eq_false_iff.mpr c51
       subst c51
       have H1 : ((tariff_Next.f kj27 t252 t253 a1_0).bind fun bt265 => (if bt265.2 = 0 then (if ((decide (bt265.1 ≤ a1_1)) == (t261 != t263)) = true then (if t261 = t263 then (some (decide (t257 ≤ t259))) else ((tariff_Fair.f kj27 t252 t253).bind fun t267 => (if t267 = true then (some (decide (t257 ≤ t259))) else (some true)))) else (some false)) else (if (false == (t261 != t263)) = true then (if t261 = t263 then (some (decide (t257 ≤ t259))) else ((tariff_Fair.f kj27 t252 t253).bind fun t268 => (if t268 = true then (some (decide (t257 ≤ t259))) else (some true)))) else (some false)))) = some r := by rw [if_neg (show ¬ (false = true) by decide)] at H; exact H
       clear H
       have H := H1
       clear H1
       replace H := Option.bind_eq_some_iff.mp H
       obtain ⟨⟨t265, t266⟩, A530, H⟩ := H
       replace H : (if t266 = 0 then (if ((decide (t265 ≤ a1_1)) == (t261 != t263)) = true then (if t261 = t263 then (some (decide (t257 ≤ t259))) else ((tariff_Fair.f kj27 t252 t253).bind fun t267 => (if t267 = true then (some (decide (t257 ≤ t259))) else (some true)))) else (some false)) else (if (false == (t261 != t263)) = true then (if t261 = t263 then (some (decide (t257 ≤ t259))) else ((tariff_Fair.f kj27 t252 t253).bind fun t268 => (if t268 = true then (some (decide (t257 ≤ t259))) else (some true)))) else (some false))) = some r := H
       have A53 := Aside0.mk A530
       clear A530
       by_cases c54 : t266 = 0
       ·
        rw [if_pos c54] at H
        have c54b0 : (t266 == 0) = true := beq_iff_eq.mpr c54
        have c54b1 : (t266 != 0) = false := bne_eq_false_iff_eq.mpr c54
        clear c54
        by_cases c55 : ((decide (t265 ≤ a1_1)) == (t261 != t263)) = true
        ·
         rw [if_pos c55] at H
         have c55b0 : ((decide (t265 ≤ a1_1)) == (t261 != t263)) = true := c55
         (try (have c55b1 : decide ((decide (t265 ≤ a1_1)) = (t261 != t263)) = true := by simpa using c55))
         (try (have c55b2 : ((decide (t265 ≤ a1_1)) == (t261 != t263)) = true := by simpa using c55))
         clear c55
         by_cases c56 : t261 = t263
         ·
          rw [if_pos c56] at H
          have c56b0 : (t261 == t263) = true := beq_iff_eq.mpr c56
          have c56b1 : (t261 != t263) = false := bne_eq_false_iff_eq.mpr c56
          have z1 : decide (t265 ≤ a1_1) = false := by have h_ := c55b0; rw [c56b1] at h_; simpa using h_
          clear c56
          obtain rfl := Option.some.inj H
          have hnb57 := NB256_247.out
          have hnc57 := NB247_256.out
          have hnb58 := NB256_248.out
          have hnc58 := NB248_256.out
          have hcz59_0 : wc.cell? ⟨gb256, 0, none⟩ = some (.string t252) := (blk_cell BK256.out 0).trans rfl
          have hcz59_1 : wc.cell? ⟨gb256, 1, none⟩ = some (.slice Ao36 t253.length co36) := (blk_cell BK256.out 1).trans rfl
          have hfz59_0 := blk_frozen BK256.out 0
          have hfz59_1 := blk_frozen BK256.out 1
          have hnb60 := NB248_247.out
          have hnc60 := NB247_248.out
          have hcz61_0 : wc.cell? ⟨gb248, 0, none⟩ = some (.int .i64 a1_0) := (blk_cell BK248.out 0).trans rfl
          have hcz61_1 : wc.cell? ⟨gb248, 1, none⟩ = some (.int .i64 a1_1) := (blk_cell BK248.out 1).trans rfl
          have hfz61_0 := blk_frozen BK248.out 0
          have hfz61_1 := blk_frozen BK248.out 1
          go_wp2_with (first | ((with_reducible refine gate_callee (f := 21) rfl ?_); refine goesL_ (some 88) rfl rfl Tryd.func21 (by kernel_rfl) rfl #[.agg #[.string t252, .slice Ao36 t253.length co36], .int .i64 a1_0] rfl (by (try simp only [List.map_toArray, List.map_cons, List.map_nil]); first | done | rfl | (simp only [List.length_drop, List.length_take]; rfl)) ?_; (with_reducible refine (tariff_Next.calls kj27 t252 _ _ t253 a1_0 t265 t266 _ ?side1 ?side2 A53.out).mono ?_); (case side1 => repeat (first | exact (Kd.R_reads' HO_257001.out).2.2 | (with_reducible refine Kd.C_alloc ?_ _) | (with_reducible refine Kd.C_drewN ?_ _) | (with_reducible refine Kd.C_drew ?_))); (case side2 => exact (Kd.R_reads' HO_257001.out).2.1); rintro e w62 ⟨rfl, hb⟩; refine ⟨_, rfl, ?_⟩; have n0_ := Aside0.mk (Kd.R_below (by (with_reducible repeat (first | apply Kd.R_alloc | apply Kd.R_drewN | apply Kd.R_drew)); exact HO_257001.out) hb); have n1_ := Aside0.mk (blk_below (g := gb247) (o := .cells #[.string a0_0, .slice A0_1 l0_1.length c0_1] 24 (0, 0)) (by (with_reducible repeat (first | refine blk_drewN ?_ _ | refine blk_drew ?_ | refine blk_alloc ?_ _)); exact BK247.out) hb); have n2_ := Aside0.mk (blk_below (g := gb248) (o := .cells #[.int .i64 a1_0, .int .i64 a1_1] 46 (0, 0)) (by (with_reducible repeat (first | refine blk_drewN ?_ _ | refine blk_drew ?_ | refine blk_alloc ?_ _)); exact BK248.out) hb); have n3_ := Aside0.mk (blk_below (g := gb256) (o := .cells #[.string t252, .slice Ao36 t253.length co36] 29 (0, 0)) (by (with_reducible repeat (first | refine blk_drewN ?_ _ | refine blk_drew ?_ | refine blk_alloc ?_ _)); exact BK256.out) hb); have n4_ := Aside0.mk (below_step (by repeat (first | (with_reducible first | exact HB.out | apply below_alloc | apply pw_below_drewN | apply below_drew1 | refine below_set ?_ GE247.out | refine below_set ?_ GE248.out | refine below_set ?_ GE256.out) | exact HB.out)) hb); clear HO_257001; clear BK247; clear BK248; clear BK256; clear HB; have HO_257001 := n0_; have BK247 := n1_; have BK248 := n2_; have BK256 := n3_; have HB := n4_; clear n0_ n1_ n2_ n3_ n4_; (try clear hb); (try clear hb2); (try clear hk); (try clear hi); have hcz63_0 : w62.cell? ⟨gb248, 0, none⟩ = some (.int .i64 a1_0) := (blk_cell BK248.out 0).trans rfl; have hcz63_1 : w62.cell? ⟨gb248, 1, none⟩ = some (.int .i64 a1_1) := (blk_cell BK248.out 1).trans rfl; have hfz63_0 := blk_frozen BK248.out 0; have hfz63_1 := blk_frozen BK248.out 1))
          go_ret
          exact ⟨by first | rfl | (simp [errW_none, errW_some] <;> rfl) | (simp [*, errW_none, errW_some] <;> rfl), by repeat (first | (with_reducible first | exact HB.out | apply below_alloc | apply pw_below_drewN | apply below_drew1 | refine below_set ?_ GE247.out | refine below_set ?_ GE248.out | refine below_set ?_ GE256.out) | exact HB.out)⟩
         ·
          rw [if_neg c56] at H
          have c56b0 : (t261 == t263) = false := beq_eq_false_iff_ne.mpr c56
          have c56b1 : (t261 != t263) = true := bne_iff_ne.mpr c56
          have z1 : decide (t265 ≤ a1_1) = true := by have h_ := c55b0; rw [c56b1] at h_; simpa using h_
          replace H := Option.bind_eq_some_iff.mp H
          obtain ⟨t267, A640, H⟩ := H
          replace H : (if t267 = true then (some (decide (t257 ≤ t259))) else (some true)) = some r := H
          have A64 := Aside0.mk A640
          clear A640
          by_cases c65 : t267 = true
          ·
           subst c65
           have H1 : (some (decide (t257 ≤ t259))) = some r := by rw [if_pos rfl] at H; exact H
           clear H
           have H := H1
           clear H1
           obtain rfl := Option.some.inj H
           have hnb66 := NB256_247.out
           have hnc66 := NB247_256.out
           have hnb67 := NB256_248.out
           have hnc67 := NB248_256.out
           have hcz68_0 : wc.cell? ⟨gb256, 0, none⟩ = some (.string t252) := (blk_cell BK256.out 0).trans rfl
           have hcz68_1 : wc.cell? ⟨gb256, 1, none⟩ = some (.slice Ao36 t253.length co36) := (blk_cell BK256.out 1).trans rfl
           have hfz68_0 := blk_frozen BK256.out 0
           have hfz68_1 := blk_frozen BK256.out 1
           have hnb69 := NB248_247.out
           have hnc69 := NB247_248.out
           have hcz70_0 : wc.cell? ⟨gb248, 0, none⟩ = some (.int .i64 a1_0) := (blk_cell BK248.out 0).trans rfl
           have hcz70_1 : wc.cell? ⟨gb248, 1, none⟩ = some (.int .i64 a1_1) := (blk_cell BK248.out 1).trans rfl
           have hfz70_0 := blk_frozen BK248.out 0
           have hfz70_1 := blk_frozen BK248.out 1
           go_wp2_with (first | ((with_reducible refine gate_callee (f := 21) rfl ?_); refine goesL_ (some 88) rfl rfl Tryd.func21 (by kernel_rfl) rfl #[.agg #[.string t252, .slice Ao36 t253.length co36], .int .i64 a1_0] rfl (by (try simp only [List.map_toArray, List.map_cons, List.map_nil]); first | done | rfl | (simp only [List.length_drop, List.length_take]; rfl)) ?_; (with_reducible refine (tariff_Next.calls kj27 t252 _ _ t253 a1_0 t265 t266 _ ?side1 ?side2 A53.out).mono ?_); (case side1 => repeat (first | exact (Kd.R_reads' HO_257001.out).2.2 | (with_reducible refine Kd.C_alloc ?_ _) | (with_reducible refine Kd.C_drewN ?_ _) | (with_reducible refine Kd.C_drew ?_))); (case side2 => exact (Kd.R_reads' HO_257001.out).2.1); rintro e w71 ⟨rfl, hb⟩; refine ⟨_, rfl, ?_⟩; have n0_ := Aside0.mk (Kd.R_below (by (with_reducible repeat (first | apply Kd.R_alloc | apply Kd.R_drewN | apply Kd.R_drew)); exact HO_257001.out) hb); have n1_ := Aside0.mk (blk_below (g := gb247) (o := .cells #[.string a0_0, .slice A0_1 l0_1.length c0_1] 24 (0, 0)) (by (with_reducible repeat (first | refine blk_drewN ?_ _ | refine blk_drew ?_ | refine blk_alloc ?_ _)); exact BK247.out) hb); have n2_ := Aside0.mk (blk_below (g := gb248) (o := .cells #[.int .i64 a1_0, .int .i64 a1_1] 46 (0, 0)) (by (with_reducible repeat (first | refine blk_drewN ?_ _ | refine blk_drew ?_ | refine blk_alloc ?_ _)); exact BK248.out) hb); have n3_ := Aside0.mk (blk_below (g := gb256) (o := .cells #[.string t252, .slice Ao36 t253.length co36] 29 (0, 0)) (by (with_reducible repeat (first | refine blk_drewN ?_ _ | refine blk_drew ?_ | refine blk_alloc ?_ _)); exact BK256.out) hb); have n4_ := Aside0.mk (below_step (by repeat (first | (with_reducible first | exact HB.out | apply below_alloc | apply pw_below_drewN | apply below_drew1 | refine below_set ?_ GE247.out | refine below_set ?_ GE248.out | refine below_set ?_ GE256.out) | exact HB.out)) hb); clear HO_257001; clear BK247; clear BK248; clear BK256; clear HB; have HO_257001 := n0_; have BK247 := n1_; have BK248 := n2_; have BK256 := n3_; have HB := n4_; clear n0_ n1_ n2_ n3_ n4_; (try clear hb); (try clear hb2); (try clear hk); (try clear hi); have hcz72_0 : w71.cell? ⟨gb248, 0, none⟩ = some (.int .i64 a1_0) := (blk_cell BK248.out 0).trans rfl; have hcz72_1 : w71.cell? ⟨gb248, 1, none⟩ = some (.int .i64 a1_1) := (blk_cell BK248.out 1).trans rfl; have hfz72_0 := blk_frozen BK248.out 0; have hfz72_1 := blk_frozen BK248.out 1; have hcz73_0 : w71.cell? ⟨gb256, 0, none⟩ = some (.string t252) := (blk_cell BK256.out 0).trans rfl; have hcz73_1 : w71.cell? ⟨gb256, 1, none⟩ = some (.slice Ao36 t253.length co36) := (blk_cell BK256.out 1).trans rfl; have hfz73_0 := blk_frozen BK256.out 0; have hfz73_1 := blk_frozen BK256.out 1) | (go_at_call 19; (with_reducible refine (tariff_Fair.calls kj27 t252 _ _ t253 true _ ?side1 ?side2 A64.out).mono ?_); (case side1 => repeat (first | exact (Kd.R_reads' HO_257001.out).2.2 | (with_reducible refine Kd.C_alloc ?_ _) | (with_reducible refine Kd.C_drewN ?_ _) | (with_reducible refine Kd.C_drew ?_))); (case side2 => exact (Kd.R_reads' HO_257001.out).2.1); rintro e w74 ⟨rfl, hb⟩; have n0_ := Aside0.mk (Kd.R_below (by (with_reducible repeat (first | apply Kd.R_alloc | apply Kd.R_drewN | apply Kd.R_drew)); exact HO_257001.out) hb); have n1_ := Aside0.mk (blk_below (g := gb247) (o := .cells #[.string a0_0, .slice A0_1 l0_1.length c0_1] 24 (0, 0)) (by (with_reducible repeat (first | refine blk_drewN ?_ _ | refine blk_drew ?_ | refine blk_alloc ?_ _)); exact BK247.out) hb); have n2_ := Aside0.mk (blk_below (g := gb248) (o := .cells #[.int .i64 a1_0, .int .i64 a1_1] 46 (0, 0)) (by (with_reducible repeat (first | refine blk_drewN ?_ _ | refine blk_drew ?_ | refine blk_alloc ?_ _)); exact BK248.out) hb); have n3_ := Aside0.mk (blk_below (g := gb256) (o := .cells #[.string t252, .slice Ao36 t253.length co36] 29 (0, 0)) (by (with_reducible repeat (first | refine blk_drewN ?_ _ | refine blk_drew ?_ | refine blk_alloc ?_ _)); exact BK256.out) hb); have n4_ := Aside0.mk (below_step (by repeat (first | (with_reducible first | exact HB.out | apply below_alloc | apply pw_below_drewN | apply below_drew1 | refine below_set ?_ GE247.out | refine below_set ?_ GE248.out | refine below_set ?_ GE256.out) | exact HB.out)) hb); clear HO_257001; clear BK247; clear BK248; clear BK256; clear HB; have HO_257001 := n0_; have BK247 := n1_; have BK248 := n2_; have BK256 := n3_; have HB := n4_; clear n0_ n1_ n2_ n3_ n4_; (try clear hb); (try clear hb2); (try clear hk); (try clear hi)))
           go_ret
           exact ⟨by first | rfl | (simp [errW_none, errW_some] <;> rfl) | (simp [*, errW_none, errW_some] <;> rfl), by repeat (first | (with_reducible first | exact HB.out | apply below_alloc | apply pw_below_drewN | apply below_drew1 | refine below_set ?_ GE247.out | refine below_set ?_ GE248.out | refine below_set ?_ GE256.out) | exact HB.out)⟩
          ·
           replace c65 := Bool.eq_false_iff.mpr c65
           subst c65
           have H1 : (some true) = some r := by rw [if_neg (show ¬ (false = true) by decide)] at H; exact H
           clear H
           have H := H1
           clear H1
           obtain rfl := Option.some.inj H
           have hnb75 := NB256_247.out
           have hnc75 := NB247_256.out
           have hnb76 := NB256_248.out
           have hnc76 := NB248_256.out
           have hcz77_0 : wc.cell? ⟨gb256, 0, none⟩ = some (.string t252) := (blk_cell BK256.out 0).trans rfl
           have hcz77_1 : wc.cell? ⟨gb256, 1, none⟩ = some (.slice Ao36 t253.length co36) := (blk_cell BK256.out 1).trans rfl
           have hfz77_0 := blk_frozen BK256.out 0
           have hfz77_1 := blk_frozen BK256.out 1
           have hnb78 := NB248_247.out
           have hnc78 := NB247_248.out
           have hcz79_0 : wc.cell? ⟨gb248, 0, none⟩ = some (.int .i64 a1_0) := (blk_cell BK248.out 0).trans rfl
           have hcz79_1 : wc.cell? ⟨gb248, 1, none⟩ = some (.int .i64 a1_1) := (blk_cell BK248.out 1).trans rfl
           have hfz79_0 := blk_frozen BK248.out 0
           have hfz79_1 := blk_frozen BK248.out 1
           go_wp2_with (first | ((with_reducible refine gate_callee (f := 21) rfl ?_); refine goesL_ (some 88) rfl rfl Tryd.func21 (by kernel_rfl) rfl #[.agg #[.string t252, .slice Ao36 t253.length co36], .int .i64 a1_0] rfl (by (try simp only [List.map_toArray, List.map_cons, List.map_nil]); first | done | rfl | (simp only [List.length_drop, List.length_take]; rfl)) ?_; (with_reducible refine (tariff_Next.calls kj27 t252 _ _ t253 a1_0 t265 t266 _ ?side1 ?side2 A53.out).mono ?_); (case side1 => repeat (first | exact (Kd.R_reads' HO_257001.out).2.2 | (with_reducible refine Kd.C_alloc ?_ _) | (with_reducible refine Kd.C_drewN ?_ _) | (with_reducible refine Kd.C_drew ?_))); (case side2 => exact (Kd.R_reads' HO_257001.out).2.1); rintro e w80 ⟨rfl, hb⟩; refine ⟨_, rfl, ?_⟩; have n0_ := Aside0.mk (Kd.R_below (by (with_reducible repeat (first | apply Kd.R_alloc | apply Kd.R_drewN | apply Kd.R_drew)); exact HO_257001.out) hb); have n1_ := Aside0.mk (blk_below (g := gb247) (o := .cells #[.string a0_0, .slice A0_1 l0_1.length c0_1] 24 (0, 0)) (by (with_reducible repeat (first | refine blk_drewN ?_ _ | refine blk_drew ?_ | refine blk_alloc ?_ _)); exact BK247.out) hb); have n2_ := Aside0.mk (blk_below (g := gb248) (o := .cells #[.int .i64 a1_0, .int .i64 a1_1] 46 (0, 0)) (by (with_reducible repeat (first | refine blk_drewN ?_ _ | refine blk_drew ?_ | refine blk_alloc ?_ _)); exact BK248.out) hb); have n3_ := Aside0.mk (blk_below (g := gb256) (o := .cells #[.string t252, .slice Ao36 t253.length co36] 29 (0, 0)) (by (with_reducible repeat (first | refine blk_drewN ?_ _ | refine blk_drew ?_ | refine blk_alloc ?_ _)); exact BK256.out) hb); have n4_ := Aside0.mk (below_step (by repeat (first | (with_reducible first | exact HB.out | apply below_alloc | apply pw_below_drewN | apply below_drew1 | refine below_set ?_ GE247.out | refine below_set ?_ GE248.out | refine below_set ?_ GE256.out) | exact HB.out)) hb); clear HO_257001; clear BK247; clear BK248; clear BK256; clear HB; have HO_257001 := n0_; have BK247 := n1_; have BK248 := n2_; have BK256 := n3_; have HB := n4_; clear n0_ n1_ n2_ n3_ n4_; (try clear hb); (try clear hb2); (try clear hk); (try clear hi); have hcz81_0 : w80.cell? ⟨gb248, 0, none⟩ = some (.int .i64 a1_0) := (blk_cell BK248.out 0).trans rfl; have hcz81_1 : w80.cell? ⟨gb248, 1, none⟩ = some (.int .i64 a1_1) := (blk_cell BK248.out 1).trans rfl; have hfz81_0 := blk_frozen BK248.out 0; have hfz81_1 := blk_frozen BK248.out 1; have hcz82_0 : w80.cell? ⟨gb256, 0, none⟩ = some (.string t252) := (blk_cell BK256.out 0).trans rfl; have hcz82_1 : w80.cell? ⟨gb256, 1, none⟩ = some (.slice Ao36 t253.length co36) := (blk_cell BK256.out 1).trans rfl; have hfz82_0 := blk_frozen BK256.out 0; have hfz82_1 := blk_frozen BK256.out 1) | (go_at_call 19; (with_reducible refine (tariff_Fair.calls kj27 t252 _ _ t253 false _ ?side1 ?side2 A64.out).mono ?_); (case side1 => repeat (first | exact (Kd.R_reads' HO_257001.out).2.2 | (with_reducible refine Kd.C_alloc ?_ _) | (with_reducible refine Kd.C_drewN ?_ _) | (with_reducible refine Kd.C_drew ?_))); (case side2 => exact (Kd.R_reads' HO_257001.out).2.1); rintro e w83 ⟨rfl, hb⟩; have n0_ := Aside0.mk (Kd.R_below (by (with_reducible repeat (first | apply Kd.R_alloc | apply Kd.R_drewN | apply Kd.R_drew)); exact HO_257001.out) hb); have n1_ := Aside0.mk (blk_below (g := gb247) (o := .cells #[.string a0_0, .slice A0_1 l0_1.length c0_1] 24 (0, 0)) (by (with_reducible repeat (first | refine blk_drewN ?_ _ | refine blk_drew ?_ | refine blk_alloc ?_ _)); exact BK247.out) hb); have n2_ := Aside0.mk (blk_below (g := gb248) (o := .cells #[.int .i64 a1_0, .int .i64 a1_1] 46 (0, 0)) (by (with_reducible repeat (first | refine blk_drewN ?_ _ | refine blk_drew ?_ | refine blk_alloc ?_ _)); exact BK248.out) hb); have n3_ := Aside0.mk (blk_below (g := gb256) (o := .cells #[.string t252, .slice Ao36 t253.length co36] 29 (0, 0)) (by (with_reducible repeat (first | refine blk_drewN ?_ _ | refine blk_drew ?_ | refine blk_alloc ?_ _)); exact BK256.out) hb); have n4_ := Aside0.mk (below_step (by repeat (first | (with_reducible first | exact HB.out | apply below_alloc | apply pw_below_drewN | apply below_drew1 | refine below_set ?_ GE247.out | refine below_set ?_ GE248.out | refine below_set ?_ GE256.out) | exact HB.out)) hb); clear HO_257001; clear BK247; clear BK248; clear BK256; clear HB; have HO_257001 := n0_; have BK247 := n1_; have BK248 := n2_; have BK256 := n3_; have HB := n4_; clear n0_ n1_ n2_ n3_ n4_; (try clear hb); (try clear hb2); (try clear hk); (try clear hi)))
           go_ret
           exact ⟨by first | rfl | (simp [errW_none, errW_some] <;> rfl) | (simp [*, errW_none, errW_some] <;> rfl), by repeat (first | (with_reducible first | exact HB.out | apply below_alloc | apply pw_below_drewN | apply below_drew1 | refine below_set ?_ GE247.out | refine below_set ?_ GE248.out | refine below_set ?_ GE256.out) | exact HB.out)⟩
        ·
         rw [if_neg c55] at H
         have c55b0 : ((decide (t265 ≤ a1_1)) == (t261 != t263)) = false := by simpa using c55
         (try (have c55b1 : decide ((decide (t265 ≤ a1_1)) = (t261 != t263)) = false := by simpa using c55))
         (try (have c55b2 : ((decide (t265 ≤ a1_1)) == (t261 != t263)) = false := by simpa using c55))
         (try (have c55b3 : ¬ ((decide (t265 ≤ a1_1)) = (t261 != t263)) := by simpa using c55))
         clear c55
         obtain rfl := Option.some.inj H
         have hnb84 := NB256_247.out
         have hnc84 := NB247_256.out
         have hnb85 := NB256_248.out
         have hnc85 := NB248_256.out
         have hcz86_0 : wc.cell? ⟨gb256, 0, none⟩ = some (.string t252) := (blk_cell BK256.out 0).trans rfl
         have hcz86_1 : wc.cell? ⟨gb256, 1, none⟩ = some (.slice Ao36 t253.length co36) := (blk_cell BK256.out 1).trans rfl
         have hfz86_0 := blk_frozen BK256.out 0
         have hfz86_1 := blk_frozen BK256.out 1
         have hnb87 := NB248_247.out
         have hnc87 := NB247_248.out
         have hcz88_0 : wc.cell? ⟨gb248, 0, none⟩ = some (.int .i64 a1_0) := (blk_cell BK248.out 0).trans rfl
         have hcz88_1 : wc.cell? ⟨gb248, 1, none⟩ = some (.int .i64 a1_1) := (blk_cell BK248.out 1).trans rfl
         have hfz88_0 := blk_frozen BK248.out 0
         have hfz88_1 := blk_frozen BK248.out 1
         go_wp2_with (first | ((with_reducible refine gate_callee (f := 21) rfl ?_); refine goesL_ (some 88) rfl rfl Tryd.func21 (by kernel_rfl) rfl #[.agg #[.string t252, .slice Ao36 t253.length co36], .int .i64 a1_0] rfl (by (try simp only [List.map_toArray, List.map_cons, List.map_nil]); first | done | rfl | (simp only [List.length_drop, List.length_take]; rfl)) ?_; (with_reducible refine (tariff_Next.calls kj27 t252 _ _ t253 a1_0 t265 t266 _ ?side1 ?side2 A53.out).mono ?_); (case side1 => repeat (first | exact (Kd.R_reads' HO_257001.out).2.2 | (with_reducible refine Kd.C_alloc ?_ _) | (with_reducible refine Kd.C_drewN ?_ _) | (with_reducible refine Kd.C_drew ?_))); (case side2 => exact (Kd.R_reads' HO_257001.out).2.1); rintro e w89 ⟨rfl, hb⟩; refine ⟨_, rfl, ?_⟩; have n0_ := Aside0.mk (Kd.R_below (by (with_reducible repeat (first | apply Kd.R_alloc | apply Kd.R_drewN | apply Kd.R_drew)); exact HO_257001.out) hb); have n1_ := Aside0.mk (blk_below (g := gb247) (o := .cells #[.string a0_0, .slice A0_1 l0_1.length c0_1] 24 (0, 0)) (by (with_reducible repeat (first | refine blk_drewN ?_ _ | refine blk_drew ?_ | refine blk_alloc ?_ _)); exact BK247.out) hb); have n2_ := Aside0.mk (blk_below (g := gb248) (o := .cells #[.int .i64 a1_0, .int .i64 a1_1] 46 (0, 0)) (by (with_reducible repeat (first | refine blk_drewN ?_ _ | refine blk_drew ?_ | refine blk_alloc ?_ _)); exact BK248.out) hb); have n3_ := Aside0.mk (blk_below (g := gb256) (o := .cells #[.string t252, .slice Ao36 t253.length co36] 29 (0, 0)) (by (with_reducible repeat (first | refine blk_drewN ?_ _ | refine blk_drew ?_ | refine blk_alloc ?_ _)); exact BK256.out) hb); have n4_ := Aside0.mk (below_step (by repeat (first | (with_reducible first | exact HB.out | apply below_alloc | apply pw_below_drewN | apply below_drew1 | refine below_set ?_ GE247.out | refine below_set ?_ GE248.out | refine below_set ?_ GE256.out) | exact HB.out)) hb); clear HO_257001; clear BK247; clear BK248; clear BK256; clear HB; have HO_257001 := n0_; have BK247 := n1_; have BK248 := n2_; have BK256 := n3_; have HB := n4_; clear n0_ n1_ n2_ n3_ n4_; (try clear hb); (try clear hb2); (try clear hk); (try clear hi); have hcz90_0 : w89.cell? ⟨gb248, 0, none⟩ = some (.int .i64 a1_0) := (blk_cell BK248.out 0).trans rfl; have hcz90_1 : w89.cell? ⟨gb248, 1, none⟩ = some (.int .i64 a1_1) := (blk_cell BK248.out 1).trans rfl; have hfz90_0 := blk_frozen BK248.out 0; have hfz90_1 := blk_frozen BK248.out 1))
         go_ret
         exact ⟨by first | rfl | (simp [errW_none, errW_some] <;> rfl) | (simp [*, errW_none, errW_some] <;> rfl), by repeat (first | (with_reducible first | exact HB.out | apply below_alloc | apply pw_below_drewN | apply below_drew1 | refine below_set ?_ GE247.out | refine below_set ?_ GE248.out | refine below_set ?_ GE256.out) | exact HB.out)⟩
       ·
        rw [if_neg c54] at H
        have c54b0 : (t266 == 0) = false := beq_eq_false_iff_ne.mpr c54
        have c54b1 : (t266 != 0) = true := bne_iff_ne.mpr c54
        by_cases c91 : (false == (t261 != t263)) = true
        ·
         rw [if_pos c91] at H
         have c91b0 : (false == (t261 != t263)) = true := c91
         (try (have c91b1 : decide (false = (t261 != t263)) = true := by simpa using c91))
         (try (have c91b2 : (false == (t261 != t263)) = true := by simpa using c91))
         clear c91
         by_cases c92 : t261 = t263
         ·
          rw [if_pos c92] at H
          have c92b0 : (t261 == t263) = true := beq_iff_eq.mpr c92
          have c92b1 : (t261 != t263) = false := bne_eq_false_iff_eq.mpr c92
          clear c92
          obtain rfl := Option.some.inj H
          have hnb93 := NB256_247.out
          have hnc93 := NB247_256.out
          have hnb94 := NB256_248.out
          have hnc94 := NB248_256.out
          have hcz95_0 : wc.cell? ⟨gb256, 0, none⟩ = some (.string t252) := (blk_cell BK256.out 0).trans rfl
          have hcz95_1 : wc.cell? ⟨gb256, 1, none⟩ = some (.slice Ao36 t253.length co36) := (blk_cell BK256.out 1).trans rfl
          have hfz95_0 := blk_frozen BK256.out 0
          have hfz95_1 := blk_frozen BK256.out 1
          have hnb96 := NB248_247.out
          have hnc96 := NB247_248.out
          have hcz97_0 : wc.cell? ⟨gb248, 0, none⟩ = some (.int .i64 a1_0) := (blk_cell BK248.out 0).trans rfl
          have hcz97_1 : wc.cell? ⟨gb248, 1, none⟩ = some (.int .i64 a1_1) := (blk_cell BK248.out 1).trans rfl
          have hfz97_0 := blk_frozen BK248.out 0
          have hfz97_1 := blk_frozen BK248.out 1
          go_wp2_with (first | ((with_reducible refine gate_callee (f := 21) rfl ?_); refine goesL_ (some 88) rfl rfl Tryd.func21 (by kernel_rfl) rfl #[.agg #[.string t252, .slice Ao36 t253.length co36], .int .i64 a1_0] rfl (by (try simp only [List.map_toArray, List.map_cons, List.map_nil]); first | done | rfl | (simp only [List.length_drop, List.length_take]; rfl)) ?_; (with_reducible refine (tariff_Next.calls kj27 t252 _ _ t253 a1_0 t265 t266 _ ?side1 ?side2 A53.out).mono ?_); (case side1 => repeat (first | exact (Kd.R_reads' HO_257001.out).2.2 | (with_reducible refine Kd.C_alloc ?_ _) | (with_reducible refine Kd.C_drewN ?_ _) | (with_reducible refine Kd.C_drew ?_))); (case side2 => exact (Kd.R_reads' HO_257001.out).2.1); rintro e w98 ⟨rfl, hb⟩; refine ⟨_, rfl, ?_⟩; have n0_ := Aside0.mk (Kd.R_below (by (with_reducible repeat (first | apply Kd.R_alloc | apply Kd.R_drewN | apply Kd.R_drew)); exact HO_257001.out) hb); have n1_ := Aside0.mk (blk_below (g := gb247) (o := .cells #[.string a0_0, .slice A0_1 l0_1.length c0_1] 24 (0, 0)) (by (with_reducible repeat (first | refine blk_drewN ?_ _ | refine blk_drew ?_ | refine blk_alloc ?_ _)); exact BK247.out) hb); have n2_ := Aside0.mk (blk_below (g := gb248) (o := .cells #[.int .i64 a1_0, .int .i64 a1_1] 46 (0, 0)) (by (with_reducible repeat (first | refine blk_drewN ?_ _ | refine blk_drew ?_ | refine blk_alloc ?_ _)); exact BK248.out) hb); have n3_ := Aside0.mk (blk_below (g := gb256) (o := .cells #[.string t252, .slice Ao36 t253.length co36] 29 (0, 0)) (by (with_reducible repeat (first | refine blk_drewN ?_ _ | refine blk_drew ?_ | refine blk_alloc ?_ _)); exact BK256.out) hb); have n4_ := Aside0.mk (below_step (by repeat (first | (with_reducible first | exact HB.out | apply below_alloc | apply pw_below_drewN | apply below_drew1 | refine below_set ?_ GE247.out | refine below_set ?_ GE248.out | refine below_set ?_ GE256.out) | exact HB.out)) hb); clear HO_257001; clear BK247; clear BK248; clear BK256; clear HB; have HO_257001 := n0_; have BK247 := n1_; have BK248 := n2_; have BK256 := n3_; have HB := n4_; clear n0_ n1_ n2_ n3_ n4_; (try clear hb); (try clear hb2); (try clear hk); (try clear hi)))
          go_ret
          exact ⟨by first | rfl | (simp [errW_none, errW_some] <;> rfl) | (simp [*, errW_none, errW_some] <;> rfl), by repeat (first | (with_reducible first | exact HB.out | apply below_alloc | apply pw_below_drewN | apply below_drew1 | refine below_set ?_ GE247.out | refine below_set ?_ GE248.out | refine below_set ?_ GE256.out) | exact HB.out)⟩
         ·
          rw [if_neg c92] at H
          have c92b0 : (t261 == t263) = false := beq_eq_false_iff_ne.mpr c92
          have c92b1 : (t261 != t263) = true := bne_iff_ne.mpr c92
          exact absurd c91b0 (by rw [c92b1]; decide)
        ·
         rw [if_neg c91] at H
         have c91b0 : (false == (t261 != t263)) = false := by simpa using c91
         (try (have c91b1 : decide (false = (t261 != t263)) = false := by simpa using c91))
         (try (have c91b2 : (false == (t261 != t263)) = false := by simpa using c91))
         (try (have c91b3 : ¬ (false = (t261 != t263)) := by simpa using c91))
         clear c91
         obtain rfl := Option.some.inj H
         have hnb117 := NB256_247.out
         have hnc117 := NB247_256.out
         have hnb118 := NB256_248.out
         have hnc118 := NB248_256.out
         have hcz119_0 : wc.cell? ⟨gb256, 0, none⟩ = some (.string t252) := (blk_cell BK256.out 0).trans rfl
         have hcz119_1 : wc.cell? ⟨gb256, 1, none⟩ = some (.slice Ao36 t253.length co36) := (blk_cell BK256.out 1).trans rfl
         have hfz119_0 := blk_frozen BK256.out 0
         have hfz119_1 := blk_frozen BK256.out 1
         have hnb120 := NB248_247.out
         have hnc120 := NB247_248.out
         have hcz121_0 : wc.cell? ⟨gb248, 0, none⟩ = some (.int .i64 a1_0) := (blk_cell BK248.out 0).trans rfl
         have hcz121_1 : wc.cell? ⟨gb248, 1, none⟩ = some (.int .i64 a1_1) := (blk_cell BK248.out 1).trans rfl
         have hfz121_0 := blk_frozen BK248.out 0
         have hfz121_1 := blk_frozen BK248.out 1
         go_wp2_with (first | ((with_reducible refine gate_callee (f := 21) rfl ?_); refine goesL_ (some 88) rfl rfl Tryd.func21 (by kernel_rfl) rfl #[.agg #[.string t252, .slice Ao36 t253.length co36], .int .i64 a1_0] rfl (by (try simp only [List.map_toArray, List.map_cons, List.map_nil]); first | done | rfl | (simp only [List.length_drop, List.length_take]; rfl)) ?_; (with_reducible refine (tariff_Next.calls kj27 t252 _ _ t253 a1_0 t265 t266 _ ?side1 ?side2 A53.out).mono ?_); (case side1 => repeat (first | exact (Kd.R_reads' HO_257001.out).2.2 | (with_reducible refine Kd.C_alloc ?_ _) | (with_reducible refine Kd.C_drewN ?_ _) | (with_reducible refine Kd.C_drew ?_))); (case side2 => exact (Kd.R_reads' HO_257001.out).2.1); rintro e w122 ⟨rfl, hb⟩; refine ⟨_, rfl, ?_⟩; have n0_ := Aside0.mk (Kd.R_below (by (with_reducible repeat (first | apply Kd.R_alloc | apply Kd.R_drewN | apply Kd.R_drew)); exact HO_257001.out) hb); have n1_ := Aside0.mk (blk_below (g := gb247) (o := .cells #[.string a0_0, .slice A0_1 l0_1.length c0_1] 24 (0, 0)) (by (with_reducible repeat (first | refine blk_drewN ?_ _ | refine blk_drew ?_ | refine blk_alloc ?_ _)); exact BK247.out) hb); have n2_ := Aside0.mk (blk_below (g := gb248) (o := .cells #[.int .i64 a1_0, .int .i64 a1_1] 46 (0, 0)) (by (with_reducible repeat (first | refine blk_drewN ?_ _ | refine blk_drew ?_ | refine blk_alloc ?_ _)); exact BK248.out) hb); have n3_ := Aside0.mk (blk_below (g := gb256) (o := .cells #[.string t252, .slice Ao36 t253.length co36] 29 (0, 0)) (by (with_reducible repeat (first | refine blk_drewN ?_ _ | refine blk_drew ?_ | refine blk_alloc ?_ _)); exact BK256.out) hb); have n4_ := Aside0.mk (below_step (by repeat (first | (with_reducible first | exact HB.out | apply below_alloc | apply pw_below_drewN | apply below_drew1 | refine below_set ?_ GE247.out | refine below_set ?_ GE248.out | refine below_set ?_ GE256.out) | exact HB.out)) hb); clear HO_257001; clear BK247; clear BK248; clear BK256; clear HB; have HO_257001 := n0_; have BK247 := n1_; have BK248 := n2_; have BK256 := n3_; have HB := n4_; clear n0_ n1_ n2_ n3_ n4_; (try clear hb); (try clear hb2); (try clear hk); (try clear hi)))
         go_ret
         exact ⟨by first | rfl | (simp [errW_none, errW_some] <;> rfl) | (simp [*, errW_none, errW_some] <;> rfl), by repeat (first | (with_reducible first | exact HB.out | apply below_alloc | apply pw_below_drewN | apply below_drew1 | refine below_set ?_ GE247.out | refine below_set ?_ GE248.out | refine below_set ?_ GE256.out) | exact HB.out)⟩

end Go.Proofs.YtejgenhmhahgeaaDoor.T
