-- Written by this session's own programs; what the law does not lean on is left out. Lean checks it.
import Derived.Test.YtalhpnfapagamaaDoorAS
import Derived.Test.YtalhpnfapagamaaDoorASx9
import Derived.Test.YtalhpnfapagamaaDoorASx10
import Derived.Test.YtalhpnfapagamaaDoorASx11
import Derived.Test.YtalhpnfapagamaaDoorASa
import Derived.Test.YtalhpnfapagamaaDoorAR
import Derived.Test.YtalhpnfapagamaaDoorASx28
import Derived.Test.YtalhpnfapagamaaDoorASx29
import Derived.Test.YtalhpnfapagamaaDoorASp
import Derived.Test.YtalhpnfapagamaaDoorASr
import Derived.Test.YtalhpnfapagamaaDoorASx34
import Derived.Test.YtalhpnfapagamaaDoorASx35
namespace Go.Proofs.YtalhpnfapagamaaDoor.S
open Go.RowKit Go.Proofs.YtalhpnfapagamaaDoorW.PrintWords Go.Proofs.YtalhpnfapagamaaDoorW.PrintLast Go.Proofs.YtalhpnfapagamaaDoorW.PrintMore Go.Proofs.YtalhpnfapagamaaDoorD
set_option linter.unusedVariables false
set_option linter.unusedSimpArgs false

def culetlaw49_StepsCheck.j0 : Nat → List (S63) → Bool → List (S55) → List (S56) → Int → Int → Option (Bool)
 | 0, _, _, _, _, _, _ => none
 | k + 1, x1, x28, x280000, x280001, x280002, x280003 => if x28 = true then ((culetlaw49_awake.f k).bind fun t282 => (some t282)) else ((culetlaw49_Own.f k x280000 x280001 x280002 x280003).bind fun bt283 => ((culetlaw49_own.f k x1).bind fun t291 => ((steps_Check.f k bt283.1 bt283.2.1 bt283.2.2.1 bt283.2.2.2 t291).bind fun bt294 => ((culetref49_Check.f k x280000 x280001 x280002 x280003 x1).bind fun bt296 => ((culetlaw49_Own.f k x280000 x280001 x280002 x280003).bind fun bt298 => ((culetlaw49_own.f k x1).bind fun t306 => ((steps_Time.f k bt298.1 bt298.2.1 bt298.2.2.1 bt298.2.2.2 t306).bind fun bt309 => ((culetref49_Time.f k x280000 x280001 x280002 x280003 x1).bind fun bt311 => ((culetlaw49_Own.f k x280000 x280001 x280002 x280003).bind fun bt313 => ((culetlaw49_own.f k x1).bind fun t321 => ((steps_Lines.f k bt313.1 bt313.2.1 bt313.2.2.1 bt313.2.2.2 t321).bind fun bt324 => ((culetref49_Lines.f k x280000 x280001 x280002 x280003 x1).bind fun bt328 => (if bt294.1 = bt296.1 then (if bt294.2 = bt296.2 then (if bt309.1 = bt311.1 then (if bt309.2 = bt311.2 then ((culetref48_SameTexts.f k bt324.1 bt328.1).bind fun t332 => (if t332 = true then (if bt324.2 = bt328.2 then ((culetlaw49_own.f k x1).bind fun t333 => ((steps_Changes.f k t333).bind fun t336 => ((culetref49_Changes.f k x1).bind fun t337 => (some (t336 == t337))))) else (some false)) else (some false))) else (some false)) else (some false)) else (some false)) else (some false))))))))))))))
def culetlaw49_StepsCheck.f (k : Nat) (l0_0 : List (S55)) (l0_1 : List (S56)) (a0_2 : Int) (a0_3 : Int) (l1 : List (S63)) : Option (Bool) := (culetlaw49_awake.f k).bind fun t280 => (if t280 = true then ((culetref49_Few.f k l0_0 l0_1 a0_2 a0_3).bind fun t281 => (if t281 = true then (culetlaw49_StepsCheck.j0 k l1 (decide ((l1.length : Int) > 300)) l0_0 l0_1 a0_2 a0_3) else (culetlaw49_StepsCheck.j0 k l1 true l0_0 l0_1 a0_2 a0_3))) else (culetlaw49_StepsCheck.j0 k l1 true l0_0 l0_1 a0_2 a0_3))
set_option maxHeartbeats 8000000 in
set_option maxRecDepth 100000 in
theorem culetlaw49_StepsCheck.calls (k : Nat) (A0_0 : Option Addr) (c0_0 : Nat) (l0_0 : List (S55)) (A0_1 : Option Addr) (c0_1 : Nat) (l0_1 : List (S56)) (a0_2 : Int) (a0_3 : Int) (A1 : Option Addr) (c1 : Nat) (l1 : List (S63)) (r : Bool) (w : World) (hr0_0 : Kd.C k55 w A0_0 l0_0.length l0_0) (hc0_0 : l0_0.length ≤ c0_0) (hr0_1 : Kd.C k56 w A0_1 l0_1.length l0_1) (hc0_1 : l0_1.length ≤ c0_1) (hr1 : Kd.C k63 w A1 l1.length l1) (hc1 : l1.length ≤ c1) (h : culetlaw49_StepsCheck.f k l0_0 l0_1 a0_2 a0_3 l1 = some r) :
  Calls Tryd.prog 3 #[.agg #[.slice A0_0 l0_0.length c0_0, .slice A0_1 l0_1.length c0_1, .int .i64 a0_2, .int .i64 a0_3], .slice A1 l1.length c1] w fun e w' => e = .returned (.bool r) ∧ Below w.heap.size w w' := by
 have hu25 := Tryd.underlying25
 have HR0_0 := am_ hr0_0
 have HC0_0 := am_ hc0_0
 clear hr0_0 hc0_0
 have HR0_1 := am_ hr0_1
 have HC0_1 := am_ hc0_1
 clear hr0_1 hc0_1
 have HR1 := am_ hr1
 have HC1 := am_ hc1
 clear hr1 hc1
 have HB := am_ (Below.refl w.heap.size w)
 have H : ((culetlaw49_awake.f k).bind fun t280 => (if t280 = true then ((culetref49_Few.f k l0_0 l0_1 a0_2 a0_3).bind fun t281 => (if t281 = true then (culetlaw49_StepsCheck.j0 k l1 (decide ((l1.length : Int) > 300)) l0_0 l0_1 a0_2 a0_3) else (culetlaw49_StepsCheck.j0 k l1 true l0_0 l0_1 a0_2 a0_3))) else (culetlaw49_StepsCheck.j0 k l1 true l0_0 l0_1 a0_2 a0_3))) = some r := h
 clear h
 have HC3 := am_ H
 clear H
 go_enter Tryd.func3, Tryd.ntmps3
 go_upto_region 1 with (first | ((with_reducible refine gate_dst (N := 2) rfl ?_); (try (refine gate_guard (by rfl) ?_; dsimp only)); refine bev (N := 2) (cs := #[.slice A0_0 l0_0.length c0_0, .slice A0_1 l0_1.length c0_1, .int .i64 a0_2, .int .i64 a0_3]) (t := 25) ?_; intro gb279 hg w4 hbox hb; have n0_ := am_ (below_step (mb_ HB.out) hb); have n1_ := am_ (hbox); have n2_ := am_ ((bz_ hg (mb_ HB.out) : w.heap.size ≤ gb279)); have n3_ := am_ ((bz_ hg (mb_ HB.out) : w.heap.size ≤ gb279)); clear HB; have HB := n0_; have BK279 := n1_; have GW279 := n2_; have GE279 := n3_; clear n0_ n1_ n2_ n3_; clear hb hbox hg))
 (try simp only [Act.put, List.setIfInBounds_toArray, List.set_cons_zero, List.set_cons_succ])
 go_cut [28] (fun v28 wc => ∃ (kq : Nat) (x28_2 : Bool), v28 = .bool x28_2 ∧ Aside0 (culetlaw49_StepsCheck.j0 kq l1 x28_2 l0_0 l0_1 a0_2 a0_3 = some r) ∧ Aside0 (kq ≤ k) ∧ Aside0 (wc.heap[gb279]? = some (.cells #[(.slice A0_0 l0_0.length c0_0), (.slice A0_1 l0_1.length c0_1), .int .i64 a0_2, .int .i64 a0_3] 25 (0, 0))) ∧ Aside0 (Below w.heap.size w wc))
 case first =>
  have H := HC3.out
  clear HC3
  replace H := Option.bind_eq_some_iff.mp H
  obtain ⟨t280, A50, H⟩ := H
  replace H : (if t280 = true then ((culetref49_Few.f k l0_0 l0_1 a0_2 a0_3).bind fun t281 => (if t281 = true then (culetlaw49_StepsCheck.j0 k l1 (decide ((l1.length : Int) > 300)) l0_0 l0_1 a0_2 a0_3) else (culetlaw49_StepsCheck.j0 k l1 true l0_0 l0_1 a0_2 a0_3))) else (culetlaw49_StepsCheck.j0 k l1 true l0_0 l0_1 a0_2 a0_3)) = some r := H
  have A5 := am_ A50
  clear A50
  by_cases c6 : t280 = true
  ·
   subst c6
   have H1 : ((culetref49_Few.f k l0_0 l0_1 a0_2 a0_3).bind fun t281 => (if t281 = true then (culetlaw49_StepsCheck.j0 k l1 (decide ((l1.length : Int) > 300)) l0_0 l0_1 a0_2 a0_3) else (culetlaw49_StepsCheck.j0 k l1 true l0_0 l0_1 a0_2 a0_3))) = some r := by rw [if_pos rfl] at H; exact H
   clear H
   have H := H1
   clear H1
   replace H := Option.bind_eq_some_iff.mp H
   obtain ⟨t281, A70, H⟩ := H
   replace H : (if t281 = true then (culetlaw49_StepsCheck.j0 k l1 (decide ((l1.length : Int) > 300)) l0_0 l0_1 a0_2 a0_3) else (culetlaw49_StepsCheck.j0 k l1 true l0_0 l0_1 a0_2 a0_3)) = some r := H
   have A7 := am_ A70
   clear A70
   by_cases c8 : t281 = true
   ·
    subst c8
    have H1 : (culetlaw49_StepsCheck.j0 k l1 (decide ((l1.length : Int) > 300)) l0_0 l0_1 a0_2 a0_3) = some r := by rw [if_pos rfl] at H; exact H
    clear H
    have H := H1
    clear H1
    have H' := am_ H
    clear H
    go_wp2_with (first | ((with_reducible refine gate_callee (f := 4) rfl ?_); refine goesL_ (some 17) rfl rfl Tryd.func4 (by kernel_rfl) rfl #[] rfl ml_ ?_; (with_reducible refine (culetlaw49_awake.calls k  true _ A5.out).mono ?_); rintro e w9 ⟨rfl, hb⟩; refine ⟨_, rfl, ?_⟩; have z_ := aI (am_ (blk_below (mk_ BK279.out) hb)) (am_ (below_step (mb_ HB.out) hb)); clear BK279 HB; obtain ⟨BK279, HB⟩ := z_; (try clear hb); (try clear hb2); (try clear hk); (try clear hi); have hcz10_0 : w9.cell? ⟨gb279, 0, none⟩ = some (.slice A0_0 l0_0.length c0_0) := (blk_cell BK279.out 0).trans rfl; have hcz10_1 : w9.cell? ⟨gb279, 1, none⟩ = some (.slice A0_1 l0_1.length c0_1) := (blk_cell BK279.out 1).trans rfl; have hcz10_2 : w9.cell? ⟨gb279, 2, none⟩ = some (.int .i64 a0_2) := (blk_cell BK279.out 2).trans rfl; have hcz10_3 : w9.cell? ⟨gb279, 3, none⟩ = some (.int .i64 a0_3) := (blk_cell BK279.out 3).trans rfl; have hfz10_0 := blk_frozen BK279.out 0; have hfz10_1 := blk_frozen BK279.out 1; have hfz10_2 := blk_frozen BK279.out 2; have hfz10_3 := blk_frozen BK279.out 3) | (go_at_call 5; (with_reducible refine (culetref49_Few.calls k _ _ l0_0 _ _ l0_1 a0_2 a0_3 true _ ?side1 ?side2 ?side3 ?side4 A7.out).mono ?_); (case side1 => exact mc_ (Kd.C_below HR0_0.out HB.out)); (case side2 => exact HC0_0.out); (case side3 => exact mc_ (Kd.C_below HR0_1.out HB.out)); (case side4 => exact HC0_1.out); rintro e w11 ⟨rfl, hb⟩; have z_ := aI (am_ (blk_below (mk_ BK279.out) hb)) (am_ (below_step (mb_ HB.out) hb)); clear BK279 HB; obtain ⟨BK279, HB⟩ := z_; (try clear hb); (try clear hb2); (try clear hk); (try clear hi)))
    go_meet
    case rel => exact ⟨_, (decide ((l1.length : Int) > 300)), rs_, H', ⟨by first | omega | exact Nat.le_refl _⟩, ⟨by (with_reducible repeat (first | refine blk_drewN ?_ _ | refine blk_drew ?_ | refine blk_alloc ?_ _)); exact BK279.out⟩, ⟨mb_ HB.out⟩⟩
   ·
    replace c8 := Bool.eq_false_iff.mpr c8
    subst c8
    have H1 : (culetlaw49_StepsCheck.j0 k l1 true l0_0 l0_1 a0_2 a0_3) = some r := by rw [if_neg (show ¬ (false = true) by decide)] at H; exact H
    clear H
    have H := H1
    clear H1
    have H' := am_ H
    clear H
    go_wp2_with (first | ((with_reducible refine gate_callee (f := 4) rfl ?_); refine goesL_ (some 17) rfl rfl Tryd.func4 (by kernel_rfl) rfl #[] rfl ml_ ?_; (with_reducible refine (culetlaw49_awake.calls k  true _ A5.out).mono ?_); rintro e w12 ⟨rfl, hb⟩; refine ⟨_, rfl, ?_⟩; have z_ := aI (am_ (blk_below (mk_ BK279.out) hb)) (am_ (below_step (mb_ HB.out) hb)); clear BK279 HB; obtain ⟨BK279, HB⟩ := z_; (try clear hb); (try clear hb2); (try clear hk); (try clear hi); have hcz13_0 : w12.cell? ⟨gb279, 0, none⟩ = some (.slice A0_0 l0_0.length c0_0) := (blk_cell BK279.out 0).trans rfl; have hcz13_1 : w12.cell? ⟨gb279, 1, none⟩ = some (.slice A0_1 l0_1.length c0_1) := (blk_cell BK279.out 1).trans rfl; have hcz13_2 : w12.cell? ⟨gb279, 2, none⟩ = some (.int .i64 a0_2) := (blk_cell BK279.out 2).trans rfl; have hcz13_3 : w12.cell? ⟨gb279, 3, none⟩ = some (.int .i64 a0_3) := (blk_cell BK279.out 3).trans rfl; have hfz13_0 := blk_frozen BK279.out 0; have hfz13_1 := blk_frozen BK279.out 1; have hfz13_2 := blk_frozen BK279.out 2; have hfz13_3 := blk_frozen BK279.out 3) | (go_at_call 5; (with_reducible refine (culetref49_Few.calls k _ _ l0_0 _ _ l0_1 a0_2 a0_3 false _ ?side1 ?side2 ?side3 ?side4 A7.out).mono ?_); (case side1 => exact mc_ (Kd.C_below HR0_0.out HB.out)); (case side2 => exact HC0_0.out); (case side3 => exact mc_ (Kd.C_below HR0_1.out HB.out)); (case side4 => exact HC0_1.out); rintro e w14 ⟨rfl, hb⟩; have z_ := aI (am_ (blk_below (mk_ BK279.out) hb)) (am_ (below_step (mb_ HB.out) hb)); clear BK279 HB; obtain ⟨BK279, HB⟩ := z_; (try clear hb); (try clear hb2); (try clear hk); (try clear hi)))
    go_meet
    case rel => exact ⟨_, (true), rs_, H', ⟨by first | omega | exact Nat.le_refl _⟩, ⟨by (with_reducible repeat (first | refine blk_drewN ?_ _ | refine blk_drew ?_ | refine blk_alloc ?_ _)); exact BK279.out⟩, ⟨mb_ HB.out⟩⟩
  ·
   replace c6 := Bool.eq_false_iff.mpr c6
   subst c6
   have H1 : (culetlaw49_StepsCheck.j0 k l1 true l0_0 l0_1 a0_2 a0_3) = some r := by rw [if_neg (show ¬ (false = true) by decide)] at H; exact H
   clear H
   have H := H1
   clear H1
   have H' := am_ H
   clear H
   go_wp2_with (first | ((with_reducible refine gate_callee (f := 4) rfl ?_); refine goesL_ (some 17) rfl rfl Tryd.func4 (by kernel_rfl) rfl #[] rfl ml_ ?_; (with_reducible refine (culetlaw49_awake.calls k  false _ A5.out).mono ?_); rintro e w15 ⟨rfl, hb⟩; refine ⟨_, rfl, ?_⟩; have n0_ := am_ (blk_below (mk_ BK279.out) hb); have n1_ := am_ (below_step (mb_ HB.out) hb); clear BK279 HB; have BK279 := n0_; have HB := n1_; clear n0_ n1_; (try clear hb); (try clear hb2); (try clear hk); (try clear hi)))
   go_meet
   case rel => exact ⟨_, (true), rs_, H', ⟨by first | omega | exact Nat.le_refl _⟩, ⟨by (with_reducible repeat (first | refine blk_drewN ?_ _ | refine blk_drew ?_ | refine blk_alloc ?_ _)); exact BK279.out⟩, ⟨mb_ HB.out⟩⟩
 case rest =>
  clear HC3
  try clear c1
  try clear p2
  try clear c3
  try clear c4
  try clear c6
  try clear c8
  try clear hcz10_0
  try clear hcz10_1
  try clear hcz10_2
  try clear hcz10_3
  try clear hcz13_0
  try clear hcz13_1
  try clear hcz13_2
  try clear hcz13_3
  try clear hfz10_0
  try clear hfz10_1
  try clear hfz10_2
  try clear hfz10_3
  try clear hfz13_0
  try clear hfz13_1
  try clear hfz13_2
  try clear hfz13_3
  obtain ⟨kq, x28_2, rfl, HA, HJ2, BK279, HB⟩ := hcut
  cases kq with
  | zero => exact absurd HA.out (by simp [culetlaw49_StepsCheck.j0])
  | succ kj2 =>
   have H := HA.out
   clear HA
   simp only [culetlaw49_StepsCheck.j0] at H
   by_cases c16 : x28_2 = true
   ·
    subst c16
    have H1 : ((culetlaw49_awake.f kj2).bind fun t282 => (some t282)) = some r := by rw [if_pos rfl] at H; exact H
    clear H
    have H := H1
    clear H1
    replace H := Option.bind_eq_some_iff.mp H
    obtain ⟨t282, A170, H⟩ := H
    replace H : (some t282) = some r := H
    have A17 := am_ A170
    clear A170
    obtain rfl := Option.some.inj H
    go_wp2_with (first | ((with_reducible refine gate_callee (f := 4) rfl ?_); refine goesL_ (some 29) rfl rfl Tryd.func4 (by kernel_rfl) rfl #[] rfl ml_ ?_; (with_reducible refine (culetlaw49_awake.calls kj2  t282 _ A17.out).mono ?_); rintro e w18 ⟨rfl, hb⟩; refine ⟨_, rfl, ?_⟩; have n0_ := am_ (blk_below (mk_ BK279.out) hb); have n1_ := am_ (below_step (mb_ HB.out) hb); clear BK279 HB; have BK279 := n0_; have HB := n1_; clear n0_ n1_; (try clear hb); (try clear hb2); (try clear hk); (try clear hi)))
    go_ret
    exact ⟨by first | rfl | (simp [errW_none, errW_some] <;> rfl) | (simp [*, errW_none, errW_some] <;> rfl), mb_ HB.out⟩
   ·
    replace c16 := Bool.eq_false_iff.mpr c16
    subst c16
    have H1 : ((culetlaw49_Own.f kj2 l0_0 l0_1 a0_2 a0_3).bind fun bt283 => ((culetlaw49_own.f kj2 l1).bind fun t291 => ((steps_Check.f kj2 bt283.1 bt283.2.1 bt283.2.2.1 bt283.2.2.2 t291).bind fun bt294 => ((culetref49_Check.f kj2 l0_0 l0_1 a0_2 a0_3 l1).bind fun bt296 => ((culetlaw49_Own.f kj2 l0_0 l0_1 a0_2 a0_3).bind fun bt298 => ((culetlaw49_own.f kj2 l1).bind fun t306 => ((steps_Time.f kj2 bt298.1 bt298.2.1 bt298.2.2.1 bt298.2.2.2 t306).bind fun bt309 => ((culetref49_Time.f kj2 l0_0 l0_1 a0_2 a0_3 l1).bind fun bt311 => ((culetlaw49_Own.f kj2 l0_0 l0_1 a0_2 a0_3).bind fun bt313 => ((culetlaw49_own.f kj2 l1).bind fun t321 => ((steps_Lines.f kj2 bt313.1 bt313.2.1 bt313.2.2.1 bt313.2.2.2 t321).bind fun bt324 => ((culetref49_Lines.f kj2 l0_0 l0_1 a0_2 a0_3 l1).bind fun bt328 => (if bt294.1 = bt296.1 then (if bt294.2 = bt296.2 then (if bt309.1 = bt311.1 then (if bt309.2 = bt311.2 then ((culetref48_SameTexts.f kj2 bt324.1 bt328.1).bind fun t332 => (if t332 = true then (if bt324.2 = bt328.2 then ((culetlaw49_own.f kj2 l1).bind fun t333 => ((steps_Changes.f kj2 t333).bind fun t336 => ((culetref49_Changes.f kj2 l1).bind fun t337 => (some (t336 == t337))))) else (some false)) else (some false))) else (some false)) else (some false)) else (some false)) else (some false)))))))))))))) = some r := by rw [if_neg (show ¬ (false = true) by decide)] at H; exact H
    clear H
    have H := H1
    clear H1
    replace H := Option.bind_eq_some_iff.mp H
    obtain ⟨⟨t283, t286, t289, t290⟩, A190, H⟩ := H
    replace H : ((culetlaw49_own.f kj2 l1).bind fun t291 => ((steps_Check.f kj2 t283 t286 t289 t290 t291).bind fun bt294 => ((culetref49_Check.f kj2 l0_0 l0_1 a0_2 a0_3 l1).bind fun bt296 => ((culetlaw49_Own.f kj2 l0_0 l0_1 a0_2 a0_3).bind fun bt298 => ((culetlaw49_own.f kj2 l1).bind fun t306 => ((steps_Time.f kj2 bt298.1 bt298.2.1 bt298.2.2.1 bt298.2.2.2 t306).bind fun bt309 => ((culetref49_Time.f kj2 l0_0 l0_1 a0_2 a0_3 l1).bind fun bt311 => ((culetlaw49_Own.f kj2 l0_0 l0_1 a0_2 a0_3).bind fun bt313 => ((culetlaw49_own.f kj2 l1).bind fun t321 => ((steps_Lines.f kj2 bt313.1 bt313.2.1 bt313.2.2.1 bt313.2.2.2 t321).bind fun bt324 => ((culetref49_Lines.f kj2 l0_0 l0_1 a0_2 a0_3 l1).bind fun bt328 => (if bt294.1 = bt296.1 then (if bt294.2 = bt296.2 then (if bt309.1 = bt311.1 then (if bt309.2 = bt311.2 then ((culetref48_SameTexts.f kj2 bt324.1 bt328.1).bind fun t332 => (if t332 = true then (if bt324.2 = bt328.2 then ((culetlaw49_own.f kj2 l1).bind fun t333 => ((steps_Changes.f kj2 t333).bind fun t336 => ((culetref49_Changes.f kj2 l1).bind fun t337 => (some (t336 == t337))))) else (some false)) else (some false))) else (some false)) else (some false)) else (some false)) else (some false))))))))))))) = some r := H
    have A19 := am_ A190
    clear A190
    replace H := Option.bind_eq_some_iff.mp H
    obtain ⟨t291, A200, H⟩ := H
    replace H : ((steps_Check.f kj2 t283 t286 t289 t290 t291).bind fun bt294 => ((culetref49_Check.f kj2 l0_0 l0_1 a0_2 a0_3 l1).bind fun bt296 => ((culetlaw49_Own.f kj2 l0_0 l0_1 a0_2 a0_3).bind fun bt298 => ((culetlaw49_own.f kj2 l1).bind fun t306 => ((steps_Time.f kj2 bt298.1 bt298.2.1 bt298.2.2.1 bt298.2.2.2 t306).bind fun bt309 => ((culetref49_Time.f kj2 l0_0 l0_1 a0_2 a0_3 l1).bind fun bt311 => ((culetlaw49_Own.f kj2 l0_0 l0_1 a0_2 a0_3).bind fun bt313 => ((culetlaw49_own.f kj2 l1).bind fun t321 => ((steps_Lines.f kj2 bt313.1 bt313.2.1 bt313.2.2.1 bt313.2.2.2 t321).bind fun bt324 => ((culetref49_Lines.f kj2 l0_0 l0_1 a0_2 a0_3 l1).bind fun bt328 => (if bt294.1 = bt296.1 then (if bt294.2 = bt296.2 then (if bt309.1 = bt311.1 then (if bt309.2 = bt311.2 then ((culetref48_SameTexts.f kj2 bt324.1 bt328.1).bind fun t332 => (if t332 = true then (if bt324.2 = bt328.2 then ((culetlaw49_own.f kj2 l1).bind fun t333 => ((steps_Changes.f kj2 t333).bind fun t336 => ((culetref49_Changes.f kj2 l1).bind fun t337 => (some (t336 == t337))))) else (some false)) else (some false))) else (some false)) else (some false)) else (some false)) else (some false)))))))))))) = some r := H
    have A20 := am_ A200
    clear A200
    replace H := Option.bind_eq_some_iff.mp H
    obtain ⟨⟨t294, t295⟩, A210, H⟩ := H
    replace H : ((culetref49_Check.f kj2 l0_0 l0_1 a0_2 a0_3 l1).bind fun bt296 => ((culetlaw49_Own.f kj2 l0_0 l0_1 a0_2 a0_3).bind fun bt298 => ((culetlaw49_own.f kj2 l1).bind fun t306 => ((steps_Time.f kj2 bt298.1 bt298.2.1 bt298.2.2.1 bt298.2.2.2 t306).bind fun bt309 => ((culetref49_Time.f kj2 l0_0 l0_1 a0_2 a0_3 l1).bind fun bt311 => ((culetlaw49_Own.f kj2 l0_0 l0_1 a0_2 a0_3).bind fun bt313 => ((culetlaw49_own.f kj2 l1).bind fun t321 => ((steps_Lines.f kj2 bt313.1 bt313.2.1 bt313.2.2.1 bt313.2.2.2 t321).bind fun bt324 => ((culetref49_Lines.f kj2 l0_0 l0_1 a0_2 a0_3 l1).bind fun bt328 => (if t294 = bt296.1 then (if t295 = bt296.2 then (if bt309.1 = bt311.1 then (if bt309.2 = bt311.2 then ((culetref48_SameTexts.f kj2 bt324.1 bt328.1).bind fun t332 => (if t332 = true then (if bt324.2 = bt328.2 then ((culetlaw49_own.f kj2 l1).bind fun t333 => ((steps_Changes.f kj2 t333).bind fun t336 => ((culetref49_Changes.f kj2 l1).bind fun t337 => (some (t336 == t337))))) else (some false)) else (some false))) else (some false)) else (some false)) else (some false)) else (some false))))))))))) = some r := H
    have A21 := am_ A210
    clear A210
    replace H := Option.bind_eq_some_iff.mp H
    obtain ⟨⟨t296, t297⟩, A220, H⟩ := H
    replace H : ((culetlaw49_Own.f kj2 l0_0 l0_1 a0_2 a0_3).bind fun bt298 => ((culetlaw49_own.f kj2 l1).bind fun t306 => ((steps_Time.f kj2 bt298.1 bt298.2.1 bt298.2.2.1 bt298.2.2.2 t306).bind fun bt309 => ((culetref49_Time.f kj2 l0_0 l0_1 a0_2 a0_3 l1).bind fun bt311 => ((culetlaw49_Own.f kj2 l0_0 l0_1 a0_2 a0_3).bind fun bt313 => ((culetlaw49_own.f kj2 l1).bind fun t321 => ((steps_Lines.f kj2 bt313.1 bt313.2.1 bt313.2.2.1 bt313.2.2.2 t321).bind fun bt324 => ((culetref49_Lines.f kj2 l0_0 l0_1 a0_2 a0_3 l1).bind fun bt328 => (if t294 = t296 then (if t295 = t297 then (if bt309.1 = bt311.1 then (if bt309.2 = bt311.2 then ((culetref48_SameTexts.f kj2 bt324.1 bt328.1).bind fun t332 => (if t332 = true then (if bt324.2 = bt328.2 then ((culetlaw49_own.f kj2 l1).bind fun t333 => ((steps_Changes.f kj2 t333).bind fun t336 => ((culetref49_Changes.f kj2 l1).bind fun t337 => (some (t336 == t337))))) else (some false)) else (some false))) else (some false)) else (some false)) else (some false)) else (some false)))))))))) = some r := H
    have A22 := am_ A220
    clear A220
    replace H := Option.bind_eq_some_iff.mp H
    obtain ⟨⟨t298, t301, t304, t305⟩, A230, H⟩ := H
    replace H : ((culetlaw49_own.f kj2 l1).bind fun t306 => ((steps_Time.f kj2 t298 t301 t304 t305 t306).bind fun bt309 => ((culetref49_Time.f kj2 l0_0 l0_1 a0_2 a0_3 l1).bind fun bt311 => ((culetlaw49_Own.f kj2 l0_0 l0_1 a0_2 a0_3).bind fun bt313 => ((culetlaw49_own.f kj2 l1).bind fun t321 => ((steps_Lines.f kj2 bt313.1 bt313.2.1 bt313.2.2.1 bt313.2.2.2 t321).bind fun bt324 => ((culetref49_Lines.f kj2 l0_0 l0_1 a0_2 a0_3 l1).bind fun bt328 => (if t294 = t296 then (if t295 = t297 then (if bt309.1 = bt311.1 then (if bt309.2 = bt311.2 then ((culetref48_SameTexts.f kj2 bt324.1 bt328.1).bind fun t332 => (if t332 = true then (if bt324.2 = bt328.2 then ((culetlaw49_own.f kj2 l1).bind fun t333 => ((steps_Changes.f kj2 t333).bind fun t336 => ((culetref49_Changes.f kj2 l1).bind fun t337 => (some (t336 == t337))))) else (some false)) else (some false))) else (some false)) else (some false)) else (some false)) else (some false))))))))) = some r := H
    have A23 := am_ A230
    clear A230
    replace H := Option.bind_eq_some_iff.mp H
    obtain ⟨t306, A240, H⟩ := H
    replace H : ((steps_Time.f kj2 t298 t301 t304 t305 t306).bind fun bt309 => ((culetref49_Time.f kj2 l0_0 l0_1 a0_2 a0_3 l1).bind fun bt311 => ((culetlaw49_Own.f kj2 l0_0 l0_1 a0_2 a0_3).bind fun bt313 => ((culetlaw49_own.f kj2 l1).bind fun t321 => ((steps_Lines.f kj2 bt313.1 bt313.2.1 bt313.2.2.1 bt313.2.2.2 t321).bind fun bt324 => ((culetref49_Lines.f kj2 l0_0 l0_1 a0_2 a0_3 l1).bind fun bt328 => (if t294 = t296 then (if t295 = t297 then (if bt309.1 = bt311.1 then (if bt309.2 = bt311.2 then ((culetref48_SameTexts.f kj2 bt324.1 bt328.1).bind fun t332 => (if t332 = true then (if bt324.2 = bt328.2 then ((culetlaw49_own.f kj2 l1).bind fun t333 => ((steps_Changes.f kj2 t333).bind fun t336 => ((culetref49_Changes.f kj2 l1).bind fun t337 => (some (t336 == t337))))) else (some false)) else (some false))) else (some false)) else (some false)) else (some false)) else (some false)))))))) = some r := H
    have A24 := am_ A240
    clear A240
    replace H := Option.bind_eq_some_iff.mp H
    obtain ⟨⟨t309, t310⟩, A250, H⟩ := H
    replace H : ((culetref49_Time.f kj2 l0_0 l0_1 a0_2 a0_3 l1).bind fun bt311 => ((culetlaw49_Own.f kj2 l0_0 l0_1 a0_2 a0_3).bind fun bt313 => ((culetlaw49_own.f kj2 l1).bind fun t321 => ((steps_Lines.f kj2 bt313.1 bt313.2.1 bt313.2.2.1 bt313.2.2.2 t321).bind fun bt324 => ((culetref49_Lines.f kj2 l0_0 l0_1 a0_2 a0_3 l1).bind fun bt328 => (if t294 = t296 then (if t295 = t297 then (if t309 = bt311.1 then (if t310 = bt311.2 then ((culetref48_SameTexts.f kj2 bt324.1 bt328.1).bind fun t332 => (if t332 = true then (if bt324.2 = bt328.2 then ((culetlaw49_own.f kj2 l1).bind fun t333 => ((steps_Changes.f kj2 t333).bind fun t336 => ((culetref49_Changes.f kj2 l1).bind fun t337 => (some (t336 == t337))))) else (some false)) else (some false))) else (some false)) else (some false)) else (some false)) else (some false))))))) = some r := H
    have A25 := am_ A250
    clear A250
    replace H := Option.bind_eq_some_iff.mp H
    obtain ⟨⟨t311, t312⟩, A260, H⟩ := H
    replace H : ((culetlaw49_Own.f kj2 l0_0 l0_1 a0_2 a0_3).bind fun bt313 => ((culetlaw49_own.f kj2 l1).bind fun t321 => ((steps_Lines.f kj2 bt313.1 bt313.2.1 bt313.2.2.1 bt313.2.2.2 t321).bind fun bt324 => ((culetref49_Lines.f kj2 l0_0 l0_1 a0_2 a0_3 l1).bind fun bt328 => (if t294 = t296 then (if t295 = t297 then (if t309 = t311 then (if t310 = t312 then ((culetref48_SameTexts.f kj2 bt324.1 bt328.1).bind fun t332 => (if t332 = true then (if bt324.2 = bt328.2 then ((culetlaw49_own.f kj2 l1).bind fun t333 => ((steps_Changes.f kj2 t333).bind fun t336 => ((culetref49_Changes.f kj2 l1).bind fun t337 => (some (t336 == t337))))) else (some false)) else (some false))) else (some false)) else (some false)) else (some false)) else (some false)))))) = some r := H
    have A26 := am_ A260
    clear A260
    replace H := Option.bind_eq_some_iff.mp H
    obtain ⟨⟨t313, t316, t319, t320⟩, A270, H⟩ := H
    replace H : ((culetlaw49_own.f kj2 l1).bind fun t321 => ((steps_Lines.f kj2 t313 t316 t319 t320 t321).bind fun bt324 => ((culetref49_Lines.f kj2 l0_0 l0_1 a0_2 a0_3 l1).bind fun bt328 => (if t294 = t296 then (if t295 = t297 then (if t309 = t311 then (if t310 = t312 then ((culetref48_SameTexts.f kj2 bt324.1 bt328.1).bind fun t332 => (if t332 = true then (if bt324.2 = bt328.2 then ((culetlaw49_own.f kj2 l1).bind fun t333 => ((steps_Changes.f kj2 t333).bind fun t336 => ((culetref49_Changes.f kj2 l1).bind fun t337 => (some (t336 == t337))))) else (some false)) else (some false))) else (some false)) else (some false)) else (some false)) else (some false))))) = some r := H
    have A27 := am_ A270
    clear A270
    replace H := Option.bind_eq_some_iff.mp H
    obtain ⟨t321, A280, H⟩ := H
    replace H : ((steps_Lines.f kj2 t313 t316 t319 t320 t321).bind fun bt324 => ((culetref49_Lines.f kj2 l0_0 l0_1 a0_2 a0_3 l1).bind fun bt328 => (if t294 = t296 then (if t295 = t297 then (if t309 = t311 then (if t310 = t312 then ((culetref48_SameTexts.f kj2 bt324.1 bt328.1).bind fun t332 => (if t332 = true then (if bt324.2 = bt328.2 then ((culetlaw49_own.f kj2 l1).bind fun t333 => ((steps_Changes.f kj2 t333).bind fun t336 => ((culetref49_Changes.f kj2 l1).bind fun t337 => (some (t336 == t337))))) else (some false)) else (some false))) else (some false)) else (some false)) else (some false)) else (some false)))) = some r := H
    have A28 := am_ A280
    clear A280
    replace H := Option.bind_eq_some_iff.mp H
    obtain ⟨⟨t324, t327⟩, A290, H⟩ := H
    replace H : ((culetref49_Lines.f kj2 l0_0 l0_1 a0_2 a0_3 l1).bind fun bt328 => (if t294 = t296 then (if t295 = t297 then (if t309 = t311 then (if t310 = t312 then ((culetref48_SameTexts.f kj2 t324 bt328.1).bind fun t332 => (if t332 = true then (if t327 = bt328.2 then ((culetlaw49_own.f kj2 l1).bind fun t333 => ((steps_Changes.f kj2 t333).bind fun t336 => ((culetref49_Changes.f kj2 l1).bind fun t337 => (some (t336 == t337))))) else (some false)) else (some false))) else (some false)) else (some false)) else (some false)) else (some false))) = some r := H
    have A29 := am_ A290
    clear A290
    replace H := Option.bind_eq_some_iff.mp H
    obtain ⟨⟨t328, t331⟩, A300, H⟩ := H
    replace H : (if t294 = t296 then (if t295 = t297 then (if t309 = t311 then (if t310 = t312 then ((culetref48_SameTexts.f kj2 t324 t328).bind fun t332 => (if t332 = true then (if t327 = t331 then ((culetlaw49_own.f kj2 l1).bind fun t333 => ((steps_Changes.f kj2 t333).bind fun t336 => ((culetref49_Changes.f kj2 l1).bind fun t337 => (some (t336 == t337))))) else (some false)) else (some false))) else (some false)) else (some false)) else (some false)) else (some false)) = some r := H
    have A30 := am_ A300
    clear A300
    have hcz41_0 : wc.cell? ⟨gb279, 0, none⟩ = some (.slice A0_0 l0_0.length c0_0) := (blk_cell BK279.out 0).trans rfl
    have hcz41_1 : wc.cell? ⟨gb279, 1, none⟩ = some (.slice A0_1 l0_1.length c0_1) := (blk_cell BK279.out 1).trans rfl
    have hcz41_2 : wc.cell? ⟨gb279, 2, none⟩ = some (.int .i64 a0_2) := (blk_cell BK279.out 2).trans rfl
    have hcz41_3 : wc.cell? ⟨gb279, 3, none⟩ = some (.int .i64 a0_3) := (blk_cell BK279.out 3).trans rfl
    have hfz41_0 := blk_frozen BK279.out 0
    have hfz41_1 := blk_frozen BK279.out 1
    have hfz41_2 := blk_frozen BK279.out 2
    have hfz41_3 := blk_frozen BK279.out 3
    go_upto_region 9 with (first | ((with_reducible refine gate_callee (f := 7) rfl ?_); refine goesL_ (some 32) rfl rfl Tryd.func7 (by kernel_rfl) rfl #[.agg #[.slice A0_0 l0_0.length c0_0, .slice A0_1 l0_1.length c0_1, .int .i64 a0_2, .int .i64 a0_3]] rfl ml_ ?_; (with_reducible refine (culetlaw49_Own.calls kj2 _ _ l0_0 _ _ l0_1 a0_2 a0_3 t283 t286 t289 t290 _ ?side1 ?side2 ?side3 ?side4 A19.out).mono ?_); (case side1 => exact mc_ (Kd.C_below HR0_0.out HB.out)); (case side2 => exact HC0_0.out); (case side3 => exact mc_ (Kd.C_below HR0_1.out HB.out)); (case side4 => exact HC0_1.out); rintro e w42 ⟨v284, v287, rfl, ho0, ho1, hb⟩; refine ⟨_, rfl, ?_⟩; have z_ := aI (am_ (Kd.R_lower ho0 (below_size (mb_ HB.out)))) (aI (am_ (Kd.R_lower ho1 (below_size (mb_ HB.out)))) (aI (am_ (blk_below (mk_ BK279.out) hb)) (am_ (below_step (mb_ HB.out) hb)))); clear BK279 HB; obtain ⟨HO285, HO288, BK279, HB⟩ := z_; (try clear hb); (try clear hb2); (try clear hk); (try clear hi); (try clear ho0); (try clear ho1)) | ((with_reducible refine gate_callee (f := 8) rfl ?_); refine goesL_ (some 34) rfl rfl Tryd.func8 (by kernel_rfl) rfl #[.slice A1 l1.length c1] rfl ml_ ?_; (with_reducible refine (culetlaw49_own.calls kj2 _ _ l1 t291 _ ?side1 ?side2 A20.out).mono ?_); (case side1 => exact mc_ (Kd.C_below HR1.out HB.out)); (case side2 => exact HC1.out); rintro e w43 ⟨v292, rfl, ho0, hb⟩; refine ⟨_, rfl, ?_⟩; have z_ := aI (am_ (Kd.R_below (mr_ HO285.out) hb)) (aI (am_ (Kd.R_below (mr_ HO288.out) hb)) (aI (am_ (Kd.R_lower ho0 (below_size (mb_ HB.out)))) (aI (am_ (blk_below (mk_ BK279.out) hb)) (am_ (below_step (mb_ HB.out) hb))))); clear HO285 HO288 BK279 HB; obtain ⟨HO285, HO288, HO293, BK279, HB⟩ := z_; (try clear hb); (try clear hb2); (try clear hk); (try clear hi); (try clear ho0); obtain ⟨Ao44, co44, eo44⟩ := Kd.R_slice HO285.out; subst eo44; obtain ⟨Ao45, co45, eo45⟩ := Kd.R_slice HO288.out; subst eo45; obtain ⟨Ao46, co46, eo46⟩ := Kd.R_slice HO293.out; subst eo46) | ((with_reducible refine gate_callee (f := 6) rfl ?_); refine goesL_ (some 35) rfl rfl Tryd.func6 (by kernel_rfl) rfl #[.agg #[.slice Ao44 t283.length co44, .slice Ao45 t286.length co45, .int .i64 t289, .int .i64 t290], .slice Ao46 t291.length co46] rfl ml_ ?_; (with_reducible refine (steps_Check.calls kj2 _ _ t283 _ _ t286 t289 t290 _ _ t291 t294 t295 _ ?side1 ?side2 ?side3 ?side4 ?side5 ?side6 A21.out).mono ?_); (case side1 => exact mc_ (Kd.R_reads' HO285.out).2.2); (case side2 => exact (Kd.R_reads' HO285.out).2.1); (case side3 => exact mc_ (Kd.R_reads' HO288.out).2.2); (case side4 => exact (Kd.R_reads' HO288.out).2.1); (case side5 => exact mc_ (Kd.R_reads' HO293.out).2.2); (case side6 => exact (Kd.R_reads' HO293.out).2.1); rintro e w47 ⟨rfl, hb⟩; refine ⟨_, rfl, ?_⟩; have z_ := aI (am_ (Kd.R_below (mr_ HO285.out) hb)) (aI (am_ (Kd.R_below (mr_ HO288.out) hb)) (aI (am_ (Kd.R_below (mr_ HO293.out) hb)) (aI (am_ (blk_below (mk_ BK279.out) hb)) (am_ (below_step (mb_ HB.out) hb))))); clear HO285 HO288 HO293 BK279 HB; obtain ⟨HO285, HO288, HO293, BK279, HB⟩ := z_; (try clear hb); (try clear hb2); (try clear hk); (try clear hi); have hcz48_0 : w47.cell? ⟨gb279, 0, none⟩ = some (.slice A0_0 l0_0.length c0_0) := (blk_cell BK279.out 0).trans rfl; have hcz48_1 : w47.cell? ⟨gb279, 1, none⟩ = some (.slice A0_1 l0_1.length c0_1) := (blk_cell BK279.out 1).trans rfl; have hcz48_2 : w47.cell? ⟨gb279, 2, none⟩ = some (.int .i64 a0_2) := (blk_cell BK279.out 2).trans rfl; have hcz48_3 : w47.cell? ⟨gb279, 3, none⟩ = some (.int .i64 a0_3) := (blk_cell BK279.out 3).trans rfl; have hfz48_0 := blk_frozen BK279.out 0; have hfz48_1 := blk_frozen BK279.out 1; have hfz48_2 := blk_frozen BK279.out 2; have hfz48_3 := blk_frozen BK279.out 3) | ((with_reducible refine gate_callee (f := 9) rfl ?_); refine goesL_ (some 41) rfl rfl Tryd.func9 (by kernel_rfl) rfl #[.agg #[.slice A0_0 l0_0.length c0_0, .slice A0_1 l0_1.length c0_1, .int .i64 a0_2, .int .i64 a0_3], .slice A1 l1.length c1] rfl ml_ ?_; (with_reducible refine (culetref49_Check.calls kj2 _ _ l0_0 _ _ l0_1 a0_2 a0_3 _ _ l1 t296 t297 _ ?side1 ?side2 ?side3 ?side4 ?side5 ?side6 A22.out).mono ?_); (case side1 => exact mc_ (Kd.C_below HR0_0.out HB.out)); (case side2 => exact HC0_0.out); (case side3 => exact mc_ (Kd.C_below HR0_1.out HB.out)); (case side4 => exact HC0_1.out); (case side5 => exact mc_ (Kd.C_below HR1.out HB.out)); (case side6 => exact HC1.out); rintro e w49 ⟨rfl, hb⟩; refine ⟨_, rfl, ?_⟩; have z_ := aI (am_ (Kd.R_below (mr_ HO285.out) hb)) (aI (am_ (Kd.R_below (mr_ HO288.out) hb)) (aI (am_ (Kd.R_below (mr_ HO293.out) hb)) (aI (am_ (blk_below (mk_ BK279.out) hb)) (am_ (below_step (mb_ HB.out) hb))))); clear HO285 HO288 HO293 BK279 HB; obtain ⟨HO285, HO288, HO293, BK279, HB⟩ := z_; (try clear hb); (try clear hb2); (try clear hk); (try clear hi); have hcz50_0 : w49.cell? ⟨gb279, 0, none⟩ = some (.slice A0_0 l0_0.length c0_0) := (blk_cell BK279.out 0).trans rfl; have hcz50_1 : w49.cell? ⟨gb279, 1, none⟩ = some (.slice A0_1 l0_1.length c0_1) := (blk_cell BK279.out 1).trans rfl; have hcz50_2 : w49.cell? ⟨gb279, 2, none⟩ = some (.int .i64 a0_2) := (blk_cell BK279.out 2).trans rfl; have hcz50_3 : w49.cell? ⟨gb279, 3, none⟩ = some (.int .i64 a0_3) := (blk_cell BK279.out 3).trans rfl; have hfz50_0 := blk_frozen BK279.out 0; have hfz50_1 := blk_frozen BK279.out 1; have hfz50_2 := blk_frozen BK279.out 2; have hfz50_3 := blk_frozen BK279.out 3) | ((with_reducible refine gate_callee (f := 7) rfl ?_); refine goesL_ (some 46) rfl rfl Tryd.func7 (by kernel_rfl) rfl #[.agg #[.slice A0_0 l0_0.length c0_0, .slice A0_1 l0_1.length c0_1, .int .i64 a0_2, .int .i64 a0_3]] rfl ml_ ?_; (with_reducible refine (culetlaw49_Own.calls kj2 _ _ l0_0 _ _ l0_1 a0_2 a0_3 t298 t301 t304 t305 _ ?side1 ?side2 ?side3 ?side4 A23.out).mono ?_); (case side1 => exact mc_ (Kd.C_below HR0_0.out HB.out)); (case side2 => exact HC0_0.out); (case side3 => exact mc_ (Kd.C_below HR0_1.out HB.out)); (case side4 => exact HC0_1.out); rintro e w51 ⟨v299, v302, rfl, ho0, ho1, hb⟩; refine ⟨_, rfl, ?_⟩; have z_ := aI (am_ (Kd.R_elder' (mr_ HO285.out) (Kd.R_base ho0) hb)) (aI (am_ (Kd.R_elder' (mr_ HO288.out) (Kd.R_base ho1) hb)) (aI (am_ (Kd.R_below (mr_ HO293.out) hb)) (aI (am_ (Kd.R_lower (Kd.R_new' ho0 (Kd.R_lt (mr_ HO285.out))) (below_size (mb_ HB.out)))) (aI (am_ (Kd.R_lower (Kd.R_new' ho1 (Kd.R_lt (mr_ HO288.out))) (below_size (mb_ HB.out)))) (aI (am_ (blk_below (mk_ BK279.out) hb)) (am_ (below_step (mb_ HB.out) hb))))))); clear HO285 HO288 HO293 BK279 HB; obtain ⟨HO285, HO288, HO293, HO300, HO303, BK279, HB⟩ := z_; (try clear hb); (try clear hb2); (try clear hk); (try clear hi); (try clear ho0); (try clear ho1)) | ((with_reducible refine gate_callee (f := 8) rfl ?_); refine goesL_ (some 48) rfl rfl Tryd.func8 (by kernel_rfl) rfl #[.slice A1 l1.length c1] rfl ml_ ?_; (with_reducible refine (culetlaw49_own.calls kj2 _ _ l1 t306 _ ?side1 ?side2 A24.out).mono ?_); (case side1 => exact mc_ (Kd.C_below HR1.out HB.out)); (case side2 => exact HC1.out); rintro e w52 ⟨v307, rfl, ho0, hb⟩; refine ⟨_, rfl, ?_⟩; have z_ := aI (am_ (Kd.R_below (mr_ HO285.out) hb)) (aI (am_ (Kd.R_below (mr_ HO288.out) hb)) (aI (am_ (Kd.R_elder' (mr_ HO293.out) (Kd.R_base ho0) hb)) (aI (am_ (Kd.R_below (mr_ HO300.out) hb)) (aI (am_ (Kd.R_below (mr_ HO303.out) hb)) (aI (am_ (Kd.R_lower (Kd.R_new' ho0 (Kd.R_lt (mr_ HO293.out))) (below_size (mb_ HB.out)))) (aI (am_ (blk_below (mk_ BK279.out) hb)) (am_ (below_step (mb_ HB.out) hb)))))))); clear HO285 HO288 HO293 HO300 HO303 BK279 HB; obtain ⟨HO285, HO288, HO293, HO300, HO303, HO308, BK279, HB⟩ := z_; (try clear hb); (try clear hb2); (try clear hk); (try clear hi); (try clear ho0); obtain ⟨Ao53, co53, eo53⟩ := Kd.R_slice HO300.out; subst eo53; obtain ⟨Ao54, co54, eo54⟩ := Kd.R_slice HO303.out; subst eo54; obtain ⟨Ao55, co55, eo55⟩ := Kd.R_slice HO308.out; subst eo55) | ((with_reducible refine gate_callee (f := 10) rfl ?_); refine goesL_ (some 49) rfl rfl Tryd.func10 (by kernel_rfl) rfl #[.agg #[.slice Ao53 t298.length co53, .slice Ao54 t301.length co54, .int .i64 t304, .int .i64 t305], .slice Ao55 t306.length co55] rfl ml_ ?_; (with_reducible refine (steps_Time.calls kj2 _ _ t298 _ _ t301 t304 t305 _ _ t306 t309 t310 _ ?side1 ?side2 ?side3 ?side4 ?side5 ?side6 A25.out).mono ?_); (case side1 => exact mc_ (Kd.R_reads' HO300.out).2.2); (case side2 => exact (Kd.R_reads' HO300.out).2.1); (case side3 => exact mc_ (Kd.R_reads' HO303.out).2.2); (case side4 => exact (Kd.R_reads' HO303.out).2.1); (case side5 => exact mc_ (Kd.R_reads' HO308.out).2.2); (case side6 => exact (Kd.R_reads' HO308.out).2.1); rintro e w56 ⟨rfl, hb⟩; refine ⟨_, rfl, ?_⟩; have z_ := aI (am_ (Kd.R_below (mr_ HO285.out) hb)) (aI (am_ (Kd.R_below (mr_ HO288.out) hb)) (aI (am_ (Kd.R_below (mr_ HO293.out) hb)) (aI (am_ (Kd.R_below (mr_ HO300.out) hb)) (aI (am_ (Kd.R_below (mr_ HO303.out) hb)) (aI (am_ (Kd.R_below (mr_ HO308.out) hb)) (aI (am_ (blk_below (mk_ BK279.out) hb)) (am_ (below_step (mb_ HB.out) hb)))))))); clear HO285 HO288 HO293 HO300 HO303 HO308 BK279 HB; obtain ⟨HO285, HO288, HO293, HO300, HO303, HO308, BK279, HB⟩ := z_; (try clear hb); (try clear hb2); (try clear hk); (try clear hi); have hcz57_0 : w56.cell? ⟨gb279, 0, none⟩ = some (.slice A0_0 l0_0.length c0_0) := (blk_cell BK279.out 0).trans rfl; have hcz57_1 : w56.cell? ⟨gb279, 1, none⟩ = some (.slice A0_1 l0_1.length c0_1) := (blk_cell BK279.out 1).trans rfl; have hcz57_2 : w56.cell? ⟨gb279, 2, none⟩ = some (.int .i64 a0_2) := (blk_cell BK279.out 2).trans rfl; have hcz57_3 : w56.cell? ⟨gb279, 3, none⟩ = some (.int .i64 a0_3) := (blk_cell BK279.out 3).trans rfl; have hfz57_0 := blk_frozen BK279.out 0; have hfz57_1 := blk_frozen BK279.out 1; have hfz57_2 := blk_frozen BK279.out 2; have hfz57_3 := blk_frozen BK279.out 3) | ((with_reducible refine gate_callee (f := 11) rfl ?_); refine goesL_ (some 55) rfl rfl Tryd.func11 (by kernel_rfl) rfl #[.agg #[.slice A0_0 l0_0.length c0_0, .slice A0_1 l0_1.length c0_1, .int .i64 a0_2, .int .i64 a0_3], .slice A1 l1.length c1] rfl ml_ ?_; (with_reducible refine (culetref49_Time.calls kj2 _ _ l0_0 _ _ l0_1 a0_2 a0_3 _ _ l1 t311 t312 _ ?side1 ?side2 ?side3 ?side4 ?side5 ?side6 A26.out).mono ?_); (case side1 => exact mc_ (Kd.C_below HR0_0.out HB.out)); (case side2 => exact HC0_0.out); (case side3 => exact mc_ (Kd.C_below HR0_1.out HB.out)); (case side4 => exact HC0_1.out); (case side5 => exact mc_ (Kd.C_below HR1.out HB.out)); (case side6 => exact HC1.out); rintro e w58 ⟨rfl, hb⟩; refine ⟨_, rfl, ?_⟩; have z_ := aI (am_ (Kd.R_below (mr_ HO285.out) hb)) (aI (am_ (Kd.R_below (mr_ HO288.out) hb)) (aI (am_ (Kd.R_below (mr_ HO293.out) hb)) (aI (am_ (Kd.R_below (mr_ HO300.out) hb)) (aI (am_ (Kd.R_below (mr_ HO303.out) hb)) (aI (am_ (Kd.R_below (mr_ HO308.out) hb)) (aI (am_ (blk_below (mk_ BK279.out) hb)) (am_ (below_step (mb_ HB.out) hb)))))))); clear HO285 HO288 HO293 HO300 HO303 HO308 BK279 HB; obtain ⟨HO285, HO288, HO293, HO300, HO303, HO308, BK279, HB⟩ := z_; (try clear hb); (try clear hb2); (try clear hk); (try clear hi); have hcz59_0 : w58.cell? ⟨gb279, 0, none⟩ = some (.slice A0_0 l0_0.length c0_0) := (blk_cell BK279.out 0).trans rfl; have hcz59_1 : w58.cell? ⟨gb279, 1, none⟩ = some (.slice A0_1 l0_1.length c0_1) := (blk_cell BK279.out 1).trans rfl; have hcz59_2 : w58.cell? ⟨gb279, 2, none⟩ = some (.int .i64 a0_2) := (blk_cell BK279.out 2).trans rfl; have hcz59_3 : w58.cell? ⟨gb279, 3, none⟩ = some (.int .i64 a0_3) := (blk_cell BK279.out 3).trans rfl; have hfz59_0 := blk_frozen BK279.out 0; have hfz59_1 := blk_frozen BK279.out 1; have hfz59_2 := blk_frozen BK279.out 2; have hfz59_3 := blk_frozen BK279.out 3) | ((with_reducible refine gate_callee (f := 7) rfl ?_); refine goesL_ (some 60) rfl rfl Tryd.func7 (by kernel_rfl) rfl #[.agg #[.slice A0_0 l0_0.length c0_0, .slice A0_1 l0_1.length c0_1, .int .i64 a0_2, .int .i64 a0_3]] rfl ml_ ?_; (with_reducible refine (culetlaw49_Own.calls kj2 _ _ l0_0 _ _ l0_1 a0_2 a0_3 t313 t316 t319 t320 _ ?side1 ?side2 ?side3 ?side4 A27.out).mono ?_); (case side1 => exact mc_ (Kd.C_below HR0_0.out HB.out)); (case side2 => exact HC0_0.out); (case side3 => exact mc_ (Kd.C_below HR0_1.out HB.out)); (case side4 => exact HC0_1.out); rintro e w60 ⟨v314, v317, rfl, ho0, ho1, hb⟩; refine ⟨_, rfl, ?_⟩; have z_ := aI (am_ (Kd.R_elder' (mr_ HO285.out) (Kd.R_base ho0) hb)) (aI (am_ (Kd.R_elder' (mr_ HO288.out) (Kd.R_base ho1) hb)) (aI (am_ (Kd.R_below (mr_ HO293.out) hb)) (aI (am_ (Kd.R_elder' (mr_ HO300.out) (Kd.R_base ho0) hb)) (aI (am_ (Kd.R_elder' (mr_ HO303.out) (Kd.R_base ho1) hb)) (aI (am_ (Kd.R_below (mr_ HO308.out) hb)) (aI (am_ (Kd.R_lower (Kd.R_new' (Kd.R_new' ho0 (Kd.R_lt (mr_ HO285.out))) (Kd.R_lt (mr_ HO300.out))) (below_size (mb_ HB.out)))) (aI (am_ (Kd.R_lower (Kd.R_new' (Kd.R_new' ho1 (Kd.R_lt (mr_ HO288.out))) (Kd.R_lt (mr_ HO303.out))) (below_size (mb_ HB.out)))) (aI (am_ (blk_below (mk_ BK279.out) hb)) (am_ (below_step (mb_ HB.out) hb)))))))))); clear HO285 HO288 HO293 HO300 HO303 HO308 BK279 HB; obtain ⟨HO285, HO288, HO293, HO300, HO303, HO308, HO315, HO318, BK279, HB⟩ := z_; (try clear hb); (try clear hb2); (try clear hk); (try clear hi); (try clear ho0); (try clear ho1)) | ((with_reducible refine gate_callee (f := 8) rfl ?_); refine goesL_ (some 62) rfl rfl Tryd.func8 (by kernel_rfl) rfl #[.slice A1 l1.length c1] rfl ml_ ?_; (with_reducible refine (culetlaw49_own.calls kj2 _ _ l1 t321 _ ?side1 ?side2 A28.out).mono ?_); (case side1 => exact mc_ (Kd.C_below HR1.out HB.out)); (case side2 => exact HC1.out); rintro e w61 ⟨v322, rfl, ho0, hb⟩; refine ⟨_, rfl, ?_⟩; have z_ := aI (am_ (Kd.R_below (mr_ HO285.out) hb)) (aI (am_ (Kd.R_below (mr_ HO288.out) hb)) (aI (am_ (Kd.R_elder' (mr_ HO293.out) (Kd.R_base ho0) hb)) (aI (am_ (Kd.R_below (mr_ HO300.out) hb)) (aI (am_ (Kd.R_below (mr_ HO303.out) hb)) (aI (am_ (Kd.R_elder' (mr_ HO308.out) (Kd.R_base ho0) hb)) (aI (am_ (Kd.R_below (mr_ HO315.out) hb)) (aI (am_ (Kd.R_below (mr_ HO318.out) hb)) (aI (am_ (Kd.R_lower (Kd.R_new' (Kd.R_new' ho0 (Kd.R_lt (mr_ HO293.out))) (Kd.R_lt (mr_ HO308.out))) (below_size (mb_ HB.out)))) (aI (am_ (blk_below (mk_ BK279.out) hb)) (am_ (below_step (mb_ HB.out) hb))))))))))); clear HO285 HO288 HO293 HO300 HO303 HO308 HO315 HO318 BK279 HB; obtain ⟨HO285, HO288, HO293, HO300, HO303, HO308, HO315, HO318, HO323, BK279, HB⟩ := z_; (try clear hb); (try clear hb2); (try clear hk); (try clear hi); (try clear ho0); obtain ⟨Ao62, co62, eo62⟩ := Kd.R_slice HO315.out; subst eo62; obtain ⟨Ao63, co63, eo63⟩ := Kd.R_slice HO318.out; subst eo63; obtain ⟨Ao64, co64, eo64⟩ := Kd.R_slice HO323.out; subst eo64) | ((with_reducible refine gate_callee (f := 12) rfl ?_); refine goesL_ (some 63) rfl rfl Tryd.func12 (by kernel_rfl) rfl #[.agg #[.slice Ao62 t313.length co62, .slice Ao63 t316.length co63, .int .i64 t319, .int .i64 t320], .slice Ao64 t321.length co64] rfl ml_ ?_; (with_reducible refine (steps_Lines.calls kj2 _ _ t313 _ _ t316 t319 t320 _ _ t321 t324 t327 _ ?side1 ?side2 ?side3 ?side4 ?side5 ?side6 A29.out).mono ?_); (case side1 => exact mc_ (Kd.R_reads' HO315.out).2.2); (case side2 => exact (Kd.R_reads' HO315.out).2.1); (case side3 => exact mc_ (Kd.R_reads' HO318.out).2.2); (case side4 => exact (Kd.R_reads' HO318.out).2.1); (case side5 => exact mc_ (Kd.R_reads' HO323.out).2.2); (case side6 => exact (Kd.R_reads' HO323.out).2.1); rintro e w65 ⟨v325, rfl, ho0, hb⟩; refine ⟨_, rfl, ?_⟩; have z_ := aI (am_ (Kd.R_below (mr_ HO285.out) hb)) (aI (am_ (Kd.R_below (mr_ HO288.out) hb)) (aI (am_ (Kd.R_below (mr_ HO293.out) hb)) (aI (am_ (Kd.R_below (mr_ HO300.out) hb)) (aI (am_ (Kd.R_below (mr_ HO303.out) hb)) (aI (am_ (Kd.R_below (mr_ HO308.out) hb)) (aI (am_ (Kd.R_below (mr_ HO315.out) hb)) (aI (am_ (Kd.R_below (mr_ HO318.out) hb)) (aI (am_ (Kd.R_below (mr_ HO323.out) hb)) (aI (am_ (Kd.R_lower ho0 (below_size (mb_ HB.out)))) (aI (am_ (blk_below (mk_ BK279.out) hb)) (am_ (below_step (mb_ HB.out) hb)))))))))))); clear HO285 HO288 HO293 HO300 HO303 HO308 HO315 HO318 HO323 BK279 HB; obtain ⟨HO285, HO288, HO293, HO300, HO303, HO308, HO315, HO318, HO323, HO326, BK279, HB⟩ := z_; (try clear hb); (try clear hb2); (try clear hk); (try clear hi); (try clear ho0); have hcz66_0 : w65.cell? ⟨gb279, 0, none⟩ = some (.slice A0_0 l0_0.length c0_0) := (blk_cell BK279.out 0).trans rfl; have hcz66_1 : w65.cell? ⟨gb279, 1, none⟩ = some (.slice A0_1 l0_1.length c0_1) := (blk_cell BK279.out 1).trans rfl; have hcz66_2 : w65.cell? ⟨gb279, 2, none⟩ = some (.int .i64 a0_2) := (blk_cell BK279.out 2).trans rfl; have hcz66_3 : w65.cell? ⟨gb279, 3, none⟩ = some (.int .i64 a0_3) := (blk_cell BK279.out 3).trans rfl; have hfz66_0 := blk_frozen BK279.out 0; have hfz66_1 := blk_frozen BK279.out 1; have hfz66_2 := blk_frozen BK279.out 2; have hfz66_3 := blk_frozen BK279.out 3) | ((with_reducible refine gate_callee (f := 13) rfl ?_); refine goesL_ (some 69) rfl rfl Tryd.func13 (by kernel_rfl) rfl #[.agg #[.slice A0_0 l0_0.length c0_0, .slice A0_1 l0_1.length c0_1, .int .i64 a0_2, .int .i64 a0_3], .slice A1 l1.length c1] rfl ml_ ?_; (with_reducible refine (culetref49_Lines.calls kj2 _ _ l0_0 _ _ l0_1 a0_2 a0_3 _ _ l1 t328 t331 _ ?side1 ?side2 ?side3 ?side4 ?side5 ?side6 A30.out).mono ?_); (case side1 => exact mc_ (Kd.C_below HR0_0.out HB.out)); (case side2 => exact HC0_0.out); (case side3 => exact mc_ (Kd.C_below HR0_1.out HB.out)); (case side4 => exact HC0_1.out); (case side5 => exact mc_ (Kd.C_below HR1.out HB.out)); (case side6 => exact HC1.out); rintro e w67 ⟨v329, rfl, ho0, hb⟩; refine ⟨_, rfl, ?_⟩; have z_ := aI (am_ (Kd.R_below (mr_ HO285.out) hb)) (aI (am_ (Kd.R_below (mr_ HO288.out) hb)) (aI (am_ (Kd.R_below (mr_ HO293.out) hb)) (aI (am_ (Kd.R_below (mr_ HO300.out) hb)) (aI (am_ (Kd.R_below (mr_ HO303.out) hb)) (aI (am_ (Kd.R_below (mr_ HO308.out) hb)) (aI (am_ (Kd.R_below (mr_ HO315.out) hb)) (aI (am_ (Kd.R_below (mr_ HO318.out) hb)) (aI (am_ (Kd.R_below (mr_ HO323.out) hb)) (aI (am_ (Kd.R_elder' (mr_ HO326.out) (Kd.R_base ho0) hb)) (aI (am_ (Kd.R_lower (Kd.R_new' ho0 (Kd.R_lt (mr_ HO326.out))) (below_size (mb_ HB.out)))) (aI (am_ (blk_below (mk_ BK279.out) hb)) (am_ (below_step (mb_ HB.out) hb))))))))))))); clear HO285 HO288 HO293 HO300 HO303 HO308 HO315 HO318 HO323 HO326 BK279 HB; obtain ⟨HO285, HO288, HO293, HO300, HO303, HO308, HO315, HO318, HO323, HO326, HO330, BK279, HB⟩ := z_; (try clear hb); (try clear hb2); (try clear hk); (try clear hi); (try clear ho0); obtain ⟨Ao68, co68, eo68⟩ := Kd.R_slice HO326.out; subst eo68; obtain ⟨Ao69, co69, eo69⟩ := Kd.R_slice HO330.out; subst eo69))
    by_cases c31 : t294 = t296
    ·
     rw [if_pos c31] at H
     have c31b0 : (t294 == t296) = true := beq_iff_eq.mpr c31
     have c31b1 : (t294 != t296) = false := bne_eq_false_iff_eq.mpr c31
     clear c31
     by_cases c32 : t295 = t297
     ·
      rw [if_pos c32] at H
      have c32b0 : (t295 == t297) = true := beq_iff_eq.mpr c32
      have c32b1 : (t295 != t297) = false := bne_eq_false_iff_eq.mpr c32
      clear c32
      by_cases c33 : t309 = t311
      ·
       rw [if_pos c33] at H
       have c33b0 : (t309 == t311) = true := beq_iff_eq.mpr c33
       have c33b1 : (t309 != t311) = false := bne_eq_false_iff_eq.mpr c33
       clear c33
       by_cases c34 : t310 = t312
       ·
        rw [if_pos c34] at H
        have c34b0 : (t310 == t312) = true := beq_iff_eq.mpr c34
        have c34b1 : (t310 != t312) = false := bne_eq_false_iff_eq.mpr c34
        clear c34
        replace H := Option.bind_eq_some_iff.mp H
        obtain ⟨t332, A350, H⟩ := H
        replace H : (if t332 = true then (if t327 = t331 then ((culetlaw49_own.f kj2 l1).bind fun t333 => ((steps_Changes.f kj2 t333).bind fun t336 => ((culetref49_Changes.f kj2 l1).bind fun t337 => (some (t336 == t337))))) else (some false)) else (some false)) = some r := H
        have A35 := am_ A350
        clear A350
        by_cases c36 : t332 = true
        ·
         subst c36
         have H1 : (if t327 = t331 then ((culetlaw49_own.f kj2 l1).bind fun t333 => ((steps_Changes.f kj2 t333).bind fun t336 => ((culetref49_Changes.f kj2 l1).bind fun t337 => (some (t336 == t337))))) else (some false)) = some r := by rw [if_pos rfl] at H; exact H
         clear H
         have H := H1
         clear H1
         by_cases c37 : t327 = t331
         ·
          rw [if_pos c37] at H
          have c37b0 : (t327 == t331) = true := beq_iff_eq.mpr c37
          have c37b1 : (t327 != t331) = false := bne_eq_false_iff_eq.mpr c37
          clear c37
          replace H := Option.bind_eq_some_iff.mp H
          obtain ⟨t333, A380, H⟩ := H
          replace H : ((steps_Changes.f kj2 t333).bind fun t336 => ((culetref49_Changes.f kj2 l1).bind fun t337 => (some (t336 == t337)))) = some r := H
          have A38 := am_ A380
          clear A380
          replace H := Option.bind_eq_some_iff.mp H
          obtain ⟨t336, A390, H⟩ := H
          replace H : ((culetref49_Changes.f kj2 l1).bind fun t337 => (some (t336 == t337))) = some r := H
          have A39 := am_ A390
          clear A390
          replace H := Option.bind_eq_some_iff.mp H
          obtain ⟨t337, A400, H⟩ := H
          replace H : (some (t336 == t337)) = some r := H
          have A40 := am_ A400
          clear A400
          obtain rfl := Option.some.inj H
          go_wp2_with (first | (go_at_call 14; (with_reducible refine (culetref48_SameTexts.calls kj2 _ _ t324 _ _ t328 true _ ?side1 ?side2 ?side3 ?side4 A35.out).mono ?_); (case side1 => exact mc_ (Kd.R_reads' HO326.out).2.2); (case side2 => exact (Kd.R_reads' HO326.out).2.1); (case side3 => exact mc_ (Kd.R_reads' HO330.out).2.2); (case side4 => exact (Kd.R_reads' HO330.out).2.1); rintro e w' ⟨rfl, ⟨nd, rfl⟩⟩) | (go_at_call 8; (with_reducible refine (culetlaw49_own.calls kj2 _ _ l1 t333 _ ?side1 ?side2 A38.out).mono ?_); (case side1 => repeat (first | exact (Kd.C_below HR1.out (mb_ HB.out)) | (with_reducible refine Kd.C_alloc ?_ _) | (with_reducible refine Kd.C_drewN ?_ _) | (with_reducible refine Kd.C_drew ?_))); (case side2 => exact HC1.out); rintro e w70 ⟨v334, rfl, ho0, hb⟩; have z_ := aI (am_ (Kd.R_below (mr_ HO285.out) hb)) (aI (am_ (Kd.R_below (mr_ HO288.out) hb)) (aI (am_ (Kd.R_elder' (mr_ HO293.out) (Kd.R_base ho0) hb)) (aI (am_ (Kd.R_below (mr_ HO300.out) hb)) (aI (am_ (Kd.R_below (mr_ HO303.out) hb)) (aI (am_ (Kd.R_elder' (mr_ HO308.out) (Kd.R_base ho0) hb)) (aI (am_ (Kd.R_below (mr_ HO315.out) hb)) (aI (am_ (Kd.R_below (mr_ HO318.out) hb)) (aI (am_ (Kd.R_elder' (mr_ HO323.out) (Kd.R_base ho0) hb)) (aI (am_ (Kd.R_below (mr_ HO326.out) hb)) (aI (am_ (Kd.R_below (mr_ HO330.out) hb)) (aI (am_ (Kd.R_lower (Kd.R_new' (Kd.R_new' (Kd.R_new' ho0 (Kd.R_lt (mr_ HO293.out))) (Kd.R_lt (mr_ HO308.out))) (Kd.R_lt (mr_ HO323.out))) (below_size (mb_ HB.out)))) (aI (am_ (blk_below (mk_ BK279.out) hb)) (am_ (below_step (mb_ HB.out) hb)))))))))))))); clear HO285 HO288 HO293 HO300 HO303 HO308 HO315 HO318 HO323 HO326 HO330 BK279 HB; obtain ⟨HO285, HO288, HO293, HO300, HO303, HO308, HO315, HO318, HO323, HO326, HO330, HO335, BK279, HB⟩ := z_; (try clear hb); (try clear hb2); (try clear hk); (try clear hi); (try clear ho0); obtain ⟨Ao71, co71, eo71⟩ := Kd.R_slice HO335.out; subst eo71) | (go_at_call 15; (with_reducible refine (steps_Changes.calls kj2 _ _ t333 t336 _ ?side1 ?side2 A39.out).mono ?_); (case side1 => exact mc_ (Kd.R_reads' HO335.out).2.2); (case side2 => exact (Kd.R_reads' HO335.out).2.1); rintro e w72 ⟨rfl, hb⟩; have z_ := aI (am_ (Kd.R_below (mr_ HO285.out) hb)) (aI (am_ (Kd.R_below (mr_ HO288.out) hb)) (aI (am_ (Kd.R_below (mr_ HO293.out) hb)) (aI (am_ (Kd.R_below (mr_ HO300.out) hb)) (aI (am_ (Kd.R_below (mr_ HO303.out) hb)) (aI (am_ (Kd.R_below (mr_ HO308.out) hb)) (aI (am_ (Kd.R_below (mr_ HO315.out) hb)) (aI (am_ (Kd.R_below (mr_ HO318.out) hb)) (aI (am_ (Kd.R_below (mr_ HO323.out) hb)) (aI (am_ (Kd.R_below (mr_ HO326.out) hb)) (aI (am_ (Kd.R_below (mr_ HO330.out) hb)) (aI (am_ (Kd.R_below (mr_ HO335.out) hb)) (aI (am_ (blk_below (mk_ BK279.out) hb)) (am_ (below_step (mb_ HB.out) hb)))))))))))))); clear HO285 HO288 HO293 HO300 HO303 HO308 HO315 HO318 HO323 HO326 HO330 HO335 BK279 HB; obtain ⟨HO285, HO288, HO293, HO300, HO303, HO308, HO315, HO318, HO323, HO326, HO330, HO335, BK279, HB⟩ := z_; (try clear hb); (try clear hb2); (try clear hk); (try clear hi)) | (go_at_call 16; (with_reducible refine (culetref49_Changes.calls kj2 _ _ l1 t337 _ ?side1 ?side2 A40.out).mono ?_); (case side1 => exact mc_ (Kd.C_below HR1.out HB.out)); (case side2 => exact HC1.out); rintro e w' ⟨rfl, ⟨nd, rfl⟩⟩))
          go_ret
          exact ⟨by first | rfl | (simp [errW_none, errW_some] <;> rfl) | (simp [*, errW_none, errW_some] <;> rfl), mb_ HB.out⟩
         ·
          rw [if_neg c37] at H
          have c37b0 : (t327 == t331) = false := beq_eq_false_iff_ne.mpr c37
          have c37b1 : (t327 != t331) = true := bne_iff_ne.mpr c37
          obtain rfl := Option.some.inj H
          go_wp2_with (first | (go_at_call 14; (with_reducible refine (culetref48_SameTexts.calls kj2 _ _ t324 _ _ t328 true _ ?side1 ?side2 ?side3 ?side4 A35.out).mono ?_); (case side1 => exact mc_ (Kd.R_reads' HO326.out).2.2); (case side2 => exact (Kd.R_reads' HO326.out).2.1); (case side3 => exact mc_ (Kd.R_reads' HO330.out).2.2); (case side4 => exact (Kd.R_reads' HO330.out).2.1); rintro e w' ⟨rfl, ⟨nd, rfl⟩⟩))
          go_ret
          exact ⟨by first | rfl | (simp [errW_none, errW_some] <;> rfl) | (simp [*, errW_none, errW_some] <;> rfl), mb_ HB.out⟩
        ·
         replace c36 := Bool.eq_false_iff.mpr c36
         subst c36
         have H1 : (some false) = some r := by rw [if_neg (show ¬ (false = true) by decide)] at H; exact H
         clear H
         have H := H1
         clear H1
         obtain rfl := Option.some.inj H
         go_wp2_with (first | (go_at_call 14; (with_reducible refine (culetref48_SameTexts.calls kj2 _ _ t324 _ _ t328 false _ ?side1 ?side2 ?side3 ?side4 A35.out).mono ?_); (case side1 => exact mc_ (Kd.R_reads' HO326.out).2.2); (case side2 => exact (Kd.R_reads' HO326.out).2.1); (case side3 => exact mc_ (Kd.R_reads' HO330.out).2.2); (case side4 => exact (Kd.R_reads' HO330.out).2.1); rintro e w' ⟨rfl, ⟨nd, rfl⟩⟩))
         go_ret
         exact ⟨by first | rfl | (simp [errW_none, errW_some] <;> rfl) | (simp [*, errW_none, errW_some] <;> rfl), mb_ HB.out⟩
       ·
        rw [if_neg c34] at H
        have c34b0 : (t310 == t312) = false := beq_eq_false_iff_ne.mpr c34
        have c34b1 : (t310 != t312) = true := bne_iff_ne.mpr c34
        obtain rfl := Option.some.inj H
        go_wp2
        go_ret
        exact ⟨by first | rfl | (simp [errW_none, errW_some] <;> rfl) | (simp [*, errW_none, errW_some] <;> rfl), mb_ HB.out⟩
      ·
       rw [if_neg c33] at H
       have c33b0 : (t309 == t311) = false := beq_eq_false_iff_ne.mpr c33
       have c33b1 : (t309 != t311) = true := bne_iff_ne.mpr c33
       obtain rfl := Option.some.inj H
       go_wp2
       go_ret
       exact ⟨by first | rfl | (simp [errW_none, errW_some] <;> rfl) | (simp [*, errW_none, errW_some] <;> rfl), mb_ HB.out⟩
     ·
      rw [if_neg c32] at H
      have c32b0 : (t295 == t297) = false := beq_eq_false_iff_ne.mpr c32
      have c32b1 : (t295 != t297) = true := bne_iff_ne.mpr c32
      obtain rfl := Option.some.inj H
      go_wp2
      go_ret
      exact ⟨by first | rfl | (simp [errW_none, errW_some] <;> rfl) | (simp [*, errW_none, errW_some] <;> rfl), mb_ HB.out⟩
    ·
     rw [if_neg c31] at H
     have c31b0 : (t294 == t296) = false := beq_eq_false_iff_ne.mpr c31
     have c31b1 : (t294 != t296) = true := bne_iff_ne.mpr c31
     obtain rfl := Option.some.inj H
     go_wp2
     go_ret
     exact ⟨by first | rfl | (simp [errW_none, errW_some] <;> rfl) | (simp [*, errW_none, errW_some] <;> rfl), mb_ HB.out⟩

end Go.Proofs.YtalhpnfapagamaaDoor.S
