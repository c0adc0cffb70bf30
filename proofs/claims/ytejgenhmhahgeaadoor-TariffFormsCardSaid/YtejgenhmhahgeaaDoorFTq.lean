-- Written by this session's own programs; what the law does not lean on is left out. Lean checks it.
import Derived.Test.YtejgenhmhahgeaaDoorFS
import Derived.Test.YtejgenhmhahgeaaDoorFTx8
import Derived.Test.YtejgenhmhahgeaaDoorFTx11
import Derived.Test.YtejgenhmhahgeaaDoorFTx26
import Derived.Test.YtejgenhmhahgeaaDoorFTx28
import Derived.Test.YtejgenhmhahgeaaDoorFJ
import Derived.Test.YtejgenhmhahgeaaDoorFTx36
import Derived.Test.YtejgenhmhahgeaaDoorFTx45
import Derived.Test.YtejgenhmhahgeaaDoorFTx47
import Derived.Test.YtejgenhmhahgeaaDoorFTx49
import Derived.Test.YtejgenhmhahgeaaDoorFTx50
import Derived.Test.YtejgenhmhahgeaaDoorFDr
namespace Go.Proofs.YtejgenhmhahgeaaDoor.T
open Go.RowKit Go.Proofs.YtejgenhmhahgeaaDoorW.PrintWords Go.Proofs.YtejgenhmhahgeaaDoorW.PrintLast Go.Proofs.YtejgenhmhahgeaaDoorW.PrintMore Go.Proofs.YtejgenhmhahgeaaDoorD Go.Proofs.YtejgenhmhahgeaaDoorD
set_option linter.unusedVariables false
set_option linter.unusedSimpArgs false

def culetlaw44_TariffForms.j0 : Nat → Bool → ByteArray → List (S42) → ByteArray → List (S42) → Option (Bool)
 | 0, _, _, _, _, _ => none
 | k + 1, x20, x350000, x350001, x351000, x351001 => if x20 = true then ((culetlaw44_awake.f k).bind fun t354 => (some t354)) else ((culetlaw44_Own.f k x350000 x350001).bind fun bt355 => ((tariff_Print.f k bt355.1 bt355.2).bind fun bt359 => ((culetref44_Print.f k x350000 x350001).bind fun bt361 => ((culetlaw44_Own.f k x350000 x350001).bind fun bt363 => ((tariff_Valid.f k bt363.1 bt363.2).bind fun t367 => ((culetref44_Valid.f k x350000 x350001).bind fun t368 => (if (t367 == t368) = true then ((culetlaw44_Own.f k x350000 x350001).bind fun bt369 => ((culetlaw44_Own.f k x351000 x351001).bind fun bt373 => ((tariff_Equal.f k bt369.1 bt369.2 bt373.1 bt373.2).bind fun t377 => ((culetref44_Equal.f k x350000 x350001 x351000 x351001).bind fun t378 => (if (t377 == t378) = true then ((culetlaw44_Own.f k x350000 x350001).bind fun bt379 => ((culetlaw44_Own.f k x350000 x350001).bind fun bt383 => ((tariff_Equal.f k bt379.1 bt379.2 bt383.1 bt383.2).bind fun t387 => (if t387 = true then ((culetlaw44_Own.f k x350000 x350001).bind fun bt388 => ((tariff_Fair.f k bt388.1 bt388.2).bind fun t392 => ((culetref44_Fair.f k x350000 x350001).bind fun t393 => (if (t392 == t393) = true then (if bt359.1.toList = bt361.1.toList then (some (bt359.2 == bt361.2)) else (some false)) else (some false))))) else (some false))))) else (some false)))))) else (some false))))))))
def culetlaw44_TariffForms.f (k : Nat) (a0_0 : ByteArray) (l0_1 : List (S42)) (a1_0 : ByteArray) (l1_1 : List (S42)) : Option (Bool) := (culetlaw44_awake.f k).bind fun t351 => (if t351 = true then ((culetref44_Few.f a0_0 l0_1).bind fun t352 => (if t352 = true then ((culetref44_Few.f a1_0 l1_1).bind fun t353 => (culetlaw44_TariffForms.j0 k (!t353) a0_0 l0_1 a1_0 l1_1)) else (culetlaw44_TariffForms.j0 k true a0_0 l0_1 a1_0 l1_1))) else (culetlaw44_TariffForms.j0 k true a0_0 l0_1 a1_0 l1_1))
def culetlaw44_TariffForms.T5 : Bool × List (List Nat × List Nat) := (true, [([], []), ([0], [0]), ([1, 1], [1]), ([], []), ([3, 2], [3]), ([2, 4], [2, 4]), ([5, 4], [5]), ([6], [6]), ([7, 6, 6], [6, 7]), ([6], [6]), ([9, 8, 6], [6, 9]), ([8, 10, 10, 6], [6, 8, 10]), ([6], [6]), ([6], [6]), ([12, 13, 11, 6], [6, 12, 13]), ([11, 14, 6], [6, 11, 14]), ([6, 15], [6, 15]), ([16, 14], [16]), ([17], [17]), ([18, 17, 17], [17, 18]), ([17], [17]), ([20, 19, 17], [17, 20]), ([19, 21, 21, 17], [17, 19, 21]), ([17, 22], [17, 22]), ([23, 22], [23]), ([24], [24]), ([25, 24, 24], [24, 25]), ([26, 26, 24], [24, 26]), ([24], [24]), ([28, 27, 24], [24, 28]), ([27, 29, 24], [24, 27, 29]), ([24, 30], [24, 30]), ([31, 29], [31]), ([32], [32]), ([32], [32]), ([33, 34, 32], [32, 33, 34]), ([32, 35], [32, 35]), ([36, 32], [36]), ([37], [37]), ([37], [37]), ([38, 39, 37], [37, 38, 39]), ([37, 40], [37, 40]), ([41, 37, 0, 1, 2, 3, 4, 5, 6, 7, 8, 9, 10, 11, 12, 13, 14, 15, 16, 17, 18, 19, 20, 21, 22, 23, 24, 25, 26, 27, 28, 29, 30, 31, 32, 33, 34, 35, 36, 37, 38, 39, 40, 41], [41])])
def culetlaw44_TariffForms.B5 : List Nat := [0, 1, 3, 0, 15, 31, 63, 127, 255, 127, 1023, 2047, 127, 127, 16383, 32767, 65535, 131071, 262143, 524287, 262143, 2097151, 4194303, 8388607, 16777215, 33554431, 67108863, 134217727, 33554431, 536870911, 1073741823, 2147483647, 4294967295, 8589934591, 8589934591, 34359738367, 68719476735, 137438953471, 274877906943, 274877906943, 1099511627775, 2199023255551, 4398046511103]
theorem culetlaw44_TariffForms.tab5 : rtab .any (opsOf Tryd.f6 5) = culetlaw44_TariffForms.T5 := by kernel_rfl
theorem culetlaw44_TariffForms.bits5 : waitsOk culetlaw44_TariffForms.T5.2 culetlaw44_TariffForms.B5 = true := by kernel_rfl
set_option maxHeartbeats 8000000 in
set_option maxRecDepth 100000 in
theorem culetlaw44_TariffForms.calls (k : Nat) (a0_0 : ByteArray) (A0_1 : Option Addr) (c0_1 : Nat) (l0_1 : List (S42)) (a1_0 : ByteArray) (A1_1 : Option Addr) (c1_1 : Nat) (l1_1 : List (S42)) (r : Bool) (w : World) (hTW : TW w) (hr0_1 : Kd.C k42 w A0_1 l0_1.length l0_1) (hc0_1 : l0_1.length ≤ c0_1) (hr1_1 : Kd.C k42 w A1_1 l1_1.length l1_1) (hc1_1 : l1_1.length ≤ c1_1) (h : culetlaw44_TariffForms.f k a0_0 l0_1 a1_0 l1_1 = some r) :
  Calls Tryd.prog 6 #[.agg #[.string a0_0, .slice A0_1 l0_1.length c0_1], .agg #[.string a1_0, .slice A1_1 l1_1.length c1_1]] w fun e w' => e = .returned (.bool r) ∧ Below w.heap.size w w' := by
 have hu24 := Tryd.underlying24
 have HR0_1 := am_ hr0_1
 have HC0_1 := am_ hc0_1
 clear hr0_1 hc0_1
 have HR1_1 := am_ hr1_1
 have HC1_1 := am_ hc1_1
 clear hr1_1 hc1_1
 have HB := am_ (Below.refl w.heap.size w)
 have HTW := am_ hTW
 clear hTW
 have H : ((culetlaw44_awake.f k).bind fun t351 => (if t351 = true then ((culetref44_Few.f a0_0 l0_1).bind fun t352 => (if t352 = true then ((culetref44_Few.f a1_0 l1_1).bind fun t353 => (culetlaw44_TariffForms.j0 k (!t353) a0_0 l0_1 a1_0 l1_1)) else (culetlaw44_TariffForms.j0 k true a0_0 l0_1 a1_0 l1_1))) else (culetlaw44_TariffForms.j0 k true a0_0 l0_1 a1_0 l1_1))) = some r := h
 clear h
 have HC3 := am_ H
 clear H
 go_enter Tryd.func6, Tryd.ntmps6
 go_upto_region 1 with (first | ((with_reducible refine gate_dst (N := 2) rfl ?_); refine bev (N := 2) (cs := #[.string a0_0, .slice A0_1 l0_1.length c0_1]) (t := 24) ?_; intro gb349 hg w4 hbox hb; have n0_ := am_ (below_step (mb_ HB.out) hb); have n1_ := am_ (hbox); have n2_ := am_ ((bz_ hg (mb_ HB.out) : w.heap.size ≤ gb349)); have n3_ := am_ ((bz_ hg (mb_ HB.out) : w.heap.size ≤ gb349)); clear HB; have HB := n0_; have BK349 := n1_; have GW349 := n2_; have GE349 := n3_; clear n0_ n1_ n2_ n3_; clear hb hbox hg) | ((with_reducible refine gate_dst (N := 3) rfl ?_); refine bev (N := 3) (cs := #[.string a1_0, .slice A1_1 l1_1.length c1_1]) (t := 24) ?_; intro gb350 hg w5 hbox hb; have n0_ := am_ (blk_below (mk_ BK349.out) hb); have n1_ := am_ (below_step (mb_ HB.out) hb); have n2_ := am_ (hbox); have n3_ := am_ ((bz_ hg (mb_ HB.out) : w.heap.size ≤ gb350)); have n4_ := am_ ((bz_ hg (mb_ HB.out) : w.heap.size ≤ gb350)); have n5_ := am_ ((nl_ hg (mk_ BK349.out) : gb349 ≠ gb350)); have n6_ := am_ ((ng_ hg (mk_ BK349.out) : gb350 ≠ gb349)); clear BK349 HB; have BK349 := n0_; have HB := n1_; have BK350 := n2_; have GW350 := n3_; have GE350 := n4_; have NB349_350 := n5_; have NB350_349 := n6_; clear n0_ n1_ n2_ n3_ n4_ n5_ n6_; clear hb hbox hg))
 (try simp only [Act.put, List.setIfInBounds_toArray, List.set_cons_zero, List.set_cons_succ])
 go_cut [20] (fun v20 wc => ∃ (kq : Nat) (x20_2 : Bool), v20 = .bool x20_2 ∧ Aside0 (culetlaw44_TariffForms.j0 kq x20_2 a0_0 l0_1 a1_0 l1_1 = some r) ∧ Aside0 (kq ≤ k) ∧ Aside0 (wc.heap[gb349]? = some (.cells #[.string a0_0, (.slice A0_1 l0_1.length c0_1)] 24 (0, 0))) ∧ Aside0 (wc.heap[gb350]? = some (.cells #[.string a1_0, (.slice A1_1 l1_1.length c1_1)] 24 (0, 0))) ∧ Aside0 (Below w.heap.size w wc))
 case first =>
  have H := HC3.out
  clear HC3
  replace H := Option.bind_eq_some_iff.mp H
  obtain ⟨t351, A60, H⟩ := H
  replace H : (if t351 = true then ((culetref44_Few.f a0_0 l0_1).bind fun t352 => (if t352 = true then ((culetref44_Few.f a1_0 l1_1).bind fun t353 => (culetlaw44_TariffForms.j0 k (!t353) a0_0 l0_1 a1_0 l1_1)) else (culetlaw44_TariffForms.j0 k true a0_0 l0_1 a1_0 l1_1))) else (culetlaw44_TariffForms.j0 k true a0_0 l0_1 a1_0 l1_1)) = some r := H
  have A6 := am_ A60
  clear A60
  by_cases c7 : t351 = true
  ·
   subst c7
   have H1 : ((culetref44_Few.f a0_0 l0_1).bind fun t352 => (if t352 = true then ((culetref44_Few.f a1_0 l1_1).bind fun t353 => (culetlaw44_TariffForms.j0 k (!t353) a0_0 l0_1 a1_0 l1_1)) else (culetlaw44_TariffForms.j0 k true a0_0 l0_1 a1_0 l1_1))) = some r := by rw [if_pos rfl] at H; exact H
   clear H
   have H := H1
   clear H1
   replace H := Option.bind_eq_some_iff.mp H
   obtain ⟨t352, A80, H⟩ := H
   replace H : (if t352 = true then ((culetref44_Few.f a1_0 l1_1).bind fun t353 => (culetlaw44_TariffForms.j0 k (!t353) a0_0 l0_1 a1_0 l1_1)) else (culetlaw44_TariffForms.j0 k true a0_0 l0_1 a1_0 l1_1)) = some r := H
   have A8 := am_ A80
   clear A80
   by_cases c9 : t352 = true
   ·
    subst c9
    have H1 : ((culetref44_Few.f a1_0 l1_1).bind fun t353 => (culetlaw44_TariffForms.j0 k (!t353) a0_0 l0_1 a1_0 l1_1)) = some r := by rw [if_pos rfl] at H; exact H
    clear H
    have H := H1
    clear H1
    replace H := Option.bind_eq_some_iff.mp H
    obtain ⟨t353, A100, H⟩ := H
    replace H : (culetlaw44_TariffForms.j0 k (!t353) a0_0 l0_1 a1_0 l1_1) = some r := H
    have A10 := am_ A100
    clear A100
    have H' := am_ H
    clear H
    go_wp2_with (first | ((with_reducible refine gate_callee (f := 9) rfl ?_); refine goesL_ (some 9) rfl rfl Tryd.func9 (by kernel_rfl) rfl #[] rfl (by (try simp only [List.map_toArray, List.map_cons, List.map_nil]); first | done | rfl | (simp only [List.length_drop, List.length_take]; rfl)) ?_; (with_reducible refine (culetlaw44_awake.calls k  true _ (HTW.out.at (mb_ HB.out)) A6.out).mono ?_); rintro e w11 ⟨rfl, hb⟩; refine ⟨_, rfl, ?_⟩; have z_ := aI (am_ (blk_below (mk_ BK349.out) hb)) (aI (am_ (blk_below (mk_ BK350.out) hb)) (am_ (below_step (mb_ HB.out) hb))); clear BK349 BK350 HB; obtain ⟨BK349, BK350, HB⟩ := z_; (try clear hb); (try clear hb2); (try clear hk); (try clear hi); have hnb12 := NB349_350.out; have hnc12 := NB350_349.out; have hcz13_0 : w11.cell? ⟨gb349, 0, none⟩ = some (.string a0_0) := (blk_cell BK349.out 0).trans rfl; have hcz13_1 : w11.cell? ⟨gb349, 1, none⟩ = some (.slice A0_1 l0_1.length c0_1) := (blk_cell BK349.out 1).trans rfl; have hfz13_0 := blk_frozen BK349.out 0; have hfz13_1 := blk_frozen BK349.out 1) | (go_at_call 10; (with_reducible refine (culetref44_Few.calls a0_0 _ _ l0_1 true _ ?side1 ?side2 A8.out).mono ?_); (case side1 => exact mc_ (Kd.C_below HR0_1.out HB.out)); (case side2 => exact HC0_1.out); rintro e w14 ⟨rfl, hb⟩; have z_ := aI (am_ (blk_below (mk_ BK349.out) hb)) (aI (am_ (blk_below (mk_ BK350.out) hb)) (am_ (below_step (mb_ HB.out) hb))); clear BK349 BK350 HB; obtain ⟨BK349, BK350, HB⟩ := z_; (try clear hb); (try clear hb2); (try clear hk); (try clear hi); have hcz15_0 : w14.cell? ⟨gb350, 0, none⟩ = some (.string a1_0) := (blk_cell BK350.out 0).trans rfl; have hcz15_1 : w14.cell? ⟨gb350, 1, none⟩ = some (.slice A1_1 l1_1.length c1_1) := (blk_cell BK350.out 1).trans rfl; have hfz15_0 := blk_frozen BK350.out 0; have hfz15_1 := blk_frozen BK350.out 1) | (go_at_call 10; (with_reducible refine (culetref44_Few.calls a1_0 _ _ l1_1 t353 _ ?side1 ?side2 A10.out).mono ?_); (case side1 => exact mc_ (Kd.C_below HR1_1.out HB.out)); (case side2 => exact HC1_1.out); rintro e w16 ⟨rfl, hb⟩; have z_ := aI (am_ (blk_below (mk_ BK349.out) hb)) (aI (am_ (blk_below (mk_ BK350.out) hb)) (am_ (below_step (mb_ HB.out) hb))); clear BK349 BK350 HB; obtain ⟨BK349, BK350, HB⟩ := z_; (try clear hb); (try clear hb2); (try clear hk); (try clear hi)))
    go_meet
    case rel => exact ⟨_, (!t353), (by first | rfl | (simp; done) | (simp [*]; done)), H', ⟨by first | omega | exact Nat.le_refl _⟩, ⟨by (with_reducible repeat (first | refine blk_drewN ?_ _ | refine blk_drew ?_ | refine blk_alloc ?_ _)); exact BK349.out⟩, ⟨by (with_reducible repeat (first | refine blk_drewN ?_ _ | refine blk_drew ?_ | refine blk_alloc ?_ _)); exact BK350.out⟩, ⟨mb_ HB.out⟩⟩
   ·
    replace c9 := Bool.eq_false_iff.mpr c9
    subst c9
    have H1 : (culetlaw44_TariffForms.j0 k true a0_0 l0_1 a1_0 l1_1) = some r := by rw [if_neg (show ¬ (false = true) by decide)] at H; exact H
    clear H
    have H := H1
    clear H1
    have H' := am_ H
    clear H
    go_wp2_with (first | ((with_reducible refine gate_callee (f := 9) rfl ?_); refine goesL_ (some 9) rfl rfl Tryd.func9 (by kernel_rfl) rfl #[] rfl (by (try simp only [List.map_toArray, List.map_cons, List.map_nil]); first | done | rfl | (simp only [List.length_drop, List.length_take]; rfl)) ?_; (with_reducible refine (culetlaw44_awake.calls k  true _ (HTW.out.at (mb_ HB.out)) A6.out).mono ?_); rintro e w17 ⟨rfl, hb⟩; refine ⟨_, rfl, ?_⟩; have z_ := aI (am_ (blk_below (mk_ BK349.out) hb)) (aI (am_ (blk_below (mk_ BK350.out) hb)) (am_ (below_step (mb_ HB.out) hb))); clear BK349 BK350 HB; obtain ⟨BK349, BK350, HB⟩ := z_; (try clear hb); (try clear hb2); (try clear hk); (try clear hi); have hnb18 := NB349_350.out; have hnc18 := NB350_349.out; have hcz19_0 : w17.cell? ⟨gb349, 0, none⟩ = some (.string a0_0) := (blk_cell BK349.out 0).trans rfl; have hcz19_1 : w17.cell? ⟨gb349, 1, none⟩ = some (.slice A0_1 l0_1.length c0_1) := (blk_cell BK349.out 1).trans rfl; have hfz19_0 := blk_frozen BK349.out 0; have hfz19_1 := blk_frozen BK349.out 1) | (go_at_call 10; (with_reducible refine (culetref44_Few.calls a0_0 _ _ l0_1 false _ ?side1 ?side2 A8.out).mono ?_); (case side1 => exact mc_ (Kd.C_below HR0_1.out HB.out)); (case side2 => exact HC0_1.out); rintro e w20 ⟨rfl, hb⟩; have z_ := aI (am_ (blk_below (mk_ BK349.out) hb)) (aI (am_ (blk_below (mk_ BK350.out) hb)) (am_ (below_step (mb_ HB.out) hb))); clear BK349 BK350 HB; obtain ⟨BK349, BK350, HB⟩ := z_; (try clear hb); (try clear hb2); (try clear hk); (try clear hi)))
    go_meet
    case rel => exact ⟨_, (true), (by first | rfl | (simp; done) | (simp [*]; done)), H', ⟨by first | omega | exact Nat.le_refl _⟩, ⟨by (with_reducible repeat (first | refine blk_drewN ?_ _ | refine blk_drew ?_ | refine blk_alloc ?_ _)); exact BK349.out⟩, ⟨by (with_reducible repeat (first | refine blk_drewN ?_ _ | refine blk_drew ?_ | refine blk_alloc ?_ _)); exact BK350.out⟩, ⟨mb_ HB.out⟩⟩
  ·
   replace c7 := Bool.eq_false_iff.mpr c7
   subst c7
   have H1 : (culetlaw44_TariffForms.j0 k true a0_0 l0_1 a1_0 l1_1) = some r := by rw [if_neg (show ¬ (false = true) by decide)] at H; exact H
   clear H
   have H := H1
   clear H1
   have H' := am_ H
   clear H
   go_wp2_with (first | ((with_reducible refine gate_callee (f := 9) rfl ?_); refine goesL_ (some 9) rfl rfl Tryd.func9 (by kernel_rfl) rfl #[] rfl (by (try simp only [List.map_toArray, List.map_cons, List.map_nil]); first | done | rfl | (simp only [List.length_drop, List.length_take]; rfl)) ?_; (with_reducible refine (culetlaw44_awake.calls k  false _ (HTW.out.at (mb_ HB.out)) A6.out).mono ?_); rintro e w21 ⟨rfl, hb⟩; refine ⟨_, rfl, ?_⟩; have n0_ := am_ (blk_below (mk_ BK349.out) hb); have n1_ := am_ (blk_below (mk_ BK350.out) hb); have n2_ := am_ (below_step (mb_ HB.out) hb); clear BK349 BK350 HB; have BK349 := n0_; have BK350 := n1_; have HB := n2_; clear n0_ n1_ n2_; (try clear hb); (try clear hb2); (try clear hk); (try clear hi)))
   go_meet
   case rel => exact ⟨_, (true), (by first | rfl | (simp; done) | (simp [*]; done)), H', ⟨by first | omega | exact Nat.le_refl _⟩, ⟨by (with_reducible repeat (first | refine blk_drewN ?_ _ | refine blk_drew ?_ | refine blk_alloc ?_ _)); exact BK349.out⟩, ⟨by (with_reducible repeat (first | refine blk_drewN ?_ _ | refine blk_drew ?_ | refine blk_alloc ?_ _)); exact BK350.out⟩, ⟨mb_ HB.out⟩⟩
 case rest =>
  clear HC3
  try clear c1
  try clear p2
  try clear c6
  try clear c7
  try clear c9
  try clear c12
  try clear c18
  try clear hcz13_0
  try clear hcz13_1
  try clear hcz15_0
  try clear hcz15_1
  try clear hcz19_0
  try clear hcz19_1
  try clear hfz13_0
  try clear hfz13_1
  try clear hfz15_0
  try clear hfz15_1
  try clear hfz19_0
  try clear hfz19_1
  obtain ⟨kq, x20_2, rfl, HA, HJ2, BK349, BK350, HB⟩ := hcut
  cases kq with
  | zero => exact absurd HA.out (by simp [culetlaw44_TariffForms.j0])
  | succ kj2 =>
   have H := HA.out
   clear HA
   simp only [culetlaw44_TariffForms.j0] at H
   by_cases c22 : x20_2 = true
   ·
    subst c22
    have H1 : ((culetlaw44_awake.f kj2).bind fun t354 => (some t354)) = some r := by rw [if_pos rfl] at H; exact H
    clear H
    have H := H1
    clear H1
    replace H := Option.bind_eq_some_iff.mp H
    obtain ⟨t354, A230, H⟩ := H
    replace H : (some t354) = some r := H
    have A23 := am_ A230
    clear A230
    obtain rfl := Option.some.inj H
    go_wp2_with (first | ((with_reducible refine gate_callee (f := 9) rfl ?_); refine goesL_ (some 21) rfl rfl Tryd.func9 (by kernel_rfl) rfl #[] rfl (by (try simp only [List.map_toArray, List.map_cons, List.map_nil]); first | done | rfl | (simp only [List.length_drop, List.length_take]; rfl)) ?_; (with_reducible refine (culetlaw44_awake.calls kj2  t354 _ (HTW.out.at (mb_ HB.out)) A23.out).mono ?_); rintro e w24 ⟨rfl, hb⟩; refine ⟨_, rfl, ?_⟩; have n0_ := am_ (blk_below (mk_ BK349.out) hb); have n1_ := am_ (blk_below (mk_ BK350.out) hb); have n2_ := am_ (below_step (mb_ HB.out) hb); clear BK349 BK350 HB; have BK349 := n0_; have BK350 := n1_; have HB := n2_; clear n0_ n1_ n2_; (try clear hb); (try clear hb2); (try clear hk); (try clear hi)))
    go_ret
    exact ⟨by first | rfl | (simp [errW_none, errW_some] <;> rfl) | (simp [*, errW_none, errW_some] <;> rfl), mb_ HB.out⟩
   ·
    replace c22 := Bool.eq_false_iff.mpr c22
    subst c22
    have H1 : ((culetlaw44_Own.f kj2 a0_0 l0_1).bind fun bt355 => ((tariff_Print.f kj2 bt355.1 bt355.2).bind fun bt359 => ((culetref44_Print.f kj2 a0_0 l0_1).bind fun bt361 => ((culetlaw44_Own.f kj2 a0_0 l0_1).bind fun bt363 => ((tariff_Valid.f kj2 bt363.1 bt363.2).bind fun t367 => ((culetref44_Valid.f kj2 a0_0 l0_1).bind fun t368 => (if (t367 == t368) = true then ((culetlaw44_Own.f kj2 a0_0 l0_1).bind fun bt369 => ((culetlaw44_Own.f kj2 a1_0 l1_1).bind fun bt373 => ((tariff_Equal.f kj2 bt369.1 bt369.2 bt373.1 bt373.2).bind fun t377 => ((culetref44_Equal.f kj2 a0_0 l0_1 a1_0 l1_1).bind fun t378 => (if (t377 == t378) = true then ((culetlaw44_Own.f kj2 a0_0 l0_1).bind fun bt379 => ((culetlaw44_Own.f kj2 a0_0 l0_1).bind fun bt383 => ((tariff_Equal.f kj2 bt379.1 bt379.2 bt383.1 bt383.2).bind fun t387 => (if t387 = true then ((culetlaw44_Own.f kj2 a0_0 l0_1).bind fun bt388 => ((tariff_Fair.f kj2 bt388.1 bt388.2).bind fun t392 => ((culetref44_Fair.f kj2 a0_0 l0_1).bind fun t393 => (if (t392 == t393) = true then (if bt359.1.toList = bt361.1.toList then (some (bt359.2 == bt361.2)) else (some false)) else (some false))))) else (some false))))) else (some false)))))) else (some false)))))))) = some r := by rw [if_neg (show ¬ (false = true) by decide)] at H; exact H
    clear H
    have H := H1
    clear H1
    replace H := Option.bind_eq_some_iff.mp H
    obtain ⟨⟨t355, t356⟩, A250, H⟩ := H
    replace H : ((tariff_Print.f kj2 t355 t356).bind fun bt359 => ((culetref44_Print.f kj2 a0_0 l0_1).bind fun bt361 => ((culetlaw44_Own.f kj2 a0_0 l0_1).bind fun bt363 => ((tariff_Valid.f kj2 bt363.1 bt363.2).bind fun t367 => ((culetref44_Valid.f kj2 a0_0 l0_1).bind fun t368 => (if (t367 == t368) = true then ((culetlaw44_Own.f kj2 a0_0 l0_1).bind fun bt369 => ((culetlaw44_Own.f kj2 a1_0 l1_1).bind fun bt373 => ((tariff_Equal.f kj2 bt369.1 bt369.2 bt373.1 bt373.2).bind fun t377 => ((culetref44_Equal.f kj2 a0_0 l0_1 a1_0 l1_1).bind fun t378 => (if (t377 == t378) = true then ((culetlaw44_Own.f kj2 a0_0 l0_1).bind fun bt379 => ((culetlaw44_Own.f kj2 a0_0 l0_1).bind fun bt383 => ((tariff_Equal.f kj2 bt379.1 bt379.2 bt383.1 bt383.2).bind fun t387 => (if t387 = true then ((culetlaw44_Own.f kj2 a0_0 l0_1).bind fun bt388 => ((tariff_Fair.f kj2 bt388.1 bt388.2).bind fun t392 => ((culetref44_Fair.f kj2 a0_0 l0_1).bind fun t393 => (if (t392 == t393) = true then (if bt359.1.toList = bt361.1.toList then (some (bt359.2 == bt361.2)) else (some false)) else (some false))))) else (some false))))) else (some false)))))) else (some false))))))) = some r := H
    have A25 := am_ A250
    clear A250
    replace H := Option.bind_eq_some_iff.mp H
    obtain ⟨⟨t359, t360⟩, A260, H⟩ := H
    replace H : ((culetref44_Print.f kj2 a0_0 l0_1).bind fun bt361 => ((culetlaw44_Own.f kj2 a0_0 l0_1).bind fun bt363 => ((tariff_Valid.f kj2 bt363.1 bt363.2).bind fun t367 => ((culetref44_Valid.f kj2 a0_0 l0_1).bind fun t368 => (if (t367 == t368) = true then ((culetlaw44_Own.f kj2 a0_0 l0_1).bind fun bt369 => ((culetlaw44_Own.f kj2 a1_0 l1_1).bind fun bt373 => ((tariff_Equal.f kj2 bt369.1 bt369.2 bt373.1 bt373.2).bind fun t377 => ((culetref44_Equal.f kj2 a0_0 l0_1 a1_0 l1_1).bind fun t378 => (if (t377 == t378) = true then ((culetlaw44_Own.f kj2 a0_0 l0_1).bind fun bt379 => ((culetlaw44_Own.f kj2 a0_0 l0_1).bind fun bt383 => ((tariff_Equal.f kj2 bt379.1 bt379.2 bt383.1 bt383.2).bind fun t387 => (if t387 = true then ((culetlaw44_Own.f kj2 a0_0 l0_1).bind fun bt388 => ((tariff_Fair.f kj2 bt388.1 bt388.2).bind fun t392 => ((culetref44_Fair.f kj2 a0_0 l0_1).bind fun t393 => (if (t392 == t393) = true then (if t359.toList = bt361.1.toList then (some (t360 == bt361.2)) else (some false)) else (some false))))) else (some false))))) else (some false)))))) else (some false)))))) = some r := H
    have A26 := am_ A260
    clear A260
    replace H := Option.bind_eq_some_iff.mp H
    obtain ⟨⟨t361, t362⟩, A270, H⟩ := H
    replace H : ((culetlaw44_Own.f kj2 a0_0 l0_1).bind fun bt363 => ((tariff_Valid.f kj2 bt363.1 bt363.2).bind fun t367 => ((culetref44_Valid.f kj2 a0_0 l0_1).bind fun t368 => (if (t367 == t368) = true then ((culetlaw44_Own.f kj2 a0_0 l0_1).bind fun bt369 => ((culetlaw44_Own.f kj2 a1_0 l1_1).bind fun bt373 => ((tariff_Equal.f kj2 bt369.1 bt369.2 bt373.1 bt373.2).bind fun t377 => ((culetref44_Equal.f kj2 a0_0 l0_1 a1_0 l1_1).bind fun t378 => (if (t377 == t378) = true then ((culetlaw44_Own.f kj2 a0_0 l0_1).bind fun bt379 => ((culetlaw44_Own.f kj2 a0_0 l0_1).bind fun bt383 => ((tariff_Equal.f kj2 bt379.1 bt379.2 bt383.1 bt383.2).bind fun t387 => (if t387 = true then ((culetlaw44_Own.f kj2 a0_0 l0_1).bind fun bt388 => ((tariff_Fair.f kj2 bt388.1 bt388.2).bind fun t392 => ((culetref44_Fair.f kj2 a0_0 l0_1).bind fun t393 => (if (t392 == t393) = true then (if t359.toList = t361.toList then (some (t360 == t362)) else (some false)) else (some false))))) else (some false))))) else (some false)))))) else (some false))))) = some r := H
    have A27 := am_ A270
    clear A270
    replace H := Option.bind_eq_some_iff.mp H
    obtain ⟨⟨t363, t364⟩, A280, H⟩ := H
    replace H : ((tariff_Valid.f kj2 t363 t364).bind fun t367 => ((culetref44_Valid.f kj2 a0_0 l0_1).bind fun t368 => (if (t367 == t368) = true then ((culetlaw44_Own.f kj2 a0_0 l0_1).bind fun bt369 => ((culetlaw44_Own.f kj2 a1_0 l1_1).bind fun bt373 => ((tariff_Equal.f kj2 bt369.1 bt369.2 bt373.1 bt373.2).bind fun t377 => ((culetref44_Equal.f kj2 a0_0 l0_1 a1_0 l1_1).bind fun t378 => (if (t377 == t378) = true then ((culetlaw44_Own.f kj2 a0_0 l0_1).bind fun bt379 => ((culetlaw44_Own.f kj2 a0_0 l0_1).bind fun bt383 => ((tariff_Equal.f kj2 bt379.1 bt379.2 bt383.1 bt383.2).bind fun t387 => (if t387 = true then ((culetlaw44_Own.f kj2 a0_0 l0_1).bind fun bt388 => ((tariff_Fair.f kj2 bt388.1 bt388.2).bind fun t392 => ((culetref44_Fair.f kj2 a0_0 l0_1).bind fun t393 => (if (t392 == t393) = true then (if t359.toList = t361.toList then (some (t360 == t362)) else (some false)) else (some false))))) else (some false))))) else (some false)))))) else (some false)))) = some r := H
    have A28 := am_ A280
    clear A280
    replace H := Option.bind_eq_some_iff.mp H
    obtain ⟨t367, A290, H⟩ := H
    replace H : ((culetref44_Valid.f kj2 a0_0 l0_1).bind fun t368 => (if (t367 == t368) = true then ((culetlaw44_Own.f kj2 a0_0 l0_1).bind fun bt369 => ((culetlaw44_Own.f kj2 a1_0 l1_1).bind fun bt373 => ((tariff_Equal.f kj2 bt369.1 bt369.2 bt373.1 bt373.2).bind fun t377 => ((culetref44_Equal.f kj2 a0_0 l0_1 a1_0 l1_1).bind fun t378 => (if (t377 == t378) = true then ((culetlaw44_Own.f kj2 a0_0 l0_1).bind fun bt379 => ((culetlaw44_Own.f kj2 a0_0 l0_1).bind fun bt383 => ((tariff_Equal.f kj2 bt379.1 bt379.2 bt383.1 bt383.2).bind fun t387 => (if t387 = true then ((culetlaw44_Own.f kj2 a0_0 l0_1).bind fun bt388 => ((tariff_Fair.f kj2 bt388.1 bt388.2).bind fun t392 => ((culetref44_Fair.f kj2 a0_0 l0_1).bind fun t393 => (if (t392 == t393) = true then (if t359.toList = t361.toList then (some (t360 == t362)) else (some false)) else (some false))))) else (some false))))) else (some false)))))) else (some false))) = some r := H
    have A29 := am_ A290
    clear A290
    replace H := Option.bind_eq_some_iff.mp H
    obtain ⟨t368, A300, H⟩ := H
    replace H : (if (t367 == t368) = true then ((culetlaw44_Own.f kj2 a0_0 l0_1).bind fun bt369 => ((culetlaw44_Own.f kj2 a1_0 l1_1).bind fun bt373 => ((tariff_Equal.f kj2 bt369.1 bt369.2 bt373.1 bt373.2).bind fun t377 => ((culetref44_Equal.f kj2 a0_0 l0_1 a1_0 l1_1).bind fun t378 => (if (t377 == t378) = true then ((culetlaw44_Own.f kj2 a0_0 l0_1).bind fun bt379 => ((culetlaw44_Own.f kj2 a0_0 l0_1).bind fun bt383 => ((tariff_Equal.f kj2 bt379.1 bt379.2 bt383.1 bt383.2).bind fun t387 => (if t387 = true then ((culetlaw44_Own.f kj2 a0_0 l0_1).bind fun bt388 => ((tariff_Fair.f kj2 bt388.1 bt388.2).bind fun t392 => ((culetref44_Fair.f kj2 a0_0 l0_1).bind fun t393 => (if (t392 == t393) = true then (if t359.toList = t361.toList then (some (t360 == t362)) else (some false)) else (some false))))) else (some false))))) else (some false)))))) else (some false)) = some r := H
    have A30 := am_ A300
    clear A300
    by_cases c31 : (t367 == t368) = true
    ·
     rw [if_pos c31] at H
     have c31b0 : (t367 == t368) = true := c31
     (try (have c31b1 : decide (t367 = t368) = true := by simpa using c31))
     (try (have c31b2 : (t367 == t368) = true := by simpa using c31))
     clear c31
     replace H := Option.bind_eq_some_iff.mp H
     obtain ⟨⟨t369, t370⟩, A320, H⟩ := H
     replace H : ((culetlaw44_Own.f kj2 a1_0 l1_1).bind fun bt373 => ((tariff_Equal.f kj2 t369 t370 bt373.1 bt373.2).bind fun t377 => ((culetref44_Equal.f kj2 a0_0 l0_1 a1_0 l1_1).bind fun t378 => (if (t377 == t378) = true then ((culetlaw44_Own.f kj2 a0_0 l0_1).bind fun bt379 => ((culetlaw44_Own.f kj2 a0_0 l0_1).bind fun bt383 => ((tariff_Equal.f kj2 bt379.1 bt379.2 bt383.1 bt383.2).bind fun t387 => (if t387 = true then ((culetlaw44_Own.f kj2 a0_0 l0_1).bind fun bt388 => ((tariff_Fair.f kj2 bt388.1 bt388.2).bind fun t392 => ((culetref44_Fair.f kj2 a0_0 l0_1).bind fun t393 => (if (t392 == t393) = true then (if t359.toList = t361.toList then (some (t360 == t362)) else (some false)) else (some false))))) else (some false))))) else (some false))))) = some r := H
     have A32 := am_ A320
     clear A320
     replace H := Option.bind_eq_some_iff.mp H
     obtain ⟨⟨t373, t374⟩, A330, H⟩ := H
     replace H : ((tariff_Equal.f kj2 t369 t370 t373 t374).bind fun t377 => ((culetref44_Equal.f kj2 a0_0 l0_1 a1_0 l1_1).bind fun t378 => (if (t377 == t378) = true then ((culetlaw44_Own.f kj2 a0_0 l0_1).bind fun bt379 => ((culetlaw44_Own.f kj2 a0_0 l0_1).bind fun bt383 => ((tariff_Equal.f kj2 bt379.1 bt379.2 bt383.1 bt383.2).bind fun t387 => (if t387 = true then ((culetlaw44_Own.f kj2 a0_0 l0_1).bind fun bt388 => ((tariff_Fair.f kj2 bt388.1 bt388.2).bind fun t392 => ((culetref44_Fair.f kj2 a0_0 l0_1).bind fun t393 => (if (t392 == t393) = true then (if t359.toList = t361.toList then (some (t360 == t362)) else (some false)) else (some false))))) else (some false))))) else (some false)))) = some r := H
     have A33 := am_ A330
     clear A330
     replace H := Option.bind_eq_some_iff.mp H
     obtain ⟨t377, A340, H⟩ := H
     replace H : ((culetref44_Equal.f kj2 a0_0 l0_1 a1_0 l1_1).bind fun t378 => (if (t377 == t378) = true then ((culetlaw44_Own.f kj2 a0_0 l0_1).bind fun bt379 => ((culetlaw44_Own.f kj2 a0_0 l0_1).bind fun bt383 => ((tariff_Equal.f kj2 bt379.1 bt379.2 bt383.1 bt383.2).bind fun t387 => (if t387 = true then ((culetlaw44_Own.f kj2 a0_0 l0_1).bind fun bt388 => ((tariff_Fair.f kj2 bt388.1 bt388.2).bind fun t392 => ((culetref44_Fair.f kj2 a0_0 l0_1).bind fun t393 => (if (t392 == t393) = true then (if t359.toList = t361.toList then (some (t360 == t362)) else (some false)) else (some false))))) else (some false))))) else (some false))) = some r := H
     have A34 := am_ A340
     clear A340
     replace H := Option.bind_eq_some_iff.mp H
     obtain ⟨t378, A350, H⟩ := H
     replace H : (if (t377 == t378) = true then ((culetlaw44_Own.f kj2 a0_0 l0_1).bind fun bt379 => ((culetlaw44_Own.f kj2 a0_0 l0_1).bind fun bt383 => ((tariff_Equal.f kj2 bt379.1 bt379.2 bt383.1 bt383.2).bind fun t387 => (if t387 = true then ((culetlaw44_Own.f kj2 a0_0 l0_1).bind fun bt388 => ((tariff_Fair.f kj2 bt388.1 bt388.2).bind fun t392 => ((culetref44_Fair.f kj2 a0_0 l0_1).bind fun t393 => (if (t392 == t393) = true then (if t359.toList = t361.toList then (some (t360 == t362)) else (some false)) else (some false))))) else (some false))))) else (some false)) = some r := H
     have A35 := am_ A350
     clear A350
     by_cases c36 : (t377 == t378) = true
     ·
      rw [if_pos c36] at H
      have c36b0 : (t377 == t378) = true := c36
      (try (have c36b1 : decide (t377 = t378) = true := by simpa using c36))
      (try (have c36b2 : (t377 == t378) = true := by simpa using c36))
      clear c36
      replace H := Option.bind_eq_some_iff.mp H
      obtain ⟨⟨t379, t380⟩, A370, H⟩ := H
      replace H : ((culetlaw44_Own.f kj2 a0_0 l0_1).bind fun bt383 => ((tariff_Equal.f kj2 t379 t380 bt383.1 bt383.2).bind fun t387 => (if t387 = true then ((culetlaw44_Own.f kj2 a0_0 l0_1).bind fun bt388 => ((tariff_Fair.f kj2 bt388.1 bt388.2).bind fun t392 => ((culetref44_Fair.f kj2 a0_0 l0_1).bind fun t393 => (if (t392 == t393) = true then (if t359.toList = t361.toList then (some (t360 == t362)) else (some false)) else (some false))))) else (some false)))) = some r := H
      have A37 := am_ A370
      clear A370
      replace H := Option.bind_eq_some_iff.mp H
      obtain ⟨⟨t383, t384⟩, A380, H⟩ := H
      replace H : ((tariff_Equal.f kj2 t379 t380 t383 t384).bind fun t387 => (if t387 = true then ((culetlaw44_Own.f kj2 a0_0 l0_1).bind fun bt388 => ((tariff_Fair.f kj2 bt388.1 bt388.2).bind fun t392 => ((culetref44_Fair.f kj2 a0_0 l0_1).bind fun t393 => (if (t392 == t393) = true then (if t359.toList = t361.toList then (some (t360 == t362)) else (some false)) else (some false))))) else (some false))) = some r := H
      have A38 := am_ A380
      clear A380
      replace H := Option.bind_eq_some_iff.mp H
      obtain ⟨t387, A390, H⟩ := H
      replace H : (if t387 = true then ((culetlaw44_Own.f kj2 a0_0 l0_1).bind fun bt388 => ((tariff_Fair.f kj2 bt388.1 bt388.2).bind fun t392 => ((culetref44_Fair.f kj2 a0_0 l0_1).bind fun t393 => (if (t392 == t393) = true then (if t359.toList = t361.toList then (some (t360 == t362)) else (some false)) else (some false))))) else (some false)) = some r := H
      have A39 := am_ A390
      clear A390
      by_cases c40 : t387 = true
      ·
       subst c40
       have H1 : ((culetlaw44_Own.f kj2 a0_0 l0_1).bind fun bt388 => ((tariff_Fair.f kj2 bt388.1 bt388.2).bind fun t392 => ((culetref44_Fair.f kj2 a0_0 l0_1).bind fun t393 => (if (t392 == t393) = true then (if t359.toList = t361.toList then (some (t360 == t362)) else (some false)) else (some false))))) = some r := by rw [if_pos rfl] at H; exact H
       clear H
       have H := H1
       clear H1
       replace H := Option.bind_eq_some_iff.mp H
       obtain ⟨⟨t388, t389⟩, A410, H⟩ := H
       replace H : ((tariff_Fair.f kj2 t388 t389).bind fun t392 => ((culetref44_Fair.f kj2 a0_0 l0_1).bind fun t393 => (if (t392 == t393) = true then (if t359.toList = t361.toList then (some (t360 == t362)) else (some false)) else (some false)))) = some r := H
       have A41 := am_ A410
       clear A410
       replace H := Option.bind_eq_some_iff.mp H
       obtain ⟨t392, A420, H⟩ := H
       replace H : ((culetref44_Fair.f kj2 a0_0 l0_1).bind fun t393 => (if (t392 == t393) = true then (if t359.toList = t361.toList then (some (t360 == t362)) else (some false)) else (some false))) = some r := H
       have A42 := am_ A420
       clear A420
       replace H := Option.bind_eq_some_iff.mp H
       obtain ⟨t393, A430, H⟩ := H
       replace H : (if (t392 == t393) = true then (if t359.toList = t361.toList then (some (t360 == t362)) else (some false)) else (some false)) = some r := H
       have A43 := am_ A430
       clear A430
       by_cases c44 : (t392 == t393) = true
       ·
        rw [if_pos c44] at H
        have c44b0 : (t392 == t393) = true := c44
        (try (have c44b1 : decide (t392 = t393) = true := by simpa using c44))
        (try (have c44b2 : (t392 == t393) = true := by simpa using c44))
        clear c44
        by_cases c45 : t359.toList = t361.toList
        ·
         rw [if_pos c45] at H
         have c45b0 : (t359.toList == t361.toList) = true := beq_iff_eq.mpr c45
         have c45b1 : (t359.toList != t361.toList) = false := bne_eq_false_iff_eq.mpr c45
         clear c45
         obtain rfl := Option.some.inj H
         have hnb46 := NB349_350.out
         have hnc46 := NB350_349.out
         have hcz47_0 : wc.cell? ⟨gb349, 0, none⟩ = some (.string a0_0) := (blk_cell BK349.out 0).trans rfl
         have hcz47_1 : wc.cell? ⟨gb349, 1, none⟩ = some (.slice A0_1 l0_1.length c0_1) := (blk_cell BK349.out 1).trans rfl
         have hfz47_0 := blk_frozen BK349.out 0
         have hfz47_1 := blk_frozen BK349.out 1
         try go_wp2_with (first | ((with_reducible refine gate_callee (f := 16) rfl ?_); refine goesL_ (some 24) rfl rfl Tryd.func16 (by kernel_rfl) rfl #[.agg #[.string a0_0, .slice A0_1 l0_1.length c0_1]] rfl (by (try simp only [List.map_toArray, List.map_cons, List.map_nil]); first | done | rfl | (simp only [List.length_drop, List.length_take]; rfl)) ?_; (with_reducible refine (culetlaw44_Own.calls kj2 a0_0 _ _ l0_1 t355 t356 _ ?side1 ?side2 A25.out).mono ?_); (case side1 => exact mc_ (Kd.C_below HR0_1.out HB.out)); (case side2 => exact HC0_1.out); rintro e w48 ⟨v357, rfl, ho0, hb⟩; refine ⟨_, rfl, ?_⟩; have z_ := aI (am_ (Kd.R_lower ho0 (below_size (mb_ HB.out)))) (aI (am_ (blk_below (mk_ BK349.out) hb)) (aI (am_ (blk_below (mk_ BK350.out) hb)) (am_ (below_step (mb_ HB.out) hb)))); clear BK349 BK350 HB; obtain ⟨HO358, BK349, BK350, HB⟩ := z_; (try clear hb); (try clear hb2); (try clear hk); (try clear hi); (try clear ho0); obtain ⟨Ao49, co49, eo49⟩ := Kd.R_slice HO358.out; subst eo49) | ((with_reducible refine gate_callee (f := 15) rfl ?_); refine goesL_ (some 25) rfl rfl Tryd.func15 (by kernel_rfl) rfl #[.agg #[.string t355, .slice Ao49 t356.length co49]] rfl (by (try simp only [List.map_toArray, List.map_cons, List.map_nil]); first | done | rfl | (simp only [List.length_drop, List.length_take]; rfl)) ?_; (with_reducible refine (tariff_Print.calls kj2 t355 _ _ t356 t359 t360 _ (HTW.out.at (mb_ HB.out)) ?side1 ?side2 A26.out).mono ?_); (case side1 => exact mc_ (Kd.R_reads' HO358.out).2.2); (case side2 => exact (Kd.R_reads' HO358.out).2.1); rintro e w50 ⟨rfl, hb⟩; refine ⟨_, rfl, ?_⟩; have z_ := aI (am_ (Kd.R_below (mr_ HO358.out) hb)) (aI (am_ (blk_below (mk_ BK349.out) hb)) (aI (am_ (blk_below (mk_ BK350.out) hb)) (am_ (below_step (mb_ HB.out) hb)))); clear HO358 BK349 BK350 HB; obtain ⟨HO358, BK349, BK350, HB⟩ := z_; (try clear hb); (try clear hb2); (try clear hk); (try clear hi); have hcz51_0 : w50.cell? ⟨gb349, 0, none⟩ = some (.string a0_0) := (blk_cell BK349.out 0).trans rfl; have hcz51_1 : w50.cell? ⟨gb349, 1, none⟩ = some (.slice A0_1 l0_1.length c0_1) := (blk_cell BK349.out 1).trans rfl; have hfz51_0 := blk_frozen BK349.out 0; have hfz51_1 := blk_frozen BK349.out 1) | ((with_reducible refine gate_callee (f := 22) rfl ?_); refine goesL_ (some 30) rfl rfl Tryd.func22 (by kernel_rfl) rfl #[.agg #[.string a0_0, .slice A0_1 l0_1.length c0_1]] rfl (by (try simp only [List.map_toArray, List.map_cons, List.map_nil]); first | done | rfl | (simp only [List.length_drop, List.length_take]; rfl)) ?_; (with_reducible refine (culetref44_Print.calls kj2 a0_0 _ _ l0_1 t361 t362 _ ?side1 ?side2 A27.out).mono ?_); (case side1 => exact mc_ (Kd.C_below HR0_1.out HB.out)); (case side2 => exact HC0_1.out); rintro e w52 ⟨rfl, hb⟩; refine ⟨_, rfl, ?_⟩; have z_ := aI (am_ (Kd.R_below (mr_ HO358.out) hb)) (aI (am_ (blk_below (mk_ BK349.out) hb)) (aI (am_ (blk_below (mk_ BK350.out) hb)) (am_ (below_step (mb_ HB.out) hb)))); clear HO358 BK349 BK350 HB; obtain ⟨HO358, BK349, BK350, HB⟩ := z_; (try clear hb); (try clear hb2); (try clear hk); (try clear hi)))
         have z_ := aI (am_ (Kd.R_drew HO358.out)) (aI (am_ (blk_drew BK349.out)) (aI (am_ (blk_drew BK350.out)) (am_ (below_drew1 HB.out))))
         clear HO358 BK349 BK350 HB
         obtain ⟨HO358, BK349, BK350, HB⟩ := z_
         refine start_ (n := 43) (S := fun w' => w'.cell? ⟨gb349, 0, none⟩ = some (.string a0_0) ∧ w'.cell? ⟨gb349, 1, none⟩ = some (.slice A0_1 l0_1.length c0_1) ∧ w'.cell? ⟨gb350, 0, none⟩ = some (.string a1_0) ∧ w'.cell? ⟨gb350, 1, none⟩ = some (.slice A1_1 l1_1.length c1_1)) (ds := []) #[false, false, false, false, false, false, false, false, false, false, false, false, false, false, false, false, false, false, false, false, false, false, false, false, false, false, false, false, false, false, false, false, false, false, false, false, false, false, false, false, false, false, false] (by kernel_rfl) rfl rfl ⟨(blk_cell BK349.out 0).trans rfl, (blk_cell BK349.out 1).trans rfl, (blk_cell BK350.out 0).trans rfl, (blk_cell BK350.out 1).trans rfl⟩ (fun hHeld => ?_); refine with_tabW culetlaw44_TariffForms.tab5 culetlaw44_TariffForms.bits5 (fun HT_ HW_ => ?_)
         generalize w52.drew = w53 at HO358 BK349 BK350 HB hHeld ⊢
         refine take_ (i := 0) (N := some 33) (v := ?_) (a' := ?_) #[true, false, false, false, false, false, false, false, false, false, false, false, false, false, false, false, false, false, false, false, false, false, false, false, false, false, false, false, false, false, false, false, false, false, false, false, false, false, false, false, false, false, false] rfl rfl (take_ofW HT_.out HW_.out (by kernel_rfl)) (fun _ _ _ h => h) (Or.inl ⟨by rfl, ?_⟩) hHeld ?_ ?_
         rotate_left
         ·
          rintro w' ⟨s0, s1, s2, s3⟩
          go_simp
          with_reducible rfl
         rotate_left
         ·
          simp only [Act.put, List.setIfInBounds_toArray, List.set_cons_zero, List.set_cons_succ, i64_w, i32_w]
          rfl
         refine take_ (i := 3) (N := some 36) (v := ?_) (a' := ?_) #[true, false, false, true, false, false, false, false, false, false, false, false, false, false, false, false, false, false, false, false, false, false, false, false, false, false, false, false, false, false, false, false, false, false, false, false, false, false, false, false, false, false, false] rfl rfl (take_ofW HT_.out HW_.out (by kernel_rfl)) (fun _ _ _ h => h) (Or.inl ⟨by rfl, ?_⟩) hHeld ?_ ?_
         rotate_left
         ·
          rintro w' ⟨s0, s1, s2, s3⟩
          go_simp
          with_reducible rfl
         rotate_left
         ·
          simp only [Act.put, List.setIfInBounds_toArray, List.set_cons_zero, List.set_cons_succ, i64_w, i32_w]
          rfl
         refine one_ (i := 1) (N := some 34) #[true, true, false, true, false, false, false, false, false, false, false, false, false, false, false, false, false, false, false, false, false, false, false, false, false, false, false, false, false, false, false, false, false, false, false, false, false, false, false, false, false, false, false] rfl rfl (one_of HT_.out (by kernel_rfl)) (by decide) (fun K hK => ?_)
         refine goes_ Tryd.func16 (by kernel_rfl) rfl #[.agg #[.string a0_0, .slice A0_1 l0_1.length c0_1]] (by rfl) rfl rfl (by (try simp only [List.map_toArray, List.map_cons, List.map_nil]); first | done | rfl | (simp only [List.length_drop, List.length_take]; rfl)) ?_
         with_reducible refine (culetlaw44_Own.calls kj2 a0_0 _ _ l0_1 t363 t364 _ ?side1 ?side2 A28.out).mono ?_
         (case side1 => exact mc_ (Kd.C_below HR0_1.out HB.out))
         (case side2 => exact HC0_1.out)
         rintro e w54 ⟨v365, rfl, ho0, hb⟩
         refine ⟨_, rfl, ?_⟩
         have z_ := aI (am_ (Kd.R_elder' (mr_ HO358.out) (Kd.R_base ho0) hb)) (aI (am_ (Kd.R_lower (Kd.R_new' ho0 (Kd.R_lt (mr_ HO358.out))) (below_size (mb_ HB.out)))) (aI (am_ (blk_below (mk_ BK349.out) hb)) (aI (am_ (blk_below (mk_ BK350.out) hb)) (am_ (below_step (mb_ HB.out) hb)))))
         clear HO358 BK349 BK350 HB
         obtain ⟨HO358, HO366, BK349, BK350, HB⟩ := z_
         (try clear hb)
         (try clear hb2)
         (try clear hk)
         (try clear hi)
         (try clear ho0)
         obtain ⟨Ao55, co55, eo55⟩ := Kd.R_slice HO366.out
         (first | subst eo55 | (injection eo55 with f1_ f2_ f3_; have f4_ := f1_.symm; have f5_ := f3_.symm; clear f1_ f2_ f3_; subst f4_; subst f5_))
         refine hK.out _ _ ⟨(blk_cell BK349.out 0).trans rfl, (blk_cell BK349.out 1).trans rfl, (blk_cell BK350.out 0).trans rfl, (blk_cell BK350.out 1).trans rfl⟩ (fun hHeld => ?_)
         clear hK K
         refine norm_ (a' := ?_) ?_ ?_
         rotate_left
         ·
          show Act.put _ (some 34) _ = _
          simp only [Act.put, List.setIfInBounds_toArray, List.set_cons_zero, List.set_cons_succ, i64_w, i32_w]
          rfl
         refine one_ (i := 2) (N := some 35) #[true, true, true, true, false, false, false, false, false, false, false, false, false, false, false, false, false, false, false, false, false, false, false, false, false, false, false, false, false, false, false, false, false, false, false, false, false, false, false, false, false, false, false] rfl rfl (one_of HT_.out (by kernel_rfl)) (by decide) (fun K hK => ?_)
         refine goes_ Tryd.func23 (by kernel_rfl) rfl #[.agg #[.string t363, .slice Ao55 t364.length co55]] (by rfl) rfl rfl (by (try simp only [List.map_toArray, List.map_cons, List.map_nil]); first | done | rfl | (simp only [List.length_drop, List.length_take]; rfl)) ?_
         with_reducible refine (tariff_Valid.calls kj2 t363 _ _ t364 t367 _ ?side1 ?side2 A29.out).mono ?_
         (case side1 => exact mc_ (Kd.R_reads' HO366.out).2.2)
         (case side2 => exact (Kd.R_reads' HO366.out).2.1)
         rintro e w56 ⟨rfl, hb⟩
         refine ⟨_, rfl, ?_⟩
         have z_ := aI (am_ (Kd.R_below (mr_ HO358.out) hb)) (aI (am_ (Kd.R_below (mr_ HO366.out) hb)) (aI (am_ (blk_below (mk_ BK349.out) hb)) (aI (am_ (blk_below (mk_ BK350.out) hb)) (am_ (below_step (mb_ HB.out) hb)))))
         clear HO358 HO366 BK349 BK350 HB
         obtain ⟨HO358, HO366, BK349, BK350, HB⟩ := z_
         (try clear hb)
         (try clear hb2)
         (try clear hk)
         (try clear hi)
         refine hK.out _ _ ⟨(blk_cell BK349.out 0).trans rfl, (blk_cell BK349.out 1).trans rfl, (blk_cell BK350.out 0).trans rfl, (blk_cell BK350.out 1).trans rfl⟩ (fun hHeld => ?_)
         clear hK K
         refine norm_ (a' := ?_) ?_ ?_
         rotate_left
         ·
          show Act.put _ (some 35) _ = _
          simp only [Act.put, List.setIfInBounds_toArray, List.set_cons_zero, List.set_cons_succ, i64_w, i32_w]
          rfl
         refine one_ (i := 4) (N := some 37) #[true, true, true, true, true, false, false, false, false, false, false, false, false, false, false, false, false, false, false, false, false, false, false, false, false, false, false, false, false, false, false, false, false, false, false, false, false, false, false, false, false, false, false] rfl rfl (one_of HT_.out (by kernel_rfl)) (by decide) (fun K hK => ?_)
         refine goes_ Tryd.func17 (by kernel_rfl) rfl #[.agg #[.string a0_0, .slice A0_1 l0_1.length c0_1]] (by rfl) rfl rfl (by (try simp only [List.map_toArray, List.map_cons, List.map_nil]); first | done | rfl | (simp only [List.length_drop, List.length_take]; rfl)) ?_
         with_reducible refine (culetref44_Valid.calls kj2 a0_0 _ _ l0_1 t368 _ ?side1 ?side2 A30.out).mono ?_
         (case side1 => exact mc_ (Kd.C_below HR0_1.out HB.out))
         (case side2 => exact HC0_1.out)
         rintro e w57 ⟨rfl, hb⟩
         refine ⟨_, rfl, ?_⟩
         have z_ := aI (am_ (Kd.R_below (mr_ HO358.out) hb)) (aI (am_ (Kd.R_below (mr_ HO366.out) hb)) (aI (am_ (blk_below (mk_ BK349.out) hb)) (aI (am_ (blk_below (mk_ BK350.out) hb)) (am_ (below_step (mb_ HB.out) hb)))))
         clear HO358 HO366 BK349 BK350 HB
         obtain ⟨HO358, HO366, BK349, BK350, HB⟩ := z_
         (try clear hb)
         (try clear hb2)
         (try clear hk)
         (try clear hi)
         refine hK.out _ _ ⟨(blk_cell BK349.out 0).trans rfl, (blk_cell BK349.out 1).trans rfl, (blk_cell BK350.out 0).trans rfl, (blk_cell BK350.out 1).trans rfl⟩ (fun hHeld => ?_)
         clear hK K
         refine norm_ (a' := ?_) ?_ ?_
         rotate_left
         ·
          show Act.put _ (some 37) _ = _
          simp only [Act.put, List.setIfInBounds_toArray, List.set_cons_zero, List.set_cons_succ, i64_w, i32_w]
          rfl
         refine ltd (o := [0, 1, 2, 3, 4, 5, 6, 7, 9, 12, 13]) (n := 5) (m := 43) (by kernel_rfl) ?_
         iterate 6 (first | (refine tnd (v := ?_) (a' := ?_) rfl rfl (take_ofW HT_.out HW_.out (by kernel_rfl)) (fun _ _ _ h => h) (Or.inl ⟨by rfl, ?_⟩) hHeld ?_ ?_; rotate_left; (· (rintro w' ⟨s0, s1, s2, s3⟩; go_simp; with_reducible rfl)); rotate_left; (· (show Act.put _ (some _) _ = _; simp only [Act.put, List.setIfInBounds_toArray, List.set_cons_zero, List.set_cons_succ, i64_w, i32_w]; rfl))) | (refine pnd (v := ?_) (a' := ?_) rfl rfl (any_of HT_.out (by kernel_rfl)) (fun _ _ _ h => h) (Or.inl ⟨by rfl, ?_⟩) ?_ ?_; rotate_left; (· (intro w'; go_simp; with_reducible rfl)); rotate_left; (· (show Act.put _ (some _) _ = _; simp only [Act.put, List.setIfInBounds_toArray, List.set_cons_zero, List.set_cons_succ, i64_w, i32_w]; rfl))))
         refine one_ (i := 8) (N := some 41) #[true, true, true, true, true, true, true, true, true, true, false, false, true, true, false, false, false, false, false, false, false, false, false, false, false, false, false, false, false, false, false, false, false, false, false, false, false, false, false, false, false, false, false] rfl rfl (one_of HT_.out (by kernel_rfl)) (by decide) (fun K hK => ?_)
         refine goes_ Tryd.func16 (by kernel_rfl) rfl #[.agg #[.string a0_0, .slice A0_1 l0_1.length c0_1]] (by rfl) rfl rfl (by (try simp only [List.map_toArray, List.map_cons, List.map_nil]); first | done | rfl | (simp only [List.length_drop, List.length_take]; rfl)) ?_
         with_reducible refine (culetlaw44_Own.calls kj2 a0_0 _ _ l0_1 t369 t370 _ ?side1 ?side2 A32.out).mono ?_
         (case side1 => exact mc_ (Kd.C_below HR0_1.out HB.out))
         (case side2 => exact HC0_1.out)
         rintro e w58 ⟨v371, rfl, ho0, hb⟩
         refine ⟨_, rfl, ?_⟩
         have z_ := aI (am_ (Kd.R_elder' (mr_ HO358.out) (Kd.R_base ho0) hb)) (aI (am_ (Kd.R_elder' (mr_ HO366.out) (Kd.R_base ho0) hb)) (aI (am_ (Kd.R_lower (Kd.R_new' (Kd.R_new' ho0 (Kd.R_lt (mr_ HO358.out))) (Kd.R_lt (mr_ HO366.out))) (below_size (mb_ HB.out)))) (aI (am_ (blk_below (mk_ BK349.out) hb)) (aI (am_ (blk_below (mk_ BK350.out) hb)) (am_ (below_step (mb_ HB.out) hb))))))
         clear HO358 HO366 BK349 BK350 HB
         obtain ⟨HO358, HO366, HO372, BK349, BK350, HB⟩ := z_
         (try clear hb)
         (try clear hb2)
         (try clear hk)
         (try clear hi)
         (try clear ho0)
         refine hK.out _ _ ⟨(blk_cell BK349.out 0).trans rfl, (blk_cell BK349.out 1).trans rfl, (blk_cell BK350.out 0).trans rfl, (blk_cell BK350.out 1).trans rfl⟩ (fun hHeld => ?_)
         clear hK K
         refine norm_ (a' := ?_) ?_ ?_
         rotate_left
         ·
          show Act.put _ (some 41) _ = _
          simp only [Act.put, List.setIfInBounds_toArray, List.set_cons_zero, List.set_cons_succ, i64_w, i32_w]
          rfl
         refine one_ (i := 10) (N := some 43) #[true, true, true, true, true, true, true, true, true, true, true, false, true, true, false, false, false, false, false, false, false, false, false, false, false, false, false, false, false, false, false, false, false, false, false, false, false, false, false, false, false, false, false] rfl rfl (one_of HT_.out (by kernel_rfl)) (by decide) (fun K hK => ?_)
         refine goes_ Tryd.func16 (by kernel_rfl) rfl #[.agg #[.string a1_0, .slice A1_1 l1_1.length c1_1]] (by rfl) rfl rfl (by (try simp only [List.map_toArray, List.map_cons, List.map_nil]); first | done | rfl | (simp only [List.length_drop, List.length_take]; rfl)) ?_
         with_reducible refine (culetlaw44_Own.calls kj2 a1_0 _ _ l1_1 t373 t374 _ ?side1 ?side2 A33.out).mono ?_
         (case side1 => exact mc_ (Kd.C_below HR1_1.out HB.out))
         (case side2 => exact HC1_1.out)
         rintro e w59 ⟨v375, rfl, ho0, hb⟩
         refine ⟨_, rfl, ?_⟩
         have z_ := aI (am_ (Kd.R_elder' (mr_ HO358.out) (Kd.R_base ho0) hb)) (aI (am_ (Kd.R_elder' (mr_ HO366.out) (Kd.R_base ho0) hb)) (aI (am_ (Kd.R_elder' (mr_ HO372.out) (Kd.R_base ho0) hb)) (aI (am_ (Kd.R_lower (Kd.R_new' (Kd.R_new' (Kd.R_new' ho0 (Kd.R_lt (mr_ HO358.out))) (Kd.R_lt (mr_ HO366.out))) (Kd.R_lt (mr_ HO372.out))) (below_size (mb_ HB.out)))) (aI (am_ (blk_below (mk_ BK349.out) hb)) (aI (am_ (blk_below (mk_ BK350.out) hb)) (am_ (below_step (mb_ HB.out) hb)))))))
         clear HO358 HO366 HO372 BK349 BK350 HB
         obtain ⟨HO358, HO366, HO372, HO376, BK349, BK350, HB⟩ := z_
         (try clear hb)
         (try clear hb2)
         (try clear hk)
         (try clear hi)
         (try clear ho0)
         obtain ⟨Ao60, co60, eo60⟩ := Kd.R_slice HO372.out
         (first | subst eo60 | (injection eo60 with f1_ f2_ f3_; have f4_ := f1_.symm; have f5_ := f3_.symm; clear f1_ f2_ f3_; subst f4_; subst f5_))
         obtain ⟨Ao61, co61, eo61⟩ := Kd.R_slice HO376.out
         (first | subst eo61 | (injection eo61 with f1_ f2_ f3_; have f4_ := f1_.symm; have f5_ := f3_.symm; clear f1_ f2_ f3_; subst f4_; subst f5_))
         refine hK.out _ _ ⟨(blk_cell BK349.out 0).trans rfl, (blk_cell BK349.out 1).trans rfl, (blk_cell BK350.out 0).trans rfl, (blk_cell BK350.out 1).trans rfl⟩ (fun hHeld => ?_)
         clear hK K
         refine norm_ (a' := ?_) ?_ ?_
         rotate_left
         ·
          show Act.put _ (some 43) _ = _
          simp only [Act.put, List.setIfInBounds_toArray, List.set_cons_zero, List.set_cons_succ, i64_w, i32_w]
          rfl
         refine one_ (i := 11) (N := some 44) #[true, true, true, true, true, true, true, true, true, true, true, true, true, true, false, false, false, false, false, false, false, false, false, false, false, false, false, false, false, false, false, false, false, false, false, false, false, false, false, false, false, false, false] rfl rfl (one_of HT_.out (by kernel_rfl)) (by decide) (fun K hK => ?_)
         refine goes_ Tryd.func24 (by kernel_rfl) rfl #[.agg #[.string t369, .slice Ao60 t370.length co60], .agg #[.string t373, .slice Ao61 t374.length co61]] (by rfl) rfl rfl (by (try simp only [List.map_toArray, List.map_cons, List.map_nil]); first | done | rfl | (simp only [List.length_drop, List.length_take]; rfl)) ?_
         with_reducible refine (tariff_Equal.calls kj2 t369 _ _ t370 t373 _ _ t374 t377 _ ?side1 ?side2 ?side3 ?side4 A34.out).mono ?_
         (case side1 => exact mc_ (Kd.R_reads' HO372.out).2.2)
         (case side2 => exact (Kd.R_reads' HO372.out).2.1)
         (case side3 => exact mc_ (Kd.R_reads' HO376.out).2.2)
         (case side4 => exact (Kd.R_reads' HO376.out).2.1)
         rintro e w62 ⟨rfl, hb⟩
         refine ⟨_, rfl, ?_⟩
         have z_ := aI (am_ (Kd.R_below (mr_ HO358.out) hb)) (aI (am_ (Kd.R_below (mr_ HO366.out) hb)) (aI (am_ (Kd.R_below (mr_ HO372.out) hb)) (aI (am_ (Kd.R_below (mr_ HO376.out) hb)) (aI (am_ (blk_below (mk_ BK349.out) hb)) (aI (am_ (blk_below (mk_ BK350.out) hb)) (am_ (below_step (mb_ HB.out) hb)))))))
         clear HO358 HO366 HO372 HO376 BK349 BK350 HB
         obtain ⟨HO358, HO366, HO372, HO376, BK349, BK350, HB⟩ := z_
         (try clear hb)
         (try clear hb2)
         (try clear hk)
         (try clear hi)
         refine hK.out _ _ ⟨(blk_cell BK349.out 0).trans rfl, (blk_cell BK349.out 1).trans rfl, (blk_cell BK350.out 0).trans rfl, (blk_cell BK350.out 1).trans rfl⟩ (fun hHeld => ?_)
         clear hK K
         refine norm_ (a' := ?_) ?_ ?_
         rotate_left
         ·
          show Act.put _ (some 44) _ = _
          simp only [Act.put, List.setIfInBounds_toArray, List.set_cons_zero, List.set_cons_succ, i64_w, i32_w]
          rfl
         refine one_ (i := 14) (N := some 47) #[true, true, true, true, true, true, true, true, true, true, true, true, true, true, true, false, false, false, false, false, false, false, false, false, false, false, false, false, false, false, false, false, false, false, false, false, false, false, false, false, false, false, false] rfl rfl (one_of HT_.out (by kernel_rfl)) (by decide) (fun K hK => ?_)
         refine goes_ Tryd.func13 (by kernel_rfl) rfl #[.agg #[.string a0_0, .slice A0_1 l0_1.length c0_1], .agg #[.string a1_0, .slice A1_1 l1_1.length c1_1]] (by rfl) rfl rfl (by (try simp only [List.map_toArray, List.map_cons, List.map_nil]); first | done | rfl | (simp only [List.length_drop, List.length_take]; rfl)) ?_
         with_reducible refine (culetref44_Equal.calls kj2 a0_0 _ _ l0_1 a1_0 _ _ l1_1 t378 _ ?side1 ?side2 ?side3 ?side4 A35.out).mono ?_
         (case side1 => exact mc_ (Kd.C_below HR0_1.out HB.out))
         (case side2 => exact HC0_1.out)
         (case side3 => exact mc_ (Kd.C_below HR1_1.out HB.out))
         (case side4 => exact HC1_1.out)
         rintro e w63 ⟨rfl, hb⟩
         refine ⟨_, rfl, ?_⟩
         have z_ := aI (am_ (Kd.R_below (mr_ HO358.out) hb)) (aI (am_ (Kd.R_below (mr_ HO366.out) hb)) (aI (am_ (Kd.R_below (mr_ HO372.out) hb)) (aI (am_ (Kd.R_below (mr_ HO376.out) hb)) (aI (am_ (blk_below (mk_ BK349.out) hb)) (aI (am_ (blk_below (mk_ BK350.out) hb)) (am_ (below_step (mb_ HB.out) hb)))))))
         clear HO358 HO366 HO372 HO376 BK349 BK350 HB
         obtain ⟨HO358, HO366, HO372, HO376, BK349, BK350, HB⟩ := z_
         (try clear hb)
         (try clear hb2)
         (try clear hk)
         (try clear hi)
         refine hK.out _ _ ⟨(blk_cell BK349.out 0).trans rfl, (blk_cell BK349.out 1).trans rfl, (blk_cell BK350.out 0).trans rfl, (blk_cell BK350.out 1).trans rfl⟩ (fun hHeld => ?_)
         clear hK K
         refine norm_ (a' := ?_) ?_ ?_
         rotate_left
         ·
          show Act.put _ (some 47) _ = _
          simp only [Act.put, List.setIfInBounds_toArray, List.set_cons_zero, List.set_cons_succ, i64_w, i32_w]
          rfl
         refine ltd (o := [0, 1, 2, 3, 4, 5, 6, 7, 8, 9, 10, 11, 12, 13, 14, 15, 16, 17, 18, 20]) (n := 15) (m := 43) (by kernel_rfl) ?_
         iterate 5 (first | (refine tnd (v := ?_) (a' := ?_) rfl rfl (take_ofW HT_.out HW_.out (by kernel_rfl)) (fun _ _ _ h => h) (Or.inl ⟨by rfl, ?_⟩) hHeld ?_ ?_; rotate_left; (· (rintro w' ⟨s0, s1, s2, s3⟩; go_simp; with_reducible rfl)); rotate_left; (· (show Act.put _ (some _) _ = _; simp only [Act.put, List.setIfInBounds_toArray, List.set_cons_zero, List.set_cons_succ, i64_w, i32_w]; rfl))) | (refine pnd (v := ?_) (a' := ?_) rfl rfl (any_of HT_.out (by kernel_rfl)) (fun _ _ _ h => h) (Or.inl ⟨by rfl, ?_⟩) ?_ ?_; rotate_left; (· (intro w'; go_simp; with_reducible rfl)); rotate_left; (· (show Act.put _ (some _) _ = _; simp only [Act.put, List.setIfInBounds_toArray, List.set_cons_zero, List.set_cons_succ, i64_w, i32_w]; rfl))))
         refine one_ (i := 19) (N := some 52) #[true, true, true, true, true, true, true, true, true, true, true, true, true, true, true, true, true, true, true, true, true, false, false, false, false, false, false, false, false, false, false, false, false, false, false, false, false, false, false, false, false, false, false] rfl rfl (one_of HT_.out (by kernel_rfl)) (by decide) (fun K hK => ?_)
         refine goes_ Tryd.func16 (by kernel_rfl) rfl #[.agg #[.string a0_0, .slice A0_1 l0_1.length c0_1]] (by rfl) rfl rfl (by (try simp only [List.map_toArray, List.map_cons, List.map_nil]); first | done | rfl | (simp only [List.length_drop, List.length_take]; rfl)) ?_
         with_reducible refine (culetlaw44_Own.calls kj2 a0_0 _ _ l0_1 t379 t380 _ ?side1 ?side2 A37.out).mono ?_
         (case side1 => exact mc_ (Kd.C_below HR0_1.out HB.out))
         (case side2 => exact HC0_1.out)
         rintro e w64 ⟨v381, rfl, ho0, hb⟩
         refine ⟨_, rfl, ?_⟩
         have z_ := aI (am_ (Kd.R_elder' (mr_ HO358.out) (Kd.R_base ho0) hb)) (aI (am_ (Kd.R_elder' (mr_ HO366.out) (Kd.R_base ho0) hb)) (aI (am_ (Kd.R_elder' (mr_ HO372.out) (Kd.R_base ho0) hb)) (aI (am_ (Kd.R_elder' (mr_ HO376.out) (Kd.R_base ho0) hb)) (aI (am_ (Kd.R_lower (Kd.R_new' (Kd.R_new' (Kd.R_new' (Kd.R_new' ho0 (Kd.R_lt (mr_ HO358.out))) (Kd.R_lt (mr_ HO366.out))) (Kd.R_lt (mr_ HO372.out))) (Kd.R_lt (mr_ HO376.out))) (below_size (mb_ HB.out)))) (aI (am_ (blk_below (mk_ BK349.out) hb)) (aI (am_ (blk_below (mk_ BK350.out) hb)) (am_ (below_step (mb_ HB.out) hb))))))))
         clear HO358 HO366 HO372 HO376 BK349 BK350 HB
         obtain ⟨HO358, HO366, HO372, HO376, HO382, BK349, BK350, HB⟩ := z_
         (try clear hb)
         (try clear hb2)
         (try clear hk)
         (try clear hi)
         (try clear ho0)
         refine hK.out _ _ ⟨(blk_cell BK349.out 0).trans rfl, (blk_cell BK349.out 1).trans rfl, (blk_cell BK350.out 0).trans rfl, (blk_cell BK350.out 1).trans rfl⟩ (fun hHeld => ?_)
         clear hK K
         refine norm_ (a' := ?_) ?_ ?_
         rotate_left
         ·
          show Act.put _ (some 52) _ = _
          simp only [Act.put, List.setIfInBounds_toArray, List.set_cons_zero, List.set_cons_succ, i64_w, i32_w]
          rfl
         refine one_ (i := 21) (N := some 54) #[true, true, true, true, true, true, true, true, true, true, true, true, true, true, true, true, true, true, true, true, true, true, false, false, false, false, false, false, false, false, false, false, false, false, false, false, false, false, false, false, false, false, false] rfl rfl (one_of HT_.out (by kernel_rfl)) (by decide) (fun K hK => ?_)
         refine goes_ Tryd.func16 (by kernel_rfl) rfl #[.agg #[.string a0_0, .slice A0_1 l0_1.length c0_1]] (by rfl) rfl rfl (by (try simp only [List.map_toArray, List.map_cons, List.map_nil]); first | done | rfl | (simp only [List.length_drop, List.length_take]; rfl)) ?_
         with_reducible refine (culetlaw44_Own.calls kj2 a0_0 _ _ l0_1 t383 t384 _ ?side1 ?side2 A38.out).mono ?_
         (case side1 => exact mc_ (Kd.C_below HR0_1.out HB.out))
         (case side2 => exact HC0_1.out)
         rintro e w65 ⟨v385, rfl, ho0, hb⟩
         refine ⟨_, rfl, ?_⟩
         have z_ := aI (am_ (Kd.R_elder' (mr_ HO358.out) (Kd.R_base ho0) hb)) (aI (am_ (Kd.R_elder' (mr_ HO366.out) (Kd.R_base ho0) hb)) (aI (am_ (Kd.R_elder' (mr_ HO372.out) (Kd.R_base ho0) hb)) (aI (am_ (Kd.R_elder' (mr_ HO376.out) (Kd.R_base ho0) hb)) (aI (am_ (Kd.R_elder' (mr_ HO382.out) (Kd.R_base ho0) hb)) (aI (am_ (Kd.R_lower (Kd.R_new' (Kd.R_new' (Kd.R_new' (Kd.R_new' (Kd.R_new' ho0 (Kd.R_lt (mr_ HO358.out))) (Kd.R_lt (mr_ HO366.out))) (Kd.R_lt (mr_ HO372.out))) (Kd.R_lt (mr_ HO376.out))) (Kd.R_lt (mr_ HO382.out))) (below_size (mb_ HB.out)))) (aI (am_ (blk_below (mk_ BK349.out) hb)) (aI (am_ (blk_below (mk_ BK350.out) hb)) (am_ (below_step (mb_ HB.out) hb)))))))))
         clear HO358 HO366 HO372 HO376 HO382 BK349 BK350 HB
         obtain ⟨HO358, HO366, HO372, HO376, HO382, HO386, BK349, BK350, HB⟩ := z_
         (try clear hb)
         (try clear hb2)
         (try clear hk)
         (try clear hi)
         (try clear ho0)
         obtain ⟨Ao66, co66, eo66⟩ := Kd.R_slice HO382.out
         (first | subst eo66 | (injection eo66 with f1_ f2_ f3_; have f4_ := f1_.symm; have f5_ := f3_.symm; clear f1_ f2_ f3_; subst f4_; subst f5_))
         obtain ⟨Ao67, co67, eo67⟩ := Kd.R_slice HO386.out
         (first | subst eo67 | (injection eo67 with f1_ f2_ f3_; have f4_ := f1_.symm; have f5_ := f3_.symm; clear f1_ f2_ f3_; subst f4_; subst f5_))
         refine hK.out _ _ ⟨(blk_cell BK349.out 0).trans rfl, (blk_cell BK349.out 1).trans rfl, (blk_cell BK350.out 0).trans rfl, (blk_cell BK350.out 1).trans rfl⟩ (fun hHeld => ?_)
         clear hK K
         refine norm_ (a' := ?_) ?_ ?_
         rotate_left
         ·
          show Act.put _ (some 54) _ = _
          simp only [Act.put, List.setIfInBounds_toArray, List.set_cons_zero, List.set_cons_succ, i64_w, i32_w]
          rfl
         refine one_ (i := 22) (N := some 55) #[true, true, true, true, true, true, true, true, true, true, true, true, true, true, true, true, true, true, true, true, true, true, true, false, false, false, false, false, false, false, false, false, false, false, false, false, false, false, false, false, false, false, false] rfl rfl (one_of HT_.out (by kernel_rfl)) (by decide) (fun K hK => ?_)
         refine goes_ Tryd.func24 (by kernel_rfl) rfl #[.agg #[.string t379, .slice Ao66 t380.length co66], .agg #[.string t383, .slice Ao67 t384.length co67]] (by rfl) rfl rfl (by (try simp only [List.map_toArray, List.map_cons, List.map_nil]); first | done | rfl | (simp only [List.length_drop, List.length_take]; rfl)) ?_
         with_reducible refine (tariff_Equal.calls kj2 t379 _ _ t380 t383 _ _ t384 true _ ?side1 ?side2 ?side3 ?side4 A39.out).mono ?_
         (case side1 => exact mc_ (Kd.R_reads' HO382.out).2.2)
         (case side2 => exact (Kd.R_reads' HO382.out).2.1)
         (case side3 => exact mc_ (Kd.R_reads' HO386.out).2.2)
         (case side4 => exact (Kd.R_reads' HO386.out).2.1)
         rintro e w68 ⟨rfl, hb⟩
         refine ⟨_, rfl, ?_⟩
         have z_ := aI (am_ (Kd.R_below (mr_ HO358.out) hb)) (aI (am_ (Kd.R_below (mr_ HO366.out) hb)) (aI (am_ (Kd.R_below (mr_ HO372.out) hb)) (aI (am_ (Kd.R_below (mr_ HO376.out) hb)) (aI (am_ (Kd.R_below (mr_ HO382.out) hb)) (aI (am_ (Kd.R_below (mr_ HO386.out) hb)) (aI (am_ (blk_below (mk_ BK349.out) hb)) (aI (am_ (blk_below (mk_ BK350.out) hb)) (am_ (below_step (mb_ HB.out) hb)))))))))
         clear HO358 HO366 HO372 HO376 HO382 HO386 BK349 BK350 HB
         obtain ⟨HO358, HO366, HO372, HO376, HO382, HO386, BK349, BK350, HB⟩ := z_
         (try clear hb)
         (try clear hb2)
         (try clear hk)
         (try clear hi)
         refine hK.out _ _ ⟨(blk_cell BK349.out 0).trans rfl, (blk_cell BK349.out 1).trans rfl, (blk_cell BK350.out 0).trans rfl, (blk_cell BK350.out 1).trans rfl⟩ (fun hHeld => ?_)
         clear hK K
         refine norm_ (a' := ?_) ?_ ?_
         rotate_left
         ·
          show Act.put _ (some 55) _ = _
          simp only [Act.put, List.setIfInBounds_toArray, List.set_cons_zero, List.set_cons_succ, i64_w, i32_w]
          rfl
         refine ltd (o := [0, 1, 2, 3, 4, 5, 6, 7, 8, 9, 10, 11, 12, 13, 14, 15, 16, 17, 18, 19, 20, 21, 22, 23, 24, 25, 28]) (n := 23) (m := 43) (by kernel_rfl) ?_
         iterate 4 (first | (refine tnd (v := ?_) (a' := ?_) rfl rfl (take_ofW HT_.out HW_.out (by kernel_rfl)) (fun _ _ _ h => h) (Or.inl ⟨by rfl, ?_⟩) hHeld ?_ ?_; rotate_left; (· (rintro w' ⟨s0, s1, s2, s3⟩; go_simp; with_reducible rfl)); rotate_left; (· (show Act.put _ (some _) _ = _; simp only [Act.put, List.setIfInBounds_toArray, List.set_cons_zero, List.set_cons_succ, i64_w, i32_w]; rfl))) | (refine pnd (v := ?_) (a' := ?_) rfl rfl (any_of HT_.out (by kernel_rfl)) (fun _ _ _ h => h) (Or.inl ⟨by rfl, ?_⟩) ?_ ?_; rotate_left; (· (intro w'; go_simp; with_reducible rfl)); rotate_left; (· (show Act.put _ (some _) _ = _; simp only [Act.put, List.setIfInBounds_toArray, List.set_cons_zero, List.set_cons_succ, i64_w, i32_w]; rfl))))
         refine one_ (i := 26) (N := some 59) #[true, true, true, true, true, true, true, true, true, true, true, true, true, true, true, true, true, true, true, true, true, true, true, true, true, true, true, false, true, false, false, false, false, false, false, false, false, false, false, false, false, false, false] rfl rfl (one_of HT_.out (by kernel_rfl)) (by decide) (fun K hK => ?_)
         refine goes_ Tryd.func16 (by kernel_rfl) rfl #[.agg #[.string a0_0, .slice A0_1 l0_1.length c0_1]] (by rfl) rfl rfl (by (try simp only [List.map_toArray, List.map_cons, List.map_nil]); first | done | rfl | (simp only [List.length_drop, List.length_take]; rfl)) ?_
         with_reducible refine (culetlaw44_Own.calls kj2 a0_0 _ _ l0_1 t388 t389 _ ?side1 ?side2 A41.out).mono ?_
         (case side1 => exact mc_ (Kd.C_below HR0_1.out HB.out))
         (case side2 => exact HC0_1.out)
         rintro e w69 ⟨v390, rfl, ho0, hb⟩
         refine ⟨_, rfl, ?_⟩
         have z_ := aI (am_ (Kd.R_elder' (mr_ HO358.out) (Kd.R_base ho0) hb)) (aI (am_ (Kd.R_elder' (mr_ HO366.out) (Kd.R_base ho0) hb)) (aI (am_ (Kd.R_elder' (mr_ HO372.out) (Kd.R_base ho0) hb)) (aI (am_ (Kd.R_elder' (mr_ HO376.out) (Kd.R_base ho0) hb)) (aI (am_ (Kd.R_elder' (mr_ HO382.out) (Kd.R_base ho0) hb)) (aI (am_ (Kd.R_elder' (mr_ HO386.out) (Kd.R_base ho0) hb)) (aI (am_ (Kd.R_lower (Kd.R_new' (Kd.R_new' (Kd.R_new' (Kd.R_new' (Kd.R_new' (Kd.R_new' ho0 (Kd.R_lt (mr_ HO358.out))) (Kd.R_lt (mr_ HO366.out))) (Kd.R_lt (mr_ HO372.out))) (Kd.R_lt (mr_ HO376.out))) (Kd.R_lt (mr_ HO382.out))) (Kd.R_lt (mr_ HO386.out))) (below_size (mb_ HB.out)))) (aI (am_ (blk_below (mk_ BK349.out) hb)) (aI (am_ (blk_below (mk_ BK350.out) hb)) (am_ (below_step (mb_ HB.out) hb))))))))))
         clear HO358 HO366 HO372 HO376 HO382 HO386 BK349 BK350 HB
         obtain ⟨HO358, HO366, HO372, HO376, HO382, HO386, HO391, BK349, BK350, HB⟩ := z_
         (try clear hb)
         (try clear hb2)
         (try clear hk)
         (try clear hi)
         (try clear ho0)
         obtain ⟨Ao70, co70, eo70⟩ := Kd.R_slice HO391.out
         (first | subst eo70 | (injection eo70 with f1_ f2_ f3_; have f4_ := f1_.symm; have f5_ := f3_.symm; clear f1_ f2_ f3_; subst f4_; subst f5_))
         refine hK.out _ _ ⟨(blk_cell BK349.out 0).trans rfl, (blk_cell BK349.out 1).trans rfl, (blk_cell BK350.out 0).trans rfl, (blk_cell BK350.out 1).trans rfl⟩ (fun hHeld => ?_)
         clear hK K
         refine norm_ (a' := ?_) ?_ ?_
         rotate_left
         ·
          show Act.put _ (some 59) _ = _
          simp only [Act.put, List.setIfInBounds_toArray, List.set_cons_zero, List.set_cons_succ, i64_w, i32_w]
          rfl
         refine one_ (i := 27) (N := some 60) #[true, true, true, true, true, true, true, true, true, true, true, true, true, true, true, true, true, true, true, true, true, true, true, true, true, true, true, true, true, false, false, false, false, false, false, false, false, false, false, false, false, false, false] rfl rfl (one_of HT_.out (by kernel_rfl)) (by decide) (fun K hK => ?_)
         refine goes_ Tryd.func19 (by kernel_rfl) rfl #[.agg #[.string t388, .slice Ao70 t389.length co70]] (by rfl) rfl rfl (by (try simp only [List.map_toArray, List.map_cons, List.map_nil]); first | done | rfl | (simp only [List.length_drop, List.length_take]; rfl)) ?_
         with_reducible refine (tariff_Fair.calls kj2 t388 _ _ t389 t392 _ ?side1 ?side2 A42.out).mono ?_
         (case side1 => exact mc_ (Kd.R_reads' HO391.out).2.2)
         (case side2 => exact (Kd.R_reads' HO391.out).2.1)
         rintro e w71 ⟨rfl, hb⟩
         refine ⟨_, rfl, ?_⟩
         have z_ := aI (am_ (Kd.R_below (mr_ HO358.out) hb)) (aI (am_ (Kd.R_below (mr_ HO366.out) hb)) (aI (am_ (Kd.R_below (mr_ HO372.out) hb)) (aI (am_ (Kd.R_below (mr_ HO376.out) hb)) (aI (am_ (Kd.R_below (mr_ HO382.out) hb)) (aI (am_ (Kd.R_below (mr_ HO386.out) hb)) (aI (am_ (Kd.R_below (mr_ HO391.out) hb)) (aI (am_ (blk_below (mk_ BK349.out) hb)) (aI (am_ (blk_below (mk_ BK350.out) hb)) (am_ (below_step (mb_ HB.out) hb))))))))))
         clear HO358 HO366 HO372 HO376 HO382 HO386 HO391 BK349 BK350 HB
         obtain ⟨HO358, HO366, HO372, HO376, HO382, HO386, HO391, BK349, BK350, HB⟩ := z_
         (try clear hb)
         (try clear hb2)
         (try clear hk)
         (try clear hi)
         refine hK.out _ _ ⟨(blk_cell BK349.out 0).trans rfl, (blk_cell BK349.out 1).trans rfl, (blk_cell BK350.out 0).trans rfl, (blk_cell BK350.out 1).trans rfl⟩ (fun hHeld => ?_)
         clear hK K
         refine norm_ (a' := ?_) ?_ ?_
         rotate_left
         ·
          show Act.put _ (some 60) _ = _
          simp only [Act.put, List.setIfInBounds_toArray, List.set_cons_zero, List.set_cons_succ, i64_w, i32_w]
          rfl
         refine one_ (i := 29) (N := some 62) #[true, true, true, true, true, true, true, true, true, true, true, true, true, true, true, true, true, true, true, true, true, true, true, true, true, true, true, true, true, true, false, false, false, false, false, false, false, false, false, false, false, false, false] rfl rfl (one_of HT_.out (by kernel_rfl)) (by decide) (fun K hK => ?_)
         refine goes_ Tryd.func25 (by kernel_rfl) rfl #[.agg #[.string a0_0, .slice A0_1 l0_1.length c0_1]] (by rfl) rfl rfl (by (try simp only [List.map_toArray, List.map_cons, List.map_nil]); first | done | rfl | (simp only [List.length_drop, List.length_take]; rfl)) ?_
         with_reducible refine (culetref44_Fair.calls kj2 a0_0 _ _ l0_1 t393 _ ?side1 ?side2 A43.out).mono ?_
         (case side1 => exact mc_ (Kd.C_below HR0_1.out HB.out))
         (case side2 => exact HC0_1.out)
         rintro e w72 ⟨rfl, hb⟩
         refine ⟨_, rfl, ?_⟩
         have z_ := aI (am_ (Kd.R_below (mr_ HO358.out) hb)) (aI (am_ (Kd.R_below (mr_ HO366.out) hb)) (aI (am_ (Kd.R_below (mr_ HO372.out) hb)) (aI (am_ (Kd.R_below (mr_ HO376.out) hb)) (aI (am_ (Kd.R_below (mr_ HO382.out) hb)) (aI (am_ (Kd.R_below (mr_ HO386.out) hb)) (aI (am_ (Kd.R_below (mr_ HO391.out) hb)) (aI (am_ (blk_below (mk_ BK349.out) hb)) (aI (am_ (blk_below (mk_ BK350.out) hb)) (am_ (below_step (mb_ HB.out) hb))))))))))
         clear HO358 HO366 HO372 HO376 HO382 HO386 HO391 BK349 BK350 HB
         obtain ⟨HO358, HO366, HO372, HO376, HO382, HO386, HO391, BK349, BK350, HB⟩ := z_
         (try clear hb)
         (try clear hb2)
         (try clear hk)
         (try clear hi)
         refine hK.out _ _ ⟨(blk_cell BK349.out 0).trans rfl, (blk_cell BK349.out 1).trans rfl, (blk_cell BK350.out 0).trans rfl, (blk_cell BK350.out 1).trans rfl⟩ (fun hHeld => ?_)
         clear hK K
         refine norm_ (a' := ?_) ?_ ?_
         rotate_left
         ·
          show Act.put _ (some 62) _ = _
          simp only [Act.put, List.setIfInBounds_toArray, List.set_cons_zero, List.set_cons_succ, i64_w, i32_w]
          rfl
         refine ltd (o := [0, 1, 2, 3, 4, 5, 6, 7, 8, 9, 10, 11, 12, 13, 14, 15, 16, 17, 18, 19, 20, 21, 22, 23, 24, 25, 26, 27, 28, 29, 30, 31, 32, 33, 34, 35, 36, 37, 38, 39, 40, 41, 42]) (n := 30) (m := 43) (by kernel_rfl) ?_
         iterate 13 (first | (refine pnd (v := ?_) (a' := ?_) rfl rfl (any_of HT_.out (by kernel_rfl)) (fun _ _ _ h => h) (Or.inl ⟨by rfl, ?_⟩) ?_ ?_; rotate_left; (· (intro w'; go_simp; with_reducible rfl)); rotate_left; (· (show Act.put _ (some _) _ = _; simp only [Act.put, List.setIfInBounds_toArray, List.set_cons_zero, List.set_cons_succ, i64_w, i32_w]; rfl))))
         refine done_ (done_of HT_.out (by kernel_rfl)) ?_
         try go_wp2
         go_ret
         exact ⟨by first | rfl | (simp [errW_none, errW_some] <;> rfl) | (simp [*, errW_none, errW_some] <;> rfl), mb_ HB.out⟩
        ·
         rw [if_neg c45] at H
         have c45b0 : (t359.toList == t361.toList) = false := beq_eq_false_iff_ne.mpr c45
         have c45b1 : (t359.toList != t361.toList) = true := bne_iff_ne.mpr c45
         obtain rfl := Option.some.inj H
         have hnb73 := NB349_350.out
         have hnc73 := NB350_349.out
         have hcz74_0 : wc.cell? ⟨gb349, 0, none⟩ = some (.string a0_0) := (blk_cell BK349.out 0).trans rfl
         have hcz74_1 : wc.cell? ⟨gb349, 1, none⟩ = some (.slice A0_1 l0_1.length c0_1) := (blk_cell BK349.out 1).trans rfl
         have hfz74_0 := blk_frozen BK349.out 0
         have hfz74_1 := blk_frozen BK349.out 1
         try go_wp2_with (first | ((with_reducible refine gate_callee (f := 16) rfl ?_); refine goesL_ (some 24) rfl rfl Tryd.func16 (by kernel_rfl) rfl #[.agg #[.string a0_0, .slice A0_1 l0_1.length c0_1]] rfl (by (try simp only [List.map_toArray, List.map_cons, List.map_nil]); first | done | rfl | (simp only [List.length_drop, List.length_take]; rfl)) ?_; (with_reducible refine (culetlaw44_Own.calls kj2 a0_0 _ _ l0_1 t355 t356 _ ?side1 ?side2 A25.out).mono ?_); (case side1 => exact mc_ (Kd.C_below HR0_1.out HB.out)); (case side2 => exact HC0_1.out); rintro e w75 ⟨v357, rfl, ho0, hb⟩; refine ⟨_, rfl, ?_⟩; have z_ := aI (am_ (Kd.R_lower ho0 (below_size (mb_ HB.out)))) (aI (am_ (blk_below (mk_ BK349.out) hb)) (aI (am_ (blk_below (mk_ BK350.out) hb)) (am_ (below_step (mb_ HB.out) hb)))); clear BK349 BK350 HB; obtain ⟨HO358, BK349, BK350, HB⟩ := z_; (try clear hb); (try clear hb2); (try clear hk); (try clear hi); (try clear ho0); obtain ⟨Ao76, co76, eo76⟩ := Kd.R_slice HO358.out; subst eo76) | ((with_reducible refine gate_callee (f := 15) rfl ?_); refine goesL_ (some 25) rfl rfl Tryd.func15 (by kernel_rfl) rfl #[.agg #[.string t355, .slice Ao76 t356.length co76]] rfl (by (try simp only [List.map_toArray, List.map_cons, List.map_nil]); first | done | rfl | (simp only [List.length_drop, List.length_take]; rfl)) ?_; (with_reducible refine (tariff_Print.calls kj2 t355 _ _ t356 t359 t360 _ (HTW.out.at (mb_ HB.out)) ?side1 ?side2 A26.out).mono ?_); (case side1 => exact mc_ (Kd.R_reads' HO358.out).2.2); (case side2 => exact (Kd.R_reads' HO358.out).2.1); rintro e w77 ⟨rfl, hb⟩; refine ⟨_, rfl, ?_⟩; have z_ := aI (am_ (Kd.R_below (mr_ HO358.out) hb)) (aI (am_ (blk_below (mk_ BK349.out) hb)) (aI (am_ (blk_below (mk_ BK350.out) hb)) (am_ (below_step (mb_ HB.out) hb)))); clear HO358 BK349 BK350 HB; obtain ⟨HO358, BK349, BK350, HB⟩ := z_; (try clear hb); (try clear hb2); (try clear hk); (try clear hi); have hcz78_0 : w77.cell? ⟨gb349, 0, none⟩ = some (.string a0_0) := (blk_cell BK349.out 0).trans rfl; have hcz78_1 : w77.cell? ⟨gb349, 1, none⟩ = some (.slice A0_1 l0_1.length c0_1) := (blk_cell BK349.out 1).trans rfl; have hfz78_0 := blk_frozen BK349.out 0; have hfz78_1 := blk_frozen BK349.out 1) | ((with_reducible refine gate_callee (f := 22) rfl ?_); refine goesL_ (some 30) rfl rfl Tryd.func22 (by kernel_rfl) rfl #[.agg #[.string a0_0, .slice A0_1 l0_1.length c0_1]] rfl (by (try simp only [List.map_toArray, List.map_cons, List.map_nil]); first | done | rfl | (simp only [List.length_drop, List.length_take]; rfl)) ?_; (with_reducible refine (culetref44_Print.calls kj2 a0_0 _ _ l0_1 t361 t362 _ ?side1 ?side2 A27.out).mono ?_); (case side1 => exact mc_ (Kd.C_below HR0_1.out HB.out)); (case side2 => exact HC0_1.out); rintro e w79 ⟨rfl, hb⟩; refine ⟨_, rfl, ?_⟩; have z_ := aI (am_ (Kd.R_below (mr_ HO358.out) hb)) (aI (am_ (blk_below (mk_ BK349.out) hb)) (aI (am_ (blk_below (mk_ BK350.out) hb)) (am_ (below_step (mb_ HB.out) hb)))); clear HO358 BK349 BK350 HB; obtain ⟨HO358, BK349, BK350, HB⟩ := z_; (try clear hb); (try clear hb2); (try clear hk); (try clear hi)))
         have z_ := aI (am_ (Kd.R_drew HO358.out)) (aI (am_ (blk_drew BK349.out)) (aI (am_ (blk_drew BK350.out)) (am_ (below_drew1 HB.out))))
         clear HO358 BK349 BK350 HB
         obtain ⟨HO358, BK349, BK350, HB⟩ := z_
         refine start_ (n := 43) (S := fun w' => w'.cell? ⟨gb349, 0, none⟩ = some (.string a0_0) ∧ w'.cell? ⟨gb349, 1, none⟩ = some (.slice A0_1 l0_1.length c0_1) ∧ w'.cell? ⟨gb350, 0, none⟩ = some (.string a1_0) ∧ w'.cell? ⟨gb350, 1, none⟩ = some (.slice A1_1 l1_1.length c1_1)) (ds := []) #[false, false, false, false, false, false, false, false, false, false, false, false, false, false, false, false, false, false, false, false, false, false, false, false, false, false, false, false, false, false, false, false, false, false, false, false, false, false, false, false, false, false, false] (by kernel_rfl) rfl rfl ⟨(blk_cell BK349.out 0).trans rfl, (blk_cell BK349.out 1).trans rfl, (blk_cell BK350.out 0).trans rfl, (blk_cell BK350.out 1).trans rfl⟩ (fun hHeld => ?_); refine with_tabW culetlaw44_TariffForms.tab5 culetlaw44_TariffForms.bits5 (fun HT_ HW_ => ?_)
         generalize w79.drew = w80 at HO358 BK349 BK350 HB hHeld ⊢
         refine take_ (i := 0) (N := some 33) (v := ?_) (a' := ?_) #[true, false, false, false, false, false, false, false, false, false, false, false, false, false, false, false, false, false, false, false, false, false, false, false, false, false, false, false, false, false, false, false, false, false, false, false, false, false, false, false, false, false, false] rfl rfl (take_ofW HT_.out HW_.out (by kernel_rfl)) (fun _ _ _ h => h) (Or.inl ⟨by rfl, ?_⟩) hHeld ?_ ?_
         rotate_left
         ·
          rintro w' ⟨s0, s1, s2, s3⟩
          go_simp
          with_reducible rfl
         rotate_left
         ·
          simp only [Act.put, List.setIfInBounds_toArray, List.set_cons_zero, List.set_cons_succ, i64_w, i32_w]
          rfl
         refine take_ (i := 3) (N := some 36) (v := ?_) (a' := ?_) #[true, false, false, true, false, false, false, false, false, false, false, false, false, false, false, false, false, false, false, false, false, false, false, false, false, false, false, false, false, false, false, false, false, false, false, false, false, false, false, false, false, false, false] rfl rfl (take_ofW HT_.out HW_.out (by kernel_rfl)) (fun _ _ _ h => h) (Or.inl ⟨by rfl, ?_⟩) hHeld ?_ ?_
         rotate_left
         ·
          rintro w' ⟨s0, s1, s2, s3⟩
          go_simp
          with_reducible rfl
         rotate_left
         ·
          simp only [Act.put, List.setIfInBounds_toArray, List.set_cons_zero, List.set_cons_succ, i64_w, i32_w]
          rfl
         refine one_ (i := 1) (N := some 34) #[true, true, false, true, false, false, false, false, false, false, false, false, false, false, false, false, false, false, false, false, false, false, false, false, false, false, false, false, false, false, false, false, false, false, false, false, false, false, false, false, false, false, false] rfl rfl (one_of HT_.out (by kernel_rfl)) (by decide) (fun K hK => ?_)
         refine goes_ Tryd.func16 (by kernel_rfl) rfl #[.agg #[.string a0_0, .slice A0_1 l0_1.length c0_1]] (by rfl) rfl rfl (by (try simp only [List.map_toArray, List.map_cons, List.map_nil]); first | done | rfl | (simp only [List.length_drop, List.length_take]; rfl)) ?_
         with_reducible refine (culetlaw44_Own.calls kj2 a0_0 _ _ l0_1 t363 t364 _ ?side1 ?side2 A28.out).mono ?_
         (case side1 => exact mc_ (Kd.C_below HR0_1.out HB.out))
         (case side2 => exact HC0_1.out)
         rintro e w81 ⟨v365, rfl, ho0, hb⟩
         refine ⟨_, rfl, ?_⟩
         have z_ := aI (am_ (Kd.R_elder' (mr_ HO358.out) (Kd.R_base ho0) hb)) (aI (am_ (Kd.R_lower (Kd.R_new' ho0 (Kd.R_lt (mr_ HO358.out))) (below_size (mb_ HB.out)))) (aI (am_ (blk_below (mk_ BK349.out) hb)) (aI (am_ (blk_below (mk_ BK350.out) hb)) (am_ (below_step (mb_ HB.out) hb)))))
         clear HO358 BK349 BK350 HB
         obtain ⟨HO358, HO366, BK349, BK350, HB⟩ := z_
         (try clear hb)
         (try clear hb2)
         (try clear hk)
         (try clear hi)
         (try clear ho0)
         obtain ⟨Ao82, co82, eo82⟩ := Kd.R_slice HO366.out
         (first | subst eo82 | (injection eo82 with f1_ f2_ f3_; have f4_ := f1_.symm; have f5_ := f3_.symm; clear f1_ f2_ f3_; subst f4_; subst f5_))
         refine hK.out _ _ ⟨(blk_cell BK349.out 0).trans rfl, (blk_cell BK349.out 1).trans rfl, (blk_cell BK350.out 0).trans rfl, (blk_cell BK350.out 1).trans rfl⟩ (fun hHeld => ?_)
         clear hK K
         refine norm_ (a' := ?_) ?_ ?_
         rotate_left
         ·
          show Act.put _ (some 34) _ = _
          simp only [Act.put, List.setIfInBounds_toArray, List.set_cons_zero, List.set_cons_succ, i64_w, i32_w]
          rfl
         refine one_ (i := 2) (N := some 35) #[true, true, true, true, false, false, false, false, false, false, false, false, false, false, false, false, false, false, false, false, false, false, false, false, false, false, false, false, false, false, false, false, false, false, false, false, false, false, false, false, false, false, false] rfl rfl (one_of HT_.out (by kernel_rfl)) (by decide) (fun K hK => ?_)
         refine goes_ Tryd.func23 (by kernel_rfl) rfl #[.agg #[.string t363, .slice Ao82 t364.length co82]] (by rfl) rfl rfl (by (try simp only [List.map_toArray, List.map_cons, List.map_nil]); first | done | rfl | (simp only [List.length_drop, List.length_take]; rfl)) ?_
         with_reducible refine (tariff_Valid.calls kj2 t363 _ _ t364 t367 _ ?side1 ?side2 A29.out).mono ?_
         (case side1 => exact mc_ (Kd.R_reads' HO366.out).2.2)
         (case side2 => exact (Kd.R_reads' HO366.out).2.1)
         rintro e w83 ⟨rfl, hb⟩
         refine ⟨_, rfl, ?_⟩
         have z_ := aI (am_ (Kd.R_below (mr_ HO358.out) hb)) (aI (am_ (Kd.R_below (mr_ HO366.out) hb)) (aI (am_ (blk_below (mk_ BK349.out) hb)) (aI (am_ (blk_below (mk_ BK350.out) hb)) (am_ (below_step (mb_ HB.out) hb)))))
         clear HO358 HO366 BK349 BK350 HB
         obtain ⟨HO358, HO366, BK349, BK350, HB⟩ := z_
         (try clear hb)
         (try clear hb2)
         (try clear hk)
         (try clear hi)
         refine hK.out _ _ ⟨(blk_cell BK349.out 0).trans rfl, (blk_cell BK349.out 1).trans rfl, (blk_cell BK350.out 0).trans rfl, (blk_cell BK350.out 1).trans rfl⟩ (fun hHeld => ?_)
         clear hK K
         refine norm_ (a' := ?_) ?_ ?_
         rotate_left
         ·
          show Act.put _ (some 35) _ = _
          simp only [Act.put, List.setIfInBounds_toArray, List.set_cons_zero, List.set_cons_succ, i64_w, i32_w]
          rfl
         refine one_ (i := 4) (N := some 37) #[true, true, true, true, true, false, false, false, false, false, false, false, false, false, false, false, false, false, false, false, false, false, false, false, false, false, false, false, false, false, false, false, false, false, false, false, false, false, false, false, false, false, false] rfl rfl (one_of HT_.out (by kernel_rfl)) (by decide) (fun K hK => ?_)
         refine goes_ Tryd.func17 (by kernel_rfl) rfl #[.agg #[.string a0_0, .slice A0_1 l0_1.length c0_1]] (by rfl) rfl rfl (by (try simp only [List.map_toArray, List.map_cons, List.map_nil]); first | done | rfl | (simp only [List.length_drop, List.length_take]; rfl)) ?_
         with_reducible refine (culetref44_Valid.calls kj2 a0_0 _ _ l0_1 t368 _ ?side1 ?side2 A30.out).mono ?_
         (case side1 => exact mc_ (Kd.C_below HR0_1.out HB.out))
         (case side2 => exact HC0_1.out)
         rintro e w84 ⟨rfl, hb⟩
         refine ⟨_, rfl, ?_⟩
         have z_ := aI (am_ (Kd.R_below (mr_ HO358.out) hb)) (aI (am_ (Kd.R_below (mr_ HO366.out) hb)) (aI (am_ (blk_below (mk_ BK349.out) hb)) (aI (am_ (blk_below (mk_ BK350.out) hb)) (am_ (below_step (mb_ HB.out) hb)))))
         clear HO358 HO366 BK349 BK350 HB
         obtain ⟨HO358, HO366, BK349, BK350, HB⟩ := z_
         (try clear hb)
         (try clear hb2)
         (try clear hk)
         (try clear hi)
         refine hK.out _ _ ⟨(blk_cell BK349.out 0).trans rfl, (blk_cell BK349.out 1).trans rfl, (blk_cell BK350.out 0).trans rfl, (blk_cell BK350.out 1).trans rfl⟩ (fun hHeld => ?_)
         clear hK K
         refine norm_ (a' := ?_) ?_ ?_
         rotate_left
         ·
          show Act.put _ (some 37) _ = _
          simp only [Act.put, List.setIfInBounds_toArray, List.set_cons_zero, List.set_cons_succ, i64_w, i32_w]
          rfl
         refine ltd (o := [0, 1, 2, 3, 4, 5, 6, 7, 9, 12, 13]) (n := 5) (m := 43) (by kernel_rfl) ?_
         iterate 6 (first | (refine tnd (v := ?_) (a' := ?_) rfl rfl (take_ofW HT_.out HW_.out (by kernel_rfl)) (fun _ _ _ h => h) (Or.inl ⟨by rfl, ?_⟩) hHeld ?_ ?_; rotate_left; (· (rintro w' ⟨s0, s1, s2, s3⟩; go_simp; with_reducible rfl)); rotate_left; (· (show Act.put _ (some _) _ = _; simp only [Act.put, List.setIfInBounds_toArray, List.set_cons_zero, List.set_cons_succ, i64_w, i32_w]; rfl))) | (refine pnd (v := ?_) (a' := ?_) rfl rfl (any_of HT_.out (by kernel_rfl)) (fun _ _ _ h => h) (Or.inl ⟨by rfl, ?_⟩) ?_ ?_; rotate_left; (· (intro w'; go_simp; with_reducible rfl)); rotate_left; (· (show Act.put _ (some _) _ = _; simp only [Act.put, List.setIfInBounds_toArray, List.set_cons_zero, List.set_cons_succ, i64_w, i32_w]; rfl))))
         refine one_ (i := 8) (N := some 41) #[true, true, true, true, true, true, true, true, true, true, false, false, true, true, false, false, false, false, false, false, false, false, false, false, false, false, false, false, false, false, false, false, false, false, false, false, false, false, false, false, false, false, false] rfl rfl (one_of HT_.out (by kernel_rfl)) (by decide) (fun K hK => ?_)
         refine goes_ Tryd.func16 (by kernel_rfl) rfl #[.agg #[.string a0_0, .slice A0_1 l0_1.length c0_1]] (by rfl) rfl rfl (by (try simp only [List.map_toArray, List.map_cons, List.map_nil]); first | done | rfl | (simp only [List.length_drop, List.length_take]; rfl)) ?_
         with_reducible refine (culetlaw44_Own.calls kj2 a0_0 _ _ l0_1 t369 t370 _ ?side1 ?side2 A32.out).mono ?_
         (case side1 => exact mc_ (Kd.C_below HR0_1.out HB.out))
         (case side2 => exact HC0_1.out)
         rintro e w85 ⟨v371, rfl, ho0, hb⟩
         refine ⟨_, rfl, ?_⟩
         have z_ := aI (am_ (Kd.R_elder' (mr_ HO358.out) (Kd.R_base ho0) hb)) (aI (am_ (Kd.R_elder' (mr_ HO366.out) (Kd.R_base ho0) hb)) (aI (am_ (Kd.R_lower (Kd.R_new' (Kd.R_new' ho0 (Kd.R_lt (mr_ HO358.out))) (Kd.R_lt (mr_ HO366.out))) (below_size (mb_ HB.out)))) (aI (am_ (blk_below (mk_ BK349.out) hb)) (aI (am_ (blk_below (mk_ BK350.out) hb)) (am_ (below_step (mb_ HB.out) hb))))))
         clear HO358 HO366 BK349 BK350 HB
         obtain ⟨HO358, HO366, HO372, BK349, BK350, HB⟩ := z_
         (try clear hb)
         (try clear hb2)
         (try clear hk)
         (try clear hi)
         (try clear ho0)
         refine hK.out _ _ ⟨(blk_cell BK349.out 0).trans rfl, (blk_cell BK349.out 1).trans rfl, (blk_cell BK350.out 0).trans rfl, (blk_cell BK350.out 1).trans rfl⟩ (fun hHeld => ?_)
         clear hK K
         refine norm_ (a' := ?_) ?_ ?_
         rotate_left
         ·
          show Act.put _ (some 41) _ = _
          simp only [Act.put, List.setIfInBounds_toArray, List.set_cons_zero, List.set_cons_succ, i64_w, i32_w]
          rfl
         refine one_ (i := 10) (N := some 43) #[true, true, true, true, true, true, true, true, true, true, true, false, true, true, false, false, false, false, false, false, false, false, false, false, false, false, false, false, false, false, false, false, false, false, false, false, false, false, false, false, false, false, false] rfl rfl (one_of HT_.out (by kernel_rfl)) (by decide) (fun K hK => ?_)
         refine goes_ Tryd.func16 (by kernel_rfl) rfl #[.agg #[.string a1_0, .slice A1_1 l1_1.length c1_1]] (by rfl) rfl rfl (by (try simp only [List.map_toArray, List.map_cons, List.map_nil]); first | done | rfl | (simp only [List.length_drop, List.length_take]; rfl)) ?_
         with_reducible refine (culetlaw44_Own.calls kj2 a1_0 _ _ l1_1 t373 t374 _ ?side1 ?side2 A33.out).mono ?_
         (case side1 => exact mc_ (Kd.C_below HR1_1.out HB.out))
         (case side2 => exact HC1_1.out)
         rintro e w86 ⟨v375, rfl, ho0, hb⟩
         refine ⟨_, rfl, ?_⟩
         have z_ := aI (am_ (Kd.R_elder' (mr_ HO358.out) (Kd.R_base ho0) hb)) (aI (am_ (Kd.R_elder' (mr_ HO366.out) (Kd.R_base ho0) hb)) (aI (am_ (Kd.R_elder' (mr_ HO372.out) (Kd.R_base ho0) hb)) (aI (am_ (Kd.R_lower (Kd.R_new' (Kd.R_new' (Kd.R_new' ho0 (Kd.R_lt (mr_ HO358.out))) (Kd.R_lt (mr_ HO366.out))) (Kd.R_lt (mr_ HO372.out))) (below_size (mb_ HB.out)))) (aI (am_ (blk_below (mk_ BK349.out) hb)) (aI (am_ (blk_below (mk_ BK350.out) hb)) (am_ (below_step (mb_ HB.out) hb)))))))
         clear HO358 HO366 HO372 BK349 BK350 HB
         obtain ⟨HO358, HO366, HO372, HO376, BK349, BK350, HB⟩ := z_
         (try clear hb)
         (try clear hb2)
         (try clear hk)
         (try clear hi)
         (try clear ho0)
         obtain ⟨Ao87, co87, eo87⟩ := Kd.R_slice HO372.out
         (first | subst eo87 | (injection eo87 with f1_ f2_ f3_; have f4_ := f1_.symm; have f5_ := f3_.symm; clear f1_ f2_ f3_; subst f4_; subst f5_))
         obtain ⟨Ao88, co88, eo88⟩ := Kd.R_slice HO376.out
         (first | subst eo88 | (injection eo88 with f1_ f2_ f3_; have f4_ := f1_.symm; have f5_ := f3_.symm; clear f1_ f2_ f3_; subst f4_; subst f5_))
         refine hK.out _ _ ⟨(blk_cell BK349.out 0).trans rfl, (blk_cell BK349.out 1).trans rfl, (blk_cell BK350.out 0).trans rfl, (blk_cell BK350.out 1).trans rfl⟩ (fun hHeld => ?_)
         clear hK K
         refine norm_ (a' := ?_) ?_ ?_
         rotate_left
         ·
          show Act.put _ (some 43) _ = _
          simp only [Act.put, List.setIfInBounds_toArray, List.set_cons_zero, List.set_cons_succ, i64_w, i32_w]
          rfl
         refine one_ (i := 11) (N := some 44) #[true, true, true, true, true, true, true, true, true, true, true, true, true, true, false, false, false, false, false, false, false, false, false, false, false, false, false, false, false, false, false, false, false, false, false, false, false, false, false, false, false, false, false] rfl rfl (one_of HT_.out (by kernel_rfl)) (by decide) (fun K hK => ?_)
         refine goes_ Tryd.func24 (by kernel_rfl) rfl #[.agg #[.string t369, .slice Ao87 t370.length co87], .agg #[.string t373, .slice Ao88 t374.length co88]] (by rfl) rfl rfl (by (try simp only [List.map_toArray, List.map_cons, List.map_nil]); first | done | rfl | (simp only [List.length_drop, List.length_take]; rfl)) ?_
         with_reducible refine (tariff_Equal.calls kj2 t369 _ _ t370 t373 _ _ t374 t377 _ ?side1 ?side2 ?side3 ?side4 A34.out).mono ?_
         (case side1 => exact mc_ (Kd.R_reads' HO372.out).2.2)
         (case side2 => exact (Kd.R_reads' HO372.out).2.1)
         (case side3 => exact mc_ (Kd.R_reads' HO376.out).2.2)
         (case side4 => exact (Kd.R_reads' HO376.out).2.1)
         rintro e w89 ⟨rfl, hb⟩
         refine ⟨_, rfl, ?_⟩
         have z_ := aI (am_ (Kd.R_below (mr_ HO358.out) hb)) (aI (am_ (Kd.R_below (mr_ HO366.out) hb)) (aI (am_ (Kd.R_below (mr_ HO372.out) hb)) (aI (am_ (Kd.R_below (mr_ HO376.out) hb)) (aI (am_ (blk_below (mk_ BK349.out) hb)) (aI (am_ (blk_below (mk_ BK350.out) hb)) (am_ (below_step (mb_ HB.out) hb)))))))
         clear HO358 HO366 HO372 HO376 BK349 BK350 HB
         obtain ⟨HO358, HO366, HO372, HO376, BK349, BK350, HB⟩ := z_
         (try clear hb)
         (try clear hb2)
         (try clear hk)
         (try clear hi)
         refine hK.out _ _ ⟨(blk_cell BK349.out 0).trans rfl, (blk_cell BK349.out 1).trans rfl, (blk_cell BK350.out 0).trans rfl, (blk_cell BK350.out 1).trans rfl⟩ (fun hHeld => ?_)
         clear hK K
         refine norm_ (a' := ?_) ?_ ?_
         rotate_left
         ·
          show Act.put _ (some 44) _ = _
          simp only [Act.put, List.setIfInBounds_toArray, List.set_cons_zero, List.set_cons_succ, i64_w, i32_w]
          rfl
         refine one_ (i := 14) (N := some 47) #[true, true, true, true, true, true, true, true, true, true, true, true, true, true, true, false, false, false, false, false, false, false, false, false, false, false, false, false, false, false, false, false, false, false, false, false, false, false, false, false, false, false, false] rfl rfl (one_of HT_.out (by kernel_rfl)) (by decide) (fun K hK => ?_)
         refine goes_ Tryd.func13 (by kernel_rfl) rfl #[.agg #[.string a0_0, .slice A0_1 l0_1.length c0_1], .agg #[.string a1_0, .slice A1_1 l1_1.length c1_1]] (by rfl) rfl rfl (by (try simp only [List.map_toArray, List.map_cons, List.map_nil]); first | done | rfl | (simp only [List.length_drop, List.length_take]; rfl)) ?_
         with_reducible refine (culetref44_Equal.calls kj2 a0_0 _ _ l0_1 a1_0 _ _ l1_1 t378 _ ?side1 ?side2 ?side3 ?side4 A35.out).mono ?_
         (case side1 => exact mc_ (Kd.C_below HR0_1.out HB.out))
         (case side2 => exact HC0_1.out)
         (case side3 => exact mc_ (Kd.C_below HR1_1.out HB.out))
         (case side4 => exact HC1_1.out)
         rintro e w90 ⟨rfl, hb⟩
         refine ⟨_, rfl, ?_⟩
         have z_ := aI (am_ (Kd.R_below (mr_ HO358.out) hb)) (aI (am_ (Kd.R_below (mr_ HO366.out) hb)) (aI (am_ (Kd.R_below (mr_ HO372.out) hb)) (aI (am_ (Kd.R_below (mr_ HO376.out) hb)) (aI (am_ (blk_below (mk_ BK349.out) hb)) (aI (am_ (blk_below (mk_ BK350.out) hb)) (am_ (below_step (mb_ HB.out) hb)))))))
         clear HO358 HO366 HO372 HO376 BK349 BK350 HB
         obtain ⟨HO358, HO366, HO372, HO376, BK349, BK350, HB⟩ := z_
         (try clear hb)
         (try clear hb2)
         (try clear hk)
         (try clear hi)
         refine hK.out _ _ ⟨(blk_cell BK349.out 0).trans rfl, (blk_cell BK349.out 1).trans rfl, (blk_cell BK350.out 0).trans rfl, (blk_cell BK350.out 1).trans rfl⟩ (fun hHeld => ?_)
         clear hK K
         refine norm_ (a' := ?_) ?_ ?_
         rotate_left
         ·
          show Act.put _ (some 47) _ = _
          simp only [Act.put, List.setIfInBounds_toArray, List.set_cons_zero, List.set_cons_succ, i64_w, i32_w]
          rfl
         refine ltd (o := [0, 1, 2, 3, 4, 5, 6, 7, 8, 9, 10, 11, 12, 13, 14, 15, 16, 17, 18, 20]) (n := 15) (m := 43) (by kernel_rfl) ?_
         iterate 5 (first | (refine tnd (v := ?_) (a' := ?_) rfl rfl (take_ofW HT_.out HW_.out (by kernel_rfl)) (fun _ _ _ h => h) (Or.inl ⟨by rfl, ?_⟩) hHeld ?_ ?_; rotate_left; (· (rintro w' ⟨s0, s1, s2, s3⟩; go_simp; with_reducible rfl)); rotate_left; (· (show Act.put _ (some _) _ = _; simp only [Act.put, List.setIfInBounds_toArray, List.set_cons_zero, List.set_cons_succ, i64_w, i32_w]; rfl))) | (refine pnd (v := ?_) (a' := ?_) rfl rfl (any_of HT_.out (by kernel_rfl)) (fun _ _ _ h => h) (Or.inl ⟨by rfl, ?_⟩) ?_ ?_; rotate_left; (· (intro w'; go_simp; with_reducible rfl)); rotate_left; (· (show Act.put _ (some _) _ = _; simp only [Act.put, List.setIfInBounds_toArray, List.set_cons_zero, List.set_cons_succ, i64_w, i32_w]; rfl))))
         refine one_ (i := 19) (N := some 52) #[true, true, true, true, true, true, true, true, true, true, true, true, true, true, true, true, true, true, true, true, true, false, false, false, false, false, false, false, false, false, false, false, false, false, false, false, false, false, false, false, false, false, false] rfl rfl (one_of HT_.out (by kernel_rfl)) (by decide) (fun K hK => ?_)
         refine goes_ Tryd.func16 (by kernel_rfl) rfl #[.agg #[.string a0_0, .slice A0_1 l0_1.length c0_1]] (by rfl) rfl rfl (by (try simp only [List.map_toArray, List.map_cons, List.map_nil]); first | done | rfl | (simp only [List.length_drop, List.length_take]; rfl)) ?_
         with_reducible refine (culetlaw44_Own.calls kj2 a0_0 _ _ l0_1 t379 t380 _ ?side1 ?side2 A37.out).mono ?_
         (case side1 => exact mc_ (Kd.C_below HR0_1.out HB.out))
         (case side2 => exact HC0_1.out)
         rintro e w91 ⟨v381, rfl, ho0, hb⟩
         refine ⟨_, rfl, ?_⟩
         have z_ := aI (am_ (Kd.R_elder' (mr_ HO358.out) (Kd.R_base ho0) hb)) (aI (am_ (Kd.R_elder' (mr_ HO366.out) (Kd.R_base ho0) hb)) (aI (am_ (Kd.R_elder' (mr_ HO372.out) (Kd.R_base ho0) hb)) (aI (am_ (Kd.R_elder' (mr_ HO376.out) (Kd.R_base ho0) hb)) (aI (am_ (Kd.R_lower (Kd.R_new' (Kd.R_new' (Kd.R_new' (Kd.R_new' ho0 (Kd.R_lt (mr_ HO358.out))) (Kd.R_lt (mr_ HO366.out))) (Kd.R_lt (mr_ HO372.out))) (Kd.R_lt (mr_ HO376.out))) (below_size (mb_ HB.out)))) (aI (am_ (blk_below (mk_ BK349.out) hb)) (aI (am_ (blk_below (mk_ BK350.out) hb)) (am_ (below_step (mb_ HB.out) hb))))))))
         clear HO358 HO366 HO372 HO376 BK349 BK350 HB
         obtain ⟨HO358, HO366, HO372, HO376, HO382, BK349, BK350, HB⟩ := z_
         (try clear hb)
         (try clear hb2)
         (try clear hk)
         (try clear hi)
         (try clear ho0)
         refine hK.out _ _ ⟨(blk_cell BK349.out 0).trans rfl, (blk_cell BK349.out 1).trans rfl, (blk_cell BK350.out 0).trans rfl, (blk_cell BK350.out 1).trans rfl⟩ (fun hHeld => ?_)
         clear hK K
         refine norm_ (a' := ?_) ?_ ?_
         rotate_left
         ·
          show Act.put _ (some 52) _ = _
          simp only [Act.put, List.setIfInBounds_toArray, List.set_cons_zero, List.set_cons_succ, i64_w, i32_w]
          rfl
         refine one_ (i := 21) (N := some 54) #[true, true, true, true, true, true, true, true, true, true, true, true, true, true, true, true, true, true, true, true, true, true, false, false, false, false, false, false, false, false, false, false, false, false, false, false, false, false, false, false, false, false, false] rfl rfl (one_of HT_.out (by kernel_rfl)) (by decide) (fun K hK => ?_)
         refine goes_ Tryd.func16 (by kernel_rfl) rfl #[.agg #[.string a0_0, .slice A0_1 l0_1.length c0_1]] (by rfl) rfl rfl (by (try simp only [List.map_toArray, List.map_cons, List.map_nil]); first | done | rfl | (simp only [List.length_drop, List.length_take]; rfl)) ?_
         with_reducible refine (culetlaw44_Own.calls kj2 a0_0 _ _ l0_1 t383 t384 _ ?side1 ?side2 A38.out).mono ?_
         (case side1 => exact mc_ (Kd.C_below HR0_1.out HB.out))
         (case side2 => exact HC0_1.out)
         rintro e w92 ⟨v385, rfl, ho0, hb⟩
         refine ⟨_, rfl, ?_⟩
         have z_ := aI (am_ (Kd.R_elder' (mr_ HO358.out) (Kd.R_base ho0) hb)) (aI (am_ (Kd.R_elder' (mr_ HO366.out) (Kd.R_base ho0) hb)) (aI (am_ (Kd.R_elder' (mr_ HO372.out) (Kd.R_base ho0) hb)) (aI (am_ (Kd.R_elder' (mr_ HO376.out) (Kd.R_base ho0) hb)) (aI (am_ (Kd.R_elder' (mr_ HO382.out) (Kd.R_base ho0) hb)) (aI (am_ (Kd.R_lower (Kd.R_new' (Kd.R_new' (Kd.R_new' (Kd.R_new' (Kd.R_new' ho0 (Kd.R_lt (mr_ HO358.out))) (Kd.R_lt (mr_ HO366.out))) (Kd.R_lt (mr_ HO372.out))) (Kd.R_lt (mr_ HO376.out))) (Kd.R_lt (mr_ HO382.out))) (below_size (mb_ HB.out)))) (aI (am_ (blk_below (mk_ BK349.out) hb)) (aI (am_ (blk_below (mk_ BK350.out) hb)) (am_ (below_step (mb_ HB.out) hb)))))))))
         clear HO358 HO366 HO372 HO376 HO382 BK349 BK350 HB
         obtain ⟨HO358, HO366, HO372, HO376, HO382, HO386, BK349, BK350, HB⟩ := z_
         (try clear hb)
         (try clear hb2)
         (try clear hk)
         (try clear hi)
         (try clear ho0)
         obtain ⟨Ao93, co93, eo93⟩ := Kd.R_slice HO382.out
         (first | subst eo93 | (injection eo93 with f1_ f2_ f3_; have f4_ := f1_.symm; have f5_ := f3_.symm; clear f1_ f2_ f3_; subst f4_; subst f5_))
         obtain ⟨Ao94, co94, eo94⟩ := Kd.R_slice HO386.out
         (first | subst eo94 | (injection eo94 with f1_ f2_ f3_; have f4_ := f1_.symm; have f5_ := f3_.symm; clear f1_ f2_ f3_; subst f4_; subst f5_))
         refine hK.out _ _ ⟨(blk_cell BK349.out 0).trans rfl, (blk_cell BK349.out 1).trans rfl, (blk_cell BK350.out 0).trans rfl, (blk_cell BK350.out 1).trans rfl⟩ (fun hHeld => ?_)
         clear hK K
         refine norm_ (a' := ?_) ?_ ?_
         rotate_left
         ·
          show Act.put _ (some 54) _ = _
          simp only [Act.put, List.setIfInBounds_toArray, List.set_cons_zero, List.set_cons_succ, i64_w, i32_w]
          rfl
         refine one_ (i := 22) (N := some 55) #[true, true, true, true, true, true, true, true, true, true, true, true, true, true, true, true, true, true, true, true, true, true, true, false, false, false, false, false, false, false, false, false, false, false, false, false, false, false, false, false, false, false, false] rfl rfl (one_of HT_.out (by kernel_rfl)) (by decide) (fun K hK => ?_)
         refine goes_ Tryd.func24 (by kernel_rfl) rfl #[.agg #[.string t379, .slice Ao93 t380.length co93], .agg #[.string t383, .slice Ao94 t384.length co94]] (by rfl) rfl rfl (by (try simp only [List.map_toArray, List.map_cons, List.map_nil]); first | done | rfl | (simp only [List.length_drop, List.length_take]; rfl)) ?_
         with_reducible refine (tariff_Equal.calls kj2 t379 _ _ t380 t383 _ _ t384 true _ ?side1 ?side2 ?side3 ?side4 A39.out).mono ?_
         (case side1 => exact mc_ (Kd.R_reads' HO382.out).2.2)
         (case side2 => exact (Kd.R_reads' HO382.out).2.1)
         (case side3 => exact mc_ (Kd.R_reads' HO386.out).2.2)
         (case side4 => exact (Kd.R_reads' HO386.out).2.1)
         rintro e w95 ⟨rfl, hb⟩
         refine ⟨_, rfl, ?_⟩
         have z_ := aI (am_ (Kd.R_below (mr_ HO358.out) hb)) (aI (am_ (Kd.R_below (mr_ HO366.out) hb)) (aI (am_ (Kd.R_below (mr_ HO372.out) hb)) (aI (am_ (Kd.R_below (mr_ HO376.out) hb)) (aI (am_ (Kd.R_below (mr_ HO382.out) hb)) (aI (am_ (Kd.R_below (mr_ HO386.out) hb)) (aI (am_ (blk_below (mk_ BK349.out) hb)) (aI (am_ (blk_below (mk_ BK350.out) hb)) (am_ (below_step (mb_ HB.out) hb)))))))))
         clear HO358 HO366 HO372 HO376 HO382 HO386 BK349 BK350 HB
         obtain ⟨HO358, HO366, HO372, HO376, HO382, HO386, BK349, BK350, HB⟩ := z_
         (try clear hb)
         (try clear hb2)
         (try clear hk)
         (try clear hi)
         refine hK.out _ _ ⟨(blk_cell BK349.out 0).trans rfl, (blk_cell BK349.out 1).trans rfl, (blk_cell BK350.out 0).trans rfl, (blk_cell BK350.out 1).trans rfl⟩ (fun hHeld => ?_)
         clear hK K
         refine norm_ (a' := ?_) ?_ ?_
         rotate_left
         ·
          show Act.put _ (some 55) _ = _
          simp only [Act.put, List.setIfInBounds_toArray, List.set_cons_zero, List.set_cons_succ, i64_w, i32_w]
          rfl
         refine ltd (o := [0, 1, 2, 3, 4, 5, 6, 7, 8, 9, 10, 11, 12, 13, 14, 15, 16, 17, 18, 19, 20, 21, 22, 23, 24, 25, 28]) (n := 23) (m := 43) (by kernel_rfl) ?_
         iterate 4 (first | (refine tnd (v := ?_) (a' := ?_) rfl rfl (take_ofW HT_.out HW_.out (by kernel_rfl)) (fun _ _ _ h => h) (Or.inl ⟨by rfl, ?_⟩) hHeld ?_ ?_; rotate_left; (· (rintro w' ⟨s0, s1, s2, s3⟩; go_simp; with_reducible rfl)); rotate_left; (· (show Act.put _ (some _) _ = _; simp only [Act.put, List.setIfInBounds_toArray, List.set_cons_zero, List.set_cons_succ, i64_w, i32_w]; rfl))) | (refine pnd (v := ?_) (a' := ?_) rfl rfl (any_of HT_.out (by kernel_rfl)) (fun _ _ _ h => h) (Or.inl ⟨by rfl, ?_⟩) ?_ ?_; rotate_left; (· (intro w'; go_simp; with_reducible rfl)); rotate_left; (· (show Act.put _ (some _) _ = _; simp only [Act.put, List.setIfInBounds_toArray, List.set_cons_zero, List.set_cons_succ, i64_w, i32_w]; rfl))))
         refine one_ (i := 26) (N := some 59) #[true, true, true, true, true, true, true, true, true, true, true, true, true, true, true, true, true, true, true, true, true, true, true, true, true, true, true, false, true, false, false, false, false, false, false, false, false, false, false, false, false, false, false] rfl rfl (one_of HT_.out (by kernel_rfl)) (by decide) (fun K hK => ?_)
         refine goes_ Tryd.func16 (by kernel_rfl) rfl #[.agg #[.string a0_0, .slice A0_1 l0_1.length c0_1]] (by rfl) rfl rfl (by (try simp only [List.map_toArray, List.map_cons, List.map_nil]); first | done | rfl | (simp only [List.length_drop, List.length_take]; rfl)) ?_
         with_reducible refine (culetlaw44_Own.calls kj2 a0_0 _ _ l0_1 t388 t389 _ ?side1 ?side2 A41.out).mono ?_
         (case side1 => exact mc_ (Kd.C_below HR0_1.out HB.out))
         (case side2 => exact HC0_1.out)
         rintro e w96 ⟨v390, rfl, ho0, hb⟩
         refine ⟨_, rfl, ?_⟩
         have z_ := aI (am_ (Kd.R_elder' (mr_ HO358.out) (Kd.R_base ho0) hb)) (aI (am_ (Kd.R_elder' (mr_ HO366.out) (Kd.R_base ho0) hb)) (aI (am_ (Kd.R_elder' (mr_ HO372.out) (Kd.R_base ho0) hb)) (aI (am_ (Kd.R_elder' (mr_ HO376.out) (Kd.R_base ho0) hb)) (aI (am_ (Kd.R_elder' (mr_ HO382.out) (Kd.R_base ho0) hb)) (aI (am_ (Kd.R_elder' (mr_ HO386.out) (Kd.R_base ho0) hb)) (aI (am_ (Kd.R_lower (Kd.R_new' (Kd.R_new' (Kd.R_new' (Kd.R_new' (Kd.R_new' (Kd.R_new' ho0 (Kd.R_lt (mr_ HO358.out))) (Kd.R_lt (mr_ HO366.out))) (Kd.R_lt (mr_ HO372.out))) (Kd.R_lt (mr_ HO376.out))) (Kd.R_lt (mr_ HO382.out))) (Kd.R_lt (mr_ HO386.out))) (below_size (mb_ HB.out)))) (aI (am_ (blk_below (mk_ BK349.out) hb)) (aI (am_ (blk_below (mk_ BK350.out) hb)) (am_ (below_step (mb_ HB.out) hb))))))))))
         clear HO358 HO366 HO372 HO376 HO382 HO386 BK349 BK350 HB
         obtain ⟨HO358, HO366, HO372, HO376, HO382, HO386, HO391, BK349, BK350, HB⟩ := z_
         (try clear hb)
         (try clear hb2)
         (try clear hk)
         (try clear hi)
         (try clear ho0)
         obtain ⟨Ao97, co97, eo97⟩ := Kd.R_slice HO391.out
         (first | subst eo97 | (injection eo97 with f1_ f2_ f3_; have f4_ := f1_.symm; have f5_ := f3_.symm; clear f1_ f2_ f3_; subst f4_; subst f5_))
         refine hK.out _ _ ⟨(blk_cell BK349.out 0).trans rfl, (blk_cell BK349.out 1).trans rfl, (blk_cell BK350.out 0).trans rfl, (blk_cell BK350.out 1).trans rfl⟩ (fun hHeld => ?_)
         clear hK K
         refine norm_ (a' := ?_) ?_ ?_
         rotate_left
         ·
          show Act.put _ (some 59) _ = _
          simp only [Act.put, List.setIfInBounds_toArray, List.set_cons_zero, List.set_cons_succ, i64_w, i32_w]
          rfl
         refine one_ (i := 27) (N := some 60) #[true, true, true, true, true, true, true, true, true, true, true, true, true, true, true, true, true, true, true, true, true, true, true, true, true, true, true, true, true, false, false, false, false, false, false, false, false, false, false, false, false, false, false] rfl rfl (one_of HT_.out (by kernel_rfl)) (by decide) (fun K hK => ?_)
         refine goes_ Tryd.func19 (by kernel_rfl) rfl #[.agg #[.string t388, .slice Ao97 t389.length co97]] (by rfl) rfl rfl (by (try simp only [List.map_toArray, List.map_cons, List.map_nil]); first | done | rfl | (simp only [List.length_drop, List.length_take]; rfl)) ?_
         with_reducible refine (tariff_Fair.calls kj2 t388 _ _ t389 t392 _ ?side1 ?side2 A42.out).mono ?_
         (case side1 => exact mc_ (Kd.R_reads' HO391.out).2.2)
         (case side2 => exact (Kd.R_reads' HO391.out).2.1)
         rintro e w98 ⟨rfl, hb⟩
         refine ⟨_, rfl, ?_⟩
         have z_ := aI (am_ (Kd.R_below (mr_ HO358.out) hb)) (aI (am_ (Kd.R_below (mr_ HO366.out) hb)) (aI (am_ (Kd.R_below (mr_ HO372.out) hb)) (aI (am_ (Kd.R_below (mr_ HO376.out) hb)) (aI (am_ (Kd.R_below (mr_ HO382.out) hb)) (aI (am_ (Kd.R_below (mr_ HO386.out) hb)) (aI (am_ (Kd.R_below (mr_ HO391.out) hb)) (aI (am_ (blk_below (mk_ BK349.out) hb)) (aI (am_ (blk_below (mk_ BK350.out) hb)) (am_ (below_step (mb_ HB.out) hb))))))))))
         clear HO358 HO366 HO372 HO376 HO382 HO386 HO391 BK349 BK350 HB
         obtain ⟨HO358, HO366, HO372, HO376, HO382, HO386, HO391, BK349, BK350, HB⟩ := z_
         (try clear hb)
         (try clear hb2)
         (try clear hk)
         (try clear hi)
         refine hK.out _ _ ⟨(blk_cell BK349.out 0).trans rfl, (blk_cell BK349.out 1).trans rfl, (blk_cell BK350.out 0).trans rfl, (blk_cell BK350.out 1).trans rfl⟩ (fun hHeld => ?_)
         clear hK K
         refine norm_ (a' := ?_) ?_ ?_
         rotate_left
         ·
          show Act.put _ (some 60) _ = _
          simp only [Act.put, List.setIfInBounds_toArray, List.set_cons_zero, List.set_cons_succ, i64_w, i32_w]
          rfl
         refine one_ (i := 29) (N := some 62) #[true, true, true, true, true, true, true, true, true, true, true, true, true, true, true, true, true, true, true, true, true, true, true, true, true, true, true, true, true, true, false, false, false, false, false, false, false, false, false, false, false, false, false] rfl rfl (one_of HT_.out (by kernel_rfl)) (by decide) (fun K hK => ?_)
         refine goes_ Tryd.func25 (by kernel_rfl) rfl #[.agg #[.string a0_0, .slice A0_1 l0_1.length c0_1]] (by rfl) rfl rfl (by (try simp only [List.map_toArray, List.map_cons, List.map_nil]); first | done | rfl | (simp only [List.length_drop, List.length_take]; rfl)) ?_
         with_reducible refine (culetref44_Fair.calls kj2 a0_0 _ _ l0_1 t393 _ ?side1 ?side2 A43.out).mono ?_
         (case side1 => exact mc_ (Kd.C_below HR0_1.out HB.out))
         (case side2 => exact HC0_1.out)
         rintro e w99 ⟨rfl, hb⟩
         refine ⟨_, rfl, ?_⟩
         have z_ := aI (am_ (Kd.R_below (mr_ HO358.out) hb)) (aI (am_ (Kd.R_below (mr_ HO366.out) hb)) (aI (am_ (Kd.R_below (mr_ HO372.out) hb)) (aI (am_ (Kd.R_below (mr_ HO376.out) hb)) (aI (am_ (Kd.R_below (mr_ HO382.out) hb)) (aI (am_ (Kd.R_below (mr_ HO386.out) hb)) (aI (am_ (Kd.R_below (mr_ HO391.out) hb)) (aI (am_ (blk_below (mk_ BK349.out) hb)) (aI (am_ (blk_below (mk_ BK350.out) hb)) (am_ (below_step (mb_ HB.out) hb))))))))))
         clear HO358 HO366 HO372 HO376 HO382 HO386 HO391 BK349 BK350 HB
         obtain ⟨HO358, HO366, HO372, HO376, HO382, HO386, HO391, BK349, BK350, HB⟩ := z_
         (try clear hb)
         (try clear hb2)
         (try clear hk)
         (try clear hi)
         refine hK.out _ _ ⟨(blk_cell BK349.out 0).trans rfl, (blk_cell BK349.out 1).trans rfl, (blk_cell BK350.out 0).trans rfl, (blk_cell BK350.out 1).trans rfl⟩ (fun hHeld => ?_)
         clear hK K
         refine norm_ (a' := ?_) ?_ ?_
         rotate_left
         ·
          show Act.put _ (some 62) _ = _
          simp only [Act.put, List.setIfInBounds_toArray, List.set_cons_zero, List.set_cons_succ, i64_w, i32_w]
          rfl
         refine ltd (o := [0, 1, 2, 3, 4, 5, 6, 7, 8, 9, 10, 11, 12, 13, 14, 15, 16, 17, 18, 19, 20, 21, 22, 23, 24, 25, 26, 27, 28, 29, 30, 31, 32, 33, 34, 35, 36, 37, 38, 39, 40, 41, 42]) (n := 30) (m := 43) (by kernel_rfl) ?_
         iterate 13 (first | (refine pnd rfl rfl (any_of HT_.out (by kernel_rfl)) (fun _ _ _ h => h) (Or.inr ⟨by rfl, rfl⟩) (a' := ?_) ?_ ?_; rotate_left; (· (show Act.put _ (some _) _ = _; simp only [Act.put, List.setIfInBounds_toArray, List.set_cons_zero, List.set_cons_succ, i64_w, i32_w]; rfl))) | (refine pnd (v := ?_) (a' := ?_) rfl rfl (any_of HT_.out (by kernel_rfl)) (fun _ _ _ h => h) (Or.inl ⟨by rfl, ?_⟩) ?_ ?_; rotate_left; (· (intro w'; go_simp; with_reducible rfl)); rotate_left; (· (show Act.put _ (some _) _ = _; simp only [Act.put, List.setIfInBounds_toArray, List.set_cons_zero, List.set_cons_succ, i64_w, i32_w]; rfl))))
         refine done_ (done_of HT_.out (by kernel_rfl)) ?_
         try go_wp2
         go_ret
         exact ⟨by first | rfl | (simp [errW_none, errW_some] <;> rfl) | (simp [*, errW_none, errW_some] <;> rfl), mb_ HB.out⟩
       ·
        rw [if_neg c44] at H
        have c44b0 : (t392 == t393) = false := by simpa using c44
        (try (have c44b1 : decide (t392 = t393) = false := by simpa using c44))
        (try (have c44b2 : (t392 == t393) = false := by simpa using c44))
        (try (have c44b3 : ¬ (t392 = t393) := by simpa using c44))
        clear c44
        obtain rfl := Option.some.inj H
        have hnb100 := NB349_350.out
        have hnc100 := NB350_349.out
        have hcz101_0 : wc.cell? ⟨gb349, 0, none⟩ = some (.string a0_0) := (blk_cell BK349.out 0).trans rfl
        have hcz101_1 : wc.cell? ⟨gb349, 1, none⟩ = some (.slice A0_1 l0_1.length c0_1) := (blk_cell BK349.out 1).trans rfl
        have hfz101_0 := blk_frozen BK349.out 0
        have hfz101_1 := blk_frozen BK349.out 1
        try go_wp2_with (first | ((with_reducible refine gate_callee (f := 16) rfl ?_); refine goesL_ (some 24) rfl rfl Tryd.func16 (by kernel_rfl) rfl #[.agg #[.string a0_0, .slice A0_1 l0_1.length c0_1]] rfl (by (try simp only [List.map_toArray, List.map_cons, List.map_nil]); first | done | rfl | (simp only [List.length_drop, List.length_take]; rfl)) ?_; (with_reducible refine (culetlaw44_Own.calls kj2 a0_0 _ _ l0_1 t355 t356 _ ?side1 ?side2 A25.out).mono ?_); (case side1 => exact mc_ (Kd.C_below HR0_1.out HB.out)); (case side2 => exact HC0_1.out); rintro e w102 ⟨v357, rfl, ho0, hb⟩; refine ⟨_, rfl, ?_⟩; have z_ := aI (am_ (Kd.R_lower ho0 (below_size (mb_ HB.out)))) (aI (am_ (blk_below (mk_ BK349.out) hb)) (aI (am_ (blk_below (mk_ BK350.out) hb)) (am_ (below_step (mb_ HB.out) hb)))); clear BK349 BK350 HB; obtain ⟨HO358, BK349, BK350, HB⟩ := z_; (try clear hb); (try clear hb2); (try clear hk); (try clear hi); (try clear ho0); obtain ⟨Ao103, co103, eo103⟩ := Kd.R_slice HO358.out; subst eo103) | ((with_reducible refine gate_callee (f := 15) rfl ?_); refine goesL_ (some 25) rfl rfl Tryd.func15 (by kernel_rfl) rfl #[.agg #[.string t355, .slice Ao103 t356.length co103]] rfl (by (try simp only [List.map_toArray, List.map_cons, List.map_nil]); first | done | rfl | (simp only [List.length_drop, List.length_take]; rfl)) ?_; (with_reducible refine (tariff_Print.calls kj2 t355 _ _ t356 t359 t360 _ (HTW.out.at (mb_ HB.out)) ?side1 ?side2 A26.out).mono ?_); (case side1 => exact mc_ (Kd.R_reads' HO358.out).2.2); (case side2 => exact (Kd.R_reads' HO358.out).2.1); rintro e w104 ⟨rfl, hb⟩; refine ⟨_, rfl, ?_⟩; have z_ := aI (am_ (Kd.R_below (mr_ HO358.out) hb)) (aI (am_ (blk_below (mk_ BK349.out) hb)) (aI (am_ (blk_below (mk_ BK350.out) hb)) (am_ (below_step (mb_ HB.out) hb)))); clear HO358 BK349 BK350 HB; obtain ⟨HO358, BK349, BK350, HB⟩ := z_; (try clear hb); (try clear hb2); (try clear hk); (try clear hi); have hcz105_0 : w104.cell? ⟨gb349, 0, none⟩ = some (.string a0_0) := (blk_cell BK349.out 0).trans rfl; have hcz105_1 : w104.cell? ⟨gb349, 1, none⟩ = some (.slice A0_1 l0_1.length c0_1) := (blk_cell BK349.out 1).trans rfl; have hfz105_0 := blk_frozen BK349.out 0; have hfz105_1 := blk_frozen BK349.out 1) | ((with_reducible refine gate_callee (f := 22) rfl ?_); refine goesL_ (some 30) rfl rfl Tryd.func22 (by kernel_rfl) rfl #[.agg #[.string a0_0, .slice A0_1 l0_1.length c0_1]] rfl (by (try simp only [List.map_toArray, List.map_cons, List.map_nil]); first | done | rfl | (simp only [List.length_drop, List.length_take]; rfl)) ?_; (with_reducible refine (culetref44_Print.calls kj2 a0_0 _ _ l0_1 t361 t362 _ ?side1 ?side2 A27.out).mono ?_); (case side1 => exact mc_ (Kd.C_below HR0_1.out HB.out)); (case side2 => exact HC0_1.out); rintro e w106 ⟨rfl, hb⟩; refine ⟨_, rfl, ?_⟩; have z_ := aI (am_ (Kd.R_below (mr_ HO358.out) hb)) (aI (am_ (blk_below (mk_ BK349.out) hb)) (aI (am_ (blk_below (mk_ BK350.out) hb)) (am_ (below_step (mb_ HB.out) hb)))); clear HO358 BK349 BK350 HB; obtain ⟨HO358, BK349, BK350, HB⟩ := z_; (try clear hb); (try clear hb2); (try clear hk); (try clear hi)))
        have z_ := aI (am_ (Kd.R_drew HO358.out)) (aI (am_ (blk_drew BK349.out)) (aI (am_ (blk_drew BK350.out)) (am_ (below_drew1 HB.out))))
        clear HO358 BK349 BK350 HB
        obtain ⟨HO358, BK349, BK350, HB⟩ := z_
        refine start_ (n := 43) (S := fun w' => w'.cell? ⟨gb349, 0, none⟩ = some (.string a0_0) ∧ w'.cell? ⟨gb349, 1, none⟩ = some (.slice A0_1 l0_1.length c0_1) ∧ w'.cell? ⟨gb350, 0, none⟩ = some (.string a1_0) ∧ w'.cell? ⟨gb350, 1, none⟩ = some (.slice A1_1 l1_1.length c1_1)) (ds := []) #[false, false, false, false, false, false, false, false, false, false, false, false, false, false, false, false, false, false, false, false, false, false, false, false, false, false, false, false, false, false, false, false, false, false, false, false, false, false, false, false, false, false, false] (by kernel_rfl) rfl rfl ⟨(blk_cell BK349.out 0).trans rfl, (blk_cell BK349.out 1).trans rfl, (blk_cell BK350.out 0).trans rfl, (blk_cell BK350.out 1).trans rfl⟩ (fun hHeld => ?_); refine with_tabW culetlaw44_TariffForms.tab5 culetlaw44_TariffForms.bits5 (fun HT_ HW_ => ?_)
        generalize w106.drew = w107 at HO358 BK349 BK350 HB hHeld ⊢
        refine take_ (i := 0) (N := some 33) (v := ?_) (a' := ?_) #[true, false, false, false, false, false, false, false, false, false, false, false, false, false, false, false, false, false, false, false, false, false, false, false, false, false, false, false, false, false, false, false, false, false, false, false, false, false, false, false, false, false, false] rfl rfl (take_ofW HT_.out HW_.out (by kernel_rfl)) (fun _ _ _ h => h) (Or.inl ⟨by rfl, ?_⟩) hHeld ?_ ?_
        rotate_left
        ·
         rintro w' ⟨s0, s1, s2, s3⟩
         go_simp
         with_reducible rfl
        rotate_left
        ·
         simp only [Act.put, List.setIfInBounds_toArray, List.set_cons_zero, List.set_cons_succ, i64_w, i32_w]
         rfl
        refine take_ (i := 3) (N := some 36) (v := ?_) (a' := ?_) #[true, false, false, true, false, false, false, false, false, false, false, false, false, false, false, false, false, false, false, false, false, false, false, false, false, false, false, false, false, false, false, false, false, false, false, false, false, false, false, false, false, false, false] rfl rfl (take_ofW HT_.out HW_.out (by kernel_rfl)) (fun _ _ _ h => h) (Or.inl ⟨by rfl, ?_⟩) hHeld ?_ ?_
        rotate_left
        ·
         rintro w' ⟨s0, s1, s2, s3⟩
         go_simp
         with_reducible rfl
        rotate_left
        ·
         simp only [Act.put, List.setIfInBounds_toArray, List.set_cons_zero, List.set_cons_succ, i64_w, i32_w]
         rfl
        refine one_ (i := 1) (N := some 34) #[true, true, false, true, false, false, false, false, false, false, false, false, false, false, false, false, false, false, false, false, false, false, false, false, false, false, false, false, false, false, false, false, false, false, false, false, false, false, false, false, false, false, false] rfl rfl (one_of HT_.out (by kernel_rfl)) (by decide) (fun K hK => ?_)
        refine goes_ Tryd.func16 (by kernel_rfl) rfl #[.agg #[.string a0_0, .slice A0_1 l0_1.length c0_1]] (by rfl) rfl rfl (by (try simp only [List.map_toArray, List.map_cons, List.map_nil]); first | done | rfl | (simp only [List.length_drop, List.length_take]; rfl)) ?_
        with_reducible refine (culetlaw44_Own.calls kj2 a0_0 _ _ l0_1 t363 t364 _ ?side1 ?side2 A28.out).mono ?_
        (case side1 => exact mc_ (Kd.C_below HR0_1.out HB.out))
        (case side2 => exact HC0_1.out)
        rintro e w108 ⟨v365, rfl, ho0, hb⟩
        refine ⟨_, rfl, ?_⟩
        have z_ := aI (am_ (Kd.R_elder' (mr_ HO358.out) (Kd.R_base ho0) hb)) (aI (am_ (Kd.R_lower (Kd.R_new' ho0 (Kd.R_lt (mr_ HO358.out))) (below_size (mb_ HB.out)))) (aI (am_ (blk_below (mk_ BK349.out) hb)) (aI (am_ (blk_below (mk_ BK350.out) hb)) (am_ (below_step (mb_ HB.out) hb)))))
        clear HO358 BK349 BK350 HB
        obtain ⟨HO358, HO366, BK349, BK350, HB⟩ := z_
        (try clear hb)
        (try clear hb2)
        (try clear hk)
        (try clear hi)
        (try clear ho0)
        obtain ⟨Ao109, co109, eo109⟩ := Kd.R_slice HO366.out
        (first | subst eo109 | (injection eo109 with f1_ f2_ f3_; have f4_ := f1_.symm; have f5_ := f3_.symm; clear f1_ f2_ f3_; subst f4_; subst f5_))
        refine hK.out _ _ ⟨(blk_cell BK349.out 0).trans rfl, (blk_cell BK349.out 1).trans rfl, (blk_cell BK350.out 0).trans rfl, (blk_cell BK350.out 1).trans rfl⟩ (fun hHeld => ?_)
        clear hK K
        refine norm_ (a' := ?_) ?_ ?_
        rotate_left
        ·
         show Act.put _ (some 34) _ = _
         simp only [Act.put, List.setIfInBounds_toArray, List.set_cons_zero, List.set_cons_succ, i64_w, i32_w]
         rfl
        refine one_ (i := 2) (N := some 35) #[true, true, true, true, false, false, false, false, false, false, false, false, false, false, false, false, false, false, false, false, false, false, false, false, false, false, false, false, false, false, false, false, false, false, false, false, false, false, false, false, false, false, false] rfl rfl (one_of HT_.out (by kernel_rfl)) (by decide) (fun K hK => ?_)
        refine goes_ Tryd.func23 (by kernel_rfl) rfl #[.agg #[.string t363, .slice Ao109 t364.length co109]] (by rfl) rfl rfl (by (try simp only [List.map_toArray, List.map_cons, List.map_nil]); first | done | rfl | (simp only [List.length_drop, List.length_take]; rfl)) ?_
        with_reducible refine (tariff_Valid.calls kj2 t363 _ _ t364 t367 _ ?side1 ?side2 A29.out).mono ?_
        (case side1 => exact mc_ (Kd.R_reads' HO366.out).2.2)
        (case side2 => exact (Kd.R_reads' HO366.out).2.1)
        rintro e w110 ⟨rfl, hb⟩
        refine ⟨_, rfl, ?_⟩
        have z_ := aI (am_ (Kd.R_below (mr_ HO358.out) hb)) (aI (am_ (Kd.R_below (mr_ HO366.out) hb)) (aI (am_ (blk_below (mk_ BK349.out) hb)) (aI (am_ (blk_below (mk_ BK350.out) hb)) (am_ (below_step (mb_ HB.out) hb)))))
        clear HO358 HO366 BK349 BK350 HB
        obtain ⟨HO358, HO366, BK349, BK350, HB⟩ := z_
        (try clear hb)
        (try clear hb2)
        (try clear hk)
        (try clear hi)
        refine hK.out _ _ ⟨(blk_cell BK349.out 0).trans rfl, (blk_cell BK349.out 1).trans rfl, (blk_cell BK350.out 0).trans rfl, (blk_cell BK350.out 1).trans rfl⟩ (fun hHeld => ?_)
        clear hK K
        refine norm_ (a' := ?_) ?_ ?_
        rotate_left
        ·
         show Act.put _ (some 35) _ = _
         simp only [Act.put, List.setIfInBounds_toArray, List.set_cons_zero, List.set_cons_succ, i64_w, i32_w]
         rfl
        refine one_ (i := 4) (N := some 37) #[true, true, true, true, true, false, false, false, false, false, false, false, false, false, false, false, false, false, false, false, false, false, false, false, false, false, false, false, false, false, false, false, false, false, false, false, false, false, false, false, false, false, false] rfl rfl (one_of HT_.out (by kernel_rfl)) (by decide) (fun K hK => ?_)
        refine goes_ Tryd.func17 (by kernel_rfl) rfl #[.agg #[.string a0_0, .slice A0_1 l0_1.length c0_1]] (by rfl) rfl rfl (by (try simp only [List.map_toArray, List.map_cons, List.map_nil]); first | done | rfl | (simp only [List.length_drop, List.length_take]; rfl)) ?_
        with_reducible refine (culetref44_Valid.calls kj2 a0_0 _ _ l0_1 t368 _ ?side1 ?side2 A30.out).mono ?_
        (case side1 => exact mc_ (Kd.C_below HR0_1.out HB.out))
        (case side2 => exact HC0_1.out)
        rintro e w111 ⟨rfl, hb⟩
        refine ⟨_, rfl, ?_⟩
        have z_ := aI (am_ (Kd.R_below (mr_ HO358.out) hb)) (aI (am_ (Kd.R_below (mr_ HO366.out) hb)) (aI (am_ (blk_below (mk_ BK349.out) hb)) (aI (am_ (blk_below (mk_ BK350.out) hb)) (am_ (below_step (mb_ HB.out) hb)))))
        clear HO358 HO366 BK349 BK350 HB
        obtain ⟨HO358, HO366, BK349, BK350, HB⟩ := z_
        (try clear hb)
        (try clear hb2)
        (try clear hk)
        (try clear hi)
        refine hK.out _ _ ⟨(blk_cell BK349.out 0).trans rfl, (blk_cell BK349.out 1).trans rfl, (blk_cell BK350.out 0).trans rfl, (blk_cell BK350.out 1).trans rfl⟩ (fun hHeld => ?_)
        clear hK K
        refine norm_ (a' := ?_) ?_ ?_
        rotate_left
        ·
         show Act.put _ (some 37) _ = _
         simp only [Act.put, List.setIfInBounds_toArray, List.set_cons_zero, List.set_cons_succ, i64_w, i32_w]
         rfl
        refine ltd (o := [0, 1, 2, 3, 4, 5, 6, 7, 9, 12, 13]) (n := 5) (m := 43) (by kernel_rfl) ?_
        iterate 6 (first | (refine tnd (v := ?_) (a' := ?_) rfl rfl (take_ofW HT_.out HW_.out (by kernel_rfl)) (fun _ _ _ h => h) (Or.inl ⟨by rfl, ?_⟩) hHeld ?_ ?_; rotate_left; (· (rintro w' ⟨s0, s1, s2, s3⟩; go_simp; with_reducible rfl)); rotate_left; (· (show Act.put _ (some _) _ = _; simp only [Act.put, List.setIfInBounds_toArray, List.set_cons_zero, List.set_cons_succ, i64_w, i32_w]; rfl))) | (refine pnd (v := ?_) (a' := ?_) rfl rfl (any_of HT_.out (by kernel_rfl)) (fun _ _ _ h => h) (Or.inl ⟨by rfl, ?_⟩) ?_ ?_; rotate_left; (· (intro w'; go_simp; with_reducible rfl)); rotate_left; (· (show Act.put _ (some _) _ = _; simp only [Act.put, List.setIfInBounds_toArray, List.set_cons_zero, List.set_cons_succ, i64_w, i32_w]; rfl))))
        refine one_ (i := 8) (N := some 41) #[true, true, true, true, true, true, true, true, true, true, false, false, true, true, false, false, false, false, false, false, false, false, false, false, false, false, false, false, false, false, false, false, false, false, false, false, false, false, false, false, false, false, false] rfl rfl (one_of HT_.out (by kernel_rfl)) (by decide) (fun K hK => ?_)
        refine goes_ Tryd.func16 (by kernel_rfl) rfl #[.agg #[.string a0_0, .slice A0_1 l0_1.length c0_1]] (by rfl) rfl rfl (by (try simp only [List.map_toArray, List.map_cons, List.map_nil]); first | done | rfl | (simp only [List.length_drop, List.length_take]; rfl)) ?_
        with_reducible refine (culetlaw44_Own.calls kj2 a0_0 _ _ l0_1 t369 t370 _ ?side1 ?side2 A32.out).mono ?_
        (case side1 => exact mc_ (Kd.C_below HR0_1.out HB.out))
        (case side2 => exact HC0_1.out)
        rintro e w112 ⟨v371, rfl, ho0, hb⟩
        refine ⟨_, rfl, ?_⟩
        have z_ := aI (am_ (Kd.R_elder' (mr_ HO358.out) (Kd.R_base ho0) hb)) (aI (am_ (Kd.R_elder' (mr_ HO366.out) (Kd.R_base ho0) hb)) (aI (am_ (Kd.R_lower (Kd.R_new' (Kd.R_new' ho0 (Kd.R_lt (mr_ HO358.out))) (Kd.R_lt (mr_ HO366.out))) (below_size (mb_ HB.out)))) (aI (am_ (blk_below (mk_ BK349.out) hb)) (aI (am_ (blk_below (mk_ BK350.out) hb)) (am_ (below_step (mb_ HB.out) hb))))))
        clear HO358 HO366 BK349 BK350 HB
        obtain ⟨HO358, HO366, HO372, BK349, BK350, HB⟩ := z_
        (try clear hb)
        (try clear hb2)
        (try clear hk)
        (try clear hi)
        (try clear ho0)
        refine hK.out _ _ ⟨(blk_cell BK349.out 0).trans rfl, (blk_cell BK349.out 1).trans rfl, (blk_cell BK350.out 0).trans rfl, (blk_cell BK350.out 1).trans rfl⟩ (fun hHeld => ?_)
        clear hK K
        refine norm_ (a' := ?_) ?_ ?_
        rotate_left
        ·
         show Act.put _ (some 41) _ = _
         simp only [Act.put, List.setIfInBounds_toArray, List.set_cons_zero, List.set_cons_succ, i64_w, i32_w]
         rfl
        refine one_ (i := 10) (N := some 43) #[true, true, true, true, true, true, true, true, true, true, true, false, true, true, false, false, false, false, false, false, false, false, false, false, false, false, false, false, false, false, false, false, false, false, false, false, false, false, false, false, false, false, false] rfl rfl (one_of HT_.out (by kernel_rfl)) (by decide) (fun K hK => ?_)
        refine goes_ Tryd.func16 (by kernel_rfl) rfl #[.agg #[.string a1_0, .slice A1_1 l1_1.length c1_1]] (by rfl) rfl rfl (by (try simp only [List.map_toArray, List.map_cons, List.map_nil]); first | done | rfl | (simp only [List.length_drop, List.length_take]; rfl)) ?_
        with_reducible refine (culetlaw44_Own.calls kj2 a1_0 _ _ l1_1 t373 t374 _ ?side1 ?side2 A33.out).mono ?_
        (case side1 => exact mc_ (Kd.C_below HR1_1.out HB.out))
        (case side2 => exact HC1_1.out)
        rintro e w113 ⟨v375, rfl, ho0, hb⟩
        refine ⟨_, rfl, ?_⟩
        have z_ := aI (am_ (Kd.R_elder' (mr_ HO358.out) (Kd.R_base ho0) hb)) (aI (am_ (Kd.R_elder' (mr_ HO366.out) (Kd.R_base ho0) hb)) (aI (am_ (Kd.R_elder' (mr_ HO372.out) (Kd.R_base ho0) hb)) (aI (am_ (Kd.R_lower (Kd.R_new' (Kd.R_new' (Kd.R_new' ho0 (Kd.R_lt (mr_ HO358.out))) (Kd.R_lt (mr_ HO366.out))) (Kd.R_lt (mr_ HO372.out))) (below_size (mb_ HB.out)))) (aI (am_ (blk_below (mk_ BK349.out) hb)) (aI (am_ (blk_below (mk_ BK350.out) hb)) (am_ (below_step (mb_ HB.out) hb)))))))
        clear HO358 HO366 HO372 BK349 BK350 HB
        obtain ⟨HO358, HO366, HO372, HO376, BK349, BK350, HB⟩ := z_
        (try clear hb)
        (try clear hb2)
        (try clear hk)
        (try clear hi)
        (try clear ho0)
        obtain ⟨Ao114, co114, eo114⟩ := Kd.R_slice HO372.out
        (first | subst eo114 | (injection eo114 with f1_ f2_ f3_; have f4_ := f1_.symm; have f5_ := f3_.symm; clear f1_ f2_ f3_; subst f4_; subst f5_))
        obtain ⟨Ao115, co115, eo115⟩ := Kd.R_slice HO376.out
        (first | subst eo115 | (injection eo115 with f1_ f2_ f3_; have f4_ := f1_.symm; have f5_ := f3_.symm; clear f1_ f2_ f3_; subst f4_; subst f5_))
        refine hK.out _ _ ⟨(blk_cell BK349.out 0).trans rfl, (blk_cell BK349.out 1).trans rfl, (blk_cell BK350.out 0).trans rfl, (blk_cell BK350.out 1).trans rfl⟩ (fun hHeld => ?_)
        clear hK K
        refine norm_ (a' := ?_) ?_ ?_
        rotate_left
        ·
         show Act.put _ (some 43) _ = _
         simp only [Act.put, List.setIfInBounds_toArray, List.set_cons_zero, List.set_cons_succ, i64_w, i32_w]
         rfl
        refine one_ (i := 11) (N := some 44) #[true, true, true, true, true, true, true, true, true, true, true, true, true, true, false, false, false, false, false, false, false, false, false, false, false, false, false, false, false, false, false, false, false, false, false, false, false, false, false, false, false, false, false] rfl rfl (one_of HT_.out (by kernel_rfl)) (by decide) (fun K hK => ?_)
        refine goes_ Tryd.func24 (by kernel_rfl) rfl #[.agg #[.string t369, .slice Ao114 t370.length co114], .agg #[.string t373, .slice Ao115 t374.length co115]] (by rfl) rfl rfl (by (try simp only [List.map_toArray, List.map_cons, List.map_nil]); first | done | rfl | (simp only [List.length_drop, List.length_take]; rfl)) ?_
        with_reducible refine (tariff_Equal.calls kj2 t369 _ _ t370 t373 _ _ t374 t377 _ ?side1 ?side2 ?side3 ?side4 A34.out).mono ?_
        (case side1 => exact mc_ (Kd.R_reads' HO372.out).2.2)
        (case side2 => exact (Kd.R_reads' HO372.out).2.1)
        (case side3 => exact mc_ (Kd.R_reads' HO376.out).2.2)
        (case side4 => exact (Kd.R_reads' HO376.out).2.1)
        rintro e w116 ⟨rfl, hb⟩
        refine ⟨_, rfl, ?_⟩
        have z_ := aI (am_ (Kd.R_below (mr_ HO358.out) hb)) (aI (am_ (Kd.R_below (mr_ HO366.out) hb)) (aI (am_ (Kd.R_below (mr_ HO372.out) hb)) (aI (am_ (Kd.R_below (mr_ HO376.out) hb)) (aI (am_ (blk_below (mk_ BK349.out) hb)) (aI (am_ (blk_below (mk_ BK350.out) hb)) (am_ (below_step (mb_ HB.out) hb)))))))
        clear HO358 HO366 HO372 HO376 BK349 BK350 HB
        obtain ⟨HO358, HO366, HO372, HO376, BK349, BK350, HB⟩ := z_
        (try clear hb)
        (try clear hb2)
        (try clear hk)
        (try clear hi)
        refine hK.out _ _ ⟨(blk_cell BK349.out 0).trans rfl, (blk_cell BK349.out 1).trans rfl, (blk_cell BK350.out 0).trans rfl, (blk_cell BK350.out 1).trans rfl⟩ (fun hHeld => ?_)
        clear hK K
        refine norm_ (a' := ?_) ?_ ?_
        rotate_left
        ·
         show Act.put _ (some 44) _ = _
         simp only [Act.put, List.setIfInBounds_toArray, List.set_cons_zero, List.set_cons_succ, i64_w, i32_w]
         rfl
        refine one_ (i := 14) (N := some 47) #[true, true, true, true, true, true, true, true, true, true, true, true, true, true, true, false, false, false, false, false, false, false, false, false, false, false, false, false, false, false, false, false, false, false, false, false, false, false, false, false, false, false, false] rfl rfl (one_of HT_.out (by kernel_rfl)) (by decide) (fun K hK => ?_)
        refine goes_ Tryd.func13 (by kernel_rfl) rfl #[.agg #[.string a0_0, .slice A0_1 l0_1.length c0_1], .agg #[.string a1_0, .slice A1_1 l1_1.length c1_1]] (by rfl) rfl rfl (by (try simp only [List.map_toArray, List.map_cons, List.map_nil]); first | done | rfl | (simp only [List.length_drop, List.length_take]; rfl)) ?_
        with_reducible refine (culetref44_Equal.calls kj2 a0_0 _ _ l0_1 a1_0 _ _ l1_1 t378 _ ?side1 ?side2 ?side3 ?side4 A35.out).mono ?_
        (case side1 => exact mc_ (Kd.C_below HR0_1.out HB.out))
        (case side2 => exact HC0_1.out)
        (case side3 => exact mc_ (Kd.C_below HR1_1.out HB.out))
        (case side4 => exact HC1_1.out)
        rintro e w117 ⟨rfl, hb⟩
        refine ⟨_, rfl, ?_⟩
        have z_ := aI (am_ (Kd.R_below (mr_ HO358.out) hb)) (aI (am_ (Kd.R_below (mr_ HO366.out) hb)) (aI (am_ (Kd.R_below (mr_ HO372.out) hb)) (aI (am_ (Kd.R_below (mr_ HO376.out) hb)) (aI (am_ (blk_below (mk_ BK349.out) hb)) (aI (am_ (blk_below (mk_ BK350.out) hb)) (am_ (below_step (mb_ HB.out) hb)))))))
        clear HO358 HO366 HO372 HO376 BK349 BK350 HB
        obtain ⟨HO358, HO366, HO372, HO376, BK349, BK350, HB⟩ := z_
        (try clear hb)
        (try clear hb2)
        (try clear hk)
        (try clear hi)
        refine hK.out _ _ ⟨(blk_cell BK349.out 0).trans rfl, (blk_cell BK349.out 1).trans rfl, (blk_cell BK350.out 0).trans rfl, (blk_cell BK350.out 1).trans rfl⟩ (fun hHeld => ?_)
        clear hK K
        refine norm_ (a' := ?_) ?_ ?_
        rotate_left
        ·
         show Act.put _ (some 47) _ = _
         simp only [Act.put, List.setIfInBounds_toArray, List.set_cons_zero, List.set_cons_succ, i64_w, i32_w]
         rfl
        refine ltd (o := [0, 1, 2, 3, 4, 5, 6, 7, 8, 9, 10, 11, 12, 13, 14, 15, 16, 17, 18, 20]) (n := 15) (m := 43) (by kernel_rfl) ?_
        iterate 5 (first | (refine tnd (v := ?_) (a' := ?_) rfl rfl (take_ofW HT_.out HW_.out (by kernel_rfl)) (fun _ _ _ h => h) (Or.inl ⟨by rfl, ?_⟩) hHeld ?_ ?_; rotate_left; (· (rintro w' ⟨s0, s1, s2, s3⟩; go_simp; with_reducible rfl)); rotate_left; (· (show Act.put _ (some _) _ = _; simp only [Act.put, List.setIfInBounds_toArray, List.set_cons_zero, List.set_cons_succ, i64_w, i32_w]; rfl))) | (refine pnd (v := ?_) (a' := ?_) rfl rfl (any_of HT_.out (by kernel_rfl)) (fun _ _ _ h => h) (Or.inl ⟨by rfl, ?_⟩) ?_ ?_; rotate_left; (· (intro w'; go_simp; with_reducible rfl)); rotate_left; (· (show Act.put _ (some _) _ = _; simp only [Act.put, List.setIfInBounds_toArray, List.set_cons_zero, List.set_cons_succ, i64_w, i32_w]; rfl))))
        refine one_ (i := 19) (N := some 52) #[true, true, true, true, true, true, true, true, true, true, true, true, true, true, true, true, true, true, true, true, true, false, false, false, false, false, false, false, false, false, false, false, false, false, false, false, false, false, false, false, false, false, false] rfl rfl (one_of HT_.out (by kernel_rfl)) (by decide) (fun K hK => ?_)
        refine goes_ Tryd.func16 (by kernel_rfl) rfl #[.agg #[.string a0_0, .slice A0_1 l0_1.length c0_1]] (by rfl) rfl rfl (by (try simp only [List.map_toArray, List.map_cons, List.map_nil]); first | done | rfl | (simp only [List.length_drop, List.length_take]; rfl)) ?_
        with_reducible refine (culetlaw44_Own.calls kj2 a0_0 _ _ l0_1 t379 t380 _ ?side1 ?side2 A37.out).mono ?_
        (case side1 => exact mc_ (Kd.C_below HR0_1.out HB.out))
        (case side2 => exact HC0_1.out)
        rintro e w118 ⟨v381, rfl, ho0, hb⟩
        refine ⟨_, rfl, ?_⟩
        have z_ := aI (am_ (Kd.R_elder' (mr_ HO358.out) (Kd.R_base ho0) hb)) (aI (am_ (Kd.R_elder' (mr_ HO366.out) (Kd.R_base ho0) hb)) (aI (am_ (Kd.R_elder' (mr_ HO372.out) (Kd.R_base ho0) hb)) (aI (am_ (Kd.R_elder' (mr_ HO376.out) (Kd.R_base ho0) hb)) (aI (am_ (Kd.R_lower (Kd.R_new' (Kd.R_new' (Kd.R_new' (Kd.R_new' ho0 (Kd.R_lt (mr_ HO358.out))) (Kd.R_lt (mr_ HO366.out))) (Kd.R_lt (mr_ HO372.out))) (Kd.R_lt (mr_ HO376.out))) (below_size (mb_ HB.out)))) (aI (am_ (blk_below (mk_ BK349.out) hb)) (aI (am_ (blk_below (mk_ BK350.out) hb)) (am_ (below_step (mb_ HB.out) hb))))))))
        clear HO358 HO366 HO372 HO376 BK349 BK350 HB
        obtain ⟨HO358, HO366, HO372, HO376, HO382, BK349, BK350, HB⟩ := z_
        (try clear hb)
        (try clear hb2)
        (try clear hk)
        (try clear hi)
        (try clear ho0)
        refine hK.out _ _ ⟨(blk_cell BK349.out 0).trans rfl, (blk_cell BK349.out 1).trans rfl, (blk_cell BK350.out 0).trans rfl, (blk_cell BK350.out 1).trans rfl⟩ (fun hHeld => ?_)
        clear hK K
        refine norm_ (a' := ?_) ?_ ?_
        rotate_left
        ·
         show Act.put _ (some 52) _ = _
         simp only [Act.put, List.setIfInBounds_toArray, List.set_cons_zero, List.set_cons_succ, i64_w, i32_w]
         rfl
        refine one_ (i := 21) (N := some 54) #[true, true, true, true, true, true, true, true, true, true, true, true, true, true, true, true, true, true, true, true, true, true, false, false, false, false, false, false, false, false, false, false, false, false, false, false, false, false, false, false, false, false, false] rfl rfl (one_of HT_.out (by kernel_rfl)) (by decide) (fun K hK => ?_)
        refine goes_ Tryd.func16 (by kernel_rfl) rfl #[.agg #[.string a0_0, .slice A0_1 l0_1.length c0_1]] (by rfl) rfl rfl (by (try simp only [List.map_toArray, List.map_cons, List.map_nil]); first | done | rfl | (simp only [List.length_drop, List.length_take]; rfl)) ?_
        with_reducible refine (culetlaw44_Own.calls kj2 a0_0 _ _ l0_1 t383 t384 _ ?side1 ?side2 A38.out).mono ?_
        (case side1 => exact mc_ (Kd.C_below HR0_1.out HB.out))
        (case side2 => exact HC0_1.out)
        rintro e w119 ⟨v385, rfl, ho0, hb⟩
        refine ⟨_, rfl, ?_⟩
        have z_ := aI (am_ (Kd.R_elder' (mr_ HO358.out) (Kd.R_base ho0) hb)) (aI (am_ (Kd.R_elder' (mr_ HO366.out) (Kd.R_base ho0) hb)) (aI (am_ (Kd.R_elder' (mr_ HO372.out) (Kd.R_base ho0) hb)) (aI (am_ (Kd.R_elder' (mr_ HO376.out) (Kd.R_base ho0) hb)) (aI (am_ (Kd.R_elder' (mr_ HO382.out) (Kd.R_base ho0) hb)) (aI (am_ (Kd.R_lower (Kd.R_new' (Kd.R_new' (Kd.R_new' (Kd.R_new' (Kd.R_new' ho0 (Kd.R_lt (mr_ HO358.out))) (Kd.R_lt (mr_ HO366.out))) (Kd.R_lt (mr_ HO372.out))) (Kd.R_lt (mr_ HO376.out))) (Kd.R_lt (mr_ HO382.out))) (below_size (mb_ HB.out)))) (aI (am_ (blk_below (mk_ BK349.out) hb)) (aI (am_ (blk_below (mk_ BK350.out) hb)) (am_ (below_step (mb_ HB.out) hb)))))))))
        clear HO358 HO366 HO372 HO376 HO382 BK349 BK350 HB
        obtain ⟨HO358, HO366, HO372, HO376, HO382, HO386, BK349, BK350, HB⟩ := z_
        (try clear hb)
        (try clear hb2)
        (try clear hk)
        (try clear hi)
        (try clear ho0)
        obtain ⟨Ao120, co120, eo120⟩ := Kd.R_slice HO382.out
        (first | subst eo120 | (injection eo120 with f1_ f2_ f3_; have f4_ := f1_.symm; have f5_ := f3_.symm; clear f1_ f2_ f3_; subst f4_; subst f5_))
        obtain ⟨Ao121, co121, eo121⟩ := Kd.R_slice HO386.out
        (first | subst eo121 | (injection eo121 with f1_ f2_ f3_; have f4_ := f1_.symm; have f5_ := f3_.symm; clear f1_ f2_ f3_; subst f4_; subst f5_))
        refine hK.out _ _ ⟨(blk_cell BK349.out 0).trans rfl, (blk_cell BK349.out 1).trans rfl, (blk_cell BK350.out 0).trans rfl, (blk_cell BK350.out 1).trans rfl⟩ (fun hHeld => ?_)
        clear hK K
        refine norm_ (a' := ?_) ?_ ?_
        rotate_left
        ·
         show Act.put _ (some 54) _ = _
         simp only [Act.put, List.setIfInBounds_toArray, List.set_cons_zero, List.set_cons_succ, i64_w, i32_w]
         rfl
        refine one_ (i := 22) (N := some 55) #[true, true, true, true, true, true, true, true, true, true, true, true, true, true, true, true, true, true, true, true, true, true, true, false, false, false, false, false, false, false, false, false, false, false, false, false, false, false, false, false, false, false, false] rfl rfl (one_of HT_.out (by kernel_rfl)) (by decide) (fun K hK => ?_)
        refine goes_ Tryd.func24 (by kernel_rfl) rfl #[.agg #[.string t379, .slice Ao120 t380.length co120], .agg #[.string t383, .slice Ao121 t384.length co121]] (by rfl) rfl rfl (by (try simp only [List.map_toArray, List.map_cons, List.map_nil]); first | done | rfl | (simp only [List.length_drop, List.length_take]; rfl)) ?_
        with_reducible refine (tariff_Equal.calls kj2 t379 _ _ t380 t383 _ _ t384 true _ ?side1 ?side2 ?side3 ?side4 A39.out).mono ?_
        (case side1 => exact mc_ (Kd.R_reads' HO382.out).2.2)
        (case side2 => exact (Kd.R_reads' HO382.out).2.1)
        (case side3 => exact mc_ (Kd.R_reads' HO386.out).2.2)
        (case side4 => exact (Kd.R_reads' HO386.out).2.1)
        rintro e w122 ⟨rfl, hb⟩
        refine ⟨_, rfl, ?_⟩
        have z_ := aI (am_ (Kd.R_below (mr_ HO358.out) hb)) (aI (am_ (Kd.R_below (mr_ HO366.out) hb)) (aI (am_ (Kd.R_below (mr_ HO372.out) hb)) (aI (am_ (Kd.R_below (mr_ HO376.out) hb)) (aI (am_ (Kd.R_below (mr_ HO382.out) hb)) (aI (am_ (Kd.R_below (mr_ HO386.out) hb)) (aI (am_ (blk_below (mk_ BK349.out) hb)) (aI (am_ (blk_below (mk_ BK350.out) hb)) (am_ (below_step (mb_ HB.out) hb)))))))))
        clear HO358 HO366 HO372 HO376 HO382 HO386 BK349 BK350 HB
        obtain ⟨HO358, HO366, HO372, HO376, HO382, HO386, BK349, BK350, HB⟩ := z_
        (try clear hb)
        (try clear hb2)
        (try clear hk)
        (try clear hi)
        refine hK.out _ _ ⟨(blk_cell BK349.out 0).trans rfl, (blk_cell BK349.out 1).trans rfl, (blk_cell BK350.out 0).trans rfl, (blk_cell BK350.out 1).trans rfl⟩ (fun hHeld => ?_)
        clear hK K
        refine norm_ (a' := ?_) ?_ ?_
        rotate_left
        ·
         show Act.put _ (some 55) _ = _
         simp only [Act.put, List.setIfInBounds_toArray, List.set_cons_zero, List.set_cons_succ, i64_w, i32_w]
         rfl
        refine ltd (o := [0, 1, 2, 3, 4, 5, 6, 7, 8, 9, 10, 11, 12, 13, 14, 15, 16, 17, 18, 19, 20, 21, 22, 23, 24, 25, 28]) (n := 23) (m := 43) (by kernel_rfl) ?_
        iterate 4 (first | (refine tnd (v := ?_) (a' := ?_) rfl rfl (take_ofW HT_.out HW_.out (by kernel_rfl)) (fun _ _ _ h => h) (Or.inl ⟨by rfl, ?_⟩) hHeld ?_ ?_; rotate_left; (· (rintro w' ⟨s0, s1, s2, s3⟩; go_simp; with_reducible rfl)); rotate_left; (· (show Act.put _ (some _) _ = _; simp only [Act.put, List.setIfInBounds_toArray, List.set_cons_zero, List.set_cons_succ, i64_w, i32_w]; rfl))) | (refine pnd (v := ?_) (a' := ?_) rfl rfl (any_of HT_.out (by kernel_rfl)) (fun _ _ _ h => h) (Or.inl ⟨by rfl, ?_⟩) ?_ ?_; rotate_left; (· (intro w'; go_simp; with_reducible rfl)); rotate_left; (· (show Act.put _ (some _) _ = _; simp only [Act.put, List.setIfInBounds_toArray, List.set_cons_zero, List.set_cons_succ, i64_w, i32_w]; rfl))))
        refine one_ (i := 26) (N := some 59) #[true, true, true, true, true, true, true, true, true, true, true, true, true, true, true, true, true, true, true, true, true, true, true, true, true, true, true, false, true, false, false, false, false, false, false, false, false, false, false, false, false, false, false] rfl rfl (one_of HT_.out (by kernel_rfl)) (by decide) (fun K hK => ?_)
        refine goes_ Tryd.func16 (by kernel_rfl) rfl #[.agg #[.string a0_0, .slice A0_1 l0_1.length c0_1]] (by rfl) rfl rfl (by (try simp only [List.map_toArray, List.map_cons, List.map_nil]); first | done | rfl | (simp only [List.length_drop, List.length_take]; rfl)) ?_
        with_reducible refine (culetlaw44_Own.calls kj2 a0_0 _ _ l0_1 t388 t389 _ ?side1 ?side2 A41.out).mono ?_
        (case side1 => exact mc_ (Kd.C_below HR0_1.out HB.out))
        (case side2 => exact HC0_1.out)
        rintro e w123 ⟨v390, rfl, ho0, hb⟩
        refine ⟨_, rfl, ?_⟩
        have z_ := aI (am_ (Kd.R_elder' (mr_ HO358.out) (Kd.R_base ho0) hb)) (aI (am_ (Kd.R_elder' (mr_ HO366.out) (Kd.R_base ho0) hb)) (aI (am_ (Kd.R_elder' (mr_ HO372.out) (Kd.R_base ho0) hb)) (aI (am_ (Kd.R_elder' (mr_ HO376.out) (Kd.R_base ho0) hb)) (aI (am_ (Kd.R_elder' (mr_ HO382.out) (Kd.R_base ho0) hb)) (aI (am_ (Kd.R_elder' (mr_ HO386.out) (Kd.R_base ho0) hb)) (aI (am_ (Kd.R_lower (Kd.R_new' (Kd.R_new' (Kd.R_new' (Kd.R_new' (Kd.R_new' (Kd.R_new' ho0 (Kd.R_lt (mr_ HO358.out))) (Kd.R_lt (mr_ HO366.out))) (Kd.R_lt (mr_ HO372.out))) (Kd.R_lt (mr_ HO376.out))) (Kd.R_lt (mr_ HO382.out))) (Kd.R_lt (mr_ HO386.out))) (below_size (mb_ HB.out)))) (aI (am_ (blk_below (mk_ BK349.out) hb)) (aI (am_ (blk_below (mk_ BK350.out) hb)) (am_ (below_step (mb_ HB.out) hb))))))))))
        clear HO358 HO366 HO372 HO376 HO382 HO386 BK349 BK350 HB
        obtain ⟨HO358, HO366, HO372, HO376, HO382, HO386, HO391, BK349, BK350, HB⟩ := z_
        (try clear hb)
        (try clear hb2)
        (try clear hk)
        (try clear hi)
        (try clear ho0)
        obtain ⟨Ao124, co124, eo124⟩ := Kd.R_slice HO391.out
        (first | subst eo124 | (injection eo124 with f1_ f2_ f3_; have f4_ := f1_.symm; have f5_ := f3_.symm; clear f1_ f2_ f3_; subst f4_; subst f5_))
        refine hK.out _ _ ⟨(blk_cell BK349.out 0).trans rfl, (blk_cell BK349.out 1).trans rfl, (blk_cell BK350.out 0).trans rfl, (blk_cell BK350.out 1).trans rfl⟩ (fun hHeld => ?_)
        clear hK K
        refine norm_ (a' := ?_) ?_ ?_
        rotate_left
        ·
         show Act.put _ (some 59) _ = _
         simp only [Act.put, List.setIfInBounds_toArray, List.set_cons_zero, List.set_cons_succ, i64_w, i32_w]
         rfl
        refine one_ (i := 27) (N := some 60) #[true, true, true, true, true, true, true, true, true, true, true, true, true, true, true, true, true, true, true, true, true, true, true, true, true, true, true, true, true, false, false, false, false, false, false, false, false, false, false, false, false, false, false] rfl rfl (one_of HT_.out (by kernel_rfl)) (by decide) (fun K hK => ?_)
        refine goes_ Tryd.func19 (by kernel_rfl) rfl #[.agg #[.string t388, .slice Ao124 t389.length co124]] (by rfl) rfl rfl (by (try simp only [List.map_toArray, List.map_cons, List.map_nil]); first | done | rfl | (simp only [List.length_drop, List.length_take]; rfl)) ?_
        with_reducible refine (tariff_Fair.calls kj2 t388 _ _ t389 t392 _ ?side1 ?side2 A42.out).mono ?_
        (case side1 => exact mc_ (Kd.R_reads' HO391.out).2.2)
        (case side2 => exact (Kd.R_reads' HO391.out).2.1)
        rintro e w125 ⟨rfl, hb⟩
        refine ⟨_, rfl, ?_⟩
        have z_ := aI (am_ (Kd.R_below (mr_ HO358.out) hb)) (aI (am_ (Kd.R_below (mr_ HO366.out) hb)) (aI (am_ (Kd.R_below (mr_ HO372.out) hb)) (aI (am_ (Kd.R_below (mr_ HO376.out) hb)) (aI (am_ (Kd.R_below (mr_ HO382.out) hb)) (aI (am_ (Kd.R_below (mr_ HO386.out) hb)) (aI (am_ (Kd.R_below (mr_ HO391.out) hb)) (aI (am_ (blk_below (mk_ BK349.out) hb)) (aI (am_ (blk_below (mk_ BK350.out) hb)) (am_ (below_step (mb_ HB.out) hb))))))))))
        clear HO358 HO366 HO372 HO376 HO382 HO386 HO391 BK349 BK350 HB
        obtain ⟨HO358, HO366, HO372, HO376, HO382, HO386, HO391, BK349, BK350, HB⟩ := z_
        (try clear hb)
        (try clear hb2)
        (try clear hk)
        (try clear hi)
        refine hK.out _ _ ⟨(blk_cell BK349.out 0).trans rfl, (blk_cell BK349.out 1).trans rfl, (blk_cell BK350.out 0).trans rfl, (blk_cell BK350.out 1).trans rfl⟩ (fun hHeld => ?_)
        clear hK K
        refine norm_ (a' := ?_) ?_ ?_
        rotate_left
        ·
         show Act.put _ (some 60) _ = _
         simp only [Act.put, List.setIfInBounds_toArray, List.set_cons_zero, List.set_cons_succ, i64_w, i32_w]
         rfl
        refine one_ (i := 29) (N := some 62) #[true, true, true, true, true, true, true, true, true, true, true, true, true, true, true, true, true, true, true, true, true, true, true, true, true, true, true, true, true, true, false, false, false, false, false, false, false, false, false, false, false, false, false] rfl rfl (one_of HT_.out (by kernel_rfl)) (by decide) (fun K hK => ?_)
        refine goes_ Tryd.func25 (by kernel_rfl) rfl #[.agg #[.string a0_0, .slice A0_1 l0_1.length c0_1]] (by rfl) rfl rfl (by (try simp only [List.map_toArray, List.map_cons, List.map_nil]); first | done | rfl | (simp only [List.length_drop, List.length_take]; rfl)) ?_
        with_reducible refine (culetref44_Fair.calls kj2 a0_0 _ _ l0_1 t393 _ ?side1 ?side2 A43.out).mono ?_
        (case side1 => exact mc_ (Kd.C_below HR0_1.out HB.out))
        (case side2 => exact HC0_1.out)
        rintro e w126 ⟨rfl, hb⟩
        refine ⟨_, rfl, ?_⟩
        have z_ := aI (am_ (Kd.R_below (mr_ HO358.out) hb)) (aI (am_ (Kd.R_below (mr_ HO366.out) hb)) (aI (am_ (Kd.R_below (mr_ HO372.out) hb)) (aI (am_ (Kd.R_below (mr_ HO376.out) hb)) (aI (am_ (Kd.R_below (mr_ HO382.out) hb)) (aI (am_ (Kd.R_below (mr_ HO386.out) hb)) (aI (am_ (Kd.R_below (mr_ HO391.out) hb)) (aI (am_ (blk_below (mk_ BK349.out) hb)) (aI (am_ (blk_below (mk_ BK350.out) hb)) (am_ (below_step (mb_ HB.out) hb))))))))))
        clear HO358 HO366 HO372 HO376 HO382 HO386 HO391 BK349 BK350 HB
        obtain ⟨HO358, HO366, HO372, HO376, HO382, HO386, HO391, BK349, BK350, HB⟩ := z_
        (try clear hb)
        (try clear hb2)
        (try clear hk)
        (try clear hi)
        refine hK.out _ _ ⟨(blk_cell BK349.out 0).trans rfl, (blk_cell BK349.out 1).trans rfl, (blk_cell BK350.out 0).trans rfl, (blk_cell BK350.out 1).trans rfl⟩ (fun hHeld => ?_)
        clear hK K
        refine norm_ (a' := ?_) ?_ ?_
        rotate_left
        ·
         show Act.put _ (some 62) _ = _
         simp only [Act.put, List.setIfInBounds_toArray, List.set_cons_zero, List.set_cons_succ, i64_w, i32_w]
         rfl
        refine ltd (o := [0, 1, 2, 3, 4, 5, 6, 7, 8, 9, 10, 11, 12, 13, 14, 15, 16, 17, 18, 19, 20, 21, 22, 23, 24, 25, 26, 27, 28, 29, 30, 31, 32, 33, 34, 35, 36, 37, 38, 39, 40, 41, 42]) (n := 30) (m := 43) (by kernel_rfl) ?_
        iterate 13 (first | (refine pnd rfl rfl (any_of HT_.out (by kernel_rfl)) (fun _ _ _ h => h) (Or.inr ⟨by rfl, rfl⟩) (a' := ?_) ?_ ?_; rotate_left; (· (show Act.put _ (some _) _ = _; simp only [Act.put, List.setIfInBounds_toArray, List.set_cons_zero, List.set_cons_succ, i64_w, i32_w]; rfl))) | (refine pnd (v := ?_) (a' := ?_) rfl rfl (any_of HT_.out (by kernel_rfl)) (fun _ _ _ h => h) (Or.inl ⟨by rfl, ?_⟩) ?_ ?_; rotate_left; (· (intro w'; go_simp; with_reducible rfl)); rotate_left; (· (show Act.put _ (some _) _ = _; simp only [Act.put, List.setIfInBounds_toArray, List.set_cons_zero, List.set_cons_succ, i64_w, i32_w]; rfl))))
        refine done_ (done_of HT_.out (by kernel_rfl)) ?_
        try go_wp2
        go_ret
        exact ⟨by first | rfl | (simp [errW_none, errW_some] <;> rfl) | (simp [*, errW_none, errW_some] <;> rfl), mb_ HB.out⟩
      ·
       replace c40 := Bool.eq_false_iff.mpr c40
       subst c40
       have H1 : (some false) = some r := by rw [if_neg (show ¬ (false = true) by decide)] at H; exact H
       clear H
       have H := H1
       clear H1
       obtain rfl := Option.some.inj H
       have hnb127 := NB349_350.out
       have hnc127 := NB350_349.out
       have hcz128_0 : wc.cell? ⟨gb349, 0, none⟩ = some (.string a0_0) := (blk_cell BK349.out 0).trans rfl
       have hcz128_1 : wc.cell? ⟨gb349, 1, none⟩ = some (.slice A0_1 l0_1.length c0_1) := (blk_cell BK349.out 1).trans rfl
       have hfz128_0 := blk_frozen BK349.out 0
       have hfz128_1 := blk_frozen BK349.out 1
       try go_wp2_with (first | ((with_reducible refine gate_callee (f := 16) rfl ?_); refine goesL_ (some 24) rfl rfl Tryd.func16 (by kernel_rfl) rfl #[.agg #[.string a0_0, .slice A0_1 l0_1.length c0_1]] rfl (by (try simp only [List.map_toArray, List.map_cons, List.map_nil]); first | done | rfl | (simp only [List.length_drop, List.length_take]; rfl)) ?_; (with_reducible refine (culetlaw44_Own.calls kj2 a0_0 _ _ l0_1 t355 t356 _ ?side1 ?side2 A25.out).mono ?_); (case side1 => exact mc_ (Kd.C_below HR0_1.out HB.out)); (case side2 => exact HC0_1.out); rintro e w129 ⟨v357, rfl, ho0, hb⟩; refine ⟨_, rfl, ?_⟩; have z_ := aI (am_ (Kd.R_lower ho0 (below_size (mb_ HB.out)))) (aI (am_ (blk_below (mk_ BK349.out) hb)) (aI (am_ (blk_below (mk_ BK350.out) hb)) (am_ (below_step (mb_ HB.out) hb)))); clear BK349 BK350 HB; obtain ⟨HO358, BK349, BK350, HB⟩ := z_; (try clear hb); (try clear hb2); (try clear hk); (try clear hi); (try clear ho0); obtain ⟨Ao130, co130, eo130⟩ := Kd.R_slice HO358.out; subst eo130) | ((with_reducible refine gate_callee (f := 15) rfl ?_); refine goesL_ (some 25) rfl rfl Tryd.func15 (by kernel_rfl) rfl #[.agg #[.string t355, .slice Ao130 t356.length co130]] rfl (by (try simp only [List.map_toArray, List.map_cons, List.map_nil]); first | done | rfl | (simp only [List.length_drop, List.length_take]; rfl)) ?_; (with_reducible refine (tariff_Print.calls kj2 t355 _ _ t356 t359 t360 _ (HTW.out.at (mb_ HB.out)) ?side1 ?side2 A26.out).mono ?_); (case side1 => exact mc_ (Kd.R_reads' HO358.out).2.2); (case side2 => exact (Kd.R_reads' HO358.out).2.1); rintro e w131 ⟨rfl, hb⟩; refine ⟨_, rfl, ?_⟩; have z_ := aI (am_ (Kd.R_below (mr_ HO358.out) hb)) (aI (am_ (blk_below (mk_ BK349.out) hb)) (aI (am_ (blk_below (mk_ BK350.out) hb)) (am_ (below_step (mb_ HB.out) hb)))); clear HO358 BK349 BK350 HB; obtain ⟨HO358, BK349, BK350, HB⟩ := z_; (try clear hb); (try clear hb2); (try clear hk); (try clear hi); have hcz132_0 : w131.cell? ⟨gb349, 0, none⟩ = some (.string a0_0) := (blk_cell BK349.out 0).trans rfl; have hcz132_1 : w131.cell? ⟨gb349, 1, none⟩ = some (.slice A0_1 l0_1.length c0_1) := (blk_cell BK349.out 1).trans rfl; have hfz132_0 := blk_frozen BK349.out 0; have hfz132_1 := blk_frozen BK349.out 1) | ((with_reducible refine gate_callee (f := 22) rfl ?_); refine goesL_ (some 30) rfl rfl Tryd.func22 (by kernel_rfl) rfl #[.agg #[.string a0_0, .slice A0_1 l0_1.length c0_1]] rfl (by (try simp only [List.map_toArray, List.map_cons, List.map_nil]); first | done | rfl | (simp only [List.length_drop, List.length_take]; rfl)) ?_; (with_reducible refine (culetref44_Print.calls kj2 a0_0 _ _ l0_1 t361 t362 _ ?side1 ?side2 A27.out).mono ?_); (case side1 => exact mc_ (Kd.C_below HR0_1.out HB.out)); (case side2 => exact HC0_1.out); rintro e w133 ⟨rfl, hb⟩; refine ⟨_, rfl, ?_⟩; have z_ := aI (am_ (Kd.R_below (mr_ HO358.out) hb)) (aI (am_ (blk_below (mk_ BK349.out) hb)) (aI (am_ (blk_below (mk_ BK350.out) hb)) (am_ (below_step (mb_ HB.out) hb)))); clear HO358 BK349 BK350 HB; obtain ⟨HO358, BK349, BK350, HB⟩ := z_; (try clear hb); (try clear hb2); (try clear hk); (try clear hi)))
       have z_ := aI (am_ (Kd.R_drew HO358.out)) (aI (am_ (blk_drew BK349.out)) (aI (am_ (blk_drew BK350.out)) (am_ (below_drew1 HB.out))))
       clear HO358 BK349 BK350 HB
       obtain ⟨HO358, BK349, BK350, HB⟩ := z_
       refine start_ (n := 43) (S := fun w' => w'.cell? ⟨gb349, 0, none⟩ = some (.string a0_0) ∧ w'.cell? ⟨gb349, 1, none⟩ = some (.slice A0_1 l0_1.length c0_1) ∧ w'.cell? ⟨gb350, 0, none⟩ = some (.string a1_0) ∧ w'.cell? ⟨gb350, 1, none⟩ = some (.slice A1_1 l1_1.length c1_1)) (ds := []) #[false, false, false, false, false, false, false, false, false, false, false, false, false, false, false, false, false, false, false, false, false, false, false, false, false, false, false, false, false, false, false, false, false, false, false, false, false, false, false, false, false, false, false] (by kernel_rfl) rfl rfl ⟨(blk_cell BK349.out 0).trans rfl, (blk_cell BK349.out 1).trans rfl, (blk_cell BK350.out 0).trans rfl, (blk_cell BK350.out 1).trans rfl⟩ (fun hHeld => ?_); refine with_tabW culetlaw44_TariffForms.tab5 culetlaw44_TariffForms.bits5 (fun HT_ HW_ => ?_)
       generalize w133.drew = w134 at HO358 BK349 BK350 HB hHeld ⊢
       refine take_ (i := 0) (N := some 33) (v := ?_) (a' := ?_) #[true, false, false, false, false, false, false, false, false, false, false, false, false, false, false, false, false, false, false, false, false, false, false, false, false, false, false, false, false, false, false, false, false, false, false, false, false, false, false, false, false, false, false] rfl rfl (take_ofW HT_.out HW_.out (by kernel_rfl)) (fun _ _ _ h => h) (Or.inl ⟨by rfl, ?_⟩) hHeld ?_ ?_
       rotate_left
       ·
        rintro w' ⟨s0, s1, s2, s3⟩
        go_simp
        with_reducible rfl
       rotate_left
       ·
        simp only [Act.put, List.setIfInBounds_toArray, List.set_cons_zero, List.set_cons_succ, i64_w, i32_w]
        rfl
       refine take_ (i := 3) (N := some 36) (v := ?_) (a' := ?_) #[true, false, false, true, false, false, false, false, false, false, false, false, false, false, false, false, false, false, false, false, false, false, false, false, false, false, false, false, false, false, false, false, false, false, false, false, false, false, false, false, false, false, false] rfl rfl (take_ofW HT_.out HW_.out (by kernel_rfl)) (fun _ _ _ h => h) (Or.inl ⟨by rfl, ?_⟩) hHeld ?_ ?_
       rotate_left
       ·
        rintro w' ⟨s0, s1, s2, s3⟩
        go_simp
        with_reducible rfl
       rotate_left
       ·
        simp only [Act.put, List.setIfInBounds_toArray, List.set_cons_zero, List.set_cons_succ, i64_w, i32_w]
        rfl
       refine one_ (i := 1) (N := some 34) #[true, true, false, true, false, false, false, false, false, false, false, false, false, false, false, false, false, false, false, false, false, false, false, false, false, false, false, false, false, false, false, false, false, false, false, false, false, false, false, false, false, false, false] rfl rfl (one_of HT_.out (by kernel_rfl)) (by decide) (fun K hK => ?_)
       refine goes_ Tryd.func16 (by kernel_rfl) rfl #[.agg #[.string a0_0, .slice A0_1 l0_1.length c0_1]] (by rfl) rfl rfl (by (try simp only [List.map_toArray, List.map_cons, List.map_nil]); first | done | rfl | (simp only [List.length_drop, List.length_take]; rfl)) ?_
       with_reducible refine (culetlaw44_Own.calls kj2 a0_0 _ _ l0_1 t363 t364 _ ?side1 ?side2 A28.out).mono ?_
       (case side1 => exact mc_ (Kd.C_below HR0_1.out HB.out))
       (case side2 => exact HC0_1.out)
       rintro e w135 ⟨v365, rfl, ho0, hb⟩
       refine ⟨_, rfl, ?_⟩
       have z_ := aI (am_ (Kd.R_elder' (mr_ HO358.out) (Kd.R_base ho0) hb)) (aI (am_ (Kd.R_lower (Kd.R_new' ho0 (Kd.R_lt (mr_ HO358.out))) (below_size (mb_ HB.out)))) (aI (am_ (blk_below (mk_ BK349.out) hb)) (aI (am_ (blk_below (mk_ BK350.out) hb)) (am_ (below_step (mb_ HB.out) hb)))))
       clear HO358 BK349 BK350 HB
       obtain ⟨HO358, HO366, BK349, BK350, HB⟩ := z_
       (try clear hb)
       (try clear hb2)
       (try clear hk)
       (try clear hi)
       (try clear ho0)
       obtain ⟨Ao136, co136, eo136⟩ := Kd.R_slice HO366.out
       (first | subst eo136 | (injection eo136 with f1_ f2_ f3_; have f4_ := f1_.symm; have f5_ := f3_.symm; clear f1_ f2_ f3_; subst f4_; subst f5_))
       refine hK.out _ _ ⟨(blk_cell BK349.out 0).trans rfl, (blk_cell BK349.out 1).trans rfl, (blk_cell BK350.out 0).trans rfl, (blk_cell BK350.out 1).trans rfl⟩ (fun hHeld => ?_)
       clear hK K
       refine norm_ (a' := ?_) ?_ ?_
       rotate_left
       ·
        show Act.put _ (some 34) _ = _
        simp only [Act.put, List.setIfInBounds_toArray, List.set_cons_zero, List.set_cons_succ, i64_w, i32_w]
        rfl
       refine one_ (i := 2) (N := some 35) #[true, true, true, true, false, false, false, false, false, false, false, false, false, false, false, false, false, false, false, false, false, false, false, false, false, false, false, false, false, false, false, false, false, false, false, false, false, false, false, false, false, false, false] rfl rfl (one_of HT_.out (by kernel_rfl)) (by decide) (fun K hK => ?_)
       refine goes_ Tryd.func23 (by kernel_rfl) rfl #[.agg #[.string t363, .slice Ao136 t364.length co136]] (by rfl) rfl rfl (by (try simp only [List.map_toArray, List.map_cons, List.map_nil]); first | done | rfl | (simp only [List.length_drop, List.length_take]; rfl)) ?_
       with_reducible refine (tariff_Valid.calls kj2 t363 _ _ t364 t367 _ ?side1 ?side2 A29.out).mono ?_
       (case side1 => exact mc_ (Kd.R_reads' HO366.out).2.2)
       (case side2 => exact (Kd.R_reads' HO366.out).2.1)
       rintro e w137 ⟨rfl, hb⟩
       refine ⟨_, rfl, ?_⟩
       have z_ := aI (am_ (Kd.R_below (mr_ HO358.out) hb)) (aI (am_ (Kd.R_below (mr_ HO366.out) hb)) (aI (am_ (blk_below (mk_ BK349.out) hb)) (aI (am_ (blk_below (mk_ BK350.out) hb)) (am_ (below_step (mb_ HB.out) hb)))))
       clear HO358 HO366 BK349 BK350 HB
       obtain ⟨HO358, HO366, BK349, BK350, HB⟩ := z_
       (try clear hb)
       (try clear hb2)
       (try clear hk)
       (try clear hi)
       refine hK.out _ _ ⟨(blk_cell BK349.out 0).trans rfl, (blk_cell BK349.out 1).trans rfl, (blk_cell BK350.out 0).trans rfl, (blk_cell BK350.out 1).trans rfl⟩ (fun hHeld => ?_)
       clear hK K
       refine norm_ (a' := ?_) ?_ ?_
       rotate_left
       ·
        show Act.put _ (some 35) _ = _
        simp only [Act.put, List.setIfInBounds_toArray, List.set_cons_zero, List.set_cons_succ, i64_w, i32_w]
        rfl
       refine one_ (i := 4) (N := some 37) #[true, true, true, true, true, false, false, false, false, false, false, false, false, false, false, false, false, false, false, false, false, false, false, false, false, false, false, false, false, false, false, false, false, false, false, false, false, false, false, false, false, false, false] rfl rfl (one_of HT_.out (by kernel_rfl)) (by decide) (fun K hK => ?_)
       refine goes_ Tryd.func17 (by kernel_rfl) rfl #[.agg #[.string a0_0, .slice A0_1 l0_1.length c0_1]] (by rfl) rfl rfl (by (try simp only [List.map_toArray, List.map_cons, List.map_nil]); first | done | rfl | (simp only [List.length_drop, List.length_take]; rfl)) ?_
       with_reducible refine (culetref44_Valid.calls kj2 a0_0 _ _ l0_1 t368 _ ?side1 ?side2 A30.out).mono ?_
       (case side1 => exact mc_ (Kd.C_below HR0_1.out HB.out))
       (case side2 => exact HC0_1.out)
       rintro e w138 ⟨rfl, hb⟩
       refine ⟨_, rfl, ?_⟩
       have z_ := aI (am_ (Kd.R_below (mr_ HO358.out) hb)) (aI (am_ (Kd.R_below (mr_ HO366.out) hb)) (aI (am_ (blk_below (mk_ BK349.out) hb)) (aI (am_ (blk_below (mk_ BK350.out) hb)) (am_ (below_step (mb_ HB.out) hb)))))
       clear HO358 HO366 BK349 BK350 HB
       obtain ⟨HO358, HO366, BK349, BK350, HB⟩ := z_
       (try clear hb)
       (try clear hb2)
       (try clear hk)
       (try clear hi)
       refine hK.out _ _ ⟨(blk_cell BK349.out 0).trans rfl, (blk_cell BK349.out 1).trans rfl, (blk_cell BK350.out 0).trans rfl, (blk_cell BK350.out 1).trans rfl⟩ (fun hHeld => ?_)
       clear hK K
       refine norm_ (a' := ?_) ?_ ?_
       rotate_left
       ·
        show Act.put _ (some 37) _ = _
        simp only [Act.put, List.setIfInBounds_toArray, List.set_cons_zero, List.set_cons_succ, i64_w, i32_w]
        rfl
       refine ltd (o := [0, 1, 2, 3, 4, 5, 6, 7, 9, 12, 13]) (n := 5) (m := 43) (by kernel_rfl) ?_
       iterate 6 (first | (refine tnd (v := ?_) (a' := ?_) rfl rfl (take_ofW HT_.out HW_.out (by kernel_rfl)) (fun _ _ _ h => h) (Or.inl ⟨by rfl, ?_⟩) hHeld ?_ ?_; rotate_left; (· (rintro w' ⟨s0, s1, s2, s3⟩; go_simp; with_reducible rfl)); rotate_left; (· (show Act.put _ (some _) _ = _; simp only [Act.put, List.setIfInBounds_toArray, List.set_cons_zero, List.set_cons_succ, i64_w, i32_w]; rfl))) | (refine pnd (v := ?_) (a' := ?_) rfl rfl (any_of HT_.out (by kernel_rfl)) (fun _ _ _ h => h) (Or.inl ⟨by rfl, ?_⟩) ?_ ?_; rotate_left; (· (intro w'; go_simp; with_reducible rfl)); rotate_left; (· (show Act.put _ (some _) _ = _; simp only [Act.put, List.setIfInBounds_toArray, List.set_cons_zero, List.set_cons_succ, i64_w, i32_w]; rfl))))
       refine one_ (i := 8) (N := some 41) #[true, true, true, true, true, true, true, true, true, true, false, false, true, true, false, false, false, false, false, false, false, false, false, false, false, false, false, false, false, false, false, false, false, false, false, false, false, false, false, false, false, false, false] rfl rfl (one_of HT_.out (by kernel_rfl)) (by decide) (fun K hK => ?_)
       refine goes_ Tryd.func16 (by kernel_rfl) rfl #[.agg #[.string a0_0, .slice A0_1 l0_1.length c0_1]] (by rfl) rfl rfl (by (try simp only [List.map_toArray, List.map_cons, List.map_nil]); first | done | rfl | (simp only [List.length_drop, List.length_take]; rfl)) ?_
       with_reducible refine (culetlaw44_Own.calls kj2 a0_0 _ _ l0_1 t369 t370 _ ?side1 ?side2 A32.out).mono ?_
       (case side1 => exact mc_ (Kd.C_below HR0_1.out HB.out))
       (case side2 => exact HC0_1.out)
       rintro e w139 ⟨v371, rfl, ho0, hb⟩
       refine ⟨_, rfl, ?_⟩
       have z_ := aI (am_ (Kd.R_elder' (mr_ HO358.out) (Kd.R_base ho0) hb)) (aI (am_ (Kd.R_elder' (mr_ HO366.out) (Kd.R_base ho0) hb)) (aI (am_ (Kd.R_lower (Kd.R_new' (Kd.R_new' ho0 (Kd.R_lt (mr_ HO358.out))) (Kd.R_lt (mr_ HO366.out))) (below_size (mb_ HB.out)))) (aI (am_ (blk_below (mk_ BK349.out) hb)) (aI (am_ (blk_below (mk_ BK350.out) hb)) (am_ (below_step (mb_ HB.out) hb))))))
       clear HO358 HO366 BK349 BK350 HB
       obtain ⟨HO358, HO366, HO372, BK349, BK350, HB⟩ := z_
       (try clear hb)
       (try clear hb2)
       (try clear hk)
       (try clear hi)
       (try clear ho0)
       refine hK.out _ _ ⟨(blk_cell BK349.out 0).trans rfl, (blk_cell BK349.out 1).trans rfl, (blk_cell BK350.out 0).trans rfl, (blk_cell BK350.out 1).trans rfl⟩ (fun hHeld => ?_)
       clear hK K
       refine norm_ (a' := ?_) ?_ ?_
       rotate_left
       ·
        show Act.put _ (some 41) _ = _
        simp only [Act.put, List.setIfInBounds_toArray, List.set_cons_zero, List.set_cons_succ, i64_w, i32_w]
        rfl
       refine one_ (i := 10) (N := some 43) #[true, true, true, true, true, true, true, true, true, true, true, false, true, true, false, false, false, false, false, false, false, false, false, false, false, false, false, false, false, false, false, false, false, false, false, false, false, false, false, false, false, false, false] rfl rfl (one_of HT_.out (by kernel_rfl)) (by decide) (fun K hK => ?_)
       refine goes_ Tryd.func16 (by kernel_rfl) rfl #[.agg #[.string a1_0, .slice A1_1 l1_1.length c1_1]] (by rfl) rfl rfl (by (try simp only [List.map_toArray, List.map_cons, List.map_nil]); first | done | rfl | (simp only [List.length_drop, List.length_take]; rfl)) ?_
       with_reducible refine (culetlaw44_Own.calls kj2 a1_0 _ _ l1_1 t373 t374 _ ?side1 ?side2 A33.out).mono ?_
       (case side1 => exact mc_ (Kd.C_below HR1_1.out HB.out))
       (case side2 => exact HC1_1.out)
       rintro e w140 ⟨v375, rfl, ho0, hb⟩
       refine ⟨_, rfl, ?_⟩
       have z_ := aI (am_ (Kd.R_elder' (mr_ HO358.out) (Kd.R_base ho0) hb)) (aI (am_ (Kd.R_elder' (mr_ HO366.out) (Kd.R_base ho0) hb)) (aI (am_ (Kd.R_elder' (mr_ HO372.out) (Kd.R_base ho0) hb)) (aI (am_ (Kd.R_lower (Kd.R_new' (Kd.R_new' (Kd.R_new' ho0 (Kd.R_lt (mr_ HO358.out))) (Kd.R_lt (mr_ HO366.out))) (Kd.R_lt (mr_ HO372.out))) (below_size (mb_ HB.out)))) (aI (am_ (blk_below (mk_ BK349.out) hb)) (aI (am_ (blk_below (mk_ BK350.out) hb)) (am_ (below_step (mb_ HB.out) hb)))))))
       clear HO358 HO366 HO372 BK349 BK350 HB
       obtain ⟨HO358, HO366, HO372, HO376, BK349, BK350, HB⟩ := z_
       (try clear hb)
       (try clear hb2)
       (try clear hk)
       (try clear hi)
       (try clear ho0)
       obtain ⟨Ao141, co141, eo141⟩ := Kd.R_slice HO372.out
       (first | subst eo141 | (injection eo141 with f1_ f2_ f3_; have f4_ := f1_.symm; have f5_ := f3_.symm; clear f1_ f2_ f3_; subst f4_; subst f5_))
       obtain ⟨Ao142, co142, eo142⟩ := Kd.R_slice HO376.out
       (first | subst eo142 | (injection eo142 with f1_ f2_ f3_; have f4_ := f1_.symm; have f5_ := f3_.symm; clear f1_ f2_ f3_; subst f4_; subst f5_))
       refine hK.out _ _ ⟨(blk_cell BK349.out 0).trans rfl, (blk_cell BK349.out 1).trans rfl, (blk_cell BK350.out 0).trans rfl, (blk_cell BK350.out 1).trans rfl⟩ (fun hHeld => ?_)
       clear hK K
       refine norm_ (a' := ?_) ?_ ?_
       rotate_left
       ·
        show Act.put _ (some 43) _ = _
        simp only [Act.put, List.setIfInBounds_toArray, List.set_cons_zero, List.set_cons_succ, i64_w, i32_w]
        rfl
       refine one_ (i := 11) (N := some 44) #[true, true, true, true, true, true, true, true, true, true, true, true, true, true, false, false, false, false, false, false, false, false, false, false, false, false, false, false, false, false, false, false, false, false, false, false, false, false, false, false, false, false, false] rfl rfl (one_of HT_.out (by kernel_rfl)) (by decide) (fun K hK => ?_)
       refine goes_ Tryd.func24 (by kernel_rfl) rfl #[.agg #[.string t369, .slice Ao141 t370.length co141], .agg #[.string t373, .slice Ao142 t374.length co142]] (by rfl) rfl rfl (by (try simp only [List.map_toArray, List.map_cons, List.map_nil]); first | done | rfl | (simp only [List.length_drop, List.length_take]; rfl)) ?_
       with_reducible refine (tariff_Equal.calls kj2 t369 _ _ t370 t373 _ _ t374 t377 _ ?side1 ?side2 ?side3 ?side4 A34.out).mono ?_
       (case side1 => exact mc_ (Kd.R_reads' HO372.out).2.2)
       (case side2 => exact (Kd.R_reads' HO372.out).2.1)
       (case side3 => exact mc_ (Kd.R_reads' HO376.out).2.2)
       (case side4 => exact (Kd.R_reads' HO376.out).2.1)
       rintro e w143 ⟨rfl, hb⟩
       refine ⟨_, rfl, ?_⟩
       have z_ := aI (am_ (Kd.R_below (mr_ HO358.out) hb)) (aI (am_ (Kd.R_below (mr_ HO366.out) hb)) (aI (am_ (Kd.R_below (mr_ HO372.out) hb)) (aI (am_ (Kd.R_below (mr_ HO376.out) hb)) (aI (am_ (blk_below (mk_ BK349.out) hb)) (aI (am_ (blk_below (mk_ BK350.out) hb)) (am_ (below_step (mb_ HB.out) hb)))))))
       clear HO358 HO366 HO372 HO376 BK349 BK350 HB
       obtain ⟨HO358, HO366, HO372, HO376, BK349, BK350, HB⟩ := z_
       (try clear hb)
       (try clear hb2)
       (try clear hk)
       (try clear hi)
       refine hK.out _ _ ⟨(blk_cell BK349.out 0).trans rfl, (blk_cell BK349.out 1).trans rfl, (blk_cell BK350.out 0).trans rfl, (blk_cell BK350.out 1).trans rfl⟩ (fun hHeld => ?_)
       clear hK K
       refine norm_ (a' := ?_) ?_ ?_
       rotate_left
       ·
        show Act.put _ (some 44) _ = _
        simp only [Act.put, List.setIfInBounds_toArray, List.set_cons_zero, List.set_cons_succ, i64_w, i32_w]
        rfl
       refine one_ (i := 14) (N := some 47) #[true, true, true, true, true, true, true, true, true, true, true, true, true, true, true, false, false, false, false, false, false, false, false, false, false, false, false, false, false, false, false, false, false, false, false, false, false, false, false, false, false, false, false] rfl rfl (one_of HT_.out (by kernel_rfl)) (by decide) (fun K hK => ?_)
       refine goes_ Tryd.func13 (by kernel_rfl) rfl #[.agg #[.string a0_0, .slice A0_1 l0_1.length c0_1], .agg #[.string a1_0, .slice A1_1 l1_1.length c1_1]] (by rfl) rfl rfl (by (try simp only [List.map_toArray, List.map_cons, List.map_nil]); first | done | rfl | (simp only [List.length_drop, List.length_take]; rfl)) ?_
       with_reducible refine (culetref44_Equal.calls kj2 a0_0 _ _ l0_1 a1_0 _ _ l1_1 t378 _ ?side1 ?side2 ?side3 ?side4 A35.out).mono ?_
       (case side1 => exact mc_ (Kd.C_below HR0_1.out HB.out))
       (case side2 => exact HC0_1.out)
       (case side3 => exact mc_ (Kd.C_below HR1_1.out HB.out))
       (case side4 => exact HC1_1.out)
       rintro e w144 ⟨rfl, hb⟩
       refine ⟨_, rfl, ?_⟩
       have z_ := aI (am_ (Kd.R_below (mr_ HO358.out) hb)) (aI (am_ (Kd.R_below (mr_ HO366.out) hb)) (aI (am_ (Kd.R_below (mr_ HO372.out) hb)) (aI (am_ (Kd.R_below (mr_ HO376.out) hb)) (aI (am_ (blk_below (mk_ BK349.out) hb)) (aI (am_ (blk_below (mk_ BK350.out) hb)) (am_ (below_step (mb_ HB.out) hb)))))))
       clear HO358 HO366 HO372 HO376 BK349 BK350 HB
       obtain ⟨HO358, HO366, HO372, HO376, BK349, BK350, HB⟩ := z_
       (try clear hb)
       (try clear hb2)
       (try clear hk)
       (try clear hi)
       refine hK.out _ _ ⟨(blk_cell BK349.out 0).trans rfl, (blk_cell BK349.out 1).trans rfl, (blk_cell BK350.out 0).trans rfl, (blk_cell BK350.out 1).trans rfl⟩ (fun hHeld => ?_)
       clear hK K
       refine norm_ (a' := ?_) ?_ ?_
       rotate_left
       ·
        show Act.put _ (some 47) _ = _
        simp only [Act.put, List.setIfInBounds_toArray, List.set_cons_zero, List.set_cons_succ, i64_w, i32_w]
        rfl
       refine ltd (o := [0, 1, 2, 3, 4, 5, 6, 7, 8, 9, 10, 11, 12, 13, 14, 15, 16, 17, 18, 20]) (n := 15) (m := 43) (by kernel_rfl) ?_
       iterate 5 (first | (refine tnd (v := ?_) (a' := ?_) rfl rfl (take_ofW HT_.out HW_.out (by kernel_rfl)) (fun _ _ _ h => h) (Or.inl ⟨by rfl, ?_⟩) hHeld ?_ ?_; rotate_left; (· (rintro w' ⟨s0, s1, s2, s3⟩; go_simp; with_reducible rfl)); rotate_left; (· (show Act.put _ (some _) _ = _; simp only [Act.put, List.setIfInBounds_toArray, List.set_cons_zero, List.set_cons_succ, i64_w, i32_w]; rfl))) | (refine pnd (v := ?_) (a' := ?_) rfl rfl (any_of HT_.out (by kernel_rfl)) (fun _ _ _ h => h) (Or.inl ⟨by rfl, ?_⟩) ?_ ?_; rotate_left; (· (intro w'; go_simp; with_reducible rfl)); rotate_left; (· (show Act.put _ (some _) _ = _; simp only [Act.put, List.setIfInBounds_toArray, List.set_cons_zero, List.set_cons_succ, i64_w, i32_w]; rfl))))
       refine one_ (i := 19) (N := some 52) #[true, true, true, true, true, true, true, true, true, true, true, true, true, true, true, true, true, true, true, true, true, false, false, false, false, false, false, false, false, false, false, false, false, false, false, false, false, false, false, false, false, false, false] rfl rfl (one_of HT_.out (by kernel_rfl)) (by decide) (fun K hK => ?_)
       refine goes_ Tryd.func16 (by kernel_rfl) rfl #[.agg #[.string a0_0, .slice A0_1 l0_1.length c0_1]] (by rfl) rfl rfl (by (try simp only [List.map_toArray, List.map_cons, List.map_nil]); first | done | rfl | (simp only [List.length_drop, List.length_take]; rfl)) ?_
       with_reducible refine (culetlaw44_Own.calls kj2 a0_0 _ _ l0_1 t379 t380 _ ?side1 ?side2 A37.out).mono ?_
       (case side1 => exact mc_ (Kd.C_below HR0_1.out HB.out))
       (case side2 => exact HC0_1.out)
       rintro e w145 ⟨v381, rfl, ho0, hb⟩
       refine ⟨_, rfl, ?_⟩
       have z_ := aI (am_ (Kd.R_elder' (mr_ HO358.out) (Kd.R_base ho0) hb)) (aI (am_ (Kd.R_elder' (mr_ HO366.out) (Kd.R_base ho0) hb)) (aI (am_ (Kd.R_elder' (mr_ HO372.out) (Kd.R_base ho0) hb)) (aI (am_ (Kd.R_elder' (mr_ HO376.out) (Kd.R_base ho0) hb)) (aI (am_ (Kd.R_lower (Kd.R_new' (Kd.R_new' (Kd.R_new' (Kd.R_new' ho0 (Kd.R_lt (mr_ HO358.out))) (Kd.R_lt (mr_ HO366.out))) (Kd.R_lt (mr_ HO372.out))) (Kd.R_lt (mr_ HO376.out))) (below_size (mb_ HB.out)))) (aI (am_ (blk_below (mk_ BK349.out) hb)) (aI (am_ (blk_below (mk_ BK350.out) hb)) (am_ (below_step (mb_ HB.out) hb))))))))
       clear HO358 HO366 HO372 HO376 BK349 BK350 HB
       obtain ⟨HO358, HO366, HO372, HO376, HO382, BK349, BK350, HB⟩ := z_
       (try clear hb)
       (try clear hb2)
       (try clear hk)
       (try clear hi)
       (try clear ho0)
       refine hK.out _ _ ⟨(blk_cell BK349.out 0).trans rfl, (blk_cell BK349.out 1).trans rfl, (blk_cell BK350.out 0).trans rfl, (blk_cell BK350.out 1).trans rfl⟩ (fun hHeld => ?_)
       clear hK K
       refine norm_ (a' := ?_) ?_ ?_
       rotate_left
       ·
        show Act.put _ (some 52) _ = _
        simp only [Act.put, List.setIfInBounds_toArray, List.set_cons_zero, List.set_cons_succ, i64_w, i32_w]
        rfl
       refine one_ (i := 21) (N := some 54) #[true, true, true, true, true, true, true, true, true, true, true, true, true, true, true, true, true, true, true, true, true, true, false, false, false, false, false, false, false, false, false, false, false, false, false, false, false, false, false, false, false, false, false] rfl rfl (one_of HT_.out (by kernel_rfl)) (by decide) (fun K hK => ?_)
       refine goes_ Tryd.func16 (by kernel_rfl) rfl #[.agg #[.string a0_0, .slice A0_1 l0_1.length c0_1]] (by rfl) rfl rfl (by (try simp only [List.map_toArray, List.map_cons, List.map_nil]); first | done | rfl | (simp only [List.length_drop, List.length_take]; rfl)) ?_
       with_reducible refine (culetlaw44_Own.calls kj2 a0_0 _ _ l0_1 t383 t384 _ ?side1 ?side2 A38.out).mono ?_
       (case side1 => exact mc_ (Kd.C_below HR0_1.out HB.out))
       (case side2 => exact HC0_1.out)
       rintro e w146 ⟨v385, rfl, ho0, hb⟩
       refine ⟨_, rfl, ?_⟩
       have z_ := aI (am_ (Kd.R_elder' (mr_ HO358.out) (Kd.R_base ho0) hb)) (aI (am_ (Kd.R_elder' (mr_ HO366.out) (Kd.R_base ho0) hb)) (aI (am_ (Kd.R_elder' (mr_ HO372.out) (Kd.R_base ho0) hb)) (aI (am_ (Kd.R_elder' (mr_ HO376.out) (Kd.R_base ho0) hb)) (aI (am_ (Kd.R_elder' (mr_ HO382.out) (Kd.R_base ho0) hb)) (aI (am_ (Kd.R_lower (Kd.R_new' (Kd.R_new' (Kd.R_new' (Kd.R_new' (Kd.R_new' ho0 (Kd.R_lt (mr_ HO358.out))) (Kd.R_lt (mr_ HO366.out))) (Kd.R_lt (mr_ HO372.out))) (Kd.R_lt (mr_ HO376.out))) (Kd.R_lt (mr_ HO382.out))) (below_size (mb_ HB.out)))) (aI (am_ (blk_below (mk_ BK349.out) hb)) (aI (am_ (blk_below (mk_ BK350.out) hb)) (am_ (below_step (mb_ HB.out) hb)))))))))
       clear HO358 HO366 HO372 HO376 HO382 BK349 BK350 HB
       obtain ⟨HO358, HO366, HO372, HO376, HO382, HO386, BK349, BK350, HB⟩ := z_
       (try clear hb)
       (try clear hb2)
       (try clear hk)
       (try clear hi)
       (try clear ho0)
       obtain ⟨Ao147, co147, eo147⟩ := Kd.R_slice HO382.out
       (first | subst eo147 | (injection eo147 with f1_ f2_ f3_; have f4_ := f1_.symm; have f5_ := f3_.symm; clear f1_ f2_ f3_; subst f4_; subst f5_))
       obtain ⟨Ao148, co148, eo148⟩ := Kd.R_slice HO386.out
       (first | subst eo148 | (injection eo148 with f1_ f2_ f3_; have f4_ := f1_.symm; have f5_ := f3_.symm; clear f1_ f2_ f3_; subst f4_; subst f5_))
       refine hK.out _ _ ⟨(blk_cell BK349.out 0).trans rfl, (blk_cell BK349.out 1).trans rfl, (blk_cell BK350.out 0).trans rfl, (blk_cell BK350.out 1).trans rfl⟩ (fun hHeld => ?_)
       clear hK K
       refine norm_ (a' := ?_) ?_ ?_
       rotate_left
       ·
        show Act.put _ (some 54) _ = _
        simp only [Act.put, List.setIfInBounds_toArray, List.set_cons_zero, List.set_cons_succ, i64_w, i32_w]
        rfl
       refine one_ (i := 22) (N := some 55) #[true, true, true, true, true, true, true, true, true, true, true, true, true, true, true, true, true, true, true, true, true, true, true, false, false, false, false, false, false, false, false, false, false, false, false, false, false, false, false, false, false, false, false] rfl rfl (one_of HT_.out (by kernel_rfl)) (by decide) (fun K hK => ?_)
       refine goes_ Tryd.func24 (by kernel_rfl) rfl #[.agg #[.string t379, .slice Ao147 t380.length co147], .agg #[.string t383, .slice Ao148 t384.length co148]] (by rfl) rfl rfl (by (try simp only [List.map_toArray, List.map_cons, List.map_nil]); first | done | rfl | (simp only [List.length_drop, List.length_take]; rfl)) ?_
       with_reducible refine (tariff_Equal.calls kj2 t379 _ _ t380 t383 _ _ t384 false _ ?side1 ?side2 ?side3 ?side4 A39.out).mono ?_
       (case side1 => exact mc_ (Kd.R_reads' HO382.out).2.2)
       (case side2 => exact (Kd.R_reads' HO382.out).2.1)
       (case side3 => exact mc_ (Kd.R_reads' HO386.out).2.2)
       (case side4 => exact (Kd.R_reads' HO386.out).2.1)
       rintro e w149 ⟨rfl, hb⟩
       refine ⟨_, rfl, ?_⟩
       have z_ := aI (am_ (Kd.R_below (mr_ HO358.out) hb)) (aI (am_ (Kd.R_below (mr_ HO366.out) hb)) (aI (am_ (Kd.R_below (mr_ HO372.out) hb)) (aI (am_ (Kd.R_below (mr_ HO376.out) hb)) (aI (am_ (Kd.R_below (mr_ HO382.out) hb)) (aI (am_ (Kd.R_below (mr_ HO386.out) hb)) (aI (am_ (blk_below (mk_ BK349.out) hb)) (aI (am_ (blk_below (mk_ BK350.out) hb)) (am_ (below_step (mb_ HB.out) hb)))))))))
       clear HO358 HO366 HO372 HO376 HO382 HO386 BK349 BK350 HB
       obtain ⟨HO358, HO366, HO372, HO376, HO382, HO386, BK349, BK350, HB⟩ := z_
       (try clear hb)
       (try clear hb2)
       (try clear hk)
       (try clear hi)
       refine hK.out _ _ ⟨(blk_cell BK349.out 0).trans rfl, (blk_cell BK349.out 1).trans rfl, (blk_cell BK350.out 0).trans rfl, (blk_cell BK350.out 1).trans rfl⟩ (fun hHeld => ?_)
       clear hK K
       refine norm_ (a' := ?_) ?_ ?_
       rotate_left
       ·
        show Act.put _ (some 55) _ = _
        simp only [Act.put, List.setIfInBounds_toArray, List.set_cons_zero, List.set_cons_succ, i64_w, i32_w]
        rfl
       refine ltd (o := [0, 1, 2, 3, 4, 5, 6, 7, 8, 9, 10, 11, 12, 13, 14, 15, 16, 17, 18, 19, 20, 21, 22, 23, 24, 25, 26, 27, 28, 29, 30, 31, 32, 33, 34, 35, 36, 37, 38, 39, 40, 41, 42]) (n := 23) (m := 43) (by kernel_rfl) ?_
       iterate 20 (first | (refine pnd rfl rfl (any_of HT_.out (by kernel_rfl)) (fun _ _ _ h => h) (Or.inr ⟨by rfl, rfl⟩) (a' := ?_) ?_ ?_; rotate_left; (· (show Act.put _ (some _) _ = _; simp only [Act.put, List.setIfInBounds_toArray, List.set_cons_zero, List.set_cons_succ, i64_w, i32_w]; rfl))) | (refine pnd (v := ?_) (a' := ?_) rfl rfl (any_of HT_.out (by kernel_rfl)) (fun _ _ _ h => h) (Or.inl ⟨by rfl, ?_⟩) ?_ ?_; rotate_left; (· (intro w'; go_simp; with_reducible rfl)); rotate_left; (· (show Act.put _ (some _) _ = _; simp only [Act.put, List.setIfInBounds_toArray, List.set_cons_zero, List.set_cons_succ, i64_w, i32_w]; rfl))))
       refine done_ (done_of HT_.out (by kernel_rfl)) ?_
       try go_wp2
       go_ret
       exact ⟨by first | rfl | (simp [errW_none, errW_some] <;> rfl) | (simp [*, errW_none, errW_some] <;> rfl), mb_ HB.out⟩
     ·
      rw [if_neg c36] at H
      have c36b0 : (t377 == t378) = false := by simpa using c36
      (try (have c36b1 : decide (t377 = t378) = false := by simpa using c36))
      (try (have c36b2 : (t377 == t378) = false := by simpa using c36))
      (try (have c36b3 : ¬ (t377 = t378) := by simpa using c36))
      clear c36
      obtain rfl := Option.some.inj H
      have hnb150 := NB349_350.out
      have hnc150 := NB350_349.out
      have hcz151_0 : wc.cell? ⟨gb349, 0, none⟩ = some (.string a0_0) := (blk_cell BK349.out 0).trans rfl
      have hcz151_1 : wc.cell? ⟨gb349, 1, none⟩ = some (.slice A0_1 l0_1.length c0_1) := (blk_cell BK349.out 1).trans rfl
      have hfz151_0 := blk_frozen BK349.out 0
      have hfz151_1 := blk_frozen BK349.out 1
      try go_wp2_with (first | ((with_reducible refine gate_callee (f := 16) rfl ?_); refine goesL_ (some 24) rfl rfl Tryd.func16 (by kernel_rfl) rfl #[.agg #[.string a0_0, .slice A0_1 l0_1.length c0_1]] rfl (by (try simp only [List.map_toArray, List.map_cons, List.map_nil]); first | done | rfl | (simp only [List.length_drop, List.length_take]; rfl)) ?_; (with_reducible refine (culetlaw44_Own.calls kj2 a0_0 _ _ l0_1 t355 t356 _ ?side1 ?side2 A25.out).mono ?_); (case side1 => exact mc_ (Kd.C_below HR0_1.out HB.out)); (case side2 => exact HC0_1.out); rintro e w152 ⟨v357, rfl, ho0, hb⟩; refine ⟨_, rfl, ?_⟩; have z_ := aI (am_ (Kd.R_lower ho0 (below_size (mb_ HB.out)))) (aI (am_ (blk_below (mk_ BK349.out) hb)) (aI (am_ (blk_below (mk_ BK350.out) hb)) (am_ (below_step (mb_ HB.out) hb)))); clear BK349 BK350 HB; obtain ⟨HO358, BK349, BK350, HB⟩ := z_; (try clear hb); (try clear hb2); (try clear hk); (try clear hi); (try clear ho0); obtain ⟨Ao153, co153, eo153⟩ := Kd.R_slice HO358.out; subst eo153) | ((with_reducible refine gate_callee (f := 15) rfl ?_); refine goesL_ (some 25) rfl rfl Tryd.func15 (by kernel_rfl) rfl #[.agg #[.string t355, .slice Ao153 t356.length co153]] rfl (by (try simp only [List.map_toArray, List.map_cons, List.map_nil]); first | done | rfl | (simp only [List.length_drop, List.length_take]; rfl)) ?_; (with_reducible refine (tariff_Print.calls kj2 t355 _ _ t356 t359 t360 _ (HTW.out.at (mb_ HB.out)) ?side1 ?side2 A26.out).mono ?_); (case side1 => exact mc_ (Kd.R_reads' HO358.out).2.2); (case side2 => exact (Kd.R_reads' HO358.out).2.1); rintro e w154 ⟨rfl, hb⟩; refine ⟨_, rfl, ?_⟩; have z_ := aI (am_ (Kd.R_below (mr_ HO358.out) hb)) (aI (am_ (blk_below (mk_ BK349.out) hb)) (aI (am_ (blk_below (mk_ BK350.out) hb)) (am_ (below_step (mb_ HB.out) hb)))); clear HO358 BK349 BK350 HB; obtain ⟨HO358, BK349, BK350, HB⟩ := z_; (try clear hb); (try clear hb2); (try clear hk); (try clear hi); have hcz155_0 : w154.cell? ⟨gb349, 0, none⟩ = some (.string a0_0) := (blk_cell BK349.out 0).trans rfl; have hcz155_1 : w154.cell? ⟨gb349, 1, none⟩ = some (.slice A0_1 l0_1.length c0_1) := (blk_cell BK349.out 1).trans rfl; have hfz155_0 := blk_frozen BK349.out 0; have hfz155_1 := blk_frozen BK349.out 1) | ((with_reducible refine gate_callee (f := 22) rfl ?_); refine goesL_ (some 30) rfl rfl Tryd.func22 (by kernel_rfl) rfl #[.agg #[.string a0_0, .slice A0_1 l0_1.length c0_1]] rfl (by (try simp only [List.map_toArray, List.map_cons, List.map_nil]); first | done | rfl | (simp only [List.length_drop, List.length_take]; rfl)) ?_; (with_reducible refine (culetref44_Print.calls kj2 a0_0 _ _ l0_1 t361 t362 _ ?side1 ?side2 A27.out).mono ?_); (case side1 => exact mc_ (Kd.C_below HR0_1.out HB.out)); (case side2 => exact HC0_1.out); rintro e w156 ⟨rfl, hb⟩; refine ⟨_, rfl, ?_⟩; have z_ := aI (am_ (Kd.R_below (mr_ HO358.out) hb)) (aI (am_ (blk_below (mk_ BK349.out) hb)) (aI (am_ (blk_below (mk_ BK350.out) hb)) (am_ (below_step (mb_ HB.out) hb)))); clear HO358 BK349 BK350 HB; obtain ⟨HO358, BK349, BK350, HB⟩ := z_; (try clear hb); (try clear hb2); (try clear hk); (try clear hi)))
      have z_ := aI (am_ (Kd.R_drew HO358.out)) (aI (am_ (blk_drew BK349.out)) (aI (am_ (blk_drew BK350.out)) (am_ (below_drew1 HB.out))))
      clear HO358 BK349 BK350 HB
      obtain ⟨HO358, BK349, BK350, HB⟩ := z_
      refine start_ (n := 43) (S := fun w' => w'.cell? ⟨gb349, 0, none⟩ = some (.string a0_0) ∧ w'.cell? ⟨gb349, 1, none⟩ = some (.slice A0_1 l0_1.length c0_1) ∧ w'.cell? ⟨gb350, 0, none⟩ = some (.string a1_0) ∧ w'.cell? ⟨gb350, 1, none⟩ = some (.slice A1_1 l1_1.length c1_1)) (ds := []) #[false, false, false, false, false, false, false, false, false, false, false, false, false, false, false, false, false, false, false, false, false, false, false, false, false, false, false, false, false, false, false, false, false, false, false, false, false, false, false, false, false, false, false] (by kernel_rfl) rfl rfl ⟨(blk_cell BK349.out 0).trans rfl, (blk_cell BK349.out 1).trans rfl, (blk_cell BK350.out 0).trans rfl, (blk_cell BK350.out 1).trans rfl⟩ (fun hHeld => ?_); refine with_tabW culetlaw44_TariffForms.tab5 culetlaw44_TariffForms.bits5 (fun HT_ HW_ => ?_)
      generalize w156.drew = w157 at HO358 BK349 BK350 HB hHeld ⊢
      refine take_ (i := 0) (N := some 33) (v := ?_) (a' := ?_) #[true, false, false, false, false, false, false, false, false, false, false, false, false, false, false, false, false, false, false, false, false, false, false, false, false, false, false, false, false, false, false, false, false, false, false, false, false, false, false, false, false, false, false] rfl rfl (take_ofW HT_.out HW_.out (by kernel_rfl)) (fun _ _ _ h => h) (Or.inl ⟨by rfl, ?_⟩) hHeld ?_ ?_
      rotate_left
      ·
       rintro w' ⟨s0, s1, s2, s3⟩
       go_simp
       with_reducible rfl
      rotate_left
      ·
       simp only [Act.put, List.setIfInBounds_toArray, List.set_cons_zero, List.set_cons_succ, i64_w, i32_w]
       rfl
      refine take_ (i := 3) (N := some 36) (v := ?_) (a' := ?_) #[true, false, false, true, false, false, false, false, false, false, false, false, false, false, false, false, false, false, false, false, false, false, false, false, false, false, false, false, false, false, false, false, false, false, false, false, false, false, false, false, false, false, false] rfl rfl (take_ofW HT_.out HW_.out (by kernel_rfl)) (fun _ _ _ h => h) (Or.inl ⟨by rfl, ?_⟩) hHeld ?_ ?_
      rotate_left
      ·
       rintro w' ⟨s0, s1, s2, s3⟩
       go_simp
       with_reducible rfl
      rotate_left
      ·
       simp only [Act.put, List.setIfInBounds_toArray, List.set_cons_zero, List.set_cons_succ, i64_w, i32_w]
       rfl
      refine one_ (i := 1) (N := some 34) #[true, true, false, true, false, false, false, false, false, false, false, false, false, false, false, false, false, false, false, false, false, false, false, false, false, false, false, false, false, false, false, false, false, false, false, false, false, false, false, false, false, false, false] rfl rfl (one_of HT_.out (by kernel_rfl)) (by decide) (fun K hK => ?_)
      refine goes_ Tryd.func16 (by kernel_rfl) rfl #[.agg #[.string a0_0, .slice A0_1 l0_1.length c0_1]] (by rfl) rfl rfl (by (try simp only [List.map_toArray, List.map_cons, List.map_nil]); first | done | rfl | (simp only [List.length_drop, List.length_take]; rfl)) ?_
      with_reducible refine (culetlaw44_Own.calls kj2 a0_0 _ _ l0_1 t363 t364 _ ?side1 ?side2 A28.out).mono ?_
      (case side1 => exact mc_ (Kd.C_below HR0_1.out HB.out))
      (case side2 => exact HC0_1.out)
      rintro e w158 ⟨v365, rfl, ho0, hb⟩
      refine ⟨_, rfl, ?_⟩
      have z_ := aI (am_ (Kd.R_elder' (mr_ HO358.out) (Kd.R_base ho0) hb)) (aI (am_ (Kd.R_lower (Kd.R_new' ho0 (Kd.R_lt (mr_ HO358.out))) (below_size (mb_ HB.out)))) (aI (am_ (blk_below (mk_ BK349.out) hb)) (aI (am_ (blk_below (mk_ BK350.out) hb)) (am_ (below_step (mb_ HB.out) hb)))))
      clear HO358 BK349 BK350 HB
      obtain ⟨HO358, HO366, BK349, BK350, HB⟩ := z_
      (try clear hb)
      (try clear hb2)
      (try clear hk)
      (try clear hi)
      (try clear ho0)
      obtain ⟨Ao159, co159, eo159⟩ := Kd.R_slice HO366.out
      (first | subst eo159 | (injection eo159 with f1_ f2_ f3_; have f4_ := f1_.symm; have f5_ := f3_.symm; clear f1_ f2_ f3_; subst f4_; subst f5_))
      refine hK.out _ _ ⟨(blk_cell BK349.out 0).trans rfl, (blk_cell BK349.out 1).trans rfl, (blk_cell BK350.out 0).trans rfl, (blk_cell BK350.out 1).trans rfl⟩ (fun hHeld => ?_)
      clear hK K
      refine norm_ (a' := ?_) ?_ ?_
      rotate_left
      ·
       show Act.put _ (some 34) _ = _
       simp only [Act.put, List.setIfInBounds_toArray, List.set_cons_zero, List.set_cons_succ, i64_w, i32_w]
       rfl
      refine one_ (i := 2) (N := some 35) #[true, true, true, true, false, false, false, false, false, false, false, false, false, false, false, false, false, false, false, false, false, false, false, false, false, false, false, false, false, false, false, false, false, false, false, false, false, false, false, false, false, false, false] rfl rfl (one_of HT_.out (by kernel_rfl)) (by decide) (fun K hK => ?_)
      refine goes_ Tryd.func23 (by kernel_rfl) rfl #[.agg #[.string t363, .slice Ao159 t364.length co159]] (by rfl) rfl rfl (by (try simp only [List.map_toArray, List.map_cons, List.map_nil]); first | done | rfl | (simp only [List.length_drop, List.length_take]; rfl)) ?_
      with_reducible refine (tariff_Valid.calls kj2 t363 _ _ t364 t367 _ ?side1 ?side2 A29.out).mono ?_
      (case side1 => exact mc_ (Kd.R_reads' HO366.out).2.2)
      (case side2 => exact (Kd.R_reads' HO366.out).2.1)
      rintro e w160 ⟨rfl, hb⟩
      refine ⟨_, rfl, ?_⟩
      have z_ := aI (am_ (Kd.R_below (mr_ HO358.out) hb)) (aI (am_ (Kd.R_below (mr_ HO366.out) hb)) (aI (am_ (blk_below (mk_ BK349.out) hb)) (aI (am_ (blk_below (mk_ BK350.out) hb)) (am_ (below_step (mb_ HB.out) hb)))))
      clear HO358 HO366 BK349 BK350 HB
      obtain ⟨HO358, HO366, BK349, BK350, HB⟩ := z_
      (try clear hb)
      (try clear hb2)
      (try clear hk)
      (try clear hi)
      refine hK.out _ _ ⟨(blk_cell BK349.out 0).trans rfl, (blk_cell BK349.out 1).trans rfl, (blk_cell BK350.out 0).trans rfl, (blk_cell BK350.out 1).trans rfl⟩ (fun hHeld => ?_)
      clear hK K
      refine norm_ (a' := ?_) ?_ ?_
      rotate_left
      ·
       show Act.put _ (some 35) _ = _
       simp only [Act.put, List.setIfInBounds_toArray, List.set_cons_zero, List.set_cons_succ, i64_w, i32_w]
       rfl
      refine one_ (i := 4) (N := some 37) #[true, true, true, true, true, false, false, false, false, false, false, false, false, false, false, false, false, false, false, false, false, false, false, false, false, false, false, false, false, false, false, false, false, false, false, false, false, false, false, false, false, false, false] rfl rfl (one_of HT_.out (by kernel_rfl)) (by decide) (fun K hK => ?_)
      refine goes_ Tryd.func17 (by kernel_rfl) rfl #[.agg #[.string a0_0, .slice A0_1 l0_1.length c0_1]] (by rfl) rfl rfl (by (try simp only [List.map_toArray, List.map_cons, List.map_nil]); first | done | rfl | (simp only [List.length_drop, List.length_take]; rfl)) ?_
      with_reducible refine (culetref44_Valid.calls kj2 a0_0 _ _ l0_1 t368 _ ?side1 ?side2 A30.out).mono ?_
      (case side1 => exact mc_ (Kd.C_below HR0_1.out HB.out))
      (case side2 => exact HC0_1.out)
      rintro e w161 ⟨rfl, hb⟩
      refine ⟨_, rfl, ?_⟩
      have z_ := aI (am_ (Kd.R_below (mr_ HO358.out) hb)) (aI (am_ (Kd.R_below (mr_ HO366.out) hb)) (aI (am_ (blk_below (mk_ BK349.out) hb)) (aI (am_ (blk_below (mk_ BK350.out) hb)) (am_ (below_step (mb_ HB.out) hb)))))
      clear HO358 HO366 BK349 BK350 HB
      obtain ⟨HO358, HO366, BK349, BK350, HB⟩ := z_
      (try clear hb)
      (try clear hb2)
      (try clear hk)
      (try clear hi)
      refine hK.out _ _ ⟨(blk_cell BK349.out 0).trans rfl, (blk_cell BK349.out 1).trans rfl, (blk_cell BK350.out 0).trans rfl, (blk_cell BK350.out 1).trans rfl⟩ (fun hHeld => ?_)
      clear hK K
      refine norm_ (a' := ?_) ?_ ?_
      rotate_left
      ·
       show Act.put _ (some 37) _ = _
       simp only [Act.put, List.setIfInBounds_toArray, List.set_cons_zero, List.set_cons_succ, i64_w, i32_w]
       rfl
      refine ltd (o := [0, 1, 2, 3, 4, 5, 6, 7, 9, 12, 13]) (n := 5) (m := 43) (by kernel_rfl) ?_
      iterate 6 (first | (refine tnd (v := ?_) (a' := ?_) rfl rfl (take_ofW HT_.out HW_.out (by kernel_rfl)) (fun _ _ _ h => h) (Or.inl ⟨by rfl, ?_⟩) hHeld ?_ ?_; rotate_left; (· (rintro w' ⟨s0, s1, s2, s3⟩; go_simp; with_reducible rfl)); rotate_left; (· (show Act.put _ (some _) _ = _; simp only [Act.put, List.setIfInBounds_toArray, List.set_cons_zero, List.set_cons_succ, i64_w, i32_w]; rfl))) | (refine pnd (v := ?_) (a' := ?_) rfl rfl (any_of HT_.out (by kernel_rfl)) (fun _ _ _ h => h) (Or.inl ⟨by rfl, ?_⟩) ?_ ?_; rotate_left; (· (intro w'; go_simp; with_reducible rfl)); rotate_left; (· (show Act.put _ (some _) _ = _; simp only [Act.put, List.setIfInBounds_toArray, List.set_cons_zero, List.set_cons_succ, i64_w, i32_w]; rfl))))
      refine one_ (i := 8) (N := some 41) #[true, true, true, true, true, true, true, true, true, true, false, false, true, true, false, false, false, false, false, false, false, false, false, false, false, false, false, false, false, false, false, false, false, false, false, false, false, false, false, false, false, false, false] rfl rfl (one_of HT_.out (by kernel_rfl)) (by decide) (fun K hK => ?_)
      refine goes_ Tryd.func16 (by kernel_rfl) rfl #[.agg #[.string a0_0, .slice A0_1 l0_1.length c0_1]] (by rfl) rfl rfl (by (try simp only [List.map_toArray, List.map_cons, List.map_nil]); first | done | rfl | (simp only [List.length_drop, List.length_take]; rfl)) ?_
      with_reducible refine (culetlaw44_Own.calls kj2 a0_0 _ _ l0_1 t369 t370 _ ?side1 ?side2 A32.out).mono ?_
      (case side1 => exact mc_ (Kd.C_below HR0_1.out HB.out))
      (case side2 => exact HC0_1.out)
      rintro e w162 ⟨v371, rfl, ho0, hb⟩
      refine ⟨_, rfl, ?_⟩
      have z_ := aI (am_ (Kd.R_elder' (mr_ HO358.out) (Kd.R_base ho0) hb)) (aI (am_ (Kd.R_elder' (mr_ HO366.out) (Kd.R_base ho0) hb)) (aI (am_ (Kd.R_lower (Kd.R_new' (Kd.R_new' ho0 (Kd.R_lt (mr_ HO358.out))) (Kd.R_lt (mr_ HO366.out))) (below_size (mb_ HB.out)))) (aI (am_ (blk_below (mk_ BK349.out) hb)) (aI (am_ (blk_below (mk_ BK350.out) hb)) (am_ (below_step (mb_ HB.out) hb))))))
      clear HO358 HO366 BK349 BK350 HB
      obtain ⟨HO358, HO366, HO372, BK349, BK350, HB⟩ := z_
      (try clear hb)
      (try clear hb2)
      (try clear hk)
      (try clear hi)
      (try clear ho0)
      refine hK.out _ _ ⟨(blk_cell BK349.out 0).trans rfl, (blk_cell BK349.out 1).trans rfl, (blk_cell BK350.out 0).trans rfl, (blk_cell BK350.out 1).trans rfl⟩ (fun hHeld => ?_)
      clear hK K
      refine norm_ (a' := ?_) ?_ ?_
      rotate_left
      ·
       show Act.put _ (some 41) _ = _
       simp only [Act.put, List.setIfInBounds_toArray, List.set_cons_zero, List.set_cons_succ, i64_w, i32_w]
       rfl
      refine one_ (i := 10) (N := some 43) #[true, true, true, true, true, true, true, true, true, true, true, false, true, true, false, false, false, false, false, false, false, false, false, false, false, false, false, false, false, false, false, false, false, false, false, false, false, false, false, false, false, false, false] rfl rfl (one_of HT_.out (by kernel_rfl)) (by decide) (fun K hK => ?_)
      refine goes_ Tryd.func16 (by kernel_rfl) rfl #[.agg #[.string a1_0, .slice A1_1 l1_1.length c1_1]] (by rfl) rfl rfl (by (try simp only [List.map_toArray, List.map_cons, List.map_nil]); first | done | rfl | (simp only [List.length_drop, List.length_take]; rfl)) ?_
      with_reducible refine (culetlaw44_Own.calls kj2 a1_0 _ _ l1_1 t373 t374 _ ?side1 ?side2 A33.out).mono ?_
      (case side1 => exact mc_ (Kd.C_below HR1_1.out HB.out))
      (case side2 => exact HC1_1.out)
      rintro e w163 ⟨v375, rfl, ho0, hb⟩
      refine ⟨_, rfl, ?_⟩
      have z_ := aI (am_ (Kd.R_elder' (mr_ HO358.out) (Kd.R_base ho0) hb)) (aI (am_ (Kd.R_elder' (mr_ HO366.out) (Kd.R_base ho0) hb)) (aI (am_ (Kd.R_elder' (mr_ HO372.out) (Kd.R_base ho0) hb)) (aI (am_ (Kd.R_lower (Kd.R_new' (Kd.R_new' (Kd.R_new' ho0 (Kd.R_lt (mr_ HO358.out))) (Kd.R_lt (mr_ HO366.out))) (Kd.R_lt (mr_ HO372.out))) (below_size (mb_ HB.out)))) (aI (am_ (blk_below (mk_ BK349.out) hb)) (aI (am_ (blk_below (mk_ BK350.out) hb)) (am_ (below_step (mb_ HB.out) hb)))))))
      clear HO358 HO366 HO372 BK349 BK350 HB
      obtain ⟨HO358, HO366, HO372, HO376, BK349, BK350, HB⟩ := z_
      (try clear hb)
      (try clear hb2)
      (try clear hk)
      (try clear hi)
      (try clear ho0)
      obtain ⟨Ao164, co164, eo164⟩ := Kd.R_slice HO372.out
      (first | subst eo164 | (injection eo164 with f1_ f2_ f3_; have f4_ := f1_.symm; have f5_ := f3_.symm; clear f1_ f2_ f3_; subst f4_; subst f5_))
      obtain ⟨Ao165, co165, eo165⟩ := Kd.R_slice HO376.out
      (first | subst eo165 | (injection eo165 with f1_ f2_ f3_; have f4_ := f1_.symm; have f5_ := f3_.symm; clear f1_ f2_ f3_; subst f4_; subst f5_))
      refine hK.out _ _ ⟨(blk_cell BK349.out 0).trans rfl, (blk_cell BK349.out 1).trans rfl, (blk_cell BK350.out 0).trans rfl, (blk_cell BK350.out 1).trans rfl⟩ (fun hHeld => ?_)
      clear hK K
      refine norm_ (a' := ?_) ?_ ?_
      rotate_left
      ·
       show Act.put _ (some 43) _ = _
       simp only [Act.put, List.setIfInBounds_toArray, List.set_cons_zero, List.set_cons_succ, i64_w, i32_w]
       rfl
      refine one_ (i := 11) (N := some 44) #[true, true, true, true, true, true, true, true, true, true, true, true, true, true, false, false, false, false, false, false, false, false, false, false, false, false, false, false, false, false, false, false, false, false, false, false, false, false, false, false, false, false, false] rfl rfl (one_of HT_.out (by kernel_rfl)) (by decide) (fun K hK => ?_)
      refine goes_ Tryd.func24 (by kernel_rfl) rfl #[.agg #[.string t369, .slice Ao164 t370.length co164], .agg #[.string t373, .slice Ao165 t374.length co165]] (by rfl) rfl rfl (by (try simp only [List.map_toArray, List.map_cons, List.map_nil]); first | done | rfl | (simp only [List.length_drop, List.length_take]; rfl)) ?_
      with_reducible refine (tariff_Equal.calls kj2 t369 _ _ t370 t373 _ _ t374 t377 _ ?side1 ?side2 ?side3 ?side4 A34.out).mono ?_
      (case side1 => exact mc_ (Kd.R_reads' HO372.out).2.2)
      (case side2 => exact (Kd.R_reads' HO372.out).2.1)
      (case side3 => exact mc_ (Kd.R_reads' HO376.out).2.2)
      (case side4 => exact (Kd.R_reads' HO376.out).2.1)
      rintro e w166 ⟨rfl, hb⟩
      refine ⟨_, rfl, ?_⟩
      have z_ := aI (am_ (Kd.R_below (mr_ HO358.out) hb)) (aI (am_ (Kd.R_below (mr_ HO366.out) hb)) (aI (am_ (Kd.R_below (mr_ HO372.out) hb)) (aI (am_ (Kd.R_below (mr_ HO376.out) hb)) (aI (am_ (blk_below (mk_ BK349.out) hb)) (aI (am_ (blk_below (mk_ BK350.out) hb)) (am_ (below_step (mb_ HB.out) hb)))))))
      clear HO358 HO366 HO372 HO376 BK349 BK350 HB
      obtain ⟨HO358, HO366, HO372, HO376, BK349, BK350, HB⟩ := z_
      (try clear hb)
      (try clear hb2)
      (try clear hk)
      (try clear hi)
      refine hK.out _ _ ⟨(blk_cell BK349.out 0).trans rfl, (blk_cell BK349.out 1).trans rfl, (blk_cell BK350.out 0).trans rfl, (blk_cell BK350.out 1).trans rfl⟩ (fun hHeld => ?_)
      clear hK K
      refine norm_ (a' := ?_) ?_ ?_
      rotate_left
      ·
       show Act.put _ (some 44) _ = _
       simp only [Act.put, List.setIfInBounds_toArray, List.set_cons_zero, List.set_cons_succ, i64_w, i32_w]
       rfl
      refine one_ (i := 14) (N := some 47) #[true, true, true, true, true, true, true, true, true, true, true, true, true, true, true, false, false, false, false, false, false, false, false, false, false, false, false, false, false, false, false, false, false, false, false, false, false, false, false, false, false, false, false] rfl rfl (one_of HT_.out (by kernel_rfl)) (by decide) (fun K hK => ?_)
      refine goes_ Tryd.func13 (by kernel_rfl) rfl #[.agg #[.string a0_0, .slice A0_1 l0_1.length c0_1], .agg #[.string a1_0, .slice A1_1 l1_1.length c1_1]] (by rfl) rfl rfl (by (try simp only [List.map_toArray, List.map_cons, List.map_nil]); first | done | rfl | (simp only [List.length_drop, List.length_take]; rfl)) ?_
      with_reducible refine (culetref44_Equal.calls kj2 a0_0 _ _ l0_1 a1_0 _ _ l1_1 t378 _ ?side1 ?side2 ?side3 ?side4 A35.out).mono ?_
      (case side1 => exact mc_ (Kd.C_below HR0_1.out HB.out))
      (case side2 => exact HC0_1.out)
      (case side3 => exact mc_ (Kd.C_below HR1_1.out HB.out))
      (case side4 => exact HC1_1.out)
      rintro e w167 ⟨rfl, hb⟩
      refine ⟨_, rfl, ?_⟩
      have z_ := aI (am_ (Kd.R_below (mr_ HO358.out) hb)) (aI (am_ (Kd.R_below (mr_ HO366.out) hb)) (aI (am_ (Kd.R_below (mr_ HO372.out) hb)) (aI (am_ (Kd.R_below (mr_ HO376.out) hb)) (aI (am_ (blk_below (mk_ BK349.out) hb)) (aI (am_ (blk_below (mk_ BK350.out) hb)) (am_ (below_step (mb_ HB.out) hb)))))))
      clear HO358 HO366 HO372 HO376 BK349 BK350 HB
      obtain ⟨HO358, HO366, HO372, HO376, BK349, BK350, HB⟩ := z_
      (try clear hb)
      (try clear hb2)
      (try clear hk)
      (try clear hi)
      refine hK.out _ _ ⟨(blk_cell BK349.out 0).trans rfl, (blk_cell BK349.out 1).trans rfl, (blk_cell BK350.out 0).trans rfl, (blk_cell BK350.out 1).trans rfl⟩ (fun hHeld => ?_)
      clear hK K
      refine norm_ (a' := ?_) ?_ ?_
      rotate_left
      ·
       show Act.put _ (some 47) _ = _
       simp only [Act.put, List.setIfInBounds_toArray, List.set_cons_zero, List.set_cons_succ, i64_w, i32_w]
       rfl
      refine ltd (o := [0, 1, 2, 3, 4, 5, 6, 7, 8, 9, 10, 11, 12, 13, 14, 15, 16, 17, 18, 19, 20, 21, 22, 23, 24, 25, 26, 27, 28, 29, 30, 31, 32, 33, 34, 35, 36, 37, 38, 39, 40, 41, 42]) (n := 15) (m := 43) (by kernel_rfl) ?_
      iterate 28 (first | (refine pnd rfl rfl (any_of HT_.out (by kernel_rfl)) (fun _ _ _ h => h) (Or.inr ⟨by rfl, rfl⟩) (a' := ?_) ?_ ?_; rotate_left; (· (show Act.put _ (some _) _ = _; simp only [Act.put, List.setIfInBounds_toArray, List.set_cons_zero, List.set_cons_succ, i64_w, i32_w]; rfl))) | (refine pnd (v := ?_) (a' := ?_) rfl rfl (any_of HT_.out (by kernel_rfl)) (fun _ _ _ h => h) (Or.inl ⟨by rfl, ?_⟩) ?_ ?_; rotate_left; (· (intro w'; go_simp; with_reducible rfl)); rotate_left; (· (show Act.put _ (some _) _ = _; simp only [Act.put, List.setIfInBounds_toArray, List.set_cons_zero, List.set_cons_succ, i64_w, i32_w]; rfl))))
      refine done_ (done_of HT_.out (by kernel_rfl)) ?_
      try go_wp2
      go_ret
      exact ⟨by first | rfl | (simp [errW_none, errW_some] <;> rfl) | (simp [*, errW_none, errW_some] <;> rfl), mb_ HB.out⟩
    ·
     rw [if_neg c31] at H
     have c31b0 : (t367 == t368) = false := by simpa using c31
     (try (have c31b1 : decide (t367 = t368) = false := by simpa using c31))
     (try (have c31b2 : (t367 == t368) = false := by simpa using c31))
     (try (have c31b3 : ¬ (t367 = t368) := by simpa using c31))
     clear c31
     obtain rfl := Option.some.inj H
     have hnb168 := NB349_350.out
     have hnc168 := NB350_349.out
     have hcz169_0 : wc.cell? ⟨gb349, 0, none⟩ = some (.string a0_0) := (blk_cell BK349.out 0).trans rfl
     have hcz169_1 : wc.cell? ⟨gb349, 1, none⟩ = some (.slice A0_1 l0_1.length c0_1) := (blk_cell BK349.out 1).trans rfl
     have hfz169_0 := blk_frozen BK349.out 0
     have hfz169_1 := blk_frozen BK349.out 1
     try go_wp2_with (first | ((with_reducible refine gate_callee (f := 16) rfl ?_); refine goesL_ (some 24) rfl rfl Tryd.func16 (by kernel_rfl) rfl #[.agg #[.string a0_0, .slice A0_1 l0_1.length c0_1]] rfl (by (try simp only [List.map_toArray, List.map_cons, List.map_nil]); first | done | rfl | (simp only [List.length_drop, List.length_take]; rfl)) ?_; (with_reducible refine (culetlaw44_Own.calls kj2 a0_0 _ _ l0_1 t355 t356 _ ?side1 ?side2 A25.out).mono ?_); (case side1 => exact mc_ (Kd.C_below HR0_1.out HB.out)); (case side2 => exact HC0_1.out); rintro e w170 ⟨v357, rfl, ho0, hb⟩; refine ⟨_, rfl, ?_⟩; have z_ := aI (am_ (Kd.R_lower ho0 (below_size (mb_ HB.out)))) (aI (am_ (blk_below (mk_ BK349.out) hb)) (aI (am_ (blk_below (mk_ BK350.out) hb)) (am_ (below_step (mb_ HB.out) hb)))); clear BK349 BK350 HB; obtain ⟨HO358, BK349, BK350, HB⟩ := z_; (try clear hb); (try clear hb2); (try clear hk); (try clear hi); (try clear ho0); obtain ⟨Ao171, co171, eo171⟩ := Kd.R_slice HO358.out; subst eo171) | ((with_reducible refine gate_callee (f := 15) rfl ?_); refine goesL_ (some 25) rfl rfl Tryd.func15 (by kernel_rfl) rfl #[.agg #[.string t355, .slice Ao171 t356.length co171]] rfl (by (try simp only [List.map_toArray, List.map_cons, List.map_nil]); first | done | rfl | (simp only [List.length_drop, List.length_take]; rfl)) ?_; (with_reducible refine (tariff_Print.calls kj2 t355 _ _ t356 t359 t360 _ (HTW.out.at (mb_ HB.out)) ?side1 ?side2 A26.out).mono ?_); (case side1 => exact mc_ (Kd.R_reads' HO358.out).2.2); (case side2 => exact (Kd.R_reads' HO358.out).2.1); rintro e w172 ⟨rfl, hb⟩; refine ⟨_, rfl, ?_⟩; have z_ := aI (am_ (Kd.R_below (mr_ HO358.out) hb)) (aI (am_ (blk_below (mk_ BK349.out) hb)) (aI (am_ (blk_below (mk_ BK350.out) hb)) (am_ (below_step (mb_ HB.out) hb)))); clear HO358 BK349 BK350 HB; obtain ⟨HO358, BK349, BK350, HB⟩ := z_; (try clear hb); (try clear hb2); (try clear hk); (try clear hi); have hcz173_0 : w172.cell? ⟨gb349, 0, none⟩ = some (.string a0_0) := (blk_cell BK349.out 0).trans rfl; have hcz173_1 : w172.cell? ⟨gb349, 1, none⟩ = some (.slice A0_1 l0_1.length c0_1) := (blk_cell BK349.out 1).trans rfl; have hfz173_0 := blk_frozen BK349.out 0; have hfz173_1 := blk_frozen BK349.out 1) | ((with_reducible refine gate_callee (f := 22) rfl ?_); refine goesL_ (some 30) rfl rfl Tryd.func22 (by kernel_rfl) rfl #[.agg #[.string a0_0, .slice A0_1 l0_1.length c0_1]] rfl (by (try simp only [List.map_toArray, List.map_cons, List.map_nil]); first | done | rfl | (simp only [List.length_drop, List.length_take]; rfl)) ?_; (with_reducible refine (culetref44_Print.calls kj2 a0_0 _ _ l0_1 t361 t362 _ ?side1 ?side2 A27.out).mono ?_); (case side1 => exact mc_ (Kd.C_below HR0_1.out HB.out)); (case side2 => exact HC0_1.out); rintro e w174 ⟨rfl, hb⟩; refine ⟨_, rfl, ?_⟩; have z_ := aI (am_ (Kd.R_below (mr_ HO358.out) hb)) (aI (am_ (blk_below (mk_ BK349.out) hb)) (aI (am_ (blk_below (mk_ BK350.out) hb)) (am_ (below_step (mb_ HB.out) hb)))); clear HO358 BK349 BK350 HB; obtain ⟨HO358, BK349, BK350, HB⟩ := z_; (try clear hb); (try clear hb2); (try clear hk); (try clear hi)))
     have z_ := aI (am_ (Kd.R_drew HO358.out)) (aI (am_ (blk_drew BK349.out)) (aI (am_ (blk_drew BK350.out)) (am_ (below_drew1 HB.out))))
     clear HO358 BK349 BK350 HB
     obtain ⟨HO358, BK349, BK350, HB⟩ := z_
     refine start_ (n := 43) (S := fun w' => w'.cell? ⟨gb349, 0, none⟩ = some (.string a0_0) ∧ w'.cell? ⟨gb349, 1, none⟩ = some (.slice A0_1 l0_1.length c0_1)) (ds := []) #[false, false, false, false, false, false, false, false, false, false, false, false, false, false, false, false, false, false, false, false, false, false, false, false, false, false, false, false, false, false, false, false, false, false, false, false, false, false, false, false, false, false, false] (by kernel_rfl) rfl rfl ⟨(blk_cell BK349.out 0).trans rfl, (blk_cell BK349.out 1).trans rfl⟩ (fun hHeld => ?_); refine with_tabW culetlaw44_TariffForms.tab5 culetlaw44_TariffForms.bits5 (fun HT_ HW_ => ?_)
     generalize w174.drew = w175 at HO358 BK349 BK350 HB hHeld ⊢
     refine take_ (i := 0) (N := some 33) (v := ?_) (a' := ?_) #[true, false, false, false, false, false, false, false, false, false, false, false, false, false, false, false, false, false, false, false, false, false, false, false, false, false, false, false, false, false, false, false, false, false, false, false, false, false, false, false, false, false, false] rfl rfl (take_ofW HT_.out HW_.out (by kernel_rfl)) (fun _ _ _ h => h) (Or.inl ⟨by rfl, ?_⟩) hHeld ?_ ?_
     rotate_left
     ·
      rintro w' ⟨s0, s1⟩
      go_simp
      with_reducible rfl
     rotate_left
     ·
      simp only [Act.put, List.setIfInBounds_toArray, List.set_cons_zero, List.set_cons_succ, i64_w, i32_w]
      rfl
     refine take_ (i := 3) (N := some 36) (v := ?_) (a' := ?_) #[true, false, false, true, false, false, false, false, false, false, false, false, false, false, false, false, false, false, false, false, false, false, false, false, false, false, false, false, false, false, false, false, false, false, false, false, false, false, false, false, false, false, false] rfl rfl (take_ofW HT_.out HW_.out (by kernel_rfl)) (fun _ _ _ h => h) (Or.inl ⟨by rfl, ?_⟩) hHeld ?_ ?_
     rotate_left
     ·
      rintro w' ⟨s0, s1⟩
      go_simp
      with_reducible rfl
     rotate_left
     ·
      simp only [Act.put, List.setIfInBounds_toArray, List.set_cons_zero, List.set_cons_succ, i64_w, i32_w]
      rfl
     refine one_ (i := 1) (N := some 34) #[true, true, false, true, false, false, false, false, false, false, false, false, false, false, false, false, false, false, false, false, false, false, false, false, false, false, false, false, false, false, false, false, false, false, false, false, false, false, false, false, false, false, false] rfl rfl (one_of HT_.out (by kernel_rfl)) (by decide) (fun K hK => ?_)
     refine goes_ Tryd.func16 (by kernel_rfl) rfl #[.agg #[.string a0_0, .slice A0_1 l0_1.length c0_1]] (by rfl) rfl rfl (by (try simp only [List.map_toArray, List.map_cons, List.map_nil]); first | done | rfl | (simp only [List.length_drop, List.length_take]; rfl)) ?_
     with_reducible refine (culetlaw44_Own.calls kj2 a0_0 _ _ l0_1 t363 t364 _ ?side1 ?side2 A28.out).mono ?_
     (case side1 => exact mc_ (Kd.C_below HR0_1.out HB.out))
     (case side2 => exact HC0_1.out)
     rintro e w176 ⟨v365, rfl, ho0, hb⟩
     refine ⟨_, rfl, ?_⟩
     have z_ := aI (am_ (Kd.R_elder' (mr_ HO358.out) (Kd.R_base ho0) hb)) (aI (am_ (Kd.R_lower (Kd.R_new' ho0 (Kd.R_lt (mr_ HO358.out))) (below_size (mb_ HB.out)))) (aI (am_ (blk_below (mk_ BK349.out) hb)) (aI (am_ (blk_below (mk_ BK350.out) hb)) (am_ (below_step (mb_ HB.out) hb)))))
     clear HO358 BK349 BK350 HB
     obtain ⟨HO358, HO366, BK349, BK350, HB⟩ := z_
     (try clear hb)
     (try clear hb2)
     (try clear hk)
     (try clear hi)
     (try clear ho0)
     obtain ⟨Ao177, co177, eo177⟩ := Kd.R_slice HO366.out
     (first | subst eo177 | (injection eo177 with f1_ f2_ f3_; have f4_ := f1_.symm; have f5_ := f3_.symm; clear f1_ f2_ f3_; subst f4_; subst f5_))
     refine hK.out _ _ ⟨(blk_cell BK349.out 0).trans rfl, (blk_cell BK349.out 1).trans rfl⟩ (fun hHeld => ?_)
     clear hK K
     refine norm_ (a' := ?_) ?_ ?_
     rotate_left
     ·
      show Act.put _ (some 34) _ = _
      simp only [Act.put, List.setIfInBounds_toArray, List.set_cons_zero, List.set_cons_succ, i64_w, i32_w]
      rfl
     refine one_ (i := 2) (N := some 35) #[true, true, true, true, false, false, false, false, false, false, false, false, false, false, false, false, false, false, false, false, false, false, false, false, false, false, false, false, false, false, false, false, false, false, false, false, false, false, false, false, false, false, false] rfl rfl (one_of HT_.out (by kernel_rfl)) (by decide) (fun K hK => ?_)
     refine goes_ Tryd.func23 (by kernel_rfl) rfl #[.agg #[.string t363, .slice Ao177 t364.length co177]] (by rfl) rfl rfl (by (try simp only [List.map_toArray, List.map_cons, List.map_nil]); first | done | rfl | (simp only [List.length_drop, List.length_take]; rfl)) ?_
     with_reducible refine (tariff_Valid.calls kj2 t363 _ _ t364 t367 _ ?side1 ?side2 A29.out).mono ?_
     (case side1 => exact mc_ (Kd.R_reads' HO366.out).2.2)
     (case side2 => exact (Kd.R_reads' HO366.out).2.1)
     rintro e w178 ⟨rfl, hb⟩
     refine ⟨_, rfl, ?_⟩
     have z_ := aI (am_ (Kd.R_below (mr_ HO358.out) hb)) (aI (am_ (Kd.R_below (mr_ HO366.out) hb)) (aI (am_ (blk_below (mk_ BK349.out) hb)) (aI (am_ (blk_below (mk_ BK350.out) hb)) (am_ (below_step (mb_ HB.out) hb)))))
     clear HO358 HO366 BK349 BK350 HB
     obtain ⟨HO358, HO366, BK349, BK350, HB⟩ := z_
     (try clear hb)
     (try clear hb2)
     (try clear hk)
     (try clear hi)
     refine hK.out _ _ ⟨(blk_cell BK349.out 0).trans rfl, (blk_cell BK349.out 1).trans rfl⟩ (fun hHeld => ?_)
     clear hK K
     refine norm_ (a' := ?_) ?_ ?_
     rotate_left
     ·
      show Act.put _ (some 35) _ = _
      simp only [Act.put, List.setIfInBounds_toArray, List.set_cons_zero, List.set_cons_succ, i64_w, i32_w]
      rfl
     refine one_ (i := 4) (N := some 37) #[true, true, true, true, true, false, false, false, false, false, false, false, false, false, false, false, false, false, false, false, false, false, false, false, false, false, false, false, false, false, false, false, false, false, false, false, false, false, false, false, false, false, false] rfl rfl (one_of HT_.out (by kernel_rfl)) (by decide) (fun K hK => ?_)
     refine goes_ Tryd.func17 (by kernel_rfl) rfl #[.agg #[.string a0_0, .slice A0_1 l0_1.length c0_1]] (by rfl) rfl rfl (by (try simp only [List.map_toArray, List.map_cons, List.map_nil]); first | done | rfl | (simp only [List.length_drop, List.length_take]; rfl)) ?_
     with_reducible refine (culetref44_Valid.calls kj2 a0_0 _ _ l0_1 t368 _ ?side1 ?side2 A30.out).mono ?_
     (case side1 => exact mc_ (Kd.C_below HR0_1.out HB.out))
     (case side2 => exact HC0_1.out)
     rintro e w179 ⟨rfl, hb⟩
     refine ⟨_, rfl, ?_⟩
     have z_ := aI (am_ (Kd.R_below (mr_ HO358.out) hb)) (aI (am_ (Kd.R_below (mr_ HO366.out) hb)) (aI (am_ (blk_below (mk_ BK349.out) hb)) (aI (am_ (blk_below (mk_ BK350.out) hb)) (am_ (below_step (mb_ HB.out) hb)))))
     clear HO358 HO366 BK349 BK350 HB
     obtain ⟨HO358, HO366, BK349, BK350, HB⟩ := z_
     (try clear hb)
     (try clear hb2)
     (try clear hk)
     (try clear hi)
     refine hK.out _ _ ⟨(blk_cell BK349.out 0).trans rfl, (blk_cell BK349.out 1).trans rfl⟩ (fun hHeld => ?_)
     clear hK K
     refine norm_ (a' := ?_) ?_ ?_
     rotate_left
     ·
      show Act.put _ (some 37) _ = _
      simp only [Act.put, List.setIfInBounds_toArray, List.set_cons_zero, List.set_cons_succ, i64_w, i32_w]
      rfl
     refine ltd (o := [0, 1, 2, 3, 4, 5, 6, 7, 8, 9, 10, 11, 12, 13, 14, 15, 16, 17, 18, 19, 20, 21, 22, 23, 24, 25, 26, 27, 28, 29, 30, 31, 32, 33, 34, 35, 36, 37, 38, 39, 40, 41, 42]) (n := 5) (m := 43) (by kernel_rfl) ?_
     iterate 38 (first | (refine pnd rfl rfl (any_of HT_.out (by kernel_rfl)) (fun _ _ _ h => h) (Or.inr ⟨by rfl, rfl⟩) (a' := ?_) ?_ ?_; rotate_left; (· (show Act.put _ (some _) _ = _; simp only [Act.put, List.setIfInBounds_toArray, List.set_cons_zero, List.set_cons_succ, i64_w, i32_w]; rfl))) | (refine pnd (v := ?_) (a' := ?_) rfl rfl (any_of HT_.out (by kernel_rfl)) (fun _ _ _ h => h) (Or.inl ⟨by rfl, ?_⟩) ?_ ?_; rotate_left; (· (intro w'; go_simp; with_reducible rfl)); rotate_left; (· (show Act.put _ (some _) _ = _; simp only [Act.put, List.setIfInBounds_toArray, List.set_cons_zero, List.set_cons_succ, i64_w, i32_w]; rfl))))
     refine done_ (done_of HT_.out (by kernel_rfl)) ?_
     try go_wp2
     go_ret
     exact ⟨by first | rfl | (simp [errW_none, errW_some] <;> rfl) | (simp [*, errW_none, errW_some] <;> rfl), mb_ HB.out⟩

end Go.Proofs.YtejgenhmhahgeaaDoor.T
