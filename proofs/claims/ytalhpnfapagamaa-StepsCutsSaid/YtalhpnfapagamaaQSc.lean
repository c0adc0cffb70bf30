-- Written by this session's own programs; what the law does not lean on is left out. Lean checks it.
import Derived.Test.YtalhpnfapagamaaQSx12
import Derived.Test.YtalhpnfapagamaaQN
import Derived.Test.YtalhpnfapagamaaQSx15
import Derived.Test.YtalhpnfapagamaaQSx17
import Derived.Test.YtalhpnfapagamaaQHMaps2
namespace Go.Proofs.Ytalhpnfapagamaa.S
open Go.Maps Go.ChangeMaps Go.RowKit Go.Proofs.YtalhpnfapagamaaW.PrintWords Go.Proofs.YtalhpnfapagamaaW.PrintLast Go.Proofs.YtalhpnfapagamaaW.PrintMore
set_option linter.unusedVariables false
set_option linter.unusedSimpArgs false

def culetlaw49_StepsCuts.l1 : Nat → List Int → List (Int × Int) → List S62 → Int → Int → List S94 → List S68 → Option Bool
 | 0, _, _, _, _, _, _, _ => none
 | k + 1, s, cs, x3, x9, x49, l0, l1 => if x49 < (x3.length : Int) then (if 0 ≤ x49 then (if x49 < (x3.length : Int) then (if ((rd_T62 x3 x49).f0) = 3 then (if (((0 ≤ (rd_T62 x3 x49).f2 ∧ (rd_T62 x3 x49).f2 ≤ 1000) ∧ 0 ≤ (rd_T62 x3 x49).f1 ∧ (rd_T62 x3 x49).f1 ≤ 1000) ∧ ((rd_T62 x3 x49).f2, (rd_T62 x3 x49).f1) ∉ cs) then (culetlaw49_StepsCuts.l1 k s (cs ++ [((rd_T62 x3 x49).f2, (rd_T62 x3 x49).f1)]) x3 x9 (wrap64 (x49 + 1)) l0 l1) else none) else (if ((rd_T62 x3 x49).f0) = 2 then (culetlaw49_StepsCuts.l1 k s cs x3 (wrap64 (x9 + 1)) (wrap64 (x49 + 1)) l0 l1) else (culetlaw49_StepsCuts.l1 k s cs x3 x9 (wrap64 (x49 + 1)) l0 l1))) else none) else none) else (if (cs.length : Int) = (wrap64 ((l1.length : Int) * (l0.length : Int))) then (if x9 = (wrap64 ((s.length : Int) - 1)) then ((steps_Changes.f k x3).bind fun t165 => (some ((x3.length : Int) == (wrap64 ((wrap64 ((wrap64 ((l1.length : Int) * (l0.length : Int))) + x9)) + t165))))) else (some false)) else (some false))
def culetlaw49_StepsCuts.l0 : Nat → List Int → List S62 → Int → List S94 → List S68 → Option Bool
 | 0, _, _, _, _, _ => none
 | k + 1, s, x3, x38, l0, l1 => if x38 < (l1.length : Int) then (if 0 ≤ x38 then (if x38 < (l1.length : Int) then (if 0 ≤ (rd_T68 l1 x38).f1 ∧ (rd_T68 l1 x38).f1 ≤ 1000 then (culetlaw49_StepsCuts.l0 k (ins s (rd_T68 l1 x38).f1) x3 (wrap64 (x38 + 1)) l0 l1) else none) else none) else none) else (culetlaw49_StepsCuts.l1 k s [] x3 0 0 l0 l1)
def culetlaw49_StepsCuts.j0 (k : Nat) (x21 : Bool) (l0 : List S94) (l1 : List S68) (a2 a3 : Int) : Option Bool := if x21 = true then ((culetlaw49_awake.f k).bind fun t150 => (some t150)) else ((culetlaw49_Own.f k l0 l1 a2 a3).bind fun bt151 => ((steps_Of.f k bt151.1 bt151.2.1 bt151.2.2.1 bt151.2.2.2).bind fun bt159 => (if bt159.2 = 0 then (culetlaw49_StepsCuts.l0 k [] bt159.1 0 l0 l1) else (some ((bt159.1.length : Int) == 0)))))
def culetlaw49_StepsCuts.f (k : Nat) (l0_0 : List (S94)) (l0_1 : List (S68)) (a0_2 : Int) (a0_3 : Int) : Option (Bool) := (culetlaw49_awake.f k).bind fun t148 => (if t148 = true then ((culetref49_Few.f k l0_0 l0_1 a0_2 a0_3).bind fun t149 => (culetlaw49_StepsCuts.j0 k (!t149) l0_0 l0_1 a0_2 a0_3)) else (culetlaw49_StepsCuts.j0 k true l0_0 l0_1 a0_2 a0_3))
def culetlaw49_StepsCuts.T18 : Bool × List (List Nat × List Nat) := (true, [([], []), ([], []), ([1], [1]), ([], []), ([3], [3]), ([2, 4], [2, 4]), ([0, 5], [0, 5]), ([6], [6]), ([0, 5, 0, 1, 2, 3, 4, 5], [0, 5]), ([8], [8]), ([0, 9, 7, 8, 0, 1, 2, 3, 4, 5, 6, 7, 8, 9], [0, 7, 9])])
def culetlaw49_StepsCuts.B18 : List Nat := [0, 0, 2, 0, 8, 30, 63, 127, 63, 319, 1023]
theorem culetlaw49_StepsCuts.tab18 : rtab .any (opsOf Try.f9 18) = culetlaw49_StepsCuts.T18 := by kernel_rfl
theorem culetlaw49_StepsCuts.bits18 : waitsOk culetlaw49_StepsCuts.T18.2 culetlaw49_StepsCuts.B18 = true := by kernel_rfl
theorem zero3 (w : World) : (zeroValue 3).run Try.prog w = .ok (.int .i64 0) w := by kernel_rfl
set_option maxHeartbeats 8000000 in
set_option maxRecDepth 100000 in
theorem culetlaw49_StepsCuts.calls (k : Nat) (A0_0 : Option Addr) (c0_0 : Nat) (l0_0 : List (S94)) (A0_1 : Option Addr) (c0_1 : Nat) (l0_1 : List (S68)) (a0_2 : Int) (a0_3 : Int) (r : Bool) (w : World) (hr0_0 : Kd.C k94 w A0_0 l0_0.length l0_0) (hc0_0 : l0_0.length ≤ c0_0) (hr0_1 : Kd.C k68 w A0_1 l0_1.length l0_1) (hc0_1 : l0_1.length ≤ c0_1) (h : culetlaw49_StepsCuts.f k l0_0 l0_1 a0_2 a0_3 = some r) :
  Calls Try.prog 9 #[.agg #[.slice A0_0 l0_0.length c0_0, .slice A0_1 l0_1.length c0_1, .int .i64 a0_2, .int .i64 a0_3]] w fun e w' => e = .returned (.bool r) ∧ Below w.heap.size w w' := by
 have hu50 := Try.underlying50
 have hu68 := Try.underlying68
 have hu62 := Try.underlying62
 have HR0_0 := Aside0.mk hr0_0
 have HC0_0 := Aside0.mk hc0_0
 clear hr0_0 hc0_0
 have HR0_1 := Aside0.mk hr0_1
 have HC0_1 := Aside0.mk hc0_1
 clear hr0_1 hc0_1
 have HB := Aside0.mk (Below.refl w.heap.size w)
 have H : ((culetlaw49_awake.f k).bind fun t148 => (if t148 = true then ((culetref49_Few.f k l0_0 l0_1 a0_2 a0_3).bind fun t149 => (culetlaw49_StepsCuts.j0 k (!t149) l0_0 l0_1 a0_2 a0_3)) else (culetlaw49_StepsCuts.j0 k true l0_0 l0_1 a0_2 a0_3))) = some r := h
 clear h
 have HC2 := Aside0.mk H
 clear H
 go_enter Try.func9, Try.ntmps9
 go_upto_region 1 with (first | ((with_reducible refine gate_dst (N := 1) rfl ?_); (try (refine gate_guard (by rfl) ?_; dsimp only)); refine box_event ?hg (N := 1) ?hd (cs := #[.slice A0_0 l0_0.length c0_0, .slice A0_1 l0_1.length c0_1, .int .i64 a0_2, .int .i64 a0_3]) (t := 50) ?hr ?_; (case hd => rfl); (case hg => rfl); (case hr => first | (go_simp; done) | (go_simp; rfl)); intro gb147 hg w3 hbox hb; have n0_ := Aside0.mk (below_step (by repeat (first | (with_reducible first | exact HB.out | apply below_alloc | apply pw_below_drewN | apply below_drew1) | exact HB.out)) hb); have n1_ := Aside0.mk (hbox); have n2_ := Aside0.mk ((by rw [hg]; exact (below_size (by repeat (first | (with_reducible first | exact HB.out | apply below_alloc | apply pw_below_drewN | apply below_drew1) | exact HB.out))) : w.heap.size ≤ gb147)); have n3_ := Aside0.mk ((by rw [hg]; exact (below_size (by repeat (first | (with_reducible first | exact HB.out | apply below_alloc | apply pw_below_drewN | apply below_drew1) | exact HB.out))) : w.heap.size ≤ gb147)); clear HB; have HB := n0_; have BK147 := n1_; have GW147 := n2_; have GE147 := n3_; clear n0_ n1_ n2_ n3_; clear hb hbox hg))
 (try simp only [Act.put, List.setIfInBounds_toArray, List.set_cons_zero, List.set_cons_succ])
 go_cut [21] (fun v21 wc => ∃ (kq : Nat) (x21_1 : Bool), v21 = .bool x21_1 ∧ Aside0 (culetlaw49_StepsCuts.j0 kq x21_1 l0_0 l0_1 a0_2 a0_3 = some r) ∧ Aside0 (kq ≤ k) ∧ Aside0 (wc.heap[gb147]? = some (.cells #[(.slice A0_0 l0_0.length c0_0), (.slice A0_1 l0_1.length c0_1), .int .i64 a0_2, .int .i64 a0_3] 50 (0, 0))) ∧ Aside0 (Below w.heap.size w wc))
 case first =>
  have H := HC2.out
  clear HC2
  replace H := Option.bind_eq_some_iff.mp H
  obtain ⟨t148, A40, H⟩ := H
  replace H : (if t148 = true then ((culetref49_Few.f k l0_0 l0_1 a0_2 a0_3).bind fun t149 => (culetlaw49_StepsCuts.j0 k (!t149) l0_0 l0_1 a0_2 a0_3)) else (culetlaw49_StepsCuts.j0 k true l0_0 l0_1 a0_2 a0_3)) = some r := H
  have A4 := Aside0.mk A40
  clear A40
  by_cases c5 : t148 = true
  ·
   subst c5
   have H1 : ((culetref49_Few.f k l0_0 l0_1 a0_2 a0_3).bind fun t149 => (culetlaw49_StepsCuts.j0 k (!t149) l0_0 l0_1 a0_2 a0_3)) = some r := by rw [if_pos rfl] at H; exact H
   clear H
   have H := H1
   clear H1
   replace H := Option.bind_eq_some_iff.mp H
   obtain ⟨t149, A60, H⟩ := H
   replace H : (culetlaw49_StepsCuts.j0 k (!t149) l0_0 l0_1 a0_2 a0_3) = some r := H
   have A6 := Aside0.mk A60
   clear A60
   have H' := Aside0.mk H
   clear H
   go_wp2_with (first | ((with_reducible refine gate_callee (f := 25) rfl ?_); refine goesL_ (some 15) rfl rfl Try.func25 (by kernel_rfl) rfl #[] rfl (by (try simp only [List.map_toArray, List.map_cons, List.map_nil]); first | done | rfl | (simp only [List.length_drop, List.length_take]; rfl)) ?_; (with_reducible refine (culetlaw49_awake.calls k  true _ A4.out).mono ?_); rintro e w7 ⟨rfl, hb⟩; refine ⟨_, rfl, ?_⟩; have n0_ := Aside0.mk (blk_below (g := gb147) (o := .cells #[.slice A0_0 l0_0.length c0_0, .slice A0_1 l0_1.length c0_1, .int .i64 a0_2, .int .i64 a0_3] 50 (0, 0)) (by (with_reducible repeat (first | refine blk_drewN ?_ _ | refine blk_drew ?_ | refine blk_alloc ?_ _)); exact BK147.out) hb); have n1_ := Aside0.mk (below_step (by repeat (first | (with_reducible first | exact HB.out | apply below_alloc | apply pw_below_drewN | apply below_drew1 | refine below_set ?_ GE147.out) | exact HB.out)) hb); clear BK147; clear HB; have BK147 := n0_; have HB := n1_; clear n0_ n1_; (try clear hb); (try clear hb2); (try clear hk); (try clear hi); have hcz8_0 : w7.cell? ⟨gb147, 0, none⟩ = some (.slice A0_0 l0_0.length c0_0) := (blk_cell BK147.out 0).trans rfl; have hcz8_1 : w7.cell? ⟨gb147, 1, none⟩ = some (.slice A0_1 l0_1.length c0_1) := (blk_cell BK147.out 1).trans rfl; have hcz8_2 : w7.cell? ⟨gb147, 2, none⟩ = some (.int .i64 a0_2) := (blk_cell BK147.out 2).trans rfl; have hcz8_3 : w7.cell? ⟨gb147, 3, none⟩ = some (.int .i64 a0_3) := (blk_cell BK147.out 3).trans rfl; have hfz8_0 := blk_frozen BK147.out 0; have hfz8_1 := blk_frozen BK147.out 1; have hfz8_2 := blk_frozen BK147.out 2; have hfz8_3 := blk_frozen BK147.out 3) | (go_at_call 26; (with_reducible refine (culetref49_Few.calls k _ _ l0_0 _ _ l0_1 a0_2 a0_3 t149 _ ?side1 ?side2 ?side3 ?side4 A6.out).mono ?_); (case side1 => repeat (first | exact (Kd.C_below HR0_0.out HB.out) | (with_reducible refine Kd.C_alloc ?_ _) | (with_reducible refine Kd.C_drewN ?_ _) | (with_reducible refine Kd.C_drew ?_))); (case side2 => exact HC0_0.out); (case side3 => repeat (first | exact (Kd.C_below HR0_1.out HB.out) | (with_reducible refine Kd.C_alloc ?_ _) | (with_reducible refine Kd.C_drewN ?_ _) | (with_reducible refine Kd.C_drew ?_))); (case side4 => exact HC0_1.out); rintro e w9 ⟨rfl, hb⟩; have n0_ := Aside0.mk (blk_below (g := gb147) (o := .cells #[.slice A0_0 l0_0.length c0_0, .slice A0_1 l0_1.length c0_1, .int .i64 a0_2, .int .i64 a0_3] 50 (0, 0)) (by (with_reducible repeat (first | refine blk_drewN ?_ _ | refine blk_drew ?_ | refine blk_alloc ?_ _)); exact BK147.out) hb); have n1_ := Aside0.mk (below_step (by repeat (first | (with_reducible first | exact HB.out | apply below_alloc | apply pw_below_drewN | apply below_drew1 | refine below_set ?_ GE147.out) | exact HB.out)) hb); clear BK147; clear HB; have BK147 := n0_; have HB := n1_; clear n0_ n1_; (try clear hb); (try clear hb2); (try clear hk); (try clear hi)))
   go_meet
   case rel => exact ⟨_, (!t149), (by first | rfl | (simp; done) | (simp [*]; done)), H', ⟨by first | omega | exact Nat.le_refl _⟩, ⟨by (with_reducible repeat (first | refine blk_drewN ?_ _ | refine blk_drew ?_ | refine blk_alloc ?_ _)); exact BK147.out⟩, ⟨by repeat (first | (with_reducible first | exact HB.out | apply below_alloc | apply pw_below_drewN | apply below_drew1 | refine below_set ?_ GE147.out) | exact HB.out)⟩⟩
  ·
   replace c5 := Bool.eq_false_iff.mpr c5
   subst c5
   have H1 : (culetlaw49_StepsCuts.j0 k true l0_0 l0_1 a0_2 a0_3) = some r := by rw [if_neg (show ¬ (false = true) by decide)] at H; exact H
   clear H
   have H := H1
   clear H1
   have H' := Aside0.mk H
   clear H
   go_wp2_with (first | ((with_reducible refine gate_callee (f := 25) rfl ?_); refine goesL_ (some 15) rfl rfl Try.func25 (by kernel_rfl) rfl #[] rfl (by (try simp only [List.map_toArray, List.map_cons, List.map_nil]); first | done | rfl | (simp only [List.length_drop, List.length_take]; rfl)) ?_; (with_reducible refine (culetlaw49_awake.calls k  false _ A4.out).mono ?_); rintro e w10 ⟨rfl, hb⟩; refine ⟨_, rfl, ?_⟩; have n0_ := Aside0.mk (blk_below (g := gb147) (o := .cells #[.slice A0_0 l0_0.length c0_0, .slice A0_1 l0_1.length c0_1, .int .i64 a0_2, .int .i64 a0_3] 50 (0, 0)) (by (with_reducible repeat (first | refine blk_drewN ?_ _ | refine blk_drew ?_ | refine blk_alloc ?_ _)); exact BK147.out) hb); have n1_ := Aside0.mk (below_step (by repeat (first | (with_reducible first | exact HB.out | apply below_alloc | apply pw_below_drewN | apply below_drew1 | refine below_set ?_ GE147.out) | exact HB.out)) hb); clear BK147; clear HB; have BK147 := n0_; have HB := n1_; clear n0_ n1_; (try clear hb); (try clear hb2); (try clear hk); (try clear hi)))
   go_meet
   case rel => exact ⟨_, (true), (by first | rfl | (simp; done) | (simp [*]; done)), H', ⟨by first | omega | exact Nat.le_refl _⟩, ⟨by (with_reducible repeat (first | refine blk_drewN ?_ _ | refine blk_drew ?_ | refine blk_alloc ?_ _)); exact BK147.out⟩, ⟨by repeat (first | (with_reducible first | exact HB.out | apply below_alloc | apply pw_below_drewN | apply below_drew1 | refine below_set ?_ GE147.out) | exact HB.out)⟩⟩
 case rest =>
  clear HC2
  try clear c2
  try clear p2
  try clear c5
  try clear c9
  try clear hcz8_0
  try clear hcz8_1
  try clear hcz8_2
  try clear hcz8_3
  try clear hfz8_0
  try clear hfz8_1
  try clear hfz8_2
  try clear hfz8_3
  obtain ⟨kj1, x21_1, rfl, HA, HJ1, BK147, HB⟩ := hcut
  ·
   skip
   have H := HA.out
   clear HA
   simp only [culetlaw49_StepsCuts.j0] at H
   by_cases c11 : x21_1 = true
   ·
    subst c11
    have H1 : ((culetlaw49_awake.f kj1).bind fun t150 => (some t150)) = some r := by rw [if_pos rfl] at H; exact H
    clear H
    have H := H1
    clear H1
    replace H := Option.bind_eq_some_iff.mp H
    obtain ⟨t150, A120, H⟩ := H
    replace H : (some t150) = some r := H
    have A12 := Aside0.mk A120
    clear A120
    obtain rfl := Option.some.inj H
    go_wp2_with (first | ((with_reducible refine gate_callee (f := 25) rfl ?_); refine goesL_ (some 22) rfl rfl Try.func25 (by kernel_rfl) rfl #[] rfl (by (try simp only [List.map_toArray, List.map_cons, List.map_nil]); first | done | rfl | (simp only [List.length_drop, List.length_take]; rfl)) ?_; (with_reducible refine (culetlaw49_awake.calls kj1  t150 _ A12.out).mono ?_); rintro e w13 ⟨rfl, hb⟩; refine ⟨_, rfl, ?_⟩; have n0_ := Aside0.mk (blk_below (g := gb147) (o := .cells #[.slice A0_0 l0_0.length c0_0, .slice A0_1 l0_1.length c0_1, .int .i64 a0_2, .int .i64 a0_3] 50 (0, 0)) (by (with_reducible repeat (first | refine blk_drewN ?_ _ | refine blk_drew ?_ | refine blk_alloc ?_ _)); exact BK147.out) hb); have n1_ := Aside0.mk (below_step (by repeat (first | (with_reducible first | exact HB.out | apply below_alloc | apply pw_below_drewN | apply below_drew1 | refine below_set ?_ GE147.out) | exact HB.out)) hb); clear BK147; clear HB; have BK147 := n0_; have HB := n1_; clear n0_ n1_; (try clear hb); (try clear hb2); (try clear hk); (try clear hi)))
    go_ret
    exact ⟨by first | rfl | (simp [errW_none, errW_some] <;> rfl) | (simp [*, errW_none, errW_some] <;> rfl), by repeat (first | (with_reducible first | exact HB.out | apply below_alloc | apply pw_below_drewN | apply below_drew1 | refine below_set ?_ GE147.out) | exact HB.out)⟩
   ·
    replace c11 := Bool.eq_false_iff.mpr c11
    subst c11
    have H1 : ((culetlaw49_Own.f kj1 l0_0 l0_1 a0_2 a0_3).bind fun bt151 => ((steps_Of.f kj1 bt151.1 bt151.2.1 bt151.2.2.1 bt151.2.2.2).bind fun bt159 => (if bt159.2 = 0 then (culetlaw49_StepsCuts.l0 kj1 [] bt159.1 0 l0_0 l0_1) else (some ((bt159.1.length : Int) == 0))))) = some r := by rw [if_neg (show ¬ (false = true) by decide)] at H; exact H
    clear H
    have H := H1
    clear H1
    replace H := Option.bind_eq_some_iff.mp H
    obtain ⟨⟨t151, t154, t157, t158⟩, A140, H⟩ := H
    replace H : ((steps_Of.f kj1 t151 t154 t157 t158).bind fun bt159 => (if bt159.2 = 0 then (culetlaw49_StepsCuts.l0 kj1 [] bt159.1 0 l0_0 l0_1) else (some ((bt159.1.length : Int) == 0)))) = some r := H
    have A14 := Aside0.mk A140
    clear A140
    replace H := Option.bind_eq_some_iff.mp H
    obtain ⟨⟨t159, t162⟩, A150, H⟩ := H
    replace H : (if t162 = 0 then (culetlaw49_StepsCuts.l0 kj1 [] t159 0 l0_0 l0_1) else (some ((t159.length : Int) == 0))) = some r := H
    have A15 := Aside0.mk A150
    clear A150
    by_cases c16 : t162 = 0
    ·
     rw [if_pos c16] at H
     have c16b0 : (t162 == 0) = true := beq_iff_eq.mpr c16
     have c16b1 : (t162 != 0) = false := bne_eq_false_iff_eq.mpr c16
     clear c16
     have H' := Aside0.mk H
     clear H
     have hcz17_0 : wc.cell? ⟨gb147, 0, none⟩ = some (.slice A0_0 l0_0.length c0_0) := (blk_cell BK147.out 0).trans rfl
     have hcz17_1 : wc.cell? ⟨gb147, 1, none⟩ = some (.slice A0_1 l0_1.length c0_1) := (blk_cell BK147.out 1).trans rfl
     have hcz17_2 : wc.cell? ⟨gb147, 2, none⟩ = some (.int .i64 a0_2) := (blk_cell BK147.out 2).trans rfl
     have hcz17_3 : wc.cell? ⟨gb147, 3, none⟩ = some (.int .i64 a0_3) := (blk_cell BK147.out 3).trans rfl
     have hfz17_0 := blk_frozen BK147.out 0
     have hfz17_1 := blk_frozen BK147.out 1
     have hfz17_2 := blk_frozen BK147.out 2
     have hfz17_3 := blk_frozen BK147.out 3
     go_wp2_with (first | ((with_reducible refine gate_callee (f := 28) rfl ?_); refine goesL_ (some 25) rfl rfl Try.func28 (by kernel_rfl) rfl #[.agg #[.slice A0_0 l0_0.length c0_0, .slice A0_1 l0_1.length c0_1, .int .i64 a0_2, .int .i64 a0_3]] rfl (by (try simp only [List.map_toArray, List.map_cons, List.map_nil]); first | done | rfl | (simp only [List.length_drop, List.length_take]; rfl)) ?_; (with_reducible refine (culetlaw49_Own.calls kj1 _ _ l0_0 _ _ l0_1 a0_2 a0_3 t151 t154 t157 t158 _ ?side1 ?side2 ?side3 ?side4 A14.out).mono ?_); (case side1 => repeat (first | exact (Kd.C_below HR0_0.out HB.out) | (with_reducible refine Kd.C_alloc ?_ _) | (with_reducible refine Kd.C_drewN ?_ _) | (with_reducible refine Kd.C_drew ?_))); (case side2 => exact HC0_0.out); (case side3 => repeat (first | exact (Kd.C_below HR0_1.out HB.out) | (with_reducible refine Kd.C_alloc ?_ _) | (with_reducible refine Kd.C_drewN ?_ _) | (with_reducible refine Kd.C_drew ?_))); (case side4 => exact HC0_1.out); rintro e w18 ⟨v152, v155, rfl, ho0, ho1, hb⟩; refine ⟨_, rfl, ?_⟩; have n0_ := Aside0.mk (Kd.R_lower ho0 (below_size (by repeat (first | (with_reducible first | exact HB.out | apply below_alloc | apply pw_below_drewN | apply below_drew1 | refine below_set ?_ GE147.out) | exact HB.out)))); have n1_ := Aside0.mk (Kd.R_lower ho1 (below_size (by repeat (first | (with_reducible first | exact HB.out | apply below_alloc | apply pw_below_drewN | apply below_drew1 | refine below_set ?_ GE147.out) | exact HB.out)))); have n2_ := Aside0.mk (blk_below (g := gb147) (o := .cells #[.slice A0_0 l0_0.length c0_0, .slice A0_1 l0_1.length c0_1, .int .i64 a0_2, .int .i64 a0_3] 50 (0, 0)) (by (with_reducible repeat (first | refine blk_drewN ?_ _ | refine blk_drew ?_ | refine blk_alloc ?_ _)); exact BK147.out) hb); have n3_ := Aside0.mk (below_step (by repeat (first | (with_reducible first | exact HB.out | apply below_alloc | apply pw_below_drewN | apply below_drew1 | refine below_set ?_ GE147.out) | exact HB.out)) hb); clear BK147; clear HB; have HO153 := n0_; have HO156 := n1_; have BK147 := n2_; have HB := n3_; clear n0_ n1_ n2_ n3_; (try clear hb); (try clear hb2); (try clear hk); (try clear hi); (try clear ho0); (try clear ho1); obtain ⟨Ao19, co19, eo19⟩ := Kd.R_slice HO153.out; subst eo19; obtain ⟨Ao20, co20, eo20⟩ := Kd.R_slice HO156.out; subst eo20) | ((with_reducible refine gate_callee (f := 27) rfl ?_); refine goesL_ (some 26) rfl rfl Try.func27 (by kernel_rfl) rfl #[.agg #[.slice Ao19 t151.length co19, .slice Ao20 t154.length co20, .int .i64 t157, .int .i64 t158]] rfl (by (try simp only [List.map_toArray, List.map_cons, List.map_nil]); first | done | rfl | (simp only [List.length_drop, List.length_take]; rfl)) ?_; (with_reducible refine (steps_Of.calls kj1 _ _ t151 _ _ t154 t157 t158 t159 t162 _ ?side1 ?side2 ?side3 ?side4 A15.out).mono ?_); (case side1 => repeat (first | exact (Kd.R_reads' HO153.out).2.2 | (with_reducible refine Kd.C_alloc ?_ _) | (with_reducible refine Kd.C_drewN ?_ _) | (with_reducible refine Kd.C_drew ?_))); (case side2 => exact (Kd.R_reads' HO153.out).2.1); (case side3 => repeat (first | exact (Kd.R_reads' HO156.out).2.2 | (with_reducible refine Kd.C_alloc ?_ _) | (with_reducible refine Kd.C_drewN ?_ _) | (with_reducible refine Kd.C_drew ?_))); (case side4 => exact (Kd.R_reads' HO156.out).2.1); rintro e w21 ⟨v160, rfl, ho0, hb⟩; refine ⟨_, rfl, ?_⟩; have n0_ := Aside0.mk (Kd.R_below (by (with_reducible repeat (first | apply Kd.R_alloc | apply Kd.R_drewN | apply Kd.R_drew)); exact HO153.out) hb); have n1_ := Aside0.mk (Kd.R_below (by (with_reducible repeat (first | apply Kd.R_alloc | apply Kd.R_drewN | apply Kd.R_drew)); exact HO156.out) hb); have n2_ := Aside0.mk (Kd.R_lower ho0 (below_size (by repeat (first | (with_reducible first | exact HB.out | apply below_alloc | apply pw_below_drewN | apply below_drew1 | refine below_set ?_ GE147.out) | exact HB.out)))); have n3_ := Aside0.mk (blk_below (g := gb147) (o := .cells #[.slice A0_0 l0_0.length c0_0, .slice A0_1 l0_1.length c0_1, .int .i64 a0_2, .int .i64 a0_3] 50 (0, 0)) (by (with_reducible repeat (first | refine blk_drewN ?_ _ | refine blk_drew ?_ | refine blk_alloc ?_ _)); exact BK147.out) hb); have n4_ := Aside0.mk (below_step (by repeat (first | (with_reducible first | exact HB.out | apply below_alloc | apply pw_below_drewN | apply below_drew1 | refine below_set ?_ GE147.out) | exact HB.out)) hb); clear HO153; clear HO156; clear BK147; clear HB; have HO153 := n0_; have HO156 := n1_; have HO161 := n2_; have BK147 := n3_; have HB := n4_; clear n0_ n1_ n2_ n3_ n4_; (try clear hb); (try clear hb2); (try clear hk); (try clear hi); (try clear ho0); have hcz22_0 : w21.cell? ⟨gb147, 0, none⟩ = some (.slice A0_0 l0_0.length c0_0) := (blk_cell BK147.out 0).trans rfl; have hcz22_1 : w21.cell? ⟨gb147, 1, none⟩ = some (.slice A0_1 l0_1.length c0_1) := (blk_cell BK147.out 1).trans rfl; have hcz22_2 : w21.cell? ⟨gb147, 2, none⟩ = some (.int .i64 a0_2) := (blk_cell BK147.out 2).trans rfl; have hcz22_3 : w21.cell? ⟨gb147, 3, none⟩ = some (.int .i64 a0_3) := (blk_cell BK147.out 3).trans rfl; have hfz22_0 := blk_frozen BK147.out 0; have hfz22_1 := blk_frozen BK147.out 1; have hfz22_2 := blk_frozen BK147.out 2; have hfz22_3 := blk_frozen BK147.out 3) | ((with_reducible refine gate_dst (N := 34) rfl ?_); refine map_event rfl (N := 34) rfl 66 rfl ?_; intro bm hg w24 hm hb; have m0_ := Aside0.mk (Kd.R_below (by (with_reducible repeat (first | apply Kd.R_alloc | apply Kd.R_drewN | apply Kd.R_drew)); exact HO161.out) hb); have mB_ := Aside0.mk (blk_below (g := gb147) (o := (.cells #[.slice A0_0 l0_0.length c0_0, .slice A0_1 l0_1.length c0_1, .int .i64 a0_2, .int .i64 a0_3] 50 (0, 0))) (by (with_reducible repeat (first | refine blk_drewN ?_ _ | refine blk_drew ?_ | refine blk_alloc ?_ _)); exact BK147.out) hb); have mS_ := Aside0.mk (below_step (by repeat (first | (with_reducible first | exact HB.out | apply below_alloc | apply pw_below_drewN | apply below_drew1 | refine below_set ?_ GE147.out) | exact HB.out)) hb); have GM : Aside0 (w.heap.size ≤ bm) := ⟨by rw [hg]; exact (below_size (by repeat (first | (with_reducible first | exact HB.out | apply below_alloc | apply pw_below_drewN | apply below_drew1 | refine below_set ?_ GE147.out) | exact HB.out)))⟩; have HM0 := Aside0.mk hm; clear hm hg hb BK147 HB; have BK147 := mB_; have HB := mS_; clear mB_ mS_; clear HO161; have HO161 := m0_; clear m0_; have hcm_0 : w24.cell? ⟨gb147, 0, none⟩ = some (.slice A0_0 l0_0.length c0_0) := (blk_cell BK147.out 0).trans rfl; have hcm_1 : w24.cell? ⟨gb147, 1, none⟩ = some (.slice A0_1 l0_1.length c0_1) := (blk_cell BK147.out 1).trans rfl; have hcm_2 : w24.cell? ⟨gb147, 2, none⟩ = some (.int .i64 a0_2) := (blk_cell BK147.out 2).trans rfl; have hcm_3 : w24.cell? ⟨gb147, 3, none⟩ = some (.int .i64 a0_3) := (blk_cell BK147.out 3).trans rfl))
     go_loopg [38] kj1 (fun kq v38 w' => ∃ (s2 : List Int) (x38_2 : Int), v38 = .int .i64 x38_2 ∧ Aside0 (∀ y ∈ s2, 0 ≤ y ∧ y ≤ 1000) ∧ Aside0 (w'.heap[bm]? = some (.map (ents key1 (.bool true) s2) s2.length)) ∧ Aside0 (culetlaw49_StepsCuts.l0 kq s2 t159 x38_2 l0_0 l0_1 = some r) ∧ Aside0 (kq ≤ kj1) ∧ Aside0 (Kd.R k62 62 w' w.heap.size (fun _ => True) v160 t159) ∧ Aside0 (w'.heap[gb147]? = some (.cells #[(.slice A0_0 l0_0.length c0_0), (.slice A0_1 l0_1.length c0_1), .int .i64 a0_2, .int .i64 a0_3] 50 (0, 0))) ∧ Aside0 (Below w.heap.size w w'))
     case atStart => exact ⟨[], (0), (by first | rfl | (simp; done) | (simp [*]; done)), ⟨fun y hy => by cases hy⟩, ⟨by (with_reducible repeat (first | refine blk_drewN ?_ _ | refine blk_drew ?_ | refine blk_alloc ?_ _)); exact HM0.out⟩, H', ⟨Nat.le_refl _⟩, ⟨by (with_reducible repeat (first | apply Kd.R_alloc | apply Kd.R_drewN | apply Kd.R_drew)); exact HO161.out⟩, ⟨by (with_reducible repeat (first | refine blk_drewN ?_ _ | refine blk_drew ?_ | refine blk_alloc ?_ _)); exact BK147.out⟩, ⟨by repeat (first | (with_reducible first | exact HB.out | apply below_alloc | apply pw_below_drewN | apply below_drew1 | refine below_set ?_ GE147.out) | exact HB.out)⟩⟩
     case round =>
      clear H'
      try clear c1
      try clear c2
      try clear p2
      try clear c5
      try clear c9
      try clear c11
      try clear c16
      try clear c16b0
      try clear c16b1
      try clear hcz17_0
      try clear hcz17_1
      try clear hcz17_2
      try clear hcz17_3
      try clear hcz22_0
      try clear hcz22_1
      try clear hcz22_2
      try clear hcz22_3
      try clear hcz8_0
      try clear hcz8_1
      try clear hcz8_2
      try clear hcz8_3
      try clear hfz17_0
      try clear hfz17_1
      try clear hfz17_2
      try clear hfz17_3
      try clear hfz22_0
      try clear hfz22_1
      try clear hfz22_2
      try clear hfz22_3
      try clear hfz8_0
      try clear hfz8_1
      try clear hfz8_2
      try clear hfz8_3
      try clear p2
      obtain ⟨s2, x38_2, rfl, HS2, HM2, HA, HK2, HO_3, BK147, HB⟩ := hrel
      clear HM0
      (try clear hcm_0 hcm_1 hcm_2 hcm_3)
      cases gk with
      | zero => exact absurd HA.out (by simp [culetlaw49_StepsCuts.l0])
      | succ k2 =>
       have H := HA.out
       clear HA
       simp only [culetlaw49_StepsCuts.l0] at H
       by_cases c23 : x38_2 < (l0_1.length : Int)
       ·
        rw [if_pos c23] at H
        have c23b0 : decide (x38_2 < (l0_1.length : Int)) = true := decide_eq_true c23
        clear c23
        by_cases c24 : 0 ≤ x38_2
        ·
         rw [if_pos c24] at H
         have c24b0 : decide (0 ≤ x38_2) = true := decide_eq_true c24
         clear c24
         by_cases c25 : x38_2 < (l0_1.length : Int)
         ·
          rw [if_pos c25] at H
          have c25b0 : decide (x38_2 < (l0_1.length : Int)) = true := decide_eq_true c25
          clear c25
          have cS : 0 ≤ (rd_T68 l0_1 x38_2).f1 ∧ (rd_T68 l0_1 x38_2).f1 ≤ 1000 := Decidable.byContradiction (fun hn => by rw [if_neg hn] at H; cases H)
          rw [if_pos cS] at H
          have CS := Aside0.mk cS
          clear cS
          have H' := Aside0.mk H
          clear H
          have p163 : 0 ≤ (x38_2 : Int) := of_decide_eq_true (by first | (with_reducible assumption) | assumption)
          have q163 : x38_2 < (l0_1.length : Int) := of_decide_eq_true (by first | (with_reducible assumption) | assumption)
          obtain ⟨ad163, e163, hx163_0, hx163_1, hx163_2⟩ := at_T68 HR0_1.out x38_2 p163 q163
          cases e163
          replace hx163_0 := (HB.out.cell (World.block_lt_of_cell? w _ hx163_0)).trans hx163_0
          replace hx163_1 := (HB.out.cell (World.block_lt_of_cell? w _ hx163_1)).trans hx163_1
          replace hx163_2 := (HB.out.cell (World.block_lt_of_cell? w _ hx163_2)).trans hx163_2
          replace p163 := eq_true p163
          replace q163 := eq_true q163
          go_wp2_with (first | ((with_reducible refine gate_dst (N := 7) rfl ?_); (try (refine gate_guard (by rfl) ?_; dsimp only)); refine box_event ?hg (N := 7) ?hd (cs := #[.string (⟨#[]⟩ : ByteArray), .int .i64 0, .int .i64 0]) (t := 68) ?hr ?_; (case hd => rfl); (case hg => rfl); (case hr => first | (go_simp; done) | (go_simp; rfl)); intro gb164 hg w26 hbox hb; have m0_ := Aside0.mk (blk_below (g := bm) (o := (.map (ents key1 (.bool true) s2) s2.length)) (by (with_reducible repeat (first | refine blk_drewN ?_ _ | refine blk_drew ?_ | refine blk_alloc ?_ _)); exact HM2.out) hb); have m1_ : Aside0 (bm ≠ gb164) := ⟨by rw [hg]; exact Nat.ne_of_lt (blk_lt (o := (.map (ents key1 (.bool true) s2) s2.length)) (by (with_reducible repeat (first | refine blk_drewN ?_ _ | refine blk_drew ?_ | refine blk_alloc ?_ _)); exact HM2.out))⟩; clear HM2; have HM2 := m0_; have NBM := m1_; clear m0_ m1_; have n0_ := Aside0.mk (Kd.R_below (by (with_reducible repeat (first | apply Kd.R_alloc | apply Kd.R_drewN | apply Kd.R_drew)); exact HO_3.out) hb); have n1_ := Aside0.mk (blk_below (g := gb147) (o := .cells #[.slice A0_0 l0_0.length c0_0, .slice (some ad163) l0_1.length c0_1, .int .i64 a0_2, .int .i64 a0_3] 50 (0, 0)) (by (with_reducible repeat (first | refine blk_drewN ?_ _ | refine blk_drew ?_ | refine blk_alloc ?_ _)); exact BK147.out) hb); have n2_ := Aside0.mk (below_step (by repeat (first | (with_reducible first | exact HB.out | apply below_alloc | apply pw_below_drewN | apply below_drew1 | refine below_set ?_ GE147.out) | exact HB.out)) hb); have n3_ := Aside0.mk (hbox); have n4_ := Aside0.mk ((by rw [hg]; exact (below_size (by repeat (first | (with_reducible first | exact HB.out | apply below_alloc | apply pw_below_drewN | apply below_drew1 | refine below_set ?_ GE147.out) | exact HB.out))) : w.heap.size ≤ gb164)); have n5_ := Aside0.mk ((by rw [hg]; exact (below_size (by repeat (first | (with_reducible first | exact HB.out | apply below_alloc | apply pw_below_drewN | apply below_drew1 | refine below_set ?_ GE147.out) | exact HB.out))) : w.heap.size ≤ gb164)); have n6_ := Aside0.mk ((by rw [hg]; exact Nat.ne_of_lt (blk_lt (g := gb147) (o := .cells #[.slice A0_0 l0_0.length c0_0, .slice (some ad163) l0_1.length c0_1, .int .i64 a0_2, .int .i64 a0_3] 50 (0, 0)) (by (with_reducible repeat (first | refine blk_drewN ?_ _ | refine blk_drew ?_ | refine blk_alloc ?_ _)); exact BK147.out)) : gb147 ≠ gb164)); have n7_ := Aside0.mk ((by rw [hg]; exact Nat.ne_of_gt (blk_lt (g := gb147) (o := .cells #[.slice A0_0 l0_0.length c0_0, .slice (some ad163) l0_1.length c0_1, .int .i64 a0_2, .int .i64 a0_3] 50 (0, 0)) (by (with_reducible repeat (first | refine blk_drewN ?_ _ | refine blk_drew ?_ | refine blk_alloc ?_ _)); exact BK147.out)) : gb164 ≠ gb147)); clear HO_3; clear BK147; clear HB; have HO_3 := n0_; have BK147 := n1_; have HB := n2_; have BK164 := n3_; have GW164 := n4_; have GE164 := n5_; have NB147_164 := n6_; have NB164_147 := n7_; clear n0_ n1_ n2_ n3_ n4_ n5_ n6_ n7_; clear hb hbox hg; have hnb27 := NB164_147.out; have hnc27 := NB147_164.out; have hcz28_0 : w26.cell? ⟨gb164, 0, none⟩ = some (.string (⟨#[]⟩ : ByteArray)) := (blk_cell BK164.out 0).trans rfl; have hcz28_1 : w26.cell? ⟨gb164, 1, none⟩ = some (.int .i64 0) := (blk_cell BK164.out 1).trans rfl; have hcz28_2 : w26.cell? ⟨gb164, 2, none⟩ = some (.int .i64 0) := (blk_cell BK164.out 2).trans rfl; have hfz28_0 := blk_frozen BK164.out 0; have hfz28_1 := blk_frozen BK164.out 1; have hfz28_2 := blk_frozen BK164.out 2) | (at_mapUpdate; refine ins_event rfl (.tmp 42) (.tmp 44) _ rfl (b := bm) (n := (rd_T68 l0_1 x38_2).f1) (s := s2) rfl rfl rfl HS2.out CS.out (by (repeat (first | refine obj_far ?_ NBM.out | (with_reducible first | refine blk_drewN ?_ _ | refine blk_drew ?_ | refine blk_alloc ?_ _))); exact HM2.out) ?_; intro w27 hbW hm27 hg27; have m0_ : Aside0 (Kd.R k62 62 w27 w.heap.size (fun _ => True) v160 t159) := ⟨R_apart (by (with_reducible repeat (first | apply Kd.R_alloc | apply Kd.R_drewN | apply Kd.R_drew)); exact Kd.R_mono (Kd.R_far (p := ⟨gb164, 2, none⟩) (Kd.R_far (p := ⟨gb164, 1, none⟩) (Kd.R_far (p := ⟨gb164, 0, none⟩) (Kd.R_types HO_3.out BK164.out (by decide)) (fun _ hk => hk.2) (.string ((rd_T68 l0_1 x38_2).f0))) (fun _ hk => hk.2) (.int .i64 ((rd_T68 l0_1 x38_2).f1))) (fun _ hk => hk.2) (.int .i64 ((rd_T68 l0_1 x38_2).f2))) (fun _ hk => trivial)) hbW (by intro _ _ _; simp) hg27⟩; have m1_ : Aside0 (w27.heap[gb147]? = some (.cells #[.slice A0_0 l0_0.length c0_0, .slice (some ad163) l0_1.length c0_1, .int .i64 a0_2, .int .i64 a0_3] 50 (0, 0))) := ⟨blk_apart (by (with_reducible repeat (first | refine blk_drewN ?_ _ | refine blk_drew ?_ | refine blk_alloc ?_ _)); refine blk_far ?_ NB147_164.out _; (with_reducible repeat (first | refine blk_drewN ?_ _ | refine blk_drew ?_ | refine blk_alloc ?_ _)); refine blk_far ?_ NB147_164.out _; (with_reducible repeat (first | refine blk_drewN ?_ _ | refine blk_drew ?_ | refine blk_alloc ?_ _)); refine blk_far ?_ NB147_164.out _; (with_reducible repeat (first | refine blk_drewN ?_ _ | refine blk_drew ?_ | refine blk_alloc ?_ _)); exact BK147.out) hbW (by simp) hg27⟩; have m2_ : Aside0 (Below w.heap.size w w27) := ⟨below_written (by repeat (first | (with_reducible first | exact HB.out | apply below_alloc | apply pw_below_drewN | apply below_drew1 | refine below_set ?_ GE147.out | refine below_set ?_ GE164.out) | exact HB.out)) GM.out hg27⟩; have m3_ := Aside0.mk hm27; clear HO_3 BK147 HB HM2 hbW hm27 hg27; have HO_3 := m0_; have BK147 := m1_; have HB := m2_; have HM2 := m3_; clear m0_ m1_ m2_ m3_))
          go_roundg k2
          case measure => have := HJ1.out; have := HK2.out; omega
          case rel => exact ⟨ins s2 (rd_T68 l0_1 x38_2).f1, (wrap64 (x38_2 + 1)), (by first | rfl | (simp; done) | (simp [*]; done)), ⟨ins_bound HS2.out CS.out⟩, ⟨by (with_reducible repeat (first | refine blk_drewN ?_ _ | refine blk_drew ?_ | refine blk_alloc ?_ _)); exact HM2.out⟩, H', ⟨by have := HJ1.out; have := HK2.out; omega⟩, ⟨by (with_reducible repeat (first | apply Kd.R_alloc | apply Kd.R_drewN | apply Kd.R_drew)); exact HO_3.out⟩, ⟨by (with_reducible repeat (first | refine blk_drewN ?_ _ | refine blk_drew ?_ | refine blk_alloc ?_ _)); exact BK147.out⟩, ⟨by repeat (first | (with_reducible first | exact HB.out | apply below_alloc | apply pw_below_drewN | apply below_drew1 | refine below_set ?_ GE147.out) | exact HB.out)⟩⟩
         ·
          rw [if_neg c25] at H
          exact absurd H (by simp)
        ·
         rw [if_neg c24] at H
         exact absurd H (by simp)
       ·
        rw [if_neg c23] at H
        have c23b0 : decide (x38_2 < (l0_1.length : Int)) = false := decide_eq_false c23
        clear c23
        have H' := Aside0.mk H
        clear H
        obtain ⟨Ao29, co29, eo29⟩ := Kd.R_slice HO_3.out
        subst eo29
        go_wp2_with (first | ((with_reducible refine gate_dst (N := 46) rfl ?_); refine map_event rfl (N := 46) rfl 69 rfl ?_; intro bc hg w30 hm hb; have m0_ := Aside0.mk (Kd.R_below (by (with_reducible repeat (first | apply Kd.R_alloc | apply Kd.R_drewN | apply Kd.R_drew)); exact HO_3.out) hb); have mB_ := Aside0.mk (blk_below (g := gb147) (o := (.cells #[.slice A0_0 l0_0.length c0_0, .slice A0_1 l0_1.length c0_1, .int .i64 a0_2, .int .i64 a0_3] 50 (0, 0))) (by (with_reducible repeat (first | refine blk_drewN ?_ _ | refine blk_drew ?_ | refine blk_alloc ?_ _)); exact BK147.out) hb); have mS_ := Aside0.mk (below_step (by repeat (first | (with_reducible first | exact HB.out | apply below_alloc | apply pw_below_drewN | apply below_drew1 | refine below_set ?_ GE147.out) | exact HB.out)) hb); have GC : Aside0 (w.heap.size ≤ bc) := ⟨by rw [hg]; exact (below_size (by repeat (first | (with_reducible first | exact HB.out | apply below_alloc | apply pw_below_drewN | apply below_drew1 | refine below_set ?_ GE147.out) | exact HB.out)))⟩; have mHM2_ := Aside0.mk (blk_below (g := bm) (o := (.map (ents key1 (.bool true) s2) s2.length)) (by (with_reducible repeat (first | refine blk_drewN ?_ _ | refine blk_drew ?_ | refine blk_alloc ?_ _)); exact HM2.out) hb); have nHM2_ : Aside0 (bm ≠ bc) := ⟨by rw [hg]; exact Nat.ne_of_lt (blk_lt (o := (.map (ents key1 (.bool true) s2) s2.length)) (by (with_reducible repeat (first | refine blk_drewN ?_ _ | refine blk_drew ?_ | refine blk_alloc ?_ _)); exact HM2.out))⟩; have HC0 := Aside0.mk hm; clear hm hg hb BK147 HB; have BK147 := mB_; have HB := mS_; clear mB_ mS_; clear HO_3; have HO_3 := m0_; clear m0_; clear HM2; have HM2 := mHM2_; clear mHM2_; have NHM2 := nHM2_; clear nHM2_; have hcm_0 : w30.cell? ⟨gb147, 0, none⟩ = some (.slice A0_0 l0_0.length c0_0) := (blk_cell BK147.out 0).trans rfl; have hcm_1 : w30.cell? ⟨gb147, 1, none⟩ = some (.slice A0_1 l0_1.length c0_1) := (blk_cell BK147.out 1).trans rfl; have hcm_2 : w30.cell? ⟨gb147, 2, none⟩ = some (.int .i64 a0_2) := (blk_cell BK147.out 2).trans rfl; have hcm_3 : w30.cell? ⟨gb147, 3, none⟩ = some (.int .i64 a0_3) := (blk_cell BK147.out 3).trans rfl))
        go_loopg [9, 49] k2 (fun kq v9 v49 w' => ∃ (cs : List (Int × Int)) (x9_3 : Int) (x49_3 : Int), v9 = .int .i64 x9_3 ∧ v49 = .int .i64 x49_3 ∧ Aside0 (∀ p ∈ cs, (0 ≤ p.1 ∧ p.1 ≤ 1000) ∧ 0 ≤ p.2 ∧ p.2 ≤ 1000) ∧ Aside0 (w'.heap[bm]? = some (.map (ents key1 (.bool true) s2) s2.length)) ∧ Aside0 (w'.heap[bc]? = some (.map (ents key2 (.int .i64 1) cs) cs.length)) ∧ Aside0 (culetlaw49_StepsCuts.l1 kq s2 cs t159 x9_3 x49_3 l0_0 l0_1 = some r) ∧ Aside0 (kq ≤ k2) ∧ Aside0 (Kd.R k62 62 w' w.heap.size (fun _ => True) (.slice Ao29 t159.length co29) t159) ∧ Aside0 (Kd.R k62 62 w' w.heap.size (fun _ => True) (.slice Ao29 t159.length co29) t159) ∧ Aside0 (w'.heap[gb147]? = some (.cells #[(.slice A0_0 l0_0.length c0_0), (.slice A0_1 l0_1.length c0_1), .int .i64 a0_2, .int .i64 a0_3] 50 (0, 0))) ∧ Aside0 (Below w.heap.size w w'))
        case atStart => exact ⟨[], (0), (0), (by first | rfl | (simp; done) | (simp [*]; done)), (by first | rfl | (simp; done) | (simp [*]; done)), ⟨fun y hy => by cases hy⟩, ⟨by (with_reducible repeat (first | refine blk_drewN ?_ _ | refine blk_drew ?_ | refine blk_alloc ?_ _)); exact HM2.out⟩, ⟨by (with_reducible repeat (first | refine blk_drewN ?_ _ | refine blk_drew ?_ | refine blk_alloc ?_ _)); exact HC0.out⟩, H', ⟨Nat.le_refl _⟩, ⟨by (with_reducible repeat (first | apply Kd.R_alloc | apply Kd.R_drewN | apply Kd.R_drew)); exact HO_3.out⟩, ⟨by (with_reducible repeat (first | apply Kd.R_alloc | apply Kd.R_drewN | apply Kd.R_drew)); exact HO_3.out⟩, ⟨by (with_reducible repeat (first | refine blk_drewN ?_ _ | refine blk_drew ?_ | refine blk_alloc ?_ _)); exact BK147.out⟩, ⟨by repeat (first | (with_reducible first | exact HB.out | apply below_alloc | apply pw_below_drewN | apply below_drew1 | refine below_set ?_ GE147.out) | exact HB.out)⟩⟩
        case round =>
         clear H'
         try clear c1
         try clear p1
         try clear q1
         try clear hx1
         try clear c2
         try clear p2
         try clear c5
         try clear p6
         try clear c9
         try clear c11
         try clear c16
         try clear c16b0
         try clear c16b1
         try clear p16
         try clear q16
         try clear hx16
         try clear c23
         try clear c23b0
         try clear c24
         try clear c24b0
         try clear c25
         try clear c25b0
         try clear c27
         try clear c28
         try clear hcz17_0
         try clear hcz17_1
         try clear hcz17_2
         try clear hcz17_3
         try clear hcz22_0
         try clear hcz22_1
         try clear hcz22_2
         try clear hcz22_3
         try clear hcz28_0
         try clear hcz28_1
         try clear hcz28_2
         try clear hcz8_0
         try clear hcz8_1
         try clear hcz8_2
         try clear hcz8_3
         try clear hfz17_0
         try clear hfz17_1
         try clear hfz17_2
         try clear hfz17_3
         try clear hfz22_0
         try clear hfz22_1
         try clear hfz22_2
         try clear hfz22_3
         try clear hfz28_0
         try clear hfz28_1
         try clear hfz28_2
         try clear hfz8_0
         try clear hfz8_1
         try clear hfz8_2
         try clear hfz8_3
         try clear hx163_0
         try clear hx163_1
         try clear hx163_2
         try clear p163
         try clear p2
         try clear q163
         clear HM2 HC0
         (try clear hcm_0 hcm_1 hcm_2 hcm_3)
         obtain ⟨cs, x9_3, x49_3, rfl, rfl, HSc, HM2, HC, HA, HK3, HO_3, HO_47, BK147, HB⟩ := hrel
         cases gk with
         | zero => exact absurd HA.out (by simp [culetlaw49_StepsCuts.l1])
         | succ k3 =>
          have H := HA.out
          clear HA
          simp only [culetlaw49_StepsCuts.l1] at H
          by_cases c30 : x49_3 < (t159.length : Int)
          ·
           rw [if_pos c30] at H
           have c30b0 : decide (x49_3 < (t159.length : Int)) = true := decide_eq_true c30
           clear c30
           by_cases c31 : 0 ≤ x49_3
           ·
            rw [if_pos c31] at H
            have c31b0 : decide (0 ≤ x49_3) = true := decide_eq_true c31
            clear c31
            by_cases c32 : x49_3 < (t159.length : Int)
            ·
             rw [if_pos c32] at H
             have c32b0 : decide (x49_3 < (t159.length : Int)) = true := decide_eq_true c32
             clear c32
             by_cases c33 : ((rd_T62 t159 x49_3).f0) = 3
             ·
              rw [if_pos c33] at H
              have c33b0 : (((rd_T62 t159 x49_3).f0) == 3) = true := beq_iff_eq.mpr c33
              have c33b1 : (((rd_T62 t159 x49_3).f0) != 3) = false := bne_eq_false_iff_eq.mpr c33
              clear c33
              have cS : (((0 ≤ (rd_T62 t159 x49_3).f2 ∧ (rd_T62 t159 x49_3).f2 ≤ 1000) ∧ 0 ≤ (rd_T62 t159 x49_3).f1 ∧ (rd_T62 t159 x49_3).f1 ≤ 1000) ∧ ((rd_T62 t159 x49_3).f2, (rd_T62 t159 x49_3).f1) ∉ cs) := Decidable.byContradiction (fun hn => by rw [if_neg hn] at H; cases H)
              rw [if_pos cS] at H
              have CS3 := Aside0.mk cS
              clear cS
              have H' := Aside0.mk H
              clear H
              have p166 : 0 ≤ (x49_3 : Int) := of_decide_eq_true (by first | (with_reducible assumption) | assumption)
              have q166 : x49_3 < (t159.length : Int) := of_decide_eq_true (by first | (with_reducible assumption) | assumption)
              obtain ⟨ad166, e166, hx166_0, hx166_1, hx166_2⟩ := at_T62 (Kd.R_reads' HO_47.out).2.2 x49_3 p166 q166
              cases e166
              replace p166 := eq_true p166
              replace q166 := eq_true q166
              go_upto_region 18 with (first | ((with_reducible refine gate_dst (N := 11) rfl ?_); (try (refine gate_guard (by rfl) ?_; dsimp only)); refine box_event ?hg (N := 11) ?hd (cs := #[.int .i64 0, .int .i64 0, .int .i64 0]) (t := 62) ?hr ?_; (case hd => rfl); (case hg => rfl); (case hr => first | (go_simp; done) | (go_simp; rfl)); intro gb167 hg w34 hbox hb; have mHM2_ := Aside0.mk (blk_below (g := bm) (o := (.map (ents key1 (.bool true) s2) s2.length)) (by (with_reducible repeat (first | refine blk_drewN ?_ _ | refine blk_drew ?_ | refine blk_alloc ?_ _)); exact HM2.out) hb); have nHM2_ : Aside0 (bm ≠ gb167) := ⟨by rw [hg]; exact Nat.ne_of_lt (blk_lt (o := (.map (ents key1 (.bool true) s2) s2.length)) (by (with_reducible repeat (first | refine blk_drewN ?_ _ | refine blk_drew ?_ | refine blk_alloc ?_ _)); exact HM2.out))⟩; have mHC_ := Aside0.mk (blk_below (g := bc) (o := (.map (ents key2 (.int .i64 1) cs) cs.length)) (by (with_reducible repeat (first | refine blk_drewN ?_ _ | refine blk_drew ?_ | refine blk_alloc ?_ _)); exact HC.out) hb); have nHC_ : Aside0 (bc ≠ gb167) := ⟨by rw [hg]; exact Nat.ne_of_lt (blk_lt (o := (.map (ents key2 (.int .i64 1) cs) cs.length)) (by (with_reducible repeat (first | refine blk_drewN ?_ _ | refine blk_drew ?_ | refine blk_alloc ?_ _)); exact HC.out))⟩; clear HM2 HC; have HM2 := mHM2_; have HC := mHC_; have NBM := nHM2_; have NBC := nHC_; clear mHM2_ mHC_ nHM2_ nHC_; have n0_ := Aside0.mk (Kd.R_below (Kd.R_elderB (by (with_reducible repeat (first | apply Kd.R_alloc | apply Kd.R_drewN | apply Kd.R_drew)); exact HO_3.out) gb167 (Nat.le_of_eq hg.symm)) hb); have n1_ := Aside0.mk (Kd.R_below (Kd.R_elderB (by (with_reducible repeat (first | apply Kd.R_alloc | apply Kd.R_drewN | apply Kd.R_drew)); exact HO_47.out) gb167 (Nat.le_of_eq hg.symm)) hb); have n2_ := Aside0.mk (blk_below (g := gb147) (o := .cells #[.slice A0_0 l0_0.length c0_0, .slice A0_1 l0_1.length c0_1, .int .i64 a0_2, .int .i64 a0_3] 50 (0, 0)) (by (with_reducible repeat (first | refine blk_drewN ?_ _ | refine blk_drew ?_ | refine blk_alloc ?_ _)); exact BK147.out) hb); have n3_ := Aside0.mk (below_step (by repeat (first | (with_reducible first | exact HB.out | apply below_alloc | apply pw_below_drewN | apply below_drew1 | refine below_set ?_ GE147.out) | exact HB.out)) hb); have n4_ := Aside0.mk (hbox); have n5_ := Aside0.mk ((by rw [hg]; exact (below_size (by repeat (first | (with_reducible first | exact HB.out | apply below_alloc | apply pw_below_drewN | apply below_drew1 | refine below_set ?_ GE147.out) | exact HB.out))) : w.heap.size ≤ gb167)); have n6_ := Aside0.mk ((by rw [hg]; exact (below_size (by repeat (first | (with_reducible first | exact HB.out | apply below_alloc | apply pw_below_drewN | apply below_drew1 | refine below_set ?_ GE147.out) | exact HB.out))) : w.heap.size ≤ gb167)); have n7_ := Aside0.mk ((by rw [hg]; exact Nat.ne_of_lt (blk_lt (g := gb147) (o := .cells #[.slice A0_0 l0_0.length c0_0, .slice A0_1 l0_1.length c0_1, .int .i64 a0_2, .int .i64 a0_3] 50 (0, 0)) (by (with_reducible repeat (first | refine blk_drewN ?_ _ | refine blk_drew ?_ | refine blk_alloc ?_ _)); exact BK147.out)) : gb147 ≠ gb167)); have n8_ := Aside0.mk ((by rw [hg]; exact Nat.ne_of_gt (blk_lt (g := gb147) (o := .cells #[.slice A0_0 l0_0.length c0_0, .slice A0_1 l0_1.length c0_1, .int .i64 a0_2, .int .i64 a0_3] 50 (0, 0)) (by (with_reducible repeat (first | refine blk_drewN ?_ _ | refine blk_drew ?_ | refine blk_alloc ?_ _)); exact BK147.out)) : gb167 ≠ gb147)); clear HO_3; clear HO_47; clear BK147; clear HB; have HO_3 := n0_; have HO_47 := n1_; have BK147 := n2_; have HB := n3_; have BK167 := n4_; have GW167 := n5_; have GE167 := n6_; have NB147_167 := n7_; have NB167_147 := n8_; clear n0_ n1_ n2_ n3_ n4_ n5_ n6_ n7_ n8_; clear hb hbox hg; have hnb35 := NB167_147.out; have hnc35 := NB147_167.out; have hcz36_0 : w34.cell? ⟨gb167, 0, none⟩ = some (.int .i64 0) := (blk_cell BK167.out 0).trans rfl; have hcz36_1 : w34.cell? ⟨gb167, 1, none⟩ = some (.int .i64 0) := (blk_cell BK167.out 1).trans rfl; have hcz36_2 : w34.cell? ⟨gb167, 2, none⟩ = some (.int .i64 0) := (blk_cell BK167.out 2).trans rfl; have hfz36_0 := blk_frozen BK167.out 0; have hfz36_1 := blk_frozen BK167.out 1; have hfz36_2 := blk_frozen BK167.out 2))
              (try simp only [Act.put, List.setIfInBounds_toArray, List.set_cons_zero, List.set_cons_succ])
              have m0_ : Aside0 (Kd.R k62 62 (((w34.setCell ⟨gb167, 0, none⟩ (.int .i64 (rd_T62 t159 x49_3).f0)).setCell ⟨gb167, 1, none⟩ (.int .i64 (rd_T62 t159 x49_3).f1)).setCell ⟨gb167, 2, none⟩ (.int .i64 (rd_T62 t159 x49_3).f2)) w.heap.size (fun _ => True) (.slice (some ad166) t159.length co29) t159) := ⟨by (with_reducible repeat (first | apply Kd.R_alloc | apply Kd.R_drewN | apply Kd.R_drew)); exact Kd.R_mono (Kd.R_far (p := ⟨gb167, 2, none⟩) (Kd.R_far (p := ⟨gb167, 1, none⟩) (Kd.R_far (p := ⟨gb167, 0, none⟩) (Kd.R_mono HO_3.out (fun k_ hk => (⟨hk, hk.2⟩ : _ ∧ k_ ≠ gb167))) (fun _ hk => hk.2) (.int .i64 ((rd_T62 t159 x49_3).f0))) (fun _ hk => hk.2) (.int .i64 ((rd_T62 t159 x49_3).f1))) (fun _ hk => hk.2) (.int .i64 ((rd_T62 t159 x49_3).f2))) (fun _ hk => trivial)⟩
              have m1_ : Aside0 (Kd.R k62 62 (((w34.setCell ⟨gb167, 0, none⟩ (.int .i64 (rd_T62 t159 x49_3).f0)).setCell ⟨gb167, 1, none⟩ (.int .i64 (rd_T62 t159 x49_3).f1)).setCell ⟨gb167, 2, none⟩ (.int .i64 (rd_T62 t159 x49_3).f2)) w.heap.size (fun _ => True) (.slice (some ad166) t159.length co29) t159) := ⟨by (with_reducible repeat (first | apply Kd.R_alloc | apply Kd.R_drewN | apply Kd.R_drew)); exact Kd.R_mono (Kd.R_far (p := ⟨gb167, 2, none⟩) (Kd.R_far (p := ⟨gb167, 1, none⟩) (Kd.R_far (p := ⟨gb167, 0, none⟩) (Kd.R_mono HO_47.out (fun k_ hk => (⟨hk, hk.2⟩ : _ ∧ k_ ≠ gb167))) (fun _ hk => hk.2) (.int .i64 ((rd_T62 t159 x49_3).f0))) (fun _ hk => hk.2) (.int .i64 ((rd_T62 t159 x49_3).f1))) (fun _ hk => hk.2) (.int .i64 ((rd_T62 t159 x49_3).f2))) (fun _ hk => trivial)⟩
              have m2_ : Aside0 ((((w34.setCell ⟨gb167, 0, none⟩ (.int .i64 (rd_T62 t159 x49_3).f0)).setCell ⟨gb167, 1, none⟩ (.int .i64 (rd_T62 t159 x49_3).f1)).setCell ⟨gb167, 2, none⟩ (.int .i64 (rd_T62 t159 x49_3).f2)).heap[gb147]? = some (.cells #[.slice A0_0 l0_0.length c0_0, .slice A0_1 l0_1.length c0_1, .int .i64 a0_2, .int .i64 a0_3] 50 (0, 0))) := ⟨by (with_reducible repeat (first | refine blk_drewN ?_ _ | refine blk_drew ?_ | refine blk_alloc ?_ _)); refine blk_far ?_ NB147_167.out _; (with_reducible repeat (first | refine blk_drewN ?_ _ | refine blk_drew ?_ | refine blk_alloc ?_ _)); refine blk_far ?_ NB147_167.out _; (with_reducible repeat (first | refine blk_drewN ?_ _ | refine blk_drew ?_ | refine blk_alloc ?_ _)); refine blk_far ?_ NB147_167.out _; (with_reducible repeat (first | refine blk_drewN ?_ _ | refine blk_drew ?_ | refine blk_alloc ?_ _)); exact BK147.out⟩
              have m3_ : Aside0 (Below w.heap.size w (((w34.setCell ⟨gb167, 0, none⟩ (.int .i64 (rd_T62 t159 x49_3).f0)).setCell ⟨gb167, 1, none⟩ (.int .i64 (rd_T62 t159 x49_3).f1)).setCell ⟨gb167, 2, none⟩ (.int .i64 (rd_T62 t159 x49_3).f2))) := ⟨by repeat (first | (with_reducible first | exact HB.out | apply below_alloc | apply pw_below_drewN | apply below_drew1 | refine below_set ?_ GE147.out | refine below_set ?_ GE167.out) | exact HB.out)⟩
              have m4_ : Aside0 ((((w34.setCell ⟨gb167, 0, none⟩ (.int .i64 (rd_T62 t159 x49_3).f0)).setCell ⟨gb167, 1, none⟩ (.int .i64 (rd_T62 t159 x49_3).f1)).setCell ⟨gb167, 2, none⟩ (.int .i64 (rd_T62 t159 x49_3).f2)).heap[bm]? = some (.map (ents key1 (.bool true) s2) s2.length)) := ⟨by (repeat (first | refine obj_far ?_ NBM.out | (with_reducible first | refine blk_drewN ?_ _ | refine blk_drew ?_ | refine blk_alloc ?_ _))); exact HM2.out⟩
              have m5_ : Aside0 ((((w34.setCell ⟨gb167, 0, none⟩ (.int .i64 (rd_T62 t159 x49_3).f0)).setCell ⟨gb167, 1, none⟩ (.int .i64 (rd_T62 t159 x49_3).f1)).setCell ⟨gb167, 2, none⟩ (.int .i64 (rd_T62 t159 x49_3).f2)).heap[bc]? = some (.map (ents key2 (.int .i64 1) cs) cs.length)) := ⟨by (repeat (first | refine obj_far ?_ NBC.out | (with_reducible first | refine blk_drewN ?_ _ | refine blk_drew ?_ | refine blk_alloc ?_ _))); exact HC.out⟩
              have m6_ : Aside0 ((((w34.setCell ⟨gb167, 0, none⟩ (.int .i64 (rd_T62 t159 x49_3).f0)).setCell ⟨gb167, 1, none⟩ (.int .i64 (rd_T62 t159 x49_3).f1)).setCell ⟨gb167, 2, none⟩ (.int .i64 (rd_T62 t159 x49_3).f2)).cell? ⟨gb167, 1, none⟩ = some (.int .i64 (rd_T62 t159 x49_3).f1)) := ⟨by go_simp⟩
              have m7_ : Aside0 ((((w34.setCell ⟨gb167, 0, none⟩ (.int .i64 (rd_T62 t159 x49_3).f0)).setCell ⟨gb167, 1, none⟩ (.int .i64 (rd_T62 t159 x49_3).f1)).setCell ⟨gb167, 2, none⟩ (.int .i64 (rd_T62 t159 x49_3).f2)).cell? ⟨gb167, 2, none⟩ = some (.int .i64 (rd_T62 t159 x49_3).f2)) := ⟨by go_simp⟩
              clear HO_3 HO_47 BK147 HB HM2 HC
              have HO_3 := m0_
              have HO_47 := m1_
              have BK147 := m2_
              have HB := m3_
              have HM2 := m4_
              have HC := m5_
              have HF1 := m6_
              have HF2 := m7_
              clear m0_ m1_ m2_ m3_ m4_ m5_ m6_ m7_
              generalize (((w34.setCell ⟨gb167, 0, none⟩ (.int .i64 (rd_T62 t159 x49_3).f0)).setCell ⟨gb167, 1, none⟩ (.int .i64 (rd_T62 t159 x49_3).f1)).setCell ⟨gb167, 2, none⟩ (.int .i64 (rd_T62 t159 x49_3).f2)) = w35 at HO_3 HO_47 BK147 HB HM2 HC HF1 HF2 ⊢
              have hS0 := CS3.out
              obtain ⟨hbd, hni⟩ := hS0
              have HK70 : Maps.Keyed Try.prog 70 := Keyed.of_law law70
              have HKS : ∀ y ∈ cs, ∃ l, keyOf Try.prog 70 (key2 y) = some l := fun y hy => key2_of (HSc.out y hy)
              have HKX : ∃ l, keyOf Try.prog 70 (key2 ((rd_T62 t159 x49_3).f2, (rd_T62 t159 x49_3).f1)) = some l := key2_of (p := (_, _)) hbd
              refine start_ (n := 11) (S := (fun w' : World => w'.cell? ⟨gb167, 1, none⟩ = some (.int .i64 (rd_T62 t159 x49_3).f1) ∧ w'.cell? ⟨gb167, 2, none⟩ = some (.int .i64 (rd_T62 t159 x49_3).f2) ∧ (Instr.lookup 69 (.map (some bc)) (key2 ((rd_T62 t159 x49_3).f2, (rd_T62 t159 x49_3).f1)) false).run Try.prog w' = .ok (.int .i64 0) w')) (ds := [10]) #[false, false, false, false, false, false, false, false, false, false, false] (by kernel_rfl) rfl rfl ⟨HF1.out, HF2.out, look_new HK70 Try.underlying69 key2_inj HKS HKX hni (zero3 _) (blk_drew HC.out)⟩ (fun hHeld => ?_)
              refine with_tabW culetlaw49_StepsCuts.tab18 culetlaw49_StepsCuts.bits18 (fun HT_ HW_ => ?_)
              have m0_ : Aside0 (Kd.R k62 62 w35.drew w.heap.size (fun _ => True) (.slice (some ad166) t159.length co29) t159) := ⟨Kd.R_drew HO_3.out⟩
              have m1_ : Aside0 (Kd.R k62 62 w35.drew w.heap.size (fun _ => True) (.slice (some ad166) t159.length co29) t159) := ⟨Kd.R_drew HO_47.out⟩
              have m2_ : Aside0 (w35.drew.heap[gb147]? = some (.cells #[.slice A0_0 l0_0.length c0_0, .slice A0_1 l0_1.length c0_1, .int .i64 a0_2, .int .i64 a0_3] 50 (0, 0))) := ⟨blk_drew BK147.out⟩
              have m3_ : Aside0 (Below w.heap.size w w35.drew) := ⟨below_drew1 HB.out⟩
              have m4_ : Aside0 (w35.drew.heap[bm]? = some (.map (ents key1 (.bool true) s2) s2.length)) := ⟨blk_drew HM2.out⟩
              have m5_ : Aside0 (w35.drew.heap[bc]? = some (.map (ents key2 (.int .i64 1) cs) cs.length)) := ⟨blk_drew HC.out⟩
              clear HO_3 HO_47 BK147 HB HM2 HC HF1 HF2
              generalize w35.drew = w36 at m0_ m1_ m2_ m3_ m4_ m5_ hHeld ⊢
              have HO_3 := m0_
              have HO_47 := m1_
              have BK147 := m2_
              have HB := m3_
              have HM2 := m4_
              have HC := m5_
              clear m0_ m1_ m2_ m3_ m4_ m5_
              refine pure_ (i := 0) (N := some 57) (v := ?_) (a' := ?_) #[true, false, false, false, false, false, false, false, false, false, false] rfl rfl (any_of HT_.out (by kernel_rfl)) (fun _ _ _ h => h) (Or.inl ⟨by rfl, ?_⟩) ?_ ?_
              rotate_left
              ·
               intro w'
               go_simp
               with_reducible rfl
              rotate_left
              ·
               simp only [Act.put, List.setIfInBounds_toArray, List.set_cons_zero, List.set_cons_succ, i64_w, i32_w]
               rfl
              refine pure_ (i := 1) (N := some 58) (v := ?_) (a' := ?_) #[true, true, false, false, false, false, false, false, false, false, false] rfl rfl (any_of HT_.out (by kernel_rfl)) (fun _ _ _ h => h) (Or.inl ⟨by rfl, ?_⟩) ?_ ?_
              rotate_left
              ·
               intro w'
               go_simp
               with_reducible rfl
              rotate_left
              ·
               simp only [Act.put, List.setIfInBounds_toArray, List.set_cons_zero, List.set_cons_succ, i64_w, i32_w]
               rfl
              refine take_ (i := 2) (N := some 59) (v := ?_) (a' := ?_) #[true, true, true, false, false, false, false, false, false, false, false] rfl rfl (take_ofW HT_.out HW_.out (by kernel_rfl)) (fun _ _ _ h => h) (Or.inl ⟨by rfl, ?_⟩) hHeld ?_ ?_
              rotate_left
              ·
               rintro w' ⟨s0, s1, s2_⟩
               go_simp
               with_reducible rfl
              rotate_left
              ·
               simp only [Act.put, List.setIfInBounds_toArray, List.set_cons_zero, List.set_cons_succ, i64_w, i32_w]
               rfl
              refine pure_ (i := 3) (N := some 60) (v := ?_) (a' := ?_) #[true, true, true, true, false, false, false, false, false, false, false] rfl rfl (any_of HT_.out (by kernel_rfl)) (fun _ _ _ h => h) (Or.inl ⟨by rfl, ?_⟩) ?_ ?_
              rotate_left
              ·
               intro w'
               go_simp
               with_reducible rfl
              rotate_left
              ·
               simp only [Act.put, List.setIfInBounds_toArray, List.set_cons_zero, List.set_cons_succ, i64_w, i32_w]
               rfl
              refine take_ (i := 4) (N := some 61) (v := ?_) (a' := ?_) #[true, true, true, true, true, false, false, false, false, false, false] rfl rfl (take_ofW HT_.out HW_.out (by kernel_rfl)) (fun _ _ _ h => h) (Or.inl ⟨by rfl, ?_⟩) hHeld ?_ ?_
              rotate_left
              ·
               rintro w' ⟨s0, s1, s2_⟩
               go_simp
               with_reducible rfl
              rotate_left
              ·
               simp only [Act.put, List.setIfInBounds_toArray, List.set_cons_zero, List.set_cons_succ, i64_w, i32_w]
               rfl
              refine pure_ (i := 5) (N := some 62) (v := ?_) (a' := ?_) #[true, true, true, true, true, true, false, false, false, false, false] rfl rfl (any_of HT_.out (by kernel_rfl)) (fun _ _ _ h => h) (Or.inl ⟨by rfl, ?_⟩) ?_ ?_
              rotate_left
              ·
               intro w'
               go_simp
               with_reducible rfl
              rotate_left
              ·
               simp only [Act.put, List.setIfInBounds_toArray, List.set_cons_zero, List.set_cons_succ, i64_w, i32_w]
               rfl
              refine take_ (i := 6) (N := some 63) (v := .int .i64 0) (a' := ?_) #[true, true, true, true, true, true, true, false, false, false, false] rfl rfl (take_ofW HT_.out HW_.out (by kernel_rfl)) (fun _ _ _ h => h) (Or.inl ⟨by rfl, fun w' hs => lookup_runs (m := .tmp 57) (x := .tmp 62) rfl rfl rfl hs.2.2⟩) hHeld ?_ ?_
              rotate_left
              ·
               simp only [Act.put, List.setIfInBounds_toArray, List.set_cons_zero, List.set_cons_succ, i64_w, i32_w]
               rfl
              refine pure_ (i := 7) (N := some 64) (v := .int .i64 1) (a' := ?_) #[true, true, true, true, true, true, true, true, false, false, false] rfl rfl (any_of HT_.out (by kernel_rfl)) (fun _ _ _ h => h) (Or.inl ⟨by rfl, fun w' => by first | (go_simp; done) | (go_simp; rfl) | (go_simp; decide)⟩) ?_ ?_
              rotate_left
              ·
               simp only [Act.put, List.setIfInBounds_toArray, List.set_cons_zero, List.set_cons_succ, i64_w, i32_w]
               rfl
              refine one_ (i := 8) (N := some 65) #[true, true, true, true, true, true, true, true, true, false, false] rfl rfl (one_of HT_.out (by kernel_rfl)) (by decide) (fun K hK => ?_)
              refine entry_step (by rfl) (.tmp 57) (.tmp 62) rfl rfl (kf := key2) (n := ((rd_T62 t159 x49_3).f2, (rd_T62 t159 x49_3).f1)) (s := cs) (v := .int .i64 1) (z := .int .i64 0) rfl HK70 Try.underlying69 key2_inj HKS HKX hni (zero3 _) HC.out (fun w37 hbW hm hg => ?_)
              have hs1 := cell_apart hHeld.1 hg NBC.out
              have hs2 := cell_apart hHeld.2.1 hg NBC.out
              have hs3 := look_zero HK70 Try.underlying69 key2_inj HKS HKX hni (zero3 _) hm
              have m0_ : Aside0 (Kd.R k62 62 w37 w.heap.size (fun _ => True) (.slice (some ad166) t159.length co29) t159) := ⟨R_apart HO_3.out hbW (by intro _ _ _; simp) hg⟩
              have m1_ : Aside0 (Kd.R k62 62 w37 w.heap.size (fun _ => True) (.slice (some ad166) t159.length co29) t159) := ⟨R_apart HO_47.out hbW (by intro _ _ _; simp) hg⟩
              have m2_ : Aside0 (w37.heap[gb147]? = some (.cells #[.slice A0_0 l0_0.length c0_0, .slice A0_1 l0_1.length c0_1, .int .i64 a0_2, .int .i64 a0_3] 50 (0, 0))) := ⟨blk_apart BK147.out hbW (by simp) hg⟩
              have m3_ : Aside0 (Below w.heap.size w w37) := ⟨below_written HB.out GC.out hg⟩
              have m4_ : Aside0 (w37.heap[bm]? = some (.map (ents key1 (.bool true) s2) s2.length)) := ⟨(hg.block bm (blk_lt HM2.out) (fun e => NHM2.out (Option.some.inj e))).trans HM2.out⟩
              have m5_ := Aside0.mk hm
              clear HO_3 HO_47 BK147 HB HM2 HC
              have HO_3 := m0_
              have HO_47 := m1_
              have BK147 := m2_
              have HB := m3_
              have HM2 := m4_
              have HC := m5_
              clear m0_ m1_ m2_ m3_ m4_ m5_
              clear hbW hm hg hHeld
              refine hK.out _ _ ⟨hs1, hs2, hs3⟩ (fun hHeld => ?_)
              clear hK K hs1 hs2 hs3
              refine norm_ (a' := ?_) ?_ ?_
              rotate_left
              ·
               show Act.put _ (some 65) _ = _
               simp only [Act.put, List.setIfInBounds_toArray, List.set_cons_zero, List.set_cons_succ, i64_w, i32_w]
               rfl
              refine pure_ (i := 9) (N := some 66) (v := ?_) (a' := ?_) #[true, true, true, true, true, true, true, true, true, true, false] rfl rfl (any_of HT_.out (by kernel_rfl)) (fun _ _ _ h => h) (Or.inl ⟨by rfl, ?_⟩) ?_ ?_
              rotate_left
              ·
               intro w'
               go_simp
               with_reducible rfl
              rotate_left
              ·
               simp only [Act.put, List.setIfInBounds_toArray, List.set_cons_zero, List.set_cons_succ, i64_w, i32_w]
               rfl
              refine last_ (i := 10) (N := none) #[true, true, true, true, true, true, true, true, true, true, true] rfl rfl (one_of HT_.out (by kernel_rfl)) (by decide) (fun K hK => ?_)
              refine store_step (by rfl) (.tmp 57) (.tmp 66) (.tmp 64) rfl rfl rfl rfl (kf := key2) (n := ((rd_T62 t159 x49_3).f2, (rd_T62 t159 x49_3).f1)) (s := cs) (v := .int .i64 1) (z := .int .i64 0) HC.out (fun w38 hbW hm hg => ?_)
              have m0_ : Aside0 (Kd.R k62 62 w38 w.heap.size (fun _ => True) (.slice (some ad166) t159.length co29) t159) := ⟨R_apart HO_3.out hbW (by intro _ _ _; simp) hg⟩
              have m1_ : Aside0 (Kd.R k62 62 w38 w.heap.size (fun _ => True) (.slice (some ad166) t159.length co29) t159) := ⟨R_apart HO_47.out hbW (by intro _ _ _; simp) hg⟩
              have m2_ : Aside0 (w38.heap[gb147]? = some (.cells #[.slice A0_0 l0_0.length c0_0, .slice A0_1 l0_1.length c0_1, .int .i64 a0_2, .int .i64 a0_3] 50 (0, 0))) := ⟨blk_apart BK147.out hbW (by simp) hg⟩
              have m3_ : Aside0 (Below w.heap.size w w38) := ⟨below_written HB.out GC.out hg⟩
              have m4_ : Aside0 (w38.heap[bm]? = some (.map (ents key1 (.bool true) s2) s2.length)) := ⟨(hg.block bm (blk_lt HM2.out) (fun e => NHM2.out (Option.some.inj e))).trans HM2.out⟩
              have m5_ := Aside0.mk hm
              clear HO_3 HO_47 BK147 HB HM2 HC
              have HO_3 := m0_
              have HO_47 := m1_
              have BK147 := m2_
              have HB := m3_
              have HM2 := m4_
              have HC := m5_
              clear m0_ m1_ m2_ m3_ m4_ m5_
              clear hbW hm hg hHeld
              refine hK.out _ _ ?_
              clear hK K
              refine done_ (done_of HT_.out (by kernel_rfl)) ?_
              clear HT_ HW_
              go_wp2
              go_roundg k3
              case measure => have := HJ1.out; have := HK2.out; have := HK3.out; omega
              case rel => exact ⟨cs ++ [((rd_T62 t159 x49_3).f2, (rd_T62 t159 x49_3).f1)], (x9_3), (wrap64 (x49_3 + 1)), (by first | rfl | (simp; done) | (simp [*]; done)), (by first | rfl | (simp; done) | (simp [*]; done)), ⟨fun y hy => by rcases List.mem_append.1 hy with hy | hy; exact HSc.out y hy; rw [List.mem_singleton.1 hy]; exact hbd⟩, ⟨by (with_reducible repeat (first | refine blk_drewN ?_ _ | refine blk_drew ?_ | refine blk_alloc ?_ _)); exact HM2.out⟩, ⟨by (with_reducible repeat (first | refine blk_drewN ?_ _ | refine blk_drew ?_ | refine blk_alloc ?_ _)); exact HC.out⟩, H', ⟨by have := HJ1.out; have := HK2.out; have := HK3.out; omega⟩, ⟨by (with_reducible repeat (first | apply Kd.R_alloc | apply Kd.R_drewN | apply Kd.R_drew)); exact HO_3.out⟩, ⟨by (with_reducible repeat (first | apply Kd.R_alloc | apply Kd.R_drewN | apply Kd.R_drew)); exact HO_47.out⟩, ⟨by (with_reducible repeat (first | refine blk_drewN ?_ _ | refine blk_drew ?_ | refine blk_alloc ?_ _)); exact BK147.out⟩, ⟨by repeat (first | (with_reducible first | exact HB.out | apply below_alloc | apply pw_below_drewN | apply below_drew1 | refine below_set ?_ GE147.out) | exact HB.out)⟩⟩
             ·
              rw [if_neg c33] at H
              have c33b0 : (((rd_T62 t159 x49_3).f0) == 3) = false := beq_eq_false_iff_ne.mpr c33
              have c33b1 : (((rd_T62 t159 x49_3).f0) != 3) = true := bne_iff_ne.mpr c33
              by_cases c37 : ((rd_T62 t159 x49_3).f0) = 2
              ·
               rw [if_pos c37] at H
               have c37b0 : (((rd_T62 t159 x49_3).f0) == 2) = true := beq_iff_eq.mpr c37
               have c37b1 : (((rd_T62 t159 x49_3).f0) != 2) = false := bne_eq_false_iff_eq.mpr c37
               clear c37
               have H' := Aside0.mk H
               clear H
               have p166 : 0 ≤ (x49_3 : Int) := of_decide_eq_true (by first | (with_reducible assumption) | assumption)
               have q166 : x49_3 < (t159.length : Int) := of_decide_eq_true (by first | (with_reducible assumption) | assumption)
               obtain ⟨ad166, e166, hx166_0, hx166_1, hx166_2⟩ := at_T62 (Kd.R_reads' HO_47.out).2.2 x49_3 p166 q166
               cases e166
               replace p166 := eq_true p166
               replace q166 := eq_true q166
               go_wp2_with (first | ((with_reducible refine gate_dst (N := 11) rfl ?_); (try (refine gate_guard (by rfl) ?_; dsimp only)); refine box_event ?hg (N := 11) ?hd (cs := #[.int .i64 0, .int .i64 0, .int .i64 0]) (t := 62) ?hr ?_; (case hd => rfl); (case hg => rfl); (case hr => first | (go_simp; done) | (go_simp; rfl)); intro gb167 hg w38 hbox hb; have mHM2_ := Aside0.mk (blk_below (g := bm) (o := (.map (ents key1 (.bool true) s2) s2.length)) (by (with_reducible repeat (first | refine blk_drewN ?_ _ | refine blk_drew ?_ | refine blk_alloc ?_ _)); exact HM2.out) hb); have nHM2_ : Aside0 (bm ≠ gb167) := ⟨by rw [hg]; exact Nat.ne_of_lt (blk_lt (o := (.map (ents key1 (.bool true) s2) s2.length)) (by (with_reducible repeat (first | refine blk_drewN ?_ _ | refine blk_drew ?_ | refine blk_alloc ?_ _)); exact HM2.out))⟩; have mHC_ := Aside0.mk (blk_below (g := bc) (o := (.map (ents key2 (.int .i64 1) cs) cs.length)) (by (with_reducible repeat (first | refine blk_drewN ?_ _ | refine blk_drew ?_ | refine blk_alloc ?_ _)); exact HC.out) hb); have nHC_ : Aside0 (bc ≠ gb167) := ⟨by rw [hg]; exact Nat.ne_of_lt (blk_lt (o := (.map (ents key2 (.int .i64 1) cs) cs.length)) (by (with_reducible repeat (first | refine blk_drewN ?_ _ | refine blk_drew ?_ | refine blk_alloc ?_ _)); exact HC.out))⟩; clear HM2 HC; have HM2 := mHM2_; have HC := mHC_; have NBM := nHM2_; have NBC := nHC_; clear mHM2_ mHC_ nHM2_ nHC_; have n0_ := Aside0.mk (Kd.R_below (Kd.R_elderB (by (with_reducible repeat (first | apply Kd.R_alloc | apply Kd.R_drewN | apply Kd.R_drew)); exact HO_3.out) gb167 (Nat.le_of_eq hg.symm)) hb); have n1_ := Aside0.mk (Kd.R_below (Kd.R_elderB (by (with_reducible repeat (first | apply Kd.R_alloc | apply Kd.R_drewN | apply Kd.R_drew)); exact HO_47.out) gb167 (Nat.le_of_eq hg.symm)) hb); have n2_ := Aside0.mk (blk_below (g := gb147) (o := .cells #[.slice A0_0 l0_0.length c0_0, .slice A0_1 l0_1.length c0_1, .int .i64 a0_2, .int .i64 a0_3] 50 (0, 0)) (by (with_reducible repeat (first | refine blk_drewN ?_ _ | refine blk_drew ?_ | refine blk_alloc ?_ _)); exact BK147.out) hb); have n3_ := Aside0.mk (below_step (by repeat (first | (with_reducible first | exact HB.out | apply below_alloc | apply pw_below_drewN | apply below_drew1 | refine below_set ?_ GE147.out) | exact HB.out)) hb); have n4_ := Aside0.mk (hbox); have n5_ := Aside0.mk ((by rw [hg]; exact (below_size (by repeat (first | (with_reducible first | exact HB.out | apply below_alloc | apply pw_below_drewN | apply below_drew1 | refine below_set ?_ GE147.out) | exact HB.out))) : w.heap.size ≤ gb167)); have n6_ := Aside0.mk ((by rw [hg]; exact (below_size (by repeat (first | (with_reducible first | exact HB.out | apply below_alloc | apply pw_below_drewN | apply below_drew1 | refine below_set ?_ GE147.out) | exact HB.out))) : w.heap.size ≤ gb167)); have n7_ := Aside0.mk ((by rw [hg]; exact Nat.ne_of_lt (blk_lt (g := gb147) (o := .cells #[.slice A0_0 l0_0.length c0_0, .slice A0_1 l0_1.length c0_1, .int .i64 a0_2, .int .i64 a0_3] 50 (0, 0)) (by (with_reducible repeat (first | refine blk_drewN ?_ _ | refine blk_drew ?_ | refine blk_alloc ?_ _)); exact BK147.out)) : gb147 ≠ gb167)); have n8_ := Aside0.mk ((by rw [hg]; exact Nat.ne_of_gt (blk_lt (g := gb147) (o := .cells #[.slice A0_0 l0_0.length c0_0, .slice A0_1 l0_1.length c0_1, .int .i64 a0_2, .int .i64 a0_3] 50 (0, 0)) (by (with_reducible repeat (first | refine blk_drewN ?_ _ | refine blk_drew ?_ | refine blk_alloc ?_ _)); exact BK147.out)) : gb167 ≠ gb147)); clear HO_3; clear HO_47; clear BK147; clear HB; have HO_3 := n0_; have HO_47 := n1_; have BK147 := n2_; have HB := n3_; have BK167 := n4_; have GW167 := n5_; have GE167 := n6_; have NB147_167 := n7_; have NB167_147 := n8_; clear n0_ n1_ n2_ n3_ n4_ n5_ n6_ n7_ n8_; clear hb hbox hg; have hnb39 := NB167_147.out; have hnc39 := NB147_167.out; have hcz40_0 : w38.cell? ⟨gb167, 0, none⟩ = some (.int .i64 0) := (blk_cell BK167.out 0).trans rfl; have hcz40_1 : w38.cell? ⟨gb167, 1, none⟩ = some (.int .i64 0) := (blk_cell BK167.out 1).trans rfl; have hcz40_2 : w38.cell? ⟨gb167, 2, none⟩ = some (.int .i64 0) := (blk_cell BK167.out 2).trans rfl; have hfz40_0 := blk_frozen BK167.out 0; have hfz40_1 := blk_frozen BK167.out 1; have hfz40_2 := blk_frozen BK167.out 2))
               go_roundg k3
               case measure => have := HJ1.out; have := HK2.out; have := HK3.out; omega
               case rel => exact ⟨cs, (wrap64 (x9_3 + 1)), (wrap64 (x49_3 + 1)), (by first | rfl | (simp; done) | (simp [*]; done)), (by first | rfl | (simp; done) | (simp [*]; done)), HSc, ⟨by (repeat (first | refine obj_far ?_ NBM.out | (with_reducible first | refine blk_drewN ?_ _ | refine blk_drew ?_ | refine blk_alloc ?_ _))); exact HM2.out⟩, ⟨by (repeat (first | refine obj_far ?_ NBC.out | (with_reducible first | refine blk_drewN ?_ _ | refine blk_drew ?_ | refine blk_alloc ?_ _))); exact HC.out⟩, H', ⟨by have := HJ1.out; have := HK2.out; have := HK3.out; omega⟩, ⟨by (with_reducible repeat (first | apply Kd.R_alloc | apply Kd.R_drewN | apply Kd.R_drew)); exact Kd.R_mono (Kd.R_far (p := ⟨gb167, 2, none⟩) (Kd.R_far (p := ⟨gb167, 1, none⟩) (Kd.R_far (p := ⟨gb167, 0, none⟩) (Kd.R_mono HO_3.out (fun k_ hk => (⟨hk, hk.2⟩ : _ ∧ k_ ≠ gb167))) (fun _ hk => hk.2) (.int .i64 ((rd_T62 t159 x49_3).f0))) (fun _ hk => hk.2) (.int .i64 ((rd_T62 t159 x49_3).f1))) (fun _ hk => hk.2) (.int .i64 ((rd_T62 t159 x49_3).f2))) (fun _ hk => trivial)⟩, ⟨by (with_reducible repeat (first | apply Kd.R_alloc | apply Kd.R_drewN | apply Kd.R_drew)); exact Kd.R_mono (Kd.R_far (p := ⟨gb167, 2, none⟩) (Kd.R_far (p := ⟨gb167, 1, none⟩) (Kd.R_far (p := ⟨gb167, 0, none⟩) (Kd.R_mono HO_47.out (fun k_ hk => (⟨hk, hk.2⟩ : _ ∧ k_ ≠ gb167))) (fun _ hk => hk.2) (.int .i64 ((rd_T62 t159 x49_3).f0))) (fun _ hk => hk.2) (.int .i64 ((rd_T62 t159 x49_3).f1))) (fun _ hk => hk.2) (.int .i64 ((rd_T62 t159 x49_3).f2))) (fun _ hk => trivial)⟩, ⟨by (with_reducible repeat (first | refine blk_drewN ?_ _ | refine blk_drew ?_ | refine blk_alloc ?_ _)); refine blk_far ?_ NB147_167.out _; (with_reducible repeat (first | refine blk_drewN ?_ _ | refine blk_drew ?_ | refine blk_alloc ?_ _)); refine blk_far ?_ NB147_167.out _; (with_reducible repeat (first | refine blk_drewN ?_ _ | refine blk_drew ?_ | refine blk_alloc ?_ _)); refine blk_far ?_ NB147_167.out _; (with_reducible repeat (first | refine blk_drewN ?_ _ | refine blk_drew ?_ | refine blk_alloc ?_ _)); exact BK147.out⟩, ⟨by repeat (first | (with_reducible first | exact HB.out | apply below_alloc | apply pw_below_drewN | apply below_drew1 | refine below_set ?_ GE147.out | refine below_set ?_ GE167.out) | exact HB.out)⟩⟩
              ·
               rw [if_neg c37] at H
               have c37b0 : (((rd_T62 t159 x49_3).f0) == 2) = false := beq_eq_false_iff_ne.mpr c37
               have c37b1 : (((rd_T62 t159 x49_3).f0) != 2) = true := bne_iff_ne.mpr c37
               have H' := Aside0.mk H
               clear H
               have p166 : 0 ≤ (x49_3 : Int) := of_decide_eq_true (by first | (with_reducible assumption) | assumption)
               have q166 : x49_3 < (t159.length : Int) := of_decide_eq_true (by first | (with_reducible assumption) | assumption)
               obtain ⟨ad166, e166, hx166_0, hx166_1, hx166_2⟩ := at_T62 (Kd.R_reads' HO_47.out).2.2 x49_3 p166 q166
               cases e166
               replace p166 := eq_true p166
               replace q166 := eq_true q166
               go_wp2_with (first | ((with_reducible refine gate_dst (N := 11) rfl ?_); (try (refine gate_guard (by rfl) ?_; dsimp only)); refine box_event ?hg (N := 11) ?hd (cs := #[.int .i64 0, .int .i64 0, .int .i64 0]) (t := 62) ?hr ?_; (case hd => rfl); (case hg => rfl); (case hr => first | (go_simp; done) | (go_simp; rfl)); intro gb167 hg w41 hbox hb; have mHM2_ := Aside0.mk (blk_below (g := bm) (o := (.map (ents key1 (.bool true) s2) s2.length)) (by (with_reducible repeat (first | refine blk_drewN ?_ _ | refine blk_drew ?_ | refine blk_alloc ?_ _)); exact HM2.out) hb); have nHM2_ : Aside0 (bm ≠ gb167) := ⟨by rw [hg]; exact Nat.ne_of_lt (blk_lt (o := (.map (ents key1 (.bool true) s2) s2.length)) (by (with_reducible repeat (first | refine blk_drewN ?_ _ | refine blk_drew ?_ | refine blk_alloc ?_ _)); exact HM2.out))⟩; have mHC_ := Aside0.mk (blk_below (g := bc) (o := (.map (ents key2 (.int .i64 1) cs) cs.length)) (by (with_reducible repeat (first | refine blk_drewN ?_ _ | refine blk_drew ?_ | refine blk_alloc ?_ _)); exact HC.out) hb); have nHC_ : Aside0 (bc ≠ gb167) := ⟨by rw [hg]; exact Nat.ne_of_lt (blk_lt (o := (.map (ents key2 (.int .i64 1) cs) cs.length)) (by (with_reducible repeat (first | refine blk_drewN ?_ _ | refine blk_drew ?_ | refine blk_alloc ?_ _)); exact HC.out))⟩; clear HM2 HC; have HM2 := mHM2_; have HC := mHC_; have NBM := nHM2_; have NBC := nHC_; clear mHM2_ mHC_ nHM2_ nHC_; have n0_ := Aside0.mk (Kd.R_below (Kd.R_elderB (by (with_reducible repeat (first | apply Kd.R_alloc | apply Kd.R_drewN | apply Kd.R_drew)); exact HO_3.out) gb167 (Nat.le_of_eq hg.symm)) hb); have n1_ := Aside0.mk (Kd.R_below (Kd.R_elderB (by (with_reducible repeat (first | apply Kd.R_alloc | apply Kd.R_drewN | apply Kd.R_drew)); exact HO_47.out) gb167 (Nat.le_of_eq hg.symm)) hb); have n2_ := Aside0.mk (blk_below (g := gb147) (o := .cells #[.slice A0_0 l0_0.length c0_0, .slice A0_1 l0_1.length c0_1, .int .i64 a0_2, .int .i64 a0_3] 50 (0, 0)) (by (with_reducible repeat (first | refine blk_drewN ?_ _ | refine blk_drew ?_ | refine blk_alloc ?_ _)); exact BK147.out) hb); have n3_ := Aside0.mk (below_step (by repeat (first | (with_reducible first | exact HB.out | apply below_alloc | apply pw_below_drewN | apply below_drew1 | refine below_set ?_ GE147.out) | exact HB.out)) hb); have n4_ := Aside0.mk (hbox); have n5_ := Aside0.mk ((by rw [hg]; exact (below_size (by repeat (first | (with_reducible first | exact HB.out | apply below_alloc | apply pw_below_drewN | apply below_drew1 | refine below_set ?_ GE147.out) | exact HB.out))) : w.heap.size ≤ gb167)); have n6_ := Aside0.mk ((by rw [hg]; exact (below_size (by repeat (first | (with_reducible first | exact HB.out | apply below_alloc | apply pw_below_drewN | apply below_drew1 | refine below_set ?_ GE147.out) | exact HB.out))) : w.heap.size ≤ gb167)); have n7_ := Aside0.mk ((by rw [hg]; exact Nat.ne_of_lt (blk_lt (g := gb147) (o := .cells #[.slice A0_0 l0_0.length c0_0, .slice A0_1 l0_1.length c0_1, .int .i64 a0_2, .int .i64 a0_3] 50 (0, 0)) (by (with_reducible repeat (first | refine blk_drewN ?_ _ | refine blk_drew ?_ | refine blk_alloc ?_ _)); exact BK147.out)) : gb147 ≠ gb167)); have n8_ := Aside0.mk ((by rw [hg]; exact Nat.ne_of_gt (blk_lt (g := gb147) (o := .cells #[.slice A0_0 l0_0.length c0_0, .slice A0_1 l0_1.length c0_1, .int .i64 a0_2, .int .i64 a0_3] 50 (0, 0)) (by (with_reducible repeat (first | refine blk_drewN ?_ _ | refine blk_drew ?_ | refine blk_alloc ?_ _)); exact BK147.out)) : gb167 ≠ gb147)); clear HO_3; clear HO_47; clear BK147; clear HB; have HO_3 := n0_; have HO_47 := n1_; have BK147 := n2_; have HB := n3_; have BK167 := n4_; have GW167 := n5_; have GE167 := n6_; have NB147_167 := n7_; have NB167_147 := n8_; clear n0_ n1_ n2_ n3_ n4_ n5_ n6_ n7_ n8_; clear hb hbox hg; have hnb42 := NB167_147.out; have hnc42 := NB147_167.out; have hcz43_0 : w41.cell? ⟨gb167, 0, none⟩ = some (.int .i64 0) := (blk_cell BK167.out 0).trans rfl; have hcz43_1 : w41.cell? ⟨gb167, 1, none⟩ = some (.int .i64 0) := (blk_cell BK167.out 1).trans rfl; have hcz43_2 : w41.cell? ⟨gb167, 2, none⟩ = some (.int .i64 0) := (blk_cell BK167.out 2).trans rfl; have hfz43_0 := blk_frozen BK167.out 0; have hfz43_1 := blk_frozen BK167.out 1; have hfz43_2 := blk_frozen BK167.out 2))
               go_roundg k3
               case measure => have := HJ1.out; have := HK2.out; have := HK3.out; omega
               case rel => exact ⟨cs, (x9_3), (wrap64 (x49_3 + 1)), (by first | rfl | (simp; done) | (simp [*]; done)), (by first | rfl | (simp; done) | (simp [*]; done)), HSc, ⟨by (repeat (first | refine obj_far ?_ NBM.out | (with_reducible first | refine blk_drewN ?_ _ | refine blk_drew ?_ | refine blk_alloc ?_ _))); exact HM2.out⟩, ⟨by (repeat (first | refine obj_far ?_ NBC.out | (with_reducible first | refine blk_drewN ?_ _ | refine blk_drew ?_ | refine blk_alloc ?_ _))); exact HC.out⟩, H', ⟨by have := HJ1.out; have := HK2.out; have := HK3.out; omega⟩, ⟨by (with_reducible repeat (first | apply Kd.R_alloc | apply Kd.R_drewN | apply Kd.R_drew)); exact Kd.R_mono (Kd.R_far (p := ⟨gb167, 2, none⟩) (Kd.R_far (p := ⟨gb167, 1, none⟩) (Kd.R_far (p := ⟨gb167, 0, none⟩) (Kd.R_mono HO_3.out (fun k_ hk => (⟨hk, hk.2⟩ : _ ∧ k_ ≠ gb167))) (fun _ hk => hk.2) (.int .i64 ((rd_T62 t159 x49_3).f0))) (fun _ hk => hk.2) (.int .i64 ((rd_T62 t159 x49_3).f1))) (fun _ hk => hk.2) (.int .i64 ((rd_T62 t159 x49_3).f2))) (fun _ hk => trivial)⟩, ⟨by (with_reducible repeat (first | apply Kd.R_alloc | apply Kd.R_drewN | apply Kd.R_drew)); exact Kd.R_mono (Kd.R_far (p := ⟨gb167, 2, none⟩) (Kd.R_far (p := ⟨gb167, 1, none⟩) (Kd.R_far (p := ⟨gb167, 0, none⟩) (Kd.R_mono HO_47.out (fun k_ hk => (⟨hk, hk.2⟩ : _ ∧ k_ ≠ gb167))) (fun _ hk => hk.2) (.int .i64 ((rd_T62 t159 x49_3).f0))) (fun _ hk => hk.2) (.int .i64 ((rd_T62 t159 x49_3).f1))) (fun _ hk => hk.2) (.int .i64 ((rd_T62 t159 x49_3).f2))) (fun _ hk => trivial)⟩, ⟨by (with_reducible repeat (first | refine blk_drewN ?_ _ | refine blk_drew ?_ | refine blk_alloc ?_ _)); refine blk_far ?_ NB147_167.out _; (with_reducible repeat (first | refine blk_drewN ?_ _ | refine blk_drew ?_ | refine blk_alloc ?_ _)); refine blk_far ?_ NB147_167.out _; (with_reducible repeat (first | refine blk_drewN ?_ _ | refine blk_drew ?_ | refine blk_alloc ?_ _)); refine blk_far ?_ NB147_167.out _; (with_reducible repeat (first | refine blk_drewN ?_ _ | refine blk_drew ?_ | refine blk_alloc ?_ _)); exact BK147.out⟩, ⟨by repeat (first | (with_reducible first | exact HB.out | apply below_alloc | apply pw_below_drewN | apply below_drew1 | refine below_set ?_ GE147.out | refine below_set ?_ GE167.out) | exact HB.out)⟩⟩
            ·
             rw [if_neg c32] at H
             exact absurd H (by simp)
           ·
            rw [if_neg c31] at H
            exact absurd H (by simp)
          ·
           rw [if_neg c30] at H
           have c30b0 : decide (x49_3 < (t159.length : Int)) = false := decide_eq_false c30
           clear c30
           have HE := Aside0.mk H
           clear H
           go_wp2_with (first | ((with_reducible refine gate_dst (N := 73) rfl ?_); refine range_event rfl (N := 73) rfl (.tmp 72) 69 70 3 rfl Try.underlying69 rfl (by (with_reducible repeat (first | refine blk_drewN ?_ _ | refine blk_drew ?_ | refine blk_alloc ?_ _)); exact HC.out) ?_; intro gi hg w40 hi hb; have m0_ := Aside0.mk (Kd.R_below (by (with_reducible repeat (first | apply Kd.R_alloc | apply Kd.R_drewN | apply Kd.R_drew)); exact HO_3.out) hb); have m1_ := Aside0.mk (blk_below (g := gb147) (o := (.cells #[.slice A0_0 l0_0.length c0_0, .slice A0_1 l0_1.length c0_1, .int .i64 a0_2, .int .i64 a0_3] 50 (0, 0))) (by (with_reducible repeat (first | refine blk_drewN ?_ _ | refine blk_drew ?_ | refine blk_alloc ?_ _)); exact BK147.out) hb); have m2_ := Aside0.mk (below_step (by repeat (first | (with_reducible first | exact HB.out | apply below_alloc | apply pw_below_drewN | apply below_drew1 | refine below_set ?_ GE147.out) | exact HB.out)) hb); have m3_ := Aside0.mk (blk_below (g := bm) (o := (.map (ents key1 (.bool true) s2) s2.length)) (by (with_reducible repeat (first | refine blk_drewN ?_ _ | refine blk_drew ?_ | refine blk_alloc ?_ _)); exact HM2.out) hb); have m4_ := Aside0.mk (blk_below (g := bc) (o := (.map (ents key2 (.int .i64 1) cs) cs.length)) (by (with_reducible repeat (first | refine blk_drewN ?_ _ | refine blk_drew ?_ | refine blk_alloc ?_ _)); exact HC.out) hb); have GI : Aside0 (w.heap.size ≤ gi) := ⟨by rw [hg]; exact (below_size (by repeat (first | (with_reducible first | exact HB.out | apply below_alloc | apply pw_below_drewN | apply below_drew1 | refine below_set ?_ GE147.out) | exact HB.out)))⟩; have HI0 := Aside0.mk hi; clear HO_3 HO_47 BK147 HB HM2 HC hi hg hb; have HO_3 := m0_; have BK147 := m1_; have HB := m2_; have HM2 := m3_; have HC := m4_; clear m0_ m1_ m2_ m3_ m4_))
           go_loopg [13] cs.length (fun kq v13 w' => ∃ (seen : Array Nat), Aside0 ((leftOf (ents key2 (.int .i64 1) cs) seen).size ≤ kq) ∧ Aside0 (w'.heap[gi]? = some (.mapIter (some bc) cs.length seen cs.length)) ∧ Aside0 (w'.heap[bm]? = some (.map (ents key1 (.bool true) s2) s2.length)) ∧ Aside0 (w'.heap[bc]? = some (.map (ents key2 (.int .i64 1) cs) cs.length)) ∧ Aside0 (Kd.R k62 62 w' w.heap.size (fun _ => True) (.slice Ao29 t159.length co29) t159) ∧ Aside0 (w'.heap[gb147]? = some (.cells #[.slice A0_0 l0_0.length c0_0, .slice A0_1 l0_1.length c0_1, .int .i64 a0_2, .int .i64 a0_3] 50 (0, 0))) ∧ Aside0 (Below w.heap.size w w'))
           case atStart => exact ⟨#[], ⟨left_all _ _ _⟩, ⟨by (with_reducible repeat (first | refine blk_drewN ?_ _ | refine blk_drew ?_ | refine blk_alloc ?_ _)); exact HI0.out⟩, ⟨by (with_reducible repeat (first | refine blk_drewN ?_ _ | refine blk_drew ?_ | refine blk_alloc ?_ _)); exact HM2.out⟩, ⟨by (with_reducible repeat (first | refine blk_drewN ?_ _ | refine blk_drew ?_ | refine blk_alloc ?_ _)); exact HC.out⟩, ⟨by (with_reducible repeat (first | apply Kd.R_alloc | apply Kd.R_drewN | apply Kd.R_drew)); exact HO_3.out⟩, ⟨by (with_reducible repeat (first | refine blk_drewN ?_ _ | refine blk_drew ?_ | refine blk_alloc ?_ _)); exact BK147.out⟩, ⟨by repeat (first | (with_reducible first | exact HB.out | apply below_alloc | apply pw_below_drewN | apply below_drew1 | refine below_set ?_ GE147.out) | exact HB.out)⟩⟩
           case round =>
            clear HO_3 BK147 HB HM2 HC HI0
            obtain ⟨seen, HL, HI, HM2, HC, HO_3, BK147, HB⟩ := hrel
            rcases next_two (P := Try.prog) wr 0 HI.out HC.out HL.out with hrun | ⟨y, w41, n', seen', rfl, hrun, hg, hi, hl, hent⟩
            ·
             have H := HE.out
             clear HE
             by_cases c44 : (cs.length : Int) = (wrap64 ((l0_1.length : Int) * (l0_0.length : Int)))
             ·
              rw [if_pos c44] at H
              have c44b0 : ((cs.length : Int) == (wrap64 ((l0_1.length : Int) * (l0_0.length : Int)))) = true := beq_iff_eq.mpr c44
              have c44b1 : ((cs.length : Int) != (wrap64 ((l0_1.length : Int) * (l0_0.length : Int)))) = false := bne_eq_false_iff_eq.mpr c44
              clear c44
              by_cases c45 : x9_3 = (wrap64 ((s2.length : Int) - 1))
              ·
               rw [if_pos c45] at H
               have c45b0 : (x9_3 == (wrap64 ((s2.length : Int) - 1))) = true := beq_iff_eq.mpr c45
               have c45b1 : (x9_3 != (wrap64 ((s2.length : Int) - 1))) = false := bne_eq_false_iff_eq.mpr c45
               clear c45
               replace H := Option.bind_eq_some_iff.mp H
               obtain ⟨t165, A460, H⟩ := H
               replace H : (some ((t159.length : Int) == (wrap64 ((wrap64 ((wrap64 ((l0_1.length : Int) * (l0_0.length : Int))) + x9_3)) + t165)))) = some r := H
               have A46 := Aside0.mk A460
               clear A460
               obtain rfl := Option.some.inj H
               have hcz47_0 : wr.cell? ⟨gb147, 0, none⟩ = some (.slice A0_0 l0_0.length c0_0) := (blk_cell BK147.out 0).trans rfl
               have hcz47_1 : wr.cell? ⟨gb147, 1, none⟩ = some (.slice A0_1 l0_1.length c0_1) := (blk_cell BK147.out 1).trans rfl
               have hcz47_2 : wr.cell? ⟨gb147, 2, none⟩ = some (.int .i64 a0_2) := (blk_cell BK147.out 2).trans rfl
               have hcz47_3 : wr.cell? ⟨gb147, 3, none⟩ = some (.int .i64 a0_3) := (blk_cell BK147.out 3).trans rfl
               have hfz47_0 := blk_frozen BK147.out 0
               have hfz47_1 := blk_frozen BK147.out 1
               have hfz47_2 := blk_frozen BK147.out 2
               have hfz47_3 := blk_frozen BK147.out 3
               go_wp2_with (first | ((with_reducible refine gate_dst (N := 74) rfl ?_); refine next_run rfl (.tmp 73) rfl rfl hrun ?_) | ((with_reducible refine gate_dst (N := 88) rfl ?_); refine len_event rfl (.tmp 87) 69 70 3 rfl Try.underlying69 rfl (by (with_reducible repeat (first | refine blk_drewN ?_ _ | refine blk_drew ?_ | refine blk_alloc ?_ _)); exact HC.out) ?_; rw [ents_size]) | ((with_reducible refine gate_dst (N := 94) rfl ?_); (try (refine gate_guard (by rfl) ?_; dsimp only)); refine len_event rfl (.tmp 93) 66 3 4 rfl Try.underlying66 rfl (by (with_reducible repeat (first | refine blk_drewN ?_ _ | refine blk_drew ?_ | refine blk_alloc ?_ _)); exact HM2.out) ?_; rw [ents_size]) | (go_at_call 30; (with_reducible refine (steps_Changes.calls k3 _ _ t159 t165 _ ?side1 ?side2 A46.out).mono ?_); (case side1 => repeat (first | exact (Kd.R_reads' HO_3.out).2.2 | (with_reducible refine Kd.C_alloc ?_ _) | (with_reducible refine Kd.C_drewN ?_ _) | (with_reducible refine Kd.C_drew ?_))); (case side2 => exact (Kd.R_reads' HO_3.out).2.1); rintro e w48 ⟨rfl, hb⟩; have n0_ := Aside0.mk (Kd.R_below (by (with_reducible repeat (first | apply Kd.R_alloc | apply Kd.R_drewN | apply Kd.R_drew)); exact HO_3.out) hb); have n1_ := HB; have n2_ := Aside0.mk (blk_below (g := gb147) (o := .cells #[.slice A0_0 l0_0.length c0_0, .slice A0_1 l0_1.length c0_1, .int .i64 a0_2, .int .i64 a0_3] 50 (0, 0)) (by (with_reducible repeat (first | refine blk_drewN ?_ _ | refine blk_drew ?_ | refine blk_alloc ?_ _)); exact BK147.out) hb); have n3_ := Aside0.mk (below_step (by repeat (first | (with_reducible first | exact HB.out | apply below_alloc | apply pw_below_drewN | apply below_drew1 | refine below_set ?_ GE147.out) | exact HB.out)) hb); clear HO_3; clear BK147; clear HB; have HO_3 := n0_; have BK147 := n2_; have HB := n3_; clear n0_ n1_ n2_ n3_; (try clear hb); (try clear hb2); (try clear hk); (try clear hi)))
               go_ret
               exact ⟨by first | rfl | (simp [errW_none, errW_some] <;> rfl) | (simp [*, errW_none, errW_some] <;> rfl), by repeat (first | (with_reducible first | exact HB.out | apply below_alloc | apply pw_below_drewN | apply below_drew1 | refine below_set ?_ GE147.out) | exact HB.out)⟩
              ·
               rw [if_neg c45] at H
               have c45b0 : (x9_3 == (wrap64 ((s2.length : Int) - 1))) = false := beq_eq_false_iff_ne.mpr c45
               have c45b1 : (x9_3 != (wrap64 ((s2.length : Int) - 1))) = true := bne_iff_ne.mpr c45
               obtain rfl := Option.some.inj H
               have hcz49_0 : wr.cell? ⟨gb147, 0, none⟩ = some (.slice A0_0 l0_0.length c0_0) := (blk_cell BK147.out 0).trans rfl
               have hcz49_1 : wr.cell? ⟨gb147, 1, none⟩ = some (.slice A0_1 l0_1.length c0_1) := (blk_cell BK147.out 1).trans rfl
               have hcz49_2 : wr.cell? ⟨gb147, 2, none⟩ = some (.int .i64 a0_2) := (blk_cell BK147.out 2).trans rfl
               have hcz49_3 : wr.cell? ⟨gb147, 3, none⟩ = some (.int .i64 a0_3) := (blk_cell BK147.out 3).trans rfl
               have hfz49_0 := blk_frozen BK147.out 0
               have hfz49_1 := blk_frozen BK147.out 1
               have hfz49_2 := blk_frozen BK147.out 2
               have hfz49_3 := blk_frozen BK147.out 3
               go_wp2_with (first | ((with_reducible refine gate_dst (N := 74) rfl ?_); refine next_run rfl (.tmp 73) rfl rfl hrun ?_) | ((with_reducible refine gate_dst (N := 88) rfl ?_); refine len_event rfl (.tmp 87) 69 70 3 rfl Try.underlying69 rfl (by (with_reducible repeat (first | refine blk_drewN ?_ _ | refine blk_drew ?_ | refine blk_alloc ?_ _)); exact HC.out) ?_; rw [ents_size]) | ((with_reducible refine gate_dst (N := 94) rfl ?_); (try (refine gate_guard (by rfl) ?_; dsimp only)); refine len_event rfl (.tmp 93) 66 3 4 rfl Try.underlying66 rfl (by (with_reducible repeat (first | refine blk_drewN ?_ _ | refine blk_drew ?_ | refine blk_alloc ?_ _)); exact HM2.out) ?_; rw [ents_size]))
               go_ret
               exact ⟨by first | rfl | (simp [errW_none, errW_some] <;> rfl) | (simp [*, errW_none, errW_some] <;> rfl), by repeat (first | (with_reducible first | exact HB.out | apply below_alloc | apply pw_below_drewN | apply below_drew1 | refine below_set ?_ GE147.out) | exact HB.out)⟩
             ·
              rw [if_neg c44] at H
              have c44b0 : ((cs.length : Int) == (wrap64 ((l0_1.length : Int) * (l0_0.length : Int)))) = false := beq_eq_false_iff_ne.mpr c44
              have c44b1 : ((cs.length : Int) != (wrap64 ((l0_1.length : Int) * (l0_0.length : Int)))) = true := bne_iff_ne.mpr c44
              obtain rfl := Option.some.inj H
              have hcz50_0 : wr.cell? ⟨gb147, 0, none⟩ = some (.slice A0_0 l0_0.length c0_0) := (blk_cell BK147.out 0).trans rfl
              have hcz50_1 : wr.cell? ⟨gb147, 1, none⟩ = some (.slice A0_1 l0_1.length c0_1) := (blk_cell BK147.out 1).trans rfl
              have hcz50_2 : wr.cell? ⟨gb147, 2, none⟩ = some (.int .i64 a0_2) := (blk_cell BK147.out 2).trans rfl
              have hcz50_3 : wr.cell? ⟨gb147, 3, none⟩ = some (.int .i64 a0_3) := (blk_cell BK147.out 3).trans rfl
              have hfz50_0 := blk_frozen BK147.out 0
              have hfz50_1 := blk_frozen BK147.out 1
              have hfz50_2 := blk_frozen BK147.out 2
              have hfz50_3 := blk_frozen BK147.out 3
              go_wp2_with (first | ((with_reducible refine gate_dst (N := 74) rfl ?_); refine next_run rfl (.tmp 73) rfl rfl hrun ?_) | ((with_reducible refine gate_dst (N := 88) rfl ?_); refine len_event rfl (.tmp 87) 69 70 3 rfl Try.underlying69 rfl (by (with_reducible repeat (first | refine blk_drewN ?_ _ | refine blk_drew ?_ | refine blk_alloc ?_ _)); exact HC.out) ?_; rw [ents_size]) | ((with_reducible refine gate_dst (N := 94) rfl ?_); (try (refine gate_guard (by rfl) ?_; dsimp only)); refine len_event rfl (.tmp 93) 66 3 4 rfl Try.underlying66 rfl (by (with_reducible repeat (first | refine blk_drewN ?_ _ | refine blk_drew ?_ | refine blk_alloc ?_ _)); exact HM2.out) ?_; rw [ents_size]))
              go_ret
              exact ⟨by first | rfl | (simp [errW_none, errW_some] <;> rfl) | (simp [*, errW_none, errW_some] <;> rfl), by repeat (first | (with_reducible first | exact HB.out | apply below_alloc | apply pw_below_drewN | apply below_drew1 | refine below_set ?_ GE147.out) | exact HB.out)⟩
            ·
             have m0_ : Aside0 (Kd.R k62 62 w41 w.heap.size (fun _ => True) (.slice Ao29 t159.length co29) t159) := ⟨R_apart HO_3.out HI.out (by intro _ _ _; simp) hg⟩
             have m1_ : Aside0 (w41.heap[gb147]? = some (.cells #[.slice A0_0 l0_0.length c0_0, .slice A0_1 l0_1.length c0_1, .int .i64 a0_2, .int .i64 a0_3] 50 (0, 0))) := ⟨blk_apart BK147.out HI.out (by simp) hg⟩
             have m2_ : Aside0 (Below w.heap.size w w41) := ⟨below_written HB.out GI.out hg⟩
             have m3_ : Aside0 (w41.heap[bm]? = some (.map (ents key1 (.bool true) s2) s2.length)) := ⟨blk_apart HM2.out HI.out (by simp) hg⟩
             have m4_ : Aside0 (w41.heap[bc]? = some (.map (ents key2 (.int .i64 1) cs) cs.length)) := ⟨blk_apart HC.out HI.out (by simp) hg⟩
             have m5_ := Aside0.mk hi
             have m6_ := Aside0.mk hl
             clear hg hi hl
             go_wp2_with (first | ((with_reducible refine gate_dst (N := 74) rfl ?_); refine next_run rfl (.tmp 73) rfl rfl hrun ?_) | ((with_reducible refine gate_dst (N := 76) rfl ?_); refine entry_event rfl (N := 76) rfl (.tmp 73) rfl rfl hent ?_))
             go_roundg n'
             case measure => omega
             case rel => exact ⟨seen', m6_, ⟨by (with_reducible repeat (first | refine blk_drewN ?_ _ | refine blk_drew ?_ | refine blk_alloc ?_ _)); exact m5_.out⟩, ⟨by (with_reducible repeat (first | refine blk_drewN ?_ _ | refine blk_drew ?_ | refine blk_alloc ?_ _)); exact m3_.out⟩, ⟨by (with_reducible repeat (first | refine blk_drewN ?_ _ | refine blk_drew ?_ | refine blk_alloc ?_ _)); exact m4_.out⟩, ⟨by (with_reducible repeat (first | apply Kd.R_alloc | apply Kd.R_drewN | apply Kd.R_drew)); exact m0_.out⟩, ⟨by (with_reducible repeat (first | refine blk_drewN ?_ _ | refine blk_drew ?_ | refine blk_alloc ?_ _)); exact m1_.out⟩, ⟨by repeat (first | (with_reducible first | exact m2_.out | apply below_alloc | apply pw_below_drewN | apply below_drew1) | exact m2_.out)⟩⟩
    ·
     rw [if_neg c16] at H
     have c16b0 : (t162 == 0) = false := beq_eq_false_iff_ne.mpr c16
     have c16b1 : (t162 != 0) = true := bne_iff_ne.mpr c16
     obtain rfl := Option.some.inj H
     have hcz51_0 : wc.cell? ⟨gb147, 0, none⟩ = some (.slice A0_0 l0_0.length c0_0) := (blk_cell BK147.out 0).trans rfl
     have hcz51_1 : wc.cell? ⟨gb147, 1, none⟩ = some (.slice A0_1 l0_1.length c0_1) := (blk_cell BK147.out 1).trans rfl
     have hcz51_2 : wc.cell? ⟨gb147, 2, none⟩ = some (.int .i64 a0_2) := (blk_cell BK147.out 2).trans rfl
     have hcz51_3 : wc.cell? ⟨gb147, 3, none⟩ = some (.int .i64 a0_3) := (blk_cell BK147.out 3).trans rfl
     have hfz51_0 := blk_frozen BK147.out 0
     have hfz51_1 := blk_frozen BK147.out 1
     have hfz51_2 := blk_frozen BK147.out 2
     have hfz51_3 := blk_frozen BK147.out 3
     go_wp2_with (first | ((with_reducible refine gate_callee (f := 28) rfl ?_); refine goesL_ (some 25) rfl rfl Try.func28 (by kernel_rfl) rfl #[.agg #[.slice A0_0 l0_0.length c0_0, .slice A0_1 l0_1.length c0_1, .int .i64 a0_2, .int .i64 a0_3]] rfl (by (try simp only [List.map_toArray, List.map_cons, List.map_nil]); first | done | rfl | (simp only [List.length_drop, List.length_take]; rfl)) ?_; (with_reducible refine (culetlaw49_Own.calls kj1 _ _ l0_0 _ _ l0_1 a0_2 a0_3 t151 t154 t157 t158 _ ?side1 ?side2 ?side3 ?side4 A14.out).mono ?_); (case side1 => repeat (first | exact (Kd.C_below HR0_0.out HB.out) | (with_reducible refine Kd.C_alloc ?_ _) | (with_reducible refine Kd.C_drewN ?_ _) | (with_reducible refine Kd.C_drew ?_))); (case side2 => exact HC0_0.out); (case side3 => repeat (first | exact (Kd.C_below HR0_1.out HB.out) | (with_reducible refine Kd.C_alloc ?_ _) | (with_reducible refine Kd.C_drewN ?_ _) | (with_reducible refine Kd.C_drew ?_))); (case side4 => exact HC0_1.out); rintro e w52 ⟨v152, v155, rfl, ho0, ho1, hb⟩; refine ⟨_, rfl, ?_⟩; have n0_ := Aside0.mk (Kd.R_lower ho0 (below_size (by repeat (first | (with_reducible first | exact HB.out | apply below_alloc | apply pw_below_drewN | apply below_drew1 | refine below_set ?_ GE147.out) | exact HB.out)))); have n1_ := Aside0.mk (Kd.R_lower ho1 (below_size (by repeat (first | (with_reducible first | exact HB.out | apply below_alloc | apply pw_below_drewN | apply below_drew1 | refine below_set ?_ GE147.out) | exact HB.out)))); have n2_ := Aside0.mk (blk_below (g := gb147) (o := .cells #[.slice A0_0 l0_0.length c0_0, .slice A0_1 l0_1.length c0_1, .int .i64 a0_2, .int .i64 a0_3] 50 (0, 0)) (by (with_reducible repeat (first | refine blk_drewN ?_ _ | refine blk_drew ?_ | refine blk_alloc ?_ _)); exact BK147.out) hb); have n3_ := Aside0.mk (below_step (by repeat (first | (with_reducible first | exact HB.out | apply below_alloc | apply pw_below_drewN | apply below_drew1 | refine below_set ?_ GE147.out) | exact HB.out)) hb); clear BK147; clear HB; have HO153 := n0_; have HO156 := n1_; have BK147 := n2_; have HB := n3_; clear n0_ n1_ n2_ n3_; (try clear hb); (try clear hb2); (try clear hk); (try clear hi); (try clear ho0); (try clear ho1); obtain ⟨Ao53, co53, eo53⟩ := Kd.R_slice HO153.out; subst eo53; obtain ⟨Ao54, co54, eo54⟩ := Kd.R_slice HO156.out; subst eo54) | ((with_reducible refine gate_callee (f := 27) rfl ?_); refine goesL_ (some 26) rfl rfl Try.func27 (by kernel_rfl) rfl #[.agg #[.slice Ao53 t151.length co53, .slice Ao54 t154.length co54, .int .i64 t157, .int .i64 t158]] rfl (by (try simp only [List.map_toArray, List.map_cons, List.map_nil]); first | done | rfl | (simp only [List.length_drop, List.length_take]; rfl)) ?_; (with_reducible refine (steps_Of.calls kj1 _ _ t151 _ _ t154 t157 t158 t159 t162 _ ?side1 ?side2 ?side3 ?side4 A15.out).mono ?_); (case side1 => repeat (first | exact (Kd.R_reads' HO153.out).2.2 | (with_reducible refine Kd.C_alloc ?_ _) | (with_reducible refine Kd.C_drewN ?_ _) | (with_reducible refine Kd.C_drew ?_))); (case side2 => exact (Kd.R_reads' HO153.out).2.1); (case side3 => repeat (first | exact (Kd.R_reads' HO156.out).2.2 | (with_reducible refine Kd.C_alloc ?_ _) | (with_reducible refine Kd.C_drewN ?_ _) | (with_reducible refine Kd.C_drew ?_))); (case side4 => exact (Kd.R_reads' HO156.out).2.1); rintro e w55 ⟨v160, rfl, ho0, hb⟩; refine ⟨_, rfl, ?_⟩; have n0_ := Aside0.mk (Kd.R_below (by (with_reducible repeat (first | apply Kd.R_alloc | apply Kd.R_drewN | apply Kd.R_drew)); exact HO153.out) hb); have n1_ := Aside0.mk (Kd.R_below (by (with_reducible repeat (first | apply Kd.R_alloc | apply Kd.R_drewN | apply Kd.R_drew)); exact HO156.out) hb); have n2_ := Aside0.mk (Kd.R_lower ho0 (below_size (by repeat (first | (with_reducible first | exact HB.out | apply below_alloc | apply pw_below_drewN | apply below_drew1 | refine below_set ?_ GE147.out) | exact HB.out)))); have n3_ := Aside0.mk (blk_below (g := gb147) (o := .cells #[.slice A0_0 l0_0.length c0_0, .slice A0_1 l0_1.length c0_1, .int .i64 a0_2, .int .i64 a0_3] 50 (0, 0)) (by (with_reducible repeat (first | refine blk_drewN ?_ _ | refine blk_drew ?_ | refine blk_alloc ?_ _)); exact BK147.out) hb); have n4_ := Aside0.mk (below_step (by repeat (first | (with_reducible first | exact HB.out | apply below_alloc | apply pw_below_drewN | apply below_drew1 | refine below_set ?_ GE147.out) | exact HB.out)) hb); clear HO153; clear HO156; clear BK147; clear HB; have HO153 := n0_; have HO156 := n1_; have HO161 := n2_; have BK147 := n3_; have HB := n4_; clear n0_ n1_ n2_ n3_ n4_; (try clear hb); (try clear hb2); (try clear hk); (try clear hi); (try clear ho0); obtain ⟨Ao56, co56, eo56⟩ := Kd.R_slice HO161.out; subst eo56))
     go_ret
     exact ⟨by first | rfl | (simp [errW_none, errW_some] <;> rfl) | (simp [*, errW_none, errW_some] <;> rfl), by repeat (first | (with_reducible first | exact HB.out | apply below_alloc | apply pw_below_drewN | apply below_drew1 | refine below_set ?_ GE147.out) | exact HB.out)⟩

end Go.Proofs.Ytalhpnfapagamaa.S
