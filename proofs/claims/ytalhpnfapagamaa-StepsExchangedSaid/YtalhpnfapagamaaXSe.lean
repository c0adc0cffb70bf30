-- Written by this session's own programs; what the law does not lean on is left out. Lean checks it.
import Derived.Test.YtalhpnfapagamaaXS
import Derived.Test.YtalhpnfapagamaaXSx11
import Derived.Test.YtalhpnfapagamaaXSx12
import Derived.Test.YtalhpnfapagamaaXSx15
import Derived.Test.YtalhpnfapagamaaXN
import Derived.Test.YtalhpnfapagamaaXSx17
namespace Go.Proofs.Ytalhpnfapagamaa.S
open Go.RowKit Go.Proofs.YtalhpnfapagamaaW.PrintWords Go.Proofs.YtalhpnfapagamaaW.PrintLast Go.Proofs.YtalhpnfapagamaaW.PrintMore
set_option linter.unusedVariables false
set_option linter.unusedSimpArgs false

theorem wrap_ne (x : Int) : ¬ wrap64 (x + 1) = x := by unfold wrap64; omega
mutual
def culetlaw49_StepsExchanged.j0 : Nat → Int → Bool → List (S94) → List (S68) → Int → Int → Option (Bool)
 | 0, _, _, _, _, _, _ => none
 | k + 1, x1, x16, x148000, x148001, x148002, x148003 => if x16 = true then ((culetlaw49_awake.f k).bind fun t150 => (some t150)) else ((culetlaw49_Own.f k x148000 x148001 x148002 x148003).bind fun bt151 => ((steps_Of.f k bt151.1 bt151.2.1 bt151.2.2.1 bt151.2.2.2).bind fun bt159 => (if bt159.2 = 0 then (culetlaw49_StepsExchanged.j1 k x1 bt159.1 (decide ((bt159.1.length : Int) < 2)) x148000 x148001 x148002 x148003) else (culetlaw49_StepsExchanged.j1 k x1 bt159.1 true x148000 x148001 x148002 x148003))))
def culetlaw49_StepsExchanged.j1 : Nat → Int → List (S62) → Bool → List (S94) → List (S68) → Int → Int → Option (Bool)
 | 0, _, _, _, _, _, _, _ => none
 | k + 1, x1, x5, x30, x148000, x148001, x148002, x148003 => if x30 = true then (some true) else (if (wrap64 ((x5.length : Int) - 1)) = 0 then (none) else (if 0 ≤ (Int.tmod (wrap64 (x1)) (wrap64 ((x5.length : Int) - 1))) then (if (Int.tmod (wrap64 (x1)) (wrap64 ((x5.length : Int) - 1))) < (x5.length : Int) then (if ((rd_T62 x5 (Int.tmod (wrap64 (x1)) (wrap64 ((x5.length : Int) - 1)))).f0) = 3 then (if 0 ≤ (wrap64 ((Int.tmod (wrap64 (x1)) (wrap64 ((x5.length : Int) - 1))) + 1)) then (if (wrap64 ((Int.tmod (wrap64 (x1)) (wrap64 ((x5.length : Int) - 1))) + 1)) < (x5.length : Int) then (culetlaw49_StepsExchanged.j2 k x5 (Int.tmod (wrap64 (x1)) (wrap64 ((x5.length : Int) - 1))) (((rd_T62 x5 (wrap64 ((Int.tmod (wrap64 (x1)) (wrap64 ((x5.length : Int) - 1))) + 1))).f0) != 3) x148000 x148001 x148002 x148003) else (none)) else (none)) else (culetlaw49_StepsExchanged.j2 k x5 (Int.tmod (wrap64 (x1)) (wrap64 ((x5.length : Int) - 1))) true x148000 x148001 x148002 x148003)) else (none)) else (none)))
def culetlaw49_StepsExchanged.j2 : Nat → List (S62) → Int → Bool → List (S94) → List (S68) → Int → Int → Option (Bool)
 | 0, _, _, _, _, _, _, _ => none
 | k + 1, x5, x7, x51, x148000, x148001, x148002, x148003 => if x51 = true then (some true) else (if 0 ≤ (wrap64 (x7 + 1)) then (if (wrap64 (x7 + 1)) < (x5.length : Int) then (if 0 ≤ x7 then (if x7 < (x5.length : Int) then ((culetlaw49_Own.f k x148000 x148001 x148002 x148003).bind fun bt169 => ((steps_Check.f k bt169.1 bt169.2.1 bt169.2.2.1 bt169.2.2.2 ((x5.set (x7 : Int).toNat (⟨(rd_T62 x5 (wrap64 (x7 + 1))).f0, (rd_T62 x5 (wrap64 (x7 + 1))).f1, (rd_T62 x5 (wrap64 (x7 + 1))).f2⟩ : S62)).set ((wrap64 (x7 + 1)) : Int).toNat (⟨(rd_T62 x5 x7).f0, (rd_T62 x5 x7).f1, (rd_T62 x5 x7).f2⟩ : S62))).bind fun bt177 => (some (bt177.2 == 8)))) else (none)) else (none)) else (none)) else (none))
end
def culetlaw49_StepsExchanged.f (k : Nat) (l0_0 : List (S94)) (l0_1 : List (S68)) (a0_2 : Int) (a0_3 : Int) (a1 : Int) : Option (Bool) := (culetlaw49_awake.f k).bind fun t148 => (if t148 = true then ((culetref49_Few.f k l0_0 l0_1 a0_2 a0_3).bind fun t149 => (culetlaw49_StepsExchanged.j0 k a1 (!t149) l0_0 l0_1 a0_2 a0_3)) else (culetlaw49_StepsExchanged.j0 k a1 true l0_0 l0_1 a0_2 a0_3))
def culetlaw49_StepsExchanged.T9 : Bool × List (List Nat × List Nat) := (true, [([], []), ([], []), ([], []), ([], []), ([3], [3]), ([], []), ([], []), ([6], [6]), ([5, 7], [5, 7]), ([8], [8]), ([], []), ([], []), ([10, 11], [10, 11]), ([12], [12]), ([0, 1, 0, 1, 5, 6, 7, 8, 9, 13], [0, 1]), ([14, 9, 0, 1, 5, 6, 7, 8, 9, 13], [9, 14]), ([2, 4, 0, 1, 2, 3, 4, 5, 6, 7, 8, 9, 10, 11, 12, 13, 14, 15], [2, 4]), ([16, 13, 15, 0, 1, 2, 3, 4, 5, 6, 7, 8, 9, 10, 11, 12, 13, 14, 15], [13, 16])])
def culetlaw49_StepsExchanged.B9 : List Nat := [0, 0, 0, 0, 8, 0, 0, 64, 224, 480, 0, 0, 3072, 7168, 16355, 32739, 65535, 131071]
theorem culetlaw49_StepsExchanged.tab9 : rtab .any (opsOf Try.f7 9) = culetlaw49_StepsExchanged.T9 := by kernel_rfl
theorem culetlaw49_StepsExchanged.bits9 : waitsOk culetlaw49_StepsExchanged.T9.2 culetlaw49_StepsExchanged.B9 = true := by kernel_rfl
set_option maxHeartbeats 8000000 in
set_option maxRecDepth 100000 in
theorem culetlaw49_StepsExchanged.calls (k : Nat) (A0_0 : Option Addr) (c0_0 : Nat) (l0_0 : List (S94)) (A0_1 : Option Addr) (c0_1 : Nat) (l0_1 : List (S68)) (a0_2 : Int) (a0_3 : Int) (a1 : Int) (r : Bool) (w : World) (hr0_0 : Kd.C k94 w A0_0 l0_0.length l0_0) (hc0_0 : l0_0.length ≤ c0_0) (hr0_1 : Kd.C k68 w A0_1 l0_1.length l0_1) (hc0_1 : l0_1.length ≤ c0_1) (h : culetlaw49_StepsExchanged.f k l0_0 l0_1 a0_2 a0_3 a1 = some r) :
  Calls Try.prog 7 #[.agg #[.slice A0_0 l0_0.length c0_0, .slice A0_1 l0_1.length c0_1, .int .i64 a0_2, .int .i64 a0_3], .int .u16 a1] w fun e w' => e = .returned (.bool r) ∧ Below w.heap.size w w' := by
 have hu50 := Try.underlying50
 have hu62 := Try.underlying62
 have HR0_0 := Aside0.mk hr0_0
 have HC0_0 := Aside0.mk hc0_0
 clear hr0_0 hc0_0
 have HR0_1 := Aside0.mk hr0_1
 have HC0_1 := Aside0.mk hc0_1
 clear hr0_1 hc0_1
 have HB := Aside0.mk (Below.refl w.heap.size w)
 have H : ((culetlaw49_awake.f k).bind fun t148 => (if t148 = true then ((culetref49_Few.f k l0_0 l0_1 a0_2 a0_3).bind fun t149 => (culetlaw49_StepsExchanged.j0 k a1 (!t149) l0_0 l0_1 a0_2 a0_3)) else (culetlaw49_StepsExchanged.j0 k a1 true l0_0 l0_1 a0_2 a0_3))) = some r := h
 clear h
 have HC3 := Aside0.mk H
 clear H
 go_enter Try.func7, Try.ntmps7
 go_upto_region 1 with (first | ((with_reducible refine gate_dst (N := 2) rfl ?_); (try (refine gate_guard (by rfl) ?_; dsimp only)); refine box_event ?hg (N := 2) ?hd (cs := #[.slice A0_0 l0_0.length c0_0, .slice A0_1 l0_1.length c0_1, .int .i64 a0_2, .int .i64 a0_3]) (t := 50) ?hr ?_; (case hd => rfl); (case hg => rfl); (case hr => first | (go_simp; done) | (go_simp; rfl)); intro gb147 hg w4 hbox hb; have n0_ := Aside0.mk (below_step (by repeat (first | (with_reducible first | exact HB.out | apply below_alloc | apply pw_below_drewN | apply below_drew1) | exact HB.out)) hb); have n1_ := Aside0.mk (hbox); have n2_ := Aside0.mk ((by rw [hg]; exact (below_size (by repeat (first | (with_reducible first | exact HB.out | apply below_alloc | apply pw_below_drewN | apply below_drew1) | exact HB.out))) : w.heap.size ≤ gb147)); have n3_ := Aside0.mk ((by rw [hg]; exact (below_size (by repeat (first | (with_reducible first | exact HB.out | apply below_alloc | apply pw_below_drewN | apply below_drew1) | exact HB.out))) : w.heap.size ≤ gb147)); clear HB; have HB := n0_; have BK147 := n1_; have GW147 := n2_; have GE147 := n3_; clear n0_ n1_ n2_ n3_; clear hb hbox hg))
 (try simp only [Act.put, List.setIfInBounds_toArray, List.set_cons_zero, List.set_cons_succ])
 go_cut [16] (fun v16 wc => ∃ (kq : Nat) (x16_2 : Bool), v16 = .bool x16_2 ∧ Aside0 (culetlaw49_StepsExchanged.j0 kq a1 x16_2 l0_0 l0_1 a0_2 a0_3 = some r) ∧ Aside0 (kq ≤ k) ∧ Aside0 (wc.heap[gb147]? = some (.cells #[(.slice A0_0 l0_0.length c0_0), (.slice A0_1 l0_1.length c0_1), .int .i64 a0_2, .int .i64 a0_3] 50 (0, 0))) ∧ Aside0 (Below w.heap.size w wc))
 case first =>
  have H := HC3.out
  clear HC3
  replace H := Option.bind_eq_some_iff.mp H
  obtain ⟨t148, A50, H⟩ := H
  replace H : (if t148 = true then ((culetref49_Few.f k l0_0 l0_1 a0_2 a0_3).bind fun t149 => (culetlaw49_StepsExchanged.j0 k a1 (!t149) l0_0 l0_1 a0_2 a0_3)) else (culetlaw49_StepsExchanged.j0 k a1 true l0_0 l0_1 a0_2 a0_3)) = some r := H
  have A5 := Aside0.mk A50
  clear A50
  by_cases c6 : t148 = true
  ·
   subst c6
   have H1 : ((culetref49_Few.f k l0_0 l0_1 a0_2 a0_3).bind fun t149 => (culetlaw49_StepsExchanged.j0 k a1 (!t149) l0_0 l0_1 a0_2 a0_3)) = some r := by rw [if_pos rfl] at H; exact H
   clear H
   have H := H1
   clear H1
   replace H := Option.bind_eq_some_iff.mp H
   obtain ⟨t149, A70, H⟩ := H
   replace H : (culetlaw49_StepsExchanged.j0 k a1 (!t149) l0_0 l0_1 a0_2 a0_3) = some r := H
   have A7 := Aside0.mk A70
   clear A70
   have H' := Aside0.mk H
   clear H
   go_wp2_with (first | ((with_reducible refine gate_callee (f := 25) rfl ?_); refine goesL_ (some 10) rfl rfl Try.func25 (by kernel_rfl) rfl #[] rfl (by (try simp only [List.map_toArray, List.map_cons, List.map_nil]); first | done | rfl | (simp only [List.length_drop, List.length_take]; rfl)) ?_; (with_reducible refine (culetlaw49_awake.calls k  true _ A5.out).mono ?_); rintro e w8 ⟨rfl, hb⟩; refine ⟨_, rfl, ?_⟩; have n0_ := Aside0.mk (blk_below (g := gb147) (o := .cells #[.slice A0_0 l0_0.length c0_0, .slice A0_1 l0_1.length c0_1, .int .i64 a0_2, .int .i64 a0_3] 50 (0, 0)) (by (with_reducible repeat (first | refine blk_drewN ?_ _ | refine blk_drew ?_ | refine blk_alloc ?_ _)); exact BK147.out) hb); have n1_ := Aside0.mk (below_step (by repeat (first | (with_reducible first | exact HB.out | apply below_alloc | apply pw_below_drewN | apply below_drew1 | refine below_set ?_ GE147.out) | exact HB.out)) hb); clear BK147; clear HB; have BK147 := n0_; have HB := n1_; clear n0_ n1_; (try clear hb); (try clear hb2); (try clear hk); (try clear hi); have hcz9_0 : w8.cell? ⟨gb147, 0, none⟩ = some (.slice A0_0 l0_0.length c0_0) := (blk_cell BK147.out 0).trans rfl; have hcz9_1 : w8.cell? ⟨gb147, 1, none⟩ = some (.slice A0_1 l0_1.length c0_1) := (blk_cell BK147.out 1).trans rfl; have hcz9_2 : w8.cell? ⟨gb147, 2, none⟩ = some (.int .i64 a0_2) := (blk_cell BK147.out 2).trans rfl; have hcz9_3 : w8.cell? ⟨gb147, 3, none⟩ = some (.int .i64 a0_3) := (blk_cell BK147.out 3).trans rfl; have hfz9_0 := blk_frozen BK147.out 0; have hfz9_1 := blk_frozen BK147.out 1; have hfz9_2 := blk_frozen BK147.out 2; have hfz9_3 := blk_frozen BK147.out 3) | (go_at_call 26; (with_reducible refine (culetref49_Few.calls k _ _ l0_0 _ _ l0_1 a0_2 a0_3 t149 _ ?side1 ?side2 ?side3 ?side4 A7.out).mono ?_); (case side1 => repeat (first | exact (Kd.C_below HR0_0.out HB.out) | (with_reducible refine Kd.C_alloc ?_ _) | (with_reducible refine Kd.C_drewN ?_ _) | (with_reducible refine Kd.C_drew ?_))); (case side2 => exact HC0_0.out); (case side3 => repeat (first | exact (Kd.C_below HR0_1.out HB.out) | (with_reducible refine Kd.C_alloc ?_ _) | (with_reducible refine Kd.C_drewN ?_ _) | (with_reducible refine Kd.C_drew ?_))); (case side4 => exact HC0_1.out); rintro e w10 ⟨rfl, hb⟩; have n0_ := Aside0.mk (blk_below (g := gb147) (o := .cells #[.slice A0_0 l0_0.length c0_0, .slice A0_1 l0_1.length c0_1, .int .i64 a0_2, .int .i64 a0_3] 50 (0, 0)) (by (with_reducible repeat (first | refine blk_drewN ?_ _ | refine blk_drew ?_ | refine blk_alloc ?_ _)); exact BK147.out) hb); have n1_ := Aside0.mk (below_step (by repeat (first | (with_reducible first | exact HB.out | apply below_alloc | apply pw_below_drewN | apply below_drew1 | refine below_set ?_ GE147.out) | exact HB.out)) hb); clear BK147; clear HB; have BK147 := n0_; have HB := n1_; clear n0_ n1_; (try clear hb); (try clear hb2); (try clear hk); (try clear hi)))
   go_meet
   case rel => exact ⟨_, (!t149), (by first | rfl | (simp; done) | (simp [*]; done)), H', ⟨by first | omega | exact Nat.le_refl _⟩, ⟨by (with_reducible repeat (first | refine blk_drewN ?_ _ | refine blk_drew ?_ | refine blk_alloc ?_ _)); exact BK147.out⟩, ⟨by repeat (first | (with_reducible first | exact HB.out | apply below_alloc | apply pw_below_drewN | apply below_drew1 | refine below_set ?_ GE147.out) | exact HB.out)⟩⟩
  ·
   replace c6 := Bool.eq_false_iff.mpr c6
   subst c6
   have H1 : (culetlaw49_StepsExchanged.j0 k a1 true l0_0 l0_1 a0_2 a0_3) = some r := by rw [if_neg (show ¬ (false = true) by decide)] at H; exact H
   clear H
   have H := H1
   clear H1
   have H' := Aside0.mk H
   clear H
   go_wp2_with (first | ((with_reducible refine gate_callee (f := 25) rfl ?_); refine goesL_ (some 10) rfl rfl Try.func25 (by kernel_rfl) rfl #[] rfl (by (try simp only [List.map_toArray, List.map_cons, List.map_nil]); first | done | rfl | (simp only [List.length_drop, List.length_take]; rfl)) ?_; (with_reducible refine (culetlaw49_awake.calls k  false _ A5.out).mono ?_); rintro e w11 ⟨rfl, hb⟩; refine ⟨_, rfl, ?_⟩; have n0_ := Aside0.mk (blk_below (g := gb147) (o := .cells #[.slice A0_0 l0_0.length c0_0, .slice A0_1 l0_1.length c0_1, .int .i64 a0_2, .int .i64 a0_3] 50 (0, 0)) (by (with_reducible repeat (first | refine blk_drewN ?_ _ | refine blk_drew ?_ | refine blk_alloc ?_ _)); exact BK147.out) hb); have n1_ := Aside0.mk (below_step (by repeat (first | (with_reducible first | exact HB.out | apply below_alloc | apply pw_below_drewN | apply below_drew1 | refine below_set ?_ GE147.out) | exact HB.out)) hb); clear BK147; clear HB; have BK147 := n0_; have HB := n1_; clear n0_ n1_; (try clear hb); (try clear hb2); (try clear hk); (try clear hi)))
   go_meet
   case rel => exact ⟨_, (true), (by first | rfl | (simp; done) | (simp [*]; done)), H', ⟨by first | omega | exact Nat.le_refl _⟩, ⟨by (with_reducible repeat (first | refine blk_drewN ?_ _ | refine blk_drew ?_ | refine blk_alloc ?_ _)); exact BK147.out⟩, ⟨by repeat (first | (with_reducible first | exact HB.out | apply below_alloc | apply pw_below_drewN | apply below_drew1 | refine below_set ?_ GE147.out) | exact HB.out)⟩⟩
 case rest =>
  clear HC3
  try clear c2
  try clear p2
  try clear c6
  try clear c7
  try clear hcz9_0
  try clear hcz9_1
  try clear hcz9_2
  try clear hcz9_3
  try clear hfz9_0
  try clear hfz9_1
  try clear hfz9_2
  try clear hfz9_3
  obtain ⟨kq, x16_2, rfl, HA, HJ2, BK147, HB⟩ := hcut
  cases kq with
  | zero => exact absurd HA.out (by simp [culetlaw49_StepsExchanged.j0])
  | succ kj2 =>
   have H := HA.out
   clear HA
   simp only [culetlaw49_StepsExchanged.j0] at H
   by_cases c12 : x16_2 = true
   ·
    subst c12
    have H1 : ((culetlaw49_awake.f kj2).bind fun t150 => (some t150)) = some r := by rw [if_pos rfl] at H; exact H
    clear H
    have H := H1
    clear H1
    replace H := Option.bind_eq_some_iff.mp H
    obtain ⟨t150, A130, H⟩ := H
    replace H : (some t150) = some r := H
    have A13 := Aside0.mk A130
    clear A130
    obtain rfl := Option.some.inj H
    go_wp2_with (first | ((with_reducible refine gate_callee (f := 25) rfl ?_); refine goesL_ (some 17) rfl rfl Try.func25 (by kernel_rfl) rfl #[] rfl (by (try simp only [List.map_toArray, List.map_cons, List.map_nil]); first | done | rfl | (simp only [List.length_drop, List.length_take]; rfl)) ?_; (with_reducible refine (culetlaw49_awake.calls kj2  t150 _ A13.out).mono ?_); rintro e w14 ⟨rfl, hb⟩; refine ⟨_, rfl, ?_⟩; have n0_ := Aside0.mk (blk_below (g := gb147) (o := .cells #[.slice A0_0 l0_0.length c0_0, .slice A0_1 l0_1.length c0_1, .int .i64 a0_2, .int .i64 a0_3] 50 (0, 0)) (by (with_reducible repeat (first | refine blk_drewN ?_ _ | refine blk_drew ?_ | refine blk_alloc ?_ _)); exact BK147.out) hb); have n1_ := Aside0.mk (below_step (by repeat (first | (with_reducible first | exact HB.out | apply below_alloc | apply pw_below_drewN | apply below_drew1 | refine below_set ?_ GE147.out) | exact HB.out)) hb); clear BK147; clear HB; have BK147 := n0_; have HB := n1_; clear n0_ n1_; (try clear hb); (try clear hb2); (try clear hk); (try clear hi)))
    go_ret
    exact ⟨by first | rfl | (simp [errW_none, errW_some] <;> rfl) | (simp [*, errW_none, errW_some] <;> rfl), by repeat (first | (with_reducible first | exact HB.out | apply below_alloc | apply pw_below_drewN | apply below_drew1 | refine below_set ?_ GE147.out) | exact HB.out)⟩
   ·
    replace c12 := Bool.eq_false_iff.mpr c12
    subst c12
    have H1 : ((culetlaw49_Own.f kj2 l0_0 l0_1 a0_2 a0_3).bind fun bt151 => ((steps_Of.f kj2 bt151.1 bt151.2.1 bt151.2.2.1 bt151.2.2.2).bind fun bt159 => (if bt159.2 = 0 then (culetlaw49_StepsExchanged.j1 kj2 a1 bt159.1 (decide ((bt159.1.length : Int) < 2)) l0_0 l0_1 a0_2 a0_3) else (culetlaw49_StepsExchanged.j1 kj2 a1 bt159.1 true l0_0 l0_1 a0_2 a0_3)))) = some r := by rw [if_neg (show ¬ (false = true) by decide)] at H; exact H
    clear H
    have H := H1
    clear H1
    replace H := Option.bind_eq_some_iff.mp H
    obtain ⟨⟨t151, t154, t157, t158⟩, A150, H⟩ := H
    replace H : ((steps_Of.f kj2 t151 t154 t157 t158).bind fun bt159 => (if bt159.2 = 0 then (culetlaw49_StepsExchanged.j1 kj2 a1 bt159.1 (decide ((bt159.1.length : Int) < 2)) l0_0 l0_1 a0_2 a0_3) else (culetlaw49_StepsExchanged.j1 kj2 a1 bt159.1 true l0_0 l0_1 a0_2 a0_3))) = some r := H
    have A15 := Aside0.mk A150
    clear A150
    replace H := Option.bind_eq_some_iff.mp H
    obtain ⟨⟨t159, t162⟩, A160, H⟩ := H
    replace H : (if t162 = 0 then (culetlaw49_StepsExchanged.j1 kj2 a1 t159 (decide ((t159.length : Int) < 2)) l0_0 l0_1 a0_2 a0_3) else (culetlaw49_StepsExchanged.j1 kj2 a1 t159 true l0_0 l0_1 a0_2 a0_3)) = some r := H
    have A16 := Aside0.mk A160
    clear A160
    have HC17 := Aside0.mk H
    clear H
    have hcz18_0 : wc.cell? ⟨gb147, 0, none⟩ = some (.slice A0_0 l0_0.length c0_0) := (blk_cell BK147.out 0).trans rfl
    have hcz18_1 : wc.cell? ⟨gb147, 1, none⟩ = some (.slice A0_1 l0_1.length c0_1) := (blk_cell BK147.out 1).trans rfl
    have hcz18_2 : wc.cell? ⟨gb147, 2, none⟩ = some (.int .i64 a0_2) := (blk_cell BK147.out 2).trans rfl
    have hcz18_3 : wc.cell? ⟨gb147, 3, none⟩ = some (.int .i64 a0_3) := (blk_cell BK147.out 3).trans rfl
    have hfz18_0 := blk_frozen BK147.out 0
    have hfz18_1 := blk_frozen BK147.out 1
    have hfz18_2 := blk_frozen BK147.out 2
    have hfz18_3 := blk_frozen BK147.out 3
    go_upto_region 4 with (first | ((with_reducible refine gate_callee (f := 28) rfl ?_); refine goesL_ (some 20) rfl rfl Try.func28 (by kernel_rfl) rfl #[.agg #[.slice A0_0 l0_0.length c0_0, .slice A0_1 l0_1.length c0_1, .int .i64 a0_2, .int .i64 a0_3]] rfl (by (try simp only [List.map_toArray, List.map_cons, List.map_nil]); first | done | rfl | (simp only [List.length_drop, List.length_take]; rfl)) ?_; (with_reducible refine (culetlaw49_Own.calls kj2 _ _ l0_0 _ _ l0_1 a0_2 a0_3 t151 t154 t157 t158 _ ?side1 ?side2 ?side3 ?side4 A15.out).mono ?_); (case side1 => repeat (first | exact (Kd.C_below HR0_0.out HB.out) | (with_reducible refine Kd.C_alloc ?_ _) | (with_reducible refine Kd.C_drewN ?_ _) | (with_reducible refine Kd.C_drew ?_))); (case side2 => exact HC0_0.out); (case side3 => repeat (first | exact (Kd.C_below HR0_1.out HB.out) | (with_reducible refine Kd.C_alloc ?_ _) | (with_reducible refine Kd.C_drewN ?_ _) | (with_reducible refine Kd.C_drew ?_))); (case side4 => exact HC0_1.out); rintro e w19 ⟨v152, v155, rfl, ho0, ho1, hb⟩; refine ⟨_, rfl, ?_⟩; have n0_ := Aside0.mk (Kd.R_lower ho0 (below_size (by repeat (first | (with_reducible first | exact HB.out | apply below_alloc | apply pw_below_drewN | apply below_drew1 | refine below_set ?_ GE147.out) | exact HB.out)))); have n1_ := Aside0.mk (Kd.R_lower ho1 (below_size (by repeat (first | (with_reducible first | exact HB.out | apply below_alloc | apply pw_below_drewN | apply below_drew1 | refine below_set ?_ GE147.out) | exact HB.out)))); have n2_ := Aside0.mk (blk_below (g := gb147) (o := .cells #[.slice A0_0 l0_0.length c0_0, .slice A0_1 l0_1.length c0_1, .int .i64 a0_2, .int .i64 a0_3] 50 (0, 0)) (by (with_reducible repeat (first | refine blk_drewN ?_ _ | refine blk_drew ?_ | refine blk_alloc ?_ _)); exact BK147.out) hb); have n3_ := Aside0.mk (below_step (by repeat (first | (with_reducible first | exact HB.out | apply below_alloc | apply pw_below_drewN | apply below_drew1 | refine below_set ?_ GE147.out) | exact HB.out)) hb); clear BK147; clear HB; have HO153 := n0_; have HO156 := n1_; have BK147 := n2_; have HB := n3_; clear n0_ n1_ n2_ n3_; (try clear hb); (try clear hb2); (try clear hk); (try clear hi); (try clear ho0); (try clear ho1); obtain ⟨Ao20, co20, eo20⟩ := Kd.R_slice HO153.out; subst eo20; obtain ⟨Ao21, co21, eo21⟩ := Kd.R_slice HO156.out; subst eo21) | ((with_reducible refine gate_callee (f := 27) rfl ?_); refine goesL_ (some 21) rfl rfl Try.func27 (by kernel_rfl) rfl #[.agg #[.slice Ao20 t151.length co20, .slice Ao21 t154.length co21, .int .i64 t157, .int .i64 t158]] rfl (by (try simp only [List.map_toArray, List.map_cons, List.map_nil]); first | done | rfl | (simp only [List.length_drop, List.length_take]; rfl)) ?_; (with_reducible refine (steps_Of.calls kj2 _ _ t151 _ _ t154 t157 t158 t159 t162 _ ?side1 ?side2 ?side3 ?side4 A16.out).mono ?_); (case side1 => repeat (first | exact (Kd.R_reads' HO153.out).2.2 | (with_reducible refine Kd.C_alloc ?_ _) | (with_reducible refine Kd.C_drewN ?_ _) | (with_reducible refine Kd.C_drew ?_))); (case side2 => exact (Kd.R_reads' HO153.out).2.1); (case side3 => repeat (first | exact (Kd.R_reads' HO156.out).2.2 | (with_reducible refine Kd.C_alloc ?_ _) | (with_reducible refine Kd.C_drewN ?_ _) | (with_reducible refine Kd.C_drew ?_))); (case side4 => exact (Kd.R_reads' HO156.out).2.1); rintro e w22 ⟨v160, rfl, ho0, hb⟩; refine ⟨_, rfl, ?_⟩; have n0_ := Aside0.mk (Kd.R_below (by (with_reducible repeat (first | apply Kd.R_alloc | apply Kd.R_drewN | apply Kd.R_drew)); exact HO153.out) hb); have n1_ := Aside0.mk (Kd.R_below (by (with_reducible repeat (first | apply Kd.R_alloc | apply Kd.R_drewN | apply Kd.R_drew)); exact HO156.out) hb); have n2_ := Aside0.mk (Kd.R_lower ho0 (below_size (by repeat (first | (with_reducible first | exact HB.out | apply below_alloc | apply pw_below_drewN | apply below_drew1 | refine below_set ?_ GE147.out) | exact HB.out)))); have n3_ := Aside0.mk (blk_below (g := gb147) (o := .cells #[.slice A0_0 l0_0.length c0_0, .slice A0_1 l0_1.length c0_1, .int .i64 a0_2, .int .i64 a0_3] 50 (0, 0)) (by (with_reducible repeat (first | refine blk_drewN ?_ _ | refine blk_drew ?_ | refine blk_alloc ?_ _)); exact BK147.out) hb); have n4_ := Aside0.mk (below_step (by repeat (first | (with_reducible first | exact HB.out | apply below_alloc | apply pw_below_drewN | apply below_drew1 | refine below_set ?_ GE147.out) | exact HB.out)) hb); clear HO153; clear HO156; clear BK147; clear HB; have HO153 := n0_; have HO156 := n1_; have HO161 := n2_; have BK147 := n3_; have HB := n4_; clear n0_ n1_ n2_ n3_ n4_; (try clear hb); (try clear hb2); (try clear hk); (try clear hi); (try clear ho0)))
    (try simp only [Act.put, List.setIfInBounds_toArray, List.set_cons_zero, List.set_cons_succ])
    go_cut [30] (fun v30 wc => ∃ (kq : Nat) (x30_16 : Bool), v30 = .bool x30_16 ∧ Aside0 (culetlaw49_StepsExchanged.j1 kq a1 t159 x30_16 l0_0 l0_1 a0_2 a0_3 = some r) ∧ Aside0 (kq ≤ kj2) ∧ Aside0 (Kd.R k62 62 wc w.heap.size (fun _ => True) v160 t159) ∧ Aside0 (wc.heap[gb147]? = some (.cells #[(.slice A0_0 l0_0.length c0_0), (.slice A0_1 l0_1.length c0_1), .int .i64 a0_2, .int .i64 a0_3] 50 (0, 0))) ∧ Aside0 (Below w.heap.size w wc))
    case first =>
     have H := HC17.out
     clear HC17
     by_cases c23 : t162 = 0
     ·
      rw [if_pos c23] at H
      have c23b0 : (t162 == 0) = true := beq_iff_eq.mpr c23
      have c23b1 : (t162 != 0) = false := bne_eq_false_iff_eq.mpr c23
      clear c23
      (first | rw [c23b0] | (simp only [i64_w, i32_w]; rw [c23b0]) | skip)
      have H' := Aside0.mk H
      clear H
      obtain ⟨Ao24, co24, eo24⟩ := Kd.R_slice HO161.out
      subst eo24
      go_wp2
      go_meet
      case rel => exact ⟨_, (decide ((t159.length : Int) < 2)), (by first | rfl | (simp; done) | (simp [*]; done)), H', ⟨by have := HJ2.out; first | omega | exact Nat.le_refl _⟩, ⟨by (with_reducible repeat (first | apply Kd.R_alloc | apply Kd.R_drewN | apply Kd.R_drew)); exact HO161.out⟩, ⟨by (with_reducible repeat (first | refine blk_drewN ?_ _ | refine blk_drew ?_ | refine blk_alloc ?_ _)); exact BK147.out⟩, ⟨by repeat (first | (with_reducible first | exact HB.out | apply below_alloc | apply pw_below_drewN | apply below_drew1 | refine below_set ?_ GE147.out) | exact HB.out)⟩⟩
     ·
      rw [if_neg c23] at H
      have c23b0 : (t162 == 0) = false := beq_eq_false_iff_ne.mpr c23
      have c23b1 : (t162 != 0) = true := bne_iff_ne.mpr c23
      (first | rw [c23b0] | (simp only [i64_w, i32_w]; rw [c23b0]) | skip)
      have H' := Aside0.mk H
      clear H
      go_wp2
      go_meet
      case rel => exact ⟨_, (true), (by first | rfl | (simp; done) | (simp [*]; done)), H', ⟨by have := HJ2.out; first | omega | exact Nat.le_refl _⟩, ⟨by (with_reducible repeat (first | apply Kd.R_alloc | apply Kd.R_drewN | apply Kd.R_drew)); exact HO161.out⟩, ⟨by (with_reducible repeat (first | refine blk_drewN ?_ _ | refine blk_drew ?_ | refine blk_alloc ?_ _)); exact BK147.out⟩, ⟨by repeat (first | (with_reducible first | exact HB.out | apply below_alloc | apply pw_below_drewN | apply below_drew1 | refine below_set ?_ GE147.out) | exact HB.out)⟩⟩
    case rest =>
     clear HC17
     try clear c1
     try clear c2
     try clear p2
     try clear c6
     try clear c7
     try clear c12
     try clear c23
     try clear c23b0
     try clear c23b1
     try clear hcz18_0
     try clear hcz18_1
     try clear hcz18_2
     try clear hcz18_3
     try clear hcz9_0
     try clear hcz9_1
     try clear hcz9_2
     try clear hcz9_3
     try clear hfz18_0
     try clear hfz18_1
     try clear hfz18_2
     try clear hfz18_3
     try clear hfz9_0
     try clear hfz9_1
     try clear hfz9_2
     try clear hfz9_3
     try clear p2
     obtain ⟨kq, x30_16, rfl, HA, HJ16, HO_5, BK147, HB⟩ := hcut
     cases kq with
     | zero => exact absurd HA.out (by simp [culetlaw49_StepsExchanged.j1])
     | succ kj16 =>
      have H := HA.out
      clear HA
      simp only [culetlaw49_StepsExchanged.j1] at H
      by_cases c25 : x30_16 = true
      ·
       subst c25
       have H1 : (some true) = some r := by rw [if_pos rfl] at H; exact H
       clear H
       have H := H1
       clear H1
       obtain rfl := Option.some.inj H
       go_wp2
       go_ret
       exact ⟨by first | rfl | (simp [errW_none, errW_some] <;> rfl) | (simp [*, errW_none, errW_some] <;> rfl), by repeat (first | (with_reducible first | exact HB.out | apply below_alloc | apply pw_below_drewN | apply below_drew1 | refine below_set ?_ GE147.out) | exact HB.out)⟩
      ·
       replace c25 := Bool.eq_false_iff.mpr c25
       subst c25
       have H1 : (if (wrap64 ((t159.length : Int) - 1)) = 0 then (none) else (if 0 ≤ (Int.tmod (wrap64 (a1)) (wrap64 ((t159.length : Int) - 1))) then (if (Int.tmod (wrap64 (a1)) (wrap64 ((t159.length : Int) - 1))) < (t159.length : Int) then (if ((rd_T62 t159 (Int.tmod (wrap64 (a1)) (wrap64 ((t159.length : Int) - 1)))).f0) = 3 then (if 0 ≤ (wrap64 ((Int.tmod (wrap64 (a1)) (wrap64 ((t159.length : Int) - 1))) + 1)) then (if (wrap64 ((Int.tmod (wrap64 (a1)) (wrap64 ((t159.length : Int) - 1))) + 1)) < (t159.length : Int) then (culetlaw49_StepsExchanged.j2 kj16 t159 (Int.tmod (wrap64 (a1)) (wrap64 ((t159.length : Int) - 1))) (((rd_T62 t159 (wrap64 ((Int.tmod (wrap64 (a1)) (wrap64 ((t159.length : Int) - 1))) + 1))).f0) != 3) l0_0 l0_1 a0_2 a0_3) else (none)) else (none)) else (culetlaw49_StepsExchanged.j2 kj16 t159 (Int.tmod (wrap64 (a1)) (wrap64 ((t159.length : Int) - 1))) true l0_0 l0_1 a0_2 a0_3)) else (none)) else (none))) = some r := by rw [if_neg (show ¬ (false = true) by decide)] at H; exact H
       clear H
       have H := H1
       clear H1
       by_cases c26 : (wrap64 ((t159.length : Int) - 1)) = 0
       ·
        rw [if_pos c26] at H
        exact absurd H (by simp)
       ·
        rw [if_neg c26] at H
        have c26b0 : ((wrap64 ((t159.length : Int) - 1)) == 0) = false := beq_eq_false_iff_ne.mpr c26
        have c26b1 : ((wrap64 ((t159.length : Int) - 1)) != 0) = true := bne_iff_ne.mpr c26
        have HC27 := Aside0.mk H
        clear H
        obtain ⟨Ao28, co28, eo28⟩ := Kd.R_slice HO_5.out
        subst eo28
        go_upto_region 7 with (fail)
        generalize hji29 : Int.tmod (wrap64 a1) (wrap64 ((t159.length : Int) - 1)) = ji29 at *
        go_cut [51] (fun v51 wc => ∃ (kq : Nat) (x51_26 : Bool), v51 = .bool x51_26 ∧ Aside0 (culetlaw49_StepsExchanged.j2 kq t159 ji29 x51_26 l0_0 l0_1 a0_2 a0_3 = some r) ∧ Aside0 (kq ≤ kj16) ∧ Aside0 (Kd.R k62 62 wc w.heap.size (fun _ => True) (.slice Ao28 t159.length co28) t159) ∧ Aside0 (wc.heap[gb147]? = some (.cells #[(.slice A0_0 l0_0.length c0_0), (.slice A0_1 l0_1.length c0_1), .int .i64 a0_2, .int .i64 a0_3] 50 (0, 0))) ∧ Aside0 (Below w.heap.size w wc))
        case first =>
         have H := HC27.out
         clear HC27
         replace H : (if 0 ≤ (ji29) then (if (ji29) < (t159.length : Int) then (if ((rd_T62 t159 (ji29)).f0) = 3 then (if 0 ≤ (wrap64 ((ji29) + 1)) then (if (wrap64 ((ji29) + 1)) < (t159.length : Int) then (culetlaw49_StepsExchanged.j2 kj16 t159 ji29 (((rd_T62 t159 (wrap64 ((ji29) + 1))).f0) != 3) l0_0 l0_1 a0_2 a0_3) else (none)) else (none)) else (culetlaw49_StepsExchanged.j2 kj16 t159 ji29 true l0_0 l0_1 a0_2 a0_3)) else (none)) else (none)) = some r := by first | exact H | (rw [hji29] at H; exact H) | (simp only [hji29] at H ⊢; exact H)
         by_cases c30 : 0 ≤ (ji29)
         ·
          rw [if_pos c30] at H
          have c30b0 : decide (0 ≤ (ji29)) = true := decide_eq_true c30
          clear c30
          (first | rw [c30b0] | (simp only [i64_w, i32_w]; rw [c30b0]) | skip)
          by_cases c31 : (ji29) < (t159.length : Int)
          ·
           rw [if_pos c31] at H
           have c31b0 : decide ((ji29) < (t159.length : Int)) = true := decide_eq_true c31
           clear c31
           by_cases c32 : ((rd_T62 t159 (ji29)).f0) = 3
           ·
            rw [if_pos c32] at H
            have c32b0 : (((rd_T62 t159 (ji29)).f0) == 3) = true := beq_iff_eq.mpr c32
            have c32b1 : (((rd_T62 t159 (ji29)).f0) != 3) = false := bne_eq_false_iff_eq.mpr c32
            clear c32
            obtain ⟨ji33, hji33⟩ : ∃ j_ : Int, (wrap64 ((ji29) + 1)) = j_ := ⟨_, rfl⟩
            replace H : (if 0 ≤ (ji33) then (if (ji33) < (t159.length : Int) then (culetlaw49_StepsExchanged.j2 kj16 t159 ji29 (((rd_T62 t159 (ji33)).f0) != 3) l0_0 l0_1 a0_2 a0_3) else (none)) else (none)) = some r := by first | (rw [hji33] at H; exact H) | (simp only [hji33] at H ⊢; exact H)
            have hji33w : (IntKind.i64.wrap ((ji29) + 1)) = ji33 := (i64_w _).trans hji33
            by_cases c34 : 0 ≤ (ji33)
            ·
             rw [if_pos c34] at H
             have c34b0 : decide (0 ≤ (ji33)) = true := decide_eq_true c34
             clear c34
             by_cases c35 : (ji33) < (t159.length : Int)
             ·
              rw [if_pos c35] at H
              have c35b0 : decide ((ji33) < (t159.length : Int)) = true := decide_eq_true c35
              clear c35
              have H' := Aside0.mk H
              clear H
              have p163 : 0 ≤ ((ji29) : Int) := of_decide_eq_true (by first | (with_reducible assumption) | assumption)
              have q163 : (ji29) < (t159.length : Int) := of_decide_eq_true (by first | (with_reducible assumption) | assumption)
              obtain ⟨ad163, e163, hx163_0, hx163_1, hx163_2⟩ := at_T62 (Kd.R_reads' HO_5.out).2.2 (ji29) p163 q163
              cases e163
              replace p163 := eq_true p163
              replace q163 := eq_true q163
              have p164 : 0 ≤ ((ji33) : Int) := of_decide_eq_true (by first | (with_reducible assumption) | assumption)
              have q164 : (ji33) < (t159.length : Int) := of_decide_eq_true (by first | (with_reducible assumption) | assumption)
              obtain ⟨ad164, e164, hx164_0, hx164_1, hx164_2⟩ := at_T62 (Kd.R_reads' HO_5.out).2.2 (ji33) p164 q164
              obtain rfl : ad163 = ad164 := (by injection e164)
              replace p164 := eq_true p164
              replace q164 := eq_true q164
              go_wp2
              go_meet
              case rel => exact ⟨_, ((((rd_T62 t159 (ji33)).f0) != 3)), (by first | rfl | (simp; done) | (simp only [← hji33] <;> (first | rfl | simp)) | (simp [*]; done)), H', ⟨by have := HJ2.out; have := HJ16.out; first | omega | exact Nat.le_refl _⟩, ⟨by (with_reducible repeat (first | apply Kd.R_alloc | apply Kd.R_drewN | apply Kd.R_drew)); exact HO_5.out⟩, ⟨by (with_reducible repeat (first | refine blk_drewN ?_ _ | refine blk_drew ?_ | refine blk_alloc ?_ _)); exact BK147.out⟩, ⟨by repeat (first | (with_reducible first | exact HB.out | apply below_alloc | apply pw_below_drewN | apply below_drew1 | refine below_set ?_ GE147.out) | exact HB.out)⟩⟩
             ·
              rw [if_neg c35] at H
              exact absurd H (by simp)
            ·
             rw [if_neg c34] at H
             exact absurd H (by simp)
           ·
            rw [if_neg c32] at H
            have c32b0 : (((rd_T62 t159 (ji29)).f0) == 3) = false := beq_eq_false_iff_ne.mpr c32
            have c32b1 : (((rd_T62 t159 (ji29)).f0) != 3) = true := bne_iff_ne.mpr c32
            have H' := Aside0.mk H
            clear H
            have p163 : 0 ≤ ((ji29) : Int) := of_decide_eq_true (by first | (with_reducible assumption) | assumption)
            have q163 : (ji29) < (t159.length : Int) := of_decide_eq_true (by first | (with_reducible assumption) | assumption)
            obtain ⟨ad163, e163, hx163_0, hx163_1, hx163_2⟩ := at_T62 (Kd.R_reads' HO_5.out).2.2 (ji29) p163 q163
            cases e163
            replace p163 := eq_true p163
            replace q163 := eq_true q163
            go_wp2
            go_meet
            case rel => exact ⟨_, (true), (by first | rfl | (simp; done) | (simp [*]; done)), H', ⟨by have := HJ2.out; have := HJ16.out; first | omega | exact Nat.le_refl _⟩, ⟨by (with_reducible repeat (first | apply Kd.R_alloc | apply Kd.R_drewN | apply Kd.R_drew)); exact HO_5.out⟩, ⟨by (with_reducible repeat (first | refine blk_drewN ?_ _ | refine blk_drew ?_ | refine blk_alloc ?_ _)); exact BK147.out⟩, ⟨by repeat (first | (with_reducible first | exact HB.out | apply below_alloc | apply pw_below_drewN | apply below_drew1 | refine below_set ?_ GE147.out) | exact HB.out)⟩⟩
          ·
           rw [if_neg c31] at H
           exact absurd H (by simp)
         ·
          rw [if_neg c30] at H
          exact absurd H (by simp)
        case rest =>
         clear HC27
         try clear c1
         try clear p1
         try clear q1
         try clear hx1
         try clear c2
         try clear p2
         try clear c3
         try clear c6
         try clear p6
         try clear c7
         try clear c12
         try clear p16
         try clear q16
         try clear hx16
         try clear c23
         try clear c23b0
         try clear c23b1
         try clear c25
         try clear c26
         try clear c26b0
         try clear c26b1
         try clear c27
         try clear c28
         try clear c30
         try clear c30b0
         try clear c31
         try clear c31b0
         try clear c32
         try clear c32b0
         try clear c32b1
         try clear c34
         try clear c34b0
         try clear c35
         try clear c35b0
         try clear hcz18_0
         try clear hcz18_1
         try clear hcz18_2
         try clear hcz18_3
         try clear hcz9_0
         try clear hcz9_1
         try clear hcz9_2
         try clear hcz9_3
         try clear hfz18_0
         try clear hfz18_1
         try clear hfz18_2
         try clear hfz18_3
         try clear hfz9_0
         try clear hfz9_1
         try clear hfz9_2
         try clear hfz9_3
         try clear hx163_0
         try clear hx163_1
         try clear hx163_2
         try clear hx164_0
         try clear hx164_1
         try clear hx164_2
         try clear p163
         try clear p164
         try clear p2
         try clear q163
         try clear q164
         obtain ⟨kq, x51_26, rfl, HA, HJ26, HO_5, BK147, HB⟩ := hcut
         cases kq with
         | zero => exact absurd HA.out (by simp [culetlaw49_StepsExchanged.j2])
         | succ kj26 =>
          have H := HA.out
          clear HA
          simp only [culetlaw49_StepsExchanged.j2] at H
          by_cases c36 : x51_26 = true
          ·
           subst c36
           have H1 : (some true) = some r := by rw [if_pos rfl] at H; exact H
           clear H
           have H := H1
           clear H1
           obtain rfl := Option.some.inj H
           go_wp2
           go_ret
           exact ⟨by first | rfl | (simp [errW_none, errW_some] <;> rfl) | (simp [*, errW_none, errW_some] <;> rfl), by repeat (first | (with_reducible first | exact HB.out | apply below_alloc | apply pw_below_drewN | apply below_drew1 | refine below_set ?_ GE147.out) | exact HB.out)⟩
          ·
           replace c36 := Bool.eq_false_iff.mpr c36
           subst c36
           have H1 : (if 0 ≤ (wrap64 (ji29 + 1)) then (if (wrap64 (ji29 + 1)) < (t159.length : Int) then (if 0 ≤ ji29 then (if ji29 < (t159.length : Int) then ((culetlaw49_Own.f kj26 l0_0 l0_1 a0_2 a0_3).bind fun bt169 => ((steps_Check.f kj26 bt169.1 bt169.2.1 bt169.2.2.1 bt169.2.2.2 ((t159.set (ji29 : Int).toNat (⟨(rd_T62 t159 (wrap64 (ji29 + 1))).f0, (rd_T62 t159 (wrap64 (ji29 + 1))).f1, (rd_T62 t159 (wrap64 (ji29 + 1))).f2⟩ : S62)).set ((wrap64 (ji29 + 1)) : Int).toNat (⟨(rd_T62 t159 ji29).f0, (rd_T62 t159 ji29).f1, (rd_T62 t159 ji29).f2⟩ : S62))).bind fun bt177 => (some (bt177.2 == 8)))) else (none)) else (none)) else (none)) else (none)) = some r := by rw [if_neg (show ¬ (false = true) by decide)] at H; exact H
           clear H
           have H := H1
           clear H1
           obtain ⟨ji37, hji37⟩ : ∃ j_ : Int, (wrap64 (ji29 + 1)) = j_ := ⟨_, rfl⟩
           replace H : (if 0 ≤ (ji37) then (if (ji37) < (t159.length : Int) then (if 0 ≤ ji29 then (if ji29 < (t159.length : Int) then ((culetlaw49_Own.f kj26 l0_0 l0_1 a0_2 a0_3).bind fun bt169 => ((steps_Check.f kj26 bt169.1 bt169.2.1 bt169.2.2.1 bt169.2.2.2 ((t159.set (ji29 : Int).toNat (⟨(rd_T62 t159 (ji37)).f0, (rd_T62 t159 (ji37)).f1, (rd_T62 t159 (ji37)).f2⟩ : S62)).set ((ji37) : Int).toNat (⟨(rd_T62 t159 ji29).f0, (rd_T62 t159 ji29).f1, (rd_T62 t159 ji29).f2⟩ : S62))).bind fun bt177 => (some (bt177.2 == 8)))) else (none)) else (none)) else (none)) else (none)) = some r := by first | (rw [hji37] at H; exact H) | (simp only [hji37] at H ⊢; exact H)
           have hji37w : (IntKind.i64.wrap (ji29 + 1)) = ji37 := (i64_w _).trans hji37
           by_cases c38 : 0 ≤ (ji37)
           ·
            rw [if_pos c38] at H
            have c38b0 : decide (0 ≤ (ji37)) = true := decide_eq_true c38
            clear c38
            by_cases c39 : (ji37) < (t159.length : Int)
            ·
             rw [if_pos c39] at H
             have c39b0 : decide ((ji37) < (t159.length : Int)) = true := decide_eq_true c39
             clear c39
             replace H : (if 0 ≤ (ji29) then (if (ji29) < (t159.length : Int) then ((culetlaw49_Own.f kj26 l0_0 l0_1 a0_2 a0_3).bind fun bt169 => ((steps_Check.f kj26 bt169.1 bt169.2.1 bt169.2.2.1 bt169.2.2.2 ((t159.set ((ji29) : Int).toNat (⟨(rd_T62 t159 (ji37)).f0, (rd_T62 t159 (ji37)).f1, (rd_T62 t159 (ji37)).f2⟩ : S62)).set ((ji37) : Int).toNat (⟨(rd_T62 t159 (ji29)).f0, (rd_T62 t159 (ji29)).f1, (rd_T62 t159 (ji29)).f2⟩ : S62))).bind fun bt177 => (some (bt177.2 == 8)))) else (none)) else (none)) = some r := by first | exact H | (rw [hji29] at H; exact H) | (simp only [hji29] at H ⊢; exact H)
             by_cases c41 : 0 ≤ (ji29)
             ·
              rw [if_pos c41] at H
              have c41b0 : decide (0 ≤ (ji29)) = true := decide_eq_true c41
              clear c41
              by_cases c42 : (ji29) < (t159.length : Int)
              ·
               rw [if_pos c42] at H
               have c42b0 : decide ((ji29) < (t159.length : Int)) = true := decide_eq_true c42
               clear c42
               obtain ⟨y167, hy167⟩ : ∃ y_ : List (S62), y_ = (t159.set ((ji29) : Int).toNat (⟨(rd_T62 t159 (ji37)).f0, (rd_T62 t159 (ji37)).f1, (rd_T62 t159 (ji37)).f2⟩ : S62)) := ⟨_, rfl⟩
               replace H : ((culetlaw49_Own.f kj26 l0_0 l0_1 a0_2 a0_3).bind fun bt169 => ((steps_Check.f kj26 bt169.1 bt169.2.1 bt169.2.2.1 bt169.2.2.2 (y167.set ((ji37) : Int).toNat (⟨(rd_T62 t159 (ji29)).f0, (rd_T62 t159 (ji29)).f1, (rd_T62 t159 (ji29)).f2⟩ : S62))).bind fun bt177 => (some (bt177.2 == 8)))) = some r := by first | (rw [hy167]; with_reducible exact H) | (have H2_ := (Option.bind_some _ _).symm.trans H; rw [hy167]; with_reducible exact H2_) | (have H2_ := (Option.bind_some _ _).symm.trans H; with_reducible exact H2_) | with_reducible exact H | (rw [hy167]; exact H) | exact H
               have Ny167 := Aside0.mk hy167
               clear hy167
               obtain ⟨y168, hy168⟩ : ∃ y_ : List (S62), y_ = (y167.set ((ji37) : Int).toNat (⟨(rd_T62 t159 (ji29)).f0, (rd_T62 t159 (ji29)).f1, (rd_T62 t159 (ji29)).f2⟩ : S62)) := ⟨_, rfl⟩
               replace H : ((culetlaw49_Own.f kj26 l0_0 l0_1 a0_2 a0_3).bind fun bt169 => ((steps_Check.f kj26 bt169.1 bt169.2.1 bt169.2.2.1 bt169.2.2.2 y168).bind fun bt177 => (some (bt177.2 == 8)))) = some r := by first | (rw [hy168]; with_reducible exact H) | (have H2_ := (Option.bind_some _ _).symm.trans H; rw [hy168]; with_reducible exact H2_) | (have H2_ := (Option.bind_some _ _).symm.trans H; with_reducible exact H2_) | with_reducible exact H | (rw [hy168]; exact H) | exact H
               have Ny168 := Aside0.mk hy168
               clear hy168
               replace H := Option.bind_eq_some_iff.mp H
               obtain ⟨⟨t169, t172, t175, t176⟩, A450, H⟩ := H
               replace H : ((steps_Check.f kj26 t169 t172 t175 t176 y168).bind fun bt177 => (some (bt177.2 == 8))) = some r := H
               have A45 := Aside0.mk A450
               clear A450
               replace H := Option.bind_eq_some_iff.mp H
               obtain ⟨⟨t177, t178⟩, A460, H⟩ := H
               replace H : (some (t178 == 8)) = some r := H
               have A46 := Aside0.mk A460
               clear A460
               obtain rfl := Option.some.inj H
               try go_wp2
               have n0_ := Aside0.mk (Kd.R_drew HO_5.out)
               have n1_ := Aside0.mk (blk_drew BK147.out)
               have n2_ := Aside0.mk (below_drew1 HB.out)
               clear HO_5
               clear BK147
               clear HB
               have HO_5 := n0_
               have BK147 := n1_
               have HB := n2_
               clear n0_ n1_ n2_
               have p165 : 0 ≤ ((ji37) : Int) := of_decide_eq_true (by first | (with_reducible assumption) | assumption)
               have q165 : (ji37) < (t159.length : Int) := of_decide_eq_true (by first | (with_reducible assumption) | assumption)
               obtain ⟨ad165, e165, hx165_0, hx165_1, hx165_2⟩ := at_T62 (Kd.R_reads' HO_5.out).2.2 (ji37) p165 q165
               cases e165
               replace p165 := eq_true p165
               replace q165 := eq_true q165
               have p166 : 0 ≤ ((ji29) : Int) := of_decide_eq_true (by first | (with_reducible assumption) | assumption)
               have q166 : (ji29) < (t159.length : Int) := of_decide_eq_true (by first | (with_reducible assumption) | assumption)
               obtain ⟨ad166, e166, hx166_0, hx166_1, hx166_2⟩ := at_T62 (Kd.R_reads' HO_5.out).2.2 (ji29) p166 q166
               obtain rfl : ad165 = ad166 := (by injection e166)
               replace p166 := eq_true p166
               replace q166 := eq_true q166
               have p43 : 0 ≤ ((ji29) : Int) := of_decide_eq_true (by first | (with_reducible assumption) | assumption)
               have q43 : ((ji29) : Int) < ((t159.length : Int) : Int) := of_decide_eq_true (by first | (with_reducible assumption) | assumption)
               obtain ⟨go43, co43, eo43, gb43, gl43, cl43, HG43⟩ := Kd.R_form HO_5.out (by omega)
               (first | cases eo43 | (injection eo43 with ea_ en_ ec_; (first | subst ea_ | (injection ea_ with ea_; subst ea_)); subst ec_; clear en_))
               have GB43 := Aside0.mk gb43
               have GG43 := Aside0.mk HG43
               clear gb43 gl43 HG43
               (first | simp only [add_plain] at hx165_0 | skip)
               (first | simp only [add_plain] at hx165_1 | skip)
               (first | simp only [add_plain] at hx165_2 | skip)
               (first | simp only [add_plain] at hx166_0 | skip)
               (first | simp only [add_plain] at hx166_1 | skip)
               (first | simp only [add_plain] at hx166_2 | skip)
               obtain ⟨ce43, hcl43, hM43, hcc43, hfr43⟩ := Kd.R_elem HO_5.out z62 ((ji29) : Int) p43 q43
               obtain rfl := k62_openM hM43
               have hx43_0 : World.cell? _ ⟨go43, ((ji29) : Int).toNat * 3, none⟩ = some (.int .i64 ((rd_T62 t159 (ji29)).f0)) := hcc43 0 _ rfl
               have hx43_1 : World.cell? _ ⟨go43, ((ji29) : Int).toNat * 3 + 1, none⟩ = some (.int .i64 ((rd_T62 t159 (ji29)).f1)) := hcc43 1 _ rfl
               have hx43_2 : World.cell? _ ⟨go43, ((ji29) : Int).toNat * 3 + 2, none⟩ = some (.int .i64 ((rd_T62 t159 (ji29)).f2)) := hcc43 2 _ rfl
               have hf43_0 : World.frozen? _ ⟨go43, ((ji29) : Int).toNat * 3, none⟩ = false := hfr43 0
               have hf43_1 : World.frozen? _ ⟨go43, ((ji29) : Int).toNat * 3 + 1, none⟩ = false := hfr43 1
               have hf43_2 : World.frozen? _ ⟨go43, ((ji29) : Int).toNat * 3 + 2, none⟩ = false := hfr43 2
               clear hcl43 hcc43 hfr43 hM43
               replace p43 := eq_true p43
               replace q43 := eq_true q43
               obtain ⟨ce48, hcl48, hM48, hcc48, hfr48⟩ := Kd.R_elem HO_5.out z62 ((ji29) : Int) (of_decide_eq_true (by first | (with_reducible assumption) | assumption)) (by have h_ : ((ji29) : Int) < ((t159.length : Int) : Int) := of_decide_eq_true (by first | (with_reducible assumption) | assumption); first | exact h_ | (have e_ := (Kd.R_reads' HO_5.out).1; omega) | simpa using h_)
               obtain rfl := k62_openM hM48
               have HP48 := (Kd.R_seg HO_5.out ((ji29) : Int) (of_decide_eq_true (by first | (with_reducible assumption) | assumption)) (by have h_ : ((ji29) : Int) < ((t159.length : Int) : Int) := of_decide_eq_true (by first | (with_reducible assumption) | assumption); first | exact h_ | (have e_ := (Kd.R_reads' HO_5.out).1; omega) | simpa using h_) (seg := [.int .i64 ((rd_T62 t159 (ji37)).f0), .int .i64 ((rd_T62 t159 (ji37)).f1), .int .i64 ((rd_T62 t159 (ji37)).f2)]) (j := 0) hcl48 hcc48 (show 3 ≤ 3 from by decide) (x' := (⟨(rd_T62 t159 (ji37)).f0, (rd_T62 t159 (ji37)).f1, (rd_T62 t159 (ji37)).f2⟩ : S62)) (k62_mkM _ _ _ (⟨(rd_T62 t159 (ji37)).f0, (rd_T62 t159 (ji37)).f1, (rd_T62 t159 (ji37)).f2⟩ : S62) ) (fun _ hk => hk)).1
               rw [← Ny167.out] at HP48
               have HQ48 := Aside0.mk HP48
               clear hcl48 hcc48 hfr48 hM48 HP48
               have p44 : 0 ≤ ((ji37) : Int) := of_decide_eq_true (by first | (with_reducible assumption) | assumption)
               have q44 : ((ji37) : Int) < ((t159.length : Int) : Int) := of_decide_eq_true (by first | (with_reducible assumption) | assumption)
               obtain ⟨ce44, hcl44, hM44, hcc44, hfr44⟩ := Kd.R_elem HQ48.out z62 ((ji37) : Int) p44 q44
               obtain rfl := k62_openM hM44
               have hx44_0 : World.cell? _ ⟨go43, ((ji37) : Int).toNat * 3, none⟩ = some (.int .i64 ((rd_T62 y167 (ji37)).f0)) := hcc44 0 _ rfl
               have hx44_1 : World.cell? _ ⟨go43, ((ji37) : Int).toNat * 3 + 1, none⟩ = some (.int .i64 ((rd_T62 y167 (ji37)).f1)) := hcc44 1 _ rfl
               have hx44_2 : World.cell? _ ⟨go43, ((ji37) : Int).toNat * 3 + 2, none⟩ = some (.int .i64 ((rd_T62 y167 (ji37)).f2)) := hcc44 2 _ rfl
               have hf44_0 : World.frozen? _ ⟨go43, ((ji37) : Int).toNat * 3, none⟩ = false := hfr44 0
               have hf44_1 : World.frozen? _ ⟨go43, ((ji37) : Int).toNat * 3 + 1, none⟩ = false := hfr44 1
               have hf44_2 : World.frozen? _ ⟨go43, ((ji37) : Int).toNat * 3 + 2, none⟩ = false := hfr44 2
               clear hcl44 hcc44 hfr44 hM44
               replace p44 := eq_true p44
               replace q44 := eq_true q44
               obtain ⟨ce49, hcl49, hM49, hcc49, hfr49⟩ := Kd.R_elem HQ48.out z62 ((ji37) : Int) (of_decide_eq_true (by first | (with_reducible assumption) | assumption)) (by have h_ : ((ji37) : Int) < ((t159.length : Int) : Int) := of_decide_eq_true (by first | (with_reducible assumption) | assumption); first | exact h_ | (have e_ := (Kd.R_reads' HO_5.out).1; omega) | simpa using h_)
               obtain rfl := k62_openM hM49
               have HP49 := (Kd.R_seg HQ48.out ((ji37) : Int) (of_decide_eq_true (by first | (with_reducible assumption) | assumption)) (by have h_ : ((ji37) : Int) < ((t159.length : Int) : Int) := of_decide_eq_true (by first | (with_reducible assumption) | assumption); first | exact h_ | (have e_ := (Kd.R_reads' HO_5.out).1; omega) | simpa using h_) (seg := [.int .i64 ((rd_T62 t159 (ji29)).f0), .int .i64 ((rd_T62 t159 (ji29)).f1), .int .i64 ((rd_T62 t159 (ji29)).f2)]) (j := 0) hcl49 hcc49 (show 3 ≤ 3 from by decide) (x' := (⟨(rd_T62 t159 (ji29)).f0, (rd_T62 t159 (ji29)).f1, (rd_T62 t159 (ji29)).f2⟩ : S62)) (k62_mkM _ _ _ (⟨(rd_T62 t159 (ji29)).f0, (rd_T62 t159 (ji29)).f1, (rd_T62 t159 (ji29)).f2⟩ : S62) ) (fun _ hk => hk)).1
               rw [← Ny168.out] at HP49
               have HQ49 := Aside0.mk HP49
               clear hcl49 hcc49 hfr49 hM49 HP49
               refine start_ (n := 18) (S := fun w' => w'.cell? ⟨go43, (ji37).toNat * 3, none⟩ = some (.int .i64 ((rd_T62 t159 (ji37)).f0)) ∧ w'.cell? ⟨go43, (ji37).toNat * 3 + 1, none⟩ = some (.int .i64 ((rd_T62 t159 (ji37)).f1)) ∧ w'.cell? ⟨go43, (ji37).toNat * 3 + 2, none⟩ = some (.int .i64 ((rd_T62 t159 (ji37)).f2)) ∧ w'.cell? ⟨go43, (ji29).toNat * 3, none⟩ = some (.int .i64 ((rd_T62 t159 (ji29)).f0)) ∧ w'.cell? ⟨go43, (ji29).toNat * 3 + 1, none⟩ = some (.int .i64 ((rd_T62 t159 (ji29)).f1)) ∧ w'.cell? ⟨go43, (ji29).toNat * 3 + 2, none⟩ = some (.int .i64 ((rd_T62 t159 (ji29)).f2))) (ds := [15, 17]) #[false, false, false, false, false, false, false, false, false, false, false, false, false, false, false, false, false, false] (by kernel_rfl) rfl rfl ⟨hx165_0, hx165_1, hx165_2, hx166_0, hx166_1, hx166_2⟩ (fun hHeld => ?_); refine with_tabW culetlaw49_StepsExchanged.tab9 culetlaw49_StepsExchanged.bits9 (fun HT_ HW_ => ?_)
               generalize wc.drew = w47 at HO_5 BK147 HB GG43 HQ48 HQ49 hf43_0 hf43_1 hf43_2 hf44_0 hf44_1 hf44_2 hx165_0 hx165_1 hx165_2 hx166_0 hx166_1 hx166_2 hx43_0 hx43_1 hx43_2 hx44_0 hx44_1 hx44_2 hHeld ⊢
               refine pure_ (i := 0) (N := some 52) (v := ?_) (a' := ?_) #[true, false, false, false, false, false, false, false, false, false, false, false, false, false, false, false, false, false] rfl rfl (any_of HT_.out (by kernel_rfl)) (fun _ _ _ h => h) (Or.inl ⟨by rfl, ?_⟩) ?_ ?_
               rotate_left
               ·
                intro w'
                go_simp
                with_reducible rfl
               rotate_left
               ·
                simp only [Act.put, List.setIfInBounds_toArray, List.set_cons_zero, List.set_cons_succ, i64_w, i32_w]
                rfl
               refine pure_ (i := 1) (N := some 53) (v := ?_) (a' := ?_) #[true, true, false, false, false, false, false, false, false, false, false, false, false, false, false, false, false, false] rfl rfl (any_of HT_.out (by kernel_rfl)) (fun _ _ _ h => h) (Or.inl ⟨by rfl, ?_⟩) ?_ ?_
               rotate_left
               ·
                intro w'
                go_simp
                with_reducible rfl
               rotate_left
               ·
                simp only [Act.put, List.setIfInBounds_toArray, List.set_cons_zero, List.set_cons_succ, i64_w, i32_w]
                rfl
               refine pure_ (i := 2) (N := some 54) (v := ?_) (a' := ?_) #[true, true, true, false, false, false, false, false, false, false, false, false, false, false, false, false, false, false] rfl rfl (any_of HT_.out (by kernel_rfl)) (fun _ _ _ h => h) (Or.inl ⟨by rfl, ?_⟩) ?_ ?_
               rotate_left
               ·
                intro w'
                go_simp
                with_reducible rfl
               rotate_left
               ·
                simp only [Act.put, List.setIfInBounds_toArray, List.set_cons_zero, List.set_cons_succ, i64_w, i32_w]
                rfl
               refine pure_ (i := 3) (N := some 55) (v := ?_) (a' := ?_) #[true, true, true, true, false, false, false, false, false, false, false, false, false, false, false, false, false, false] rfl rfl (any_of HT_.out (by kernel_rfl)) (fun _ _ _ h => h) (Or.inl ⟨by rfl, ?_⟩) ?_ ?_
               rotate_left
               ·
                intro w'
                go_simp
                with_reducible rfl
               rotate_left
               ·
                simp only [Act.put, List.setIfInBounds_toArray, List.set_cons_zero, List.set_cons_succ, i64_w, i32_w]
                rfl
               refine pure_ (i := 4) (N := some 56) (v := ?_) (a' := ?_) #[true, true, true, true, true, false, false, false, false, false, false, false, false, false, false, false, false, false] rfl rfl (any_of HT_.out (by kernel_rfl)) (fun _ _ _ h => h) (Or.inl ⟨by rfl, ?_⟩) ?_ ?_
               rotate_left
               ·
                intro w'
                go_simp
                with_reducible rfl
               rotate_left
               ·
                simp only [Act.put, List.setIfInBounds_toArray, List.set_cons_zero, List.set_cons_succ, i64_w, i32_w]
                rfl
               refine pure_ (i := 5) (N := some 57) (v := ?_) (a' := ?_) #[true, true, true, true, true, true, false, false, false, false, false, false, false, false, false, false, false, false] rfl rfl (any_of HT_.out (by kernel_rfl)) (fun _ _ _ h => h) (Or.inl ⟨by rfl, ?_⟩) ?_ ?_
               rotate_left
               ·
                intro w'
                go_simp
                with_reducible rfl
               rotate_left
               ·
                simp only [Act.put, List.setIfInBounds_toArray, List.set_cons_zero, List.set_cons_succ, i64_w, i32_w]
                rfl
               refine pure_ (i := 6) (N := some 58) (v := ?_) (a' := ?_) #[true, true, true, true, true, true, true, false, false, false, false, false, false, false, false, false, false, false] rfl rfl (any_of HT_.out (by kernel_rfl)) (fun _ _ _ h => h) (Or.inl ⟨by rfl, ?_⟩) ?_ ?_
               rotate_left
               ·
                intro w'
                go_simp
                with_reducible rfl
               rotate_left
               ·
                simp only [Act.put, List.setIfInBounds_toArray, List.set_cons_zero, List.set_cons_succ, i64_w, i32_w]
                rfl
               refine pure_ (i := 7) (N := some 59) (v := ?_) (a' := ?_) #[true, true, true, true, true, true, true, true, false, false, false, false, false, false, false, false, false, false] rfl rfl (any_of HT_.out (by kernel_rfl)) (fun _ _ _ h => h) (Or.inl ⟨by rfl, ?_⟩) ?_ ?_
               rotate_left
               ·
                intro w'
                go_simp
                with_reducible rfl
               rotate_left
               ·
                simp only [Act.put, List.setIfInBounds_toArray, List.set_cons_zero, List.set_cons_succ, i64_w, i32_w]
                rfl
               refine pure_ (i := 8) (N := some 60) (v := ?_) (a' := ?_) #[true, true, true, true, true, true, true, true, true, false, false, false, false, false, false, false, false, false] rfl rfl (any_of HT_.out (by kernel_rfl)) (fun _ _ _ h => h) (Or.inl ⟨by rfl, ?_⟩) ?_ ?_
               rotate_left
               ·
                intro w'
                go_simp
                with_reducible rfl
               rotate_left
               ·
                simp only [Act.put, List.setIfInBounds_toArray, List.set_cons_zero, List.set_cons_succ, i64_w, i32_w]
                rfl
               refine pure_ (i := 10) (N := some 62) (v := ?_) (a' := ?_) #[true, true, true, true, true, true, true, true, true, false, true, false, false, false, false, false, false, false] rfl rfl (any_of HT_.out (by kernel_rfl)) (fun _ _ _ h => h) (Or.inl ⟨by rfl, ?_⟩) ?_ ?_
               rotate_left
               ·
                intro w'
                go_simp
                with_reducible rfl
               rotate_left
               ·
                simp only [Act.put, List.setIfInBounds_toArray, List.set_cons_zero, List.set_cons_succ, i64_w, i32_w]
                rfl
               refine pure_ (i := 11) (N := some 63) (v := ?_) (a' := ?_) #[true, true, true, true, true, true, true, true, true, false, true, true, false, false, false, false, false, false] rfl rfl (any_of HT_.out (by kernel_rfl)) (fun _ _ _ h => h) (Or.inl ⟨by rfl, ?_⟩) ?_ ?_
               rotate_left
               ·
                intro w'
                go_simp
                with_reducible rfl
               rotate_left
               ·
                simp only [Act.put, List.setIfInBounds_toArray, List.set_cons_zero, List.set_cons_succ, i64_w, i32_w]
                rfl
               refine pure_ (i := 12) (N := some 64) (v := ?_) (a' := ?_) #[true, true, true, true, true, true, true, true, true, false, true, true, true, false, false, false, false, false] rfl rfl (any_of HT_.out (by kernel_rfl)) (fun _ _ _ h => h) (Or.inl ⟨by rfl, ?_⟩) ?_ ?_
               rotate_left
               ·
                intro w'
                go_simp
                with_reducible rfl
               rotate_left
               ·
                simp only [Act.put, List.setIfInBounds_toArray, List.set_cons_zero, List.set_cons_succ, i64_w, i32_w]
                rfl
               refine take_ (i := 9) (N := some 61) (v := ?_) (a' := ?_) #[true, true, true, true, true, true, true, true, true, true, true, true, true, false, false, false, false, false] rfl rfl (take_ofW HT_.out HW_.out (by kernel_rfl)) (fun _ _ _ h => h) (Or.inl ⟨by rfl, ?_⟩) hHeld ?_ ?_
               rotate_left
               ·
                rintro w' ⟨s0, s1, s2, s3, s4, s5⟩
                go_simp
                with_reducible rfl
               rotate_left
               ·
                simp only [Act.put, List.setIfInBounds_toArray, List.set_cons_zero, List.set_cons_succ, i64_w, i32_w]
                rfl
               refine take_ (i := 13) (N := some 65) (v := ?_) (a' := ?_) #[true, true, true, true, true, true, true, true, true, true, true, true, true, true, false, false, false, false] rfl rfl (take_ofW HT_.out HW_.out (by kernel_rfl)) (fun _ _ _ h => h) (Or.inl ⟨by rfl, ?_⟩) hHeld ?_ ?_
               rotate_left
               ·
                rintro w' ⟨s0, s1, s2, s3, s4, s5⟩
                go_simp
                with_reducible rfl
               rotate_left
               ·
                simp only [Act.put, List.setIfInBounds_toArray, List.set_cons_zero, List.set_cons_succ, i64_w, i32_w]
                rfl
               refine pure_ (i := 14) (N := some 66) (v := ?_) (a' := ?_) #[true, true, true, true, true, true, true, true, true, true, true, true, true, true, true, false, false, false] rfl rfl (any_of HT_.out (by kernel_rfl)) (fun _ _ _ h => h) (Or.inl ⟨by rfl, ?_⟩) ?_ ?_
               rotate_left
               ·
                intro w'
                go_simp
                with_reducible rfl
               rotate_left
               ·
                simp only [Act.put, List.setIfInBounds_toArray, List.set_cons_zero, List.set_cons_succ, i64_w, i32_w]
                rfl
               refine last_ (i := 15) (N := none) #[true, true, true, true, true, true, true, true, true, true, true, true, true, true, true, true, false, false] rfl rfl (one_of HT_.out (by kernel_rfl)) (by decide) (fun K hK => ?_)
               refine skip_ (w1 := ?_) (by rfl) rfl ?_ ?_
               rotate_left
               ·
                go_simp
                rfl
               refine hK.out _ _ ?_
               clear hK K
               refine pure_ (i := 16) (N := some 67) (v := ?_) (a' := ?_) #[true, true, true, true, true, true, true, true, true, true, true, true, true, true, true, true, true, false] rfl rfl (any_of HT_.out (by kernel_rfl)) (fun _ _ _ h => h) (Or.inl ⟨by rfl, ?_⟩) ?_ ?_
               rotate_left
               ·
                intro w'
                go_simp
                with_reducible rfl
               rotate_left
               ·
                simp only [Act.put, List.setIfInBounds_toArray, List.set_cons_zero, List.set_cons_succ, i64_w, i32_w]
                rfl
               have hn1 : ¬ ji37.toNat = ji29.toNat := fun e => wrap_ne ji29 (hji37.trans (by rw [← Int.toNat_of_nonneg (of_eq_true p165), e, Int.toNat_of_nonneg (of_eq_true p166)]))
               have hn2 : ¬ ji29.toNat = ji37.toNat := fun e => hn1 e.symm
               have hn3 : ¬ ji37.toNat * 3 = ji29.toNat * 3 := by omega
               have hn4 : ¬ ji29.toNat * 3 = ji37.toNat * 3 := by omega
               have hq0 := blk_frozen GG43.out (ji37.toNat * 3)
               have hq1 := blk_frozen GG43.out (ji37.toNat * 3 + 1)
               have hq2 := blk_frozen GG43.out (ji37.toNat * 3 + 2)
               refine last_ (i := 17) (N := none) #[true, true, true, true, true, true, true, true, true, true, true, true, true, true, true, true, true, true] rfl rfl (one_of HT_.out (by kernel_rfl)) (by decide) (fun K hK => ?_)
               refine skip_ (w1 := ?_) (by rfl) rfl ?_ ?_
               rotate_left
               ·
                go_simp
                rfl
               refine hK.out _ _ ?_
               clear hK K
               refine done_ (done_of HT_.out (by kernel_rfl)) ?_
               have hne_ : gb147 ≠ go43 := blk_ne BK147.out GG43.out (by decide)
               have q49 : Aside0 (Kd.R k62 62 ((((((w47.setCell ⟨go43, ji29.toNat * 3, none⟩ (.int .i64 (rd_T62 t159 ji37).f0)).setCell ⟨go43, ji29.toNat * 3 + 1, none⟩ (.int .i64 (rd_T62 t159 ji37).f1)).setCell ⟨go43, ji29.toNat * 3 + 2, none⟩ (.int .i64 (rd_T62 t159 ji37).f2)).setCell ⟨go43, ji37.toNat * 3, none⟩ (.int .i64 (rd_T62 t159 ji29).f0)).setCell ⟨go43, ji37.toNat * 3 + 1, none⟩ (.int .i64 (rd_T62 t159 ji29).f1)).setCell ⟨go43, ji37.toNat * 3 + 2, none⟩ (.int .i64 (rd_T62 t159 ji29).f2)) w.heap.size (fun _ => True) (.slice (some ⟨go43, 0, none⟩) t159.length co28) y168) := ⟨HQ49.out⟩
               have q47 : Aside0 (((((((w47.setCell ⟨go43, ji29.toNat * 3, none⟩ (.int .i64 (rd_T62 t159 ji37).f0)).setCell ⟨go43, ji29.toNat * 3 + 1, none⟩ (.int .i64 (rd_T62 t159 ji37).f1)).setCell ⟨go43, ji29.toNat * 3 + 2, none⟩ (.int .i64 (rd_T62 t159 ji37).f2)).setCell ⟨go43, ji37.toNat * 3, none⟩ (.int .i64 (rd_T62 t159 ji29).f0)).setCell ⟨go43, ji37.toNat * 3 + 1, none⟩ (.int .i64 (rd_T62 t159 ji29).f1)).setCell ⟨go43, ji37.toNat * 3 + 2, none⟩ (.int .i64 (rd_T62 t159 ji29).f2)).heap[gb147]? = some (.cells #[.slice A0_0 l0_0.length c0_0, .slice A0_1 l0_1.length c0_1, .int .i64 a0_2, .int .i64 a0_3] 50 (0, 0))) := ⟨(blk_other (blk_other (blk_other (blk_other (blk_other (blk_other BK147.out go43 (ji29.toNat * 3) hne_ (.int .i64 (rd_T62 t159 ji37).f0)) go43 (ji29.toNat * 3 + 1) hne_ (.int .i64 (rd_T62 t159 ji37).f1)) go43 (ji29.toNat * 3 + 2) hne_ (.int .i64 (rd_T62 t159 ji37).f2)) go43 (ji37.toNat * 3) hne_ (.int .i64 (rd_T62 t159 ji29).f0)) go43 (ji37.toNat * 3 + 1) hne_ (.int .i64 (rd_T62 t159 ji29).f1)) go43 (ji37.toNat * 3 + 2) hne_ (.int .i64 (rd_T62 t159 ji29).f2))⟩
               have qB : Aside0 (Below w.heap.size w ((((((w47.setCell ⟨go43, ji29.toNat * 3, none⟩ (.int .i64 (rd_T62 t159 ji37).f0)).setCell ⟨go43, ji29.toNat * 3 + 1, none⟩ (.int .i64 (rd_T62 t159 ji37).f1)).setCell ⟨go43, ji29.toNat * 3 + 2, none⟩ (.int .i64 (rd_T62 t159 ji37).f2)).setCell ⟨go43, ji37.toNat * 3, none⟩ (.int .i64 (rd_T62 t159 ji29).f0)).setCell ⟨go43, ji37.toNat * 3 + 1, none⟩ (.int .i64 (rd_T62 t159 ji29).f1)).setCell ⟨go43, ji37.toNat * 3 + 2, none⟩ (.int .i64 (rd_T62 t159 ji29).f2))) := ⟨(Below.setCell (Below.setCell (Below.setCell (Below.setCell (Below.setCell (Below.setCell HB.out (p := ⟨go43, ji29.toNat * 3, none⟩) GB43.out (.int .i64 (rd_T62 t159 ji37).f0)) (p := ⟨go43, ji29.toNat * 3 + 1, none⟩) GB43.out (.int .i64 (rd_T62 t159 ji37).f1)) (p := ⟨go43, ji29.toNat * 3 + 2, none⟩) GB43.out (.int .i64 (rd_T62 t159 ji37).f2)) (p := ⟨go43, ji37.toNat * 3, none⟩) GB43.out (.int .i64 (rd_T62 t159 ji29).f0)) (p := ⟨go43, ji37.toNat * 3 + 1, none⟩) GB43.out (.int .i64 (rd_T62 t159 ji29).f1)) (p := ⟨go43, ji37.toNat * 3 + 2, none⟩) GB43.out (.int .i64 (rd_T62 t159 ji29).f2))⟩
               generalize ((((((w47.setCell ⟨go43, ji29.toNat * 3, none⟩ (.int .i64 (rd_T62 t159 ji37).f0)).setCell ⟨go43, ji29.toNat * 3 + 1, none⟩ (.int .i64 (rd_T62 t159 ji37).f1)).setCell ⟨go43, ji29.toNat * 3 + 2, none⟩ (.int .i64 (rd_T62 t159 ji37).f2)).setCell ⟨go43, ji37.toNat * 3, none⟩ (.int .i64 (rd_T62 t159 ji29).f0)).setCell ⟨go43, ji37.toNat * 3 + 1, none⟩ (.int .i64 (rd_T62 t159 ji29).f1)).setCell ⟨go43, ji37.toNat * 3 + 2, none⟩ (.int .i64 (rd_T62 t159 ji29).f2)) = w60 at q49 q47 qB ⊢
               clear HQ49 HQ48 BK147 HB HO_5 GG43 hx165_0 hx165_1 hx165_2 hx166_0 hx166_1 hx166_2 hx43_0 hx43_1 hx43_2 hx44_0 hx44_1 hx44_2 hf43_0 hf43_1 hf43_2 hf44_0 hf44_1 hf44_2 hq0 hq1 hq2 hn1 hn2 hn3 hn4 hHeld
               have HQ49 := q49
               have BK147 := q47
               have HB := qB
               have HO_5 := q49
               clear q49 q47 qB
               have hcz50_0 : w60.cell? ⟨gb147, 0, none⟩ = some (.slice A0_0 l0_0.length c0_0) := (blk_cell BK147.out 0).trans rfl
               have hcz50_1 : w60.cell? ⟨gb147, 1, none⟩ = some (.slice A0_1 l0_1.length c0_1) := (blk_cell BK147.out 1).trans rfl
               have hcz50_2 : w60.cell? ⟨gb147, 2, none⟩ = some (.int .i64 a0_2) := (blk_cell BK147.out 2).trans rfl
               have hcz50_3 : w60.cell? ⟨gb147, 3, none⟩ = some (.int .i64 a0_3) := (blk_cell BK147.out 3).trans rfl
               have hfz50_0 := blk_frozen BK147.out 0
               have hfz50_1 := blk_frozen BK147.out 1
               have hfz50_2 := blk_frozen BK147.out 2
               have hfz50_3 := blk_frozen BK147.out 3
               try go_wp2_with (first | ((with_reducible refine gate_callee (f := 28) rfl ?_); refine goesL_ (some 70) rfl rfl Try.func28 (by kernel_rfl) rfl #[.agg #[.slice A0_0 l0_0.length c0_0, .slice A0_1 l0_1.length c0_1, .int .i64 a0_2, .int .i64 a0_3]] rfl (by (try simp only [List.map_toArray, List.map_cons, List.map_nil]); first | done | rfl | (simp only [List.length_drop, List.length_take]; rfl)) ?_; (with_reducible refine (culetlaw49_Own.calls kj26 _ _ l0_0 _ _ l0_1 a0_2 a0_3 t169 t172 t175 t176 _ ?side1 ?side2 ?side3 ?side4 A45.out).mono ?_); (case side1 => exact Kd.C_below HR0_0.out (by repeat (first | (with_reducible first | exact HB.out | apply below_alloc | apply pw_below_drewN | apply below_drew1 | refine below_set ?_ GB43.out | refine below_set ?_ GB43.out | refine below_set ?_ GB43.out | refine below_set ?_ GB43.out | refine below_set ?_ GB43.out | refine below_set ?_ GB43.out | refine below_set ?_ GE147.out) | exact HB.out))); (case side2 => exact HC0_0.out); (case side3 => exact Kd.C_below HR0_1.out (by repeat (first | (with_reducible first | exact HB.out | apply below_alloc | apply pw_below_drewN | apply below_drew1 | refine below_set ?_ GB43.out | refine below_set ?_ GB43.out | refine below_set ?_ GB43.out | refine below_set ?_ GB43.out | refine below_set ?_ GB43.out | refine below_set ?_ GB43.out | refine below_set ?_ GE147.out) | exact HB.out))); (case side4 => exact HC0_1.out); rintro e w51 ⟨v170, v173, rfl, ho0, ho1, hb⟩; refine ⟨_, rfl, ?_⟩; have n0_ := Aside0.mk (Kd.R_below (by (with_reducible repeat (first | apply Kd.R_alloc | apply Kd.R_drewN | apply Kd.R_drew)); exact HQ49.out) hb); have n1_ := Aside0.mk (Kd.R_lower ho0 (below_size (by repeat (first | (with_reducible first | exact HB.out | apply below_alloc | apply pw_below_drewN | apply below_drew1 | refine below_set ?_ GB43.out | refine below_set ?_ GB43.out | refine below_set ?_ GB43.out | refine below_set ?_ GB43.out | refine below_set ?_ GB43.out | refine below_set ?_ GB43.out | refine below_set ?_ GE147.out) | exact HB.out)))); have n2_ := Aside0.mk (Kd.R_lower ho1 (below_size (by repeat (first | (with_reducible first | exact HB.out | apply below_alloc | apply pw_below_drewN | apply below_drew1 | refine below_set ?_ GB43.out | refine below_set ?_ GB43.out | refine below_set ?_ GB43.out | refine below_set ?_ GB43.out | refine below_set ?_ GB43.out | refine below_set ?_ GB43.out | refine below_set ?_ GE147.out) | exact HB.out)))); have n3_ := Aside0.mk (blk_below BK147.out hb); have n4_ := Aside0.mk (below_step (by repeat (first | (with_reducible first | exact HB.out | apply below_alloc | apply pw_below_drewN | apply below_drew1 | refine below_set ?_ GB43.out | refine below_set ?_ GB43.out | refine below_set ?_ GB43.out | refine below_set ?_ GB43.out | refine below_set ?_ GB43.out | refine below_set ?_ GB43.out | refine below_set ?_ GE147.out) | exact HB.out)) hb); clear HO_5; clear BK147; clear HB; have HO_5 := n0_; have HO171 := n1_; have HO174 := n2_; have BK147 := n3_; have HB := n4_; clear n0_ n1_ n2_ n3_ n4_; (try clear hb); (try clear hb2); (try clear hk); (try clear hi); (try clear ho0); (try clear ho1); obtain ⟨Ao52, co52, eo52⟩ := Kd.R_slice HO171.out; subst eo52; obtain ⟨Ao53, co53, eo53⟩ := Kd.R_slice HO174.out; subst eo53) | ((with_reducible refine gate_callee (f := 29) rfl ?_); refine goesL_ (some 72) rfl rfl Try.func29 (by kernel_rfl) rfl #[.agg #[.slice Ao52 t169.length co52, .slice Ao53 t172.length co53, .int .i64 t175, .int .i64 t176], .slice (some ⟨go43, 0, none⟩) y168.length co28] rfl (by (try simp only [List.map_toArray, List.map_cons, List.map_nil]); first | done | (rw [show y168.length = t159.length from (Kd.R_reads' HO_5.out).1.symm] <;> rfl) | rfl | (simp only [List.length_drop, List.length_take]; rfl)) ?_; (with_reducible refine (steps_Check.calls kj26 _ _ t169 _ _ t172 t175 t176 _ _ y168 t177 t178 _ ?side1 ?side2 ?side3 ?side4 ?side5 ?side6 A46.out).mono ?_); (case side1 => repeat (first | exact (Kd.R_reads' HO171.out).2.2 | (with_reducible refine Kd.C_alloc ?_ _) | (with_reducible refine Kd.C_drewN ?_ _) | (with_reducible refine Kd.C_drew ?_))); (case side2 => exact (Kd.R_reads' HO171.out).2.1); (case side3 => repeat (first | exact (Kd.R_reads' HO174.out).2.2 | (with_reducible refine Kd.C_alloc ?_ _) | (with_reducible refine Kd.C_drewN ?_ _) | (with_reducible refine Kd.C_drew ?_))); (case side4 => exact (Kd.R_reads' HO174.out).2.1); (case side5 => repeat (first | exact (Kd.R_reads' HO_5.out).2.2 | (with_reducible refine Kd.C_alloc ?_ _) | (with_reducible refine Kd.C_drewN ?_ _) | (with_reducible refine Kd.C_drew ?_))); (case side6 => rw [show y168.length = t159.length from (Kd.R_reads' HO_5.out).1.symm]; exact (Kd.R_reads' HO_5.out).2.1); rintro e w54 ⟨rfl, hb⟩; refine ⟨_, rfl, ?_⟩; have n0_ := Aside0.mk (Kd.R_below (by (with_reducible repeat (first | apply Kd.R_alloc | apply Kd.R_drewN | apply Kd.R_drew)); exact HO_5.out) hb); have n1_ := Aside0.mk (Kd.R_below (by (with_reducible repeat (first | apply Kd.R_alloc | apply Kd.R_drewN | apply Kd.R_drew)); exact HO171.out) hb); have n2_ := Aside0.mk (Kd.R_below (by (with_reducible repeat (first | apply Kd.R_alloc | apply Kd.R_drewN | apply Kd.R_drew)); exact HO174.out) hb); have n3_ := Aside0.mk (blk_below BK147.out hb); have n4_ := Aside0.mk (below_step (by repeat (first | (with_reducible first | exact HB.out | apply below_alloc | apply pw_below_drewN | apply below_drew1 | refine below_set ?_ GE147.out) | exact HB.out)) hb); clear HO_5; clear HO171; clear HO174; clear BK147; clear HB; have HO_5 := n0_; have HO171 := n1_; have HO174 := n2_; have BK147 := n3_; have HB := n4_; clear n0_ n1_ n2_ n3_ n4_; (try clear hb); (try clear hb2); (try clear hk); (try clear hi)))
               go_ret
               exact ⟨by first | rfl | (simp [errW_none, errW_some] <;> rfl) | (simp only [← hji37, ← hji29]; first | rfl | (simp [errW_none, errW_some] <;> rfl)) | (simp [*, errW_none, errW_some] <;> rfl), by repeat (first | (with_reducible first | exact HB.out | apply below_alloc | apply pw_below_drewN | apply below_drew1 | refine below_set ?_ GE147.out) | exact HB.out)⟩
              ·
               rw [if_neg c42] at H
               exact absurd H (by simp)
             ·
              rw [if_neg c41] at H
              exact absurd H (by simp)
            ·
             rw [if_neg c39] at H
             exact absurd H (by simp)
           ·
            rw [if_neg c38] at H
            exact absurd H (by simp)

end Go.Proofs.Ytalhpnfapagamaa.S
