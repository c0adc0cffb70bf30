-- Written by this session's own programs; what the law does not lean on is left out. Lean checks it.
import Derived.Test.YtejgenhmhahgeaaDoorGS
import Derived.Test.YtejgenhmhahgeaaDoorGQ
namespace Go.Proofs.YtejgenhmhahgeaaDoor.T
open Go.RowKit Go.Proofs.YtejgenhmhahgeaaDoorW.PrintWords Go.Proofs.YtejgenhmhahgeaaDoorW.PrintLast Go.Proofs.YtejgenhmhahgeaaDoorW.PrintMore
set_option linter.unusedVariables false
set_option linter.unusedSimpArgs false

mutual
def tariff_Total.j0 : Nat → List Int → Int → Bool → ByteArray → List (S63) → Option (Int × Int)
 | 0, _, _, _, _, _ => none
 | k + 1, x1, x6, x19, x270000, x270001 => if x19 = true then (tariff_Total.j1 k x1 3 x270000 x270001) else (tariff_Total.j1 k x1 x6 x270000 x270001)
def tariff_Total.j1 : Nat → List Int → Int → ByteArray → List (S63) → Option (Int × Int)
 | 0, _, _, _, _ => none
 | k + 1, x1, x6, x270000, x270001 => if x6 = 0 then (tariff_Total.l0 k 0 x1 (x1.length : Int) 0 x270000 x270001) else (some (0, x6))
def tariff_Total.l0 : Nat → Int → List Int → Int → Int → ByteArray → List (S63) → Option (Int × Int)
 | 0, _, _, _, _, _, _ => none
 | k + 1, x7, x23, x24, x25, x270000, x270001 => if x25 < x24 then (if 0 ≤ x25 then (if x25 < (x23.length : Int) then ((tariff_value.f x270000 x270001 (rd x23 x25)).bind fun t272 => (tariff_Total.l0 k (wrap64 (x7 + t272)) x23 x24 (wrap64 (x25 + 1)) x270000 x270001)) else (none)) else (none)) else (some (x7, 0))
end
def tariff_Total.f (k : Nat) (a0_0 : ByteArray) (l0_1 : List (S63)) (l1 : List Int) : Option (Int × Int) := (tariff_right.f k a0_0 l0_1 l1).bind fun t270 => (if t270 = 1 then (tariff_Total.j0 k l1 t270 false a0_0 l0_1) else (tariff_Total.j0 k l1 t270 (decide ((l1.length : Int) > 1000)) a0_0 l0_1))
set_option maxHeartbeats 8000000 in
set_option maxRecDepth 100000 in
theorem tariff_Total.calls (k : Nat) (a0_0 : ByteArray) (A0_1 : Option Addr) (c0_1 : Nat) (l0_1 : List (S63)) (A1 : Option Addr) (c1 : Nat) (l1 : List Int) (r1 : Int) (r2 : Int) (w : World) (hr0_1 : Kd.C k63 w A0_1 l0_1.length l0_1) (hc0_1 : l0_1.length ≤ c0_1) (hr1 : Kd.C (Kd.int .i64) w A1 l1.length l1) (hc1 : l1.length ≤ c1) (h : tariff_Total.f k a0_0 l0_1 l1 = some (r1, r2)) :
  Calls Tryd.prog 26 #[.agg #[.string a0_0, .slice A0_1 l0_1.length c0_1], .slice A1 l1.length c1] w fun e w' => e = .returned (.tuple #[.int .i64 r1, .int .i64 r2]) ∧ Below w.heap.size w w' := by
 have hu29 := Tryd.underlying29
 have HR0_1 := Aside0.mk hr0_1
 have HC0_1 := Aside0.mk hc0_1
 clear hr0_1 hc0_1
 have HR1 := Aside0.mk hr1
 have HC1 := Aside0.mk hc1
 clear hr1 hc1
 have HB := Aside0.mk (Below.refl w.heap.size w)
 have H : ((tariff_right.f k a0_0 l0_1 l1).bind fun t270 => (if t270 = 1 then (tariff_Total.j0 k l1 t270 false a0_0 l0_1) else (tariff_Total.j0 k l1 t270 (decide ((l1.length : Int) > 1000)) a0_0 l0_1))) = some (r1, r2) := h
 clear h
 replace H := Option.bind_eq_some_iff.mp H
 obtain ⟨t270, A30, H⟩ := H
 replace H : (if t270 = 1 then (tariff_Total.j0 k l1 t270 false a0_0 l0_1) else (tariff_Total.j0 k l1 t270 (decide ((l1.length : Int) > 1000)) a0_0 l0_1)) = some (r1, r2) := H
 have A3 := Aside0.mk A30
 clear A30
 have HC4 := Aside0.mk H
 clear H
 go_enter Tryd.func26, Tryd.ntmps26
 go_upto_region 2 with (first | ((with_reducible refine gate_dst (N := 2) rfl ?_); (try (refine gate_guard (by rfl) ?_; dsimp only)); refine box_event ?hg (N := 2) ?hd (cs := #[.string a0_0, .slice A0_1 l0_1.length c0_1]) (t := 29) ?hr ?_; (case hd => rfl); (case hg => rfl); (case hr => first | (go_simp; done) | (go_simp; rfl)); intro gb269 hg w5 hbox hb; have n0_ := Aside0.mk (below_step (by repeat (first | (with_reducible first | exact HB.out | apply below_alloc | apply pw_below_drewN | apply below_drew1) | exact HB.out)) hb); have n1_ := Aside0.mk (hbox); have n2_ := Aside0.mk ((by rw [hg]; exact (below_size (by repeat (first | (with_reducible first | exact HB.out | apply below_alloc | apply pw_below_drewN | apply below_drew1) | exact HB.out))) : w.heap.size ≤ gb269)); have n3_ := Aside0.mk ((by rw [hg]; exact (below_size (by repeat (first | (with_reducible first | exact HB.out | apply below_alloc | apply pw_below_drewN | apply below_drew1) | exact HB.out))) : w.heap.size ≤ gb269)); clear HB; have HB := n0_; have BK269 := n1_; have GW269 := n2_; have GE269 := n3_; clear n0_ n1_ n2_ n3_; clear hb hbox hg; have hcz6_0 : w5.cell? ⟨gb269, 0, none⟩ = some (.string a0_0) := (blk_cell BK269.out 0).trans rfl; have hcz6_1 : w5.cell? ⟨gb269, 1, none⟩ = some (.slice A0_1 l0_1.length c0_1) := (blk_cell BK269.out 1).trans rfl; have hfz6_0 := blk_frozen BK269.out 0; have hfz6_1 := blk_frozen BK269.out 1) | ((with_reducible refine gate_callee (f := 37) rfl ?_); refine goesL_ (some 12) rfl rfl Tryd.func37 (by kernel_rfl) rfl #[.agg #[.string a0_0, .slice A0_1 l0_1.length c0_1], .slice A1 l1.length c1] rfl (by (try simp only [List.map_toArray, List.map_cons, List.map_nil]); first | done | rfl | (simp only [List.length_drop, List.length_take]; rfl)) ?_; (with_reducible refine (tariff_right.calls k a0_0 _ _ l0_1 _ _ l1 t270 _ ?side1 ?side2 ?side3 ?side4 A3.out).mono ?_); (case side1 => repeat (first | exact (Kd.C_below HR0_1.out HB.out) | (with_reducible refine Kd.C_alloc ?_ _) | (with_reducible refine Kd.C_drewN ?_ _) | (with_reducible refine Kd.C_drew ?_))); (case side2 => exact HC0_1.out); (case side3 => repeat (first | exact (Kd.C_below HR1.out HB.out) | (with_reducible refine Kd.C_alloc ?_ _) | (with_reducible refine Kd.C_drewN ?_ _) | (with_reducible refine Kd.C_drew ?_))); (case side4 => exact HC1.out); rintro e w7 ⟨rfl, hb⟩; refine ⟨_, rfl, ?_⟩; have n0_ := Aside0.mk (blk_below (g := gb269) (o := .cells #[.string a0_0, .slice A0_1 l0_1.length c0_1] 29 (0, 0)) (by (with_reducible repeat (first | refine blk_drewN ?_ _ | refine blk_drew ?_ | refine blk_alloc ?_ _)); exact BK269.out) hb); have n1_ := Aside0.mk (below_step (by repeat (first | (with_reducible first | exact HB.out | apply below_alloc | apply pw_below_drewN | apply below_drew1 | refine below_set ?_ GE269.out) | exact HB.out)) hb); clear BK269; clear HB; have BK269 := n0_; have HB := n1_; clear n0_ n1_; (try clear hb); (try clear hb2); (try clear hk); (try clear hi)))
 (try simp only [Act.put, List.setIfInBounds_toArray, List.set_cons_zero, List.set_cons_succ])
 go_cut [19] (fun v19 wc => ∃ (kq : Nat) (x19_3 : Bool), v19 = .bool x19_3 ∧ Aside0 (tariff_Total.j0 kq l1 t270 x19_3 a0_0 l0_1 = some (r1, r2)) ∧ Aside0 (kq ≤ k) ∧ Aside0 (wc.heap[gb269]? = some (.cells #[.string a0_0, (.slice A0_1 l0_1.length c0_1)] 29 (0, 0))) ∧ Aside0 (Below w.heap.size w wc))
 case first =>
  have H := HC4.out
  clear HC4
  by_cases c8 : t270 = 1
  ·
   rw [if_pos c8] at H
   have c8b0 : (t270 == 1) = true := beq_iff_eq.mpr c8
   have c8b1 : (t270 != 1) = false := bne_eq_false_iff_eq.mpr c8
   clear c8
   (first | rw [c8b0] | (simp only [i64_w, i32_w]; rw [c8b0]) | skip)
   have H' := Aside0.mk H
   clear H
   go_wp2
   go_meet
   case rel => exact ⟨_, (false), (by first | rfl | (simp; done) | (simp [*]; done)), H', ⟨by first | omega | exact Nat.le_refl _⟩, ⟨by (with_reducible repeat (first | refine blk_drewN ?_ _ | refine blk_drew ?_ | refine blk_alloc ?_ _)); exact BK269.out⟩, ⟨by repeat (first | (with_reducible first | exact HB.out | apply below_alloc | apply pw_below_drewN | apply below_drew1 | refine below_set ?_ GE269.out) | exact HB.out)⟩⟩
  ·
   rw [if_neg c8] at H
   have c8b0 : (t270 == 1) = false := beq_eq_false_iff_ne.mpr c8
   have c8b1 : (t270 != 1) = true := bne_iff_ne.mpr c8
   (first | rw [c8b0] | (simp only [i64_w, i32_w]; rw [c8b0]) | skip)
   have H' := Aside0.mk H
   clear H
   go_wp2
   go_meet
   case rel => exact ⟨_, (decide ((l1.length : Int) > 1000)), (by first | rfl | (simp; done) | (simp [*]; done)), H', ⟨by first | omega | exact Nat.le_refl _⟩, ⟨by (with_reducible repeat (first | refine blk_drewN ?_ _ | refine blk_drew ?_ | refine blk_alloc ?_ _)); exact BK269.out⟩, ⟨by repeat (first | (with_reducible first | exact HB.out | apply below_alloc | apply pw_below_drewN | apply below_drew1 | refine below_set ?_ GE269.out) | exact HB.out)⟩⟩
 case rest =>
  clear HC4
  try clear c1
  try clear c2
  try clear p2
  try clear c3
  try clear c8
  try clear c8b0
  try clear c8b1
  try clear hcz6_0
  try clear hcz6_1
  try clear hfz6_0
  try clear hfz6_1
  obtain ⟨kq, x19_3, rfl, HA, HJ3, BK269, HB⟩ := hcut
  cases kq with
  | zero => exact absurd HA.out (by simp [tariff_Total.j0])
  | succ kj3 =>
   have H := HA.out
   clear HA
   simp only [tariff_Total.j0] at H
   have HC9 := Aside0.mk H
   clear H
   go_upto_if 19 with (fail)
   go_cut [6] (fun v6 wc => ∃ (kq : Nat) (x6_8 : Int), v6 = .int .i64 x6_8 ∧ Aside0 (tariff_Total.j1 kq l1 x6_8 a0_0 l0_1 = some (r1, r2)) ∧ Aside0 (kq ≤ kj3) ∧ Aside0 (wc.heap[gb269]? = some (.cells #[.string a0_0, (.slice A0_1 l0_1.length c0_1)] 29 (0, 0))) ∧ Aside0 (Below w.heap.size w wc))
   case first =>
    have H := HC9.out
    clear HC9
    by_cases c10 : x19_3 = true
    ·
     subst c10
     have H1 : (tariff_Total.j1 kj3 l1 3 a0_0 l0_1) = some (r1, r2) := by rw [if_pos rfl] at H; exact H
     clear H
     have H := H1
     clear H1
     have H' := Aside0.mk H
     clear H
     go_wp2
     go_meet
     case rel => exact ⟨_, (3), (by first | rfl | (simp; done) | (simp [*]; done)), H', ⟨by have := HJ3.out; first | omega | exact Nat.le_refl _⟩, ⟨by (with_reducible repeat (first | refine blk_drewN ?_ _ | refine blk_drew ?_ | refine blk_alloc ?_ _)); exact BK269.out⟩, ⟨by repeat (first | (with_reducible first | exact HB.out | apply below_alloc | apply pw_below_drewN | apply below_drew1 | refine below_set ?_ GE269.out) | exact HB.out)⟩⟩
    ·
     replace c10 := Bool.eq_false_iff.mpr c10
     subst c10
     have H1 : (tariff_Total.j1 kj3 l1 t270 a0_0 l0_1) = some (r1, r2) := by rw [if_neg (show ¬ (false = true) by decide)] at H; exact H
     clear H
     have H := H1
     clear H1
     have H' := Aside0.mk H
     clear H
     go_wp2
     go_meet
     case rel => exact ⟨_, (t270), (by first | rfl | (simp; done) | (simp [*]; done)), H', ⟨by have := HJ3.out; first | omega | exact Nat.le_refl _⟩, ⟨by (with_reducible repeat (first | refine blk_drewN ?_ _ | refine blk_drew ?_ | refine blk_alloc ?_ _)); exact BK269.out⟩, ⟨by repeat (first | (with_reducible first | exact HB.out | apply below_alloc | apply pw_below_drewN | apply below_drew1 | refine below_set ?_ GE269.out) | exact HB.out)⟩⟩
   case rest =>
    clear HC9
    try clear c1
    try clear c2
    try clear p2
    try clear c3
    try clear c8
    try clear c8b0
    try clear c8b1
    try clear c10
    try clear hcz6_0
    try clear hcz6_1
    try clear hfz6_0
    try clear hfz6_1
    try clear p2
    obtain ⟨kq, x6_8, rfl, HA, HJ8, BK269, HB⟩ := hcut
    cases kq with
    | zero => exact absurd HA.out (by simp [tariff_Total.j1])
    | succ kj8 =>
     have H := HA.out
     clear HA
     simp only [tariff_Total.j1] at H
     by_cases c11 : x6_8 = 0
     ·
      rw [if_pos c11] at H
      have c11b0 : (x6_8 == 0) = true := beq_iff_eq.mpr c11
      have c11b1 : (x6_8 != 0) = false := bne_eq_false_iff_eq.mpr c11
      clear c11
      have H' := Aside0.mk H
      clear H
      go_wp2
      go_loopg [7, 25] kj8 (fun kq v7 v25 w' => ∃ (x7_3 : Int) (x25_3 : Int), v7 = .int .i64 x7_3 ∧ v25 = .int .i64 x25_3 ∧ Aside0 (tariff_Total.l0 kq x7_3 l1 (l1.length : Int) x25_3 a0_0 l0_1 = some (r1, r2)) ∧ Aside0 (kq ≤ kj8) ∧ Aside0 (w'.heap[gb269]? = some (.cells #[.string a0_0, (.slice A0_1 l0_1.length c0_1)] 29 (0, 0))) ∧ Aside0 (Below w.heap.size w w'))
      case atStart => exact ⟨(0), (0), (by first | rfl | (simp; done) | (simp [*]; done)), (by first | rfl | (simp; done) | (simp [*]; done)), H', ⟨Nat.le_refl _⟩, ⟨by (with_reducible repeat (first | refine blk_drewN ?_ _ | refine blk_drew ?_ | refine blk_alloc ?_ _)); exact BK269.out⟩, ⟨by repeat (first | (with_reducible first | exact HB.out | apply below_alloc | apply pw_below_drewN | apply below_drew1 | refine below_set ?_ GE269.out) | exact HB.out)⟩⟩
      case round =>
       clear H'
       try clear c1
       try clear c2
       try clear p2
       try clear c3
       try clear c8
       try clear c8b0
       try clear c8b1
       try clear c10
       try clear c11
       try clear c11b0
       try clear c11b1
       try clear hcz6_0
       try clear hcz6_1
       try clear hfz6_0
       try clear hfz6_1
       try clear p2
       obtain ⟨x7_3, x25_3, rfl, rfl, HA, HK3, BK269, HB⟩ := hrel
       cases gk with
       | zero => exact absurd HA.out (by simp [tariff_Total.l0])
       | succ k3 =>
        have H := HA.out
        clear HA
        simp only [tariff_Total.l0] at H
        by_cases c12 : x25_3 < (l1.length : Int)
        ·
         rw [if_pos c12] at H
         have c12b0 : decide (x25_3 < (l1.length : Int)) = true := decide_eq_true c12
         clear c12
         by_cases c13 : 0 ≤ x25_3
         ·
          rw [if_pos c13] at H
          have c13b0 : decide (0 ≤ x25_3) = true := decide_eq_true c13
          clear c13
          by_cases c14 : x25_3 < (l1.length : Int)
          ·
           rw [if_pos c14] at H
           have c14b0 : decide (x25_3 < (l1.length : Int)) = true := decide_eq_true c14
           clear c14
           replace H := Option.bind_eq_some_iff.mp H
           obtain ⟨t272, A150, H⟩ := H
           replace H : (tariff_Total.l0 k3 (wrap64 (x7_3 + t272)) l1 (l1.length : Int) (wrap64 (x25_3 + 1)) a0_0 l0_1) = some (r1, r2) := H
           have A15 := Aside0.mk A150
           clear A150
           have H' := Aside0.mk H
           clear H
           have p271 : 0 ≤ (x25_3 : Int) := of_decide_eq_true (by first | (with_reducible assumption) | assumption)
           have q271 : x25_3 < (l1.length : Int) := of_decide_eq_true (by first | (with_reducible assumption) | assumption)
           obtain ⟨ad271, e271, hx271_0⟩ := Kd.at_int HR1.out x25_3 p271 q271
           cases e271
           replace hx271_0 := (HB.out.cell (World.block_lt_of_cell? w _ hx271_0)).trans hx271_0
           replace p271 := eq_true p271
           replace q271 := eq_true q271
           have hcz16_0 : wr.cell? ⟨gb269, 0, none⟩ = some (.string a0_0) := (blk_cell BK269.out 0).trans rfl
           have hcz16_1 : wr.cell? ⟨gb269, 1, none⟩ = some (.slice A0_1 l0_1.length c0_1) := (blk_cell BK269.out 1).trans rfl
           have hfz16_0 := blk_frozen BK269.out 0
           have hfz16_1 := blk_frozen BK269.out 1
           go_wp2_with (first | ((with_reducible refine gate_callee (f := 38) rfl ?_); refine goesL_ (some 32) rfl rfl Tryd.func38 (by kernel_rfl) rfl #[.agg #[.string a0_0, .slice A0_1 l0_1.length c0_1], .int .i64 (rd l1 x25_3)] rfl (by (try simp only [List.map_toArray, List.map_cons, List.map_nil]); first | done | rfl | (simp only [List.length_drop, List.length_take]; rfl)) ?_; (with_reducible refine (tariff_value.calls a0_0 _ _ l0_1 (rd l1 x25_3) t272 _ ?side1 ?side2 A15.out).mono ?_); (case side1 => repeat (first | exact (Kd.C_below HR0_1.out HB.out) | (with_reducible refine Kd.C_alloc ?_ _) | (with_reducible refine Kd.C_drewN ?_ _) | (with_reducible refine Kd.C_drew ?_))); (case side2 => exact HC0_1.out); rintro e w17 ⟨rfl, hb⟩; refine ⟨_, rfl, ?_⟩; have n0_ := Aside0.mk (blk_below (g := gb269) (o := .cells #[.string a0_0, .slice A0_1 l0_1.length c0_1] 29 (0, 0)) (by (with_reducible repeat (first | refine blk_drewN ?_ _ | refine blk_drew ?_ | refine blk_alloc ?_ _)); exact BK269.out) hb); have n1_ := Aside0.mk (below_step (by repeat (first | (with_reducible first | exact HB.out | apply below_alloc | apply pw_below_drewN | apply below_drew1 | refine below_set ?_ GE269.out) | exact HB.out)) hb); clear BK269; clear HB; have BK269 := n0_; have HB := n1_; clear n0_ n1_; (try clear hb); (try clear hb2); (try clear hk); (try clear hi)))
           go_roundg k3
           case measure => have := HJ3.out; have := HJ8.out; have := HK3.out; omega
           case rel => exact ⟨(wrap64 (x7_3 + t272)), (wrap64 (x25_3 + 1)), (by first | rfl | (simp; done) | (simp [*]; done)), (by first | rfl | (simp; done) | (simp [*]; done)), H', ⟨by have := HJ3.out; have := HJ8.out; have := HK3.out; omega⟩, ⟨by (with_reducible repeat (first | refine blk_drewN ?_ _ | refine blk_drew ?_ | refine blk_alloc ?_ _)); exact BK269.out⟩, ⟨by repeat (first | (with_reducible first | exact HB.out | apply below_alloc | apply pw_below_drewN | apply below_drew1 | refine below_set ?_ GE269.out) | exact HB.out)⟩⟩
          ·
           rw [if_neg c14] at H
           exact absurd H (by simp)
         ·
          rw [if_neg c13] at H
          exact absurd H (by simp)
        ·
         rw [if_neg c12] at H
         have c12b0 : decide (x25_3 < (l1.length : Int)) = false := decide_eq_false c12
         clear c12
         simp only [Option.some.injEq, Prod.mk.injEq] at H
         obtain ⟨rfl, rfl⟩ := H
         go_wp2
         go_ret2
         exact ⟨by first | rfl | (simp [errW_none, errW_some] <;> rfl) | (simp [*, errW_none, errW_some] <;> rfl), by repeat (first | (with_reducible first | exact HB.out | apply below_alloc | apply pw_below_drewN | apply below_drew1 | refine below_set ?_ GE269.out) | exact HB.out)⟩
     ·
      rw [if_neg c11] at H
      have c11b0 : (x6_8 == 0) = false := beq_eq_false_iff_ne.mpr c11
      have c11b1 : (x6_8 != 0) = true := bne_iff_ne.mpr c11
      simp only [Option.some.injEq, Prod.mk.injEq] at H
      obtain ⟨rfl, rfl⟩ := H
      go_wp2
      go_ret2
      exact ⟨by first | rfl | (simp [errW_none, errW_some] <;> rfl) | (simp [*, errW_none, errW_some] <;> rfl), by repeat (first | (with_reducible first | exact HB.out | apply below_alloc | apply pw_below_drewN | apply below_drew1 | refine below_set ?_ GE269.out) | exact HB.out)⟩

end Go.Proofs.YtejgenhmhahgeaaDoor.T
