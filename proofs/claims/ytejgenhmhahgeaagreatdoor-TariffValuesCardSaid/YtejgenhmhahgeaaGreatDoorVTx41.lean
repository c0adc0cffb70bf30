-- Written by this session's own programs; what the law does not lean on is left out. Lean checks it.
import Derived.Test.YtejgenhmhahgeaaGreatDoorVS
import Derived.Test.YtejgenhmhahgeaaGreatDoorVTx35
namespace Go.Proofs.YtejgenhmhahgeaaGreatDoor.T
open Go.RowKit Go.Proofs.YtejgenhmhahgeaaGreatDoorW.PrintWords Go.Proofs.YtejgenhmhahgeaaGreatDoorW.PrintLast Go.Proofs.YtejgenhmhahgeaaGreatDoorW.PrintMore
attribute [local go_sem] max2_int max_two
set_option linter.unusedVariables false
set_option linter.unusedSimpArgs false

mutual
def culetref44_Least.l0 : Nat → Int → Int → ByteArray → List (S43) → Option (Int × Int)
 | 0, _, _, _, _ => none
 | k + 1, x1, x6, x239000, x239001 => if x6 < (x239001.length : Int) then (if 0 ≤ x6 then (if (wrap64 (x6 + 1)) < (x239001.length : Int) then (if 0 ≤ (wrap64 (x6 + 1)) then (culetref44_Least.j1 k x1 x6 ((rd_T43 x239001 x6).f0) (wrap64 (((rd_T43 x239001 (wrap64 (x6 + 1))).f0) - 1)) x239000 x239001) else (none)) else (culetref44_Least.j1 k x1 x6 ((rd_T43 x239001 x6).f0) 1000000 x239000 x239001)) else (none)) else (some (0, 7))
def culetref44_Least.j1 : Nat → Int → Int → Int → Int → ByteArray → List (S43) → Option (Int × Int)
 | 0, _, _, _, _, _, _ => none
 | k + 1, x1, x6, x7, x8, x239000, x239001 => if 0 ≤ x6 then (if x6 < (x239001.length : Int) then (if (wrap64 (Int.tdiv (wrap64 (x8 * ((rd_T43 x239001 x6).f1))) 1000)) < x1 then (culetref44_Least.l0 k x1 (wrap64 (x6 + 1)) x239000 x239001) else (culetref44_Least.l1 k x1 x6 x7 x8 x239000 x239001)) else (none)) else (none)
def culetref44_Least.l1 : Nat → Int → Int → Int → Int → ByteArray → List (S43) → Option (Int × Int)
 | 0, _, _, _, _, _, _ => none
 | k + 1, x1, x6, x7, x8, x239000, x239001 => if x7 < x8 then (if 0 ≤ x6 then (if x6 < (x239001.length : Int) then (if (wrap64 (Int.tdiv (wrap64 ((wrap64 (x7 + (wrap64 (Int.tdiv (wrap64 (x8 - x7)) 2)))) * ((rd_T43 x239001 x6).f1))) 1000)) < x1 then (culetref44_Least.l1 k x1 x6 (wrap64 ((wrap64 (x7 + (wrap64 (Int.tdiv (wrap64 (x8 - x7)) 2)))) + 1)) x8 x239000 x239001) else (culetref44_Least.l1 k x1 x6 x7 (wrap64 (x7 + (wrap64 (Int.tdiv (wrap64 (x8 - x7)) 2)))) x239000 x239001)) else (none)) else (none)) else (some (x7, 0))
end
def culetref44_Least.f (k : Nat) (a0_0 : ByteArray) (l0_1 : List (S43)) (a1 : Int) : Option (Int × Int) := (culetref44_Valid.f k a0_0 l0_1).bind fun t239 => (if t239 = true then (culetref44_Least.l0 k a1 0 a0_0 l0_1) else (some (0, 1)))
set_option maxHeartbeats 8000000 in
set_option maxRecDepth 100000 in
theorem culetref44_Least.calls (k : Nat) (a0_0 : ByteArray) (A0_1 : Option Addr) (c0_1 : Nat) (l0_1 : List (S43)) (a1 : Int) (r1 : Int) (r2 : Int) (w : World) (hr0_1 : Kd.C k43 w A0_1 l0_1.length l0_1) (hc0_1 : l0_1.length ≤ c0_1) (h : culetref44_Least.f k a0_0 l0_1 a1 = some (r1, r2)) :
  Calls Tryz.prog 14 #[.agg #[.string a0_0, .slice A0_1 l0_1.length c0_1], .int .i64 a1] w fun e w' => e = .returned (.tuple #[.int .i64 r1, .int .i64 r2]) ∧ Below w.heap.size w w' := by
 have hu24 := Tryz.underlying24
 have HR0_1 := Aside0.mk hr0_1
 have HC0_1 := Aside0.mk hc0_1
 clear hr0_1 hc0_1
 have HB := Aside0.mk (Below.refl w.heap.size w)
 have H : ((culetref44_Valid.f k a0_0 l0_1).bind fun t239 => (if t239 = true then (culetref44_Least.l0 k a1 0 a0_0 l0_1) else (some (0, 1)))) = some (r1, r2) := h
 clear h
 replace H := Option.bind_eq_some_iff.mp H
 obtain ⟨t239, A30, H⟩ := H
 replace H : (if t239 = true then (culetref44_Least.l0 k a1 0 a0_0 l0_1) else (some (0, 1))) = some (r1, r2) := H
 have A3 := Aside0.mk A30
 clear A30
 by_cases c4 : t239 = true
 ·
  subst c4
  have H1 : (culetref44_Least.l0 k a1 0 a0_0 l0_1) = some (r1, r2) := by rw [if_pos rfl] at H; exact H
  clear H
  have H := H1
  clear H1
  have H' := Aside0.mk H
  clear H
  go_enter Tryz.func14, Tryz.ntmps14
  go_wp2_with (first | ((with_reducible refine gate_dst (N := 2) rfl ?_); refine box_event ?hg (N := 2) ?hd (cs := #[.string a0_0, .slice A0_1 l0_1.length c0_1]) (t := 24) ?hr ?_; (case hd => rfl); (case hg => rfl); (case hr => first | (go_simp; done) | (go_simp; rfl)); intro gb238 hg w5 hbox hb; have n0_ := Aside0.mk (below_step (by repeat (first | (with_reducible first | exact HB.out | apply below_alloc | apply pw_below_drewN | apply below_drew1) | exact HB.out)) hb); have n1_ := Aside0.mk (hbox); have n2_ := Aside0.mk ((by rw [hg]; exact (below_size (by repeat (first | (with_reducible first | exact HB.out | apply below_alloc | apply pw_below_drewN | apply below_drew1) | exact HB.out))) : w.heap.size ≤ gb238)); have n3_ := Aside0.mk ((by rw [hg]; exact (below_size (by repeat (first | (with_reducible first | exact HB.out | apply below_alloc | apply pw_below_drewN | apply below_drew1) | exact HB.out))) : w.heap.size ≤ gb238)); clear HB; have HB := n0_; have BK238 := n1_; have GW238 := n2_; have GE238 := n3_; clear n0_ n1_ n2_ n3_; clear hb hbox hg; have hcz6_0 : w5.cell? ⟨gb238, 0, none⟩ = some (.string a0_0) := (blk_cell BK238.out 0).trans rfl; have hcz6_1 : w5.cell? ⟨gb238, 1, none⟩ = some (.slice A0_1 l0_1.length c0_1) := (blk_cell BK238.out 1).trans rfl; have hfz6_0 := blk_frozen BK238.out 0; have hfz6_1 := blk_frozen BK238.out 1) | ((with_reducible refine gate_callee (f := 22) rfl ?_); refine goesL_ (some 11) rfl rfl Tryz.func22 (by kernel_rfl) rfl #[.agg #[.string a0_0, .slice A0_1 l0_1.length c0_1]] rfl (by (try simp only [List.map_toArray, List.map_cons, List.map_nil]); first | done | rfl | (simp only [List.length_drop, List.length_take]; rfl)) ?_; (with_reducible refine (culetref44_Valid.calls k a0_0 _ _ l0_1 true _ ?side1 ?side2 A3.out).mono ?_); (case side1 => repeat (first | exact (Kd.C_below HR0_1.out HB.out) | (with_reducible refine Kd.C_alloc ?_ _) | (with_reducible refine Kd.C_drewN ?_ _) | (with_reducible refine Kd.C_drew ?_))); (case side2 => exact HC0_1.out); rintro e w7 ⟨rfl, hb⟩; refine ⟨_, rfl, ?_⟩; have n0_ := Aside0.mk (blk_below (g := gb238) (o := .cells #[.string a0_0, .slice A0_1 l0_1.length c0_1] 24 (0, 0)) (by (with_reducible repeat (first | refine blk_drewN ?_ _ | refine blk_drew ?_ | refine blk_alloc ?_ _)); exact BK238.out) hb); have n1_ := Aside0.mk (below_step (by repeat (first | (with_reducible first | exact HB.out | apply below_alloc | apply pw_below_drewN | apply below_drew1 | refine below_set ?_ GE238.out) | exact HB.out)) hb); clear BK238; clear HB; have BK238 := n0_; have HB := n1_; clear n0_ n1_; (try clear hb); (try clear hb2); (try clear hk); (try clear hi)))
  go_loopg [6] k (fun kq v6 w' => ∃ (x6_1 : Int), v6 = .int .i64 x6_1 ∧ Aside0 (culetref44_Least.l0 kq a1 x6_1 a0_0 l0_1 = some (r1, r2)) ∧ Aside0 (kq ≤ k) ∧ Aside0 (w'.heap[gb238]? = some (.cells #[.string a0_0, (.slice A0_1 l0_1.length c0_1)] 24 (0, 0))) ∧ Aside0 (Below w.heap.size w w'))
  case atStart => exact ⟨(0), (by first | rfl | (simp; done) | (simp [*]; done)), H', ⟨Nat.le_refl _⟩, ⟨by (with_reducible repeat (first | refine blk_drewN ?_ _ | refine blk_drew ?_ | refine blk_alloc ?_ _)); exact BK238.out⟩, ⟨by repeat (first | (with_reducible first | exact HB.out | apply below_alloc | apply pw_below_drewN | apply below_drew1 | refine below_set ?_ GE238.out) | exact HB.out)⟩⟩
  case round =>
   clear H'
   try clear c1
   try clear c2
   try clear p2
   try clear c4
   try clear hcz6_0
   try clear hcz6_1
   try clear hfz6_0
   try clear hfz6_1
   obtain ⟨x6_1, rfl, HA, HK1, BK238, HB⟩ := hrel
   cases gk with
   | zero => exact absurd HA.out (by simp [culetref44_Least.l0])
   | succ k1 =>
    have H := HA.out
    clear HA
    simp only [culetref44_Least.l0] at H
    by_cases c8 : x6_1 < (l0_1.length : Int)
    ·
     rw [if_pos c8] at H
     have c8b0 : decide (x6_1 < (l0_1.length : Int)) = true := decide_eq_true c8
     clear c8
     by_cases c9 : 0 ≤ x6_1
     ·
      rw [if_pos c9] at H
      have c9b0 : decide (0 ≤ x6_1) = true := decide_eq_true c9
      clear c9
      have HC10 := Aside0.mk H
      clear H
      have hcz11_0 : wr.cell? ⟨gb238, 0, none⟩ = some (.string a0_0) := (blk_cell BK238.out 0).trans rfl
      have hcz11_1 : wr.cell? ⟨gb238, 1, none⟩ = some (.slice A0_1 l0_1.length c0_1) := (blk_cell BK238.out 1).trans rfl
      have hfz11_0 := blk_frozen BK238.out 0
      have hfz11_1 := blk_frozen BK238.out 1
      have p240 : 0 ≤ (x6_1 : Int) := of_decide_eq_true (by first | (with_reducible assumption) | assumption)
      have q240 : x6_1 < (l0_1.length : Int) := of_decide_eq_true (by first | (with_reducible assumption) | assumption)
      obtain ⟨ad240, e240, hx240_0, hx240_1⟩ := at_T43 HR0_1.out x6_1 p240 q240
      cases e240
      replace hx240_0 := (HB.out.cell (World.block_lt_of_cell? w _ hx240_0)).trans hx240_0
      replace hx240_1 := (HB.out.cell (World.block_lt_of_cell? w _ hx240_1)).trans hx240_1
      replace p240 := eq_true p240
      replace q240 := eq_true q240
      go_upto_if 31 with (fail)
      go_cut [8] (fun v8 wc => ∃ (kq : Nat) (x8_9 : Int), v8 = .int .i64 x8_9 ∧ Aside0 (culetref44_Least.j1 kq a1 x6_1 ((rd_T43 l0_1 x6_1).f0) x8_9 a0_0 l0_1 = some (r1, r2)) ∧ Aside0 (kq ≤ k1) ∧ Aside0 (wc.heap[gb238]? = some (.cells #[.string a0_0, (.slice (some ad240) l0_1.length c0_1)] 24 (0, 0))) ∧ Aside0 (Below w.heap.size w wc))
      case first =>
       have H := HC10.out
       clear HC10
       by_cases c12 : (wrap64 (x6_1 + 1)) < (l0_1.length : Int)
       ·
        rw [if_pos c12] at H
        have c12b0 : decide ((wrap64 (x6_1 + 1)) < (l0_1.length : Int)) = true := decide_eq_true c12
        clear c12
        (first | rw [c12b0] | (simp only [i64_w, i32_w]; rw [c12b0]) | skip)
        obtain ⟨ji13, hji13⟩ : ∃ j_ : Int, (wrap64 (x6_1 + 1)) = j_ := ⟨_, rfl⟩
        replace H : (if 0 ≤ (ji13) then (culetref44_Least.j1 k1 a1 x6_1 ((rd_T43 l0_1 x6_1).f0) (wrap64 (((rd_T43 l0_1 (ji13)).f0) - 1)) a0_0 l0_1) else (none)) = some (r1, r2) := by first | (rw [hji13] at H; exact H) | (simp only [hji13] at H ⊢; exact H)
        (try rw [hji13] at c12b0)
        have hji13w : (IntKind.i64.wrap (x6_1 + 1)) = ji13 := (i64_w _).trans hji13
        by_cases c14 : 0 ≤ (ji13)
        ·
         rw [if_pos c14] at H
         have c14b0 : decide (0 ≤ (ji13)) = true := decide_eq_true c14
         clear c14
         have H' := Aside0.mk H
         clear H
         have hcz15_0 : wr.cell? ⟨gb238, 0, none⟩ = some (.string a0_0) := (blk_cell BK238.out 0).trans rfl
         have hcz15_1 : wr.cell? ⟨gb238, 1, none⟩ = some (.slice (some ad240) l0_1.length c0_1) := (blk_cell BK238.out 1).trans rfl
         have hfz15_0 := blk_frozen BK238.out 0
         have hfz15_1 := blk_frozen BK238.out 1
         have p241 : 0 ≤ ((ji13) : Int) := of_decide_eq_true (by first | (with_reducible assumption) | assumption)
         have q241 : (ji13) < (l0_1.length : Int) := of_decide_eq_true (by first | (with_reducible assumption) | assumption)
         obtain ⟨ad241, e241, hx241_0, hx241_1⟩ := at_T43 HR0_1.out (ji13) p241 q241
         obtain rfl : ad240 = ad241 := (by injection e241)
         replace hx241_0 := (HB.out.cell (World.block_lt_of_cell? w _ hx241_0)).trans hx241_0
         replace hx241_1 := (HB.out.cell (World.block_lt_of_cell? w _ hx241_1)).trans hx241_1
         replace p241 := eq_true p241
         replace q241 := eq_true q241
         go_wp2
         go_meet
         case rel => exact ⟨_, (wrap64 (((rd_T43 l0_1 (ji13)).f0) - 1)), (by first | rfl | (simp; done) | (simp only [← hji13] <;> (first | rfl | simp)) | (simp [*]; done)), H', ⟨by have := HK1.out; first | omega | exact Nat.le_refl _⟩, ⟨by (with_reducible repeat (first | refine blk_drewN ?_ _ | refine blk_drew ?_ | refine blk_alloc ?_ _)); exact BK238.out⟩, ⟨by repeat (first | (with_reducible first | exact HB.out | apply below_alloc | apply pw_below_drewN | apply below_drew1 | refine below_set ?_ GE238.out) | exact HB.out)⟩⟩
        ·
         rw [if_neg c14] at H
         exact absurd H (by simp)
       ·
        rw [if_neg c12] at H
        have c12b0 : decide ((wrap64 (x6_1 + 1)) < (l0_1.length : Int)) = false := decide_eq_false c12
        clear c12
        (first | rw [c12b0] | (simp only [i64_w, i32_w]; rw [c12b0]) | skip)
        have H' := Aside0.mk H
        clear H
        go_wp2
        go_meet
        case rel => exact ⟨_, (1000000), (by first | rfl | (simp; done) | (simp [*]; done)), H', ⟨by have := HK1.out; first | omega | exact Nat.le_refl _⟩, ⟨by (with_reducible repeat (first | refine blk_drewN ?_ _ | refine blk_drew ?_ | refine blk_alloc ?_ _)); exact BK238.out⟩, ⟨by repeat (first | (with_reducible first | exact HB.out | apply below_alloc | apply pw_below_drewN | apply below_drew1 | refine below_set ?_ GE238.out) | exact HB.out)⟩⟩
      case rest =>
       clear HC10
       try clear c1
       try clear c2
       try clear p2
       try clear q2
       try clear hx2
       try clear c4
       try clear p6
       try clear c8
       try clear c8b0
       try clear c9
       try clear c9b0
       try clear c12
       try clear c12b0
       try clear c14
       try clear c14b0
       try clear hcz11_0
       try clear hcz11_1
       try clear hcz15_0
       try clear hcz15_1
       try clear hcz6_0
       try clear hcz6_1
       try clear hfz11_0
       try clear hfz11_1
       try clear hfz15_0
       try clear hfz15_1
       try clear hfz6_0
       try clear hfz6_1
       try clear hx240_0
       try clear hx240_1
       try clear hx241_0
       try clear hx241_1
       try clear p2
       try clear p240
       try clear p241
       try clear q240
       try clear q241
       obtain ⟨kq, x8_9, rfl, HA, HJ9, BK238, HB⟩ := hcut
       cases kq with
       | zero => exact absurd HA.out (by simp [culetref44_Least.j1])
       | succ kj9 =>
        have H := HA.out
        clear HA
        simp only [culetref44_Least.j1] at H
        by_cases c16 : 0 ≤ x6_1
        ·
         rw [if_pos c16] at H
         have c16b0 : decide (0 ≤ x6_1) = true := decide_eq_true c16
         clear c16
         by_cases c17 : x6_1 < (l0_1.length : Int)
         ·
          rw [if_pos c17] at H
          have c17b0 : decide (x6_1 < (l0_1.length : Int)) = true := decide_eq_true c17
          clear c17
          by_cases c18 : (wrap64 (Int.tdiv (wrap64 (x8_9 * ((rd_T43 l0_1 x6_1).f1))) 1000)) < a1
          ·
           rw [if_pos c18] at H
           have c18b0 : decide ((wrap64 (Int.tdiv (wrap64 (x8_9 * ((rd_T43 l0_1 x6_1).f1))) 1000)) < a1) = true := decide_eq_true c18
           clear c18
           have H' := Aside0.mk H
           clear H
           have hcz19_0 : wc.cell? ⟨gb238, 0, none⟩ = some (.string a0_0) := (blk_cell BK238.out 0).trans rfl
           have hcz19_1 : wc.cell? ⟨gb238, 1, none⟩ = some (.slice (some ad240) l0_1.length c0_1) := (blk_cell BK238.out 1).trans rfl
           have hfz19_0 := blk_frozen BK238.out 0
           have hfz19_1 := blk_frozen BK238.out 1
           have p242 : 0 ≤ (x6_1 : Int) := of_decide_eq_true (by first | (with_reducible assumption) | assumption)
           have q242 : x6_1 < (l0_1.length : Int) := of_decide_eq_true (by first | (with_reducible assumption) | assumption)
           obtain ⟨ad242, e242, hx242_0, hx242_1⟩ := at_T43 HR0_1.out x6_1 p242 q242
           obtain rfl : ad240 = ad242 := (by injection e242)
           replace hx242_0 := (HB.out.cell (World.block_lt_of_cell? w _ hx242_0)).trans hx242_0
           replace hx242_1 := (HB.out.cell (World.block_lt_of_cell? w _ hx242_1)).trans hx242_1
           replace p242 := eq_true p242
           replace q242 := eq_true q242
           go_wp2
           go_roundg kj9
           case measure => have := HK1.out; have := HJ9.out; omega
           case rel => exact ⟨(wrap64 (x6_1 + 1)), (by first | rfl | (simp; done) | (simp [*]; done)), H', ⟨by have := HK1.out; have := HJ9.out; omega⟩, ⟨by (with_reducible repeat (first | refine blk_drewN ?_ _ | refine blk_drew ?_ | refine blk_alloc ?_ _)); exact BK238.out⟩, ⟨by repeat (first | (with_reducible first | exact HB.out | apply below_alloc | apply pw_below_drewN | apply below_drew1 | refine below_set ?_ GE238.out) | exact HB.out)⟩⟩
          ·
           rw [if_neg c18] at H
           have c18b0 : decide ((wrap64 (Int.tdiv (wrap64 (x8_9 * ((rd_T43 l0_1 x6_1).f1))) 1000)) < a1) = false := decide_eq_false c18
           clear c18
           have H' := Aside0.mk H
           clear H
           have hcz20_0 : wc.cell? ⟨gb238, 0, none⟩ = some (.string a0_0) := (blk_cell BK238.out 0).trans rfl
           have hcz20_1 : wc.cell? ⟨gb238, 1, none⟩ = some (.slice (some ad240) l0_1.length c0_1) := (blk_cell BK238.out 1).trans rfl
           have hfz20_0 := blk_frozen BK238.out 0
           have hfz20_1 := blk_frozen BK238.out 1
           have p242 : 0 ≤ (x6_1 : Int) := of_decide_eq_true (by first | (with_reducible assumption) | assumption)
           have q242 : x6_1 < (l0_1.length : Int) := of_decide_eq_true (by first | (with_reducible assumption) | assumption)
           obtain ⟨ad242, e242, hx242_0, hx242_1⟩ := at_T43 HR0_1.out x6_1 p242 q242
           obtain rfl : ad240 = ad242 := (by injection e242)
           replace hx242_0 := (HB.out.cell (World.block_lt_of_cell? w _ hx242_0)).trans hx242_0
           replace hx242_1 := (HB.out.cell (World.block_lt_of_cell? w _ hx242_1)).trans hx242_1
           replace p242 := eq_true p242
           replace q242 := eq_true q242
           go_wp2
           go_loopg [7, 8] kj9 (fun kq v7 v8 w' => ∃ (x7_3 : Int) (x8_3 : Int), v7 = .int .i64 x7_3 ∧ v8 = .int .i64 x8_3 ∧ Aside0 (culetref44_Least.l1 kq a1 x6_1 x7_3 x8_3 a0_0 l0_1 = some (r1, r2)) ∧ Aside0 (kq ≤ kj9) ∧ Aside0 (w'.heap[gb238]? = some (.cells #[.string a0_0, (.slice (some ad240) l0_1.length c0_1)] 24 (0, 0))) ∧ Aside0 (Below w.heap.size w w'))
           case atStart => exact ⟨(((rd_T43 l0_1 x6_1).f0)), (x8_9), (by first | rfl | (simp; done) | (simp [*]; done)), (by first | rfl | (simp; done) | (simp [*]; done)), H', ⟨Nat.le_refl _⟩, ⟨by (with_reducible repeat (first | refine blk_drewN ?_ _ | refine blk_drew ?_ | refine blk_alloc ?_ _)); exact BK238.out⟩, ⟨by repeat (first | (with_reducible first | exact HB.out | apply below_alloc | apply pw_below_drewN | apply below_drew1 | refine below_set ?_ GE238.out) | exact HB.out)⟩⟩
           case round =>
            clear H'
            try clear c1
            try clear c2
            try clear p2
            try clear q2
            try clear hx2
            try clear c4
            try clear p6
            try clear c8
            try clear c8b0
            try clear c9
            try clear c9b0
            try clear c12
            try clear c12b0
            try clear c14
            try clear c14b0
            try clear c16
            try clear c16b0
            try clear c17
            try clear c17b0
            try clear c18
            try clear c18b0
            try clear hcz11_0
            try clear hcz11_1
            try clear hcz15_0
            try clear hcz15_1
            try clear hcz19_0
            try clear hcz19_1
            try clear hcz20_0
            try clear hcz20_1
            try clear hcz6_0
            try clear hcz6_1
            try clear hfz11_0
            try clear hfz11_1
            try clear hfz15_0
            try clear hfz15_1
            try clear hfz19_0
            try clear hfz19_1
            try clear hfz20_0
            try clear hfz20_1
            try clear hfz6_0
            try clear hfz6_1
            try clear hx240_0
            try clear hx240_1
            try clear hx241_0
            try clear hx241_1
            try clear hx242_0
            try clear hx242_1
            try clear p2
            try clear p240
            try clear p241
            try clear p242
            try clear p6
            try clear q2
            try clear q240
            try clear q241
            try clear q242
            obtain ⟨x7_3, x8_3, rfl, rfl, HA, HK3, BK238, HB⟩ := hrel
            cases gk with
            | zero => exact absurd HA.out (by simp [culetref44_Least.l1])
            | succ k3 =>
             have H := HA.out
             clear HA
             simp only [culetref44_Least.l1] at H
             by_cases c21 : x7_3 < x8_3
             ·
              rw [if_pos c21] at H
              have c21b0 : decide (x7_3 < x8_3) = true := decide_eq_true c21
              clear c21
              by_cases c22 : 0 ≤ x6_1
              ·
               rw [if_pos c22] at H
               have c22b0 : decide (0 ≤ x6_1) = true := decide_eq_true c22
               clear c22
               by_cases c23 : x6_1 < (l0_1.length : Int)
               ·
                rw [if_pos c23] at H
                have c23b0 : decide (x6_1 < (l0_1.length : Int)) = true := decide_eq_true c23
                clear c23
                by_cases c24 : (wrap64 (Int.tdiv (wrap64 ((wrap64 (x7_3 + (wrap64 (Int.tdiv (wrap64 (x8_3 - x7_3)) 2)))) * ((rd_T43 l0_1 x6_1).f1))) 1000)) < a1
                ·
                 rw [if_pos c24] at H
                 have c24b0 : decide ((wrap64 (Int.tdiv (wrap64 ((wrap64 (x7_3 + (wrap64 (Int.tdiv (wrap64 (x8_3 - x7_3)) 2)))) * ((rd_T43 l0_1 x6_1).f1))) 1000)) < a1) = true := decide_eq_true c24
                 clear c24
                 have H' := Aside0.mk H
                 clear H
                 have hcz25_0 : wr.cell? ⟨gb238, 0, none⟩ = some (.string a0_0) := (blk_cell BK238.out 0).trans rfl
                 have hcz25_1 : wr.cell? ⟨gb238, 1, none⟩ = some (.slice (some ad240) l0_1.length c0_1) := (blk_cell BK238.out 1).trans rfl
                 have hfz25_0 := blk_frozen BK238.out 0
                 have hfz25_1 := blk_frozen BK238.out 1
                 have p243 : 0 ≤ (x6_1 : Int) := of_decide_eq_true (by first | (with_reducible assumption) | assumption)
                 have q243 : x6_1 < (l0_1.length : Int) := of_decide_eq_true (by first | (with_reducible assumption) | assumption)
                 obtain ⟨ad243, e243, hx243_0, hx243_1⟩ := at_T43 HR0_1.out x6_1 p243 q243
                 obtain rfl : ad240 = ad243 := (by injection e243)
                 replace hx243_0 := (HB.out.cell (World.block_lt_of_cell? w _ hx243_0)).trans hx243_0
                 replace hx243_1 := (HB.out.cell (World.block_lt_of_cell? w _ hx243_1)).trans hx243_1
                 replace p243 := eq_true p243
                 replace q243 := eq_true q243
                 go_wp2
                 go_roundg k3
                 case measure => have := HK1.out; have := HJ9.out; have := HK3.out; omega
                 case rel => exact ⟨(wrap64 ((wrap64 (x7_3 + (wrap64 (Int.tdiv (wrap64 (x8_3 - x7_3)) 2)))) + 1)), (x8_3), (by first | rfl | (simp; done) | (simp [*]; done)), (by first | rfl | (simp; done) | (simp [*]; done)), H', ⟨by have := HK1.out; have := HJ9.out; have := HK3.out; omega⟩, ⟨by (with_reducible repeat (first | refine blk_drewN ?_ _ | refine blk_drew ?_ | refine blk_alloc ?_ _)); exact BK238.out⟩, ⟨by repeat (first | (with_reducible first | exact HB.out | apply below_alloc | apply pw_below_drewN | apply below_drew1 | refine below_set ?_ GE238.out) | exact HB.out)⟩⟩
                ·
                 rw [if_neg c24] at H
                 have c24b0 : decide ((wrap64 (Int.tdiv (wrap64 ((wrap64 (x7_3 + (wrap64 (Int.tdiv (wrap64 (x8_3 - x7_3)) 2)))) * ((rd_T43 l0_1 x6_1).f1))) 1000)) < a1) = false := decide_eq_false c24
                 clear c24
                 have H' := Aside0.mk H
                 clear H
                 have hcz26_0 : wr.cell? ⟨gb238, 0, none⟩ = some (.string a0_0) := (blk_cell BK238.out 0).trans rfl
                 have hcz26_1 : wr.cell? ⟨gb238, 1, none⟩ = some (.slice (some ad240) l0_1.length c0_1) := (blk_cell BK238.out 1).trans rfl
                 have hfz26_0 := blk_frozen BK238.out 0
                 have hfz26_1 := blk_frozen BK238.out 1
                 have p243 : 0 ≤ (x6_1 : Int) := of_decide_eq_true (by first | (with_reducible assumption) | assumption)
                 have q243 : x6_1 < (l0_1.length : Int) := of_decide_eq_true (by first | (with_reducible assumption) | assumption)
                 obtain ⟨ad243, e243, hx243_0, hx243_1⟩ := at_T43 HR0_1.out x6_1 p243 q243
                 obtain rfl : ad240 = ad243 := (by injection e243)
                 replace hx243_0 := (HB.out.cell (World.block_lt_of_cell? w _ hx243_0)).trans hx243_0
                 replace hx243_1 := (HB.out.cell (World.block_lt_of_cell? w _ hx243_1)).trans hx243_1
                 replace p243 := eq_true p243
                 replace q243 := eq_true q243
                 go_wp2
                 go_roundg k3
                 case measure => have := HK1.out; have := HJ9.out; have := HK3.out; omega
                 case rel => exact ⟨(x7_3), (wrap64 (x7_3 + (wrap64 (Int.tdiv (wrap64 (x8_3 - x7_3)) 2)))), (by first | rfl | (simp; done) | (simp [*]; done)), (by first | rfl | (simp; done) | (simp [*]; done)), H', ⟨by have := HK1.out; have := HJ9.out; have := HK3.out; omega⟩, ⟨by (with_reducible repeat (first | refine blk_drewN ?_ _ | refine blk_drew ?_ | refine blk_alloc ?_ _)); exact BK238.out⟩, ⟨by repeat (first | (with_reducible first | exact HB.out | apply below_alloc | apply pw_below_drewN | apply below_drew1 | refine below_set ?_ GE238.out) | exact HB.out)⟩⟩
               ·
                rw [if_neg c23] at H
                exact absurd H (by simp)
              ·
               rw [if_neg c22] at H
               exact absurd H (by simp)
             ·
              rw [if_neg c21] at H
              have c21b0 : decide (x7_3 < x8_3) = false := decide_eq_false c21
              clear c21
              simp only [Option.some.injEq, Prod.mk.injEq] at H
              obtain ⟨rfl, rfl⟩ := H
              go_wp2
              go_ret2
              exact ⟨by first | rfl | (simp [errW_none, errW_some] <;> rfl) | (simp [*, errW_none, errW_some] <;> rfl), by repeat (first | (with_reducible first | exact HB.out | apply below_alloc | apply pw_below_drewN | apply below_drew1 | refine below_set ?_ GE238.out) | exact HB.out)⟩
         ·
          rw [if_neg c17] at H
          exact absurd H (by simp)
        ·
         rw [if_neg c16] at H
         exact absurd H (by simp)
     ·
      rw [if_neg c9] at H
      exact absurd H (by simp)
    ·
     rw [if_neg c8] at H
     have c8b0 : decide (x6_1 < (l0_1.length : Int)) = false := decide_eq_false c8
     clear c8
     simp only [Option.some.injEq, Prod.mk.injEq] at H
     obtain ⟨rfl, rfl⟩ := H
     have hcz27_0 : wr.cell? ⟨gb238, 0, none⟩ = some (.string a0_0) := (blk_cell BK238.out 0).trans rfl
     have hcz27_1 : wr.cell? ⟨gb238, 1, none⟩ = some (.slice A0_1 l0_1.length c0_1) := (blk_cell BK238.out 1).trans rfl
     have hfz27_0 := blk_frozen BK238.out 0
     have hfz27_1 := blk_frozen BK238.out 1
     go_wp2
     go_ret2
     exact ⟨by first | rfl | (simp [errW_none, errW_some] <;> rfl) | (simp [*, errW_none, errW_some] <;> rfl), by repeat (first | (with_reducible first | exact HB.out | apply below_alloc | apply pw_below_drewN | apply below_drew1 | refine below_set ?_ GE238.out) | exact HB.out)⟩
 ·
  replace c4 := Bool.eq_false_iff.mpr c4
  subst c4
  have H1 : (some (0, 1)) = some (r1, r2) := by rw [if_neg (show ¬ (false = true) by decide)] at H; exact H
  clear H
  have H := H1
  clear H1
  simp only [Option.some.injEq, Prod.mk.injEq] at H
  obtain ⟨rfl, rfl⟩ := H
  go_enter Tryz.func14, Tryz.ntmps14
  go_wp2_with (first | ((with_reducible refine gate_dst (N := 2) rfl ?_); refine box_event ?hg (N := 2) ?hd (cs := #[.string a0_0, .slice A0_1 l0_1.length c0_1]) (t := 24) ?hr ?_; (case hd => rfl); (case hg => rfl); (case hr => first | (go_simp; done) | (go_simp; rfl)); intro gb238 hg w28 hbox hb; have n0_ := Aside0.mk (below_step (by repeat (first | (with_reducible first | exact HB.out | apply below_alloc | apply pw_below_drewN | apply below_drew1) | exact HB.out)) hb); have n1_ := Aside0.mk (hbox); have n2_ := Aside0.mk ((by rw [hg]; exact (below_size (by repeat (first | (with_reducible first | exact HB.out | apply below_alloc | apply pw_below_drewN | apply below_drew1) | exact HB.out))) : w.heap.size ≤ gb238)); have n3_ := Aside0.mk ((by rw [hg]; exact (below_size (by repeat (first | (with_reducible first | exact HB.out | apply below_alloc | apply pw_below_drewN | apply below_drew1) | exact HB.out))) : w.heap.size ≤ gb238)); clear HB; have HB := n0_; have BK238 := n1_; have GW238 := n2_; have GE238 := n3_; clear n0_ n1_ n2_ n3_; clear hb hbox hg; have hcz29_0 : w28.cell? ⟨gb238, 0, none⟩ = some (.string a0_0) := (blk_cell BK238.out 0).trans rfl; have hcz29_1 : w28.cell? ⟨gb238, 1, none⟩ = some (.slice A0_1 l0_1.length c0_1) := (blk_cell BK238.out 1).trans rfl; have hfz29_0 := blk_frozen BK238.out 0; have hfz29_1 := blk_frozen BK238.out 1) | ((with_reducible refine gate_callee (f := 22) rfl ?_); refine goesL_ (some 11) rfl rfl Tryz.func22 (by kernel_rfl) rfl #[.agg #[.string a0_0, .slice A0_1 l0_1.length c0_1]] rfl (by (try simp only [List.map_toArray, List.map_cons, List.map_nil]); first | done | rfl | (simp only [List.length_drop, List.length_take]; rfl)) ?_; (with_reducible refine (culetref44_Valid.calls k a0_0 _ _ l0_1 false _ ?side1 ?side2 A3.out).mono ?_); (case side1 => repeat (first | exact (Kd.C_below HR0_1.out HB.out) | (with_reducible refine Kd.C_alloc ?_ _) | (with_reducible refine Kd.C_drewN ?_ _) | (with_reducible refine Kd.C_drew ?_))); (case side2 => exact HC0_1.out); rintro e w30 ⟨rfl, hb⟩; refine ⟨_, rfl, ?_⟩; have n0_ := Aside0.mk (blk_below (g := gb238) (o := .cells #[.string a0_0, .slice A0_1 l0_1.length c0_1] 24 (0, 0)) (by (with_reducible repeat (first | refine blk_drewN ?_ _ | refine blk_drew ?_ | refine blk_alloc ?_ _)); exact BK238.out) hb); have n1_ := Aside0.mk (below_step (by repeat (first | (with_reducible first | exact HB.out | apply below_alloc | apply pw_below_drewN | apply below_drew1 | refine below_set ?_ GE238.out) | exact HB.out)) hb); clear BK238; clear HB; have BK238 := n0_; have HB := n1_; clear n0_ n1_; (try clear hb); (try clear hb2); (try clear hk); (try clear hi)))
  go_ret2
  exact ⟨by first | rfl | (simp [errW_none, errW_some] <;> rfl) | (simp [*, errW_none, errW_some] <;> rfl), by repeat (first | (with_reducible first | exact HB.out | apply below_alloc | apply pw_below_drewN | apply below_drew1 | refine below_set ?_ GE238.out) | exact HB.out)⟩

end Go.Proofs.YtejgenhmhahgeaaGreatDoor.T
