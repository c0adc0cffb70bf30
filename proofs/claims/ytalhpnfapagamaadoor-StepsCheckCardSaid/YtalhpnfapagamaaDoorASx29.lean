-- Written by this session's own programs; what the law does not lean on is left out. Lean checks it.
import Derived.Test.YtalhpnfapagamaaDoorAS
import Derived.Test.YtalhpnfapagamaaDoorASx28
namespace Go.Proofs.YtalhpnfapagamaaDoor.S
open Go.RowKit Go.Proofs.YtalhpnfapagamaaDoorW.PrintWords Go.Proofs.YtalhpnfapagamaaDoorW.PrintLast Go.Proofs.YtalhpnfapagamaaDoorW.PrintMore Go.Proofs.YtalhpnfapagamaaDoorD
set_option linter.unusedVariables false
set_option linter.unusedSimpArgs false

def culetref49_Time.l0 : Nat → List (S63) → Int → Int → List (S55) → List (S56) → Int → Int → Option (Int × Int)
 | 0, _, _, _, _, _, _, _ => none
 | k + 1, x1, x8, x9, x223000, x223001, x223002, x223003 => if x9 < (x1.length : Int) then (if 0 ≤ x9 then (if ((rd_T63 x1 x9).f0) = 1 then (culetref49_Time.l0 k x1 (wrap64 (x8 + x223002)) (wrap64 (x9 + 1)) x223000 x223001 x223002 x223003) else (if ((rd_T63 x1 x9).f0) = 2 then (culetref49_Time.l0 k x1 (wrap64 (x8 + x223003)) (wrap64 (x9 + 1)) x223000 x223001 x223002 x223003) else (if 0 ≤ ((rd_T63 x1 x9).f2) then (if ((rd_T63 x1 x9).f2) < (x223001.length : Int) then (if 0 ≤ ((rd_T63 x1 x9).f1) then (if ((rd_T63 x1 x9).f1) < (x223000.length : Int) then (culetref49_Time.l0 k x1 (wrap64 (x8 + (wrap64 (((rd_T56 x223001 ((rd_T63 x1 x9).f2)).f2) * ((rd_T55 x223000 ((rd_T63 x1 x9).f1)).f2))))) (wrap64 (x9 + 1)) x223000 x223001 x223002 x223003) else (none)) else (none)) else (none)) else (none)))) else (none)) else (some (x8, 0))
def culetref49_Time.f (k : Nat) (l0_0 : List (S55)) (l0_1 : List (S56)) (a0_2 : Int) (a0_3 : Int) (l1 : List (S63)) : Option (Int × Int) := (culetref49_Check.f k l0_0 l0_1 a0_2 a0_3 l1).bind fun bt223 => (if bt223.2 = 0 then (culetref49_Time.l0 k l1 0 0 l0_0 l0_1 a0_2 a0_3) else (some (0, bt223.2)))
set_option maxHeartbeats 8000000 in
set_option maxRecDepth 100000 in
theorem culetref49_Time.calls (k : Nat) (A0_0 : Option Addr) (c0_0 : Nat) (l0_0 : List (S55)) (A0_1 : Option Addr) (c0_1 : Nat) (l0_1 : List (S56)) (a0_2 : Int) (a0_3 : Int) (A1 : Option Addr) (c1 : Nat) (l1 : List (S63)) (r1 : Int) (r2 : Int) (w : World) (hr0_0 : Kd.C k55 w A0_0 l0_0.length l0_0) (hc0_0 : l0_0.length ≤ c0_0) (hr0_1 : Kd.C k56 w A0_1 l0_1.length l0_1) (hc0_1 : l0_1.length ≤ c0_1) (hr1 : Kd.C k63 w A1 l1.length l1) (hc1 : l1.length ≤ c1) (h : culetref49_Time.f k l0_0 l0_1 a0_2 a0_3 l1 = some (r1, r2)) :
  Calls Tryd.prog 11 #[.agg #[.slice A0_0 l0_0.length c0_0, .slice A0_1 l0_1.length c0_1, .int .i64 a0_2, .int .i64 a0_3], .slice A1 l1.length c1] w fun e w' => e = .returned (.tuple #[.int .i64 r1, .int .i64 r2]) ∧ Below w.heap.size w w' := by
 have hu25 := Tryd.underlying25
 have HR0_0 := am_ hr0_0
 have HC0_0 := am_ hc0_0
 clear hr0_0 hc0_0
 have HR0_1 := am_ hr0_1
 have HC0_1 := am_ hc0_1
 clear hr0_1 hc0_1
 have HR1 := am_ hr1
 have HC1 := am_ hc1
 clear hr1 hc1
 have HB := am_ (Below.refl w.heap.size w)
 have H : ((culetref49_Check.f k l0_0 l0_1 a0_2 a0_3 l1).bind fun bt223 => (if bt223.2 = 0 then (culetref49_Time.l0 k l1 0 0 l0_0 l0_1 a0_2 a0_3) else (some (0, bt223.2)))) = some (r1, r2) := h
 clear h
 replace H := Option.bind_eq_some_iff.mp H
 obtain ⟨⟨t223, t224⟩, A30, H⟩ := H
 replace H : (if t224 = 0 then (culetref49_Time.l0 k l1 0 0 l0_0 l0_1 a0_2 a0_3) else (some (0, t224))) = some (r1, r2) := H
 have A3 := am_ A30
 clear A30
 by_cases c4 : t224 = 0
 ·
  rw [if_pos c4] at H
  have c4b0 : (t224 == 0) = true := beq_iff_eq.mpr c4
  have c4b1 : (t224 != 0) = false := bne_eq_false_iff_eq.mpr c4
  clear c4
  have H' := am_ H
  clear H
  go_enter Tryd.func11, Tryd.ntmps11
  go_wp2_with (first | ((with_reducible refine gate_dst (N := 2) rfl ?_); refine bev (N := 2) (cs := #[.slice A0_0 l0_0.length c0_0, .slice A0_1 l0_1.length c0_1, .int .i64 a0_2, .int .i64 a0_3]) (t := 25) ?_; intro gb222 hg w5 hbox hb; have z_ := aI (am_ (below_step (mb_ HB.out) hb)) (aI (am_ (hbox)) (aI (am_ ((bz_ hg (mb_ HB.out) : w.heap.size ≤ gb222))) (am_ ((bz_ hg (mb_ HB.out) : w.heap.size ≤ gb222))))); clear HB; obtain ⟨HB, BK222, GW222, GE222⟩ := z_; clear hb hbox hg; have hcz6_0 : w5.cell? ⟨gb222, 0, none⟩ = some (.slice A0_0 l0_0.length c0_0) := (blk_cell BK222.out 0).trans rfl; have hcz6_1 : w5.cell? ⟨gb222, 1, none⟩ = some (.slice A0_1 l0_1.length c0_1) := (blk_cell BK222.out 1).trans rfl; have hcz6_2 : w5.cell? ⟨gb222, 2, none⟩ = some (.int .i64 a0_2) := (blk_cell BK222.out 2).trans rfl; have hcz6_3 : w5.cell? ⟨gb222, 3, none⟩ = some (.int .i64 a0_3) := (blk_cell BK222.out 3).trans rfl; have hfz6_0 := blk_frozen BK222.out 0; have hfz6_1 := blk_frozen BK222.out 1; have hfz6_2 := blk_frozen BK222.out 2; have hfz6_3 := blk_frozen BK222.out 3) | (go_at_call 9; (with_reducible refine (culetref49_Check.calls k _ _ l0_0 _ _ l0_1 a0_2 a0_3 _ _ l1 t223 t224 _ ?side1 ?side2 ?side3 ?side4 ?side5 ?side6 A3.out).mono ?_); (case side1 => exact mc_ (Kd.C_below HR0_0.out HB.out)); (case side2 => exact HC0_0.out); (case side3 => exact mc_ (Kd.C_below HR0_1.out HB.out)); (case side4 => exact HC0_1.out); (case side5 => exact mc_ (Kd.C_below HR1.out HB.out)); (case side6 => exact HC1.out); rintro e w7 ⟨rfl, hb⟩; have z_ := aI (am_ (blk_below (mk_ BK222.out) hb)) (am_ (below_step (mb_ HB.out) hb)); clear BK222 HB; obtain ⟨BK222, HB⟩ := z_; (try clear hb); (try clear hb2); (try clear hk); (try clear hi)))
  repeat (go_quiet (first | ((with_reducible refine gate_dst (N := 2) rfl ?_); refine bev (N := 2) (cs := #[.slice A0_0 l0_0.length c0_0, .slice A0_1 l0_1.length c0_1, .int .i64 a0_2, .int .i64 a0_3]) (t := 25) ?_; intro gb222 hg w5 hbox hb; have z_ := aI (am_ (below_step (mb_ HB.out) hb)) (aI (am_ (hbox)) (aI (am_ ((bz_ hg (mb_ HB.out) : w.heap.size ≤ gb222))) (am_ ((bz_ hg (mb_ HB.out) : w.heap.size ≤ gb222))))); clear HB; obtain ⟨HB, BK222, GW222, GE222⟩ := z_; clear hb hbox hg; have hcz6_0 : w5.cell? ⟨gb222, 0, none⟩ = some (.slice A0_0 l0_0.length c0_0) := (blk_cell BK222.out 0).trans rfl; have hcz6_1 : w5.cell? ⟨gb222, 1, none⟩ = some (.slice A0_1 l0_1.length c0_1) := (blk_cell BK222.out 1).trans rfl; have hcz6_2 : w5.cell? ⟨gb222, 2, none⟩ = some (.int .i64 a0_2) := (blk_cell BK222.out 2).trans rfl; have hcz6_3 : w5.cell? ⟨gb222, 3, none⟩ = some (.int .i64 a0_3) := (blk_cell BK222.out 3).trans rfl; have hfz6_0 := blk_frozen BK222.out 0; have hfz6_1 := blk_frozen BK222.out 1; have hfz6_2 := blk_frozen BK222.out 2; have hfz6_3 := blk_frozen BK222.out 3) | (go_at_call 9; (with_reducible refine (culetref49_Check.calls k _ _ l0_0 _ _ l0_1 a0_2 a0_3 _ _ l1 t223 t224 _ ?side1 ?side2 ?side3 ?side4 ?side5 ?side6 A3.out).mono ?_); (case side1 => exact mc_ (Kd.C_below HR0_0.out HB.out)); (case side2 => exact HC0_0.out); (case side3 => exact mc_ (Kd.C_below HR0_1.out HB.out)); (case side4 => exact HC0_1.out); (case side5 => exact mc_ (Kd.C_below HR1.out HB.out)); (case side6 => exact HC1.out); rintro e w7 ⟨rfl, hb⟩; have z_ := aI (am_ (blk_below (mk_ BK222.out) hb)) (am_ (below_step (mb_ HB.out) hb)); clear BK222 HB; obtain ⟨BK222, HB⟩ := z_; (try clear hb); (try clear hb2); (try clear hk); (try clear hi))); try go_wp2_with (first | ((with_reducible refine gate_dst (N := 2) rfl ?_); refine bev (N := 2) (cs := #[.slice A0_0 l0_0.length c0_0, .slice A0_1 l0_1.length c0_1, .int .i64 a0_2, .int .i64 a0_3]) (t := 25) ?_; intro gb222 hg w5 hbox hb; have z_ := aI (am_ (below_step (mb_ HB.out) hb)) (aI (am_ (hbox)) (aI (am_ ((bz_ hg (mb_ HB.out) : w.heap.size ≤ gb222))) (am_ ((bz_ hg (mb_ HB.out) : w.heap.size ≤ gb222))))); clear HB; obtain ⟨HB, BK222, GW222, GE222⟩ := z_; clear hb hbox hg; have hcz6_0 : w5.cell? ⟨gb222, 0, none⟩ = some (.slice A0_0 l0_0.length c0_0) := (blk_cell BK222.out 0).trans rfl; have hcz6_1 : w5.cell? ⟨gb222, 1, none⟩ = some (.slice A0_1 l0_1.length c0_1) := (blk_cell BK222.out 1).trans rfl; have hcz6_2 : w5.cell? ⟨gb222, 2, none⟩ = some (.int .i64 a0_2) := (blk_cell BK222.out 2).trans rfl; have hcz6_3 : w5.cell? ⟨gb222, 3, none⟩ = some (.int .i64 a0_3) := (blk_cell BK222.out 3).trans rfl; have hfz6_0 := blk_frozen BK222.out 0; have hfz6_1 := blk_frozen BK222.out 1; have hfz6_2 := blk_frozen BK222.out 2; have hfz6_3 := blk_frozen BK222.out 3) | (go_at_call 9; (with_reducible refine (culetref49_Check.calls k _ _ l0_0 _ _ l0_1 a0_2 a0_3 _ _ l1 t223 t224 _ ?side1 ?side2 ?side3 ?side4 ?side5 ?side6 A3.out).mono ?_); (case side1 => exact mc_ (Kd.C_below HR0_0.out HB.out)); (case side2 => exact HC0_0.out); (case side3 => exact mc_ (Kd.C_below HR0_1.out HB.out)); (case side4 => exact HC0_1.out); (case side5 => exact mc_ (Kd.C_below HR1.out HB.out)); (case side6 => exact HC1.out); rintro e w7 ⟨rfl, hb⟩; have z_ := aI (am_ (blk_below (mk_ BK222.out) hb)) (am_ (below_step (mb_ HB.out) hb)); clear BK222 HB; obtain ⟨BK222, HB⟩ := z_; (try clear hb); (try clear hb2); (try clear hk); (try clear hi))))
  go_loopg [8, 9] k (fun kq v8 v9 w' => ∃ (x8_1 : Int) (x9_1 : Int), v8 = .int .i64 x8_1 ∧ v9 = .int .i64 x9_1 ∧ Aside0 (culetref49_Time.l0 kq l1 x8_1 x9_1 l0_0 l0_1 a0_2 a0_3 = some (r1, r2)) ∧ Aside0 (kq ≤ k) ∧ Aside0 (w'.heap[gb222]? = some (.cells #[(.slice A0_0 l0_0.length c0_0), (.slice A0_1 l0_1.length c0_1), .int .i64 a0_2, .int .i64 a0_3] 25 (0, 0))) ∧ Aside0 (Below w.heap.size w w'))
  case atStart => exact ⟨(0), (0), rs_, rs_, H', ⟨Nat.le_refl _⟩, ⟨by (with_reducible repeat (first | refine blk_drewN ?_ _ | refine blk_drew ?_ | refine blk_alloc ?_ _)); exact BK222.out⟩, ⟨mb_ HB.out⟩⟩
  case round =>
   clear H'
   try clear c1
   try clear p2
   try clear c4
   try clear c4b0
   try clear c4b1
   try clear hcz6_0
   try clear hcz6_1
   try clear hcz6_2
   try clear hcz6_3
   try clear hfz6_0
   try clear hfz6_1
   try clear hfz6_2
   try clear hfz6_3
   obtain ⟨x8_1, x9_1, rfl, rfl, HA, HK1, BK222, HB⟩ := hrel
   cases gk with
   | zero => exact absurd HA.out (by simp [culetref49_Time.l0])
   | succ k1 =>
    have H := HA.out
    clear HA
    simp only [culetref49_Time.l0] at H
    by_cases c8 : x9_1 < (l1.length : Int)
    ·
     rw [if_pos c8] at H
     have c8b0 : decide (x9_1 < (l1.length : Int)) = true := decide_eq_true c8
     clear c8
     by_cases c9 : 0 ≤ x9_1
     ·
      rw [if_pos c9] at H
      have c9b0 : decide (0 ≤ x9_1) = true := decide_eq_true c9
      clear c9
      by_cases c10 : ((rd_T63 l1 x9_1).f0) = 1
      ·
       rw [if_pos c10] at H
       have c10b0 : (((rd_T63 l1 x9_1).f0) == 1) = true := beq_iff_eq.mpr c10
       have c10b1 : (((rd_T63 l1 x9_1).f0) != 1) = false := bne_eq_false_iff_eq.mpr c10
       clear c10
       have H' := am_ H
       clear H
       have p225 : 0 ≤ (x9_1 : Int) := of_decide_eq_true as_
       have q225 : x9_1 < (l1.length : Int) := of_decide_eq_true as_
       obtain ⟨ad225, e225, hx225_0, hx225_1, hx225_2⟩ := at_T63 HR1.out x9_1 p225 q225
       cases e225
       replace hx225_0 := (HB.out.cell (World.block_lt_of_cell? w _ hx225_0)).trans hx225_0
       replace hx225_1 := (HB.out.cell (World.block_lt_of_cell? w _ hx225_1)).trans hx225_1
       replace hx225_2 := (HB.out.cell (World.block_lt_of_cell? w _ hx225_2)).trans hx225_2
       replace p225 := eq_true p225
       replace q225 := eq_true q225
       have hcz11_0 : wr.cell? ⟨gb222, 0, none⟩ = some (.slice A0_0 l0_0.length c0_0) := (blk_cell BK222.out 0).trans rfl
       have hcz11_1 : wr.cell? ⟨gb222, 1, none⟩ = some (.slice A0_1 l0_1.length c0_1) := (blk_cell BK222.out 1).trans rfl
       have hcz11_2 : wr.cell? ⟨gb222, 2, none⟩ = some (.int .i64 a0_2) := (blk_cell BK222.out 2).trans rfl
       have hcz11_3 : wr.cell? ⟨gb222, 3, none⟩ = some (.int .i64 a0_3) := (blk_cell BK222.out 3).trans rfl
       have hfz11_0 := blk_frozen BK222.out 0
       have hfz11_1 := blk_frozen BK222.out 1
       have hfz11_2 := blk_frozen BK222.out 2
       have hfz11_3 := blk_frozen BK222.out 3
       go_wp2
       repeat (go_quiet (fail); try go_wp2)
       go_roundg k1
       case measure => have := HK1.out; omega
       case rel => exact ⟨(wrap64 (x8_1 + a0_2)), (wrap64 (x9_1 + 1)), rs_, rs_, H', ⟨by have := HK1.out; omega⟩, ⟨by (with_reducible repeat (first | refine blk_drewN ?_ _ | refine blk_drew ?_ | refine blk_alloc ?_ _)); exact BK222.out⟩, ⟨mb_ HB.out⟩⟩
      ·
       rw [if_neg c10] at H
       have c10b0 : (((rd_T63 l1 x9_1).f0) == 1) = false := beq_eq_false_iff_ne.mpr c10
       have c10b1 : (((rd_T63 l1 x9_1).f0) != 1) = true := bne_iff_ne.mpr c10
       by_cases c12 : ((rd_T63 l1 x9_1).f0) = 2
       ·
        rw [if_pos c12] at H
        have c12b0 : (((rd_T63 l1 x9_1).f0) == 2) = true := beq_iff_eq.mpr c12
        have c12b1 : (((rd_T63 l1 x9_1).f0) != 2) = false := bne_eq_false_iff_eq.mpr c12
        clear c12
        have H' := am_ H
        clear H
        have p225 : 0 ≤ (x9_1 : Int) := of_decide_eq_true as_
        have q225 : x9_1 < (l1.length : Int) := of_decide_eq_true as_
        obtain ⟨ad225, e225, hx225_0, hx225_1, hx225_2⟩ := at_T63 HR1.out x9_1 p225 q225
        cases e225
        replace hx225_0 := (HB.out.cell (World.block_lt_of_cell? w _ hx225_0)).trans hx225_0
        replace hx225_1 := (HB.out.cell (World.block_lt_of_cell? w _ hx225_1)).trans hx225_1
        replace hx225_2 := (HB.out.cell (World.block_lt_of_cell? w _ hx225_2)).trans hx225_2
        replace p225 := eq_true p225
        replace q225 := eq_true q225
        have hcz13_0 : wr.cell? ⟨gb222, 0, none⟩ = some (.slice A0_0 l0_0.length c0_0) := (blk_cell BK222.out 0).trans rfl
        have hcz13_1 : wr.cell? ⟨gb222, 1, none⟩ = some (.slice A0_1 l0_1.length c0_1) := (blk_cell BK222.out 1).trans rfl
        have hcz13_2 : wr.cell? ⟨gb222, 2, none⟩ = some (.int .i64 a0_2) := (blk_cell BK222.out 2).trans rfl
        have hcz13_3 : wr.cell? ⟨gb222, 3, none⟩ = some (.int .i64 a0_3) := (blk_cell BK222.out 3).trans rfl
        have hfz13_0 := blk_frozen BK222.out 0
        have hfz13_1 := blk_frozen BK222.out 1
        have hfz13_2 := blk_frozen BK222.out 2
        have hfz13_3 := blk_frozen BK222.out 3
        go_wp2
        repeat (go_quiet (fail); try go_wp2)
        go_roundg k1
        case measure => have := HK1.out; omega
        case rel => exact ⟨(wrap64 (x8_1 + a0_3)), (wrap64 (x9_1 + 1)), rs_, rs_, H', ⟨by have := HK1.out; omega⟩, ⟨by (with_reducible repeat (first | refine blk_drewN ?_ _ | refine blk_drew ?_ | refine blk_alloc ?_ _)); exact BK222.out⟩, ⟨mb_ HB.out⟩⟩
       ·
        rw [if_neg c12] at H
        have c12b0 : (((rd_T63 l1 x9_1).f0) == 2) = false := beq_eq_false_iff_ne.mpr c12
        have c12b1 : (((rd_T63 l1 x9_1).f0) != 2) = true := bne_iff_ne.mpr c12
        by_cases c14 : 0 ≤ ((rd_T63 l1 x9_1).f2)
        ·
         rw [if_pos c14] at H
         have c14b0 : decide (0 ≤ ((rd_T63 l1 x9_1).f2)) = true := decide_eq_true c14
         clear c14
         by_cases c15 : ((rd_T63 l1 x9_1).f2) < (l0_1.length : Int)
         ·
          rw [if_pos c15] at H
          have c15b0 : decide (((rd_T63 l1 x9_1).f2) < (l0_1.length : Int)) = true := decide_eq_true c15
          clear c15
          by_cases c16 : 0 ≤ ((rd_T63 l1 x9_1).f1)
          ·
           rw [if_pos c16] at H
           have c16b0 : decide (0 ≤ ((rd_T63 l1 x9_1).f1)) = true := decide_eq_true c16
           clear c16
           by_cases c17 : ((rd_T63 l1 x9_1).f1) < (l0_0.length : Int)
           ·
            rw [if_pos c17] at H
            have c17b0 : decide (((rd_T63 l1 x9_1).f1) < (l0_0.length : Int)) = true := decide_eq_true c17
            clear c17
            have H' := am_ H
            clear H
            have p225 : 0 ≤ (x9_1 : Int) := of_decide_eq_true as_
            have q225 : x9_1 < (l1.length : Int) := of_decide_eq_true as_
            obtain ⟨ad225, e225, hx225_0, hx225_1, hx225_2⟩ := at_T63 HR1.out x9_1 p225 q225
            cases e225
            replace hx225_0 := (HB.out.cell (World.block_lt_of_cell? w _ hx225_0)).trans hx225_0
            replace hx225_1 := (HB.out.cell (World.block_lt_of_cell? w _ hx225_1)).trans hx225_1
            replace hx225_2 := (HB.out.cell (World.block_lt_of_cell? w _ hx225_2)).trans hx225_2
            replace p225 := eq_true p225
            replace q225 := eq_true q225
            have hcz18_0 : wr.cell? ⟨gb222, 0, none⟩ = some (.slice A0_0 l0_0.length c0_0) := (blk_cell BK222.out 0).trans rfl
            have hcz18_1 : wr.cell? ⟨gb222, 1, none⟩ = some (.slice A0_1 l0_1.length c0_1) := (blk_cell BK222.out 1).trans rfl
            have hcz18_2 : wr.cell? ⟨gb222, 2, none⟩ = some (.int .i64 a0_2) := (blk_cell BK222.out 2).trans rfl
            have hcz18_3 : wr.cell? ⟨gb222, 3, none⟩ = some (.int .i64 a0_3) := (blk_cell BK222.out 3).trans rfl
            have hfz18_0 := blk_frozen BK222.out 0
            have hfz18_1 := blk_frozen BK222.out 1
            have hfz18_2 := blk_frozen BK222.out 2
            have hfz18_3 := blk_frozen BK222.out 3
            have p226 : 0 ≤ (x9_1 : Int) := of_decide_eq_true as_
            have q226 : x9_1 < (l1.length : Int) := of_decide_eq_true as_
            obtain ⟨ad226, e226, hx226_0, hx226_1, hx226_2⟩ := at_T63 HR1.out x9_1 p226 q226
            obtain rfl : ad225 = ad226 := (by injection e226)
            replace hx226_0 := (HB.out.cell (World.block_lt_of_cell? w _ hx226_0)).trans hx226_0
            replace hx226_1 := (HB.out.cell (World.block_lt_of_cell? w _ hx226_1)).trans hx226_1
            replace hx226_2 := (HB.out.cell (World.block_lt_of_cell? w _ hx226_2)).trans hx226_2
            replace p226 := eq_true p226
            replace q226 := eq_true q226
            have p227 : 0 ≤ (((rd_T63 l1 x9_1).f2) : Int) := of_decide_eq_true as_
            have q227 : ((rd_T63 l1 x9_1).f2) < (l0_1.length : Int) := of_decide_eq_true as_
            obtain ⟨ad227, e227, hx227_0, hx227_1, hx227_2⟩ := at_T56 HR0_1.out ((rd_T63 l1 x9_1).f2) p227 q227
            cases e227
            replace hx227_0 := (HB.out.cell (World.block_lt_of_cell? w _ hx227_0)).trans hx227_0
            replace hx227_1 := (HB.out.cell (World.block_lt_of_cell? w _ hx227_1)).trans hx227_1
            replace hx227_2 := (HB.out.cell (World.block_lt_of_cell? w _ hx227_2)).trans hx227_2
            replace p227 := eq_true p227
            replace q227 := eq_true q227
            have p228 : 0 ≤ (x9_1 : Int) := of_decide_eq_true as_
            have q228 : x9_1 < (l1.length : Int) := of_decide_eq_true as_
            obtain ⟨ad228, e228, hx228_0, hx228_1, hx228_2⟩ := at_T63 HR1.out x9_1 p228 q228
            obtain rfl : ad225 = ad228 := (by injection e228)
            replace hx228_0 := (HB.out.cell (World.block_lt_of_cell? w _ hx228_0)).trans hx228_0
            replace hx228_1 := (HB.out.cell (World.block_lt_of_cell? w _ hx228_1)).trans hx228_1
            replace hx228_2 := (HB.out.cell (World.block_lt_of_cell? w _ hx228_2)).trans hx228_2
            replace p228 := eq_true p228
            replace q228 := eq_true q228
            have p229 : 0 ≤ (((rd_T63 l1 x9_1).f1) : Int) := of_decide_eq_true as_
            have q229 : ((rd_T63 l1 x9_1).f1) < (l0_0.length : Int) := of_decide_eq_true as_
            obtain ⟨ad229, e229, hx229_0, hx229_1, hx229_2⟩ := at_T55 HR0_0.out ((rd_T63 l1 x9_1).f1) p229 q229
            cases e229
            replace hx229_0 := (HB.out.cell (World.block_lt_of_cell? w _ hx229_0)).trans hx229_0
            replace hx229_1 := (HB.out.cell (World.block_lt_of_cell? w _ hx229_1)).trans hx229_1
            replace hx229_2 := (HB.out.cell (World.block_lt_of_cell? w _ hx229_2)).trans hx229_2
            replace p229 := eq_true p229
            replace q229 := eq_true q229
            go_wp2
            repeat (go_quiet (fail); try go_wp2)
            go_roundg k1
            case measure => have := HK1.out; omega
            case rel => exact ⟨(wrap64 (x8_1 + (wrap64 (((rd_T56 l0_1 ((rd_T63 l1 x9_1).f2)).f2) * ((rd_T55 l0_0 ((rd_T63 l1 x9_1).f1)).f2))))), (wrap64 (x9_1 + 1)), rs_, rs_, H', ⟨by have := HK1.out; omega⟩, ⟨by (with_reducible repeat (first | refine blk_drewN ?_ _ | refine blk_drew ?_ | refine blk_alloc ?_ _)); exact BK222.out⟩, ⟨mb_ HB.out⟩⟩
           ·
            rw [if_neg c17] at H
            exact absurd H (by simp)
          ·
           rw [if_neg c16] at H
           exact absurd H (by simp)
         ·
          rw [if_neg c15] at H
          exact absurd H (by simp)
        ·
         rw [if_neg c14] at H
         exact absurd H (by simp)
     ·
      rw [if_neg c9] at H
      exact absurd H (by simp)
    ·
     rw [if_neg c8] at H
     have c8b0 : decide (x9_1 < (l1.length : Int)) = false := decide_eq_false c8
     clear c8
     simp only [Option.some.injEq, Prod.mk.injEq] at H
     obtain ⟨rfl, rfl⟩ := H
     go_wp2
     repeat (go_quiet (fail); try go_wp2)
     go_ret2
     exact ⟨by first | rfl | (simp [errW_none, errW_some] <;> rfl) | (simp [*, errW_none, errW_some] <;> rfl), mb_ HB.out⟩
 ·
  rw [if_neg c4] at H
  have c4b0 : (t224 == 0) = false := beq_eq_false_iff_ne.mpr c4
  have c4b1 : (t224 != 0) = true := bne_iff_ne.mpr c4
  simp only [Option.some.injEq, Prod.mk.injEq] at H
  obtain ⟨rfl, rfl⟩ := H
  go_enter Tryd.func11, Tryd.ntmps11
  go_wp2_with (first | ((with_reducible refine gate_dst (N := 2) rfl ?_); refine bev (N := 2) (cs := #[.slice A0_0 l0_0.length c0_0, .slice A0_1 l0_1.length c0_1, .int .i64 a0_2, .int .i64 a0_3]) (t := 25) ?_; intro gb222 hg w19 hbox hb; have z_ := aI (am_ (below_step (mb_ HB.out) hb)) (aI (am_ (hbox)) (aI (am_ ((bz_ hg (mb_ HB.out) : w.heap.size ≤ gb222))) (am_ ((bz_ hg (mb_ HB.out) : w.heap.size ≤ gb222))))); clear HB; obtain ⟨HB, BK222, GW222, GE222⟩ := z_; clear hb hbox hg; have hcz20_0 : w19.cell? ⟨gb222, 0, none⟩ = some (.slice A0_0 l0_0.length c0_0) := (blk_cell BK222.out 0).trans rfl; have hcz20_1 : w19.cell? ⟨gb222, 1, none⟩ = some (.slice A0_1 l0_1.length c0_1) := (blk_cell BK222.out 1).trans rfl; have hcz20_2 : w19.cell? ⟨gb222, 2, none⟩ = some (.int .i64 a0_2) := (blk_cell BK222.out 2).trans rfl; have hcz20_3 : w19.cell? ⟨gb222, 3, none⟩ = some (.int .i64 a0_3) := (blk_cell BK222.out 3).trans rfl; have hfz20_0 := blk_frozen BK222.out 0; have hfz20_1 := blk_frozen BK222.out 1; have hfz20_2 := blk_frozen BK222.out 2; have hfz20_3 := blk_frozen BK222.out 3) | (go_at_call 9; (with_reducible refine (culetref49_Check.calls k _ _ l0_0 _ _ l0_1 a0_2 a0_3 _ _ l1 t223 t224 _ ?side1 ?side2 ?side3 ?side4 ?side5 ?side6 A3.out).mono ?_); (case side1 => exact mc_ (Kd.C_below HR0_0.out HB.out)); (case side2 => exact HC0_0.out); (case side3 => exact mc_ (Kd.C_below HR0_1.out HB.out)); (case side4 => exact HC0_1.out); (case side5 => exact mc_ (Kd.C_below HR1.out HB.out)); (case side6 => exact HC1.out); rintro e w21 ⟨rfl, hb⟩; have z_ := aI (am_ (blk_below (mk_ BK222.out) hb)) (am_ (below_step (mb_ HB.out) hb)); clear BK222 HB; obtain ⟨BK222, HB⟩ := z_; (try clear hb); (try clear hb2); (try clear hk); (try clear hi)))
  repeat (go_quiet (first | ((with_reducible refine gate_dst (N := 2) rfl ?_); refine bev (N := 2) (cs := #[.slice A0_0 l0_0.length c0_0, .slice A0_1 l0_1.length c0_1, .int .i64 a0_2, .int .i64 a0_3]) (t := 25) ?_; intro gb222 hg w19 hbox hb; have z_ := aI (am_ (below_step (mb_ HB.out) hb)) (aI (am_ (hbox)) (aI (am_ ((bz_ hg (mb_ HB.out) : w.heap.size ≤ gb222))) (am_ ((bz_ hg (mb_ HB.out) : w.heap.size ≤ gb222))))); clear HB; obtain ⟨HB, BK222, GW222, GE222⟩ := z_; clear hb hbox hg; have hcz20_0 : w19.cell? ⟨gb222, 0, none⟩ = some (.slice A0_0 l0_0.length c0_0) := (blk_cell BK222.out 0).trans rfl; have hcz20_1 : w19.cell? ⟨gb222, 1, none⟩ = some (.slice A0_1 l0_1.length c0_1) := (blk_cell BK222.out 1).trans rfl; have hcz20_2 : w19.cell? ⟨gb222, 2, none⟩ = some (.int .i64 a0_2) := (blk_cell BK222.out 2).trans rfl; have hcz20_3 : w19.cell? ⟨gb222, 3, none⟩ = some (.int .i64 a0_3) := (blk_cell BK222.out 3).trans rfl; have hfz20_0 := blk_frozen BK222.out 0; have hfz20_1 := blk_frozen BK222.out 1; have hfz20_2 := blk_frozen BK222.out 2; have hfz20_3 := blk_frozen BK222.out 3) | (go_at_call 9; (with_reducible refine (culetref49_Check.calls k _ _ l0_0 _ _ l0_1 a0_2 a0_3 _ _ l1 t223 t224 _ ?side1 ?side2 ?side3 ?side4 ?side5 ?side6 A3.out).mono ?_); (case side1 => exact mc_ (Kd.C_below HR0_0.out HB.out)); (case side2 => exact HC0_0.out); (case side3 => exact mc_ (Kd.C_below HR0_1.out HB.out)); (case side4 => exact HC0_1.out); (case side5 => exact mc_ (Kd.C_below HR1.out HB.out)); (case side6 => exact HC1.out); rintro e w21 ⟨rfl, hb⟩; have z_ := aI (am_ (blk_below (mk_ BK222.out) hb)) (am_ (below_step (mb_ HB.out) hb)); clear BK222 HB; obtain ⟨BK222, HB⟩ := z_; (try clear hb); (try clear hb2); (try clear hk); (try clear hi))); try go_wp2_with (first | ((with_reducible refine gate_dst (N := 2) rfl ?_); refine bev (N := 2) (cs := #[.slice A0_0 l0_0.length c0_0, .slice A0_1 l0_1.length c0_1, .int .i64 a0_2, .int .i64 a0_3]) (t := 25) ?_; intro gb222 hg w19 hbox hb; have z_ := aI (am_ (below_step (mb_ HB.out) hb)) (aI (am_ (hbox)) (aI (am_ ((bz_ hg (mb_ HB.out) : w.heap.size ≤ gb222))) (am_ ((bz_ hg (mb_ HB.out) : w.heap.size ≤ gb222))))); clear HB; obtain ⟨HB, BK222, GW222, GE222⟩ := z_; clear hb hbox hg; have hcz20_0 : w19.cell? ⟨gb222, 0, none⟩ = some (.slice A0_0 l0_0.length c0_0) := (blk_cell BK222.out 0).trans rfl; have hcz20_1 : w19.cell? ⟨gb222, 1, none⟩ = some (.slice A0_1 l0_1.length c0_1) := (blk_cell BK222.out 1).trans rfl; have hcz20_2 : w19.cell? ⟨gb222, 2, none⟩ = some (.int .i64 a0_2) := (blk_cell BK222.out 2).trans rfl; have hcz20_3 : w19.cell? ⟨gb222, 3, none⟩ = some (.int .i64 a0_3) := (blk_cell BK222.out 3).trans rfl; have hfz20_0 := blk_frozen BK222.out 0; have hfz20_1 := blk_frozen BK222.out 1; have hfz20_2 := blk_frozen BK222.out 2; have hfz20_3 := blk_frozen BK222.out 3) | (go_at_call 9; (with_reducible refine (culetref49_Check.calls k _ _ l0_0 _ _ l0_1 a0_2 a0_3 _ _ l1 t223 t224 _ ?side1 ?side2 ?side3 ?side4 ?side5 ?side6 A3.out).mono ?_); (case side1 => exact mc_ (Kd.C_below HR0_0.out HB.out)); (case side2 => exact HC0_0.out); (case side3 => exact mc_ (Kd.C_below HR0_1.out HB.out)); (case side4 => exact HC0_1.out); (case side5 => exact mc_ (Kd.C_below HR1.out HB.out)); (case side6 => exact HC1.out); rintro e w21 ⟨rfl, hb⟩; have z_ := aI (am_ (blk_below (mk_ BK222.out) hb)) (am_ (below_step (mb_ HB.out) hb)); clear BK222 HB; obtain ⟨BK222, HB⟩ := z_; (try clear hb); (try clear hb2); (try clear hk); (try clear hi))))
  go_ret2
  exact ⟨by first | rfl | (simp [errW_none, errW_some] <;> rfl) | (simp [*, errW_none, errW_some] <;> rfl), mb_ HB.out⟩

end Go.Proofs.YtalhpnfapagamaaDoor.S
