-- Written by this session's own programs; what the law does not lean on is left out. Lean checks it.
import Derived.Test.YtalhpnfapagamaaDoorAS
import Derived.Test.YtalhpnfapagamaaDoorASx9
import Derived.Test.YtalhpnfapagamaaDoorASx30
namespace Go.Proofs.YtalhpnfapagamaaDoor.S
open Go.RowKit Go.Proofs.YtalhpnfapagamaaDoorW.PrintWords Go.Proofs.YtalhpnfapagamaaDoorW.PrintLast Go.Proofs.YtalhpnfapagamaaDoorW.PrintMore Go.Proofs.YtalhpnfapagamaaDoorD
set_option linter.unusedVariables false
set_option linter.unusedSimpArgs false

def steps_Lines.l0 : Nat → List ByteArray → List (S60) → Int → Int → List (S49) → List (S51) → Int → Int → Option (List ByteArray × Int)
 | 0, _, _, _, _, _, _, _, _ => none
 | k + 1, x8, x21, x22, x23, x231000, x231001, x231002, x231003 => if x23 < x22 then (if 0 ≤ x23 then (if x23 < (x21.length : Int) then (if ((rd_T60 x21 x23).f0) = 1 then (if 0 ≤ ((rd_T60 x21 x23).f1) then (if ((rd_T60 x21 x23).f1) < (x231000.length : Int) then (if 4 + ((rd_T49 x231000 ((rd_T60 x21 x23).f1)).f0).size ≤ 9223372036854775807 then (if x8.length < 8796093022208 then (steps_Lines.l0 k (x8 ++ [(⟨#[108, 97, 112, 32]⟩ : ByteArray) ++ ((rd_T49 x231000 ((rd_T60 x21 x23).f1)).f0)]) x21 x22 (wrap64 (x23 + 1)) x231000 x231001 x231002 x231003) else (none)) else (none)) else (none)) else (none)) else (if ((rd_T60 x21 x23).f0) = 2 then (if x8.length < 8796093022208 then (steps_Lines.l0 k (x8 ++ [(⟨#[116, 114, 97, 110, 115, 102, 101, 114]⟩ : ByteArray)]) x21 x22 (wrap64 (x23 + 1)) x231000 x231001 x231002 x231003) else (none)) else (if 0 ≤ ((rd_T60 x21 x23).f2) then (if ((rd_T60 x21 x23).f2) < (x231001.length : Int) then (if 4 + ((rd_T51 x231001 ((rd_T60 x21 x23).f2)).f0).size ≤ 9223372036854775807 then (if ((⟨#[99, 117, 116, 32]⟩ : ByteArray) ++ ((rd_T51 x231001 ((rd_T60 x21 x23).f2)).f0)).size + 1 ≤ 9223372036854775807 then ((strconv_Itoa.f ((rd_T51 x231001 ((rd_T60 x21 x23).f2)).f2)).bind fun t244 => (if (((⟨#[99, 117, 116, 32]⟩ : ByteArray) ++ ((rd_T51 x231001 ((rd_T60 x21 x23).f2)).f0)) ++ (⟨#[32]⟩ : ByteArray)).size + t244.size ≤ 9223372036854775807 then (if x8.length < 8796093022208 then (steps_Lines.l0 k (x8 ++ [(((⟨#[99, 117, 116, 32]⟩ : ByteArray) ++ ((rd_T51 x231001 ((rd_T60 x21 x23).f2)).f0)) ++ (⟨#[32]⟩ : ByteArray)) ++ t244]) x21 x22 (wrap64 (x23 + 1)) x231000 x231001 x231002 x231003) else (none)) else (none))) else (none)) else (none)) else (none)) else (none)))) else (none)) else (none)) else (some (x8, 0))
def steps_Lines.f (k : Nat) (l0_0 : List (S49)) (l0_1 : List (S51)) (a0_2 : Int) (a0_3 : Int) (l1 : List (S60)) : Option (List ByteArray × Int) := (steps_Check.f k l0_0 l0_1 a0_2 a0_3 l1).bind fun bt231 => (if bt231.2 = 0 then (steps_Lines.l0 k ([] : List ByteArray) l1 (l1.length : Int) 0 l0_0 l0_1 a0_2 a0_3) else (some (([] : List ByteArray), bt231.2)))
def steps_Lines.T10 : Bool × List (List Nat × List Nat) := (true, [([], []), ([], []), ([1], [1]), ([2], [2]), ([3], [3]), ([], []), ([5], [5]), ([6], [6]), ([4, 7], [4, 7]), ([8], [8]), ([0, 9, 7], [0, 9]), ([10, 10, 0, 1, 2, 3, 4, 5, 6, 7, 8, 9, 10], [0, 10])])
def steps_Lines.B10 : List Nat := [0, 0, 2, 6, 14, 0, 32, 96, 254, 510, 1023, 2047]
theorem steps_Lines.tab10 : rtab .any (opsOf Tryd.f12 10) = steps_Lines.T10 := by kernel_rfl
theorem steps_Lines.bits10 : waitsOk steps_Lines.T10.2 steps_Lines.B10 = true := by kernel_rfl
set_option maxHeartbeats 8000000 in
set_option maxRecDepth 100000 in
theorem steps_Lines.calls (k : Nat) (A0_0 : Option Addr) (c0_0 : Nat) (l0_0 : List (S49)) (A0_1 : Option Addr) (c0_1 : Nat) (l0_1 : List (S51)) (a0_2 : Int) (a0_3 : Int) (A1 : Option Addr) (c1 : Nat) (l1 : List (S60)) (r1 : List ByteArray) (r2 : Int) (w : World) (hr0_0 : Kd.C k49 w A0_0 l0_0.length l0_0) (hc0_0 : l0_0.length ≤ c0_0) (hr0_1 : Kd.C k51 w A0_1 l0_1.length l0_1) (hc0_1 : l0_1.length ≤ c0_1) (hr1 : Kd.C k60 w A1 l1.length l1) (hc1 : l1.length ≤ c1) (h : steps_Lines.f k l0_0 l0_1 a0_2 a0_3 l1 = some (r1, r2)) :
  Calls Tryd.prog 12 #[.agg #[.slice A0_0 l0_0.length c0_0, .slice A0_1 l0_1.length c0_1, .int .i64 a0_2, .int .i64 a0_3], .slice A1 l1.length c1] w fun e w' => ∃ v0_ : Value, e = .returned (.tuple #[v0_, .int .i64 r2]) ∧ Kd.R Kd.string 9 w' w.heap.size (fun _ => True) v0_ r1 ∧ Below w.heap.size w w' := by
 have hu35 := Tryd.underlying35
 have hu60 := Tryd.underlying60
 have hu51 := Tryd.underlying51
 have HR0_0 := am_ hr0_0
 have HC0_0 := am_ hc0_0
 clear hr0_0 hc0_0
 have HR0_1 := am_ hr0_1
 have HC0_1 := am_ hc0_1
 clear hr0_1 hc0_1
 have HR1 := am_ hr1
 have HC1 := am_ hc1
 clear hr1 hc1
 have HB := am_ (Below.refl w.heap.size w)
 have H : ((steps_Check.f k l0_0 l0_1 a0_2 a0_3 l1).bind fun bt231 => (if bt231.2 = 0 then (steps_Lines.l0 k ([] : List ByteArray) l1 (l1.length : Int) 0 l0_0 l0_1 a0_2 a0_3) else (some (([] : List ByteArray), bt231.2)))) = some (r1, r2) := h
 clear h
 replace H := Option.bind_eq_some_iff.mp H
 obtain ⟨⟨t231, t232⟩, A30, H⟩ := H
 replace H : (if t232 = 0 then (steps_Lines.l0 k ([] : List ByteArray) l1 (l1.length : Int) 0 l0_0 l0_1 a0_2 a0_3) else (some (([] : List ByteArray), t232))) = some (r1, r2) := H
 have A3 := am_ A30
 clear A30
 by_cases c4 : t232 = 0
 ·
  rw [if_pos c4] at H
  have c4b0 : (t232 == 0) = true := beq_iff_eq.mpr c4
  have c4b1 : (t232 != 0) = false := bne_eq_false_iff_eq.mpr c4
  clear c4
  have H' := am_ H
  clear H
  go_enter Tryd.func12, Tryd.ntmps12
  go_wp2_with (first | ((with_reducible refine gate_dst (N := 2) rfl ?_); refine bev (N := 2) (cs := #[.slice A0_0 l0_0.length c0_0, .slice A0_1 l0_1.length c0_1, .int .i64 a0_2, .int .i64 a0_3]) (t := 35) ?_; intro gb230 hg w5 hbox hb; have z_ := aI (am_ (below_step (mb_ HB.out) hb)) (aI (am_ (hbox)) (aI (am_ ((bz_ hg (mb_ HB.out) : w.heap.size ≤ gb230))) (am_ ((bz_ hg (mb_ HB.out) : w.heap.size ≤ gb230))))); clear HB; obtain ⟨HB, BK230, GW230, GE230⟩ := z_; clear hb hbox hg; have hcz6_0 : w5.cell? ⟨gb230, 0, none⟩ = some (.slice A0_0 l0_0.length c0_0) := (blk_cell BK230.out 0).trans rfl; have hcz6_1 : w5.cell? ⟨gb230, 1, none⟩ = some (.slice A0_1 l0_1.length c0_1) := (blk_cell BK230.out 1).trans rfl; have hcz6_2 : w5.cell? ⟨gb230, 2, none⟩ = some (.int .i64 a0_2) := (blk_cell BK230.out 2).trans rfl; have hcz6_3 : w5.cell? ⟨gb230, 3, none⟩ = some (.int .i64 a0_3) := (blk_cell BK230.out 3).trans rfl; have hfz6_0 := blk_frozen BK230.out 0; have hfz6_1 := blk_frozen BK230.out 1; have hfz6_2 := blk_frozen BK230.out 2; have hfz6_3 := blk_frozen BK230.out 3) | ((with_reducible refine gate_callee (f := 6) rfl ?_); refine goesL_ (some 15) rfl rfl Tryd.func6 (by kernel_rfl) rfl #[.agg #[.slice A0_0 l0_0.length c0_0, .slice A0_1 l0_1.length c0_1, .int .i64 a0_2, .int .i64 a0_3], .slice A1 l1.length c1] rfl ml_ ?_; (with_reducible refine (steps_Check.calls k _ _ l0_0 _ _ l0_1 a0_2 a0_3 _ _ l1 t231 t232 _ ?side1 ?side2 ?side3 ?side4 ?side5 ?side6 A3.out).mono ?_); (case side1 => exact mc_ (Kd.C_below HR0_0.out HB.out)); (case side2 => exact HC0_0.out); (case side3 => exact mc_ (Kd.C_below HR0_1.out HB.out)); (case side4 => exact HC0_1.out); (case side5 => exact mc_ (Kd.C_below HR1.out HB.out)); (case side6 => exact HC1.out); rintro e w7 ⟨rfl, hb⟩; refine ⟨_, rfl, ?_⟩; have z_ := aI (am_ (blk_below (mk_ BK230.out) hb)) (am_ (below_step (mb_ HB.out) hb)); clear BK230 HB; obtain ⟨BK230, HB⟩ := z_; (try clear hb); (try clear hb2); (try clear hk); (try clear hi)))
  go_loopg [8, 23] k (fun kq v8 v23 w' => ∃ (x8_1 : List ByteArray) (x23_1 : Int), v23 = .int .i64 x23_1 ∧ Aside0 (steps_Lines.l0 kq x8_1 l1 (l1.length : Int) x23_1 l0_0 l0_1 a0_2 a0_3 = some (r1, r2)) ∧ Aside0 (kq ≤ k) ∧ Aside0 (Kd.R Kd.string 9 w' w.heap.size (fun _ => True) v8 x8_1) ∧ Aside0 (w'.heap[gb230]? = some (.cells #[(.slice A0_0 l0_0.length c0_0), (.slice A0_1 l0_1.length c0_1), .int .i64 a0_2, .int .i64 a0_3] 35 (0, 0))) ∧ Aside0 (Below w.heap.size w w'))
  case atStart => exact ⟨(([] : List ByteArray)), (0), rs_, H', ⟨Nat.le_refl _⟩, ⟨by first | exact Kd.R_nil _ _ _ _ _ | exact Kd.N_nil _ _ _ _ _ | exact Kd.V_nil _ _ _ _ _ | exact Kd.Q_nil _ _ _ _ _ | exact Kd.S_nil _ _ _ _ _⟩, ⟨by (with_reducible repeat (first | refine blk_drewN ?_ _ | refine blk_drew ?_ | refine blk_alloc ?_ _)); exact BK230.out⟩, ⟨mb_ HB.out⟩⟩
  case round =>
   clear H'
   try clear c1
   try clear p2
   try clear c4
   try clear c4b0
   try clear c4b1
   try clear c6
   try clear hcz6_0
   try clear hcz6_1
   try clear hcz6_2
   try clear hcz6_3
   try clear hfz6_0
   try clear hfz6_1
   try clear hfz6_2
   try clear hfz6_3
   obtain ⟨x8_1, x23_1, rfl, HA, HK1, HO_8, BK230, HB⟩ := hrel
   cases gk with
   | zero => exact absurd HA.out (by simp [steps_Lines.l0])
   | succ k1 =>
    have H := HA.out
    clear HA
    simp only [steps_Lines.l0] at H
    by_cases c8 : x23_1 < (l1.length : Int)
    ·
     rw [if_pos c8] at H
     have c8b0 : decide (x23_1 < (l1.length : Int)) = true := decide_eq_true c8
     clear c8
     by_cases c9 : 0 ≤ x23_1
     ·
      rw [if_pos c9] at H
      have c9b0 : decide (0 ≤ x23_1) = true := decide_eq_true c9
      clear c9
      by_cases c10 : x23_1 < (l1.length : Int)
      ·
       rw [if_pos c10] at H
       have c10b0 : decide (x23_1 < (l1.length : Int)) = true := decide_eq_true c10
       clear c10
       by_cases c11 : ((rd_T60 l1 x23_1).f0) = 1
       ·
        rw [if_pos c11] at H
        have c11b0 : (((rd_T60 l1 x23_1).f0) == 1) = true := beq_iff_eq.mpr c11
        have c11b1 : (((rd_T60 l1 x23_1).f0) != 1) = false := bne_eq_false_iff_eq.mpr c11
        clear c11
        by_cases c12 : 0 ≤ ((rd_T60 l1 x23_1).f1)
        ·
         rw [if_pos c12] at H
         have c12b0 : decide (0 ≤ ((rd_T60 l1 x23_1).f1)) = true := decide_eq_true c12
         clear c12
         by_cases c13 : ((rd_T60 l1 x23_1).f1) < (l0_0.length : Int)
         ·
          rw [if_pos c13] at H
          have c13b0 : decide (((rd_T60 l1 x23_1).f1) < (l0_0.length : Int)) = true := decide_eq_true c13
          clear c13
          by_cases c14 : 4 + ((rd_T49 l0_0 ((rd_T60 l1 x23_1).f1)).f0).size ≤ 9223372036854775807
          ·
           rw [if_pos c14] at H
           have c14b0 := eq_true c14
           have c14b1 : decide (4 + ((rd_T49 l0_0 ((rd_T60 l1 x23_1).f1)).f0).size ≤ 9223372036854775807) = true := decide_eq_true c14
           try have c14b2 : (9223372036854775807 < 4 + ((rd_T49 l0_0 ((rd_T60 l1 x23_1).f1)).f0).size) = False := eq_false (Nat.not_lt.2 c14)
           by_cases c15 : x8_1.length < 8796093022208
           ·
            rw [if_pos c15] at H
            have LMc15 := am_ c15
            clear c15
            obtain ⟨y236, hy236⟩ : ∃ y_ : List ByteArray, y_ = (x8_1 ++ [(⟨#[108, 97, 112, 32]⟩ : ByteArray) ++ ((rd_T49 l0_0 ((rd_T60 l1 x23_1).f1)).f0)]) := ⟨_, rfl⟩
            replace H : (steps_Lines.l0 k1 y236 l1 (l1.length : Int) (wrap64 (x23_1 + 1)) l0_0 l0_1 a0_2 a0_3) = some (r1, r2) := by first | (rw [hy236]; with_reducible exact H) | (have H2_ := (Option.bind_some _ _).symm.trans H; rw [hy236]; with_reducible exact H2_) | (have H2_ := (Option.bind_some _ _).symm.trans H; with_reducible exact H2_) | with_reducible exact H | (rw [hy236]; exact H) | exact H
            have Ny236 := am_ hy236
            clear hy236
            have H' := am_ H
            clear H
            have p233 : 0 ≤ (x23_1 : Int) := of_decide_eq_true as_
            have q233 : x23_1 < (l1.length : Int) := of_decide_eq_true as_
            obtain ⟨ad233, e233, hx233_0, hx233_1, hx233_2⟩ := at_T60 HR1.out x23_1 p233 q233
            cases e233
            replace hx233_0 := (HB.out.cell (World.block_lt_of_cell? w _ hx233_0)).trans hx233_0
            replace hx233_1 := (HB.out.cell (World.block_lt_of_cell? w _ hx233_1)).trans hx233_1
            replace hx233_2 := (HB.out.cell (World.block_lt_of_cell? w _ hx233_2)).trans hx233_2
            replace p233 := eq_true p233
            replace q233 := eq_true q233
            go_wp2_with (first | ((with_reducible refine gate_dst (N := 10) rfl ?_); refine bev (N := 10) (cs := #[.int .i64 0, .int .i64 0, .int .i64 0]) (t := 60) ?_; intro gb234 hg w16 hbox hb; have z_ := aI (am_ (Kd.R_below (mr_ HO_8.out) hb)) (aI (am_ (blk_below (mk_ BK230.out) hb)) (aI (am_ (below_step (mb_ HB.out) hb)) (aI (am_ (hbox)) (aI (am_ ((bz_ hg (mb_ HB.out) : w.heap.size ≤ gb234))) (aI (am_ ((bz_ hg (mb_ HB.out) : w.heap.size ≤ gb234))) (aI (am_ ((nl_ hg (mk_ BK230.out) : gb230 ≠ gb234))) (am_ ((ng_ hg (mk_ BK230.out) : gb234 ≠ gb230))))))))); clear HO_8 BK230 HB; obtain ⟨HO_8, BK230, HB, BK234, GW234, GE234, NB230_234, NB234_230⟩ := z_; clear hb hbox hg; have hnb17 := NB234_230.out; have hnc17 := NB230_234.out; have hcz18_0 : w16.cell? ⟨gb234, 0, none⟩ = some (.int .i64 0) := (blk_cell BK234.out 0).trans rfl; have hcz18_1 : w16.cell? ⟨gb234, 1, none⟩ = some (.int .i64 0) := (blk_cell BK234.out 1).trans rfl; have hcz18_2 : w16.cell? ⟨gb234, 2, none⟩ = some (.int .i64 0) := (blk_cell BK234.out 2).trans rfl; have hfz18_0 := blk_frozen BK234.out 0; have hfz18_1 := blk_frozen BK234.out 1; have hfz18_2 := blk_frozen BK234.out 2; have hcz19_0 : w16.cell? ⟨gb230, 0, none⟩ = some (.slice A0_0 l0_0.length c0_0) := (blk_cell BK230.out 0).trans rfl; have hcz19_1 : w16.cell? ⟨gb230, 1, none⟩ = some (.slice A0_1 l0_1.length c0_1) := (blk_cell BK230.out 1).trans rfl; have hcz19_2 : w16.cell? ⟨gb230, 2, none⟩ = some (.int .i64 a0_2) := (blk_cell BK230.out 2).trans rfl; have hcz19_3 : w16.cell? ⟨gb230, 3, none⟩ = some (.int .i64 a0_3) := (blk_cell BK230.out 3).trans rfl; have hfz19_0 := blk_frozen BK230.out 0; have hfz19_1 := blk_frozen BK230.out 1; have hfz19_2 := blk_frozen BK230.out 2; have hfz19_3 := blk_frozen BK230.out 3; have p235 : 0 ≤ (((rd_T60 l1 x23_1).f1) : Int) := of_decide_eq_true as_; have q235 : ((rd_T60 l1 x23_1).f1) < (l0_0.length : Int) := of_decide_eq_true as_; obtain ⟨ad235, e235, hx235_0, hx235_1, hx235_2⟩ := at_T49 HR0_0.out ((rd_T60 l1 x23_1).f1) p235 q235; cases e235; have hn235_0 : ad235.block ≠ gb234 := Nat.ne_of_lt (Nat.lt_of_lt_of_le (by have := World.block_lt_of_cell? _ _ hx235_0; first | rwa [add_block] at this | exact this) GW234.out); have hn235_1 : ad235.block ≠ gb234 := Nat.ne_of_lt (Nat.lt_of_lt_of_le (by have := World.block_lt_of_cell? _ _ hx235_0; first | rwa [add_block] at this | exact this) GW234.out); have hn235_2 : ad235.block ≠ gb234 := Nat.ne_of_lt (Nat.lt_of_lt_of_le (by have := World.block_lt_of_cell? _ _ hx235_0; first | rwa [add_block] at this | exact this) GW234.out); replace hx235_0 := (HB.out.cell (World.block_lt_of_cell? w _ hx235_0)).trans hx235_0; replace hx235_1 := (HB.out.cell (World.block_lt_of_cell? w _ hx235_1)).trans hx235_1; replace hx235_2 := (HB.out.cell (World.block_lt_of_cell? w _ hx235_2)).trans hx235_2; replace hx235_0 := (cell_far (p := ⟨gb234, 0, none⟩) (ma_ hn235_0) (.int .i64 ((rd_T60 l1 x23_1).f0))).trans hx235_0; replace hx235_1 := (cell_far (p := ⟨gb234, 0, none⟩) (ma_ hn235_0) (.int .i64 ((rd_T60 l1 x23_1).f0))).trans hx235_1; replace hx235_2 := (cell_far (p := ⟨gb234, 0, none⟩) (ma_ hn235_0) (.int .i64 ((rd_T60 l1 x23_1).f0))).trans hx235_2; replace hx235_0 := (cell_far (p := ⟨gb234, 1, none⟩) (ma_ hn235_1) (.int .i64 ((rd_T60 l1 x23_1).f1))).trans hx235_0; replace hx235_1 := (cell_far (p := ⟨gb234, 1, none⟩) (ma_ hn235_1) (.int .i64 ((rd_T60 l1 x23_1).f1))).trans hx235_1; replace hx235_2 := (cell_far (p := ⟨gb234, 1, none⟩) (ma_ hn235_1) (.int .i64 ((rd_T60 l1 x23_1).f1))).trans hx235_2; replace hx235_0 := (cell_far (p := ⟨gb234, 2, none⟩) (ma_ hn235_2) (.int .i64 ((rd_T60 l1 x23_1).f2))).trans hx235_0; replace hx235_1 := (cell_far (p := ⟨gb234, 2, none⟩) (ma_ hn235_2) (.int .i64 ((rd_T60 l1 x23_1).f2))).trans hx235_1; replace hx235_2 := (cell_far (p := ⟨gb234, 2, none⟩) (ma_ hn235_2) (.int .i64 ((rd_T60 l1 x23_1).f2))).trans hx235_2; clear hn235_0 hn235_1 hn235_2; replace p235 := eq_true p235; replace q235 := eq_true q235) | ((with_reducible refine gate_builtin (b := .append) (xs := #[.tmp 48, .tmp 57]) rfl ?_); at_builtin; refine Kd.R_append Kd.string (w0 := w) w.heap.size rfl (.tmp 48) (.tmp 57) 40 9 (.string ⟨#[]⟩) 16 rfl Tryd.underlying40 info9 rfl (by decide) (by omega) u8 x8_1 ((⟨#[108, 97, 112, 32]⟩ : ByteArray) ++ ((rd_T49 l0_0 ((rd_T60 l1 x23_1).f1)).f0)) [.string ((⟨#[108, 97, 112, 32]⟩ : ByteArray) ++ ((rd_T49 l0_0 ((rd_T60 l1 x23_1).f1)).f0))] (fun _ => True) (fun _ => False) rfl (by first | (go_simp; done) | (go_simp; rfl)) ?aP (fun _ hk => hk.elim) ?aF ?aO ?aB ?aS ?aL ?_; (case aP => exact rfl); (case aB => exact (mb_ HB.out)); (case aF => exact (fun _ _ => trivial)); (case aO => exact (by (with_reducible repeat (first | apply Kd.R_alloc | apply Kd.R_drewN | apply Kd.R_drew)); exact Kd.R_mono (Kd.R_far (p := ⟨gb234, 2, none⟩) (Kd.R_far (p := ⟨gb234, 1, none⟩) (Kd.R_far (p := ⟨gb234, 0, none⟩) (Kd.R_types HO_8.out BK234.out (by decide)) (fun _ hk => hk.2) (.int .i64 ((rd_T60 l1 x23_1).f0))) (fun _ hk => hk.2) (.int .i64 ((rd_T60 l1 x23_1).f1))) (fun _ hk => hk.2) (.int .i64 ((rd_T60 l1 x23_1).f2))) (fun _ hk => trivial))); (case aS => exact (below_size (mb_ HB.out))); (case aL => have := LMc15.out; omega); intro v237 w20 ho hb hg hat; rw [← Ny236.out] at ho; have z_ := aI (am_ (blk_grown (g := gb230) (o := .cells #[.slice (some ad235) l0_0.length c0_0, .slice A0_1 l0_1.length c0_1, .int .i64 a0_2, .int .i64 a0_3] 35 (0, 0)) (mf_ BK230.out) hg (Kd.R_ne HO_8.out BK230.out (by decide)))) (aI (am_ (blk_grown (g := gb234) (o := .cells #[.int .i64 ((rd_T60 l1 x23_1).f0), .int .i64 ((rd_T60 l1 x23_1).f1), .int .i64 ((rd_T60 l1 x23_1).f2)] 60 (0, 0)) (by (with_reducible repeat (first | refine blk_drewN ?_ _ | refine blk_drew ?_ | refine blk_alloc ?_ _)); refine blk_put (cs := #[.int .i64 ((rd_T60 l1 x23_1).f0), .int .i64 ((rd_T60 l1 x23_1).f1), .int .i64 0]) ?_ 2 _ rfl; (with_reducible repeat (first | refine blk_drewN ?_ _ | refine blk_drew ?_ | refine blk_alloc ?_ _)); refine blk_put (cs := #[.int .i64 ((rd_T60 l1 x23_1).f0), .int .i64 0, .int .i64 0]) ?_ 1 _ rfl; (with_reducible repeat (first | refine blk_drewN ?_ _ | refine blk_drew ?_ | refine blk_alloc ?_ _)); refine blk_put (cs := #[.int .i64 0, .int .i64 0, .int .i64 0]) ?_ 0 _ rfl; (with_reducible repeat (first | refine blk_drewN ?_ _ | refine blk_drew ?_ | refine blk_alloc ?_ _)); exact BK234.out) hg (Kd.R_ne HO_8.out BK234.out (by decide)))) (aI (am_ (hb)) (am_ (ho)))); clear BK230 BK234 HB HO_8; obtain ⟨BK230, BK234, HB, HO238⟩ := z_; clear ho hb hg hat))
            go_roundg k1
            case measure => have := HK1.out; omega
            case rel => exact ⟨(y236), (wrap64 (x23_1 + 1)), rs_, H', ⟨by have := HK1.out; omega⟩, ⟨by (with_reducible repeat (first | apply Kd.R_alloc | apply Kd.R_drewN | apply Kd.R_drew)); exact HO238.out⟩, ⟨by (with_reducible repeat (first | refine blk_drewN ?_ _ | refine blk_drew ?_ | refine blk_alloc ?_ _)); exact BK230.out⟩, ⟨mb_ HB.out⟩⟩
           ·
            rw [if_neg c15] at H
            exact absurd H (by simp)
          ·
           rw [if_neg c14] at H
           exact absurd H (by simp)
         ·
          rw [if_neg c13] at H
          exact absurd H (by simp)
        ·
         rw [if_neg c12] at H
         exact absurd H (by simp)
       ·
        rw [if_neg c11] at H
        have c11b0 : (((rd_T60 l1 x23_1).f0) == 1) = false := beq_eq_false_iff_ne.mpr c11
        have c11b1 : (((rd_T60 l1 x23_1).f0) != 1) = true := bne_iff_ne.mpr c11
        by_cases c21 : ((rd_T60 l1 x23_1).f0) = 2
        ·
         rw [if_pos c21] at H
         have c21b0 : (((rd_T60 l1 x23_1).f0) == 2) = true := beq_iff_eq.mpr c21
         have c21b1 : (((rd_T60 l1 x23_1).f0) != 2) = false := bne_eq_false_iff_eq.mpr c21
         clear c21
         by_cases c22 : x8_1.length < 8796093022208
         ·
          rw [if_pos c22] at H
          have LMc22 := am_ c22
          clear c22
          obtain ⟨y239, hy239⟩ : ∃ y_ : List ByteArray, y_ = (x8_1 ++ [(⟨#[116, 114, 97, 110, 115, 102, 101, 114]⟩ : ByteArray)]) := ⟨_, rfl⟩
          replace H : (steps_Lines.l0 k1 y239 l1 (l1.length : Int) (wrap64 (x23_1 + 1)) l0_0 l0_1 a0_2 a0_3) = some (r1, r2) := by first | (rw [hy239]; with_reducible exact H) | (have H2_ := (Option.bind_some _ _).symm.trans H; rw [hy239]; with_reducible exact H2_) | (have H2_ := (Option.bind_some _ _).symm.trans H; with_reducible exact H2_) | with_reducible exact H | (rw [hy239]; exact H) | exact H
          have Ny239 := am_ hy239
          clear hy239
          have H' := am_ H
          clear H
          have p233 : 0 ≤ (x23_1 : Int) := of_decide_eq_true as_
          have q233 : x23_1 < (l1.length : Int) := of_decide_eq_true as_
          obtain ⟨ad233, e233, hx233_0, hx233_1, hx233_2⟩ := at_T60 HR1.out x23_1 p233 q233
          cases e233
          replace hx233_0 := (HB.out.cell (World.block_lt_of_cell? w _ hx233_0)).trans hx233_0
          replace hx233_1 := (HB.out.cell (World.block_lt_of_cell? w _ hx233_1)).trans hx233_1
          replace hx233_2 := (HB.out.cell (World.block_lt_of_cell? w _ hx233_2)).trans hx233_2
          replace p233 := eq_true p233
          replace q233 := eq_true q233
          go_wp2_with (first | ((with_reducible refine gate_dst (N := 10) rfl ?_); refine bev (N := 10) (cs := #[.int .i64 0, .int .i64 0, .int .i64 0]) (t := 60) ?_; intro gb234 hg w23 hbox hb; have z_ := aI (am_ (Kd.R_below (mr_ HO_8.out) hb)) (aI (am_ (blk_below (mk_ BK230.out) hb)) (aI (am_ (below_step (mb_ HB.out) hb)) (aI (am_ (hbox)) (aI (am_ ((bz_ hg (mb_ HB.out) : w.heap.size ≤ gb234))) (aI (am_ ((bz_ hg (mb_ HB.out) : w.heap.size ≤ gb234))) (aI (am_ ((nl_ hg (mk_ BK230.out) : gb230 ≠ gb234))) (am_ ((ng_ hg (mk_ BK230.out) : gb234 ≠ gb230))))))))); clear HO_8 BK230 HB; obtain ⟨HO_8, BK230, HB, BK234, GW234, GE234, NB230_234, NB234_230⟩ := z_; clear hb hbox hg; have hnb24 := NB234_230.out; have hnc24 := NB230_234.out; have hcz25_0 : w23.cell? ⟨gb234, 0, none⟩ = some (.int .i64 0) := (blk_cell BK234.out 0).trans rfl; have hcz25_1 : w23.cell? ⟨gb234, 1, none⟩ = some (.int .i64 0) := (blk_cell BK234.out 1).trans rfl; have hcz25_2 : w23.cell? ⟨gb234, 2, none⟩ = some (.int .i64 0) := (blk_cell BK234.out 2).trans rfl; have hfz25_0 := blk_frozen BK234.out 0; have hfz25_1 := blk_frozen BK234.out 1; have hfz25_2 := blk_frozen BK234.out 2) | ((with_reducible refine gate_builtin (b := .append) (xs := #[.tmp 61, .tmp 62]) rfl ?_); at_builtin; refine Kd.R_append Kd.string (w0 := w) w.heap.size rfl (.tmp 61) (.tmp 62) 40 9 (.string ⟨#[]⟩) 16 rfl Tryd.underlying40 info9 rfl (by decide) (by omega) u8 x8_1 (⟨#[116, 114, 97, 110, 115, 102, 101, 114]⟩ : ByteArray) [.string (⟨#[116, 114, 97, 110, 115, 102, 101, 114]⟩ : ByteArray)] (fun _ => True) (fun _ => False) rfl (by first | (go_simp; done) | (go_simp; rfl)) ?aP (fun _ hk => hk.elim) ?aF ?aO ?aB ?aS ?aL ?_; (case aP => exact rfl); (case aB => exact (mb_ HB.out)); (case aF => exact (fun _ _ => trivial)); (case aO => exact (by (with_reducible repeat (first | apply Kd.R_alloc | apply Kd.R_drewN | apply Kd.R_drew)); exact Kd.R_mono (Kd.R_far (p := ⟨gb234, 2, none⟩) (Kd.R_far (p := ⟨gb234, 1, none⟩) (Kd.R_far (p := ⟨gb234, 0, none⟩) (Kd.R_types HO_8.out BK234.out (by decide)) (fun _ hk => hk.2) (.int .i64 ((rd_T60 l1 x23_1).f0))) (fun _ hk => hk.2) (.int .i64 ((rd_T60 l1 x23_1).f1))) (fun _ hk => hk.2) (.int .i64 ((rd_T60 l1 x23_1).f2))) (fun _ hk => trivial))); (case aS => exact (below_size (mb_ HB.out))); (case aL => have := LMc22.out; omega); intro v240 w26 ho hb hg hat; rw [← Ny239.out] at ho; have z_ := aI (am_ (blk_grown (g := gb230) (o := .cells #[.slice A0_0 l0_0.length c0_0, .slice A0_1 l0_1.length c0_1, .int .i64 a0_2, .int .i64 a0_3] 35 (0, 0)) (mf_ BK230.out) hg (Kd.R_ne HO_8.out BK230.out (by decide)))) (aI (am_ (blk_grown (g := gb234) (o := .cells #[.int .i64 ((rd_T60 l1 x23_1).f0), .int .i64 ((rd_T60 l1 x23_1).f1), .int .i64 ((rd_T60 l1 x23_1).f2)] 60 (0, 0)) (by (with_reducible repeat (first | refine blk_drewN ?_ _ | refine blk_drew ?_ | refine blk_alloc ?_ _)); refine blk_put (cs := #[.int .i64 ((rd_T60 l1 x23_1).f0), .int .i64 ((rd_T60 l1 x23_1).f1), .int .i64 0]) ?_ 2 _ rfl; (with_reducible repeat (first | refine blk_drewN ?_ _ | refine blk_drew ?_ | refine blk_alloc ?_ _)); refine blk_put (cs := #[.int .i64 ((rd_T60 l1 x23_1).f0), .int .i64 0, .int .i64 0]) ?_ 1 _ rfl; (with_reducible repeat (first | refine blk_drewN ?_ _ | refine blk_drew ?_ | refine blk_alloc ?_ _)); refine blk_put (cs := #[.int .i64 0, .int .i64 0, .int .i64 0]) ?_ 0 _ rfl; (with_reducible repeat (first | refine blk_drewN ?_ _ | refine blk_drew ?_ | refine blk_alloc ?_ _)); exact BK234.out) hg (Kd.R_ne HO_8.out BK234.out (by decide)))) (aI (am_ (hb)) (am_ (ho)))); clear BK230 BK234 HB HO_8; obtain ⟨BK230, BK234, HB, HO241⟩ := z_; clear ho hb hg hat))
          go_roundg k1
          case measure => have := HK1.out; omega
          case rel => exact ⟨(y239), (wrap64 (x23_1 + 1)), rs_, H', ⟨by have := HK1.out; omega⟩, ⟨by (with_reducible repeat (first | apply Kd.R_alloc | apply Kd.R_drewN | apply Kd.R_drew)); exact HO241.out⟩, ⟨by (with_reducible repeat (first | refine blk_drewN ?_ _ | refine blk_drew ?_ | refine blk_alloc ?_ _)); exact BK230.out⟩, ⟨mb_ HB.out⟩⟩
         ·
          rw [if_neg c22] at H
          exact absurd H (by simp)
        ·
         rw [if_neg c21] at H
         have c21b0 : (((rd_T60 l1 x23_1).f0) == 2) = false := beq_eq_false_iff_ne.mpr c21
         have c21b1 : (((rd_T60 l1 x23_1).f0) != 2) = true := bne_iff_ne.mpr c21
         by_cases c27 : 0 ≤ ((rd_T60 l1 x23_1).f2)
         ·
          rw [if_pos c27] at H
          have c27b0 : decide (0 ≤ ((rd_T60 l1 x23_1).f2)) = true := decide_eq_true c27
          clear c27
          by_cases c28 : ((rd_T60 l1 x23_1).f2) < (l0_1.length : Int)
          ·
           rw [if_pos c28] at H
           have c28b0 : decide (((rd_T60 l1 x23_1).f2) < (l0_1.length : Int)) = true := decide_eq_true c28
           clear c28
           by_cases c29 : 4 + ((rd_T51 l0_1 ((rd_T60 l1 x23_1).f2)).f0).size ≤ 9223372036854775807
           ·
            rw [if_pos c29] at H
            have c29b0 := eq_true c29
            have c29b1 : decide (4 + ((rd_T51 l0_1 ((rd_T60 l1 x23_1).f2)).f0).size ≤ 9223372036854775807) = true := decide_eq_true c29
            try have c29b2 : (9223372036854775807 < 4 + ((rd_T51 l0_1 ((rd_T60 l1 x23_1).f2)).f0).size) = False := eq_false (Nat.not_lt.2 c29)
            by_cases c30 : ((⟨#[99, 117, 116, 32]⟩ : ByteArray) ++ ((rd_T51 l0_1 ((rd_T60 l1 x23_1).f2)).f0)).size + 1 ≤ 9223372036854775807
            ·
             rw [if_pos c30] at H
             have c30b0 := eq_true c30
             have c30b1 : decide (((⟨#[99, 117, 116, 32]⟩ : ByteArray) ++ ((rd_T51 l0_1 ((rd_T60 l1 x23_1).f2)).f0)).size + 1 ≤ 9223372036854775807) = true := decide_eq_true c30
             try have c30b2 : (9223372036854775807 < ((⟨#[99, 117, 116, 32]⟩ : ByteArray) ++ ((rd_T51 l0_1 ((rd_T60 l1 x23_1).f2)).f0)).size + 1) = False := eq_false (Nat.not_lt.2 c30)
             have c30b3 : (9223372036854775807 < 4 + ((rd_T51 l0_1 ((rd_T60 l1 x23_1).f2)).f0).size + 1) = False := eq_false (Nat.not_lt.2 (by have z_ := c30; rw [ByteArray.size_append] at z_; exact z_))
             replace H := Option.bind_eq_some_iff.mp H
             obtain ⟨t244, A310, H⟩ := H
             replace H : (if (((⟨#[99, 117, 116, 32]⟩ : ByteArray) ++ ((rd_T51 l0_1 ((rd_T60 l1 x23_1).f2)).f0)) ++ (⟨#[32]⟩ : ByteArray)).size + t244.size ≤ 9223372036854775807 then (if x8_1.length < 8796093022208 then (steps_Lines.l0 k1 (x8_1 ++ [(((⟨#[99, 117, 116, 32]⟩ : ByteArray) ++ ((rd_T51 l0_1 ((rd_T60 l1 x23_1).f2)).f0)) ++ (⟨#[32]⟩ : ByteArray)) ++ t244]) l1 (l1.length : Int) (wrap64 (x23_1 + 1)) l0_0 l0_1 a0_2 a0_3) else (none)) else (none)) = some (r1, r2) := H
             have A31 := am_ A310
             clear A310
             by_cases c32 : (((⟨#[99, 117, 116, 32]⟩ : ByteArray) ++ ((rd_T51 l0_1 ((rd_T60 l1 x23_1).f2)).f0)) ++ (⟨#[32]⟩ : ByteArray)).size + t244.size ≤ 9223372036854775807
             ·
              rw [if_pos c32] at H
              have c32b0 := eq_true c32
              have c32b1 : decide ((((⟨#[99, 117, 116, 32]⟩ : ByteArray) ++ ((rd_T51 l0_1 ((rd_T60 l1 x23_1).f2)).f0)) ++ (⟨#[32]⟩ : ByteArray)).size + t244.size ≤ 9223372036854775807) = true := decide_eq_true c32
              try have c32b2 : (9223372036854775807 < (((⟨#[99, 117, 116, 32]⟩ : ByteArray) ++ ((rd_T51 l0_1 ((rd_T60 l1 x23_1).f2)).f0)) ++ (⟨#[32]⟩ : ByteArray)).size + t244.size) = False := eq_false (Nat.not_lt.2 c32)
              have c32b3 : (9223372036854775807 < 4 + ((rd_T51 l0_1 ((rd_T60 l1 x23_1).f2)).f0).size + 1 + t244.size) = False := eq_false (Nat.not_lt.2 (by have z_ := c32; rw [ByteArray.size_append, ByteArray.size_append] at z_; exact z_))
              by_cases c33 : x8_1.length < 8796093022208
              ·
               rw [if_pos c33] at H
               have LMc33 := am_ c33
               clear c33
               obtain ⟨y245, hy245⟩ : ∃ y_ : List ByteArray, y_ = (x8_1 ++ [(((⟨#[99, 117, 116, 32]⟩ : ByteArray) ++ ((rd_T51 l0_1 ((rd_T60 l1 x23_1).f2)).f0)) ++ (⟨#[32]⟩ : ByteArray)) ++ t244]) := ⟨_, rfl⟩
               replace H : (steps_Lines.l0 k1 y245 l1 (l1.length : Int) (wrap64 (x23_1 + 1)) l0_0 l0_1 a0_2 a0_3) = some (r1, r2) := by first | (rw [hy245]; with_reducible exact H) | (have H2_ := (Option.bind_some _ _).symm.trans H; rw [hy245]; with_reducible exact H2_) | (have H2_ := (Option.bind_some _ _).symm.trans H; with_reducible exact H2_) | with_reducible exact H | (rw [hy245]; exact H) | exact H
               have Ny245 := am_ hy245
               clear hy245
               have H' := am_ H
               clear H
               have p233 : 0 ≤ (x23_1 : Int) := of_decide_eq_true as_
               have q233 : x23_1 < (l1.length : Int) := of_decide_eq_true as_
               obtain ⟨ad233, e233, hx233_0, hx233_1, hx233_2⟩ := at_T60 HR1.out x23_1 p233 q233
               cases e233
               replace hx233_0 := (HB.out.cell (World.block_lt_of_cell? w _ hx233_0)).trans hx233_0
               replace hx233_1 := (HB.out.cell (World.block_lt_of_cell? w _ hx233_1)).trans hx233_1
               replace hx233_2 := (HB.out.cell (World.block_lt_of_cell? w _ hx233_2)).trans hx233_2
               replace p233 := eq_true p233
               replace q233 := eq_true q233
               try go_wp2_with (first | ((with_reducible refine gate_dst (N := 10) rfl ?_); refine bev (N := 10) (cs := #[.int .i64 0, .int .i64 0, .int .i64 0]) (t := 60) ?_; intro gb234 hg w34 hbox hb; have z_ := aI (am_ (Kd.R_below (mr_ HO_8.out) hb)) (aI (am_ (blk_below (mk_ BK230.out) hb)) (aI (am_ (below_step (mb_ HB.out) hb)) (aI (am_ (hbox)) (aI (am_ ((bz_ hg (mb_ HB.out) : w.heap.size ≤ gb234))) (aI (am_ ((bz_ hg (mb_ HB.out) : w.heap.size ≤ gb234))) (aI (am_ ((nl_ hg (mk_ BK230.out) : gb230 ≠ gb234))) (am_ ((ng_ hg (mk_ BK230.out) : gb234 ≠ gb230))))))))); clear HO_8 BK230 HB; obtain ⟨HO_8, BK230, HB, BK234, GW234, GE234, NB230_234, NB234_230⟩ := z_; clear hb hbox hg; have hnb35 := NB234_230.out; have hnc35 := NB230_234.out; have hcz36_0 : w34.cell? ⟨gb234, 0, none⟩ = some (.int .i64 0) := (blk_cell BK234.out 0).trans rfl; have hcz36_1 : w34.cell? ⟨gb234, 1, none⟩ = some (.int .i64 0) := (blk_cell BK234.out 1).trans rfl; have hcz36_2 : w34.cell? ⟨gb234, 2, none⟩ = some (.int .i64 0) := (blk_cell BK234.out 2).trans rfl; have hfz36_0 := blk_frozen BK234.out 0; have hfz36_1 := blk_frozen BK234.out 1; have hfz36_2 := blk_frozen BK234.out 2; have hcz37_0 : w34.cell? ⟨gb230, 0, none⟩ = some (.slice A0_0 l0_0.length c0_0) := (blk_cell BK230.out 0).trans rfl; have hcz37_1 : w34.cell? ⟨gb230, 1, none⟩ = some (.slice A0_1 l0_1.length c0_1) := (blk_cell BK230.out 1).trans rfl; have hcz37_2 : w34.cell? ⟨gb230, 2, none⟩ = some (.int .i64 a0_2) := (blk_cell BK230.out 2).trans rfl; have hcz37_3 : w34.cell? ⟨gb230, 3, none⟩ = some (.int .i64 a0_3) := (blk_cell BK230.out 3).trans rfl; have hfz37_0 := blk_frozen BK230.out 0; have hfz37_1 := blk_frozen BK230.out 1; have hfz37_2 := blk_frozen BK230.out 2; have hfz37_3 := blk_frozen BK230.out 3; have p242 : 0 ≤ (((rd_T60 l1 x23_1).f2) : Int) := of_decide_eq_true as_; have q242 : ((rd_T60 l1 x23_1).f2) < (l0_1.length : Int) := of_decide_eq_true as_; obtain ⟨ad242, e242, hx242_0, hx242_1, hx242_2⟩ := at_T51 HR0_1.out ((rd_T60 l1 x23_1).f2) p242 q242; cases e242; have hn242_0 : ad242.block ≠ gb234 := Nat.ne_of_lt (Nat.lt_of_lt_of_le (by have := World.block_lt_of_cell? _ _ hx242_0; first | rwa [add_block] at this | exact this) GW234.out); have hn242_1 : ad242.block ≠ gb234 := Nat.ne_of_lt (Nat.lt_of_lt_of_le (by have := World.block_lt_of_cell? _ _ hx242_0; first | rwa [add_block] at this | exact this) GW234.out); have hn242_2 : ad242.block ≠ gb234 := Nat.ne_of_lt (Nat.lt_of_lt_of_le (by have := World.block_lt_of_cell? _ _ hx242_0; first | rwa [add_block] at this | exact this) GW234.out); replace hx242_0 := (HB.out.cell (World.block_lt_of_cell? w _ hx242_0)).trans hx242_0; replace hx242_1 := (HB.out.cell (World.block_lt_of_cell? w _ hx242_1)).trans hx242_1; replace hx242_2 := (HB.out.cell (World.block_lt_of_cell? w _ hx242_2)).trans hx242_2; replace hx242_0 := (cell_far (p := ⟨gb234, 0, none⟩) (ma_ hn242_0) (.int .i64 ((rd_T60 l1 x23_1).f0))).trans hx242_0; replace hx242_1 := (cell_far (p := ⟨gb234, 0, none⟩) (ma_ hn242_0) (.int .i64 ((rd_T60 l1 x23_1).f0))).trans hx242_1; replace hx242_2 := (cell_far (p := ⟨gb234, 0, none⟩) (ma_ hn242_0) (.int .i64 ((rd_T60 l1 x23_1).f0))).trans hx242_2; replace hx242_0 := (cell_far (p := ⟨gb234, 1, none⟩) (ma_ hn242_1) (.int .i64 ((rd_T60 l1 x23_1).f1))).trans hx242_0; replace hx242_1 := (cell_far (p := ⟨gb234, 1, none⟩) (ma_ hn242_1) (.int .i64 ((rd_T60 l1 x23_1).f1))).trans hx242_1; replace hx242_2 := (cell_far (p := ⟨gb234, 1, none⟩) (ma_ hn242_1) (.int .i64 ((rd_T60 l1 x23_1).f1))).trans hx242_2; replace hx242_0 := (cell_far (p := ⟨gb234, 2, none⟩) (ma_ hn242_2) (.int .i64 ((rd_T60 l1 x23_1).f2))).trans hx242_0; replace hx242_1 := (cell_far (p := ⟨gb234, 2, none⟩) (ma_ hn242_2) (.int .i64 ((rd_T60 l1 x23_1).f2))).trans hx242_1; replace hx242_2 := (cell_far (p := ⟨gb234, 2, none⟩) (ma_ hn242_2) (.int .i64 ((rd_T60 l1 x23_1).f2))).trans hx242_2; clear hn242_0 hn242_1 hn242_2; replace p242 := eq_true p242; replace q242 := eq_true q242) | ((with_reducible refine gate_dst (N := 11) rfl ?_); refine bev (N := 11) (cs := #[.string (⟨#[]⟩ : ByteArray), .int .i64 0, .int .i64 0]) (t := 51) ?_; intro gb243 hg w38 hbox hb; have z_ := aI (am_ (Kd.R_below (by (with_reducible repeat (first | apply Kd.R_alloc | apply Kd.R_drewN | apply Kd.R_drew)); exact (Kd.R_mono (Kd.R_far (p := ⟨gb234, 2, none⟩) (Kd.R_far (p := ⟨gb234, 1, none⟩) (Kd.R_far (p := ⟨gb234, 0, none⟩) (Kd.R_types HO_8.out BK234.out (by decide)) (fun _ hk => hk.2) (.int .i64 ((rd_T60 l1 x23_1).f0))) (fun _ hk => hk.2) (.int .i64 ((rd_T60 l1 x23_1).f1))) (fun _ hk => hk.2) (.int .i64 ((rd_T60 l1 x23_1).f2))) (fun _ h_ => h_.1))) hb)) (aI (am_ (blk_below (g := gb230) (o := .cells #[.slice A0_0 l0_0.length c0_0, .slice (some ad242) l0_1.length c0_1, .int .i64 a0_2, .int .i64 a0_3] 35 (0, 0)) (mf_ BK230.out) hb)) (aI (am_ (blk_below (g := gb234) (o := .cells #[.int .i64 ((rd_T60 l1 x23_1).f0), .int .i64 ((rd_T60 l1 x23_1).f1), .int .i64 ((rd_T60 l1 x23_1).f2)] 60 (0, 0)) (by (with_reducible repeat (first | refine blk_drewN ?_ _ | refine blk_drew ?_ | refine blk_alloc ?_ _)); refine blk_put (cs := #[.int .i64 ((rd_T60 l1 x23_1).f0), .int .i64 ((rd_T60 l1 x23_1).f1), .int .i64 0]) ?_ 2 _ rfl; (with_reducible repeat (first | refine blk_drewN ?_ _ | refine blk_drew ?_ | refine blk_alloc ?_ _)); refine blk_put (cs := #[.int .i64 ((rd_T60 l1 x23_1).f0), .int .i64 0, .int .i64 0]) ?_ 1 _ rfl; (with_reducible repeat (first | refine blk_drewN ?_ _ | refine blk_drew ?_ | refine blk_alloc ?_ _)); refine blk_put (cs := #[.int .i64 0, .int .i64 0, .int .i64 0]) ?_ 0 _ rfl; (with_reducible repeat (first | refine blk_drewN ?_ _ | refine blk_drew ?_ | refine blk_alloc ?_ _)); exact BK234.out) hb)) (aI (am_ (below_step (mb_ HB.out) hb)) (aI (am_ (hbox)) (aI (am_ ((bz_ hg (mb_ HB.out) : w.heap.size ≤ gb243))) (aI (am_ ((bz_ hg (mb_ HB.out) : w.heap.size ≤ gb243))) (aI (am_ ((by rw [hg]; exact Nat.ne_of_lt (blk_lt (g := gb230) (o := .cells #[.slice A0_0 l0_0.length c0_0, .slice (some ad242) l0_1.length c0_1, .int .i64 a0_2, .int .i64 a0_3] 35 (0, 0)) (mf_ BK230.out)) : gb230 ≠ gb243))) (aI (am_ ((by rw [hg]; exact Nat.ne_of_gt (blk_lt (g := gb230) (o := .cells #[.slice A0_0 l0_0.length c0_0, .slice (some ad242) l0_1.length c0_1, .int .i64 a0_2, .int .i64 a0_3] 35 (0, 0)) (mf_ BK230.out)) : gb243 ≠ gb230))) (aI (am_ ((by rw [hg]; exact Nat.ne_of_lt (blk_lt (g := gb234) (o := .cells #[.int .i64 ((rd_T60 l1 x23_1).f0), .int .i64 ((rd_T60 l1 x23_1).f1), .int .i64 ((rd_T60 l1 x23_1).f2)] 60 (0, 0)) (by (with_reducible repeat (first | refine blk_drewN ?_ _ | refine blk_drew ?_ | refine blk_alloc ?_ _)); refine blk_put (cs := #[.int .i64 ((rd_T60 l1 x23_1).f0), .int .i64 ((rd_T60 l1 x23_1).f1), .int .i64 0]) ?_ 2 _ rfl; (with_reducible repeat (first | refine blk_drewN ?_ _ | refine blk_drew ?_ | refine blk_alloc ?_ _)); refine blk_put (cs := #[.int .i64 ((rd_T60 l1 x23_1).f0), .int .i64 0, .int .i64 0]) ?_ 1 _ rfl; (with_reducible repeat (first | refine blk_drewN ?_ _ | refine blk_drew ?_ | refine blk_alloc ?_ _)); refine blk_put (cs := #[.int .i64 0, .int .i64 0, .int .i64 0]) ?_ 0 _ rfl; (with_reducible repeat (first | refine blk_drewN ?_ _ | refine blk_drew ?_ | refine blk_alloc ?_ _)); exact BK234.out)) : gb234 ≠ gb243))) (am_ ((by rw [hg]; exact Nat.ne_of_gt (blk_lt (g := gb234) (o := .cells #[.int .i64 ((rd_T60 l1 x23_1).f0), .int .i64 ((rd_T60 l1 x23_1).f1), .int .i64 ((rd_T60 l1 x23_1).f2)] 60 (0, 0)) (by (with_reducible repeat (first | refine blk_drewN ?_ _ | refine blk_drew ?_ | refine blk_alloc ?_ _)); refine blk_put (cs := #[.int .i64 ((rd_T60 l1 x23_1).f0), .int .i64 ((rd_T60 l1 x23_1).f1), .int .i64 0]) ?_ 2 _ rfl; (with_reducible repeat (first | refine blk_drewN ?_ _ | refine blk_drew ?_ | refine blk_alloc ?_ _)); refine blk_put (cs := #[.int .i64 ((rd_T60 l1 x23_1).f0), .int .i64 0, .int .i64 0]) ?_ 1 _ rfl; (with_reducible repeat (first | refine blk_drewN ?_ _ | refine blk_drew ?_ | refine blk_alloc ?_ _)); refine blk_put (cs := #[.int .i64 0, .int .i64 0, .int .i64 0]) ?_ 0 _ rfl; (with_reducible repeat (first | refine blk_drewN ?_ _ | refine blk_drew ?_ | refine blk_alloc ?_ _)); exact BK234.out)) : gb243 ≠ gb234)))))))))))); clear HO_8 BK230 BK234 HB; obtain ⟨HO_8, BK230, BK234, HB, BK243, GW243, GE243, NB230_243, NB243_230, NB234_243, NB243_234⟩ := z_; clear hb hbox hg; have hnb39 := NB243_230.out; have hnc39 := NB230_243.out; have hnb40 := NB243_234.out; have hnc40 := NB234_243.out; have hcz41_0 : w38.cell? ⟨gb243, 0, none⟩ = some (.string (⟨#[]⟩ : ByteArray)) := (blk_cell BK243.out 0).trans rfl; have hcz41_1 : w38.cell? ⟨gb243, 1, none⟩ = some (.int .i64 0) := (blk_cell BK243.out 1).trans rfl; have hcz41_2 : w38.cell? ⟨gb243, 2, none⟩ = some (.int .i64 0) := (blk_cell BK243.out 2).trans rfl; have hfz41_0 := blk_frozen BK243.out 0; have hfz41_1 := blk_frozen BK243.out 1; have hfz41_2 := blk_frozen BK243.out 2))
               have n0_ : Aside0 (Kd.R Kd.string 9 (((w38.setCell ⟨gb243, 0, none⟩ (.string ((rd_T51 l0_1 ((rd_T60 l1 x23_1).f2)).f0))).setCell ⟨gb243, 1, none⟩ (.int .i64 ((rd_T51 l0_1 ((rd_T60 l1 x23_1).f2)).f1))).setCell ⟨gb243, 2, none⟩ (.int .i64 ((rd_T51 l0_1 ((rd_T60 l1 x23_1).f2)).f2))) w.heap.size (fun _ => True) u8 x8_1) := ⟨by (with_reducible repeat (first | apply Kd.R_alloc | apply Kd.R_drewN | apply Kd.R_drew)); exact Kd.R_mono (Kd.R_far (p := ⟨gb243, 2, none⟩) (Kd.R_far (p := ⟨gb243, 1, none⟩) (Kd.R_far (p := ⟨gb243, 0, none⟩) (Kd.R_types HO_8.out BK243.out (by decide)) (fun _ hk => hk.2) (.string ((rd_T51 l0_1 ((rd_T60 l1 x23_1).f2)).f0))) (fun _ hk => hk.2) (.int .i64 ((rd_T51 l0_1 ((rd_T60 l1 x23_1).f2)).f1))) (fun _ hk => hk.2) (.int .i64 ((rd_T51 l0_1 ((rd_T60 l1 x23_1).f2)).f2))) (fun _ hk => trivial)⟩
               have n1_ : Aside0 ((((w38.setCell ⟨gb243, 0, none⟩ (.string ((rd_T51 l0_1 ((rd_T60 l1 x23_1).f2)).f0))).setCell ⟨gb243, 1, none⟩ (.int .i64 ((rd_T51 l0_1 ((rd_T60 l1 x23_1).f2)).f1))).setCell ⟨gb243, 2, none⟩ (.int .i64 ((rd_T51 l0_1 ((rd_T60 l1 x23_1).f2)).f2))).heap[gb230]? = some (.cells #[.slice A0_0 l0_0.length c0_0, .slice (some ad242) l0_1.length c0_1, .int .i64 a0_2, .int .i64 a0_3] 35 (0, 0))) := ⟨by (with_reducible repeat (first | refine blk_drewN ?_ _ | refine blk_drew ?_ | refine blk_alloc ?_ _)); refine blk_far ?_ NB230_243.out _; (with_reducible repeat (first | refine blk_drewN ?_ _ | refine blk_drew ?_ | refine blk_alloc ?_ _)); refine blk_far ?_ NB230_243.out _; (with_reducible repeat (first | refine blk_drewN ?_ _ | refine blk_drew ?_ | refine blk_alloc ?_ _)); refine blk_far ?_ NB230_243.out _; (with_reducible repeat (first | refine blk_drewN ?_ _ | refine blk_drew ?_ | refine blk_alloc ?_ _)); exact BK230.out⟩
               have n2_ : Aside0 ((((w38.setCell ⟨gb243, 0, none⟩ (.string ((rd_T51 l0_1 ((rd_T60 l1 x23_1).f2)).f0))).setCell ⟨gb243, 1, none⟩ (.int .i64 ((rd_T51 l0_1 ((rd_T60 l1 x23_1).f2)).f1))).setCell ⟨gb243, 2, none⟩ (.int .i64 ((rd_T51 l0_1 ((rd_T60 l1 x23_1).f2)).f2))).heap[gb234]? = some (.cells #[.int .i64 ((rd_T60 l1 x23_1).f0), .int .i64 ((rd_T60 l1 x23_1).f1), .int .i64 ((rd_T60 l1 x23_1).f2)] 60 (0, 0))) := ⟨by (with_reducible repeat (first | refine blk_drewN ?_ _ | refine blk_drew ?_ | refine blk_alloc ?_ _)); refine blk_far ?_ NB234_243.out _; (with_reducible repeat (first | refine blk_drewN ?_ _ | refine blk_drew ?_ | refine blk_alloc ?_ _)); refine blk_far ?_ NB234_243.out _; (with_reducible repeat (first | refine blk_drewN ?_ _ | refine blk_drew ?_ | refine blk_alloc ?_ _)); refine blk_far ?_ NB234_243.out _; (with_reducible repeat (first | refine blk_drewN ?_ _ | refine blk_drew ?_ | refine blk_alloc ?_ _)); exact BK234.out⟩
               have n3_ : Aside0 ((((w38.setCell ⟨gb243, 0, none⟩ (.string ((rd_T51 l0_1 ((rd_T60 l1 x23_1).f2)).f0))).setCell ⟨gb243, 1, none⟩ (.int .i64 ((rd_T51 l0_1 ((rd_T60 l1 x23_1).f2)).f1))).setCell ⟨gb243, 2, none⟩ (.int .i64 ((rd_T51 l0_1 ((rd_T60 l1 x23_1).f2)).f2))).heap[gb243]? = some (.cells #[.string ((rd_T51 l0_1 ((rd_T60 l1 x23_1).f2)).f0), .int .i64 ((rd_T51 l0_1 ((rd_T60 l1 x23_1).f2)).f1), .int .i64 ((rd_T51 l0_1 ((rd_T60 l1 x23_1).f2)).f2)] 51 (0, 0))) := ⟨by (with_reducible repeat (first | refine blk_drewN ?_ _ | refine blk_drew ?_ | refine blk_alloc ?_ _)); refine blk_put (cs := #[.string ((rd_T51 l0_1 ((rd_T60 l1 x23_1).f2)).f0), .int .i64 ((rd_T51 l0_1 ((rd_T60 l1 x23_1).f2)).f1), .int .i64 0]) ?_ 2 _ rfl; (with_reducible repeat (first | refine blk_drewN ?_ _ | refine blk_drew ?_ | refine blk_alloc ?_ _)); refine blk_put (cs := #[.string ((rd_T51 l0_1 ((rd_T60 l1 x23_1).f2)).f0), .int .i64 0, .int .i64 0]) ?_ 1 _ rfl; (with_reducible repeat (first | refine blk_drewN ?_ _ | refine blk_drew ?_ | refine blk_alloc ?_ _)); refine blk_put (cs := #[.string (⟨#[]⟩ : ByteArray), .int .i64 0, .int .i64 0]) ?_ 0 _ rfl; (with_reducible repeat (first | refine blk_drewN ?_ _ | refine blk_drew ?_ | refine blk_alloc ?_ _)); exact BK243.out⟩
               have n4_ : Aside0 (Below w.heap.size w (((w38.setCell ⟨gb243, 0, none⟩ (.string ((rd_T51 l0_1 ((rd_T60 l1 x23_1).f2)).f0))).setCell ⟨gb243, 1, none⟩ (.int .i64 ((rd_T51 l0_1 ((rd_T60 l1 x23_1).f2)).f1))).setCell ⟨gb243, 2, none⟩ (.int .i64 ((rd_T51 l0_1 ((rd_T60 l1 x23_1).f2)).f2)))) := ⟨mb_ HB.out⟩
               (try clear HO_8)
               (try clear BK230)
               (try clear BK234)
               (try clear BK243)
               (try clear HB)
               generalize (((w38.setCell ⟨gb243, 0, none⟩ (.string ((rd_T51 l0_1 ((rd_T60 l1 x23_1).f2)).f0))).setCell ⟨gb243, 1, none⟩ (.int .i64 ((rd_T51 l0_1 ((rd_T60 l1 x23_1).f2)).f1))).setCell ⟨gb243, 2, none⟩ (.int .i64 ((rd_T51 l0_1 ((rd_T60 l1 x23_1).f2)).f2))) = w42 at n0_ n1_ n2_ n3_ n4_ ⊢
               have HO_8 := n0_
               have BK230 := n1_
               have BK234 := n2_
               have BK243 := n3_
               have HB := n4_
               clear n0_ n1_ n2_ n3_ n4_
               have z_ := aI (am_ (Kd.R_drew HO_8.out)) (aI (am_ (blk_drew BK230.out)) (aI (am_ (blk_drew BK234.out)) (aI (am_ (blk_drew BK243.out)) (am_ (below_drew1 HB.out)))))
               clear HO_8 BK230 BK234 BK243 HB
               obtain ⟨HO_8, BK230, BK234, BK243, HB⟩ := z_
               refine start_ (n := 12) (S := fun w' => w'.cell? ⟨gb243, 0, none⟩ = some (.string ((rd_T51 l0_1 ((rd_T60 l1 x23_1).f2)).f0)) ∧ w'.cell? ⟨gb243, 1, none⟩ = some (.int .i64 ((rd_T51 l0_1 ((rd_T60 l1 x23_1).f2)).f1)) ∧ w'.cell? ⟨gb243, 2, none⟩ = some (.int .i64 ((rd_T51 l0_1 ((rd_T60 l1 x23_1).f2)).f2))) (ds := []) #[false, false, false, false, false, false, false, false, false, false, false, false] (by kernel_rfl) rfl rfl ⟨(blk_cell BK243.out 0).trans rfl, (blk_cell BK243.out 1).trans rfl, (blk_cell BK243.out 2).trans rfl⟩ (fun hHeld => ?_); refine with_tabW steps_Lines.tab10 steps_Lines.bits10 (fun HT_ HW_ => ?_)
               generalize w42.drew = w43 at HO_8 BK230 BK234 BK243 HB hHeld ⊢
               refine ltd (o := [0, 1, 5, 2, 3, 4, 6]) (n := 0) (m := 12) (by kernel_rfl) ?_
               iterate 7 (first | (refine tne rfl rfl (take_ofW HT_.out HW_.out (by kernel_rfl)) (Or.inl ⟨by rfl, by rintro w' ⟨s0, s1, s2⟩; go_simp; with_reducible rfl⟩) hHeld ?_) | (refine pne rfl rfl (any_of HT_.out (by kernel_rfl)) (Or.inl ⟨by rfl, by intro w'; go_simp; with_reducible rfl⟩) ?_))
               refine one_ (i := 7) (N := some 42) #[true, true, true, true, true, true, true, true, false, false, false, false] rfl rfl (one_of HT_.out (by kernel_rfl)) (by decide) (fun K hK => ?_)
               refine goes_ Tryd.func26 (by kernel_rfl) rfl #[.int .i64 ((rd_T51 l0_1 ((rd_T60 l1 x23_1).f2)).f2)] (by rfl) rfl rfl ml_ ?_
               with_reducible refine (strconv_Itoa.calls ((rd_T51 l0_1 ((rd_T60 l1 x23_1).f2)).f2) t244 _ A31.out).mono ?_
               rintro e w' ⟨rfl, ⟨nd, rfl⟩⟩
               refine ⟨_, rfl, ?_⟩
               refine hK.out _ _ ⟨(blk_cell BK243.out 0).trans rfl, (blk_cell BK243.out 1).trans rfl, (blk_cell BK243.out 2).trans rfl⟩ (fun hHeld => ?_)
               clear hK K
               refine norm_ (a' := ?_) ?_ ?_
               rotate_left
               ·
                show Act.put _ (some 42) _ = _
                simp only [Act.put, List.setIfInBounds_toArray, List.set_cons_zero, List.set_cons_succ, i64_w, i32_w]
                rfl
               refine pure_ (i := 8) (N := some 43) (v := ?_) (a' := ?_) #[true, true, true, true, true, true, true, true, true, false, false, false] rfl rfl (any_of HT_.out (by kernel_rfl)) (fun _ _ _ h => h) (Or.inl ⟨by rfl, ?_⟩) ?_ ?_
               rotate_left
               ·
                intro w'
                go_simp
                with_reducible rfl
               rotate_left
               ·
                simp only [Act.put, List.setIfInBounds_toArray, List.set_cons_zero, List.set_cons_succ, i64_w, i32_w]
                rfl
               refine one_ (i := 9) (N := some 44) #[true, true, true, true, true, true, true, true, true, true, false, false] rfl rfl (one_of HT_.out (by kernel_rfl)) (by decide) (fun K hK => ?_)
               refine value_ (w1 := ?_) (v := ?_) (by rfl) rfl ?_ ?_
               rotate_left 2
               ·
                go_simp
                constructor
                ·
                 rfl
                ·
                 rfl
               refine hK.out _ _ ⟨(blk_cell (blk_alloc BK243.out _) 0).trans rfl, (blk_cell (blk_alloc BK243.out _) 1).trans rfl, (blk_cell (blk_alloc BK243.out _) 2).trans rfl⟩ (fun hHeld => ?_)
               clear hK K
               refine norm_ (a' := ?_) ?_ ?_
               rotate_left
               ·
                show Act.put _ (some 44) _ = _
                simp only [Act.put, List.setIfInBounds_toArray, List.set_cons_zero, List.set_cons_succ, i64_w, i32_w]
                rfl
               refine one_ (i := 10) (N := some 45) #[true, true, true, true, true, true, true, true, true, true, true, false] rfl rfl (one_of HT_.out (by kernel_rfl)) (by decide) (fun K hK => ?_)
               refine Kd.R_append_step Kd.string (w0 := w) w.heap.size (by rfl) (.tmp 35) (.tmp 44) 40 9 (.string ⟨#[]⟩) 16 rfl Tryd.underlying40 info9 rfl (by decide) (by omega) u8 x8_1 ((((⟨#[99, 117, 116, 32]⟩ : ByteArray) ++ ((rd_T51 l0_1 ((rd_T60 l1 x23_1).f2)).f0)) ++ (⟨#[32]⟩ : ByteArray)) ++ t244) [.string ((((⟨#[99, 117, 116, 32]⟩ : ByteArray) ++ ((rd_T51 l0_1 ((rd_T60 l1 x23_1).f2)).f0)) ++ (⟨#[32]⟩ : ByteArray)) ++ t244)] (fun _ => True) (fun _ => False) rfl rfl ?aP (fun _ hk => hk.elim) ?aF ?aO ?aB ?aS ?aL ?_
               (case aP => exact rfl)
               (case aB => exact (mb_ HB.out))
               (case aF => exact (fun _ _ => trivial))
               (case aO => exact (mr_ HO_8.out))
               (case aS => exact (below_size (mb_ HB.out)))
               (case aL => have := LMc33.out; omega)
               intro v246 w44 ho hb hg hat
               rw [← Ny245.out] at ho
               have z_ := aI (am_ (blk_grown (g := gb230) (o := .cells #[.slice A0_0 l0_0.length c0_0, .slice (some ad242) l0_1.length c0_1, .int .i64 a0_2, .int .i64 a0_3] 35 (0, 0)) (mk_ BK230.out) hg (Kd.R_ne HO_8.out BK230.out (by decide)))) (aI (am_ (blk_grown (g := gb234) (o := .cells #[.int .i64 ((rd_T60 l1 x23_1).f0), .int .i64 ((rd_T60 l1 x23_1).f1), .int .i64 ((rd_T60 l1 x23_1).f2)] 60 (0, 0)) (mk_ BK234.out) hg (Kd.R_ne HO_8.out BK234.out (by decide)))) (aI (am_ (blk_grown (g := gb243) (o := .cells #[.string ((rd_T51 l0_1 ((rd_T60 l1 x23_1).f2)).f0), .int .i64 ((rd_T51 l0_1 ((rd_T60 l1 x23_1).f2)).f1), .int .i64 ((rd_T51 l0_1 ((rd_T60 l1 x23_1).f2)).f2)] 51 (0, 0)) (mk_ BK243.out) hg (Kd.R_ne HO_8.out BK243.out (by decide)))) (aI (am_ (hb)) (am_ (ho)))))
               clear BK230 BK234 BK243 HB HO_8
               obtain ⟨BK230, BK234, BK243, HB, HO247⟩ := z_
               clear ho hb hg hat
               refine hK.out _ _ ⟨(blk_cell BK243.out 0).trans rfl, (blk_cell BK243.out 1).trans rfl, (blk_cell BK243.out 2).trans rfl⟩ (fun hHeld => ?_)
               clear hK K
               refine norm_ (a' := ?_) ?_ ?_
               rotate_left
               ·
                show Act.put _ (some 45) _ = _
                simp only [Act.put, List.setIfInBounds_toArray, List.set_cons_zero, List.set_cons_succ, i64_w, i32_w]
                rfl
               refine pure_ (i := 11) (N := some 8) (v := ?_) (a' := ?_) #[true, true, true, true, true, true, true, true, true, true, true, true] rfl rfl (any_of HT_.out (by kernel_rfl)) (fun _ _ _ h => h) (Or.inl ⟨by rfl, ?_⟩) ?_ ?_
               rotate_left
               ·
                intro w'
                go_simp
                with_reducible rfl
               rotate_left
               ·
                simp only [Act.put, List.setIfInBounds_toArray, List.set_cons_zero, List.set_cons_succ, i64_w, i32_w]
                rfl
               refine done_ (done_of HT_.out (by kernel_rfl)) ?_
               try go_wp2
               go_roundg k1
               case measure => have := HK1.out; omega
               case rel => exact ⟨(y245), (wrap64 (x23_1 + 1)), rs_, H', ⟨by have := HK1.out; omega⟩, ⟨by (with_reducible repeat (first | apply Kd.R_alloc | apply Kd.R_drewN | apply Kd.R_drew)); exact HO247.out⟩, ⟨by (with_reducible repeat (first | refine blk_drewN ?_ _ | refine blk_drew ?_ | refine blk_alloc ?_ _)); exact BK230.out⟩, ⟨mb_ HB.out⟩⟩
              ·
               rw [if_neg c33] at H
               exact absurd H (by simp)
             ·
              rw [if_neg c32] at H
              exact absurd H (by simp)
            ·
             rw [if_neg c30] at H
             exact absurd H (by simp)
           ·
            rw [if_neg c29] at H
            exact absurd H (by simp)
          ·
           rw [if_neg c28] at H
           exact absurd H (by simp)
         ·
          rw [if_neg c27] at H
          exact absurd H (by simp)
      ·
       rw [if_neg c10] at H
       exact absurd H (by simp)
     ·
      rw [if_neg c9] at H
      exact absurd H (by simp)
    ·
     rw [if_neg c8] at H
     have c8b0 : decide (x23_1 < (l1.length : Int)) = false := decide_eq_false c8
     clear c8
     simp only [Option.some.injEq, Prod.mk.injEq] at H
     obtain ⟨rfl, rfl⟩ := H
     go_wp2
     go_ret2
     exact ⟨_, by first | rfl | (simp [errW_none, errW_some] <;> rfl) | (simp [*, errW_none, errW_some] <;> rfl), by (with_reducible repeat (first | apply Kd.R_alloc | apply Kd.R_drewN | apply Kd.R_drew)); exact HO_8.out, mb_ HB.out⟩
 ·
  rw [if_neg c4] at H
  have c4b0 : (t232 == 0) = false := beq_eq_false_iff_ne.mpr c4
  have c4b1 : (t232 != 0) = true := bne_iff_ne.mpr c4
  simp only [Option.some.injEq, Prod.mk.injEq] at H
  obtain ⟨rfl, rfl⟩ := H
  go_enter Tryd.func12, Tryd.ntmps12
  go_wp2_with (first | ((with_reducible refine gate_dst (N := 2) rfl ?_); refine bev (N := 2) (cs := #[.slice A0_0 l0_0.length c0_0, .slice A0_1 l0_1.length c0_1, .int .i64 a0_2, .int .i64 a0_3]) (t := 35) ?_; intro gb230 hg w45 hbox hb; have z_ := aI (am_ (below_step (mb_ HB.out) hb)) (aI (am_ (hbox)) (aI (am_ ((bz_ hg (mb_ HB.out) : w.heap.size ≤ gb230))) (am_ ((bz_ hg (mb_ HB.out) : w.heap.size ≤ gb230))))); clear HB; obtain ⟨HB, BK230, GW230, GE230⟩ := z_; clear hb hbox hg; have hcz46_0 : w45.cell? ⟨gb230, 0, none⟩ = some (.slice A0_0 l0_0.length c0_0) := (blk_cell BK230.out 0).trans rfl; have hcz46_1 : w45.cell? ⟨gb230, 1, none⟩ = some (.slice A0_1 l0_1.length c0_1) := (blk_cell BK230.out 1).trans rfl; have hcz46_2 : w45.cell? ⟨gb230, 2, none⟩ = some (.int .i64 a0_2) := (blk_cell BK230.out 2).trans rfl; have hcz46_3 : w45.cell? ⟨gb230, 3, none⟩ = some (.int .i64 a0_3) := (blk_cell BK230.out 3).trans rfl; have hfz46_0 := blk_frozen BK230.out 0; have hfz46_1 := blk_frozen BK230.out 1; have hfz46_2 := blk_frozen BK230.out 2; have hfz46_3 := blk_frozen BK230.out 3) | ((with_reducible refine gate_callee (f := 6) rfl ?_); refine goesL_ (some 15) rfl rfl Tryd.func6 (by kernel_rfl) rfl #[.agg #[.slice A0_0 l0_0.length c0_0, .slice A0_1 l0_1.length c0_1, .int .i64 a0_2, .int .i64 a0_3], .slice A1 l1.length c1] rfl ml_ ?_; (with_reducible refine (steps_Check.calls k _ _ l0_0 _ _ l0_1 a0_2 a0_3 _ _ l1 t231 t232 _ ?side1 ?side2 ?side3 ?side4 ?side5 ?side6 A3.out).mono ?_); (case side1 => exact mc_ (Kd.C_below HR0_0.out HB.out)); (case side2 => exact HC0_0.out); (case side3 => exact mc_ (Kd.C_below HR0_1.out HB.out)); (case side4 => exact HC0_1.out); (case side5 => exact mc_ (Kd.C_below HR1.out HB.out)); (case side6 => exact HC1.out); rintro e w47 ⟨rfl, hb⟩; refine ⟨_, rfl, ?_⟩; have z_ := aI (am_ (blk_below (mk_ BK230.out) hb)) (am_ (below_step (mb_ HB.out) hb)); clear BK230 HB; obtain ⟨BK230, HB⟩ := z_; (try clear hb); (try clear hb2); (try clear hk); (try clear hi)))
  go_ret2
  exact ⟨_, by first | rfl | (simp [errW_none, errW_some] <;> rfl) | (simp [*, errW_none, errW_some] <;> rfl), by first | exact Kd.R_nil _ _ _ _ _ | exact Kd.N_nil _ _ _ _ _ | exact Kd.V_nil _ _ _ _ _ | exact Kd.Q_nil _ _ _ _ _ | exact Kd.S_nil _ _ _ _ _, mb_ HB.out⟩

end Go.Proofs.YtalhpnfapagamaaDoor.S
