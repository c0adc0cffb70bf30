-- Written by this session's own programs; what the law does not lean on is left out. Lean checks it.
import Derived.Test.YtalhpnfapagamaaDoorAS
import Derived.Test.YtalhpnfapagamaaDoorASx28
import Derived.Test.YtalhpnfapagamaaDoorASx32
namespace Go.Proofs.YtalhpnfapagamaaDoor.S
open Go.RowKit Go.Proofs.YtalhpnfapagamaaDoorW.PrintWords Go.Proofs.YtalhpnfapagamaaDoorW.PrintLast Go.Proofs.YtalhpnfapagamaaDoorW.PrintMore Go.Proofs.YtalhpnfapagamaaDoorD
set_option linter.unusedVariables false
set_option linter.unusedSimpArgs false

def culetref49_Lines.l0 : Nat → List (S63) → List ByteArray → Int → List (S55) → List (S56) → Int → Int → Option (List ByteArray × Int)
 | 0, _, _, _, _, _, _, _ => none
 | k + 1, x1, x8, x9, x258000, x258001, x258002, x258003 => if x9 < (x1.length : Int) then (if 0 ≤ x9 then (if ((rd_T63 x1 x9).f0) = 1 then (if 0 ≤ ((rd_T63 x1 x9).f1) then (if ((rd_T63 x1 x9).f1) < (x258000.length : Int) then (if 4 + ((rd_T55 x258000 ((rd_T63 x1 x9).f1)).f0).size ≤ 9223372036854775807 then (if x8.length < 8796093022208 then (culetref49_Lines.l0 k x1 (x8 ++ [(⟨#[108, 97, 112, 32]⟩ : ByteArray) ++ ((rd_T55 x258000 ((rd_T63 x1 x9).f1)).f0)]) (wrap64 (x9 + 1)) x258000 x258001 x258002 x258003) else (none)) else (none)) else (none)) else (none)) else (if ((rd_T63 x1 x9).f0) = 2 then (if x8.length < 8796093022208 then (culetref49_Lines.l0 k x1 (x8 ++ [(⟨#[116, 114, 97, 110, 115, 102, 101, 114]⟩ : ByteArray)]) (wrap64 (x9 + 1)) x258000 x258001 x258002 x258003) else (none)) else (if 0 ≤ ((rd_T63 x1 x9).f2) then (if ((rd_T63 x1 x9).f2) < (x258001.length : Int) then (if 4 + ((rd_T56 x258001 ((rd_T63 x1 x9).f2)).f0).size ≤ 9223372036854775807 then (if ((⟨#[99, 117, 116, 32]⟩ : ByteArray) ++ ((rd_T56 x258001 ((rd_T63 x1 x9).f2)).f0)).size + 1 ≤ 9223372036854775807 then ((culetref44_Itoa.f k ((rd_T56 x258001 ((rd_T63 x1 x9).f2)).f2)).bind fun t272 => (if (((⟨#[99, 117, 116, 32]⟩ : ByteArray) ++ ((rd_T56 x258001 ((rd_T63 x1 x9).f2)).f0)) ++ (⟨#[32]⟩ : ByteArray)).size + t272.size ≤ 9223372036854775807 then (if x8.length < 8796093022208 then (culetref49_Lines.l0 k x1 (x8 ++ [(((⟨#[99, 117, 116, 32]⟩ : ByteArray) ++ ((rd_T56 x258001 ((rd_T63 x1 x9).f2)).f0)) ++ (⟨#[32]⟩ : ByteArray)) ++ t272]) (wrap64 (x9 + 1)) x258000 x258001 x258002 x258003) else (none)) else (none))) else (none)) else (none)) else (none)) else (none)))) else (none)) else (some (x8, 0))
def culetref49_Lines.f (k : Nat) (l0_0 : List (S55)) (l0_1 : List (S56)) (a0_2 : Int) (a0_3 : Int) (l1 : List (S63)) : Option (List ByteArray × Int) := (culetref49_Check.f k l0_0 l0_1 a0_2 a0_3 l1).bind fun bt258 => (if bt258.2 = 0 then (culetref49_Lines.l0 k l1 ([] : List ByteArray) 0 l0_0 l0_1 a0_2 a0_3) else (some (([] : List ByteArray), bt258.2)))
def culetref49_Lines.T9 : Bool × List (List Nat × List Nat) := (true, [([], []), ([0], [0]), ([], []), ([], []), ([2, 3], [2, 3]), ([4], [4]), ([5], [5]), ([1, 6], [1, 6]), ([7], [7]), ([], []), ([9, 8, 0, 1, 2, 3, 4, 5, 6, 7, 8, 9], [8, 9])])
def culetref49_Lines.B9 : List Nat := [0, 1, 0, 0, 12, 28, 60, 127, 255, 0, 1023]
theorem culetref49_Lines.tab9 : rtab .any (opsOf Tryd.f13 9) = culetref49_Lines.T9 := by kernel_rfl
theorem culetref49_Lines.bits9 : waitsOk culetref49_Lines.T9.2 culetref49_Lines.B9 = true := by kernel_rfl
def culetref49_Lines.T10 : Bool × List (List Nat × List Nat) := (true, [([], []), ([], []), ([1], [1]), ([2], [2]), ([3], [3]), ([], []), ([5], [5]), ([6], [6]), ([4, 7], [4, 7]), ([8], [8]), ([0, 9, 7], [0, 9]), ([10, 10, 0, 1, 2, 3, 4, 5, 6, 7, 8, 9, 10], [0, 10])])
def culetref49_Lines.B10 : List Nat := [0, 0, 2, 6, 14, 0, 32, 96, 254, 510, 1023, 2047]
theorem culetref49_Lines.tab10 : rtab .any (opsOf Tryd.f13 10) = culetref49_Lines.T10 := by kernel_rfl
theorem culetref49_Lines.bits10 : waitsOk culetref49_Lines.T10.2 culetref49_Lines.B10 = true := by kernel_rfl
def culetref49_Lines.T12 : Bool × List (List Nat × List Nat) := (true, [([], []), ([], []), ([1], [1]), ([], []), ([], []), ([3, 4], [3, 4]), ([5], [5]), ([6], [6]), ([2, 7], [2, 7]), ([8], [8]), ([9], [9]), ([10], [10]), ([11], [11]), ([0, 12], [0, 12]), ([13, 13, 0, 1, 2, 3, 4, 5, 6, 7, 8, 9, 10, 11, 12, 13], [0, 13])])
def culetref49_Lines.B12 : List Nat := [0, 0, 2, 0, 0, 24, 56, 120, 254, 510, 1022, 2046, 4094, 8191, 16383]
theorem culetref49_Lines.tab12 : rtab .any (opsOf Tryd.f13 12) = culetref49_Lines.T12 := by kernel_rfl
theorem culetref49_Lines.bits12 : waitsOk culetref49_Lines.T12.2 culetref49_Lines.B12 = true := by kernel_rfl
set_option maxHeartbeats 8000000 in
set_option maxRecDepth 100000 in
theorem culetref49_Lines.calls (k : Nat) (A0_0 : Option Addr) (c0_0 : Nat) (l0_0 : List (S55)) (A0_1 : Option Addr) (c0_1 : Nat) (l0_1 : List (S56)) (a0_2 : Int) (a0_3 : Int) (A1 : Option Addr) (c1 : Nat) (l1 : List (S63)) (r1 : List ByteArray) (r2 : Int) (w : World) (hr0_0 : Kd.C k55 w A0_0 l0_0.length l0_0) (hc0_0 : l0_0.length ≤ c0_0) (hr0_1 : Kd.C k56 w A0_1 l0_1.length l0_1) (hc0_1 : l0_1.length ≤ c0_1) (hr1 : Kd.C k63 w A1 l1.length l1) (hc1 : l1.length ≤ c1) (h : culetref49_Lines.f k l0_0 l0_1 a0_2 a0_3 l1 = some (r1, r2)) :
  Calls Tryd.prog 13 #[.agg #[.slice A0_0 l0_0.length c0_0, .slice A0_1 l0_1.length c0_1, .int .i64 a0_2, .int .i64 a0_3], .slice A1 l1.length c1] w fun e w' => ∃ v0_ : Value, e = .returned (.tuple #[v0_, .int .i64 r2]) ∧ Kd.R Kd.string 9 w' w.heap.size (fun _ => True) v0_ r1 ∧ Below w.heap.size w w' := by
 have hu25 := Tryd.underlying25
 have hu56 := Tryd.underlying56
 have HR0_0 := am_ hr0_0
 have HC0_0 := am_ hc0_0
 clear hr0_0 hc0_0
 have HR0_1 := am_ hr0_1
 have HC0_1 := am_ hc0_1
 clear hr0_1 hc0_1
 have HR1 := am_ hr1
 have HC1 := am_ hc1
 clear hr1 hc1
 have HB := am_ (Below.refl w.heap.size w)
 have H : ((culetref49_Check.f k l0_0 l0_1 a0_2 a0_3 l1).bind fun bt258 => (if bt258.2 = 0 then (culetref49_Lines.l0 k l1 ([] : List ByteArray) 0 l0_0 l0_1 a0_2 a0_3) else (some (([] : List ByteArray), bt258.2)))) = some (r1, r2) := h
 clear h
 replace H := Option.bind_eq_some_iff.mp H
 obtain ⟨⟨t258, t259⟩, A30, H⟩ := H
 replace H : (if t259 = 0 then (culetref49_Lines.l0 k l1 ([] : List ByteArray) 0 l0_0 l0_1 a0_2 a0_3) else (some (([] : List ByteArray), t259))) = some (r1, r2) := H
 have A3 := am_ A30
 clear A30
 by_cases c4 : t259 = 0
 ·
  rw [if_pos c4] at H
  have c4b0 : (t259 == 0) = true := beq_iff_eq.mpr c4
  have c4b1 : (t259 != 0) = false := bne_eq_false_iff_eq.mpr c4
  clear c4
  have H' := am_ H
  clear H
  go_enter Tryd.func13, Tryd.ntmps13
  go_wp2_with (first | ((with_reducible refine gate_dst (N := 2) rfl ?_); refine bev (N := 2) (cs := #[.slice A0_0 l0_0.length c0_0, .slice A0_1 l0_1.length c0_1, .int .i64 a0_2, .int .i64 a0_3]) (t := 25) ?_; intro gb257 hg w5 hbox hb; have z_ := aI (am_ (below_step (mb_ HB.out) hb)) (aI (am_ (hbox)) (aI (am_ ((bz_ hg (mb_ HB.out) : w.heap.size ≤ gb257))) (am_ ((bz_ hg (mb_ HB.out) : w.heap.size ≤ gb257))))); clear HB; obtain ⟨HB, BK257, GW257, GE257⟩ := z_; clear hb hbox hg; have hcz6_0 : w5.cell? ⟨gb257, 0, none⟩ = some (.slice A0_0 l0_0.length c0_0) := (blk_cell BK257.out 0).trans rfl; have hcz6_1 : w5.cell? ⟨gb257, 1, none⟩ = some (.slice A0_1 l0_1.length c0_1) := (blk_cell BK257.out 1).trans rfl; have hcz6_2 : w5.cell? ⟨gb257, 2, none⟩ = some (.int .i64 a0_2) := (blk_cell BK257.out 2).trans rfl; have hcz6_3 : w5.cell? ⟨gb257, 3, none⟩ = some (.int .i64 a0_3) := (blk_cell BK257.out 3).trans rfl; have hfz6_0 := blk_frozen BK257.out 0; have hfz6_1 := blk_frozen BK257.out 1; have hfz6_2 := blk_frozen BK257.out 2; have hfz6_3 := blk_frozen BK257.out 3) | ((with_reducible refine gate_callee (f := 9) rfl ?_); refine goesL_ (some 14) rfl rfl Tryd.func9 (by kernel_rfl) rfl #[.agg #[.slice A0_0 l0_0.length c0_0, .slice A0_1 l0_1.length c0_1, .int .i64 a0_2, .int .i64 a0_3], .slice A1 l1.length c1] rfl ml_ ?_; (with_reducible refine (culetref49_Check.calls k _ _ l0_0 _ _ l0_1 a0_2 a0_3 _ _ l1 t258 t259 _ ?side1 ?side2 ?side3 ?side4 ?side5 ?side6 A3.out).mono ?_); (case side1 => exact mc_ (Kd.C_below HR0_0.out HB.out)); (case side2 => exact HC0_0.out); (case side3 => exact mc_ (Kd.C_below HR0_1.out HB.out)); (case side4 => exact HC0_1.out); (case side5 => exact mc_ (Kd.C_below HR1.out HB.out)); (case side6 => exact HC1.out); rintro e w7 ⟨rfl, hb⟩; refine ⟨_, rfl, ?_⟩; have z_ := aI (am_ (blk_below (mk_ BK257.out) hb)) (am_ (below_step (mb_ HB.out) hb)); clear BK257 HB; obtain ⟨BK257, HB⟩ := z_; (try clear hb); (try clear hb2); (try clear hk); (try clear hi)))
  go_loopg [8, 9] k (fun kq v8 v9 w' => ∃ (x8_1 : List ByteArray) (x9_1 : Int), v9 = .int .i64 x9_1 ∧ Aside0 (culetref49_Lines.l0 kq l1 x8_1 x9_1 l0_0 l0_1 a0_2 a0_3 = some (r1, r2)) ∧ Aside0 (kq ≤ k) ∧ Aside0 (Kd.R Kd.string 9 w' w.heap.size (fun _ => True) v8 x8_1) ∧ Aside0 (w'.heap[gb257]? = some (.cells #[(.slice A0_0 l0_0.length c0_0), (.slice A0_1 l0_1.length c0_1), .int .i64 a0_2, .int .i64 a0_3] 25 (0, 0))) ∧ Aside0 (Below w.heap.size w w'))
  case atStart => exact ⟨(([] : List ByteArray)), (0), rs_, H', ⟨Nat.le_refl _⟩, ⟨by first | exact Kd.R_nil _ _ _ _ _ | exact Kd.N_nil _ _ _ _ _ | exact Kd.V_nil _ _ _ _ _ | exact Kd.Q_nil _ _ _ _ _ | exact Kd.S_nil _ _ _ _ _⟩, ⟨by (with_reducible repeat (first | refine blk_drewN ?_ _ | refine blk_drew ?_ | refine blk_alloc ?_ _)); exact BK257.out⟩, ⟨mb_ HB.out⟩⟩
  case round =>
   clear H'
   try clear c1
   try clear p2
   try clear c4
   try clear c4b0
   try clear c4b1
   try clear hcz6_0
   try clear hcz6_1
   try clear hcz6_2
   try clear hcz6_3
   try clear hfz6_0
   try clear hfz6_1
   try clear hfz6_2
   try clear hfz6_3
   obtain ⟨x8_1, x9_1, rfl, HA, HK1, HO_8, BK257, HB⟩ := hrel
   cases gk with
   | zero => exact absurd HA.out (by simp [culetref49_Lines.l0])
   | succ k1 =>
    have H := HA.out
    clear HA
    simp only [culetref49_Lines.l0] at H
    by_cases c8 : x9_1 < (l1.length : Int)
    ·
     rw [if_pos c8] at H
     have c8b0 : decide (x9_1 < (l1.length : Int)) = true := decide_eq_true c8
     clear c8
     by_cases c9 : 0 ≤ x9_1
     ·
      rw [if_pos c9] at H
      have c9b0 : decide (0 ≤ x9_1) = true := decide_eq_true c9
      clear c9
      by_cases c10 : ((rd_T63 l1 x9_1).f0) = 1
      ·
       rw [if_pos c10] at H
       have c10b0 : (((rd_T63 l1 x9_1).f0) == 1) = true := beq_iff_eq.mpr c10
       have c10b1 : (((rd_T63 l1 x9_1).f0) != 1) = false := bne_eq_false_iff_eq.mpr c10
       clear c10
       by_cases c11 : 0 ≤ ((rd_T63 l1 x9_1).f1)
       ·
        rw [if_pos c11] at H
        have c11b0 : decide (0 ≤ ((rd_T63 l1 x9_1).f1)) = true := decide_eq_true c11
        clear c11
        by_cases c12 : ((rd_T63 l1 x9_1).f1) < (l0_0.length : Int)
        ·
         rw [if_pos c12] at H
         have c12b0 : decide (((rd_T63 l1 x9_1).f1) < (l0_0.length : Int)) = true := decide_eq_true c12
         clear c12
         by_cases c13 : 4 + ((rd_T55 l0_0 ((rd_T63 l1 x9_1).f1)).f0).size ≤ 9223372036854775807
         ·
          rw [if_pos c13] at H
          have c13b0 := eq_true c13
          have c13b1 : decide (4 + ((rd_T55 l0_0 ((rd_T63 l1 x9_1).f1)).f0).size ≤ 9223372036854775807) = true := decide_eq_true c13
          try have c13b2 : (9223372036854775807 < 4 + ((rd_T55 l0_0 ((rd_T63 l1 x9_1).f1)).f0).size) = False := eq_false (Nat.not_lt.2 c13)
          by_cases c14 : x8_1.length < 8796093022208
          ·
           rw [if_pos c14] at H
           have LMc14 := am_ c14
           clear c14
           obtain ⟨y263, hy263⟩ : ∃ y_ : List ByteArray, y_ = (x8_1 ++ [(⟨#[108, 97, 112, 32]⟩ : ByteArray) ++ ((rd_T55 l0_0 ((rd_T63 l1 x9_1).f1)).f0)]) := ⟨_, rfl⟩
           replace H : (culetref49_Lines.l0 k1 l1 y263 (wrap64 (x9_1 + 1)) l0_0 l0_1 a0_2 a0_3) = some (r1, r2) := by first | (rw [hy263]; with_reducible exact H) | (have H2_ := (Option.bind_some _ _).symm.trans H; rw [hy263]; with_reducible exact H2_) | (have H2_ := (Option.bind_some _ _).symm.trans H; with_reducible exact H2_) | with_reducible exact H | (rw [hy263]; exact H) | exact H
           have Ny263 := am_ hy263
           clear hy263
           have H' := am_ H
           clear H
           have p260 : 0 ≤ (x9_1 : Int) := of_decide_eq_true as_
           have q260 : x9_1 < (l1.length : Int) := of_decide_eq_true as_
           obtain ⟨ad260, e260, hx260_0, hx260_1, hx260_2⟩ := at_T63 HR1.out x9_1 p260 q260
           cases e260
           replace hx260_0 := (HB.out.cell (World.block_lt_of_cell? w _ hx260_0)).trans hx260_0
           replace hx260_1 := (HB.out.cell (World.block_lt_of_cell? w _ hx260_1)).trans hx260_1
           replace hx260_2 := (HB.out.cell (World.block_lt_of_cell? w _ hx260_2)).trans hx260_2
           replace p260 := eq_true p260
           replace q260 := eq_true q260
           try go_wp2
           have z_ := aI (am_ (Kd.R_drew HO_8.out)) (aI (am_ (blk_drew BK257.out)) (am_ (below_drew1 HB.out)))
           clear HO_8 BK257 HB
           obtain ⟨HO_8, BK257, HB⟩ := z_
           have p261 : 0 ≤ (x9_1 : Int) := of_decide_eq_true as_
           have q261 : x9_1 < (l1.length : Int) := of_decide_eq_true as_
           obtain ⟨ad261, e261, hx261_0, hx261_1, hx261_2⟩ := at_T63 HR1.out x9_1 p261 q261
           have hw261_2 := hx261_2
           have hw261_1 := hx261_1
           have hw261_0 := hx261_0
           obtain rfl : ad260 = ad261 := (by injection e261)
           replace hx261_0 := (HB.out.cell (World.block_lt_of_cell? w _ hx261_0)).trans hx261_0
           replace hx261_1 := (HB.out.cell (World.block_lt_of_cell? w _ hx261_1)).trans hx261_1
           replace hx261_2 := (HB.out.cell (World.block_lt_of_cell? w _ hx261_2)).trans hx261_2
           replace p261 := eq_true p261
           replace q261 := eq_true q261
           have p262 : 0 ≤ (((rd_T63 l1 x9_1).f1) : Int) := of_decide_eq_true as_
           have q262 : ((rd_T63 l1 x9_1).f1) < (l0_0.length : Int) := of_decide_eq_true as_
           obtain ⟨ad262, e262, hx262_0, hx262_1, hx262_2⟩ := at_T55 HR0_0.out ((rd_T63 l1 x9_1).f1) p262 q262
           have hw262_2 := hx262_2
           have hw262_1 := hx262_1
           have hw262_0 := hx262_0
           cases e262
           replace hx262_0 := (HB.out.cell (World.block_lt_of_cell? w _ hx262_0)).trans hx262_0
           replace hx262_1 := (HB.out.cell (World.block_lt_of_cell? w _ hx262_1)).trans hx262_1
           replace hx262_2 := (HB.out.cell (World.block_lt_of_cell? w _ hx262_2)).trans hx262_2
           replace p262 := eq_true p262
           replace q262 := eq_true q262
           refine start_ (n := 15) (S := fun w' => w'.cell? ⟨gb257, 0, none⟩ = some (.slice (some ad262) l0_0.length c0_0) ∧ w'.cell? ⟨gb257, 1, none⟩ = some (.slice A0_1 l0_1.length c0_1) ∧ w'.cell? ⟨gb257, 2, none⟩ = some (.int .i64 a0_2) ∧ w'.cell? ⟨gb257, 3, none⟩ = some (.int .i64 a0_3) ∧ w'.cell? (ad260.add ((x9_1).toNat * 3)) = some (.int .i64 ((rd_T63 l1 x9_1).f0)) ∧ w'.cell? ⟨(ad260.add ((x9_1).toNat * 3)).block, (ad260.add ((x9_1).toNat * 3)).off + 1, none⟩ = some (.int .i64 ((rd_T63 l1 x9_1).f1)) ∧ w'.cell? ⟨(ad260.add ((x9_1).toNat * 3)).block, (ad260.add ((x9_1).toNat * 3)).off + 2, none⟩ = some (.int .i64 ((rd_T63 l1 x9_1).f2)) ∧ w'.cell? (ad262.add ((((rd_T63 l1 x9_1).f1)).toNat * 3)) = some (.string ((rd_T55 l0_0 ((rd_T63 l1 x9_1).f1)).f0)) ∧ w'.cell? ⟨(ad262.add ((((rd_T63 l1 x9_1).f1)).toNat * 3)).block, (ad262.add ((((rd_T63 l1 x9_1).f1)).toNat * 3)).off + 1, none⟩ = some (.int .i64 ((rd_T55 l0_0 ((rd_T63 l1 x9_1).f1)).f1)) ∧ w'.cell? ⟨(ad262.add ((((rd_T63 l1 x9_1).f1)).toNat * 3)).block, (ad262.add ((((rd_T63 l1 x9_1).f1)).toNat * 3)).off + 2, none⟩ = some (.int .i64 ((rd_T55 l0_0 ((rd_T63 l1 x9_1).f1)).f2))) (ds := []) #[false, false, false, false, false, false, false, false, false, false, false, false, false, false, false] (by kernel_rfl) rfl rfl ⟨(blk_cell BK257.out 0).trans rfl, (blk_cell BK257.out 1).trans rfl, (blk_cell BK257.out 2).trans rfl, (blk_cell BK257.out 3).trans rfl, ((HB.out.cell (World.block_lt_of_cell? w _ hw261_0)).trans hw261_0), ((HB.out.cell (World.block_lt_of_cell? w _ hw261_1)).trans hw261_1), ((HB.out.cell (World.block_lt_of_cell? w _ hw261_2)).trans hw261_2), ((HB.out.cell (World.block_lt_of_cell? w _ hw262_0)).trans hw262_0), ((HB.out.cell (World.block_lt_of_cell? w _ hw262_1)).trans hw262_1), ((HB.out.cell (World.block_lt_of_cell? w _ hw262_2)).trans hw262_2)⟩ (fun hHeld => ?_); refine with_tabW culetref49_Lines.tab12 culetref49_Lines.bits12 (fun HT_ HW_ => ?_)
           generalize wr.drew = w15 at HO_8 BK257 HB hx261_0 hx261_1 hx261_2 hx262_0 hx262_1 hx262_2 hHeld ⊢
           refine ltd (o := [0, 1, 3, 4, 5, 6, 2, 7, 8, 9, 10, 11]) (n := 0) (m := 15) (by kernel_rfl) ?_
           iterate 12 (first | (refine tne rfl rfl (take_ofW HT_.out HW_.out (by kernel_rfl)) (Or.inl ⟨by rfl, by rintro w' ⟨s0, s1, s2, s3, s4, s5, s6, s7, s8, s9⟩; go_simp; with_reducible rfl⟩) hHeld ?_) | (refine pne rfl rfl (any_of HT_.out (by kernel_rfl)) (Or.inl ⟨by rfl, by intro w'; go_simp; with_reducible rfl⟩) ?_))
           refine one_ (i := 12) (N := some 65) #[true, true, true, true, true, true, true, true, true, true, true, true, true, false, false] rfl rfl (one_of HT_.out (by kernel_rfl)) (by decide) (fun K hK => ?_)
           refine value_ (w1 := ?_) (v := ?_) (by rfl) rfl ?_ ?_
           rotate_left 2
           ·
            go_simp
            constructor
            ·
             rfl
            ·
             rfl
           refine hK.out _ _ ⟨(blk_cell (blk_alloc BK257.out _) 0).trans rfl, (blk_cell (blk_alloc BK257.out _) 1).trans rfl, (blk_cell (blk_alloc BK257.out _) 2).trans rfl, (blk_cell (blk_alloc BK257.out _) 3).trans rfl, (World.cell?_alloc_lt _ _ _ (World.block_lt_of_cell? _ _ (((HB.out.cell (World.block_lt_of_cell? w _ hw261_0)).trans hw261_0)))).trans (((HB.out.cell (World.block_lt_of_cell? w _ hw261_0)).trans hw261_0)), (World.cell?_alloc_lt _ _ _ (World.block_lt_of_cell? _ _ (((HB.out.cell (World.block_lt_of_cell? w _ hw261_1)).trans hw261_1)))).trans (((HB.out.cell (World.block_lt_of_cell? w _ hw261_1)).trans hw261_1)), (World.cell?_alloc_lt _ _ _ (World.block_lt_of_cell? _ _ (((HB.out.cell (World.block_lt_of_cell? w _ hw261_2)).trans hw261_2)))).trans (((HB.out.cell (World.block_lt_of_cell? w _ hw261_2)).trans hw261_2)), (World.cell?_alloc_lt _ _ _ (World.block_lt_of_cell? _ _ (((HB.out.cell (World.block_lt_of_cell? w _ hw262_0)).trans hw262_0)))).trans (((HB.out.cell (World.block_lt_of_cell? w _ hw262_0)).trans hw262_0)), (World.cell?_alloc_lt _ _ _ (World.block_lt_of_cell? _ _ (((HB.out.cell (World.block_lt_of_cell? w _ hw262_1)).trans hw262_1)))).trans (((HB.out.cell (World.block_lt_of_cell? w _ hw262_1)).trans hw262_1)), (World.cell?_alloc_lt _ _ _ (World.block_lt_of_cell? _ _ (((HB.out.cell (World.block_lt_of_cell? w _ hw262_2)).trans hw262_2)))).trans (((HB.out.cell (World.block_lt_of_cell? w _ hw262_2)).trans hw262_2))⟩ (fun hHeld => ?_)
           clear hK K
           refine norm_ (a' := ?_) ?_ ?_
           rotate_left
           ·
            show Act.put _ (some 65) _ = _
            simp only [Act.put, List.setIfInBounds_toArray, List.set_cons_zero, List.set_cons_succ, i64_w, i32_w]
            rfl
           refine one_ (i := 13) (N := some 66) #[true, true, true, true, true, true, true, true, true, true, true, true, true, true, false] rfl rfl (one_of HT_.out (by kernel_rfl)) (by decide) (fun K hK => ?_)
           refine Kd.R_append_step Kd.string (w0 := w) w.heap.size (by rfl) (.tmp 53) (.tmp 65) 40 9 (.string ⟨#[]⟩) 16 rfl Tryd.underlying40 info9 rfl (by decide) (by omega) u8 x8_1 ((⟨#[108, 97, 112, 32]⟩ : ByteArray) ++ ((rd_T55 l0_0 ((rd_T63 l1 x9_1).f1)).f0)) [.string ((⟨#[108, 97, 112, 32]⟩ : ByteArray) ++ ((rd_T55 l0_0 ((rd_T63 l1 x9_1).f1)).f0))] (fun _ => True) (fun _ => False) rfl rfl ?aP (fun _ hk => hk.elim) ?aF ?aO ?aB ?aS ?aL ?_
           (case aP => exact rfl)
           (case aB => exact (mb_ HB.out))
           (case aF => exact (fun _ _ => trivial))
           (case aO => exact (mr_ HO_8.out))
           (case aS => exact (below_size (mb_ HB.out)))
           (case aL => have := LMc14.out; omega)
           intro v264 w16 ho hb hg hat
           rw [← Ny263.out] at ho
           have z_ := aI (am_ (blk_grown (g := gb257) (o := .cells #[.slice (some ad262) l0_0.length c0_0, .slice A0_1 l0_1.length c0_1, .int .i64 a0_2, .int .i64 a0_3] 25 (0, 0)) (mk_ BK257.out) hg (Kd.R_ne HO_8.out BK257.out (by decide)))) (aI (am_ (hb)) (am_ (ho)))
           clear BK257 HB HO_8
           obtain ⟨BK257, HB, HO265⟩ := z_
           clear ho hb hg hat
           refine hK.out _ _ ⟨(blk_cell BK257.out 0).trans rfl, (blk_cell BK257.out 1).trans rfl, (blk_cell BK257.out 2).trans rfl, (blk_cell BK257.out 3).trans rfl, ((HB.out.cell (World.block_lt_of_cell? w _ hw261_0)).trans hw261_0), ((HB.out.cell (World.block_lt_of_cell? w _ hw261_1)).trans hw261_1), ((HB.out.cell (World.block_lt_of_cell? w _ hw261_2)).trans hw261_2), ((HB.out.cell (World.block_lt_of_cell? w _ hw262_0)).trans hw262_0), ((HB.out.cell (World.block_lt_of_cell? w _ hw262_1)).trans hw262_1), ((HB.out.cell (World.block_lt_of_cell? w _ hw262_2)).trans hw262_2)⟩ (fun hHeld => ?_)
           clear hK K
           refine norm_ (a' := ?_) ?_ ?_
           rotate_left
           ·
            show Act.put _ (some 66) _ = _
            simp only [Act.put, List.setIfInBounds_toArray, List.set_cons_zero, List.set_cons_succ, i64_w, i32_w]
            rfl
           refine pure_ (i := 14) (N := some 8) (v := ?_) (a' := ?_) #[true, true, true, true, true, true, true, true, true, true, true, true, true, true, true] rfl rfl (any_of HT_.out (by kernel_rfl)) (fun _ _ _ h => h) (Or.inl ⟨by rfl, ?_⟩) ?_ ?_
           rotate_left
           ·
            intro w'
            go_simp
            with_reducible rfl
           rotate_left
           ·
            simp only [Act.put, List.setIfInBounds_toArray, List.set_cons_zero, List.set_cons_succ, i64_w, i32_w]
            rfl
           refine done_ (done_of HT_.out (by kernel_rfl)) ?_
           try go_wp2
           go_roundg k1
           case measure => have := HK1.out; omega
           case rel => exact ⟨(y263), (wrap64 (x9_1 + 1)), rs_, H', ⟨by have := HK1.out; omega⟩, ⟨by (with_reducible repeat (first | apply Kd.R_alloc | apply Kd.R_drewN | apply Kd.R_drew)); exact HO265.out⟩, ⟨by (with_reducible repeat (first | refine blk_drewN ?_ _ | refine blk_drew ?_ | refine blk_alloc ?_ _)); exact BK257.out⟩, ⟨mb_ HB.out⟩⟩
          ·
           rw [if_neg c14] at H
           exact absurd H (by simp)
         ·
          rw [if_neg c13] at H
          exact absurd H (by simp)
        ·
         rw [if_neg c12] at H
         exact absurd H (by simp)
       ·
        rw [if_neg c11] at H
        exact absurd H (by simp)
      ·
       rw [if_neg c10] at H
       have c10b0 : (((rd_T63 l1 x9_1).f0) == 1) = false := beq_eq_false_iff_ne.mpr c10
       have c10b1 : (((rd_T63 l1 x9_1).f0) != 1) = true := bne_iff_ne.mpr c10
       by_cases c17 : ((rd_T63 l1 x9_1).f0) = 2
       ·
        rw [if_pos c17] at H
        have c17b0 : (((rd_T63 l1 x9_1).f0) == 2) = true := beq_iff_eq.mpr c17
        have c17b1 : (((rd_T63 l1 x9_1).f0) != 2) = false := bne_eq_false_iff_eq.mpr c17
        clear c17
        by_cases c18 : x8_1.length < 8796093022208
        ·
         rw [if_pos c18] at H
         have LMc18 := am_ c18
         clear c18
         obtain ⟨y266, hy266⟩ : ∃ y_ : List ByteArray, y_ = (x8_1 ++ [(⟨#[116, 114, 97, 110, 115, 102, 101, 114]⟩ : ByteArray)]) := ⟨_, rfl⟩
         replace H : (culetref49_Lines.l0 k1 l1 y266 (wrap64 (x9_1 + 1)) l0_0 l0_1 a0_2 a0_3) = some (r1, r2) := by first | (rw [hy266]; with_reducible exact H) | (have H2_ := (Option.bind_some _ _).symm.trans H; rw [hy266]; with_reducible exact H2_) | (have H2_ := (Option.bind_some _ _).symm.trans H; with_reducible exact H2_) | with_reducible exact H | (rw [hy266]; exact H) | exact H
         have Ny266 := am_ hy266
         clear hy266
         have H' := am_ H
         clear H
         have p260 : 0 ≤ (x9_1 : Int) := of_decide_eq_true as_
         have q260 : x9_1 < (l1.length : Int) := of_decide_eq_true as_
         obtain ⟨ad260, e260, hx260_0, hx260_1, hx260_2⟩ := at_T63 HR1.out x9_1 p260 q260
         cases e260
         replace hx260_0 := (HB.out.cell (World.block_lt_of_cell? w _ hx260_0)).trans hx260_0
         replace hx260_1 := (HB.out.cell (World.block_lt_of_cell? w _ hx260_1)).trans hx260_1
         replace hx260_2 := (HB.out.cell (World.block_lt_of_cell? w _ hx260_2)).trans hx260_2
         replace p260 := eq_true p260
         replace q260 := eq_true q260
         go_wp2_with (first | ((with_reducible refine gate_builtin (b := .append) (xs := #[.tmp 69, .tmp 70]) rfl ?_); at_builtin; refine Kd.R_append Kd.string (w0 := w) w.heap.size rfl (.tmp 69) (.tmp 70) 40 9 (.string ⟨#[]⟩) 16 rfl Tryd.underlying40 info9 rfl (by decide) (by omega) u8 x8_1 (⟨#[116, 114, 97, 110, 115, 102, 101, 114]⟩ : ByteArray) [.string (⟨#[116, 114, 97, 110, 115, 102, 101, 114]⟩ : ByteArray)] (fun _ => True) (fun _ => False) rfl rfl ?aP (fun _ hk => hk.elim) ?aF ?aO ?aB ?aS ?aL ?_; (case aP => exact rfl); (case aB => exact (mb_ HB.out)); (case aF => exact (fun _ _ => trivial)); (case aO => exact (mr_ HO_8.out)); (case aS => exact (below_size (mb_ HB.out))); (case aL => have := LMc18.out; omega); intro v267 w19 ho hb hg hat; rw [← Ny266.out] at ho; have n0_ := am_ (blk_grown (g := gb257) (o := .cells #[.slice A0_0 l0_0.length c0_0, .slice A0_1 l0_1.length c0_1, .int .i64 a0_2, .int .i64 a0_3] 25 (0, 0)) (mk_ BK257.out) hg (Kd.R_ne HO_8.out BK257.out (by decide))); have n1_ := am_ (hb); have n2_ := am_ (ho); clear BK257 HB HO_8; have BK257 := n0_; have HB := n1_; have HO268 := n2_; clear n0_ n1_ n2_; clear ho hb hg hat))
         go_roundg k1
         case measure => have := HK1.out; omega
         case rel => exact ⟨(y266), (wrap64 (x9_1 + 1)), rs_, H', ⟨by have := HK1.out; omega⟩, ⟨by (with_reducible repeat (first | apply Kd.R_alloc | apply Kd.R_drewN | apply Kd.R_drew)); exact HO268.out⟩, ⟨by (with_reducible repeat (first | refine blk_drewN ?_ _ | refine blk_drew ?_ | refine blk_alloc ?_ _)); exact BK257.out⟩, ⟨mb_ HB.out⟩⟩
        ·
         rw [if_neg c18] at H
         exact absurd H (by simp)
       ·
        rw [if_neg c17] at H
        have c17b0 : (((rd_T63 l1 x9_1).f0) == 2) = false := beq_eq_false_iff_ne.mpr c17
        have c17b1 : (((rd_T63 l1 x9_1).f0) != 2) = true := bne_iff_ne.mpr c17
        by_cases c20 : 0 ≤ ((rd_T63 l1 x9_1).f2)
        ·
         rw [if_pos c20] at H
         have c20b0 : decide (0 ≤ ((rd_T63 l1 x9_1).f2)) = true := decide_eq_true c20
         clear c20
         by_cases c21 : ((rd_T63 l1 x9_1).f2) < (l0_1.length : Int)
         ·
          rw [if_pos c21] at H
          have c21b0 : decide (((rd_T63 l1 x9_1).f2) < (l0_1.length : Int)) = true := decide_eq_true c21
          clear c21
          by_cases c22 : 4 + ((rd_T56 l0_1 ((rd_T63 l1 x9_1).f2)).f0).size ≤ 9223372036854775807
          ·
           rw [if_pos c22] at H
           have c22b0 := eq_true c22
           have c22b1 : decide (4 + ((rd_T56 l0_1 ((rd_T63 l1 x9_1).f2)).f0).size ≤ 9223372036854775807) = true := decide_eq_true c22
           try have c22b2 : (9223372036854775807 < 4 + ((rd_T56 l0_1 ((rd_T63 l1 x9_1).f2)).f0).size) = False := eq_false (Nat.not_lt.2 c22)
           by_cases c23 : ((⟨#[99, 117, 116, 32]⟩ : ByteArray) ++ ((rd_T56 l0_1 ((rd_T63 l1 x9_1).f2)).f0)).size + 1 ≤ 9223372036854775807
           ·
            rw [if_pos c23] at H
            have c23b0 := eq_true c23
            have c23b1 : decide (((⟨#[99, 117, 116, 32]⟩ : ByteArray) ++ ((rd_T56 l0_1 ((rd_T63 l1 x9_1).f2)).f0)).size + 1 ≤ 9223372036854775807) = true := decide_eq_true c23
            try have c23b2 : (9223372036854775807 < ((⟨#[99, 117, 116, 32]⟩ : ByteArray) ++ ((rd_T56 l0_1 ((rd_T63 l1 x9_1).f2)).f0)).size + 1) = False := eq_false (Nat.not_lt.2 c23)
            have c23b3 : (9223372036854775807 < 4 + ((rd_T56 l0_1 ((rd_T63 l1 x9_1).f2)).f0).size + 1) = False := eq_false (Nat.not_lt.2 (by have z_ := c23; rw [ByteArray.size_append] at z_; exact z_))
            replace H := Option.bind_eq_some_iff.mp H
            obtain ⟨t272, A240, H⟩ := H
            replace H : (if (((⟨#[99, 117, 116, 32]⟩ : ByteArray) ++ ((rd_T56 l0_1 ((rd_T63 l1 x9_1).f2)).f0)) ++ (⟨#[32]⟩ : ByteArray)).size + t272.size ≤ 9223372036854775807 then (if x8_1.length < 8796093022208 then (culetref49_Lines.l0 k1 l1 (x8_1 ++ [(((⟨#[99, 117, 116, 32]⟩ : ByteArray) ++ ((rd_T56 l0_1 ((rd_T63 l1 x9_1).f2)).f0)) ++ (⟨#[32]⟩ : ByteArray)) ++ t272]) (wrap64 (x9_1 + 1)) l0_0 l0_1 a0_2 a0_3) else (none)) else (none)) = some (r1, r2) := H
            have A24 := am_ A240
            clear A240
            by_cases c25 : (((⟨#[99, 117, 116, 32]⟩ : ByteArray) ++ ((rd_T56 l0_1 ((rd_T63 l1 x9_1).f2)).f0)) ++ (⟨#[32]⟩ : ByteArray)).size + t272.size ≤ 9223372036854775807
            ·
             rw [if_pos c25] at H
             have c25b0 := eq_true c25
             have c25b1 : decide ((((⟨#[99, 117, 116, 32]⟩ : ByteArray) ++ ((rd_T56 l0_1 ((rd_T63 l1 x9_1).f2)).f0)) ++ (⟨#[32]⟩ : ByteArray)).size + t272.size ≤ 9223372036854775807) = true := decide_eq_true c25
             try have c25b2 : (9223372036854775807 < (((⟨#[99, 117, 116, 32]⟩ : ByteArray) ++ ((rd_T56 l0_1 ((rd_T63 l1 x9_1).f2)).f0)) ++ (⟨#[32]⟩ : ByteArray)).size + t272.size) = False := eq_false (Nat.not_lt.2 c25)
             have c25b3 : (9223372036854775807 < 4 + ((rd_T56 l0_1 ((rd_T63 l1 x9_1).f2)).f0).size + 1 + t272.size) = False := eq_false (Nat.not_lt.2 (by have z_ := c25; rw [ByteArray.size_append, ByteArray.size_append] at z_; exact z_))
             by_cases c26 : x8_1.length < 8796093022208
             ·
              rw [if_pos c26] at H
              have LMc26 := am_ c26
              clear c26
              obtain ⟨y273, hy273⟩ : ∃ y_ : List ByteArray, y_ = (x8_1 ++ [(((⟨#[99, 117, 116, 32]⟩ : ByteArray) ++ ((rd_T56 l0_1 ((rd_T63 l1 x9_1).f2)).f0)) ++ (⟨#[32]⟩ : ByteArray)) ++ t272]) := ⟨_, rfl⟩
              replace H : (culetref49_Lines.l0 k1 l1 y273 (wrap64 (x9_1 + 1)) l0_0 l0_1 a0_2 a0_3) = some (r1, r2) := by first | (rw [hy273]; with_reducible exact H) | (have H2_ := (Option.bind_some _ _).symm.trans H; rw [hy273]; with_reducible exact H2_) | (have H2_ := (Option.bind_some _ _).symm.trans H; with_reducible exact H2_) | with_reducible exact H | (rw [hy273]; exact H) | exact H
              have Ny273 := am_ hy273
              clear hy273
              have H' := am_ H
              clear H
              have p260 : 0 ≤ (x9_1 : Int) := of_decide_eq_true as_
              have q260 : x9_1 < (l1.length : Int) := of_decide_eq_true as_
              obtain ⟨ad260, e260, hx260_0, hx260_1, hx260_2⟩ := at_T63 HR1.out x9_1 p260 q260
              cases e260
              replace hx260_0 := (HB.out.cell (World.block_lt_of_cell? w _ hx260_0)).trans hx260_0
              replace hx260_1 := (HB.out.cell (World.block_lt_of_cell? w _ hx260_1)).trans hx260_1
              replace hx260_2 := (HB.out.cell (World.block_lt_of_cell? w _ hx260_2)).trans hx260_2
              replace p260 := eq_true p260
              replace q260 := eq_true q260
              try go_wp2
              have z_ := aI (am_ (Kd.R_drew HO_8.out)) (aI (am_ (blk_drew BK257.out)) (am_ (below_drew1 HB.out)))
              clear HO_8 BK257 HB
              obtain ⟨HO_8, BK257, HB⟩ := z_
              have p269 : 0 ≤ (x9_1 : Int) := of_decide_eq_true as_
              have q269 : x9_1 < (l1.length : Int) := of_decide_eq_true as_
              obtain ⟨ad269, e269, hx269_0, hx269_1, hx269_2⟩ := at_T63 HR1.out x9_1 p269 q269
              have hw269_2 := hx269_2
              have hw269_1 := hx269_1
              have hw269_0 := hx269_0
              obtain rfl : ad260 = ad269 := (by injection e269)
              replace hx269_0 := (HB.out.cell (World.block_lt_of_cell? w _ hx269_0)).trans hx269_0
              replace hx269_1 := (HB.out.cell (World.block_lt_of_cell? w _ hx269_1)).trans hx269_1
              replace hx269_2 := (HB.out.cell (World.block_lt_of_cell? w _ hx269_2)).trans hx269_2
              replace p269 := eq_true p269
              replace q269 := eq_true q269
              have p270 : 0 ≤ (((rd_T63 l1 x9_1).f2) : Int) := of_decide_eq_true as_
              have q270 : ((rd_T63 l1 x9_1).f2) < (l0_1.length : Int) := of_decide_eq_true as_
              obtain ⟨ad270, e270, hx270_0, hx270_1, hx270_2⟩ := at_T56 HR0_1.out ((rd_T63 l1 x9_1).f2) p270 q270
              have hw270_2 := hx270_2
              have hw270_1 := hx270_1
              have hw270_0 := hx270_0
              cases e270
              replace hx270_0 := (HB.out.cell (World.block_lt_of_cell? w _ hx270_0)).trans hx270_0
              replace hx270_1 := (HB.out.cell (World.block_lt_of_cell? w _ hx270_1)).trans hx270_1
              replace hx270_2 := (HB.out.cell (World.block_lt_of_cell? w _ hx270_2)).trans hx270_2
              replace p270 := eq_true p270
              replace q270 := eq_true q270
              refine start_ (n := 11) (S := fun w' => w'.cell? ⟨gb257, 0, none⟩ = some (.slice A0_0 l0_0.length c0_0) ∧ w'.cell? ⟨gb257, 1, none⟩ = some (.slice (some ad270) l0_1.length c0_1) ∧ w'.cell? ⟨gb257, 2, none⟩ = some (.int .i64 a0_2) ∧ w'.cell? ⟨gb257, 3, none⟩ = some (.int .i64 a0_3) ∧ w'.cell? (ad260.add ((x9_1).toNat * 3)) = some (.int .i64 ((rd_T63 l1 x9_1).f0)) ∧ w'.cell? ⟨(ad260.add ((x9_1).toNat * 3)).block, (ad260.add ((x9_1).toNat * 3)).off + 1, none⟩ = some (.int .i64 ((rd_T63 l1 x9_1).f1)) ∧ w'.cell? ⟨(ad260.add ((x9_1).toNat * 3)).block, (ad260.add ((x9_1).toNat * 3)).off + 2, none⟩ = some (.int .i64 ((rd_T63 l1 x9_1).f2)) ∧ w'.cell? (ad270.add ((((rd_T63 l1 x9_1).f2)).toNat * 3)) = some (.string ((rd_T56 l0_1 ((rd_T63 l1 x9_1).f2)).f0)) ∧ w'.cell? ⟨(ad270.add ((((rd_T63 l1 x9_1).f2)).toNat * 3)).block, (ad270.add ((((rd_T63 l1 x9_1).f2)).toNat * 3)).off + 1, none⟩ = some (.int .i64 ((rd_T56 l0_1 ((rd_T63 l1 x9_1).f2)).f1)) ∧ w'.cell? ⟨(ad270.add ((((rd_T63 l1 x9_1).f2)).toNat * 3)).block, (ad270.add ((((rd_T63 l1 x9_1).f2)).toNat * 3)).off + 2, none⟩ = some (.int .i64 ((rd_T56 l0_1 ((rd_T63 l1 x9_1).f2)).f2))) (ds := []) #[false, false, false, false, false, false, false, false, false, false, false] (by kernel_rfl) rfl rfl ⟨(blk_cell BK257.out 0).trans rfl, (blk_cell BK257.out 1).trans rfl, (blk_cell BK257.out 2).trans rfl, (blk_cell BK257.out 3).trans rfl, ((HB.out.cell (World.block_lt_of_cell? w _ hw269_0)).trans hw269_0), ((HB.out.cell (World.block_lt_of_cell? w _ hw269_1)).trans hw269_1), ((HB.out.cell (World.block_lt_of_cell? w _ hw269_2)).trans hw269_2), ((HB.out.cell (World.block_lt_of_cell? w _ hw270_0)).trans hw270_0), ((HB.out.cell (World.block_lt_of_cell? w _ hw270_1)).trans hw270_1), ((HB.out.cell (World.block_lt_of_cell? w _ hw270_2)).trans hw270_2)⟩ (fun hHeld => ?_); refine with_tabW culetref49_Lines.tab9 culetref49_Lines.bits9 (fun HT_ HW_ => ?_)
              generalize wr.drew = w27 at HO_8 BK257 HB hx269_0 hx269_1 hx269_2 hx270_0 hx270_1 hx270_2 hHeld ⊢
              refine ltd (o := [0, 2, 3, 4, 5, 1, 6, 7, 8]) (n := 0) (m := 11) (by kernel_rfl) ?_
              iterate 9 (first | (refine tne rfl rfl (take_ofW HT_.out HW_.out (by kernel_rfl)) (Or.inl ⟨by rfl, by rintro w' ⟨s0, s1, s2, s3, s4, s5, s6, s7, s8, s9⟩; go_simp; with_reducible rfl⟩) hHeld ?_) | (refine pne rfl rfl (any_of HT_.out (by kernel_rfl)) (Or.inl ⟨by rfl, by intro w'; go_simp; with_reducible rfl⟩) ?_))
              refine one_ (i := 9) (N := some 10) #[true, true, true, true, true, true, true, true, true, true, false] rfl rfl (one_of HT_.out (by kernel_rfl)) (by decide) (fun K hK => ?_)
              refine bst (N := 10) (cs := #[.string (⟨#[]⟩ : ByteArray), .int .i64 0, .int .i64 0]) (t := 56) ?_
              intro gb271 hg w28 hbox hb
              have z_ := aI (am_ (Kd.R_below (mr_ HO_8.out) hb)) (aI (am_ (blk_below (mk_ BK257.out) hb)) (aI (am_ (below_step (mb_ HB.out) hb)) (aI (am_ (hbox)) (aI (am_ ((bz_ hg (mb_ HB.out) : w.heap.size ≤ gb271))) (aI (am_ ((bz_ hg (mb_ HB.out) : w.heap.size ≤ gb271))) (aI (am_ ((nl_ hg (mk_ BK257.out) : gb257 ≠ gb271))) (am_ ((ng_ hg (mk_ BK257.out) : gb271 ≠ gb257)))))))))
              clear HO_8 BK257 HB
              obtain ⟨HO_8, BK257, HB, BK271, GW271, GE271, NB257_271, NB271_257⟩ := z_
              clear hb hbox hg
              refine hK.out _ _ ⟨(blk_cell BK257.out 0).trans rfl, (blk_cell BK257.out 1).trans rfl, (blk_cell BK257.out 2).trans rfl, (blk_cell BK257.out 3).trans rfl, ((HB.out.cell (World.block_lt_of_cell? w _ hw269_0)).trans hw269_0), ((HB.out.cell (World.block_lt_of_cell? w _ hw269_1)).trans hw269_1), ((HB.out.cell (World.block_lt_of_cell? w _ hw269_2)).trans hw269_2), ((HB.out.cell (World.block_lt_of_cell? w _ hw270_0)).trans hw270_0), ((HB.out.cell (World.block_lt_of_cell? w _ hw270_1)).trans hw270_1), ((HB.out.cell (World.block_lt_of_cell? w _ hw270_2)).trans hw270_2)⟩ (fun hHeld => ?_)
              clear hK K
              refine norm_ (a' := ?_) ?_ ?_
              rotate_left
              ·
               show Act.put _ (some 10) _ = _
               simp only [Act.put, List.setIfInBounds_toArray, List.set_cons_zero, List.set_cons_succ, i64_w, i32_w]
               rfl
              refine one_ (i := 10) (N := none) #[true, true, true, true, true, true, true, true, true, true, true] rfl rfl (one_of HT_.out (by kernel_rfl)) (by decide) (fun K hK => ?_)
              have hs29 : w28.cell? ⟨gb271, 0, none⟩ = some (.string (⟨#[]⟩ : ByteArray)) := (blk_cell BK271.out 0).trans rfl
              have hfs29 := blk_frozen BK271.out 0
              have hns29_0 := NB257_271.out
              have hms29_0 := NB271_257.out
              have hs30 : w28.cell? ⟨gb271, 1, none⟩ = some (.int .i64 0) := (blk_cell BK271.out 1).trans rfl
              have hfs30 := blk_frozen BK271.out 1
              have hns30_0 := NB257_271.out
              have hms30_0 := NB271_257.out
              have hs31 : w28.cell? ⟨gb271, 2, none⟩ = some (.int .i64 0) := (blk_cell BK271.out 2).trans rfl
              have hfs31 := blk_frozen BK271.out 2
              have hns31_0 := NB257_271.out
              have hms31_0 := NB271_257.out
              refine skip_ (w1 := ?_) (by rfl) rfl ?_ ?_
              rotate_left
              ·
               go_simp
               rfl
              refine hK.out _ _ ⟨((cell_far (p := ⟨gb271, _, none⟩) NB257_271.out _).trans (((cell_far (p := ⟨gb271, _, none⟩) NB257_271.out _).trans (((cell_far (p := ⟨gb271, _, none⟩) NB257_271.out _).trans (hHeld.1)))))), ((cell_far (p := ⟨gb271, _, none⟩) NB257_271.out _).trans (((cell_far (p := ⟨gb271, _, none⟩) NB257_271.out _).trans (((cell_far (p := ⟨gb271, _, none⟩) NB257_271.out _).trans (hHeld.2.1)))))), ((cell_far (p := ⟨gb271, _, none⟩) NB257_271.out _).trans (((cell_far (p := ⟨gb271, _, none⟩) NB257_271.out _).trans (((cell_far (p := ⟨gb271, _, none⟩) NB257_271.out _).trans (hHeld.2.2.1)))))), ((cell_far (p := ⟨gb271, _, none⟩) NB257_271.out _).trans (((cell_far (p := ⟨gb271, _, none⟩) NB257_271.out _).trans (((cell_far (p := ⟨gb271, _, none⟩) NB257_271.out _).trans (hHeld.2.2.2.1)))))), ((cell_far (p := ⟨gb271, _, none⟩) (mw_ hw269_0 GW271.out) _).trans (((cell_far (p := ⟨gb271, _, none⟩) (mw_ hw269_0 GW271.out) _).trans (((cell_far (p := ⟨gb271, _, none⟩) (mw_ hw269_0 GW271.out) _).trans (hHeld.2.2.2.2.1)))))), ((cell_far (p := ⟨gb271, _, none⟩) (mw_ hw269_1 GW271.out) _).trans (((cell_far (p := ⟨gb271, _, none⟩) (mw_ hw269_1 GW271.out) _).trans (((cell_far (p := ⟨gb271, _, none⟩) (mw_ hw269_1 GW271.out) _).trans (hHeld.2.2.2.2.2.1)))))), ((cell_far (p := ⟨gb271, _, none⟩) (mw_ hw269_2 GW271.out) _).trans (((cell_far (p := ⟨gb271, _, none⟩) (mw_ hw269_2 GW271.out) _).trans (((cell_far (p := ⟨gb271, _, none⟩) (mw_ hw269_2 GW271.out) _).trans (hHeld.2.2.2.2.2.2.1)))))), ((cell_far (p := ⟨gb271, _, none⟩) (mw_ hw270_0 GW271.out) _).trans (((cell_far (p := ⟨gb271, _, none⟩) (mw_ hw270_0 GW271.out) _).trans (((cell_far (p := ⟨gb271, _, none⟩) (mw_ hw270_0 GW271.out) _).trans (hHeld.2.2.2.2.2.2.2.1)))))), ((cell_far (p := ⟨gb271, _, none⟩) (mw_ hw270_1 GW271.out) _).trans (((cell_far (p := ⟨gb271, _, none⟩) (mw_ hw270_1 GW271.out) _).trans (((cell_far (p := ⟨gb271, _, none⟩) (mw_ hw270_1 GW271.out) _).trans (hHeld.2.2.2.2.2.2.2.2.1)))))), ((cell_far (p := ⟨gb271, _, none⟩) (mw_ hw270_2 GW271.out) _).trans (((cell_far (p := ⟨gb271, _, none⟩) (mw_ hw270_2 GW271.out) _).trans (((cell_far (p := ⟨gb271, _, none⟩) (mw_ hw270_2 GW271.out) _).trans (hHeld.2.2.2.2.2.2.2.2.2))))))⟩ (fun hHeld => ?_)
              clear hK K
              refine done_ (done_of HT_.out (by kernel_rfl)) ?_
              try go_wp2
              have n0_ : Aside0 (Kd.R Kd.string 9 (((w28.setCell ⟨gb271, 0, none⟩ (.string ((rd_T56 l0_1 ((rd_T63 l1 x9_1).f2)).f0))).setCell ⟨gb271, 1, none⟩ (.int .i64 ((rd_T56 l0_1 ((rd_T63 l1 x9_1).f2)).f1))).setCell ⟨gb271, 2, none⟩ (.int .i64 ((rd_T56 l0_1 ((rd_T63 l1 x9_1).f2)).f2))) w.heap.size (fun _ => True) u8 x8_1) := ⟨by (with_reducible repeat (first | apply Kd.R_alloc | apply Kd.R_drewN | apply Kd.R_drew)); exact Kd.R_mono (Kd.R_far (p := ⟨gb271, 2, none⟩) (Kd.R_far (p := ⟨gb271, 1, none⟩) (Kd.R_far (p := ⟨gb271, 0, none⟩) (Kd.R_types HO_8.out BK271.out (by decide)) (fun _ hk => hk.2) (.string ((rd_T56 l0_1 ((rd_T63 l1 x9_1).f2)).f0))) (fun _ hk => hk.2) (.int .i64 ((rd_T56 l0_1 ((rd_T63 l1 x9_1).f2)).f1))) (fun _ hk => hk.2) (.int .i64 ((rd_T56 l0_1 ((rd_T63 l1 x9_1).f2)).f2))) (fun _ hk => trivial)⟩
              have n1_ : Aside0 ((((w28.setCell ⟨gb271, 0, none⟩ (.string ((rd_T56 l0_1 ((rd_T63 l1 x9_1).f2)).f0))).setCell ⟨gb271, 1, none⟩ (.int .i64 ((rd_T56 l0_1 ((rd_T63 l1 x9_1).f2)).f1))).setCell ⟨gb271, 2, none⟩ (.int .i64 ((rd_T56 l0_1 ((rd_T63 l1 x9_1).f2)).f2))).heap[gb257]? = some (.cells #[.slice A0_0 l0_0.length c0_0, .slice (some ad270) l0_1.length c0_1, .int .i64 a0_2, .int .i64 a0_3] 25 (0, 0))) := ⟨by (with_reducible repeat (first | refine blk_drewN ?_ _ | refine blk_drew ?_ | refine blk_alloc ?_ _)); refine blk_far ?_ NB257_271.out _; (with_reducible repeat (first | refine blk_drewN ?_ _ | refine blk_drew ?_ | refine blk_alloc ?_ _)); refine blk_far ?_ NB257_271.out _; (with_reducible repeat (first | refine blk_drewN ?_ _ | refine blk_drew ?_ | refine blk_alloc ?_ _)); refine blk_far ?_ NB257_271.out _; (with_reducible repeat (first | refine blk_drewN ?_ _ | refine blk_drew ?_ | refine blk_alloc ?_ _)); exact BK257.out⟩
              have n2_ : Aside0 ((((w28.setCell ⟨gb271, 0, none⟩ (.string ((rd_T56 l0_1 ((rd_T63 l1 x9_1).f2)).f0))).setCell ⟨gb271, 1, none⟩ (.int .i64 ((rd_T56 l0_1 ((rd_T63 l1 x9_1).f2)).f1))).setCell ⟨gb271, 2, none⟩ (.int .i64 ((rd_T56 l0_1 ((rd_T63 l1 x9_1).f2)).f2))).heap[gb271]? = some (.cells #[.string ((rd_T56 l0_1 ((rd_T63 l1 x9_1).f2)).f0), .int .i64 ((rd_T56 l0_1 ((rd_T63 l1 x9_1).f2)).f1), .int .i64 ((rd_T56 l0_1 ((rd_T63 l1 x9_1).f2)).f2)] 56 (0, 0))) := ⟨by (with_reducible repeat (first | refine blk_drewN ?_ _ | refine blk_drew ?_ | refine blk_alloc ?_ _)); refine blk_put (cs := #[.string ((rd_T56 l0_1 ((rd_T63 l1 x9_1).f2)).f0), .int .i64 ((rd_T56 l0_1 ((rd_T63 l1 x9_1).f2)).f1), .int .i64 0]) ?_ 2 _ rfl; (with_reducible repeat (first | refine blk_drewN ?_ _ | refine blk_drew ?_ | refine blk_alloc ?_ _)); refine blk_put (cs := #[.string ((rd_T56 l0_1 ((rd_T63 l1 x9_1).f2)).f0), .int .i64 0, .int .i64 0]) ?_ 1 _ rfl; (with_reducible repeat (first | refine blk_drewN ?_ _ | refine blk_drew ?_ | refine blk_alloc ?_ _)); refine blk_put (cs := #[.string (⟨#[]⟩ : ByteArray), .int .i64 0, .int .i64 0]) ?_ 0 _ rfl; (with_reducible repeat (first | refine blk_drewN ?_ _ | refine blk_drew ?_ | refine blk_alloc ?_ _)); exact BK271.out⟩
              have n3_ : Aside0 (Below w.heap.size w (((w28.setCell ⟨gb271, 0, none⟩ (.string ((rd_T56 l0_1 ((rd_T63 l1 x9_1).f2)).f0))).setCell ⟨gb271, 1, none⟩ (.int .i64 ((rd_T56 l0_1 ((rd_T63 l1 x9_1).f2)).f1))).setCell ⟨gb271, 2, none⟩ (.int .i64 ((rd_T56 l0_1 ((rd_T63 l1 x9_1).f2)).f2)))) := ⟨mb_ HB.out⟩
              (try clear HO_8)
              (try clear BK257)
              (try clear BK271)
              (try clear HB)
              generalize (((w28.setCell ⟨gb271, 0, none⟩ (.string ((rd_T56 l0_1 ((rd_T63 l1 x9_1).f2)).f0))).setCell ⟨gb271, 1, none⟩ (.int .i64 ((rd_T56 l0_1 ((rd_T63 l1 x9_1).f2)).f1))).setCell ⟨gb271, 2, none⟩ (.int .i64 ((rd_T56 l0_1 ((rd_T63 l1 x9_1).f2)).f2))) = w32 at n0_ n1_ n2_ n3_ ⊢
              have HO_8 := n0_
              have BK257 := n1_
              have BK271 := n2_
              have HB := n3_
              clear n0_ n1_ n2_ n3_
              have z_ := aI (am_ (Kd.R_drew HO_8.out)) (aI (am_ (blk_drew BK257.out)) (aI (am_ (blk_drew BK271.out)) (am_ (below_drew1 HB.out))))
              clear HO_8 BK257 BK271 HB
              obtain ⟨HO_8, BK257, BK271, HB⟩ := z_
              refine start_ (n := 12) (S := fun w' => w'.cell? ⟨gb271, 0, none⟩ = some (.string ((rd_T56 l0_1 ((rd_T63 l1 x9_1).f2)).f0)) ∧ w'.cell? ⟨gb271, 1, none⟩ = some (.int .i64 ((rd_T56 l0_1 ((rd_T63 l1 x9_1).f2)).f1)) ∧ w'.cell? ⟨gb271, 2, none⟩ = some (.int .i64 ((rd_T56 l0_1 ((rd_T63 l1 x9_1).f2)).f2))) (ds := []) #[false, false, false, false, false, false, false, false, false, false, false, false] (by kernel_rfl) rfl rfl ⟨(blk_cell BK271.out 0).trans rfl, (blk_cell BK271.out 1).trans rfl, (blk_cell BK271.out 2).trans rfl⟩ (fun hHeld => ?_); refine with_tabW culetref49_Lines.tab10 culetref49_Lines.bits10 (fun HT_ HW_ => ?_)
              generalize w32.drew = w33 at HO_8 BK257 BK271 HB hHeld ⊢
              refine ltd (o := [0, 1, 5, 2, 3, 4, 6]) (n := 0) (m := 12) (by kernel_rfl) ?_
              iterate 7 (first | (refine tne rfl rfl (take_ofW HT_.out HW_.out (by kernel_rfl)) (Or.inl ⟨by rfl, by rintro w' ⟨s0, s1, s2⟩; go_simp; with_reducible rfl⟩) hHeld ?_) | (refine pne rfl rfl (any_of HT_.out (by kernel_rfl)) (Or.inl ⟨by rfl, by intro w'; go_simp; with_reducible rfl⟩) ?_))
              refine one_ (i := 7) (N := some 47) #[true, true, true, true, true, true, true, true, false, false, false, false] rfl rfl (one_of HT_.out (by kernel_rfl)) (by decide) (fun K hK => ?_)
              refine goes_ Tryd.func27 (by kernel_rfl) rfl #[.int .i64 ((rd_T56 l0_1 ((rd_T63 l1 x9_1).f2)).f2)] (by rfl) rfl rfl ml_ ?_
              with_reducible refine (culetref44_Itoa.calls k1 ((rd_T56 l0_1 ((rd_T63 l1 x9_1).f2)).f2) t272 _ A24.out).mono ?_
              rintro e w34 ⟨rfl, hb⟩
              refine ⟨_, rfl, ?_⟩
              have z_ := aI (am_ (Kd.R_below (mr_ HO_8.out) hb)) (aI (am_ (blk_below (mk_ BK257.out) hb)) (aI (am_ (blk_below (mk_ BK271.out) hb)) (am_ (below_step (mb_ HB.out) hb))))
              clear HO_8 BK257 BK271 HB
              obtain ⟨HO_8, BK257, BK271, HB⟩ := z_
              (try clear hb)
              (try clear hb2)
              (try clear hk)
              (try clear hi)
              refine hK.out _ _ ⟨(blk_cell BK271.out 0).trans rfl, (blk_cell BK271.out 1).trans rfl, (blk_cell BK271.out 2).trans rfl⟩ (fun hHeld => ?_)
              clear hK K
              refine norm_ (a' := ?_) ?_ ?_
              rotate_left
              ·
               show Act.put _ (some 47) _ = _
               simp only [Act.put, List.setIfInBounds_toArray, List.set_cons_zero, List.set_cons_succ, i64_w, i32_w]
               rfl
              refine pure_ (i := 8) (N := some 48) (v := ?_) (a' := ?_) #[true, true, true, true, true, true, true, true, true, false, false, false] rfl rfl (any_of HT_.out (by kernel_rfl)) (fun _ _ _ h => h) (Or.inl ⟨by rfl, ?_⟩) ?_ ?_
              rotate_left
              ·
               intro w'
               go_simp
               with_reducible rfl
              rotate_left
              ·
               simp only [Act.put, List.setIfInBounds_toArray, List.set_cons_zero, List.set_cons_succ, i64_w, i32_w]
               rfl
              refine one_ (i := 9) (N := some 49) #[true, true, true, true, true, true, true, true, true, true, false, false] rfl rfl (one_of HT_.out (by kernel_rfl)) (by decide) (fun K hK => ?_)
              refine value_ (w1 := ?_) (v := ?_) (by rfl) rfl ?_ ?_
              rotate_left 2
              ·
               go_simp
               constructor
               ·
                rfl
               ·
                rfl
              refine hK.out _ _ ⟨(blk_cell (blk_alloc BK271.out _) 0).trans rfl, (blk_cell (blk_alloc BK271.out _) 1).trans rfl, (blk_cell (blk_alloc BK271.out _) 2).trans rfl⟩ (fun hHeld => ?_)
              clear hK K
              refine norm_ (a' := ?_) ?_ ?_
              rotate_left
              ·
               show Act.put _ (some 49) _ = _
               simp only [Act.put, List.setIfInBounds_toArray, List.set_cons_zero, List.set_cons_succ, i64_w, i32_w]
               rfl
              refine one_ (i := 10) (N := some 50) #[true, true, true, true, true, true, true, true, true, true, true, false] rfl rfl (one_of HT_.out (by kernel_rfl)) (by decide) (fun K hK => ?_)
              refine Kd.R_append_step Kd.string (w0 := w) w.heap.size (by rfl) (.tmp 40) (.tmp 49) 40 9 (.string ⟨#[]⟩) 16 rfl Tryd.underlying40 info9 rfl (by decide) (by omega) u8 x8_1 ((((⟨#[99, 117, 116, 32]⟩ : ByteArray) ++ ((rd_T56 l0_1 ((rd_T63 l1 x9_1).f2)).f0)) ++ (⟨#[32]⟩ : ByteArray)) ++ t272) [.string ((((⟨#[99, 117, 116, 32]⟩ : ByteArray) ++ ((rd_T56 l0_1 ((rd_T63 l1 x9_1).f2)).f0)) ++ (⟨#[32]⟩ : ByteArray)) ++ t272)] (fun _ => True) (fun _ => False) rfl rfl ?aP (fun _ hk => hk.elim) ?aF ?aO ?aB ?aS ?aL ?_
              (case aP => exact rfl)
              (case aB => exact (mb_ HB.out))
              (case aF => exact (fun _ _ => trivial))
              (case aO => exact (mr_ HO_8.out))
              (case aS => exact (below_size (mb_ HB.out)))
              (case aL => have := LMc26.out; omega)
              intro v274 w35 ho hb hg hat
              rw [← Ny273.out] at ho
              have z_ := aI (am_ (blk_grown (g := gb257) (o := .cells #[.slice A0_0 l0_0.length c0_0, .slice (some ad270) l0_1.length c0_1, .int .i64 a0_2, .int .i64 a0_3] 25 (0, 0)) (mk_ BK257.out) hg (Kd.R_ne HO_8.out BK257.out (by decide)))) (aI (am_ (blk_grown (g := gb271) (o := .cells #[.string ((rd_T56 l0_1 ((rd_T63 l1 x9_1).f2)).f0), .int .i64 ((rd_T56 l0_1 ((rd_T63 l1 x9_1).f2)).f1), .int .i64 ((rd_T56 l0_1 ((rd_T63 l1 x9_1).f2)).f2)] 56 (0, 0)) (mk_ BK271.out) hg (Kd.R_ne HO_8.out BK271.out (by decide)))) (aI (am_ (hb)) (am_ (ho))))
              clear BK257 BK271 HB HO_8
              obtain ⟨BK257, BK271, HB, HO275⟩ := z_
              clear ho hb hg hat
              refine hK.out _ _ ⟨(blk_cell BK271.out 0).trans rfl, (blk_cell BK271.out 1).trans rfl, (blk_cell BK271.out 2).trans rfl⟩ (fun hHeld => ?_)
              clear hK K
              refine norm_ (a' := ?_) ?_ ?_
              rotate_left
              ·
               show Act.put _ (some 50) _ = _
               simp only [Act.put, List.setIfInBounds_toArray, List.set_cons_zero, List.set_cons_succ, i64_w, i32_w]
               rfl
              refine pure_ (i := 11) (N := some 8) (v := ?_) (a' := ?_) #[true, true, true, true, true, true, true, true, true, true, true, true] rfl rfl (any_of HT_.out (by kernel_rfl)) (fun _ _ _ h => h) (Or.inl ⟨by rfl, ?_⟩) ?_ ?_
              rotate_left
              ·
               intro w'
               go_simp
               with_reducible rfl
              rotate_left
              ·
               simp only [Act.put, List.setIfInBounds_toArray, List.set_cons_zero, List.set_cons_succ, i64_w, i32_w]
               rfl
              refine done_ (done_of HT_.out (by kernel_rfl)) ?_
              try go_wp2
              go_roundg k1
              case measure => have := HK1.out; omega
              case rel => exact ⟨(y273), (wrap64 (x9_1 + 1)), rs_, H', ⟨by have := HK1.out; omega⟩, ⟨by (with_reducible repeat (first | apply Kd.R_alloc | apply Kd.R_drewN | apply Kd.R_drew)); exact HO275.out⟩, ⟨by (with_reducible repeat (first | refine blk_drewN ?_ _ | refine blk_drew ?_ | refine blk_alloc ?_ _)); exact BK257.out⟩, ⟨mb_ HB.out⟩⟩
             ·
              rw [if_neg c26] at H
              exact absurd H (by simp)
            ·
             rw [if_neg c25] at H
             exact absurd H (by simp)
           ·
            rw [if_neg c23] at H
            exact absurd H (by simp)
          ·
           rw [if_neg c22] at H
           exact absurd H (by simp)
         ·
          rw [if_neg c21] at H
          exact absurd H (by simp)
        ·
         rw [if_neg c20] at H
         exact absurd H (by simp)
     ·
      rw [if_neg c9] at H
      exact absurd H (by simp)
    ·
     rw [if_neg c8] at H
     have c8b0 : decide (x9_1 < (l1.length : Int)) = false := decide_eq_false c8
     clear c8
     simp only [Option.some.injEq, Prod.mk.injEq] at H
     obtain ⟨rfl, rfl⟩ := H
     go_wp2
     go_ret2
     exact ⟨_, by first | rfl | (simp [errW_none, errW_some] <;> rfl) | (simp [*, errW_none, errW_some] <;> rfl), by (with_reducible repeat (first | apply Kd.R_alloc | apply Kd.R_drewN | apply Kd.R_drew)); exact HO_8.out, mb_ HB.out⟩
 ·
  rw [if_neg c4] at H
  have c4b0 : (t259 == 0) = false := beq_eq_false_iff_ne.mpr c4
  have c4b1 : (t259 != 0) = true := bne_iff_ne.mpr c4
  simp only [Option.some.injEq, Prod.mk.injEq] at H
  obtain ⟨rfl, rfl⟩ := H
  go_enter Tryd.func13, Tryd.ntmps13
  go_wp2_with (first | ((with_reducible refine gate_dst (N := 2) rfl ?_); refine bev (N := 2) (cs := #[.slice A0_0 l0_0.length c0_0, .slice A0_1 l0_1.length c0_1, .int .i64 a0_2, .int .i64 a0_3]) (t := 25) ?_; intro gb257 hg w36 hbox hb; have z_ := aI (am_ (below_step (mb_ HB.out) hb)) (aI (am_ (hbox)) (aI (am_ ((bz_ hg (mb_ HB.out) : w.heap.size ≤ gb257))) (am_ ((bz_ hg (mb_ HB.out) : w.heap.size ≤ gb257))))); clear HB; obtain ⟨HB, BK257, GW257, GE257⟩ := z_; clear hb hbox hg; have hcz37_0 : w36.cell? ⟨gb257, 0, none⟩ = some (.slice A0_0 l0_0.length c0_0) := (blk_cell BK257.out 0).trans rfl; have hcz37_1 : w36.cell? ⟨gb257, 1, none⟩ = some (.slice A0_1 l0_1.length c0_1) := (blk_cell BK257.out 1).trans rfl; have hcz37_2 : w36.cell? ⟨gb257, 2, none⟩ = some (.int .i64 a0_2) := (blk_cell BK257.out 2).trans rfl; have hcz37_3 : w36.cell? ⟨gb257, 3, none⟩ = some (.int .i64 a0_3) := (blk_cell BK257.out 3).trans rfl; have hfz37_0 := blk_frozen BK257.out 0; have hfz37_1 := blk_frozen BK257.out 1; have hfz37_2 := blk_frozen BK257.out 2; have hfz37_3 := blk_frozen BK257.out 3) | ((with_reducible refine gate_callee (f := 9) rfl ?_); refine goesL_ (some 14) rfl rfl Tryd.func9 (by kernel_rfl) rfl #[.agg #[.slice A0_0 l0_0.length c0_0, .slice A0_1 l0_1.length c0_1, .int .i64 a0_2, .int .i64 a0_3], .slice A1 l1.length c1] rfl ml_ ?_; (with_reducible refine (culetref49_Check.calls k _ _ l0_0 _ _ l0_1 a0_2 a0_3 _ _ l1 t258 t259 _ ?side1 ?side2 ?side3 ?side4 ?side5 ?side6 A3.out).mono ?_); (case side1 => exact mc_ (Kd.C_below HR0_0.out HB.out)); (case side2 => exact HC0_0.out); (case side3 => exact mc_ (Kd.C_below HR0_1.out HB.out)); (case side4 => exact HC0_1.out); (case side5 => exact mc_ (Kd.C_below HR1.out HB.out)); (case side6 => exact HC1.out); rintro e w38 ⟨rfl, hb⟩; refine ⟨_, rfl, ?_⟩; have z_ := aI (am_ (blk_below (mk_ BK257.out) hb)) (am_ (below_step (mb_ HB.out) hb)); clear BK257 HB; obtain ⟨BK257, HB⟩ := z_; (try clear hb); (try clear hb2); (try clear hk); (try clear hi)))
  go_ret2
  exact ⟨_, by first | rfl | (simp [errW_none, errW_some] <;> rfl) | (simp [*, errW_none, errW_some] <;> rfl), by first | exact Kd.R_nil _ _ _ _ _ | exact Kd.N_nil _ _ _ _ _ | exact Kd.V_nil _ _ _ _ _ | exact Kd.Q_nil _ _ _ _ _ | exact Kd.S_nil _ _ _ _ _, mb_ HB.out⟩

end Go.Proofs.YtalhpnfapagamaaDoor.S
