-- Written by this session's own programs; what the law does not lean on is left out. Lean checks it.
import Derived.Test.YtalhpnfapagamaaVS
import Derived.Test.YtalhpnfapagamaaVSx25
import Derived.Test.YtalhpnfapagamaaVN
namespace Go.Proofs.Ytalhpnfapagamaa.S
open Go.RowKit Go.Proofs.YtalhpnfapagamaaW.PrintWords Go.Proofs.YtalhpnfapagamaaW.PrintLast Go.Proofs.YtalhpnfapagamaaW.PrintMore
set_option linter.unusedVariables false
set_option linter.unusedSimpArgs false

mutual
def culetref49_Of.l0 : Nat → List (S101) → Int → Int → List (S94) → List (S68) → Int → Int → Option ((List (S101)) × Int)
 | 0, _, _, _, _, _, _, _ => none
 | k + 1, x4, x5, x6, x237000, x237001, x237002, x237003 => if x6 ≤ 2 then ((culetref49_works.f k x237000 x237001 x237002 x237003 x6).bind fun t238 => (if x6 = 2 then (if (t238.length : Int) > 0 then (culetref49_Of.j1 k x4 x5 x6 t238 (decide ((t238.length : Int) < (x237001.length : Int))) x237000 x237001 x237002 x237003) else (culetref49_Of.j1 k x4 x5 x6 t238 false x237000 x237001 x237002 x237003)) else (culetref49_Of.j1 k x4 x5 x6 t238 false x237000 x237001 x237002 x237003))) else (some (x4, 0))
def culetref49_Of.j1 : Nat → List (S101) → Int → Int → List Int → Bool → List (S94) → List (S68) → Int → Int → Option ((List (S101)) × Int)
 | 0, _, _, _, _, _, _, _, _, _ => none
 | k + 1, x4, x5, x6, x7, x34, x237000, x237001, x237002, x237003 => if x34 = true then (if x4.length < 5864062014805 then (culetref49_Of.j2 k (x4 ++ [(⟨2, 0, 0⟩ : S101)]) x5 x6 x7 x237000 x237001 x237002 x237003) else (none)) else (culetref49_Of.j2 k x4 x5 x6 x7 x237000 x237001 x237002 x237003)
def culetref49_Of.j2 : Nat → List (S101) → Int → Int → List Int → List (S94) → List (S68) → Int → Int → Option ((List (S101)) × Int)
 | 0, _, _, _, _, _, _, _, _ => none
 | k + 1, x4, x5, x6, x7, x237000, x237001, x237002, x237003 => culetref49_Of.l1 k x4 x5 x6 x7 0 x237000 x237001 x237002 x237003
def culetref49_Of.l1 : Nat → List (S101) → Int → Int → List Int → Int → List (S94) → List (S68) → Int → Int → Option ((List (S101)) × Int)
 | 0, _, _, _, _, _, _, _, _, _ => none
 | k + 1, x4, x5, x6, x7, x8, x237000, x237001, x237002, x237003 => if x8 < (x237000.length : Int) then (culetref49_Of.j4 k x4 x5 x6 x7 x8 (decide ((x7.length : Int) > 0)) x237000 x237001 x237002 x237003) else (culetref49_Of.j4 k x4 x5 x6 x7 x8 false x237000 x237001 x237002 x237003)
def culetref49_Of.j4 : Nat → List (S101) → Int → Int → List Int → Int → Bool → List (S94) → List (S68) → Int → Int → Option ((List (S101)) × Int)
 | 0, _, _, _, _, _, _, _, _, _, _ => none
 | k + 1, x4, x5, x6, x7, x8, x48, x237000, x237001, x237002, x237003 => if x48 = true then (if x8 = x5 then (culetref49_Of.j5 k x4 x5 x6 x7 x8 x237000 x237001 x237002 x237003) else (if x4.length < 5864062014805 then (culetref49_Of.j5 k (x4 ++ [(⟨1, x8, 0⟩ : S101)]) x8 x6 x7 x8 x237000 x237001 x237002 x237003) else (none))) else (culetref49_Of.l0 k x4 x5 (wrap64 (x6 + 1)) x237000 x237001 x237002 x237003)
def culetref49_Of.j5 : Nat → List (S101) → Int → Int → List Int → Int → List (S94) → List (S68) → Int → Int → Option ((List (S101)) × Int)
 | 0, _, _, _, _, _, _, _, _, _ => none
 | k + 1, x4, x5, x6, x7, x8, x237000, x237001, x237002, x237003 => culetref49_Of.l2 k x4 x5 x6 x7 x8 0 x237000 x237001 x237002 x237003
def culetref49_Of.l2 : Nat → List (S101) → Int → Int → List Int → Int → Int → List (S94) → List (S68) → Int → Int → Option ((List (S101)) × Int)
 | 0, _, _, _, _, _, _, _, _, _, _ => none
 | k + 1, x4, x5, x6, x7, x8, x9, x237000, x237001, x237002, x237003 => if x9 < (x7.length : Int) then (if 0 ≤ x9 then (if x4.length < 5864062014805 then (culetref49_Of.l2 k (x4 ++ [(⟨3, x8, rd x7 x9⟩ : S101)]) x5 x6 x7 x8 (wrap64 (x9 + 1)) x237000 x237001 x237002 x237003) else (none)) else (none)) else (culetref49_Of.l1 k x4 x5 x6 x7 (wrap64 (x8 + 1)) x237000 x237001 x237002 x237003)
end
def culetref49_Of.f (k : Nat) (l0_0 : List (S94)) (l0_1 : List (S68)) (a0_2 : Int) (a0_3 : Int) : Option ((List (S101)) × Int) := (culetref49_Valid.f k l0_0 l0_1 a0_2 a0_3).bind fun t237 => (if t237 = true then (culetref49_Of.l0 k ([] : List (S101)) (-1) 1 l0_0 l0_1 a0_2 a0_3) else (some (([] : List (S101)), 1)))
set_option maxHeartbeats 8000000 in
set_option maxRecDepth 100000 in
theorem culetref49_Of.calls (k : Nat) (A0_0 : Option Addr) (c0_0 : Nat) (l0_0 : List (S94)) (A0_1 : Option Addr) (c0_1 : Nat) (l0_1 : List (S68)) (a0_2 : Int) (a0_3 : Int) (r1 : List (S101)) (r2 : Int) (w : World) (hr0_0 : Kd.C k94 w A0_0 l0_0.length l0_0) (hc0_0 : l0_0.length ≤ c0_0) (hr0_1 : Kd.C k68 w A0_1 l0_1.length l0_1) (hc0_1 : l0_1.length ≤ c0_1) (h : culetref49_Of.f k l0_0 l0_1 a0_2 a0_3 = some (r1, r2)) :
  Calls Try.prog 31 #[.agg #[.slice A0_0 l0_0.length c0_0, .slice A0_1 l0_1.length c0_1, .int .i64 a0_2, .int .i64 a0_3]] w fun e w' => ∃ v0_ : Value, e = .returned (.tuple #[v0_, .int .i64 r2]) ∧ Kd.R k101 101 w' w.heap.size (fun _ => True) v0_ r1 ∧ Below w.heap.size w w' := by
 have hu50 := Try.underlying50
 have hu101 := Try.underlying101
 have HR0_0 := Aside0.mk hr0_0
 have HC0_0 := Aside0.mk hc0_0
 clear hr0_0 hc0_0
 have HR0_1 := Aside0.mk hr0_1
 have HC0_1 := Aside0.mk hc0_1
 clear hr0_1 hc0_1
 have HB := Aside0.mk (Below.refl w.heap.size w)
 have H : ((culetref49_Valid.f k l0_0 l0_1 a0_2 a0_3).bind fun t237 => (if t237 = true then (culetref49_Of.l0 k ([] : List (S101)) (-1) 1 l0_0 l0_1 a0_2 a0_3) else (some (([] : List (S101)), 1)))) = some (r1, r2) := h
 clear h
 replace H := Option.bind_eq_some_iff.mp H
 obtain ⟨t237, A20, H⟩ := H
 replace H : (if t237 = true then (culetref49_Of.l0 k ([] : List (S101)) (-1) 1 l0_0 l0_1 a0_2 a0_3) else (some (([] : List (S101)), 1))) = some (r1, r2) := H
 have A2 := Aside0.mk A20
 clear A20
 by_cases c3 : t237 = true
 ·
  subst c3
  have H1 : (culetref49_Of.l0 k ([] : List (S101)) (-1) 1 l0_0 l0_1 a0_2 a0_3) = some (r1, r2) := by rw [if_pos rfl] at H; exact H
  clear H
  have H := H1
  clear H1
  have H' := Aside0.mk H
  clear H
  go_enter Try.func31, Try.ntmps31
  go_wp2_with (first | ((with_reducible refine gate_dst (N := 1) rfl ?_); (try (refine gate_guard (by rfl) ?_; dsimp only)); refine box_event ?hg (N := 1) ?hd (cs := #[.slice A0_0 l0_0.length c0_0, .slice A0_1 l0_1.length c0_1, .int .i64 a0_2, .int .i64 a0_3]) (t := 50) ?hr ?_; (case hd => rfl); (case hg => rfl); (case hr => first | (go_simp; done) | (go_simp; rfl)); intro gb236 hg w4 hbox hb; have n0_ := Aside0.mk (below_step (by repeat (first | (with_reducible first | exact HB.out | apply below_alloc | apply pw_below_drewN | apply below_drew1) | exact HB.out)) hb); have n1_ := Aside0.mk (hbox); have n2_ := Aside0.mk ((by rw [hg]; exact (below_size (by repeat (first | (with_reducible first | exact HB.out | apply below_alloc | apply pw_below_drewN | apply below_drew1) | exact HB.out))) : w.heap.size ≤ gb236)); have n3_ := Aside0.mk ((by rw [hg]; exact (below_size (by repeat (first | (with_reducible first | exact HB.out | apply below_alloc | apply pw_below_drewN | apply below_drew1) | exact HB.out))) : w.heap.size ≤ gb236)); clear HB; have HB := n0_; have BK236 := n1_; have GW236 := n2_; have GE236 := n3_; clear n0_ n1_ n2_ n3_; clear hb hbox hg; have hcz5_0 : w4.cell? ⟨gb236, 0, none⟩ = some (.slice A0_0 l0_0.length c0_0) := (blk_cell BK236.out 0).trans rfl; have hcz5_1 : w4.cell? ⟨gb236, 1, none⟩ = some (.slice A0_1 l0_1.length c0_1) := (blk_cell BK236.out 1).trans rfl; have hcz5_2 : w4.cell? ⟨gb236, 2, none⟩ = some (.int .i64 a0_2) := (blk_cell BK236.out 2).trans rfl; have hcz5_3 : w4.cell? ⟨gb236, 3, none⟩ = some (.int .i64 a0_3) := (blk_cell BK236.out 3).trans rfl; have hfz5_0 := blk_frozen BK236.out 0; have hfz5_1 := blk_frozen BK236.out 1; have hfz5_2 := blk_frozen BK236.out 2; have hfz5_3 := blk_frozen BK236.out 3) | ((with_reducible refine gate_callee (f := 35) rfl ?_); refine goesL_ (some 11) rfl rfl Try.func35 (by kernel_rfl) rfl #[.agg #[.slice A0_0 l0_0.length c0_0, .slice A0_1 l0_1.length c0_1, .int .i64 a0_2, .int .i64 a0_3]] rfl (by (try simp only [List.map_toArray, List.map_cons, List.map_nil]); first | done | rfl | (simp only [List.length_drop, List.length_take]; rfl)) ?_; (with_reducible refine (culetref49_Valid.calls k _ _ l0_0 _ _ l0_1 a0_2 a0_3 true _ ?side1 ?side2 ?side3 ?side4 A2.out).mono ?_); (case side1 => repeat (first | exact (Kd.C_below HR0_0.out HB.out) | (with_reducible refine Kd.C_alloc ?_ _) | (with_reducible refine Kd.C_drewN ?_ _) | (with_reducible refine Kd.C_drew ?_))); (case side2 => exact HC0_0.out); (case side3 => repeat (first | exact (Kd.C_below HR0_1.out HB.out) | (with_reducible refine Kd.C_alloc ?_ _) | (with_reducible refine Kd.C_drewN ?_ _) | (with_reducible refine Kd.C_drew ?_))); (case side4 => exact HC0_1.out); rintro e w6 ⟨rfl, hb⟩; refine ⟨_, rfl, ?_⟩; have n0_ := Aside0.mk (blk_below (g := gb236) (o := .cells #[.slice A0_0 l0_0.length c0_0, .slice A0_1 l0_1.length c0_1, .int .i64 a0_2, .int .i64 a0_3] 50 (0, 0)) (by (with_reducible repeat (first | refine blk_drewN ?_ _ | refine blk_drew ?_ | refine blk_alloc ?_ _)); exact BK236.out) hb); have n1_ := Aside0.mk (below_step (by repeat (first | (with_reducible first | exact HB.out | apply below_alloc | apply pw_below_drewN | apply below_drew1 | refine below_set ?_ GE236.out) | exact HB.out)) hb); clear BK236; clear HB; have BK236 := n0_; have HB := n1_; clear n0_ n1_; (try clear hb); (try clear hb2); (try clear hk); (try clear hi)))
  go_loopg [4, 5, 6] k (fun kq v4 v5 v6 w' => ∃ (x4_1 : List (S101)) (x5_1 : Int) (x6_1 : Int), v5 = .int .i64 x5_1 ∧ v6 = .int .i64 x6_1 ∧ Aside0 (culetref49_Of.l0 kq x4_1 x5_1 x6_1 l0_0 l0_1 a0_2 a0_3 = some (r1, r2)) ∧ Aside0 (kq ≤ k) ∧ Aside0 (Kd.R k101 101 w' w.heap.size (fun _ => True) v4 x4_1) ∧ Aside0 (w'.heap[gb236]? = some (.cells #[(.slice A0_0 l0_0.length c0_0), (.slice A0_1 l0_1.length c0_1), .int .i64 a0_2, .int .i64 a0_3] 50 (0, 0))) ∧ Aside0 (Below w.heap.size w w'))
  case atStart => exact ⟨(([] : List (S101))), ((-1)), (1), (by first | rfl | (simp; done) | (simp [*]; done)), (by first | rfl | (simp; done) | (simp [*]; done)), H', ⟨Nat.le_refl _⟩, ⟨by first | exact Kd.R_nil _ _ _ _ _ | exact Kd.N_nil _ _ _ _ _ | exact Kd.V_nil _ _ _ _ _ | exact Kd.Q_nil _ _ _ _ _ | exact Kd.S_nil _ _ _ _ _⟩, ⟨by (with_reducible repeat (first | refine blk_drewN ?_ _ | refine blk_drew ?_ | refine blk_alloc ?_ _)); exact BK236.out⟩, ⟨by repeat (first | (with_reducible first | exact HB.out | apply below_alloc | apply pw_below_drewN | apply below_drew1 | refine below_set ?_ GE236.out) | exact HB.out)⟩⟩
  case round =>
   clear H'
   try clear p2
   try clear c3
   try clear hcz5_0
   try clear hcz5_1
   try clear hcz5_2
   try clear hcz5_3
   try clear hfz5_0
   try clear hfz5_1
   try clear hfz5_2
   try clear hfz5_3
   obtain ⟨x4_1, x5_1, x6_1, rfl, rfl, HA, HK1, HO_4, BK236, HB⟩ := hrel
   cases gk with
   | zero => exact absurd HA.out (by simp [culetref49_Of.l0])
   | succ k1 =>
    have H := HA.out
    clear HA
    simp only [culetref49_Of.l0] at H
    by_cases c7 : x6_1 ≤ 2
    ·
     rw [if_pos c7] at H
     have c7b0 : decide (x6_1 ≤ 2) = true := decide_eq_true c7
     clear c7
     replace H := Option.bind_eq_some_iff.mp H
     obtain ⟨t238, A80, H⟩ := H
     replace H : (if x6_1 = 2 then (if (t238.length : Int) > 0 then (culetref49_Of.j1 k1 x4_1 x5_1 x6_1 t238 (decide ((t238.length : Int) < (l0_1.length : Int))) l0_0 l0_1 a0_2 a0_3) else (culetref49_Of.j1 k1 x4_1 x5_1 x6_1 t238 false l0_0 l0_1 a0_2 a0_3)) else (culetref49_Of.j1 k1 x4_1 x5_1 x6_1 t238 false l0_0 l0_1 a0_2 a0_3)) = some (r1, r2) := H
     have A8 := Aside0.mk A80
     clear A80
     have HC9 := Aside0.mk H
     clear H
     have hcz10_0 : wr.cell? ⟨gb236, 0, none⟩ = some (.slice A0_0 l0_0.length c0_0) := (blk_cell BK236.out 0).trans rfl
     have hcz10_1 : wr.cell? ⟨gb236, 1, none⟩ = some (.slice A0_1 l0_1.length c0_1) := (blk_cell BK236.out 1).trans rfl
     have hcz10_2 : wr.cell? ⟨gb236, 2, none⟩ = some (.int .i64 a0_2) := (blk_cell BK236.out 2).trans rfl
     have hcz10_3 : wr.cell? ⟨gb236, 3, none⟩ = some (.int .i64 a0_3) := (blk_cell BK236.out 3).trans rfl
     have hfz10_0 := blk_frozen BK236.out 0
     have hfz10_1 := blk_frozen BK236.out 1
     have hfz10_2 := blk_frozen BK236.out 2
     have hfz10_3 := blk_frozen BK236.out 3
     go_upto_region 9 with (first | ((with_reducible refine gate_callee (f := 53) rfl ?_); refine goesL_ (some 19) rfl rfl Try.func53 (by kernel_rfl) rfl #[.agg #[.slice A0_0 l0_0.length c0_0, .slice A0_1 l0_1.length c0_1, .int .i64 a0_2, .int .i64 a0_3], .int .i64 x6_1] rfl (by (try simp only [List.map_toArray, List.map_cons, List.map_nil]); first | done | rfl | (simp only [List.length_drop, List.length_take]; rfl)) ?_; (with_reducible refine (culetref49_works.calls k1 _ _ l0_0 _ _ l0_1 a0_2 a0_3 x6_1 t238 _ ?side1 ?side2 ?side3 ?side4 A8.out).mono ?_); (case side1 => repeat (first | exact (Kd.C_below HR0_0.out HB.out) | (with_reducible refine Kd.C_alloc ?_ _) | (with_reducible refine Kd.C_drewN ?_ _) | (with_reducible refine Kd.C_drew ?_))); (case side2 => exact HC0_0.out); (case side3 => repeat (first | exact (Kd.C_below HR0_1.out HB.out) | (with_reducible refine Kd.C_alloc ?_ _) | (with_reducible refine Kd.C_drewN ?_ _) | (with_reducible refine Kd.C_drew ?_))); (case side4 => exact HC0_1.out); rintro e w11 ⟨v239, rfl, ho0, hb⟩; refine ⟨_, rfl, ?_⟩; have n0_ := Aside0.mk (Kd.R_below (by (with_reducible repeat (first | apply Kd.R_alloc | apply Kd.R_drewN | apply Kd.R_drew)); exact HO_4.out) hb); have n1_ := Aside0.mk (Kd.R_lower ho0 (below_size (by repeat (first | (with_reducible first | exact HB.out | apply below_alloc | apply pw_below_drewN | apply below_drew1 | refine below_set ?_ GE236.out) | exact HB.out)))); have n2_ := Aside0.mk (blk_below (g := gb236) (o := .cells #[.slice A0_0 l0_0.length c0_0, .slice A0_1 l0_1.length c0_1, .int .i64 a0_2, .int .i64 a0_3] 50 (0, 0)) (by (with_reducible repeat (first | refine blk_drewN ?_ _ | refine blk_drew ?_ | refine blk_alloc ?_ _)); exact BK236.out) hb); have n3_ := Aside0.mk (below_step (by repeat (first | (with_reducible first | exact HB.out | apply below_alloc | apply pw_below_drewN | apply below_drew1 | refine below_set ?_ GE236.out) | exact HB.out)) hb); clear HO_4; clear BK236; clear HB; have HO_4 := n0_; have HO240 := n1_; have BK236 := n2_; have HB := n3_; clear n0_ n1_ n2_ n3_; (try clear hb); (try clear hb2); (try clear hk); (try clear hi); (try clear ho0)))
     (try simp only [Act.put, List.setIfInBounds_toArray, List.set_cons_zero, List.set_cons_succ])
     go_cut [34] (fun v34 wc => ∃ (kq : Nat) (x34_8 : Bool), v34 = .bool x34_8 ∧ Aside0 (culetref49_Of.j1 kq x4_1 x5_1 x6_1 t238 x34_8 l0_0 l0_1 a0_2 a0_3 = some (r1, r2)) ∧ Aside0 (kq ≤ k1) ∧ Aside0 (Kd.R k101 101 wc w.heap.size (fun _ => True) u4 x4_1) ∧ Aside0 (Kd.R (Kd.int .i64) 3 wc w.heap.size (fun _ => True) v239 t238) ∧ Aside0 (wc.heap[gb236]? = some (.cells #[(.slice A0_0 l0_0.length c0_0), (.slice A0_1 l0_1.length c0_1), .int .i64 a0_2, .int .i64 a0_3] 50 (0, 0))) ∧ Aside0 (Below w.heap.size w wc))
     case first =>
      have H := HC9.out
      clear HC9
      by_cases c12 : x6_1 = 2
      ·
       rw [if_pos c12] at H
       have c12b0 : (x6_1 == 2) = true := beq_iff_eq.mpr c12
       have c12b1 : (x6_1 != 2) = false := bne_eq_false_iff_eq.mpr c12
       clear c12
       (first | rw [c12b0] | (simp only [i64_w, i32_w]; rw [c12b0]) | skip)
       by_cases c13 : (t238.length : Int) > 0
       ·
        rw [if_pos c13] at H
        have c13b0 : decide (0 < (t238.length : Int)) = true := decide_eq_true c13
        have c13b1 : decide (0 < t238.length) = true := decide_eq_true (by omega)
        clear c13
        have H' := Aside0.mk H
        clear H
        obtain ⟨Ao14, co14, eo14⟩ := Kd.R_slice HO240.out
        subst eo14
        have hcz15_0 : w11.cell? ⟨gb236, 0, none⟩ = some (.slice A0_0 l0_0.length c0_0) := (blk_cell BK236.out 0).trans rfl
        have hcz15_1 : w11.cell? ⟨gb236, 1, none⟩ = some (.slice A0_1 l0_1.length c0_1) := (blk_cell BK236.out 1).trans rfl
        have hcz15_2 : w11.cell? ⟨gb236, 2, none⟩ = some (.int .i64 a0_2) := (blk_cell BK236.out 2).trans rfl
        have hcz15_3 : w11.cell? ⟨gb236, 3, none⟩ = some (.int .i64 a0_3) := (blk_cell BK236.out 3).trans rfl
        have hfz15_0 := blk_frozen BK236.out 0
        have hfz15_1 := blk_frozen BK236.out 1
        have hfz15_2 := blk_frozen BK236.out 2
        have hfz15_3 := blk_frozen BK236.out 3
        go_wp2
        go_meet
        case rel => exact ⟨_, (decide ((t238.length : Int) < (l0_1.length : Int))), (by first | rfl | (simp; done) | (simp [*]; done)), H', ⟨by have := HK1.out; first | omega | exact Nat.le_refl _⟩, ⟨by (with_reducible repeat (first | apply Kd.R_alloc | apply Kd.R_drewN | apply Kd.R_drew)); exact HO_4.out⟩, ⟨by (with_reducible repeat (first | apply Kd.R_alloc | apply Kd.R_drewN | apply Kd.R_drew)); exact HO240.out⟩, ⟨by (with_reducible repeat (first | refine blk_drewN ?_ _ | refine blk_drew ?_ | refine blk_alloc ?_ _)); exact BK236.out⟩, ⟨by repeat (first | (with_reducible first | exact HB.out | apply below_alloc | apply pw_below_drewN | apply below_drew1 | refine below_set ?_ GE236.out) | exact HB.out)⟩⟩
       ·
        rw [if_neg c13] at H
        have c13b0 : decide (0 < (t238.length : Int)) = false := decide_eq_false c13
        have c13b1 : decide (0 < t238.length) = false := decide_eq_false (by omega)
        clear c13
        have H' := Aside0.mk H
        clear H
        obtain ⟨Ao16, co16, eo16⟩ := Kd.R_slice HO240.out
        subst eo16
        go_wp2
        go_meet
        case rel => exact ⟨_, (false), (by first | rfl | (simp; done) | (simp [*]; done)), H', ⟨by have := HK1.out; first | omega | exact Nat.le_refl _⟩, ⟨by (with_reducible repeat (first | apply Kd.R_alloc | apply Kd.R_drewN | apply Kd.R_drew)); exact HO_4.out⟩, ⟨by (with_reducible repeat (first | apply Kd.R_alloc | apply Kd.R_drewN | apply Kd.R_drew)); exact HO240.out⟩, ⟨by (with_reducible repeat (first | refine blk_drewN ?_ _ | refine blk_drew ?_ | refine blk_alloc ?_ _)); exact BK236.out⟩, ⟨by repeat (first | (with_reducible first | exact HB.out | apply below_alloc | apply pw_below_drewN | apply below_drew1 | refine below_set ?_ GE236.out) | exact HB.out)⟩⟩
      ·
       rw [if_neg c12] at H
       have c12b0 : (x6_1 == 2) = false := beq_eq_false_iff_ne.mpr c12
       have c12b1 : (x6_1 != 2) = true := bne_iff_ne.mpr c12
       (first | rw [c12b0] | (simp only [i64_w, i32_w]; rw [c12b0]) | skip)
       have H' := Aside0.mk H
       clear H
       go_wp2
       go_meet
       case rel => exact ⟨_, (false), (by first | rfl | (simp; done) | (simp [*]; done)), H', ⟨by have := HK1.out; first | omega | exact Nat.le_refl _⟩, ⟨by (with_reducible repeat (first | apply Kd.R_alloc | apply Kd.R_drewN | apply Kd.R_drew)); exact HO_4.out⟩, ⟨by (with_reducible repeat (first | apply Kd.R_alloc | apply Kd.R_drewN | apply Kd.R_drew)); exact HO240.out⟩, ⟨by (with_reducible repeat (first | refine blk_drewN ?_ _ | refine blk_drew ?_ | refine blk_alloc ?_ _)); exact BK236.out⟩, ⟨by repeat (first | (with_reducible first | exact HB.out | apply below_alloc | apply pw_below_drewN | apply below_drew1 | refine below_set ?_ GE236.out) | exact HB.out)⟩⟩
     case rest =>
      clear HC9
      try clear c1
      try clear p2
      try clear c3
      try clear c5
      try clear c7
      try clear c7b0
      try clear c12
      try clear c12b0
      try clear c12b1
      try clear c13
      try clear c13b0
      try clear c13b1
      try clear hcz10_0
      try clear hcz10_1
      try clear hcz10_2
      try clear hcz10_3
      try clear hcz15_0
      try clear hcz15_1
      try clear hcz15_2
      try clear hcz15_3
      try clear hcz5_0
      try clear hcz5_1
      try clear hcz5_2
      try clear hcz5_3
      try clear hfz10_0
      try clear hfz10_1
      try clear hfz10_2
      try clear hfz10_3
      try clear hfz15_0
      try clear hfz15_1
      try clear hfz15_2
      try clear hfz15_3
      try clear hfz5_0
      try clear hfz5_1
      try clear hfz5_2
      try clear hfz5_3
      try clear p2
      obtain ⟨kq, x34_8, rfl, HA, HJ8, HO_4, HO_7, BK236, HB⟩ := hcut
      cases kq with
      | zero => exact absurd HA.out (by simp [culetref49_Of.j1])
      | succ kj8 =>
       have H := HA.out
       clear HA
       simp only [culetref49_Of.j1] at H
       have HC17 := Aside0.mk H
       clear H
       go_upto_if 34 with (fail)
       go_cut [4] (fun v4 wc => ∃ (kq : Nat) (x4_16 : List (S101)), Aside0 (culetref49_Of.j2 kq x4_16 x5_1 x6_1 t238 l0_0 l0_1 a0_2 a0_3 = some (r1, r2)) ∧ Aside0 (kq ≤ kj8) ∧ Aside0 (Kd.R k101 101 wc w.heap.size (fun _ => True) v4 x4_16) ∧ Aside0 (Kd.R (Kd.int .i64) 3 wc w.heap.size (fun _ => True) v239 t238) ∧ Aside0 (wc.heap[gb236]? = some (.cells #[(.slice A0_0 l0_0.length c0_0), (.slice A0_1 l0_1.length c0_1), .int .i64 a0_2, .int .i64 a0_3] 50 (0, 0))) ∧ Aside0 (Below w.heap.size w wc))
       case first =>
        have H := HC17.out
        clear HC17
        by_cases c18 : x34_8 = true
        ·
         subst c18
         have H1 : (if x4_1.length < 5864062014805 then (culetref49_Of.j2 kj8 (x4_1 ++ [(⟨2, 0, 0⟩ : S101)]) x5_1 x6_1 t238 l0_0 l0_1 a0_2 a0_3) else (none)) = some (r1, r2) := by rw [if_pos rfl] at H; exact H
         clear H
         have H := H1
         clear H1
         by_cases c19 : x4_1.length < 5864062014805
         ·
          rw [if_pos c19] at H
          have LMc19 := Aside0.mk c19
          clear c19
          obtain ⟨y241, hy241⟩ : ∃ y_ : List (S101), y_ = (x4_1 ++ [(⟨2, 0, 0⟩ : S101)]) := ⟨_, rfl⟩
          replace H : (culetref49_Of.j2 kj8 y241 x5_1 x6_1 t238 l0_0 l0_1 a0_2 a0_3) = some (r1, r2) := by first | (rw [hy241]; with_reducible exact H) | (have H2_ := (Option.bind_some _ _).symm.trans H; rw [hy241]; with_reducible exact H2_) | (have H2_ := (Option.bind_some _ _).symm.trans H; with_reducible exact H2_) | with_reducible exact H | (rw [hy241]; exact H) | exact H
          have Ny241 := Aside0.mk hy241
          clear hy241
          have H' := Aside0.mk H
          clear H
          go_wp2_with (first | ((with_reducible refine gate_builtin (b := .append) (xs := #[.tmp 35, .tmp 37]) rfl ?_); (try (refine gate_guard (by rfl) ?_; dsimp only)); at_builtin; refine Kd.R_append k101 (w0 := w) w.heap.size rfl (.tmp 35) (.tmp 37) 72 101 (.agg #[(.int .i64 0), (.int .i64 0), (.int .i64 0)]) 24 rfl Try.underlying72 info101 rfl (by decide) (by omega) u4 x4_1 (⟨2, 0, 0⟩ : S101) [.int .i64 2, .int .i64 0, .int .i64 0] (fun _ => True) (fun _ => False) rfl rfl ?aP (fun _ hk => hk.elim) ?aF ?aO ?aB ?aS ?aL ?_; (case aP => exact k101_mkM _ _ _ (⟨2, 0, 0⟩ : S101)); (case aB => exact (by repeat (first | (with_reducible first | exact HB.out | apply below_alloc | apply pw_below_drewN | apply below_drew1 | refine below_set ?_ GE236.out) | exact HB.out))); (case aF => exact (fun _ _ => trivial)); (case aO => exact (by (with_reducible repeat (first | apply Kd.R_alloc | apply Kd.R_drewN | apply Kd.R_drew)); exact HO_4.out)); (case aS => exact (below_size (by repeat (first | (with_reducible first | exact HB.out | apply below_alloc | apply pw_below_drewN | apply below_drew1 | refine below_set ?_ GE236.out) | exact HB.out)))); (case aL => have := LMc19.out; omega); intro v242 w20 ho hb hg hat; rw [← Ny241.out] at ho; have n0_ := Aside0.mk (Kd.R_over' (by (with_reducible repeat (first | apply Kd.R_alloc | apply Kd.R_drewN | apply Kd.R_drew)); exact HO_7.out) (Kd.R_typed (by (with_reducible repeat (first | apply Kd.R_alloc | apply Kd.R_drewN | apply Kd.R_drew)); exact HO_4.out)) (by decide) hg); have n1_ := Aside0.mk (blk_grown (g := gb236) (o := .cells #[.slice A0_0 l0_0.length c0_0, .slice A0_1 l0_1.length c0_1, .int .i64 a0_2, .int .i64 a0_3] 50 (0, 0)) (by (with_reducible repeat (first | refine blk_drewN ?_ _ | refine blk_drew ?_ | refine blk_alloc ?_ _)); exact BK236.out) hg (Kd.R_ne HO_4.out BK236.out (by decide))); have n2_ := Aside0.mk (hb); have n3_ := Aside0.mk (ho); clear HO_7; clear BK236; clear HB; clear HO_4; have HO_7 := n0_; have BK236 := n1_; have HB := n2_; have HO243 := n3_; clear n0_ n1_ n2_ n3_; clear ho hb hg hat))
          go_meet
          case rel => exact ⟨_, (y241), H', ⟨by have := HK1.out; have := HJ8.out; first | omega | exact Nat.le_refl _⟩, ⟨by (with_reducible repeat (first | apply Kd.R_alloc | apply Kd.R_drewN | apply Kd.R_drew)); exact HO243.out⟩, ⟨by (with_reducible repeat (first | apply Kd.R_alloc | apply Kd.R_drewN | apply Kd.R_drew)); exact HO_7.out⟩, ⟨by (with_reducible repeat (first | refine blk_drewN ?_ _ | refine blk_drew ?_ | refine blk_alloc ?_ _)); exact BK236.out⟩, ⟨by repeat (first | (with_reducible first | exact HB.out | apply below_alloc | apply pw_below_drewN | apply below_drew1 | refine below_set ?_ GE236.out) | exact HB.out)⟩⟩
         ·
          rw [if_neg c19] at H
          exact absurd H (by simp)
        ·
         replace c18 := Bool.eq_false_iff.mpr c18
         subst c18
         have H1 : (culetref49_Of.j2 kj8 x4_1 x5_1 x6_1 t238 l0_0 l0_1 a0_2 a0_3) = some (r1, r2) := by rw [if_neg (show ¬ (false = true) by decide)] at H; exact H
         clear H
         have H := H1
         clear H1
         have H' := Aside0.mk H
         clear H
         go_wp2
         go_meet
         case rel => exact ⟨_, (x4_1), H', ⟨by have := HK1.out; have := HJ8.out; first | omega | exact Nat.le_refl _⟩, ⟨by (with_reducible repeat (first | apply Kd.R_alloc | apply Kd.R_drewN | apply Kd.R_drew)); exact HO_4.out⟩, ⟨by (with_reducible repeat (first | apply Kd.R_alloc | apply Kd.R_drewN | apply Kd.R_drew)); exact HO_7.out⟩, ⟨by (with_reducible repeat (first | refine blk_drewN ?_ _ | refine blk_drew ?_ | refine blk_alloc ?_ _)); exact BK236.out⟩, ⟨by repeat (first | (with_reducible first | exact HB.out | apply below_alloc | apply pw_below_drewN | apply below_drew1 | refine below_set ?_ GE236.out) | exact HB.out)⟩⟩
       case rest =>
        clear HC17
        try clear c1
        try clear p2
        try clear c3
        try clear c5
        try clear c7
        try clear c7b0
        try clear c12
        try clear c12b0
        try clear c12b1
        try clear c13
        try clear c13b0
        try clear c13b1
        try clear c18
        try clear c19
        try clear hcz10_0
        try clear hcz10_1
        try clear hcz10_2
        try clear hcz10_3
        try clear hcz15_0
        try clear hcz15_1
        try clear hcz15_2
        try clear hcz15_3
        try clear hcz5_0
        try clear hcz5_1
        try clear hcz5_2
        try clear hcz5_3
        try clear hfz10_0
        try clear hfz10_1
        try clear hfz10_2
        try clear hfz10_3
        try clear hfz15_0
        try clear hfz15_1
        try clear hfz15_2
        try clear hfz15_3
        try clear hfz5_0
        try clear hfz5_1
        try clear hfz5_2
        try clear hfz5_3
        try clear p2
        obtain ⟨kq, x4_16, HA, HJ16, HO_4, HO_7, BK236, HB⟩ := hcut
        cases kq with
        | zero => exact absurd HA.out (by simp [culetref49_Of.j2])
        | succ kj16 =>
         have H := HA.out
         clear HA
         simp only [culetref49_Of.j2] at H
         have H' := Aside0.mk H
         clear H
         go_wp2
         go_loopg [4, 5, 8] kj16 (fun kq v4 v5 v8 w' => ∃ (x4_4 : List (S101)) (x5_4 : Int) (x8_4 : Int), v5 = .int .i64 x5_4 ∧ v8 = .int .i64 x8_4 ∧ Aside0 (culetref49_Of.l1 kq x4_4 x5_4 x6_1 t238 x8_4 l0_0 l0_1 a0_2 a0_3 = some (r1, r2)) ∧ Aside0 (kq ≤ kj16) ∧ Aside0 (Kd.R k101 101 w' w.heap.size (fun _ => True) v4 x4_4) ∧ Aside0 (Kd.R (Kd.int .i64) 3 w' w.heap.size (fun _ => True) v239 t238) ∧ Aside0 (w'.heap[gb236]? = some (.cells #[(.slice A0_0 l0_0.length c0_0), (.slice A0_1 l0_1.length c0_1), .int .i64 a0_2, .int .i64 a0_3] 50 (0, 0))) ∧ Aside0 (Below w.heap.size w w'))
         case atStart => exact ⟨(x4_16), (x5_1), (0), (by first | rfl | (simp; done) | (simp [*]; done)), (by first | rfl | (simp; done) | (simp [*]; done)), H', ⟨Nat.le_refl _⟩, ⟨by (with_reducible repeat (first | apply Kd.R_alloc | apply Kd.R_drewN | apply Kd.R_drew)); exact HO_4.out⟩, ⟨by (with_reducible repeat (first | apply Kd.R_alloc | apply Kd.R_drewN | apply Kd.R_drew)); exact HO_7.out⟩, ⟨by (with_reducible repeat (first | refine blk_drewN ?_ _ | refine blk_drew ?_ | refine blk_alloc ?_ _)); exact BK236.out⟩, ⟨by repeat (first | (with_reducible first | exact HB.out | apply below_alloc | apply pw_below_drewN | apply below_drew1 | refine below_set ?_ GE236.out) | exact HB.out)⟩⟩
         case round =>
          clear H'
          try clear c1
          try clear p2
          try clear c3
          try clear c5
          try clear c7
          try clear c7b0
          try clear c12
          try clear c12b0
          try clear c12b1
          try clear c13
          try clear c13b0
          try clear c13b1
          try clear c18
          try clear c19
          try clear hcz10_0
          try clear hcz10_1
          try clear hcz10_2
          try clear hcz10_3
          try clear hcz15_0
          try clear hcz15_1
          try clear hcz15_2
          try clear hcz15_3
          try clear hcz5_0
          try clear hcz5_1
          try clear hcz5_2
          try clear hcz5_3
          try clear hfz10_0
          try clear hfz10_1
          try clear hfz10_2
          try clear hfz10_3
          try clear hfz15_0
          try clear hfz15_1
          try clear hfz15_2
          try clear hfz15_3
          try clear hfz5_0
          try clear hfz5_1
          try clear hfz5_2
          try clear hfz5_3
          try clear p2
          obtain ⟨x4_4, x5_4, x8_4, rfl, rfl, HA, HK4, HO_4, HO_7, BK236, HB⟩ := hrel
          cases gk with
          | zero => exact absurd HA.out (by simp [culetref49_Of.l1])
          | succ k4 =>
           have H := HA.out
           clear HA
           simp only [culetref49_Of.l1] at H
           have HC21 := Aside0.mk H
           clear H
           go_upto_region 12 with (fail)
           go_cut [48] (fun v48 wc => ∃ (kq : Nat) (x48_20 : Bool), v48 = .bool x48_20 ∧ Aside0 (culetref49_Of.j4 kq x4_4 x5_4 x6_1 t238 x8_4 x48_20 l0_0 l0_1 a0_2 a0_3 = some (r1, r2)) ∧ Aside0 (kq ≤ k4) ∧ Aside0 (Kd.R k101 101 wc w.heap.size (fun _ => True) u4 x4_4) ∧ Aside0 (Kd.R (Kd.int .i64) 3 wc w.heap.size (fun _ => True) v239 t238) ∧ Aside0 (wc.heap[gb236]? = some (.cells #[(.slice A0_0 l0_0.length c0_0), (.slice A0_1 l0_1.length c0_1), .int .i64 a0_2, .int .i64 a0_3] 50 (0, 0))) ∧ Aside0 (Below w.heap.size w wc))
           case first =>
            have H := HC21.out
            clear HC21
            by_cases c22 : x8_4 < (l0_0.length : Int)
            ·
             rw [if_pos c22] at H
             have c22b0 : decide (x8_4 < (l0_0.length : Int)) = true := decide_eq_true c22
             clear c22
             (first | rw [c22b0] | (simp only [i64_w, i32_w]; rw [c22b0]) | skip)
             have H' := Aside0.mk H
             clear H
             have hcz23_0 : wr.cell? ⟨gb236, 0, none⟩ = some (.slice A0_0 l0_0.length c0_0) := (blk_cell BK236.out 0).trans rfl
             have hcz23_1 : wr.cell? ⟨gb236, 1, none⟩ = some (.slice A0_1 l0_1.length c0_1) := (blk_cell BK236.out 1).trans rfl
             have hcz23_2 : wr.cell? ⟨gb236, 2, none⟩ = some (.int .i64 a0_2) := (blk_cell BK236.out 2).trans rfl
             have hcz23_3 : wr.cell? ⟨gb236, 3, none⟩ = some (.int .i64 a0_3) := (blk_cell BK236.out 3).trans rfl
             have hfz23_0 := blk_frozen BK236.out 0
             have hfz23_1 := blk_frozen BK236.out 1
             have hfz23_2 := blk_frozen BK236.out 2
             have hfz23_3 := blk_frozen BK236.out 3
             obtain ⟨Ao24, co24, eo24⟩ := Kd.R_slice HO_7.out
             subst eo24
             go_wp2
             go_meet
             case rel => exact ⟨_, (decide ((t238.length : Int) > 0)), (by first | rfl | (simp; done) | (simp [*]; done)), H', ⟨by have := HK1.out; have := HJ8.out; have := HJ16.out; have := HK4.out; first | omega | exact Nat.le_refl _⟩, ⟨by (with_reducible repeat (first | apply Kd.R_alloc | apply Kd.R_drewN | apply Kd.R_drew)); exact HO_4.out⟩, ⟨by (with_reducible repeat (first | apply Kd.R_alloc | apply Kd.R_drewN | apply Kd.R_drew)); exact HO_7.out⟩, ⟨by (with_reducible repeat (first | refine blk_drewN ?_ _ | refine blk_drew ?_ | refine blk_alloc ?_ _)); exact BK236.out⟩, ⟨by repeat (first | (with_reducible first | exact HB.out | apply below_alloc | apply pw_below_drewN | apply below_drew1 | refine below_set ?_ GE236.out) | exact HB.out)⟩⟩
            ·
             rw [if_neg c22] at H
             have c22b0 : decide (x8_4 < (l0_0.length : Int)) = false := decide_eq_false c22
             clear c22
             (first | rw [c22b0] | (simp only [i64_w, i32_w]; rw [c22b0]) | skip)
             have H' := Aside0.mk H
             clear H
             have hcz25_0 : wr.cell? ⟨gb236, 0, none⟩ = some (.slice A0_0 l0_0.length c0_0) := (blk_cell BK236.out 0).trans rfl
             have hcz25_1 : wr.cell? ⟨gb236, 1, none⟩ = some (.slice A0_1 l0_1.length c0_1) := (blk_cell BK236.out 1).trans rfl
             have hcz25_2 : wr.cell? ⟨gb236, 2, none⟩ = some (.int .i64 a0_2) := (blk_cell BK236.out 2).trans rfl
             have hcz25_3 : wr.cell? ⟨gb236, 3, none⟩ = some (.int .i64 a0_3) := (blk_cell BK236.out 3).trans rfl
             have hfz25_0 := blk_frozen BK236.out 0
             have hfz25_1 := blk_frozen BK236.out 1
             have hfz25_2 := blk_frozen BK236.out 2
             have hfz25_3 := blk_frozen BK236.out 3
             go_wp2
             go_meet
             case rel => exact ⟨_, (false), (by first | rfl | (simp; done) | (simp [*]; done)), H', ⟨by have := HK1.out; have := HJ8.out; have := HJ16.out; have := HK4.out; first | omega | exact Nat.le_refl _⟩, ⟨by (with_reducible repeat (first | apply Kd.R_alloc | apply Kd.R_drewN | apply Kd.R_drew)); exact HO_4.out⟩, ⟨by (with_reducible repeat (first | apply Kd.R_alloc | apply Kd.R_drewN | apply Kd.R_drew)); exact HO_7.out⟩, ⟨by (with_reducible repeat (first | refine blk_drewN ?_ _ | refine blk_drew ?_ | refine blk_alloc ?_ _)); exact BK236.out⟩, ⟨by repeat (first | (with_reducible first | exact HB.out | apply below_alloc | apply pw_below_drewN | apply below_drew1 | refine below_set ?_ GE236.out) | exact HB.out)⟩⟩
           case rest =>
            clear HC21
            try clear c1
            try clear c2
            try clear p2
            try clear c3
            try clear c5
            try clear c7
            try clear c7b0
            try clear c12
            try clear c12b0
            try clear c12b1
            try clear c13
            try clear c13b0
            try clear c13b1
            try clear c18
            try clear c19
            try clear c22
            try clear c22b0
            try clear hcz10_0
            try clear hcz10_1
            try clear hcz10_2
            try clear hcz10_3
            try clear hcz15_0
            try clear hcz15_1
            try clear hcz15_2
            try clear hcz15_3
            try clear hcz23_0
            try clear hcz23_1
            try clear hcz23_2
            try clear hcz23_3
            try clear hcz25_0
            try clear hcz25_1
            try clear hcz25_2
            try clear hcz25_3
            try clear hcz5_0
            try clear hcz5_1
            try clear hcz5_2
            try clear hcz5_3
            try clear hfz10_0
            try clear hfz10_1
            try clear hfz10_2
            try clear hfz10_3
            try clear hfz15_0
            try clear hfz15_1
            try clear hfz15_2
            try clear hfz15_3
            try clear hfz23_0
            try clear hfz23_1
            try clear hfz23_2
            try clear hfz23_3
            try clear hfz25_0
            try clear hfz25_1
            try clear hfz25_2
            try clear hfz25_3
            try clear hfz5_0
            try clear hfz5_1
            try clear hfz5_2
            try clear hfz5_3
            try clear p2
            obtain ⟨kq, x48_20, rfl, HA, HJ20, HO_4, HO_7, BK236, HB⟩ := hcut
            cases kq with
            | zero => exact absurd HA.out (by simp [culetref49_Of.j4])
            | succ kj20 =>
             have H := HA.out
             clear HA
             simp only [culetref49_Of.j4] at H
             by_cases c26 : x48_20 = true
             ·
              subst c26
              have H1 : (if x8_4 = x5_4 then (culetref49_Of.j5 kj20 x4_4 x5_4 x6_1 t238 x8_4 l0_0 l0_1 a0_2 a0_3) else (if x4_4.length < 5864062014805 then (culetref49_Of.j5 kj20 (x4_4 ++ [(⟨1, x8_4, 0⟩ : S101)]) x8_4 x6_1 t238 x8_4 l0_0 l0_1 a0_2 a0_3) else (none))) = some (r1, r2) := by rw [if_pos rfl] at H; exact H
              clear H
              have H := H1
              clear H1
              have HC27 := Aside0.mk H
              clear H
              go_upto_if 53 with (fail)
              go_cut [4, 5] (fun v4 v5 wc => ∃ (kq : Nat) (x4_26 : List (S101)) (x5_26 : Int), v5 = .int .i64 x5_26 ∧ Aside0 (culetref49_Of.j5 kq x4_26 x5_26 x6_1 t238 x8_4 l0_0 l0_1 a0_2 a0_3 = some (r1, r2)) ∧ Aside0 (kq ≤ kj20) ∧ Aside0 (Kd.R k101 101 wc w.heap.size (fun _ => True) v4 x4_26) ∧ Aside0 (Kd.R (Kd.int .i64) 3 wc w.heap.size (fun _ => True) v239 t238) ∧ Aside0 (wc.heap[gb236]? = some (.cells #[(.slice A0_0 l0_0.length c0_0), (.slice A0_1 l0_1.length c0_1), .int .i64 a0_2, .int .i64 a0_3] 50 (0, 0))) ∧ Aside0 (Below w.heap.size w wc))
              case first =>
               have H := HC27.out
               clear HC27
               by_cases c28 : x8_4 = x5_4
               ·
                rw [if_pos c28] at H
                have c28b0 : (x8_4 == x5_4) = true := beq_iff_eq.mpr c28
                have c28b1 : (x8_4 != x5_4) = false := bne_eq_false_iff_eq.mpr c28
                clear c28
                (first | rw [c28b0] | (simp only [i64_w, i32_w]; rw [c28b0]) | skip)
                have H' := Aside0.mk H
                clear H
                go_wp2
                go_meet
                case rel => exact ⟨_, (x4_4), (x5_4), (by first | rfl | (simp; done) | (simp [*]; done)), H', ⟨by have := HK1.out; have := HJ8.out; have := HJ16.out; have := HK4.out; have := HJ20.out; first | omega | exact Nat.le_refl _⟩, ⟨by (with_reducible repeat (first | apply Kd.R_alloc | apply Kd.R_drewN | apply Kd.R_drew)); exact HO_4.out⟩, ⟨by (with_reducible repeat (first | apply Kd.R_alloc | apply Kd.R_drewN | apply Kd.R_drew)); exact HO_7.out⟩, ⟨by (with_reducible repeat (first | refine blk_drewN ?_ _ | refine blk_drew ?_ | refine blk_alloc ?_ _)); exact BK236.out⟩, ⟨by repeat (first | (with_reducible first | exact HB.out | apply below_alloc | apply pw_below_drewN | apply below_drew1 | refine below_set ?_ GE236.out) | exact HB.out)⟩⟩
               ·
                rw [if_neg c28] at H
                have c28b0 : (x8_4 == x5_4) = false := beq_eq_false_iff_ne.mpr c28
                have c28b1 : (x8_4 != x5_4) = true := bne_iff_ne.mpr c28
                (first | rw [c28b0] | (simp only [i64_w, i32_w]; rw [c28b0]) | skip)
                by_cases c29 : x4_4.length < 5864062014805
                ·
                 rw [if_pos c29] at H
                 have LMc29 := Aside0.mk c29
                 clear c29
                 obtain ⟨y244, hy244⟩ : ∃ y_ : List (S101), y_ = (x4_4 ++ [(⟨1, x8_4, 0⟩ : S101)]) := ⟨_, rfl⟩
                 replace H : (culetref49_Of.j5 kj20 y244 x8_4 x6_1 t238 x8_4 l0_0 l0_1 a0_2 a0_3) = some (r1, r2) := by first | (rw [hy244]; with_reducible exact H) | (have H2_ := (Option.bind_some _ _).symm.trans H; rw [hy244]; with_reducible exact H2_) | (have H2_ := (Option.bind_some _ _).symm.trans H; with_reducible exact H2_) | with_reducible exact H | (rw [hy244]; exact H) | exact H
                 have Ny244 := Aside0.mk hy244
                 clear hy244
                 have H' := Aside0.mk H
                 clear H
                 go_wp2_with (first | ((with_reducible refine gate_builtin (b := .append) (xs := #[.tmp 54, .tmp 57]) rfl ?_); (try (refine gate_guard (by rfl) ?_; dsimp only)); at_builtin; refine Kd.R_append k101 (w0 := w) w.heap.size rfl (.tmp 54) (.tmp 57) 72 101 (.agg #[(.int .i64 0), (.int .i64 0), (.int .i64 0)]) 24 rfl Try.underlying72 info101 rfl (by decide) (by omega) u4 x4_4 (⟨1, x8_4, 0⟩ : S101) [.int .i64 1, .int .i64 x8_4, .int .i64 0] (fun _ => True) (fun _ => False) rfl rfl ?aP (fun _ hk => hk.elim) ?aF ?aO ?aB ?aS ?aL ?_; (case aP => exact k101_mkM _ _ _ (⟨1, x8_4, 0⟩ : S101)); (case aB => exact (by repeat (first | (with_reducible first | exact HB.out | apply below_alloc | apply pw_below_drewN | apply below_drew1 | refine below_set ?_ GE236.out) | exact HB.out))); (case aF => exact (fun _ _ => trivial)); (case aO => exact (by (with_reducible repeat (first | apply Kd.R_alloc | apply Kd.R_drewN | apply Kd.R_drew)); exact HO_4.out)); (case aS => exact (below_size (by repeat (first | (with_reducible first | exact HB.out | apply below_alloc | apply pw_below_drewN | apply below_drew1 | refine below_set ?_ GE236.out) | exact HB.out)))); (case aL => have := LMc29.out; omega); intro v245 w30 ho hb hg hat; rw [← Ny244.out] at ho; have n0_ := Aside0.mk (Kd.R_over' (by (with_reducible repeat (first | apply Kd.R_alloc | apply Kd.R_drewN | apply Kd.R_drew)); exact HO_7.out) (Kd.R_typed (by (with_reducible repeat (first | apply Kd.R_alloc | apply Kd.R_drewN | apply Kd.R_drew)); exact HO_4.out)) (by decide) hg); have n1_ := Aside0.mk (blk_grown (g := gb236) (o := .cells #[.slice A0_0 l0_0.length c0_0, .slice A0_1 l0_1.length c0_1, .int .i64 a0_2, .int .i64 a0_3] 50 (0, 0)) (by (with_reducible repeat (first | refine blk_drewN ?_ _ | refine blk_drew ?_ | refine blk_alloc ?_ _)); exact BK236.out) hg (Kd.R_ne HO_4.out BK236.out (by decide))); have n2_ := Aside0.mk (hb); have n3_ := Aside0.mk (ho); clear HO_7; clear BK236; clear HB; clear HO_4; have HO_7 := n0_; have BK236 := n1_; have HB := n2_; have HO246 := n3_; clear n0_ n1_ n2_ n3_; clear ho hb hg hat))
                 go_meet
                 case rel => exact ⟨_, (y244), (x8_4), (by first | rfl | (simp; done) | (simp [*]; done)), H', ⟨by have := HK1.out; have := HJ8.out; have := HJ16.out; have := HK4.out; have := HJ20.out; first | omega | exact Nat.le_refl _⟩, ⟨by (with_reducible repeat (first | apply Kd.R_alloc | apply Kd.R_drewN | apply Kd.R_drew)); exact HO246.out⟩, ⟨by (with_reducible repeat (first | apply Kd.R_alloc | apply Kd.R_drewN | apply Kd.R_drew)); exact HO_7.out⟩, ⟨by (with_reducible repeat (first | refine blk_drewN ?_ _ | refine blk_drew ?_ | refine blk_alloc ?_ _)); exact BK236.out⟩, ⟨by repeat (first | (with_reducible first | exact HB.out | apply below_alloc | apply pw_below_drewN | apply below_drew1 | refine below_set ?_ GE236.out) | exact HB.out)⟩⟩
                ·
                 rw [if_neg c29] at H
                 exact absurd H (by simp)
              case rest =>
               clear HC27
               try clear c1
               try clear c2
               try clear p2
               try clear c3
               try clear c5
               try clear c7
               try clear c7b0
               try clear c12
               try clear c12b0
               try clear c12b1
               try clear c13
               try clear c13b0
               try clear c13b1
               try clear c18
               try clear c19
               try clear c22
               try clear c22b0
               try clear c26
               try clear c28
               try clear c28b0
               try clear c28b1
               try clear c29
               try clear hcz10_0
               try clear hcz10_1
               try clear hcz10_2
               try clear hcz10_3
               try clear hcz15_0
               try clear hcz15_1
               try clear hcz15_2
               try clear hcz15_3
               try clear hcz23_0
               try clear hcz23_1
               try clear hcz23_2
               try clear hcz23_3
               try clear hcz25_0
               try clear hcz25_1
               try clear hcz25_2
               try clear hcz25_3
               try clear hcz5_0
               try clear hcz5_1
               try clear hcz5_2
               try clear hcz5_3
               try clear hfz10_0
               try clear hfz10_1
               try clear hfz10_2
               try clear hfz10_3
               try clear hfz15_0
               try clear hfz15_1
               try clear hfz15_2
               try clear hfz15_3
               try clear hfz23_0
               try clear hfz23_1
               try clear hfz23_2
               try clear hfz23_3
               try clear hfz25_0
               try clear hfz25_1
               try clear hfz25_2
               try clear hfz25_3
               try clear hfz5_0
               try clear hfz5_1
               try clear hfz5_2
               try clear hfz5_3
               try clear p2
               obtain ⟨kq, x4_26, x5_26, rfl, HA, HJ26, HO_4, HO_7, BK236, HB⟩ := hcut
               cases kq with
               | zero => exact absurd HA.out (by simp [culetref49_Of.j5])
               | succ kj26 =>
                have H := HA.out
                clear HA
                simp only [culetref49_Of.j5] at H
                have H' := Aside0.mk H
                clear H
                go_wp2
                go_loopg [4, 9] kj26 (fun kq v4 v9 w' => ∃ (x4_7 : List (S101)) (x9_7 : Int), v9 = .int .i64 x9_7 ∧ Aside0 (culetref49_Of.l2 kq x4_7 x5_26 x6_1 t238 x8_4 x9_7 l0_0 l0_1 a0_2 a0_3 = some (r1, r2)) ∧ Aside0 (kq ≤ kj26) ∧ Aside0 (Kd.R k101 101 w' w.heap.size (fun _ => True) v4 x4_7) ∧ Aside0 (Kd.R (Kd.int .i64) 3 w' w.heap.size (fun _ => True) v239 t238) ∧ Aside0 (w'.heap[gb236]? = some (.cells #[(.slice A0_0 l0_0.length c0_0), (.slice A0_1 l0_1.length c0_1), .int .i64 a0_2, .int .i64 a0_3] 50 (0, 0))) ∧ Aside0 (Below w.heap.size w w'))
                case atStart => exact ⟨(x4_26), (0), (by first | rfl | (simp; done) | (simp [*]; done)), H', ⟨Nat.le_refl _⟩, ⟨by (with_reducible repeat (first | apply Kd.R_alloc | apply Kd.R_drewN | apply Kd.R_drew)); exact HO_4.out⟩, ⟨by (with_reducible repeat (first | apply Kd.R_alloc | apply Kd.R_drewN | apply Kd.R_drew)); exact HO_7.out⟩, ⟨by (with_reducible repeat (first | refine blk_drewN ?_ _ | refine blk_drew ?_ | refine blk_alloc ?_ _)); exact BK236.out⟩, ⟨by repeat (first | (with_reducible first | exact HB.out | apply below_alloc | apply pw_below_drewN | apply below_drew1 | refine below_set ?_ GE236.out) | exact HB.out)⟩⟩
                case round =>
                 clear H'
                 try clear c1
                 try clear c2
                 try clear p2
                 try clear c3
                 try clear c5
                 try clear c7
                 try clear c7b0
                 try clear c12
                 try clear c12b0
                 try clear c12b1
                 try clear c13
                 try clear c13b0
                 try clear c13b1
                 try clear c18
                 try clear c19
                 try clear c22
                 try clear c22b0
                 try clear c26
                 try clear c28
                 try clear c28b0
                 try clear c28b1
                 try clear c29
                 try clear hcz10_0
                 try clear hcz10_1
                 try clear hcz10_2
                 try clear hcz10_3
                 try clear hcz15_0
                 try clear hcz15_1
                 try clear hcz15_2
                 try clear hcz15_3
                 try clear hcz23_0
                 try clear hcz23_1
                 try clear hcz23_2
                 try clear hcz23_3
                 try clear hcz25_0
                 try clear hcz25_1
                 try clear hcz25_2
                 try clear hcz25_3
                 try clear hcz5_0
                 try clear hcz5_1
                 try clear hcz5_2
                 try clear hcz5_3
                 try clear hfz10_0
                 try clear hfz10_1
                 try clear hfz10_2
                 try clear hfz10_3
                 try clear hfz15_0
                 try clear hfz15_1
                 try clear hfz15_2
                 try clear hfz15_3
                 try clear hfz23_0
                 try clear hfz23_1
                 try clear hfz23_2
                 try clear hfz23_3
                 try clear hfz25_0
                 try clear hfz25_1
                 try clear hfz25_2
                 try clear hfz25_3
                 try clear hfz5_0
                 try clear hfz5_1
                 try clear hfz5_2
                 try clear hfz5_3
                 try clear p2
                 obtain ⟨x4_7, x9_7, rfl, HA, HK7, HO_4, HO_7, BK236, HB⟩ := hrel
                 cases gk with
                 | zero => exact absurd HA.out (by simp [culetref49_Of.l2])
                 | succ k7 =>
                  have H := HA.out
                  clear HA
                  simp only [culetref49_Of.l2] at H
                  by_cases c31 : x9_7 < (t238.length : Int)
                  ·
                   rw [if_pos c31] at H
                   have c31b0 : decide (x9_7 < (t238.length : Int)) = true := decide_eq_true c31
                   clear c31
                   by_cases c32 : 0 ≤ x9_7
                   ·
                    rw [if_pos c32] at H
                    have c32b0 : decide (0 ≤ x9_7) = true := decide_eq_true c32
                    clear c32
                    by_cases c33 : x4_7.length < 5864062014805
                    ·
                     rw [if_pos c33] at H
                     have LMc33 := Aside0.mk c33
                     clear c33
                     obtain ⟨y248, hy248⟩ : ∃ y_ : List (S101), y_ = (x4_7 ++ [(⟨3, x8_4, rd t238 x9_7⟩ : S101)]) := ⟨_, rfl⟩
                     replace H : (culetref49_Of.l2 k7 y248 x5_26 x6_1 t238 x8_4 (wrap64 (x9_7 + 1)) l0_0 l0_1 a0_2 a0_3) = some (r1, r2) := by first | (rw [hy248]; with_reducible exact H) | (have H2_ := (Option.bind_some _ _).symm.trans H; rw [hy248]; with_reducible exact H2_) | (have H2_ := (Option.bind_some _ _).symm.trans H; with_reducible exact H2_) | with_reducible exact H | (rw [hy248]; exact H) | exact H
                     have Ny248 := Aside0.mk hy248
                     clear hy248
                     have H' := Aside0.mk H
                     clear H
                     obtain ⟨Ao34, co34, eo34⟩ := Kd.R_slice HO_7.out
                     subst eo34
                     have p247 : 0 ≤ (x9_7 : Int) := of_decide_eq_true (by first | (with_reducible assumption) | assumption)
                     have q247 : x9_7 < (t238.length : Int) := of_decide_eq_true (by first | (with_reducible assumption) | assumption)
                     obtain ⟨ad247, e247, hx247_0⟩ := Kd.at_int (Kd.R_reads' HO_7.out).2.2 x9_7 p247 q247
                     cases e247
                     replace p247 := eq_true p247
                     replace q247 := eq_true q247
                     go_wp2_with (first | ((with_reducible refine gate_builtin (b := .append) (xs := #[.tmp 66, .tmp 73]) rfl ?_); (try (refine gate_guard (by rfl) ?_; dsimp only)); at_builtin; refine Kd.R_append k101 (w0 := w) w.heap.size rfl (.tmp 66) (.tmp 73) 72 101 (.agg #[(.int .i64 0), (.int .i64 0), (.int .i64 0)]) 24 rfl Try.underlying72 info101 rfl (by decide) (by omega) u4 x4_7 (⟨3, x8_4, rd t238 x9_7⟩ : S101) [.int .i64 3, .int .i64 x8_4, .int .i64 (rd t238 x9_7)] (fun _ => True) (fun _ => False) rfl rfl ?aP (fun _ hk => hk.elim) ?aF ?aO ?aB ?aS ?aL ?_; (case aP => exact k101_mkM _ _ _ (⟨3, x8_4, rd t238 x9_7⟩ : S101)); (case aB => exact (by repeat (first | (with_reducible first | exact HB.out | apply below_alloc | apply pw_below_drewN | apply below_drew1 | refine below_set ?_ GE236.out) | exact HB.out))); (case aF => exact (fun _ _ => trivial)); (case aO => exact (by (with_reducible repeat (first | apply Kd.R_alloc | apply Kd.R_drewN | apply Kd.R_drew)); exact HO_4.out)); (case aS => exact (below_size (by repeat (first | (with_reducible first | exact HB.out | apply below_alloc | apply pw_below_drewN | apply below_drew1 | refine below_set ?_ GE236.out) | exact HB.out)))); (case aL => have := LMc33.out; omega); intro v249 w35 ho hb hg hat; rw [← Ny248.out] at ho; have n0_ := Aside0.mk (Kd.R_over' (by (with_reducible repeat (first | apply Kd.R_alloc | apply Kd.R_drewN | apply Kd.R_drew)); exact HO_7.out) (Kd.R_typed (by (with_reducible repeat (first | apply Kd.R_alloc | apply Kd.R_drewN | apply Kd.R_drew)); exact HO_4.out)) (by decide) hg); have n1_ := Aside0.mk (blk_grown (g := gb236) (o := .cells #[.slice A0_0 l0_0.length c0_0, .slice A0_1 l0_1.length c0_1, .int .i64 a0_2, .int .i64 a0_3] 50 (0, 0)) (by (with_reducible repeat (first | refine blk_drewN ?_ _ | refine blk_drew ?_ | refine blk_alloc ?_ _)); exact BK236.out) hg (Kd.R_ne HO_4.out BK236.out (by decide))); have n2_ := Aside0.mk (hb); have n3_ := Aside0.mk (ho); clear HO_7; clear BK236; clear HB; clear HO_4; have HO_7 := n0_; have BK236 := n1_; have HB := n2_; have HO250 := n3_; clear n0_ n1_ n2_ n3_; clear ho hb hg hat))
                     go_roundg k7
                     case measure => have := HK1.out; have := HJ8.out; have := HJ16.out; have := HK4.out; have := HJ20.out; have := HJ26.out; have := HK7.out; omega
                     case rel => exact ⟨(y248), (wrap64 (x9_7 + 1)), (by first | rfl | (simp; done) | (simp [*]; done)), H', ⟨by have := HK1.out; have := HJ8.out; have := HJ16.out; have := HK4.out; have := HJ20.out; have := HJ26.out; have := HK7.out; omega⟩, ⟨by (with_reducible repeat (first | apply Kd.R_alloc | apply Kd.R_drewN | apply Kd.R_drew)); exact HO250.out⟩, ⟨by (with_reducible repeat (first | apply Kd.R_alloc | apply Kd.R_drewN | apply Kd.R_drew)); exact HO_7.out⟩, ⟨by (with_reducible repeat (first | refine blk_drewN ?_ _ | refine blk_drew ?_ | refine blk_alloc ?_ _)); exact BK236.out⟩, ⟨by repeat (first | (with_reducible first | exact HB.out | apply below_alloc | apply pw_below_drewN | apply below_drew1 | refine below_set ?_ GE236.out) | exact HB.out)⟩⟩
                    ·
                     rw [if_neg c33] at H
                     exact absurd H (by simp)
                   ·
                    rw [if_neg c32] at H
                    exact absurd H (by simp)
                  ·
                   rw [if_neg c31] at H
                   have c31b0 : decide (x9_7 < (t238.length : Int)) = false := decide_eq_false c31
                   clear c31
                   have H' := Aside0.mk H
                   clear H
                   obtain ⟨Ao36, co36, eo36⟩ := Kd.R_slice HO_7.out
                   subst eo36
                   go_wp2
                   go_roundg k7
                   case measure => have := HK1.out; have := HJ8.out; have := HJ16.out; have := HK4.out; have := HJ20.out; have := HJ26.out; have := HK7.out; omega
                   case rel => exact ⟨(x4_7), (x5_26), (wrap64 (x8_4 + 1)), (by first | rfl | (simp; done) | (simp [*]; done)), (by first | rfl | (simp; done) | (simp [*]; done)), H', ⟨by have := HK1.out; have := HJ8.out; have := HJ16.out; have := HK4.out; have := HJ20.out; have := HJ26.out; have := HK7.out; omega⟩, ⟨by (with_reducible repeat (first | apply Kd.R_alloc | apply Kd.R_drewN | apply Kd.R_drew)); exact HO_4.out⟩, ⟨by (with_reducible repeat (first | apply Kd.R_alloc | apply Kd.R_drewN | apply Kd.R_drew)); exact HO_7.out⟩, ⟨by (with_reducible repeat (first | refine blk_drewN ?_ _ | refine blk_drew ?_ | refine blk_alloc ?_ _)); exact BK236.out⟩, ⟨by repeat (first | (with_reducible first | exact HB.out | apply below_alloc | apply pw_below_drewN | apply below_drew1 | refine below_set ?_ GE236.out) | exact HB.out)⟩⟩
             ·
              replace c26 := Bool.eq_false_iff.mpr c26
              subst c26
              have H1 : (culetref49_Of.l0 kj20 x4_4 x5_4 (wrap64 (x6_1 + 1)) l0_0 l0_1 a0_2 a0_3) = some (r1, r2) := by rw [if_neg (show ¬ (false = true) by decide)] at H; exact H
              clear H
              have H := H1
              clear H1
              have H' := Aside0.mk H
              clear H
              go_wp2
              go_roundg kj20
              case measure => have := HK1.out; have := HJ8.out; have := HJ16.out; have := HK4.out; have := HJ20.out; omega
              case rel => exact ⟨(x4_4), (x5_4), (wrap64 (x6_1 + 1)), (by first | rfl | (simp; done) | (simp [*]; done)), (by first | rfl | (simp; done) | (simp [*]; done)), H', ⟨by have := HK1.out; have := HJ8.out; have := HJ16.out; have := HK4.out; have := HJ20.out; omega⟩, ⟨by (with_reducible repeat (first | apply Kd.R_alloc | apply Kd.R_drewN | apply Kd.R_drew)); exact HO_4.out⟩, ⟨by (with_reducible repeat (first | refine blk_drewN ?_ _ | refine blk_drew ?_ | refine blk_alloc ?_ _)); exact BK236.out⟩, ⟨by repeat (first | (with_reducible first | exact HB.out | apply below_alloc | apply pw_below_drewN | apply below_drew1 | refine below_set ?_ GE236.out) | exact HB.out)⟩⟩
    ·
     rw [if_neg c7] at H
     have c7b0 : decide (x6_1 ≤ 2) = false := decide_eq_false c7
     clear c7
     simp only [Option.some.injEq, Prod.mk.injEq] at H
     obtain ⟨rfl, rfl⟩ := H
     go_wp2
     go_ret2
     exact ⟨_, by first | rfl | (simp [errW_none, errW_some] <;> rfl) | (simp [*, errW_none, errW_some] <;> rfl), by (with_reducible repeat (first | apply Kd.R_alloc | apply Kd.R_drewN | apply Kd.R_drew)); exact HO_4.out, by repeat (first | (with_reducible first | exact HB.out | apply below_alloc | apply pw_below_drewN | apply below_drew1 | refine below_set ?_ GE236.out) | exact HB.out)⟩
 ·
  replace c3 := Bool.eq_false_iff.mpr c3
  subst c3
  have H1 : (some (([] : List (S101)), 1)) = some (r1, r2) := by rw [if_neg (show ¬ (false = true) by decide)] at H; exact H
  clear H
  have H := H1
  clear H1
  simp only [Option.some.injEq, Prod.mk.injEq] at H
  obtain ⟨rfl, rfl⟩ := H
  go_enter Try.func31, Try.ntmps31
  go_wp2_with (first | ((with_reducible refine gate_dst (N := 1) rfl ?_); (try (refine gate_guard (by rfl) ?_; dsimp only)); refine box_event ?hg (N := 1) ?hd (cs := #[.slice A0_0 l0_0.length c0_0, .slice A0_1 l0_1.length c0_1, .int .i64 a0_2, .int .i64 a0_3]) (t := 50) ?hr ?_; (case hd => rfl); (case hg => rfl); (case hr => first | (go_simp; done) | (go_simp; rfl)); intro gb236 hg w37 hbox hb; have n0_ := Aside0.mk (below_step (by repeat (first | (with_reducible first | exact HB.out | apply below_alloc | apply pw_below_drewN | apply below_drew1) | exact HB.out)) hb); have n1_ := Aside0.mk (hbox); have n2_ := Aside0.mk ((by rw [hg]; exact (below_size (by repeat (first | (with_reducible first | exact HB.out | apply below_alloc | apply pw_below_drewN | apply below_drew1) | exact HB.out))) : w.heap.size ≤ gb236)); have n3_ := Aside0.mk ((by rw [hg]; exact (below_size (by repeat (first | (with_reducible first | exact HB.out | apply below_alloc | apply pw_below_drewN | apply below_drew1) | exact HB.out))) : w.heap.size ≤ gb236)); clear HB; have HB := n0_; have BK236 := n1_; have GW236 := n2_; have GE236 := n3_; clear n0_ n1_ n2_ n3_; clear hb hbox hg; have hcz38_0 : w37.cell? ⟨gb236, 0, none⟩ = some (.slice A0_0 l0_0.length c0_0) := (blk_cell BK236.out 0).trans rfl; have hcz38_1 : w37.cell? ⟨gb236, 1, none⟩ = some (.slice A0_1 l0_1.length c0_1) := (blk_cell BK236.out 1).trans rfl; have hcz38_2 : w37.cell? ⟨gb236, 2, none⟩ = some (.int .i64 a0_2) := (blk_cell BK236.out 2).trans rfl; have hcz38_3 : w37.cell? ⟨gb236, 3, none⟩ = some (.int .i64 a0_3) := (blk_cell BK236.out 3).trans rfl; have hfz38_0 := blk_frozen BK236.out 0; have hfz38_1 := blk_frozen BK236.out 1; have hfz38_2 := blk_frozen BK236.out 2; have hfz38_3 := blk_frozen BK236.out 3) | ((with_reducible refine gate_callee (f := 35) rfl ?_); refine goesL_ (some 11) rfl rfl Try.func35 (by kernel_rfl) rfl #[.agg #[.slice A0_0 l0_0.length c0_0, .slice A0_1 l0_1.length c0_1, .int .i64 a0_2, .int .i64 a0_3]] rfl (by (try simp only [List.map_toArray, List.map_cons, List.map_nil]); first | done | rfl | (simp only [List.length_drop, List.length_take]; rfl)) ?_; (with_reducible refine (culetref49_Valid.calls k _ _ l0_0 _ _ l0_1 a0_2 a0_3 false _ ?side1 ?side2 ?side3 ?side4 A2.out).mono ?_); (case side1 => repeat (first | exact (Kd.C_below HR0_0.out HB.out) | (with_reducible refine Kd.C_alloc ?_ _) | (with_reducible refine Kd.C_drewN ?_ _) | (with_reducible refine Kd.C_drew ?_))); (case side2 => exact HC0_0.out); (case side3 => repeat (first | exact (Kd.C_below HR0_1.out HB.out) | (with_reducible refine Kd.C_alloc ?_ _) | (with_reducible refine Kd.C_drewN ?_ _) | (with_reducible refine Kd.C_drew ?_))); (case side4 => exact HC0_1.out); rintro e w39 ⟨rfl, hb⟩; refine ⟨_, rfl, ?_⟩; have n0_ := Aside0.mk (blk_below (g := gb236) (o := .cells #[.slice A0_0 l0_0.length c0_0, .slice A0_1 l0_1.length c0_1, .int .i64 a0_2, .int .i64 a0_3] 50 (0, 0)) (by (with_reducible repeat (first | refine blk_drewN ?_ _ | refine blk_drew ?_ | refine blk_alloc ?_ _)); exact BK236.out) hb); have n1_ := Aside0.mk (below_step (by repeat (first | (with_reducible first | exact HB.out | apply below_alloc | apply pw_below_drewN | apply below_drew1 | refine below_set ?_ GE236.out) | exact HB.out)) hb); clear BK236; clear HB; have BK236 := n0_; have HB := n1_; clear n0_ n1_; (try clear hb); (try clear hb2); (try clear hk); (try clear hi)))
  go_ret2
  exact ⟨_, by first | rfl | (simp [errW_none, errW_some] <;> rfl) | (simp [*, errW_none, errW_some] <;> rfl), by first | exact Kd.R_nil _ _ _ _ _ | exact Kd.N_nil _ _ _ _ _ | exact Kd.V_nil _ _ _ _ _ | exact Kd.Q_nil _ _ _ _ _ | exact Kd.S_nil _ _ _ _ _, by repeat (first | (with_reducible first | exact HB.out | apply below_alloc | apply pw_below_drewN | apply below_drew1 | refine below_set ?_ GE236.out) | exact HB.out)⟩

end Go.Proofs.Ytalhpnfapagamaa.S
