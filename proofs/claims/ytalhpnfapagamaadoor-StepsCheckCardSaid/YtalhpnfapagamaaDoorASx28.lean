-- Written by this session's own programs; what the law does not lean on is left out. Lean checks it.
import Derived.Test.YtalhpnfapagamaaDoorAS
import Derived.Test.YtalhpnfapagamaaDoorASx22
import Derived.Test.YtalhpnfapagamaaDoorASx23
import Derived.Test.YtalhpnfapagamaaDoorASx25
import Derived.Test.YtalhpnfapagamaaDoorASn
namespace Go.Proofs.YtalhpnfapagamaaDoor.S
open Go.RowKit Go.Proofs.YtalhpnfapagamaaDoorW.PrintWords Go.Proofs.YtalhpnfapagamaaDoorW.PrintLast Go.Proofs.YtalhpnfapagamaaDoorW.PrintMore Go.Proofs.YtalhpnfapagamaaDoorD
set_option linter.unusedVariables false
set_option linter.unusedSimpArgs false

def culetref49_Check.l0 : Nat → List (S63) → Int → List (S55) → List (S56) → Int → Int → Int → Bool → List Int → Option (Int × Int)
 | 0, _, _, _, _, _, _, _, _, _ => none
 | k + 1, x1, x7, x205000, x205001, x205002, x205003, x212000, x212001, x212002 => if x7 < (x1.length : Int) then (if 0 ≤ x7 then ((culetref49_next.f k x205000 x205001 x205002 x205003 x212000 x212001 x212002 ((rd_T63 x1 x7).f0) ((rd_T63 x1 x7).f1) ((rd_T63 x1 x7).f2)).bind fun bt213 => (if bt213.2.2.2 = true then (culetref49_Check.l0 k x1 (wrap64 (x7 + 1)) x205000 x205001 x205002 x205003 bt213.1 bt213.2.1 bt213.2.2.1) else (some (x7, 8)))) else (none)) else ((culetref49_finished.f k x205000 x205001 x205002 x205003 x212000 x212001 x212002 1).bind fun t220 => (if t220 = true then ((culetref49_finished.f k x205000 x205001 x205002 x205003 x212000 x212001 x212002 2).bind fun t221 => (if t221 = true then (some ((x1.length : Int), 0)) else (some ((x1.length : Int), 9)))) else (some ((x1.length : Int), 9))))
def culetref49_Check.f (k : Nat) (l0_0 : List (S55)) (l0_1 : List (S56)) (a0_2 : Int) (a0_3 : Int) (l1 : List (S63)) : Option (Int × Int) := (culetref49_Valid.f k l0_0 l0_1 a0_2 a0_3).bind fun t205 => (if t205 = true then ((culetref49_begin.f l0_0 l0_1 a0_2 a0_3).bind fun bt206 => (culetref49_Check.l0 k l1 0 l0_0 l0_1 a0_2 a0_3 bt206.1 bt206.2.1 bt206.2.2)) else (some (0, 1)))
def culetref49_Check.T7 : Bool × List (List Nat × List Nat) := (true, [([], []), ([], []), ([], []), ([], []), ([2, 3], [2, 3]), ([4], [4]), ([0, 1, 5], [0, 1, 5]), ([6], [6]), ([7], [7]), ([7], [7]), ([], []), ([10, 8, 6, 0, 1, 2, 3, 4, 5, 6, 7, 8, 10], [8, 10]), ([9, 11, 0, 1, 2, 3, 4, 5, 6, 7, 8, 9, 10, 11], [9])])
def culetref49_Check.B7 : List Nat := [0, 0, 0, 0, 12, 28, 63, 127, 255, 255, 0, 1535, 4095]
theorem culetref49_Check.tab7 : rtab .any (opsOf Tryd.f9 7) = culetref49_Check.T7 := by kernel_rfl
theorem culetref49_Check.bits7 : waitsOk culetref49_Check.T7.2 culetref49_Check.B7 = true := by kernel_rfl
set_option maxHeartbeats 8000000 in
set_option maxRecDepth 100000 in
theorem culetref49_Check.calls (k : Nat) (A0_0 : Option Addr) (c0_0 : Nat) (l0_0 : List (S55)) (A0_1 : Option Addr) (c0_1 : Nat) (l0_1 : List (S56)) (a0_2 : Int) (a0_3 : Int) (A1 : Option Addr) (c1 : Nat) (l1 : List (S63)) (r1 : Int) (r2 : Int) (w : World) (hr0_0 : Kd.C k55 w A0_0 l0_0.length l0_0) (hc0_0 : l0_0.length ≤ c0_0) (hr0_1 : Kd.C k56 w A0_1 l0_1.length l0_1) (hc0_1 : l0_1.length ≤ c0_1) (hr1 : Kd.C k63 w A1 l1.length l1) (hc1 : l1.length ≤ c1) (h : culetref49_Check.f k l0_0 l0_1 a0_2 a0_3 l1 = some (r1, r2)) :
  Calls Tryd.prog 9 #[.agg #[.slice A0_0 l0_0.length c0_0, .slice A0_1 l0_1.length c0_1, .int .i64 a0_2, .int .i64 a0_3], .slice A1 l1.length c1] w fun e w' => e = .returned (.tuple #[.int .i64 r1, .int .i64 r2]) ∧ Below w.heap.size w w' := by
 have hu25 := Tryd.underlying25
 have hu66 := Tryd.underlying66
 have hu63 := Tryd.underlying63
 have HR0_0 := am_ hr0_0
 have HC0_0 := am_ hc0_0
 clear hr0_0 hc0_0
 have HR0_1 := am_ hr0_1
 have HC0_1 := am_ hc0_1
 clear hr0_1 hc0_1
 have HR1 := am_ hr1
 have HC1 := am_ hc1
 clear hr1 hc1
 have HB := am_ (Below.refl w.heap.size w)
 have H : ((culetref49_Valid.f k l0_0 l0_1 a0_2 a0_3).bind fun t205 => (if t205 = true then ((culetref49_begin.f l0_0 l0_1 a0_2 a0_3).bind fun bt206 => (culetref49_Check.l0 k l1 0 l0_0 l0_1 a0_2 a0_3 bt206.1 bt206.2.1 bt206.2.2)) else (some (0, 1)))) = some (r1, r2) := h
 clear h
 replace H := Option.bind_eq_some_iff.mp H
 obtain ⟨t205, A30, H⟩ := H
 replace H : (if t205 = true then ((culetref49_begin.f l0_0 l0_1 a0_2 a0_3).bind fun bt206 => (culetref49_Check.l0 k l1 0 l0_0 l0_1 a0_2 a0_3 bt206.1 bt206.2.1 bt206.2.2)) else (some (0, 1))) = some (r1, r2) := H
 have A3 := am_ A30
 clear A30
 by_cases c4 : t205 = true
 ·
  subst c4
  have H1 : ((culetref49_begin.f l0_0 l0_1 a0_2 a0_3).bind fun bt206 => (culetref49_Check.l0 k l1 0 l0_0 l0_1 a0_2 a0_3 bt206.1 bt206.2.1 bt206.2.2)) = some (r1, r2) := by rw [if_pos rfl] at H; exact H
  clear H
  have H := H1
  clear H1
  replace H := Option.bind_eq_some_iff.mp H
  obtain ⟨⟨t206, t207, t208⟩, A50, H⟩ := H
  replace H : (culetref49_Check.l0 k l1 0 l0_0 l0_1 a0_2 a0_3 t206 t207 t208) = some (r1, r2) := H
  have A5 := am_ A50
  clear A50
  have H' := am_ H
  clear H
  go_enter Tryd.func9, Tryd.ntmps9
  go_wp2_with (first | ((with_reducible refine gate_dst (N := 2) rfl ?_); refine bev (N := 2) (cs := #[.slice A0_0 l0_0.length c0_0, .slice A0_1 l0_1.length c0_1, .int .i64 a0_2, .int .i64 a0_3]) (t := 25) ?_; intro gb204 hg w6 hbox hb; have z_ := aI (am_ (below_step (mb_ HB.out) hb)) (aI (am_ (hbox)) (aI (am_ ((bz_ hg (mb_ HB.out) : w.heap.size ≤ gb204))) (am_ ((bz_ hg (mb_ HB.out) : w.heap.size ≤ gb204))))); clear HB; obtain ⟨HB, BK204, GW204, GE204⟩ := z_; clear hb hbox hg; have hcz7_0 : w6.cell? ⟨gb204, 0, none⟩ = some (.slice A0_0 l0_0.length c0_0) := (blk_cell BK204.out 0).trans rfl; have hcz7_1 : w6.cell? ⟨gb204, 1, none⟩ = some (.slice A0_1 l0_1.length c0_1) := (blk_cell BK204.out 1).trans rfl; have hcz7_2 : w6.cell? ⟨gb204, 2, none⟩ = some (.int .i64 a0_2) := (blk_cell BK204.out 2).trans rfl; have hcz7_3 : w6.cell? ⟨gb204, 3, none⟩ = some (.int .i64 a0_3) := (blk_cell BK204.out 3).trans rfl; have hfz7_0 := blk_frozen BK204.out 0; have hfz7_1 := blk_frozen BK204.out 1; have hfz7_2 := blk_frozen BK204.out 2; have hfz7_3 := blk_frozen BK204.out 3) | ((with_reducible refine gate_callee (f := 22) rfl ?_); refine goesL_ (some 11) rfl rfl Tryd.func22 (by kernel_rfl) rfl #[.agg #[.slice A0_0 l0_0.length c0_0, .slice A0_1 l0_1.length c0_1, .int .i64 a0_2, .int .i64 a0_3]] rfl ml_ ?_; (with_reducible refine (culetref49_Valid.calls k _ _ l0_0 _ _ l0_1 a0_2 a0_3 true _ ?side1 ?side2 ?side3 ?side4 A3.out).mono ?_); (case side1 => exact mc_ (Kd.C_below HR0_0.out HB.out)); (case side2 => exact HC0_0.out); (case side3 => exact mc_ (Kd.C_below HR0_1.out HB.out)); (case side4 => exact HC0_1.out); rintro e w8 ⟨rfl, hb⟩; refine ⟨_, rfl, ?_⟩; have z_ := aI (am_ (blk_below (mk_ BK204.out) hb)) (am_ (below_step (mb_ HB.out) hb)); clear BK204 HB; obtain ⟨BK204, HB⟩ := z_; (try clear hb); (try clear hb2); (try clear hk); (try clear hi); have hcz9_0 : w8.cell? ⟨gb204, 0, none⟩ = some (.slice A0_0 l0_0.length c0_0) := (blk_cell BK204.out 0).trans rfl; have hcz9_1 : w8.cell? ⟨gb204, 1, none⟩ = some (.slice A0_1 l0_1.length c0_1) := (blk_cell BK204.out 1).trans rfl; have hcz9_2 : w8.cell? ⟨gb204, 2, none⟩ = some (.int .i64 a0_2) := (blk_cell BK204.out 2).trans rfl; have hcz9_3 : w8.cell? ⟨gb204, 3, none⟩ = some (.int .i64 a0_3) := (blk_cell BK204.out 3).trans rfl; have hfz9_0 := blk_frozen BK204.out 0; have hfz9_1 := blk_frozen BK204.out 1; have hfz9_2 := blk_frozen BK204.out 2; have hfz9_3 := blk_frozen BK204.out 3) | ((with_reducible refine gate_callee (f := 23) rfl ?_); refine goesL_ (some 14) rfl rfl Tryd.func23 (by kernel_rfl) rfl #[.agg #[.slice A0_0 l0_0.length c0_0, .slice A0_1 l0_1.length c0_1, .int .i64 a0_2, .int .i64 a0_3]] rfl ml_ ?_; (with_reducible refine (culetref49_begin.calls _ _ l0_0 _ _ l0_1 a0_2 a0_3 t206 t207 t208 _ ?side1 ?side2 ?side3 ?side4 A5.out).mono ?_); (case side1 => exact mc_ (Kd.C_below HR0_0.out HB.out)); (case side2 => exact HC0_0.out); (case side3 => exact mc_ (Kd.C_below HR0_1.out HB.out)); (case side4 => exact HC0_1.out); rintro e w10 ⟨v209, rfl, ho0, hb⟩; refine ⟨_, rfl, ?_⟩; have z_ := aI (am_ (Kd.R_lower ho0 (below_size (mb_ HB.out)))) (aI (am_ (blk_below (mk_ BK204.out) hb)) (am_ (below_step (mb_ HB.out) hb))); clear BK204 HB; obtain ⟨HO210, BK204, HB⟩ := z_; (try clear hb); (try clear hb2); (try clear hk); (try clear hi); (try clear ho0)) | ((with_reducible refine gate_dst (N := 6) rfl ?_); refine bev (N := 6) (cs := #[.int .i64 0, .bool false, .slice none 0 0]) (t := 66) ?_; intro gb211 hg w11 hbox hb; have z_ := aI (am_ (Kd.R_below (mr_ HO210.out) hb)) (aI (am_ (blk_below (mk_ BK204.out) hb)) (aI (am_ (below_step (mb_ HB.out) hb)) (aI (am_ (hbox)) (aI (am_ ((bz_ hg (mb_ HB.out) : w.heap.size ≤ gb211))) (aI (am_ ((bz_ hg (mb_ HB.out) : w.heap.size ≤ gb211))) (aI (am_ ((nl_ hg (mk_ BK204.out) : gb204 ≠ gb211))) (am_ ((ng_ hg (mk_ BK204.out) : gb211 ≠ gb204))))))))); clear HO210 BK204 HB; obtain ⟨HO210, BK204, HB, BK211, GW211, GE211, NB204_211, NB211_204⟩ := z_; clear hb hbox hg; have hnb12 := NB211_204.out; have hnc12 := NB204_211.out; have hcz13_0 : w11.cell? ⟨gb211, 0, none⟩ = some (.int .i64 0) := (blk_cell BK211.out 0).trans rfl; have hcz13_1 : w11.cell? ⟨gb211, 1, none⟩ = some (.bool false) := (blk_cell BK211.out 1).trans rfl; have hcz13_2 : w11.cell? ⟨gb211, 2, none⟩ = some (.slice none 0 0) := (blk_cell BK211.out 2).trans rfl; have hfz13_0 := blk_frozen BK211.out 0; have hfz13_1 := blk_frozen BK211.out 1; have hfz13_2 := blk_frozen BK211.out 2; obtain ⟨Ao14, co14, eo14⟩ := Kd.R_slice HO210.out; subst eo14))
  go_loopg [7] k (fun kq v7 w' => ∃ (x7_1 : Int) (x212000_1 : Int) (x212001_1 : Bool) (x212002_1 : List Int) (u212002 : Value), v7 = .int .i64 x7_1 ∧ Aside0 (culetref49_Check.l0 kq l1 x7_1 l0_0 l0_1 a0_2 a0_3 x212000_1 x212001_1 x212002_1 = some (r1, r2)) ∧ Aside0 (kq ≤ k) ∧ Aside0 (Kd.R (Kd.int .i64) 3 w' w.heap.size (fun _ => True) u212002 x212002_1) ∧ Aside0 (w'.heap[gb204]? = some (.cells #[(.slice A0_0 l0_0.length c0_0), (.slice A0_1 l0_1.length c0_1), .int .i64 a0_2, .int .i64 a0_3] 25 (0, 0))) ∧ Aside0 (w'.heap[gb211]? = some (.cells #[.int .i64 x212000_1, .bool x212001_1, u212002] 66 (0, 0))) ∧ Aside0 (Below w.heap.size w w'))
  case atStart => exact ⟨(0), (t206), (t207), (t208), (.slice Ao14 t208.length co14), rs_, H', ⟨Nat.le_refl _⟩, ⟨by (with_reducible repeat (first | apply Kd.R_alloc | apply Kd.R_drewN | apply Kd.R_drew)); exact Kd.R_mono (Kd.R_far (p := ⟨gb211, 2, none⟩) (Kd.R_far (p := ⟨gb211, 1, none⟩) (Kd.R_far (p := ⟨gb211, 0, none⟩) (Kd.R_types HO210.out BK211.out (by decide)) (fun _ hk => hk.2) (.int .i64 t206)) (fun _ hk => hk.2) (.bool t207)) (fun _ hk => hk.2) (.slice Ao14 t208.length co14)) (fun _ hk => trivial)⟩, ⟨by (with_reducible repeat (first | refine blk_drewN ?_ _ | refine blk_drew ?_ | refine blk_alloc ?_ _)); refine blk_far ?_ NB204_211.out _; (with_reducible repeat (first | refine blk_drewN ?_ _ | refine blk_drew ?_ | refine blk_alloc ?_ _)); refine blk_far ?_ NB204_211.out _; (with_reducible repeat (first | refine blk_drewN ?_ _ | refine blk_drew ?_ | refine blk_alloc ?_ _)); refine blk_far ?_ NB204_211.out _; (with_reducible repeat (first | refine blk_drewN ?_ _ | refine blk_drew ?_ | refine blk_alloc ?_ _)); exact BK204.out⟩, ⟨by (with_reducible repeat (first | refine blk_drewN ?_ _ | refine blk_drew ?_ | refine blk_alloc ?_ _)); refine blk_put (cs := #[.int .i64 t206, .bool t207, .slice none 0 0]) ?_ 2 _ rfl; (with_reducible repeat (first | refine blk_drewN ?_ _ | refine blk_drew ?_ | refine blk_alloc ?_ _)); refine blk_put (cs := #[.int .i64 t206, .bool false, .slice none 0 0]) ?_ 1 _ rfl; (with_reducible repeat (first | refine blk_drewN ?_ _ | refine blk_drew ?_ | refine blk_alloc ?_ _)); refine blk_put (cs := #[.int .i64 0, .bool false, .slice none 0 0]) ?_ 0 _ rfl; (with_reducible repeat (first | refine blk_drewN ?_ _ | refine blk_drew ?_ | refine blk_alloc ?_ _)); exact BK211.out⟩, ⟨mb_ HB.out⟩⟩
  case round =>
   clear H'
   try clear c1
   try clear c2
   try clear p2
   try clear c4
   try clear c9
   try clear c12
   try clear hcz13_0
   try clear hcz13_1
   try clear hcz13_2
   try clear hcz7_0
   try clear hcz7_1
   try clear hcz7_2
   try clear hcz7_3
   try clear hcz9_0
   try clear hcz9_1
   try clear hcz9_2
   try clear hcz9_3
   try clear hfz13_0
   try clear hfz13_1
   try clear hfz13_2
   try clear hfz7_0
   try clear hfz7_1
   try clear hfz7_2
   try clear hfz7_3
   try clear hfz9_0
   try clear hfz9_1
   try clear hfz9_2
   try clear hfz9_3
   obtain ⟨x7_1, x212000_1, x212001_1, x212002_1, u212002, rfl, HA, HK1, HO_212002, BK204, BK211, HB⟩ := hrel
   cases gk with
   | zero => exact absurd HA.out (by simp [culetref49_Check.l0])
   | succ k1 =>
    have H := HA.out
    clear HA
    simp only [culetref49_Check.l0] at H
    by_cases c15 : x7_1 < (l1.length : Int)
    ·
     rw [if_pos c15] at H
     have c15b0 : decide (x7_1 < (l1.length : Int)) = true := decide_eq_true c15
     clear c15
     by_cases c16 : 0 ≤ x7_1
     ·
      rw [if_pos c16] at H
      have c16b0 : decide (0 ≤ x7_1) = true := decide_eq_true c16
      clear c16
      replace H := Option.bind_eq_some_iff.mp H
      obtain ⟨⟨t213, t214, t215, t218⟩, A170, H⟩ := H
      replace H : (if t218 = true then (culetref49_Check.l0 k1 l1 (wrap64 (x7_1 + 1)) l0_0 l0_1 a0_2 a0_3 t213 t214 t215) else (some (x7_1, 8))) = some (r1, r2) := H
      have A17 := am_ A170
      clear A170
      by_cases c18 : t218 = true
      ·
       subst c18
       have H1 : (culetref49_Check.l0 k1 l1 (wrap64 (x7_1 + 1)) l0_0 l0_1 a0_2 a0_3 t213 t214 t215) = some (r1, r2) := by rw [if_pos rfl] at H; exact H
       clear H
       have H := H1
       clear H1
       have H' := am_ H
       clear H
       obtain ⟨Ao19, co19, eo19⟩ := Kd.R_slice HO_212002.out
       subst eo19
       try go_wp2
       have z_ := aI (am_ (Kd.R_drew HO_212002.out)) (aI (am_ (blk_drew BK204.out)) (aI (am_ (blk_drew BK211.out)) (am_ (below_drew1 HB.out))))
       clear HO_212002 BK204 BK211 HB
       obtain ⟨HO_212002, BK204, BK211, HB⟩ := z_
       have p212 : 0 ≤ (x7_1 : Int) := of_decide_eq_true as_
       have q212 : x7_1 < (l1.length : Int) := of_decide_eq_true as_
       obtain ⟨ad212, e212, hx212_0, hx212_1, hx212_2⟩ := at_T63 HR1.out x7_1 p212 q212
       have hw212_2 := hx212_2
       have hw212_1 := hx212_1
       have hw212_0 := hx212_0
       cases e212
       replace hx212_0 := (HB.out.cell (World.block_lt_of_cell? w _ hx212_0)).trans hx212_0
       replace hx212_1 := (HB.out.cell (World.block_lt_of_cell? w _ hx212_1)).trans hx212_1
       replace hx212_2 := (HB.out.cell (World.block_lt_of_cell? w _ hx212_2)).trans hx212_2
       replace p212 := eq_true p212
       replace q212 := eq_true q212
       refine start_ (n := 13) (S := fun w' => w'.cell? ⟨gb204, 0, none⟩ = some (.slice A0_0 l0_0.length c0_0) ∧ w'.cell? ⟨gb204, 1, none⟩ = some (.slice A0_1 l0_1.length c0_1) ∧ w'.cell? ⟨gb204, 2, none⟩ = some (.int .i64 a0_2) ∧ w'.cell? ⟨gb204, 3, none⟩ = some (.int .i64 a0_3) ∧ w'.cell? ⟨gb211, 0, none⟩ = some (.int .i64 x212000_1) ∧ w'.cell? ⟨gb211, 1, none⟩ = some (.bool x212001_1) ∧ w'.cell? ⟨gb211, 2, none⟩ = some (.slice Ao19 x212002_1.length co19) ∧ w'.cell? (ad212.add ((x7_1).toNat * 3)) = some (.int .i64 ((rd_T63 l1 x7_1).f0)) ∧ w'.cell? ⟨(ad212.add ((x7_1).toNat * 3)).block, (ad212.add ((x7_1).toNat * 3)).off + 1, none⟩ = some (.int .i64 ((rd_T63 l1 x7_1).f1)) ∧ w'.cell? ⟨(ad212.add ((x7_1).toNat * 3)).block, (ad212.add ((x7_1).toNat * 3)).off + 2, none⟩ = some (.int .i64 ((rd_T63 l1 x7_1).f2))) (ds := []) #[false, false, false, false, false, false, false, false, false, false, false, false, false] (by kernel_rfl) rfl rfl ⟨(blk_cell BK204.out 0).trans rfl, (blk_cell BK204.out 1).trans rfl, (blk_cell BK204.out 2).trans rfl, (blk_cell BK204.out 3).trans rfl, (blk_cell BK211.out 0).trans rfl, (blk_cell BK211.out 1).trans rfl, (blk_cell BK211.out 2).trans rfl, ((HB.out.cell (World.block_lt_of_cell? w _ hw212_0)).trans hw212_0), ((HB.out.cell (World.block_lt_of_cell? w _ hw212_1)).trans hw212_1), ((HB.out.cell (World.block_lt_of_cell? w _ hw212_2)).trans hw212_2)⟩ (fun hHeld => ?_); refine with_tabW culetref49_Check.tab7 culetref49_Check.bits7 (fun HT_ HW_ => ?_)
       generalize wr.drew = w20 at HO_212002 BK204 BK211 HB hx212_0 hx212_1 hx212_2 hHeld ⊢
       refine ltd (o := [2, 3, 4, 0, 1, 5]) (n := 0) (m := 13) (by kernel_rfl) ?_
       iterate 6 (first | (refine tne rfl rfl (take_ofW HT_.out HW_.out (by kernel_rfl)) (Or.inl ⟨by rfl, by rintro w' ⟨s0, s1, s2, s3, s4, s5, s6, s7, s8, s9⟩; go_simp; with_reducible rfl⟩) hHeld ?_) | (refine pne rfl rfl (any_of HT_.out (by kernel_rfl)) (Or.inl ⟨by rfl, by intro w'; go_simp; with_reducible rfl⟩) ?_))
       refine join_ (σ := Value × Nat) 2 #[true, true, true, true, true, true, true, true, true, true, true, false, false] (fun s_ => [(28, .tuple #[.agg #[.int .i64 t213, .bool t214, s_.1], .bool true]), (8, .pointer (some ⟨s_.2, 0, none⟩)), (21, .tuple #[.agg #[.int .i64 t213, .bool t214, s_.1], .bool true]), (29, .agg #[.int .i64 t213, .bool t214, s_.1]), (30, .bool true)]) (fun s_ w' => (w'.cell? ⟨gb204, 0, none⟩ = some (.slice A0_0 l0_0.length c0_0) ∧ w'.cell? ⟨gb204, 1, none⟩ = some (.slice A0_1 l0_1.length c0_1) ∧ w'.cell? ⟨gb204, 2, none⟩ = some (.int .i64 a0_2) ∧ w'.cell? ⟨gb204, 3, none⟩ = some (.int .i64 a0_3) ∧ w'.cell? ⟨gb211, 0, none⟩ = some (.int .i64 x212000_1) ∧ w'.cell? ⟨gb211, 1, none⟩ = some (.bool x212001_1) ∧ w'.cell? ⟨gb211, 2, none⟩ = some (.slice Ao19 x212002_1.length co19) ∧ w'.cell? (ad212.add ((x7_1).toNat * 3)) = some (.int .i64 ((rd_T63 l1 x7_1).f0)) ∧ w'.cell? ⟨(ad212.add ((x7_1).toNat * 3)).block, (ad212.add ((x7_1).toNat * 3)).off + 1, none⟩ = some (.int .i64 ((rd_T63 l1 x7_1).f1)) ∧ w'.cell? ⟨(ad212.add ((x7_1).toNat * 3)).block, (ad212.add ((x7_1).toNat * 3)).off + 2, none⟩ = some (.int .i64 ((rd_T63 l1 x7_1).f2))) ∧ (Kd.R (Kd.int .i64) 3 w' w.heap.size (fun _ => True) s_.1 t215) ∧ (w'.heap[gb204]? = some (.cells #[.slice A0_0 l0_0.length c0_0, .slice A0_1 l0_1.length c0_1, .int .i64 a0_2, .int .i64 a0_3] 25 (0, 0))) ∧ (w'.heap[gb211]? = some (.cells #[.int .i64 x212000_1, .bool x212001_1, .slice Ao19 x212002_1.length co19] 66 (0, 0))) ∧ (w'.heap[s_.2]? = some (.cells #[.int .i64 0, .bool false, .slice none 0 0] 66 (0, 0))) ∧ (w.heap.size ≤ s_.2) ∧ (w.heap.size ≤ s_.2) ∧ (gb204 ≠ s_.2) ∧ (s_.2 ≠ gb204) ∧ (gb211 ≠ s_.2) ∧ (s_.2 ≠ gb211) ∧ (Below w.heap.size w w')) ?_ ?_
       rotate_left
       ·
        intro hCont
        refine two_ (i := 6) (j := 10) (Ni := some 28) (Nj := some 8) #[true, true, true, true, true, true, true, false, false, false, false, false, false] #[true, true, true, true, true, true, false, false, false, false, true, false, false] rfl rfl rfl rfl (two_of HT_.out (by kernel_rfl)) (by decide) (by decide) (fun K hK => ?_) (fun K hK => ?_)
        ·
         skip
         refine goes_ Tryd.func24 (by kernel_rfl) rfl #[.agg #[.slice A0_0 l0_0.length c0_0, .slice A0_1 l0_1.length c0_1, .int .i64 a0_2, .int .i64 a0_3], .agg #[.int .i64 x212000_1, .bool x212001_1, .slice Ao19 x212002_1.length co19], .agg #[.int .i64 ((rd_T63 l1 x7_1).f0), .int .i64 ((rd_T63 l1 x7_1).f1), .int .i64 ((rd_T63 l1 x7_1).f2)]] (by rfl) rfl rfl ml_ ?_
         with_reducible refine (culetref49_next.calls k1 _ _ l0_0 _ _ l0_1 a0_2 a0_3 x212000_1 x212001_1 (fun k_ => some k_ = (.slice Ao19 x212002_1.length co19 : Value).ownBlock) (.slice Ao19 x212002_1.length co19) x212002_1 ((rd_T63 l1 x7_1).f0) ((rd_T63 l1 x7_1).f1) ((rd_T63 l1 x7_1).f2) t213 t214 t215 true w _ ?side1 ?side2 ?side3 ?side4 ?side5 ?side6 A17.out).mono ?_
         (case side1 => repeat (first | (with_reducible first | exact HB.out | apply below_alloc | apply pw_below_drewN | apply below_drew1 | refine below_set ?_ GE204.out | refine below_set ?_ GE211.out) | exact HB.out))
         (case side2 => exact Kd.C_kept_came k55_heap HR0_0.out (mb_ HB.out) (fun k_ hs_ => (fun e_ => Kd.R_base HO_212002.out k_ e_.symm) hs_))
         (case side3 => exact HC0_0.out)
         (case side4 => exact Kd.C_kept_came k56_heap HR0_1.out (mb_ HB.out) (fun k_ hs_ => (fun e_ => Kd.R_base HO_212002.out k_ e_.symm) hs_))
         (case side5 => exact HC0_1.out)
         (case side6 => exact Kd.R_tight rfl HO_212002.out)
         rintro e w21 ⟨v216, rfl, ho0, hb, hkp⟩
         refine ⟨_, rfl, ?_⟩
         have z_ := aI (am_ (blk_kept (mk_ BK204.out) hkp (fun hs_ => (fun e_ => (Kd.R_ne HO_212002.out BK204.out (by decide)) e_) hs_))) (aI (am_ (blk_kept (mk_ BK211.out) hkp (fun hs_ => (fun e_ => (Kd.R_ne HO_212002.out BK211.out (by decide)) e_) hs_))) (aI (am_ (Kd.R_mono (ok' := fun k_ => True) ho0 (fun k_ hk_ => trivial))) (am_ (hb))))
         clear BK204 BK211 HB HO_212002
         obtain ⟨BK204, BK211, HO217, HB⟩ := z_
         (try clear hb)
         (try clear hkp)
         (try clear ho0)
         refine hK.out _ _ ⟨(blk_cell BK204.out 0).trans rfl, (blk_cell BK204.out 1).trans rfl, (blk_cell BK204.out 2).trans rfl, (blk_cell BK204.out 3).trans rfl, (blk_cell BK211.out 0).trans rfl, (blk_cell BK211.out 1).trans rfl, (blk_cell BK211.out 2).trans rfl, ((HB.out.cell (World.block_lt_of_cell? w _ hw212_0)).trans hw212_0), ((HB.out.cell (World.block_lt_of_cell? w _ hw212_1)).trans hw212_1), ((HB.out.cell (World.block_lt_of_cell? w _ hw212_2)).trans hw212_2)⟩ (fun hHeld => ?_)
         clear hK K
         refine norm_ (a' := ?_) ?_ ?_
         rotate_left
         ·
          show Act.put _ (some 28) _ = _
          simp only [Act.put, List.setIfInBounds_toArray, List.set_cons_zero, List.set_cons_succ, i64_w, i32_w]
          rfl
         refine ltd (o := [0, 1, 2, 3, 4, 5, 6, 7, 8, 9]) (n := 7) (m := 13) (by kernel_rfl) ?_
         iterate 3 (first | (refine pne rfl rfl (any_of HT_.out (by kernel_rfl)) (Or.inl ⟨by rfl, by intro w'; go_simp; with_reducible rfl⟩) ?_))
         refine one_ (i := 10) (N := some 8) #[true, true, true, true, true, true, true, true, true, true, true, false, false] rfl rfl (one_of HT_.out (by kernel_rfl)) (by decide) (fun K hK => ?_)
         refine bst (N := 8) (cs := #[.int .i64 0, .bool false, .slice none 0 0]) (t := 66) ?_
         intro gb219 hg w22 hbox hb
         have z_ := aI (am_ (Kd.R_below (mr_ HO217.out) hb)) (aI (am_ (blk_below (mk_ BK204.out) hb)) (aI (am_ (blk_below (mk_ BK211.out) hb)) (aI (am_ (below_step (mb_ HB.out) hb)) (aI (am_ (hbox)) (aI (am_ ((bz_ hg (mb_ HB.out) : w.heap.size ≤ gb219))) (aI (am_ ((bz_ hg (mb_ HB.out) : w.heap.size ≤ gb219))) (aI (am_ ((nl_ hg (mk_ BK204.out) : gb204 ≠ gb219))) (aI (am_ ((ng_ hg (mk_ BK204.out) : gb219 ≠ gb204))) (aI (am_ ((nl_ hg (mk_ BK211.out) : gb211 ≠ gb219))) (am_ ((ng_ hg (mk_ BK211.out) : gb219 ≠ gb211))))))))))))
         clear HO217 BK204 BK211 HB
         obtain ⟨HO217, BK204, BK211, HB, BK219, GW219, GE219, NB204_219, NB219_204, NB211_219, NB219_211⟩ := z_
         clear hb hbox hg
         refine hK.out _ _ ⟨(blk_cell BK204.out 0).trans rfl, (blk_cell BK204.out 1).trans rfl, (blk_cell BK204.out 2).trans rfl, (blk_cell BK204.out 3).trans rfl, (blk_cell BK211.out 0).trans rfl, (blk_cell BK211.out 1).trans rfl, (blk_cell BK211.out 2).trans rfl, ((HB.out.cell (World.block_lt_of_cell? w _ hw212_0)).trans hw212_0), ((HB.out.cell (World.block_lt_of_cell? w _ hw212_1)).trans hw212_1), ((HB.out.cell (World.block_lt_of_cell? w _ hw212_2)).trans hw212_2)⟩ (fun hHeld => ?_)
         clear hK K
         refine norm_ (a' := ?_) ?_ ?_
         rotate_left
         ·
          show Act.put _ (some 8) _ = _
          simp only [Act.put, List.setIfInBounds_toArray, List.set_cons_zero, List.set_cons_succ, i64_w, i32_w]
          rfl
         exact norm_ (by simp only [putAll, Act.put, List.setIfInBounds_toArray, List.set_cons_zero, List.set_cons_succ]) (hCont (v216, gb219) _ ⟨hHeld, (mr_ HO217.out), (mk_ BK204.out), (mk_ BK211.out), (mk_ BK219.out), GW219.out, GE219.out, NB204_219.out, NB219_204.out, NB211_219.out, NB219_211.out, (mb_ HB.out)⟩)
        ·
         skip
         refine bst (N := 8) (cs := #[.int .i64 0, .bool false, .slice none 0 0]) (t := 66) ?_
         intro gb219 hg w21 hbox hb
         have z_ := aI (am_ (Kd.R_below (mr_ HO_212002.out) hb)) (aI (am_ (blk_below (mk_ BK204.out) hb)) (aI (am_ (blk_below (mk_ BK211.out) hb)) (aI (am_ (below_step (mb_ HB.out) hb)) (aI (am_ (hbox)) (aI (am_ ((bz_ hg (mb_ HB.out) : w.heap.size ≤ gb219))) (aI (am_ ((bz_ hg (mb_ HB.out) : w.heap.size ≤ gb219))) (aI (am_ ((nl_ hg (mk_ BK204.out) : gb204 ≠ gb219))) (aI (am_ ((ng_ hg (mk_ BK204.out) : gb219 ≠ gb204))) (aI (am_ ((nl_ hg (mk_ BK211.out) : gb211 ≠ gb219))) (am_ ((ng_ hg (mk_ BK211.out) : gb219 ≠ gb211))))))))))))
         clear HO_212002 BK204 BK211 HB
         obtain ⟨HO_212002, BK204, BK211, HB, BK219, GW219, GE219, NB204_219, NB219_204, NB211_219, NB219_211⟩ := z_
         clear hb hbox hg
         refine hK.out _ _ ⟨(blk_cell BK204.out 0).trans rfl, (blk_cell BK204.out 1).trans rfl, (blk_cell BK204.out 2).trans rfl, (blk_cell BK204.out 3).trans rfl, (blk_cell BK211.out 0).trans rfl, (blk_cell BK211.out 1).trans rfl, (blk_cell BK211.out 2).trans rfl, ((HB.out.cell (World.block_lt_of_cell? w _ hw212_0)).trans hw212_0), ((HB.out.cell (World.block_lt_of_cell? w _ hw212_1)).trans hw212_1), ((HB.out.cell (World.block_lt_of_cell? w _ hw212_2)).trans hw212_2)⟩ (fun hHeld => ?_)
         clear hK K
         refine norm_ (a' := ?_) ?_ ?_
         rotate_left
         ·
          show Act.put _ (some 8) _ = _
          simp only [Act.put, List.setIfInBounds_toArray, List.set_cons_zero, List.set_cons_succ, i64_w, i32_w]
          rfl
         refine one_ (i := 6) (N := some 28) #[true, true, true, true, true, true, true, false, false, false, true, false, false] rfl rfl (one_of HT_.out (by kernel_rfl)) (by decide) (fun K hK => ?_)
         refine goes_ Tryd.func24 (by kernel_rfl) rfl #[.agg #[.slice A0_0 l0_0.length c0_0, .slice A0_1 l0_1.length c0_1, .int .i64 a0_2, .int .i64 a0_3], .agg #[.int .i64 x212000_1, .bool x212001_1, .slice Ao19 x212002_1.length co19], .agg #[.int .i64 ((rd_T63 l1 x7_1).f0), .int .i64 ((rd_T63 l1 x7_1).f1), .int .i64 ((rd_T63 l1 x7_1).f2)]] (by rfl) rfl rfl ml_ ?_
         with_reducible refine (culetref49_next.calls k1 _ _ l0_0 _ _ l0_1 a0_2 a0_3 x212000_1 x212001_1 (fun k_ => some k_ = (.slice Ao19 x212002_1.length co19 : Value).ownBlock) (.slice Ao19 x212002_1.length co19) x212002_1 ((rd_T63 l1 x7_1).f0) ((rd_T63 l1 x7_1).f1) ((rd_T63 l1 x7_1).f2) t213 t214 t215 true w _ ?side1 ?side2 ?side3 ?side4 ?side5 ?side6 A17.out).mono ?_
         (case side1 => repeat (first | (with_reducible first | exact HB.out | apply below_alloc | apply pw_below_drewN | apply below_drew1 | refine below_set ?_ GE204.out | refine below_set ?_ GE211.out | refine below_set ?_ GE219.out) | exact HB.out))
         (case side2 => exact Kd.C_kept_came k55_heap HR0_0.out (mb_ HB.out) (fun k_ hs_ => (fun e_ => Kd.R_base HO_212002.out k_ e_.symm) hs_))
         (case side3 => exact HC0_0.out)
         (case side4 => exact Kd.C_kept_came k56_heap HR0_1.out (mb_ HB.out) (fun k_ hs_ => (fun e_ => Kd.R_base HO_212002.out k_ e_.symm) hs_))
         (case side5 => exact HC0_1.out)
         (case side6 => exact Kd.R_tight rfl HO_212002.out)
         rintro e w22 ⟨v216, rfl, ho0, hb, hkp⟩
         refine ⟨_, rfl, ?_⟩
         have z_ := aI (am_ (blk_kept (mk_ BK204.out) hkp (fun hs_ => (fun e_ => (Kd.R_ne HO_212002.out BK204.out (by decide)) e_) hs_))) (aI (am_ (blk_kept (mk_ BK211.out) hkp (fun hs_ => (fun e_ => (Kd.R_ne HO_212002.out BK211.out (by decide)) e_) hs_))) (aI (am_ (blk_kept (mk_ BK219.out) hkp (fun hs_ => (fun e_ => (Kd.R_ne HO_212002.out BK219.out (by decide)) e_) hs_))) (aI (am_ (Kd.R_mono (ok' := fun k_ => True) ho0 (fun k_ hk_ => trivial))) (am_ (hb)))))
         clear BK204 BK211 BK219 HB HO_212002
         obtain ⟨BK204, BK211, BK219, HO217, HB⟩ := z_
         (try clear hb)
         (try clear hkp)
         (try clear ho0)
         refine hK.out _ _ ⟨(blk_cell BK204.out 0).trans rfl, (blk_cell BK204.out 1).trans rfl, (blk_cell BK204.out 2).trans rfl, (blk_cell BK204.out 3).trans rfl, (blk_cell BK211.out 0).trans rfl, (blk_cell BK211.out 1).trans rfl, (blk_cell BK211.out 2).trans rfl, ((HB.out.cell (World.block_lt_of_cell? w _ hw212_0)).trans hw212_0), ((HB.out.cell (World.block_lt_of_cell? w _ hw212_1)).trans hw212_1), ((HB.out.cell (World.block_lt_of_cell? w _ hw212_2)).trans hw212_2)⟩ (fun hHeld => ?_)
         clear hK K
         refine norm_ (a' := ?_) ?_ ?_
         rotate_left
         ·
          show Act.put _ (some 28) _ = _
          simp only [Act.put, List.setIfInBounds_toArray, List.set_cons_zero, List.set_cons_succ, i64_w, i32_w]
          rfl
         refine ltd (o := [0, 1, 2, 3, 4, 5, 6, 10, 7, 8, 9]) (n := 8) (m := 13) (by kernel_rfl) ?_
         iterate 3 (first | (refine pne rfl rfl (any_of HT_.out (by kernel_rfl)) (Or.inl ⟨by rfl, by intro w'; go_simp; with_reducible rfl⟩) ?_))
         exact norm_ (by simp only [putAll, Act.put, List.setIfInBounds_toArray, List.set_cons_zero, List.set_cons_succ]) (hCont (v216, gb219) _ ⟨hHeld, (mr_ HO217.out), (mk_ BK204.out), (mk_ BK211.out), (mk_ BK219.out), GW219.out, GE219.out, NB204_219.out, NB219_204.out, NB211_219.out, NB219_211.out, (mb_ HB.out)⟩)
       rintro ⟨v216, gb219⟩ w23 ⟨hS_, h0_, h1_, h2_, h3_, h4_, h5_, h6_, h7_, h8_, h9_, h10_⟩
       have n0_ : Aside0 (Kd.R (Kd.int .i64) 3 w23 w.heap.size (fun _ => True) v216 t215) := ⟨h0_⟩
       have n1_ : Aside0 (w23.heap[gb204]? = some (.cells #[.slice A0_0 l0_0.length c0_0, .slice A0_1 l0_1.length c0_1, .int .i64 a0_2, .int .i64 a0_3] 25 (0, 0))) := ⟨h1_⟩
       have n2_ : Aside0 (w23.heap[gb211]? = some (.cells #[.int .i64 x212000_1, .bool x212001_1, .slice Ao19 x212002_1.length co19] 66 (0, 0))) := ⟨h2_⟩
       have n3_ : Aside0 (w23.heap[gb219]? = some (.cells #[.int .i64 0, .bool false, .slice none 0 0] 66 (0, 0))) := ⟨h3_⟩
       have n4_ : Aside0 (w.heap.size ≤ gb219) := ⟨h4_⟩
       have n5_ : Aside0 (w.heap.size ≤ gb219) := ⟨h5_⟩
       have n6_ : Aside0 (gb204 ≠ gb219) := ⟨h6_⟩
       have n7_ : Aside0 (gb219 ≠ gb204) := ⟨h7_⟩
       have n8_ : Aside0 (gb211 ≠ gb219) := ⟨h8_⟩
       have n9_ : Aside0 (gb219 ≠ gb211) := ⟨h9_⟩
       have n10_ : Aside0 (Below w.heap.size w w23) := ⟨h10_⟩
       clear HO_212002 BK204 BK211 HB
       clear h0_ h1_ h2_ h3_ h4_ h5_ h6_ h7_ h8_ h9_ h10_
       have HO217 := n0_
       have BK204 := n1_
       have BK211 := n2_
       have BK219 := n3_
       have GW219 := n4_
       have GE219 := n5_
       have NB204_219 := n6_
       have NB219_204 := n7_
       have NB211_219 := n8_
       have NB219_211 := n9_
       have HB := n10_
       clear n0_ n1_ n2_ n3_ n4_ n5_ n6_ n7_ n8_ n9_ n10_
       have hHeld : w23.cell? ⟨gb204, 0, none⟩ = some (.slice A0_0 l0_0.length c0_0) ∧ w23.cell? ⟨gb204, 1, none⟩ = some (.slice A0_1 l0_1.length c0_1) ∧ w23.cell? ⟨gb204, 2, none⟩ = some (.int .i64 a0_2) ∧ w23.cell? ⟨gb204, 3, none⟩ = some (.int .i64 a0_3) ∧ w23.cell? ⟨gb211, 0, none⟩ = some (.int .i64 x212000_1) ∧ w23.cell? ⟨gb211, 1, none⟩ = some (.bool x212001_1) ∧ w23.cell? ⟨gb211, 2, none⟩ = some (.slice Ao19 x212002_1.length co19) ∧ w23.cell? (ad212.add ((x7_1).toNat * 3)) = some (.int .i64 ((rd_T63 l1 x7_1).f0)) ∧ w23.cell? ⟨(ad212.add ((x7_1).toNat * 3)).block, (ad212.add ((x7_1).toNat * 3)).off + 1, none⟩ = some (.int .i64 ((rd_T63 l1 x7_1).f1)) ∧ w23.cell? ⟨(ad212.add ((x7_1).toNat * 3)).block, (ad212.add ((x7_1).toNat * 3)).off + 2, none⟩ = some (.int .i64 ((rd_T63 l1 x7_1).f2)) := hS_
       obtain ⟨Ao26, co26, eo26⟩ := Kd.R_slice HO217.out
       (first | subst eo26 | (injection eo26 with f1_ f2_ f3_; have f4_ := f1_.symm; have f5_ := f3_.symm; clear f1_ f2_ f3_; subst f4_; subst f5_))
       refine norm_ (a' := ?_) ?_ ?_
       rotate_left
       ·
        simp only [putAll, Act.put, List.setIfInBounds_toArray, List.set_cons_zero, List.set_cons_succ]
        rfl
       refine one_ (i := 11) (N := none) #[true, true, true, true, true, true, true, true, true, true, true, true, false] rfl rfl (one_of HT_.out (by kernel_rfl)) (by decide) (fun K hK => ?_)
       have hs24 : w23.cell? ⟨gb219, 0, none⟩ = some (.int .i64 0) := (blk_cell BK219.out 0).trans rfl
       have hfs24 := blk_frozen BK219.out 0
       have hns24_0 := NB204_219.out
       have hns24_1 := NB211_219.out
       have hms24_0 := NB219_204.out
       have hms24_1 := NB219_211.out
       have hs25 : w23.cell? ⟨gb219, 1, none⟩ = some (.bool false) := (blk_cell BK219.out 1).trans rfl
       have hfs25 := blk_frozen BK219.out 1
       have hns25_0 := NB204_219.out
       have hns25_1 := NB211_219.out
       have hms25_0 := NB219_204.out
       have hms25_1 := NB219_211.out
       have hs27 : w23.cell? ⟨gb219, 2, none⟩ = some (.slice none 0 0) := (blk_cell BK219.out 2).trans rfl
       have hfs27 := blk_frozen BK219.out 2
       have hns27_0 := NB204_219.out
       have hns27_1 := NB211_219.out
       have hms27_0 := NB219_204.out
       have hms27_1 := NB219_211.out
       refine skip_ (w1 := ?_) (by rfl) rfl ?_ ?_
       rotate_left
       ·
        go_simp
        rfl
       refine hK.out _ _ ⟨((cell_far (p := ⟨gb219, _, none⟩) NB204_219.out _).trans (((cell_far (p := ⟨gb219, _, none⟩) NB204_219.out _).trans (((cell_far (p := ⟨gb219, _, none⟩) NB204_219.out _).trans (hHeld.1)))))), ((cell_far (p := ⟨gb219, _, none⟩) NB204_219.out _).trans (((cell_far (p := ⟨gb219, _, none⟩) NB204_219.out _).trans (((cell_far (p := ⟨gb219, _, none⟩) NB204_219.out _).trans (hHeld.2.1)))))), ((cell_far (p := ⟨gb219, _, none⟩) NB204_219.out _).trans (((cell_far (p := ⟨gb219, _, none⟩) NB204_219.out _).trans (((cell_far (p := ⟨gb219, _, none⟩) NB204_219.out _).trans (hHeld.2.2.1)))))), ((cell_far (p := ⟨gb219, _, none⟩) NB204_219.out _).trans (((cell_far (p := ⟨gb219, _, none⟩) NB204_219.out _).trans (((cell_far (p := ⟨gb219, _, none⟩) NB204_219.out _).trans (hHeld.2.2.2.1)))))), ((cell_far (p := ⟨gb219, _, none⟩) NB211_219.out _).trans (((cell_far (p := ⟨gb219, _, none⟩) NB211_219.out _).trans (((cell_far (p := ⟨gb219, _, none⟩) NB211_219.out _).trans (hHeld.2.2.2.2.1)))))), ((cell_far (p := ⟨gb219, _, none⟩) NB211_219.out _).trans (((cell_far (p := ⟨gb219, _, none⟩) NB211_219.out _).trans (((cell_far (p := ⟨gb219, _, none⟩) NB211_219.out _).trans (hHeld.2.2.2.2.2.1)))))), ((cell_far (p := ⟨gb219, _, none⟩) NB211_219.out _).trans (((cell_far (p := ⟨gb219, _, none⟩) NB211_219.out _).trans (((cell_far (p := ⟨gb219, _, none⟩) NB211_219.out _).trans (hHeld.2.2.2.2.2.2.1)))))), ((cell_far (p := ⟨gb219, _, none⟩) (mw_ hw212_0 GW219.out) _).trans (((cell_far (p := ⟨gb219, _, none⟩) (mw_ hw212_0 GW219.out) _).trans (((cell_far (p := ⟨gb219, _, none⟩) (mw_ hw212_0 GW219.out) _).trans (hHeld.2.2.2.2.2.2.2.1)))))), ((cell_far (p := ⟨gb219, _, none⟩) (mw_ hw212_1 GW219.out) _).trans (((cell_far (p := ⟨gb219, _, none⟩) (mw_ hw212_1 GW219.out) _).trans (((cell_far (p := ⟨gb219, _, none⟩) (mw_ hw212_1 GW219.out) _).trans (hHeld.2.2.2.2.2.2.2.2.1)))))), ((cell_far (p := ⟨gb219, _, none⟩) (mw_ hw212_2 GW219.out) _).trans (((cell_far (p := ⟨gb219, _, none⟩) (mw_ hw212_2 GW219.out) _).trans (((cell_far (p := ⟨gb219, _, none⟩) (mw_ hw212_2 GW219.out) _).trans (hHeld.2.2.2.2.2.2.2.2.2))))))⟩ (fun hHeld => ?_)
       clear hK K
       refine pure_ (i := 12) (N := some 9) (v := ?_) (a' := ?_) #[true, true, true, true, true, true, true, true, true, true, true, true, true] rfl rfl (any_of HT_.out (by kernel_rfl)) (fun _ _ _ h => h) (Or.inl ⟨by rfl, ?_⟩) ?_ ?_
       rotate_left
       ·
        intro w'
        go_simp
        with_reducible rfl
       rotate_left
       ·
        simp only [Act.put, List.setIfInBounds_toArray, List.set_cons_zero, List.set_cons_succ, i64_w, i32_w]
        rfl
       refine done_ (done_of HT_.out (by kernel_rfl)) ?_
       have hnb28 := NB219_204.out
       have hnc28 := NB204_219.out
       have hnb29 := NB219_211.out
       have hnc29 := NB211_219.out
       have hcz30_0 : w23.cell? ⟨gb219, 0, none⟩ = some (.int .i64 0) := (blk_cell BK219.out 0).trans rfl
       have hcz30_1 : w23.cell? ⟨gb219, 1, none⟩ = some (.bool false) := (blk_cell BK219.out 1).trans rfl
       have hcz30_2 : w23.cell? ⟨gb219, 2, none⟩ = some (.slice none 0 0) := (blk_cell BK219.out 2).trans rfl
       have hfz30_0 := blk_frozen BK219.out 0
       have hfz30_1 := blk_frozen BK219.out 1
       have hfz30_2 := blk_frozen BK219.out 2
       have hnb31 := NB211_204.out
       have hnc31 := NB204_211.out
       have hcz32_0 : w23.cell? ⟨gb211, 0, none⟩ = some (.int .i64 x212000_1) := (blk_cell BK211.out 0).trans rfl
       have hcz32_1 : w23.cell? ⟨gb211, 1, none⟩ = some (.bool x212001_1) := (blk_cell BK211.out 1).trans rfl
       have hcz32_2 : w23.cell? ⟨gb211, 2, none⟩ = some (.slice Ao19 x212002_1.length co19) := (blk_cell BK211.out 2).trans rfl
       have hfz32_0 := blk_frozen BK211.out 0
       have hfz32_1 := blk_frozen BK211.out 1
       have hfz32_2 := blk_frozen BK211.out 2
       try go_wp2
       go_roundg k1
       case measure => have := HK1.out; omega
       case rel => exact ⟨(wrap64 (x7_1 + 1)), (t213), (t214), (t215), (.slice Ao26 t215.length co26), rs_, H', ⟨by have := HK1.out; omega⟩, ⟨by (with_reducible repeat (first | apply Kd.R_alloc | apply Kd.R_drewN | apply Kd.R_drew)); exact Kd.R_mono (Kd.R_far (p := ⟨gb211, 2, none⟩) (Kd.R_far (p := ⟨gb211, 1, none⟩) (Kd.R_far (p := ⟨gb211, 0, none⟩) (Kd.R_far (p := ⟨gb219, 2, none⟩) (Kd.R_far (p := ⟨gb219, 1, none⟩) (Kd.R_far (p := ⟨gb219, 0, none⟩) (Kd.R_types (Kd.R_types HO217.out BK219.out (by decide)) BK211.out (by decide)) (fun _ hk => hk.1.2) (.int .i64 t213)) (fun _ hk => hk.1.2) (.bool t214)) (fun _ hk => hk.1.2) (.slice Ao26 t215.length co26)) (fun _ hk => hk.2) (.int .i64 t213)) (fun _ hk => hk.2) (.bool t214)) (fun _ hk => hk.2) (.slice Ao26 t215.length co26)) (fun _ hk => trivial)⟩, ⟨by (with_reducible repeat (first | refine blk_drewN ?_ _ | refine blk_drew ?_ | refine blk_alloc ?_ _)); refine blk_far ?_ NB204_211.out _; (with_reducible repeat (first | refine blk_drewN ?_ _ | refine blk_drew ?_ | refine blk_alloc ?_ _)); refine blk_far ?_ NB204_211.out _; (with_reducible repeat (first | refine blk_drewN ?_ _ | refine blk_drew ?_ | refine blk_alloc ?_ _)); refine blk_far ?_ NB204_211.out _; (with_reducible repeat (first | refine blk_drewN ?_ _ | refine blk_drew ?_ | refine blk_alloc ?_ _)); refine blk_far ?_ NB204_219.out _; (with_reducible repeat (first | refine blk_drewN ?_ _ | refine blk_drew ?_ | refine blk_alloc ?_ _)); refine blk_far ?_ NB204_219.out _; (with_reducible repeat (first | refine blk_drewN ?_ _ | refine blk_drew ?_ | refine blk_alloc ?_ _)); refine blk_far ?_ NB204_219.out _; (with_reducible repeat (first | refine blk_drewN ?_ _ | refine blk_drew ?_ | refine blk_alloc ?_ _)); exact BK204.out⟩, ⟨by (with_reducible repeat (first | refine blk_drewN ?_ _ | refine blk_drew ?_ | refine blk_alloc ?_ _)); refine blk_put (cs := #[.int .i64 t213, .bool t214, .slice Ao19 x212002_1.length co19]) ?_ 2 _ rfl; (with_reducible repeat (first | refine blk_drewN ?_ _ | refine blk_drew ?_ | refine blk_alloc ?_ _)); refine blk_put (cs := #[.int .i64 t213, .bool x212001_1, .slice Ao19 x212002_1.length co19]) ?_ 1 _ rfl; (with_reducible repeat (first | refine blk_drewN ?_ _ | refine blk_drew ?_ | refine blk_alloc ?_ _)); refine blk_put (cs := #[.int .i64 x212000_1, .bool x212001_1, .slice Ao19 x212002_1.length co19]) ?_ 0 _ rfl; (with_reducible repeat (first | refine blk_drewN ?_ _ | refine blk_drew ?_ | refine blk_alloc ?_ _)); refine blk_far ?_ NB211_219.out _; (with_reducible repeat (first | refine blk_drewN ?_ _ | refine blk_drew ?_ | refine blk_alloc ?_ _)); refine blk_far ?_ NB211_219.out _; (with_reducible repeat (first | refine blk_drewN ?_ _ | refine blk_drew ?_ | refine blk_alloc ?_ _)); refine blk_far ?_ NB211_219.out _; (with_reducible repeat (first | refine blk_drewN ?_ _ | refine blk_drew ?_ | refine blk_alloc ?_ _)); exact BK211.out⟩, ⟨mb_ HB.out⟩⟩
      ·
       replace c18 := Bool.eq_false_iff.mpr c18
       subst c18
       have H1 : (some (x7_1, 8)) = some (r1, r2) := by rw [if_neg (show ¬ (false = true) by decide)] at H; exact H
       clear H
       have H := H1
       clear H1
       simp only [Option.some.injEq, Prod.mk.injEq] at H
       obtain ⟨rfl, rfl⟩ := H
       obtain ⟨Ao33, co33, eo33⟩ := Kd.R_slice HO_212002.out
       subst eo33
       try go_wp2
       have z_ := aI (am_ (Kd.R_drew HO_212002.out)) (aI (am_ (blk_drew BK204.out)) (aI (am_ (blk_drew BK211.out)) (am_ (below_drew1 HB.out))))
       clear HO_212002 BK204 BK211 HB
       obtain ⟨HO_212002, BK204, BK211, HB⟩ := z_
       have p212 : 0 ≤ (x7_1 : Int) := of_decide_eq_true as_
       have q212 : x7_1 < (l1.length : Int) := of_decide_eq_true as_
       obtain ⟨ad212, e212, hx212_0, hx212_1, hx212_2⟩ := at_T63 HR1.out x7_1 p212 q212
       have hw212_2 := hx212_2
       have hw212_1 := hx212_1
       have hw212_0 := hx212_0
       cases e212
       replace hx212_0 := (HB.out.cell (World.block_lt_of_cell? w _ hx212_0)).trans hx212_0
       replace hx212_1 := (HB.out.cell (World.block_lt_of_cell? w _ hx212_1)).trans hx212_1
       replace hx212_2 := (HB.out.cell (World.block_lt_of_cell? w _ hx212_2)).trans hx212_2
       replace p212 := eq_true p212
       replace q212 := eq_true q212
       refine start_ (n := 13) (S := fun w' => w'.cell? ⟨gb204, 0, none⟩ = some (.slice A0_0 l0_0.length c0_0) ∧ w'.cell? ⟨gb204, 1, none⟩ = some (.slice A0_1 l0_1.length c0_1) ∧ w'.cell? ⟨gb204, 2, none⟩ = some (.int .i64 a0_2) ∧ w'.cell? ⟨gb204, 3, none⟩ = some (.int .i64 a0_3) ∧ w'.cell? ⟨gb211, 0, none⟩ = some (.int .i64 x212000_1) ∧ w'.cell? ⟨gb211, 1, none⟩ = some (.bool x212001_1) ∧ w'.cell? ⟨gb211, 2, none⟩ = some (.slice Ao33 x212002_1.length co33) ∧ w'.cell? (ad212.add ((x7_1).toNat * 3)) = some (.int .i64 ((rd_T63 l1 x7_1).f0)) ∧ w'.cell? ⟨(ad212.add ((x7_1).toNat * 3)).block, (ad212.add ((x7_1).toNat * 3)).off + 1, none⟩ = some (.int .i64 ((rd_T63 l1 x7_1).f1)) ∧ w'.cell? ⟨(ad212.add ((x7_1).toNat * 3)).block, (ad212.add ((x7_1).toNat * 3)).off + 2, none⟩ = some (.int .i64 ((rd_T63 l1 x7_1).f2))) (ds := []) #[false, false, false, false, false, false, false, false, false, false, false, false, false] (by kernel_rfl) rfl rfl ⟨(blk_cell BK204.out 0).trans rfl, (blk_cell BK204.out 1).trans rfl, (blk_cell BK204.out 2).trans rfl, (blk_cell BK204.out 3).trans rfl, (blk_cell BK211.out 0).trans rfl, (blk_cell BK211.out 1).trans rfl, (blk_cell BK211.out 2).trans rfl, ((HB.out.cell (World.block_lt_of_cell? w _ hw212_0)).trans hw212_0), ((HB.out.cell (World.block_lt_of_cell? w _ hw212_1)).trans hw212_1), ((HB.out.cell (World.block_lt_of_cell? w _ hw212_2)).trans hw212_2)⟩ (fun hHeld => ?_); refine with_tabW culetref49_Check.tab7 culetref49_Check.bits7 (fun HT_ HW_ => ?_)
       generalize wr.drew = w34 at HO_212002 BK204 BK211 HB hx212_0 hx212_1 hx212_2 hHeld ⊢
       refine ltd (o := [2, 3, 4, 0, 1, 5]) (n := 0) (m := 13) (by kernel_rfl) ?_
       iterate 6 (first | (refine tne rfl rfl (take_ofW HT_.out HW_.out (by kernel_rfl)) (Or.inl ⟨by rfl, by rintro w' ⟨s0, s1, s2, s3, s4, s5, s6, s7, s8, s9⟩; go_simp; with_reducible rfl⟩) hHeld ?_) | (refine pne rfl rfl (any_of HT_.out (by kernel_rfl)) (Or.inl ⟨by rfl, by intro w'; go_simp; with_reducible rfl⟩) ?_))
       refine join_ (σ := Value × Nat) 2 #[true, true, true, true, true, true, true, true, true, true, true, false, false] (fun s_ => [(28, .tuple #[.agg #[.int .i64 t213, .bool t214, s_.1], .bool false]), (8, .pointer (some ⟨s_.2, 0, none⟩)), (21, .tuple #[.agg #[.int .i64 t213, .bool t214, s_.1], .bool false]), (29, .agg #[.int .i64 t213, .bool t214, s_.1]), (30, .bool false)]) (fun s_ w' => (w'.cell? ⟨gb204, 0, none⟩ = some (.slice A0_0 l0_0.length c0_0) ∧ w'.cell? ⟨gb204, 1, none⟩ = some (.slice A0_1 l0_1.length c0_1) ∧ w'.cell? ⟨gb204, 2, none⟩ = some (.int .i64 a0_2) ∧ w'.cell? ⟨gb204, 3, none⟩ = some (.int .i64 a0_3) ∧ w'.cell? ⟨gb211, 0, none⟩ = some (.int .i64 x212000_1) ∧ w'.cell? ⟨gb211, 1, none⟩ = some (.bool x212001_1) ∧ w'.cell? ⟨gb211, 2, none⟩ = some (.slice Ao33 x212002_1.length co33) ∧ w'.cell? (ad212.add ((x7_1).toNat * 3)) = some (.int .i64 ((rd_T63 l1 x7_1).f0)) ∧ w'.cell? ⟨(ad212.add ((x7_1).toNat * 3)).block, (ad212.add ((x7_1).toNat * 3)).off + 1, none⟩ = some (.int .i64 ((rd_T63 l1 x7_1).f1)) ∧ w'.cell? ⟨(ad212.add ((x7_1).toNat * 3)).block, (ad212.add ((x7_1).toNat * 3)).off + 2, none⟩ = some (.int .i64 ((rd_T63 l1 x7_1).f2))) ∧ (Kd.R (Kd.int .i64) 3 w' w.heap.size (fun _ => True) s_.1 t215) ∧ (w'.heap[gb204]? = some (.cells #[.slice A0_0 l0_0.length c0_0, .slice A0_1 l0_1.length c0_1, .int .i64 a0_2, .int .i64 a0_3] 25 (0, 0))) ∧ (w'.heap[gb211]? = some (.cells #[.int .i64 x212000_1, .bool x212001_1, .slice Ao33 x212002_1.length co33] 66 (0, 0))) ∧ (w'.heap[s_.2]? = some (.cells #[.int .i64 0, .bool false, .slice none 0 0] 66 (0, 0))) ∧ (w.heap.size ≤ s_.2) ∧ (w.heap.size ≤ s_.2) ∧ (gb204 ≠ s_.2) ∧ (s_.2 ≠ gb204) ∧ (gb211 ≠ s_.2) ∧ (s_.2 ≠ gb211) ∧ (Below w.heap.size w w')) ?_ ?_
       rotate_left
       ·
        intro hCont
        refine two_ (i := 6) (j := 10) (Ni := some 28) (Nj := some 8) #[true, true, true, true, true, true, true, false, false, false, false, false, false] #[true, true, true, true, true, true, false, false, false, false, true, false, false] rfl rfl rfl rfl (two_of HT_.out (by kernel_rfl)) (by decide) (by decide) (fun K hK => ?_) (fun K hK => ?_)
        ·
         skip
         refine goes_ Tryd.func24 (by kernel_rfl) rfl #[.agg #[.slice A0_0 l0_0.length c0_0, .slice A0_1 l0_1.length c0_1, .int .i64 a0_2, .int .i64 a0_3], .agg #[.int .i64 x212000_1, .bool x212001_1, .slice Ao33 x212002_1.length co33], .agg #[.int .i64 ((rd_T63 l1 x7_1).f0), .int .i64 ((rd_T63 l1 x7_1).f1), .int .i64 ((rd_T63 l1 x7_1).f2)]] (by rfl) rfl rfl ml_ ?_
         with_reducible refine (culetref49_next.calls k1 _ _ l0_0 _ _ l0_1 a0_2 a0_3 x212000_1 x212001_1 (fun k_ => some k_ = (.slice Ao33 x212002_1.length co33 : Value).ownBlock) (.slice Ao33 x212002_1.length co33) x212002_1 ((rd_T63 l1 x7_1).f0) ((rd_T63 l1 x7_1).f1) ((rd_T63 l1 x7_1).f2) t213 t214 t215 false w _ ?side1 ?side2 ?side3 ?side4 ?side5 ?side6 A17.out).mono ?_
         (case side1 => repeat (first | (with_reducible first | exact HB.out | apply below_alloc | apply pw_below_drewN | apply below_drew1 | refine below_set ?_ GE204.out | refine below_set ?_ GE211.out) | exact HB.out))
         (case side2 => exact Kd.C_kept_came k55_heap HR0_0.out (mb_ HB.out) (fun k_ hs_ => (fun e_ => Kd.R_base HO_212002.out k_ e_.symm) hs_))
         (case side3 => exact HC0_0.out)
         (case side4 => exact Kd.C_kept_came k56_heap HR0_1.out (mb_ HB.out) (fun k_ hs_ => (fun e_ => Kd.R_base HO_212002.out k_ e_.symm) hs_))
         (case side5 => exact HC0_1.out)
         (case side6 => exact Kd.R_tight rfl HO_212002.out)
         rintro e w35 ⟨v216, rfl, ho0, hb, hkp⟩
         refine ⟨_, rfl, ?_⟩
         have z_ := aI (am_ (blk_kept (mk_ BK204.out) hkp (fun hs_ => (fun e_ => (Kd.R_ne HO_212002.out BK204.out (by decide)) e_) hs_))) (aI (am_ (blk_kept (mk_ BK211.out) hkp (fun hs_ => (fun e_ => (Kd.R_ne HO_212002.out BK211.out (by decide)) e_) hs_))) (aI (am_ (Kd.R_mono (ok' := fun k_ => True) ho0 (fun k_ hk_ => trivial))) (am_ (hb))))
         clear BK204 BK211 HB HO_212002
         obtain ⟨BK204, BK211, HO217, HB⟩ := z_
         (try clear hb)
         (try clear hkp)
         (try clear ho0)
         refine hK.out _ _ ⟨(blk_cell BK204.out 0).trans rfl, (blk_cell BK204.out 1).trans rfl, (blk_cell BK204.out 2).trans rfl, (blk_cell BK204.out 3).trans rfl, (blk_cell BK211.out 0).trans rfl, (blk_cell BK211.out 1).trans rfl, (blk_cell BK211.out 2).trans rfl, ((HB.out.cell (World.block_lt_of_cell? w _ hw212_0)).trans hw212_0), ((HB.out.cell (World.block_lt_of_cell? w _ hw212_1)).trans hw212_1), ((HB.out.cell (World.block_lt_of_cell? w _ hw212_2)).trans hw212_2)⟩ (fun hHeld => ?_)
         clear hK K
         refine norm_ (a' := ?_) ?_ ?_
         rotate_left
         ·
          show Act.put _ (some 28) _ = _
          simp only [Act.put, List.setIfInBounds_toArray, List.set_cons_zero, List.set_cons_succ, i64_w, i32_w]
          rfl
         refine ltd (o := [0, 1, 2, 3, 4, 5, 6, 7, 8, 9]) (n := 7) (m := 13) (by kernel_rfl) ?_
         iterate 3 (first | (refine pne rfl rfl (any_of HT_.out (by kernel_rfl)) (Or.inl ⟨by rfl, by intro w'; go_simp; with_reducible rfl⟩) ?_))
         refine one_ (i := 10) (N := some 8) #[true, true, true, true, true, true, true, true, true, true, true, false, false] rfl rfl (one_of HT_.out (by kernel_rfl)) (by decide) (fun K hK => ?_)
         refine bst (N := 8) (cs := #[.int .i64 0, .bool false, .slice none 0 0]) (t := 66) ?_
         intro gb219 hg w36 hbox hb
         have z_ := aI (am_ (Kd.R_below (mr_ HO217.out) hb)) (aI (am_ (blk_below (mk_ BK204.out) hb)) (aI (am_ (blk_below (mk_ BK211.out) hb)) (aI (am_ (below_step (mb_ HB.out) hb)) (aI (am_ (hbox)) (aI (am_ ((bz_ hg (mb_ HB.out) : w.heap.size ≤ gb219))) (aI (am_ ((bz_ hg (mb_ HB.out) : w.heap.size ≤ gb219))) (aI (am_ ((nl_ hg (mk_ BK204.out) : gb204 ≠ gb219))) (aI (am_ ((ng_ hg (mk_ BK204.out) : gb219 ≠ gb204))) (aI (am_ ((nl_ hg (mk_ BK211.out) : gb211 ≠ gb219))) (am_ ((ng_ hg (mk_ BK211.out) : gb219 ≠ gb211))))))))))))
         clear HO217 BK204 BK211 HB
         obtain ⟨HO217, BK204, BK211, HB, BK219, GW219, GE219, NB204_219, NB219_204, NB211_219, NB219_211⟩ := z_
         clear hb hbox hg
         refine hK.out _ _ ⟨(blk_cell BK204.out 0).trans rfl, (blk_cell BK204.out 1).trans rfl, (blk_cell BK204.out 2).trans rfl, (blk_cell BK204.out 3).trans rfl, (blk_cell BK211.out 0).trans rfl, (blk_cell BK211.out 1).trans rfl, (blk_cell BK211.out 2).trans rfl, ((HB.out.cell (World.block_lt_of_cell? w _ hw212_0)).trans hw212_0), ((HB.out.cell (World.block_lt_of_cell? w _ hw212_1)).trans hw212_1), ((HB.out.cell (World.block_lt_of_cell? w _ hw212_2)).trans hw212_2)⟩ (fun hHeld => ?_)
         clear hK K
         refine norm_ (a' := ?_) ?_ ?_
         rotate_left
         ·
          show Act.put _ (some 8) _ = _
          simp only [Act.put, List.setIfInBounds_toArray, List.set_cons_zero, List.set_cons_succ, i64_w, i32_w]
          rfl
         exact norm_ (by simp only [putAll, Act.put, List.setIfInBounds_toArray, List.set_cons_zero, List.set_cons_succ]) (hCont (v216, gb219) _ ⟨hHeld, (mr_ HO217.out), (mk_ BK204.out), (mk_ BK211.out), (mk_ BK219.out), GW219.out, GE219.out, NB204_219.out, NB219_204.out, NB211_219.out, NB219_211.out, (mb_ HB.out)⟩)
        ·
         skip
         refine bst (N := 8) (cs := #[.int .i64 0, .bool false, .slice none 0 0]) (t := 66) ?_
         intro gb219 hg w35 hbox hb
         have z_ := aI (am_ (Kd.R_below (mr_ HO_212002.out) hb)) (aI (am_ (blk_below (mk_ BK204.out) hb)) (aI (am_ (blk_below (mk_ BK211.out) hb)) (aI (am_ (below_step (mb_ HB.out) hb)) (aI (am_ (hbox)) (aI (am_ ((bz_ hg (mb_ HB.out) : w.heap.size ≤ gb219))) (aI (am_ ((bz_ hg (mb_ HB.out) : w.heap.size ≤ gb219))) (aI (am_ ((nl_ hg (mk_ BK204.out) : gb204 ≠ gb219))) (aI (am_ ((ng_ hg (mk_ BK204.out) : gb219 ≠ gb204))) (aI (am_ ((nl_ hg (mk_ BK211.out) : gb211 ≠ gb219))) (am_ ((ng_ hg (mk_ BK211.out) : gb219 ≠ gb211))))))))))))
         clear HO_212002 BK204 BK211 HB
         obtain ⟨HO_212002, BK204, BK211, HB, BK219, GW219, GE219, NB204_219, NB219_204, NB211_219, NB219_211⟩ := z_
         clear hb hbox hg
         refine hK.out _ _ ⟨(blk_cell BK204.out 0).trans rfl, (blk_cell BK204.out 1).trans rfl, (blk_cell BK204.out 2).trans rfl, (blk_cell BK204.out 3).trans rfl, (blk_cell BK211.out 0).trans rfl, (blk_cell BK211.out 1).trans rfl, (blk_cell BK211.out 2).trans rfl, ((HB.out.cell (World.block_lt_of_cell? w _ hw212_0)).trans hw212_0), ((HB.out.cell (World.block_lt_of_cell? w _ hw212_1)).trans hw212_1), ((HB.out.cell (World.block_lt_of_cell? w _ hw212_2)).trans hw212_2)⟩ (fun hHeld => ?_)
         clear hK K
         refine norm_ (a' := ?_) ?_ ?_
         rotate_left
         ·
          show Act.put _ (some 8) _ = _
          simp only [Act.put, List.setIfInBounds_toArray, List.set_cons_zero, List.set_cons_succ, i64_w, i32_w]
          rfl
         refine one_ (i := 6) (N := some 28) #[true, true, true, true, true, true, true, false, false, false, true, false, false] rfl rfl (one_of HT_.out (by kernel_rfl)) (by decide) (fun K hK => ?_)
         refine goes_ Tryd.func24 (by kernel_rfl) rfl #[.agg #[.slice A0_0 l0_0.length c0_0, .slice A0_1 l0_1.length c0_1, .int .i64 a0_2, .int .i64 a0_3], .agg #[.int .i64 x212000_1, .bool x212001_1, .slice Ao33 x212002_1.length co33], .agg #[.int .i64 ((rd_T63 l1 x7_1).f0), .int .i64 ((rd_T63 l1 x7_1).f1), .int .i64 ((rd_T63 l1 x7_1).f2)]] (by rfl) rfl rfl ml_ ?_
         with_reducible refine (culetref49_next.calls k1 _ _ l0_0 _ _ l0_1 a0_2 a0_3 x212000_1 x212001_1 (fun k_ => some k_ = (.slice Ao33 x212002_1.length co33 : Value).ownBlock) (.slice Ao33 x212002_1.length co33) x212002_1 ((rd_T63 l1 x7_1).f0) ((rd_T63 l1 x7_1).f1) ((rd_T63 l1 x7_1).f2) t213 t214 t215 false w _ ?side1 ?side2 ?side3 ?side4 ?side5 ?side6 A17.out).mono ?_
         (case side1 => repeat (first | (with_reducible first | exact HB.out | apply below_alloc | apply pw_below_drewN | apply below_drew1 | refine below_set ?_ GE204.out | refine below_set ?_ GE211.out | refine below_set ?_ GE219.out) | exact HB.out))
         (case side2 => exact Kd.C_kept_came k55_heap HR0_0.out (mb_ HB.out) (fun k_ hs_ => (fun e_ => Kd.R_base HO_212002.out k_ e_.symm) hs_))
         (case side3 => exact HC0_0.out)
         (case side4 => exact Kd.C_kept_came k56_heap HR0_1.out (mb_ HB.out) (fun k_ hs_ => (fun e_ => Kd.R_base HO_212002.out k_ e_.symm) hs_))
         (case side5 => exact HC0_1.out)
         (case side6 => exact Kd.R_tight rfl HO_212002.out)
         rintro e w36 ⟨v216, rfl, ho0, hb, hkp⟩
         refine ⟨_, rfl, ?_⟩
         have z_ := aI (am_ (blk_kept (mk_ BK204.out) hkp (fun hs_ => (fun e_ => (Kd.R_ne HO_212002.out BK204.out (by decide)) e_) hs_))) (aI (am_ (blk_kept (mk_ BK211.out) hkp (fun hs_ => (fun e_ => (Kd.R_ne HO_212002.out BK211.out (by decide)) e_) hs_))) (aI (am_ (blk_kept (mk_ BK219.out) hkp (fun hs_ => (fun e_ => (Kd.R_ne HO_212002.out BK219.out (by decide)) e_) hs_))) (aI (am_ (Kd.R_mono (ok' := fun k_ => True) ho0 (fun k_ hk_ => trivial))) (am_ (hb)))))
         clear BK204 BK211 BK219 HB HO_212002
         obtain ⟨BK204, BK211, BK219, HO217, HB⟩ := z_
         (try clear hb)
         (try clear hkp)
         (try clear ho0)
         refine hK.out _ _ ⟨(blk_cell BK204.out 0).trans rfl, (blk_cell BK204.out 1).trans rfl, (blk_cell BK204.out 2).trans rfl, (blk_cell BK204.out 3).trans rfl, (blk_cell BK211.out 0).trans rfl, (blk_cell BK211.out 1).trans rfl, (blk_cell BK211.out 2).trans rfl, ((HB.out.cell (World.block_lt_of_cell? w _ hw212_0)).trans hw212_0), ((HB.out.cell (World.block_lt_of_cell? w _ hw212_1)).trans hw212_1), ((HB.out.cell (World.block_lt_of_cell? w _ hw212_2)).trans hw212_2)⟩ (fun hHeld => ?_)
         clear hK K
         refine norm_ (a' := ?_) ?_ ?_
         rotate_left
         ·
          show Act.put _ (some 28) _ = _
          simp only [Act.put, List.setIfInBounds_toArray, List.set_cons_zero, List.set_cons_succ, i64_w, i32_w]
          rfl
         refine ltd (o := [0, 1, 2, 3, 4, 5, 6, 10, 7, 8, 9]) (n := 8) (m := 13) (by kernel_rfl) ?_
         iterate 3 (first | (refine pne rfl rfl (any_of HT_.out (by kernel_rfl)) (Or.inl ⟨by rfl, by intro w'; go_simp; with_reducible rfl⟩) ?_))
         exact norm_ (by simp only [putAll, Act.put, List.setIfInBounds_toArray, List.set_cons_zero, List.set_cons_succ]) (hCont (v216, gb219) _ ⟨hHeld, (mr_ HO217.out), (mk_ BK204.out), (mk_ BK211.out), (mk_ BK219.out), GW219.out, GE219.out, NB204_219.out, NB219_204.out, NB211_219.out, NB219_211.out, (mb_ HB.out)⟩)
       rintro ⟨v216, gb219⟩ w37 ⟨hS_, h0_, h1_, h2_, h3_, h4_, h5_, h6_, h7_, h8_, h9_, h10_⟩
       have n0_ : Aside0 (Kd.R (Kd.int .i64) 3 w37 w.heap.size (fun _ => True) v216 t215) := ⟨h0_⟩
       have n1_ : Aside0 (w37.heap[gb204]? = some (.cells #[.slice A0_0 l0_0.length c0_0, .slice A0_1 l0_1.length c0_1, .int .i64 a0_2, .int .i64 a0_3] 25 (0, 0))) := ⟨h1_⟩
       have n2_ : Aside0 (w37.heap[gb211]? = some (.cells #[.int .i64 x212000_1, .bool x212001_1, .slice Ao33 x212002_1.length co33] 66 (0, 0))) := ⟨h2_⟩
       have n3_ : Aside0 (w37.heap[gb219]? = some (.cells #[.int .i64 0, .bool false, .slice none 0 0] 66 (0, 0))) := ⟨h3_⟩
       have n4_ : Aside0 (w.heap.size ≤ gb219) := ⟨h4_⟩
       have n5_ : Aside0 (w.heap.size ≤ gb219) := ⟨h5_⟩
       have n6_ : Aside0 (gb204 ≠ gb219) := ⟨h6_⟩
       have n7_ : Aside0 (gb219 ≠ gb204) := ⟨h7_⟩
       have n8_ : Aside0 (gb211 ≠ gb219) := ⟨h8_⟩
       have n9_ : Aside0 (gb219 ≠ gb211) := ⟨h9_⟩
       have n10_ : Aside0 (Below w.heap.size w w37) := ⟨h10_⟩
       clear HO_212002 BK204 BK211 HB
       clear h0_ h1_ h2_ h3_ h4_ h5_ h6_ h7_ h8_ h9_ h10_
       have HO217 := n0_
       have BK204 := n1_
       have BK211 := n2_
       have BK219 := n3_
       have GW219 := n4_
       have GE219 := n5_
       have NB204_219 := n6_
       have NB219_204 := n7_
       have NB211_219 := n8_
       have NB219_211 := n9_
       have HB := n10_
       clear n0_ n1_ n2_ n3_ n4_ n5_ n6_ n7_ n8_ n9_ n10_
       have hHeld : w37.cell? ⟨gb204, 0, none⟩ = some (.slice A0_0 l0_0.length c0_0) ∧ w37.cell? ⟨gb204, 1, none⟩ = some (.slice A0_1 l0_1.length c0_1) ∧ w37.cell? ⟨gb204, 2, none⟩ = some (.int .i64 a0_2) ∧ w37.cell? ⟨gb204, 3, none⟩ = some (.int .i64 a0_3) ∧ w37.cell? ⟨gb211, 0, none⟩ = some (.int .i64 x212000_1) ∧ w37.cell? ⟨gb211, 1, none⟩ = some (.bool x212001_1) ∧ w37.cell? ⟨gb211, 2, none⟩ = some (.slice Ao33 x212002_1.length co33) ∧ w37.cell? (ad212.add ((x7_1).toNat * 3)) = some (.int .i64 ((rd_T63 l1 x7_1).f0)) ∧ w37.cell? ⟨(ad212.add ((x7_1).toNat * 3)).block, (ad212.add ((x7_1).toNat * 3)).off + 1, none⟩ = some (.int .i64 ((rd_T63 l1 x7_1).f1)) ∧ w37.cell? ⟨(ad212.add ((x7_1).toNat * 3)).block, (ad212.add ((x7_1).toNat * 3)).off + 2, none⟩ = some (.int .i64 ((rd_T63 l1 x7_1).f2)) := hS_
       obtain ⟨Ao40, co40, eo40⟩ := Kd.R_slice HO217.out
       (first | subst eo40 | (injection eo40 with f1_ f2_ f3_; have f4_ := f1_.symm; have f5_ := f3_.symm; clear f1_ f2_ f3_; subst f4_; subst f5_))
       refine norm_ (a' := ?_) ?_ ?_
       rotate_left
       ·
        simp only [putAll, Act.put, List.setIfInBounds_toArray, List.set_cons_zero, List.set_cons_succ]
        rfl
       refine one_ (i := 11) (N := none) #[true, true, true, true, true, true, true, true, true, true, true, true, false] rfl rfl (one_of HT_.out (by kernel_rfl)) (by decide) (fun K hK => ?_)
       have hs38 : w37.cell? ⟨gb219, 0, none⟩ = some (.int .i64 0) := (blk_cell BK219.out 0).trans rfl
       have hfs38 := blk_frozen BK219.out 0
       have hns38_0 := NB204_219.out
       have hns38_1 := NB211_219.out
       have hms38_0 := NB219_204.out
       have hms38_1 := NB219_211.out
       have hs39 : w37.cell? ⟨gb219, 1, none⟩ = some (.bool false) := (blk_cell BK219.out 1).trans rfl
       have hfs39 := blk_frozen BK219.out 1
       have hns39_0 := NB204_219.out
       have hns39_1 := NB211_219.out
       have hms39_0 := NB219_204.out
       have hms39_1 := NB219_211.out
       have hs41 : w37.cell? ⟨gb219, 2, none⟩ = some (.slice none 0 0) := (blk_cell BK219.out 2).trans rfl
       have hfs41 := blk_frozen BK219.out 2
       have hns41_0 := NB204_219.out
       have hns41_1 := NB211_219.out
       have hms41_0 := NB219_204.out
       have hms41_1 := NB219_211.out
       refine skip_ (w1 := ?_) (by rfl) rfl ?_ ?_
       rotate_left
       ·
        go_simp
        rfl
       refine hK.out _ _ ⟨((cell_far (p := ⟨gb219, _, none⟩) NB204_219.out _).trans (((cell_far (p := ⟨gb219, _, none⟩) NB204_219.out _).trans (((cell_far (p := ⟨gb219, _, none⟩) NB204_219.out _).trans (hHeld.1)))))), ((cell_far (p := ⟨gb219, _, none⟩) NB204_219.out _).trans (((cell_far (p := ⟨gb219, _, none⟩) NB204_219.out _).trans (((cell_far (p := ⟨gb219, _, none⟩) NB204_219.out _).trans (hHeld.2.1)))))), ((cell_far (p := ⟨gb219, _, none⟩) NB204_219.out _).trans (((cell_far (p := ⟨gb219, _, none⟩) NB204_219.out _).trans (((cell_far (p := ⟨gb219, _, none⟩) NB204_219.out _).trans (hHeld.2.2.1)))))), ((cell_far (p := ⟨gb219, _, none⟩) NB204_219.out _).trans (((cell_far (p := ⟨gb219, _, none⟩) NB204_219.out _).trans (((cell_far (p := ⟨gb219, _, none⟩) NB204_219.out _).trans (hHeld.2.2.2.1)))))), ((cell_far (p := ⟨gb219, _, none⟩) NB211_219.out _).trans (((cell_far (p := ⟨gb219, _, none⟩) NB211_219.out _).trans (((cell_far (p := ⟨gb219, _, none⟩) NB211_219.out _).trans (hHeld.2.2.2.2.1)))))), ((cell_far (p := ⟨gb219, _, none⟩) NB211_219.out _).trans (((cell_far (p := ⟨gb219, _, none⟩) NB211_219.out _).trans (((cell_far (p := ⟨gb219, _, none⟩) NB211_219.out _).trans (hHeld.2.2.2.2.2.1)))))), ((cell_far (p := ⟨gb219, _, none⟩) NB211_219.out _).trans (((cell_far (p := ⟨gb219, _, none⟩) NB211_219.out _).trans (((cell_far (p := ⟨gb219, _, none⟩) NB211_219.out _).trans (hHeld.2.2.2.2.2.2.1)))))), ((cell_far (p := ⟨gb219, _, none⟩) (mw_ hw212_0 GW219.out) _).trans (((cell_far (p := ⟨gb219, _, none⟩) (mw_ hw212_0 GW219.out) _).trans (((cell_far (p := ⟨gb219, _, none⟩) (mw_ hw212_0 GW219.out) _).trans (hHeld.2.2.2.2.2.2.2.1)))))), ((cell_far (p := ⟨gb219, _, none⟩) (mw_ hw212_1 GW219.out) _).trans (((cell_far (p := ⟨gb219, _, none⟩) (mw_ hw212_1 GW219.out) _).trans (((cell_far (p := ⟨gb219, _, none⟩) (mw_ hw212_1 GW219.out) _).trans (hHeld.2.2.2.2.2.2.2.2.1)))))), ((cell_far (p := ⟨gb219, _, none⟩) (mw_ hw212_2 GW219.out) _).trans (((cell_far (p := ⟨gb219, _, none⟩) (mw_ hw212_2 GW219.out) _).trans (((cell_far (p := ⟨gb219, _, none⟩) (mw_ hw212_2 GW219.out) _).trans (hHeld.2.2.2.2.2.2.2.2.2))))))⟩ (fun hHeld => ?_)
       clear hK K
       refine pure_ (i := 12) (N := some 9) (v := ?_) (a' := ?_) #[true, true, true, true, true, true, true, true, true, true, true, true, true] rfl rfl (any_of HT_.out (by kernel_rfl)) (fun _ _ _ h => h) (Or.inl ⟨by rfl, ?_⟩) ?_ ?_
       rotate_left
       ·
        intro w'
        go_simp
        with_reducible rfl
       rotate_left
       ·
        simp only [Act.put, List.setIfInBounds_toArray, List.set_cons_zero, List.set_cons_succ, i64_w, i32_w]
        rfl
       refine done_ (done_of HT_.out (by kernel_rfl)) ?_
       try go_wp2
       go_ret2
       exact ⟨by first | rfl | (simp [errW_none, errW_some] <;> rfl) | (simp [*, errW_none, errW_some] <;> rfl), mb_ HB.out⟩
     ·
      rw [if_neg c16] at H
      exact absurd H (by simp)
    ·
     rw [if_neg c15] at H
     have c15b0 : decide (x7_1 < (l1.length : Int)) = false := decide_eq_false c15
     clear c15
     replace H := Option.bind_eq_some_iff.mp H
     obtain ⟨t220, A420, H⟩ := H
     replace H : (if t220 = true then ((culetref49_finished.f k1 l0_0 l0_1 a0_2 a0_3 x212000_1 x212001_1 x212002_1 2).bind fun t221 => (if t221 = true then (some ((l1.length : Int), 0)) else (some ((l1.length : Int), 9)))) else (some ((l1.length : Int), 9))) = some (r1, r2) := H
     have A42 := am_ A420
     clear A420
     by_cases c43 : t220 = true
     ·
      subst c43
      have H1 : ((culetref49_finished.f k1 l0_0 l0_1 a0_2 a0_3 x212000_1 x212001_1 x212002_1 2).bind fun t221 => (if t221 = true then (some ((l1.length : Int), 0)) else (some ((l1.length : Int), 9)))) = some (r1, r2) := by rw [if_pos rfl] at H; exact H
      clear H
      have H := H1
      clear H1
      replace H := Option.bind_eq_some_iff.mp H
      obtain ⟨t221, A440, H⟩ := H
      replace H : (if t221 = true then (some ((l1.length : Int), 0)) else (some ((l1.length : Int), 9))) = some (r1, r2) := H
      have A44 := am_ A440
      clear A440
      by_cases c45 : t221 = true
      ·
       subst c45
       have H1 : (some ((l1.length : Int), 0)) = some (r1, r2) := by rw [if_pos rfl] at H; exact H
       clear H
       have H := H1
       clear H1
       simp only [Option.some.injEq, Prod.mk.injEq] at H
       obtain ⟨rfl, rfl⟩ := H
       have hnb46 := NB204_211.out
       have hnc46 := NB211_204.out
       have hcz47_0 : wr.cell? ⟨gb204, 0, none⟩ = some (.slice A0_0 l0_0.length c0_0) := (blk_cell BK204.out 0).trans rfl
       have hcz47_1 : wr.cell? ⟨gb204, 1, none⟩ = some (.slice A0_1 l0_1.length c0_1) := (blk_cell BK204.out 1).trans rfl
       have hcz47_2 : wr.cell? ⟨gb204, 2, none⟩ = some (.int .i64 a0_2) := (blk_cell BK204.out 2).trans rfl
       have hcz47_3 : wr.cell? ⟨gb204, 3, none⟩ = some (.int .i64 a0_3) := (blk_cell BK204.out 3).trans rfl
       have hfz47_0 := blk_frozen BK204.out 0
       have hfz47_1 := blk_frozen BK204.out 1
       have hfz47_2 := blk_frozen BK204.out 2
       have hfz47_3 := blk_frozen BK204.out 3
       have hcz48_0 : wr.cell? ⟨gb211, 0, none⟩ = some (.int .i64 x212000_1) := (blk_cell BK211.out 0).trans rfl
       have hcz48_1 : wr.cell? ⟨gb211, 1, none⟩ = some (.bool x212001_1) := (blk_cell BK211.out 1).trans rfl
       have hcz48_2 : wr.cell? ⟨gb211, 2, none⟩ = some (u212002) := (blk_cell BK211.out 2).trans rfl
       have hfz48_0 := blk_frozen BK211.out 0
       have hfz48_1 := blk_frozen BK211.out 1
       have hfz48_2 := blk_frozen BK211.out 2
       obtain ⟨Ao49, co49, eo49⟩ := Kd.R_slice HO_212002.out
       subst eo49
       go_wp2_with (first | ((with_reducible refine gate_callee (f := 25) rfl ?_); refine goesL_ (some 37) rfl rfl Tryd.func25 (by kernel_rfl) rfl #[.agg #[.slice A0_0 l0_0.length c0_0, .slice A0_1 l0_1.length c0_1, .int .i64 a0_2, .int .i64 a0_3], .agg #[.int .i64 x212000_1, .bool x212001_1, .slice Ao49 x212002_1.length co49], .int .i64 1] rfl ml_ ?_; (with_reducible refine (culetref49_finished.calls k1 _ _ l0_0 _ _ l0_1 a0_2 a0_3 x212000_1 x212001_1 _ _ x212002_1 1 true _ ?side1 ?side2 ?side3 ?side4 ?side5 ?side6 A42.out).mono ?_); (case side1 => exact mc_ (Kd.C_below HR0_0.out HB.out)); (case side2 => exact HC0_0.out); (case side3 => exact mc_ (Kd.C_below HR0_1.out HB.out)); (case side4 => exact HC0_1.out); (case side5 => exact mc_ (Kd.R_reads' HO_212002.out).2.2); (case side6 => exact (Kd.R_reads' HO_212002.out).2.1); rintro e w50 ⟨rfl, hb⟩; refine ⟨_, rfl, ?_⟩; have z_ := aI (am_ (Kd.R_below (mr_ HO_212002.out) hb)) (aI (am_ (blk_below (mk_ BK204.out) hb)) (aI (am_ (blk_below (mk_ BK211.out) hb)) (am_ (below_step (mb_ HB.out) hb)))); clear HO_212002 BK204 BK211 HB; obtain ⟨HO_212002, BK204, BK211, HB⟩ := z_; (try clear hb); (try clear hb2); (try clear hk); (try clear hi); have hcz51_0 : w50.cell? ⟨gb204, 0, none⟩ = some (.slice A0_0 l0_0.length c0_0) := (blk_cell BK204.out 0).trans rfl; have hcz51_1 : w50.cell? ⟨gb204, 1, none⟩ = some (.slice A0_1 l0_1.length c0_1) := (blk_cell BK204.out 1).trans rfl; have hcz51_2 : w50.cell? ⟨gb204, 2, none⟩ = some (.int .i64 a0_2) := (blk_cell BK204.out 2).trans rfl; have hcz51_3 : w50.cell? ⟨gb204, 3, none⟩ = some (.int .i64 a0_3) := (blk_cell BK204.out 3).trans rfl; have hfz51_0 := blk_frozen BK204.out 0; have hfz51_1 := blk_frozen BK204.out 1; have hfz51_2 := blk_frozen BK204.out 2; have hfz51_3 := blk_frozen BK204.out 3; have hcz52_0 : w50.cell? ⟨gb211, 0, none⟩ = some (.int .i64 x212000_1) := (blk_cell BK211.out 0).trans rfl; have hcz52_1 : w50.cell? ⟨gb211, 1, none⟩ = some (.bool x212001_1) := (blk_cell BK211.out 1).trans rfl; have hcz52_2 : w50.cell? ⟨gb211, 2, none⟩ = some (.slice Ao49 x212002_1.length co49) := (blk_cell BK211.out 2).trans rfl; have hfz52_0 := blk_frozen BK211.out 0; have hfz52_1 := blk_frozen BK211.out 1; have hfz52_2 := blk_frozen BK211.out 2) | (go_at_call 25; (with_reducible refine (culetref49_finished.calls k1 _ _ l0_0 _ _ l0_1 a0_2 a0_3 x212000_1 x212001_1 _ _ x212002_1 2 true _ ?side1 ?side2 ?side3 ?side4 ?side5 ?side6 A44.out).mono ?_); (case side1 => exact mc_ (Kd.C_below HR0_0.out HB.out)); (case side2 => exact HC0_0.out); (case side3 => exact mc_ (Kd.C_below HR0_1.out HB.out)); (case side4 => exact HC0_1.out); (case side5 => exact mc_ (Kd.R_reads' HO_212002.out).2.2); (case side6 => exact (Kd.R_reads' HO_212002.out).2.1); rintro e w53 ⟨rfl, hb⟩; have z_ := aI (am_ (Kd.R_below (mr_ HO_212002.out) hb)) (aI (am_ (blk_below (mk_ BK204.out) hb)) (aI (am_ (blk_below (mk_ BK211.out) hb)) (am_ (below_step (mb_ HB.out) hb)))); clear HO_212002 BK204 BK211 HB; obtain ⟨HO_212002, BK204, BK211, HB⟩ := z_; (try clear hb); (try clear hb2); (try clear hk); (try clear hi)))
       go_ret2
       exact ⟨by first | rfl | (simp [errW_none, errW_some] <;> rfl) | (simp [*, errW_none, errW_some] <;> rfl), mb_ HB.out⟩
      ·
       replace c45 := Bool.eq_false_iff.mpr c45
       subst c45
       have H1 : (some ((l1.length : Int), 9)) = some (r1, r2) := by rw [if_neg (show ¬ (false = true) by decide)] at H; exact H
       clear H
       have H := H1
       clear H1
       simp only [Option.some.injEq, Prod.mk.injEq] at H
       obtain ⟨rfl, rfl⟩ := H
       have hnb54 := NB204_211.out
       have hnc54 := NB211_204.out
       have hcz55_0 : wr.cell? ⟨gb204, 0, none⟩ = some (.slice A0_0 l0_0.length c0_0) := (blk_cell BK204.out 0).trans rfl
       have hcz55_1 : wr.cell? ⟨gb204, 1, none⟩ = some (.slice A0_1 l0_1.length c0_1) := (blk_cell BK204.out 1).trans rfl
       have hcz55_2 : wr.cell? ⟨gb204, 2, none⟩ = some (.int .i64 a0_2) := (blk_cell BK204.out 2).trans rfl
       have hcz55_3 : wr.cell? ⟨gb204, 3, none⟩ = some (.int .i64 a0_3) := (blk_cell BK204.out 3).trans rfl
       have hfz55_0 := blk_frozen BK204.out 0
       have hfz55_1 := blk_frozen BK204.out 1
       have hfz55_2 := blk_frozen BK204.out 2
       have hfz55_3 := blk_frozen BK204.out 3
       have hcz56_0 : wr.cell? ⟨gb211, 0, none⟩ = some (.int .i64 x212000_1) := (blk_cell BK211.out 0).trans rfl
       have hcz56_1 : wr.cell? ⟨gb211, 1, none⟩ = some (.bool x212001_1) := (blk_cell BK211.out 1).trans rfl
       have hcz56_2 : wr.cell? ⟨gb211, 2, none⟩ = some (u212002) := (blk_cell BK211.out 2).trans rfl
       have hfz56_0 := blk_frozen BK211.out 0
       have hfz56_1 := blk_frozen BK211.out 1
       have hfz56_2 := blk_frozen BK211.out 2
       obtain ⟨Ao57, co57, eo57⟩ := Kd.R_slice HO_212002.out
       subst eo57
       go_wp2_with (first | ((with_reducible refine gate_callee (f := 25) rfl ?_); refine goesL_ (some 37) rfl rfl Tryd.func25 (by kernel_rfl) rfl #[.agg #[.slice A0_0 l0_0.length c0_0, .slice A0_1 l0_1.length c0_1, .int .i64 a0_2, .int .i64 a0_3], .agg #[.int .i64 x212000_1, .bool x212001_1, .slice Ao57 x212002_1.length co57], .int .i64 1] rfl ml_ ?_; (with_reducible refine (culetref49_finished.calls k1 _ _ l0_0 _ _ l0_1 a0_2 a0_3 x212000_1 x212001_1 _ _ x212002_1 1 true _ ?side1 ?side2 ?side3 ?side4 ?side5 ?side6 A42.out).mono ?_); (case side1 => exact mc_ (Kd.C_below HR0_0.out HB.out)); (case side2 => exact HC0_0.out); (case side3 => exact mc_ (Kd.C_below HR0_1.out HB.out)); (case side4 => exact HC0_1.out); (case side5 => exact mc_ (Kd.R_reads' HO_212002.out).2.2); (case side6 => exact (Kd.R_reads' HO_212002.out).2.1); rintro e w58 ⟨rfl, hb⟩; refine ⟨_, rfl, ?_⟩; have z_ := aI (am_ (Kd.R_below (mr_ HO_212002.out) hb)) (aI (am_ (blk_below (mk_ BK204.out) hb)) (aI (am_ (blk_below (mk_ BK211.out) hb)) (am_ (below_step (mb_ HB.out) hb)))); clear HO_212002 BK204 BK211 HB; obtain ⟨HO_212002, BK204, BK211, HB⟩ := z_; (try clear hb); (try clear hb2); (try clear hk); (try clear hi); have hcz59_0 : w58.cell? ⟨gb204, 0, none⟩ = some (.slice A0_0 l0_0.length c0_0) := (blk_cell BK204.out 0).trans rfl; have hcz59_1 : w58.cell? ⟨gb204, 1, none⟩ = some (.slice A0_1 l0_1.length c0_1) := (blk_cell BK204.out 1).trans rfl; have hcz59_2 : w58.cell? ⟨gb204, 2, none⟩ = some (.int .i64 a0_2) := (blk_cell BK204.out 2).trans rfl; have hcz59_3 : w58.cell? ⟨gb204, 3, none⟩ = some (.int .i64 a0_3) := (blk_cell BK204.out 3).trans rfl; have hfz59_0 := blk_frozen BK204.out 0; have hfz59_1 := blk_frozen BK204.out 1; have hfz59_2 := blk_frozen BK204.out 2; have hfz59_3 := blk_frozen BK204.out 3; have hcz60_0 : w58.cell? ⟨gb211, 0, none⟩ = some (.int .i64 x212000_1) := (blk_cell BK211.out 0).trans rfl; have hcz60_1 : w58.cell? ⟨gb211, 1, none⟩ = some (.bool x212001_1) := (blk_cell BK211.out 1).trans rfl; have hcz60_2 : w58.cell? ⟨gb211, 2, none⟩ = some (.slice Ao57 x212002_1.length co57) := (blk_cell BK211.out 2).trans rfl; have hfz60_0 := blk_frozen BK211.out 0; have hfz60_1 := blk_frozen BK211.out 1; have hfz60_2 := blk_frozen BK211.out 2) | (go_at_call 25; (with_reducible refine (culetref49_finished.calls k1 _ _ l0_0 _ _ l0_1 a0_2 a0_3 x212000_1 x212001_1 _ _ x212002_1 2 false _ ?side1 ?side2 ?side3 ?side4 ?side5 ?side6 A44.out).mono ?_); (case side1 => exact mc_ (Kd.C_below HR0_0.out HB.out)); (case side2 => exact HC0_0.out); (case side3 => exact mc_ (Kd.C_below HR0_1.out HB.out)); (case side4 => exact HC0_1.out); (case side5 => exact mc_ (Kd.R_reads' HO_212002.out).2.2); (case side6 => exact (Kd.R_reads' HO_212002.out).2.1); rintro e w61 ⟨rfl, hb⟩; have z_ := aI (am_ (Kd.R_below (mr_ HO_212002.out) hb)) (aI (am_ (blk_below (mk_ BK204.out) hb)) (aI (am_ (blk_below (mk_ BK211.out) hb)) (am_ (below_step (mb_ HB.out) hb)))); clear HO_212002 BK204 BK211 HB; obtain ⟨HO_212002, BK204, BK211, HB⟩ := z_; (try clear hb); (try clear hb2); (try clear hk); (try clear hi)))
       go_ret2
       exact ⟨by first | rfl | (simp [errW_none, errW_some] <;> rfl) | (simp [*, errW_none, errW_some] <;> rfl), mb_ HB.out⟩
     ·
      replace c43 := Bool.eq_false_iff.mpr c43
      subst c43
      have H1 : (some ((l1.length : Int), 9)) = some (r1, r2) := by rw [if_neg (show ¬ (false = true) by decide)] at H; exact H
      clear H
      have H := H1
      clear H1
      simp only [Option.some.injEq, Prod.mk.injEq] at H
      obtain ⟨rfl, rfl⟩ := H
      have hnb62 := NB204_211.out
      have hnc62 := NB211_204.out
      have hcz63_0 : wr.cell? ⟨gb204, 0, none⟩ = some (.slice A0_0 l0_0.length c0_0) := (blk_cell BK204.out 0).trans rfl
      have hcz63_1 : wr.cell? ⟨gb204, 1, none⟩ = some (.slice A0_1 l0_1.length c0_1) := (blk_cell BK204.out 1).trans rfl
      have hcz63_2 : wr.cell? ⟨gb204, 2, none⟩ = some (.int .i64 a0_2) := (blk_cell BK204.out 2).trans rfl
      have hcz63_3 : wr.cell? ⟨gb204, 3, none⟩ = some (.int .i64 a0_3) := (blk_cell BK204.out 3).trans rfl
      have hfz63_0 := blk_frozen BK204.out 0
      have hfz63_1 := blk_frozen BK204.out 1
      have hfz63_2 := blk_frozen BK204.out 2
      have hfz63_3 := blk_frozen BK204.out 3
      have hcz64_0 : wr.cell? ⟨gb211, 0, none⟩ = some (.int .i64 x212000_1) := (blk_cell BK211.out 0).trans rfl
      have hcz64_1 : wr.cell? ⟨gb211, 1, none⟩ = some (.bool x212001_1) := (blk_cell BK211.out 1).trans rfl
      have hcz64_2 : wr.cell? ⟨gb211, 2, none⟩ = some (u212002) := (blk_cell BK211.out 2).trans rfl
      have hfz64_0 := blk_frozen BK211.out 0
      have hfz64_1 := blk_frozen BK211.out 1
      have hfz64_2 := blk_frozen BK211.out 2
      obtain ⟨Ao65, co65, eo65⟩ := Kd.R_slice HO_212002.out
      subst eo65
      go_wp2_with (first | ((with_reducible refine gate_callee (f := 25) rfl ?_); refine goesL_ (some 37) rfl rfl Tryd.func25 (by kernel_rfl) rfl #[.agg #[.slice A0_0 l0_0.length c0_0, .slice A0_1 l0_1.length c0_1, .int .i64 a0_2, .int .i64 a0_3], .agg #[.int .i64 x212000_1, .bool x212001_1, .slice Ao65 x212002_1.length co65], .int .i64 1] rfl ml_ ?_; (with_reducible refine (culetref49_finished.calls k1 _ _ l0_0 _ _ l0_1 a0_2 a0_3 x212000_1 x212001_1 _ _ x212002_1 1 false _ ?side1 ?side2 ?side3 ?side4 ?side5 ?side6 A42.out).mono ?_); (case side1 => exact mc_ (Kd.C_below HR0_0.out HB.out)); (case side2 => exact HC0_0.out); (case side3 => exact mc_ (Kd.C_below HR0_1.out HB.out)); (case side4 => exact HC0_1.out); (case side5 => exact mc_ (Kd.R_reads' HO_212002.out).2.2); (case side6 => exact (Kd.R_reads' HO_212002.out).2.1); rintro e w66 ⟨rfl, hb⟩; refine ⟨_, rfl, ?_⟩; have n0_ := am_ (Kd.R_below (mr_ HO_212002.out) hb); have n1_ := am_ (blk_below (mk_ BK204.out) hb); have n2_ := am_ (blk_below (mk_ BK211.out) hb); have n3_ := am_ (below_step (mb_ HB.out) hb); clear HO_212002 BK204 BK211 HB; have HO_212002 := n0_; have BK204 := n1_; have BK211 := n2_; have HB := n3_; clear n0_ n1_ n2_ n3_; (try clear hb); (try clear hb2); (try clear hk); (try clear hi)))
      go_ret2
      exact ⟨by first | rfl | (simp [errW_none, errW_some] <;> rfl) | (simp [*, errW_none, errW_some] <;> rfl), mb_ HB.out⟩
 ·
  replace c4 := Bool.eq_false_iff.mpr c4
  subst c4
  have H1 : (some (0, 1)) = some (r1, r2) := by rw [if_neg (show ¬ (false = true) by decide)] at H; exact H
  clear H
  have H := H1
  clear H1
  simp only [Option.some.injEq, Prod.mk.injEq] at H
  obtain ⟨rfl, rfl⟩ := H
  go_enter Tryd.func9, Tryd.ntmps9
  go_wp2_with (first | ((with_reducible refine gate_dst (N := 2) rfl ?_); refine bev (N := 2) (cs := #[.slice A0_0 l0_0.length c0_0, .slice A0_1 l0_1.length c0_1, .int .i64 a0_2, .int .i64 a0_3]) (t := 25) ?_; intro gb204 hg w67 hbox hb; have z_ := aI (am_ (below_step (mb_ HB.out) hb)) (aI (am_ (hbox)) (aI (am_ ((bz_ hg (mb_ HB.out) : w.heap.size ≤ gb204))) (am_ ((bz_ hg (mb_ HB.out) : w.heap.size ≤ gb204))))); clear HB; obtain ⟨HB, BK204, GW204, GE204⟩ := z_; clear hb hbox hg; have hcz68_0 : w67.cell? ⟨gb204, 0, none⟩ = some (.slice A0_0 l0_0.length c0_0) := (blk_cell BK204.out 0).trans rfl; have hcz68_1 : w67.cell? ⟨gb204, 1, none⟩ = some (.slice A0_1 l0_1.length c0_1) := (blk_cell BK204.out 1).trans rfl; have hcz68_2 : w67.cell? ⟨gb204, 2, none⟩ = some (.int .i64 a0_2) := (blk_cell BK204.out 2).trans rfl; have hcz68_3 : w67.cell? ⟨gb204, 3, none⟩ = some (.int .i64 a0_3) := (blk_cell BK204.out 3).trans rfl; have hfz68_0 := blk_frozen BK204.out 0; have hfz68_1 := blk_frozen BK204.out 1; have hfz68_2 := blk_frozen BK204.out 2; have hfz68_3 := blk_frozen BK204.out 3) | ((with_reducible refine gate_callee (f := 22) rfl ?_); refine goesL_ (some 11) rfl rfl Tryd.func22 (by kernel_rfl) rfl #[.agg #[.slice A0_0 l0_0.length c0_0, .slice A0_1 l0_1.length c0_1, .int .i64 a0_2, .int .i64 a0_3]] rfl ml_ ?_; (with_reducible refine (culetref49_Valid.calls k _ _ l0_0 _ _ l0_1 a0_2 a0_3 false _ ?side1 ?side2 ?side3 ?side4 A3.out).mono ?_); (case side1 => exact mc_ (Kd.C_below HR0_0.out HB.out)); (case side2 => exact HC0_0.out); (case side3 => exact mc_ (Kd.C_below HR0_1.out HB.out)); (case side4 => exact HC0_1.out); rintro e w69 ⟨rfl, hb⟩; refine ⟨_, rfl, ?_⟩; have z_ := aI (am_ (blk_below (mk_ BK204.out) hb)) (am_ (below_step (mb_ HB.out) hb)); clear BK204 HB; obtain ⟨BK204, HB⟩ := z_; (try clear hb); (try clear hb2); (try clear hk); (try clear hi)))
  go_ret2
  exact ⟨by first | rfl | (simp [errW_none, errW_some] <;> rfl) | (simp [*, errW_none, errW_some] <;> rfl), mb_ HB.out⟩

end Go.Proofs.YtalhpnfapagamaaDoor.S
