-- Written by this session's own programs; what the law does not lean on is left out. Lean checks it.
import Derived.Test.YtalhpnfapagamaaDoorAS
import Derived.Test.YtalhpnfapagamaaDoorASx24
namespace Go.Proofs.YtalhpnfapagamaaDoor.S
open Go.RowKit Go.Proofs.YtalhpnfapagamaaDoorW.PrintWords Go.Proofs.YtalhpnfapagamaaDoorW.PrintLast Go.Proofs.YtalhpnfapagamaaDoorW.PrintMore Go.Proofs.YtalhpnfapagamaaDoorD
set_option linter.unusedVariables false
set_option linter.unusedSimpArgs false

def culetref49_finished.l0 : Nat → List Int → Int → List (S55) → List (S56) → Int → Int → Int → Bool → List Int → Option (Bool)
 | 0, _, _, _, _, _, _, _, _, _ => none
 | k + 1, x7, x8, x171000, x171001, x171002, x171003, x172000, x172001, x172002 => if x8 < (x7.length : Int) then (if 0 ≤ x8 then (if 0 ≤ (rd x7 x8) then (if (rd x7 x8) < (x172002.length : Int) then (if (rd x172002 (rd x7 x8)) < (x171000.length : Int) then (some false) else (culetref49_finished.l0 k x7 (wrap64 (x8 + 1)) x171000 x171001 x171002 x171003 x172000 x172001 x172002)) else (none)) else (none)) else (none)) else (some true)
def culetref49_finished.f (k : Nat) (l0_0 : List (S55)) (l0_1 : List (S56)) (a0_2 : Int) (a0_3 : Int) (a1_0 : Int) (a1_1 : Bool) (l1_2 : List Int) (a2 : Int) : Option (Bool) := (culetref49_works.f k l0_0 l0_1 a0_2 a0_3 a2).bind fun t172 => (culetref49_finished.l0 k t172 0 l0_0 l0_1 a0_2 a0_3 a1_0 a1_1 l1_2)
set_option maxHeartbeats 8000000 in
set_option maxRecDepth 100000 in
theorem culetref49_finished.calls (k : Nat) (A0_0 : Option Addr) (c0_0 : Nat) (l0_0 : List (S55)) (A0_1 : Option Addr) (c0_1 : Nat) (l0_1 : List (S56)) (a0_2 : Int) (a0_3 : Int) (a1_0 : Int) (a1_1 : Bool) (A1_2 : Option Addr) (c1_2 : Nat) (l1_2 : List Int) (a2 : Int) (r : Bool) (w : World) (hr0_0 : Kd.C k55 w A0_0 l0_0.length l0_0) (hc0_0 : l0_0.length ≤ c0_0) (hr0_1 : Kd.C k56 w A0_1 l0_1.length l0_1) (hc0_1 : l0_1.length ≤ c0_1) (hr1_2 : Kd.C (Kd.int .i64) w A1_2 l1_2.length l1_2) (hc1_2 : l1_2.length ≤ c1_2) (h : culetref49_finished.f k l0_0 l0_1 a0_2 a0_3 a1_0 a1_1 l1_2 a2 = some r) :
  Calls Tryd.prog 25 #[.agg #[.slice A0_0 l0_0.length c0_0, .slice A0_1 l0_1.length c0_1, .int .i64 a0_2, .int .i64 a0_3], .agg #[.int .i64 a1_0, .bool a1_1, .slice A1_2 l1_2.length c1_2], .int .i64 a2] w fun e w' => e = .returned (.bool r) ∧ Below w.heap.size w w' := by
 have hu25 := Tryd.underlying25
 have hu66 := Tryd.underlying66
 have HR0_0 := am_ hr0_0
 have HC0_0 := am_ hc0_0
 clear hr0_0 hc0_0
 have HR0_1 := am_ hr0_1
 have HC0_1 := am_ hc0_1
 clear hr0_1 hc0_1
 have HR1_2 := am_ hr1_2
 have HC1_2 := am_ hc1_2
 clear hr1_2 hc1_2
 have HB := am_ (Below.refl w.heap.size w)
 have H : ((culetref49_works.f k l0_0 l0_1 a0_2 a0_3 a2).bind fun t172 => (culetref49_finished.l0 k t172 0 l0_0 l0_1 a0_2 a0_3 a1_0 a1_1 l1_2)) = some r := h
 clear h
 replace H := Option.bind_eq_some_iff.mp H
 obtain ⟨t172, A40, H⟩ := H
 replace H : (culetref49_finished.l0 k t172 0 l0_0 l0_1 a0_2 a0_3 a1_0 a1_1 l1_2) = some r := H
 have A4 := am_ A40
 clear A40
 have H' := am_ H
 clear H
 go_enter Tryd.func25, Tryd.ntmps25
 go_wp2_with (first | ((with_reducible refine gate_dst (N := 3) rfl ?_); refine bev (N := 3) (cs := #[.slice A0_0 l0_0.length c0_0, .slice A0_1 l0_1.length c0_1, .int .i64 a0_2, .int .i64 a0_3]) (t := 25) ?_; intro gb170 hg w5 hbox hb; have z_ := aI (am_ (below_step (mb_ HB.out) hb)) (aI (am_ (hbox)) (aI (am_ ((bz_ hg (mb_ HB.out) : w.heap.size ≤ gb170))) (am_ ((bz_ hg (mb_ HB.out) : w.heap.size ≤ gb170))))); clear HB; obtain ⟨HB, BK170, GW170, GE170⟩ := z_; clear hb hbox hg) | ((with_reducible refine gate_dst (N := 4) rfl ?_); refine bev (N := 4) (cs := #[.int .i64 a1_0, .bool a1_1, .slice A1_2 l1_2.length c1_2]) (t := 66) ?_; intro gb171 hg w6 hbox hb; have z_ := aI (am_ (blk_below (mk_ BK170.out) hb)) (aI (am_ (below_step (mb_ HB.out) hb)) (aI (am_ (hbox)) (aI (am_ ((bz_ hg (mb_ HB.out) : w.heap.size ≤ gb171))) (aI (am_ ((bz_ hg (mb_ HB.out) : w.heap.size ≤ gb171))) (aI (am_ ((nl_ hg (mk_ BK170.out) : gb170 ≠ gb171))) (am_ ((ng_ hg (mk_ BK170.out) : gb171 ≠ gb170)))))))); clear BK170 HB; obtain ⟨BK170, HB, BK171, GW171, GE171, NB170_171, NB171_170⟩ := z_; clear hb hbox hg; have hnb7 := NB170_171.out; have hnc7 := NB171_170.out; have hcz8_0 : w6.cell? ⟨gb170, 0, none⟩ = some (.slice A0_0 l0_0.length c0_0) := (blk_cell BK170.out 0).trans rfl; have hcz8_1 : w6.cell? ⟨gb170, 1, none⟩ = some (.slice A0_1 l0_1.length c0_1) := (blk_cell BK170.out 1).trans rfl; have hcz8_2 : w6.cell? ⟨gb170, 2, none⟩ = some (.int .i64 a0_2) := (blk_cell BK170.out 2).trans rfl; have hcz8_3 : w6.cell? ⟨gb170, 3, none⟩ = some (.int .i64 a0_3) := (blk_cell BK170.out 3).trans rfl; have hfz8_0 := blk_frozen BK170.out 0; have hfz8_1 := blk_frozen BK170.out 1; have hfz8_2 := blk_frozen BK170.out 2; have hfz8_3 := blk_frozen BK170.out 3) | (go_at_call 39; (with_reducible refine (culetref49_works.calls k _ _ l0_0 _ _ l0_1 a0_2 a0_3 a2 t172 _ ?side1 ?side2 ?side3 ?side4 A4.out).mono ?_); (case side1 => exact mc_ (Kd.C_below HR0_0.out HB.out)); (case side2 => exact HC0_0.out); (case side3 => exact mc_ (Kd.C_below HR0_1.out HB.out)); (case side4 => exact HC0_1.out); rintro e w9 ⟨v173, rfl, ho0, hb⟩; have z_ := aI (am_ (Kd.R_lower ho0 (below_size (mb_ HB.out)))) (aI (am_ (blk_below (mk_ BK170.out) hb)) (aI (am_ (blk_below (mk_ BK171.out) hb)) (am_ (below_step (mb_ HB.out) hb)))); clear BK170 BK171 HB; obtain ⟨HO174, BK170, BK171, HB⟩ := z_; (try clear hb); (try clear hb2); (try clear hk); (try clear hi); (try clear ho0)))
 repeat (go_quiet (first | ((with_reducible refine gate_dst (N := 3) rfl ?_); refine bev (N := 3) (cs := #[.slice A0_0 l0_0.length c0_0, .slice A0_1 l0_1.length c0_1, .int .i64 a0_2, .int .i64 a0_3]) (t := 25) ?_; intro gb170 hg w5 hbox hb; have z_ := aI (am_ (below_step (mb_ HB.out) hb)) (aI (am_ (hbox)) (aI (am_ ((bz_ hg (mb_ HB.out) : w.heap.size ≤ gb170))) (am_ ((bz_ hg (mb_ HB.out) : w.heap.size ≤ gb170))))); clear HB; obtain ⟨HB, BK170, GW170, GE170⟩ := z_; clear hb hbox hg) | ((with_reducible refine gate_dst (N := 4) rfl ?_); refine bev (N := 4) (cs := #[.int .i64 a1_0, .bool a1_1, .slice A1_2 l1_2.length c1_2]) (t := 66) ?_; intro gb171 hg w6 hbox hb; have z_ := aI (am_ (blk_below (mk_ BK170.out) hb)) (aI (am_ (below_step (mb_ HB.out) hb)) (aI (am_ (hbox)) (aI (am_ ((bz_ hg (mb_ HB.out) : w.heap.size ≤ gb171))) (aI (am_ ((bz_ hg (mb_ HB.out) : w.heap.size ≤ gb171))) (aI (am_ ((nl_ hg (mk_ BK170.out) : gb170 ≠ gb171))) (am_ ((ng_ hg (mk_ BK170.out) : gb171 ≠ gb170)))))))); clear BK170 HB; obtain ⟨BK170, HB, BK171, GW171, GE171, NB170_171, NB171_170⟩ := z_; clear hb hbox hg; have hnb7 := NB170_171.out; have hnc7 := NB171_170.out; have hcz8_0 : w6.cell? ⟨gb170, 0, none⟩ = some (.slice A0_0 l0_0.length c0_0) := (blk_cell BK170.out 0).trans rfl; have hcz8_1 : w6.cell? ⟨gb170, 1, none⟩ = some (.slice A0_1 l0_1.length c0_1) := (blk_cell BK170.out 1).trans rfl; have hcz8_2 : w6.cell? ⟨gb170, 2, none⟩ = some (.int .i64 a0_2) := (blk_cell BK170.out 2).trans rfl; have hcz8_3 : w6.cell? ⟨gb170, 3, none⟩ = some (.int .i64 a0_3) := (blk_cell BK170.out 3).trans rfl; have hfz8_0 := blk_frozen BK170.out 0; have hfz8_1 := blk_frozen BK170.out 1; have hfz8_2 := blk_frozen BK170.out 2; have hfz8_3 := blk_frozen BK170.out 3) | (go_at_call 39; (with_reducible refine (culetref49_works.calls k _ _ l0_0 _ _ l0_1 a0_2 a0_3 a2 t172 _ ?side1 ?side2 ?side3 ?side4 A4.out).mono ?_); (case side1 => exact mc_ (Kd.C_below HR0_0.out HB.out)); (case side2 => exact HC0_0.out); (case side3 => exact mc_ (Kd.C_below HR0_1.out HB.out)); (case side4 => exact HC0_1.out); rintro e w9 ⟨v173, rfl, ho0, hb⟩; have z_ := aI (am_ (Kd.R_lower ho0 (below_size (mb_ HB.out)))) (aI (am_ (blk_below (mk_ BK170.out) hb)) (aI (am_ (blk_below (mk_ BK171.out) hb)) (am_ (below_step (mb_ HB.out) hb)))); clear BK170 BK171 HB; obtain ⟨HO174, BK170, BK171, HB⟩ := z_; (try clear hb); (try clear hb2); (try clear hk); (try clear hi); (try clear ho0))); try go_wp2_with (first | ((with_reducible refine gate_dst (N := 3) rfl ?_); refine bev (N := 3) (cs := #[.slice A0_0 l0_0.length c0_0, .slice A0_1 l0_1.length c0_1, .int .i64 a0_2, .int .i64 a0_3]) (t := 25) ?_; intro gb170 hg w5 hbox hb; have z_ := aI (am_ (below_step (mb_ HB.out) hb)) (aI (am_ (hbox)) (aI (am_ ((bz_ hg (mb_ HB.out) : w.heap.size ≤ gb170))) (am_ ((bz_ hg (mb_ HB.out) : w.heap.size ≤ gb170))))); clear HB; obtain ⟨HB, BK170, GW170, GE170⟩ := z_; clear hb hbox hg) | ((with_reducible refine gate_dst (N := 4) rfl ?_); refine bev (N := 4) (cs := #[.int .i64 a1_0, .bool a1_1, .slice A1_2 l1_2.length c1_2]) (t := 66) ?_; intro gb171 hg w6 hbox hb; have z_ := aI (am_ (blk_below (mk_ BK170.out) hb)) (aI (am_ (below_step (mb_ HB.out) hb)) (aI (am_ (hbox)) (aI (am_ ((bz_ hg (mb_ HB.out) : w.heap.size ≤ gb171))) (aI (am_ ((bz_ hg (mb_ HB.out) : w.heap.size ≤ gb171))) (aI (am_ ((nl_ hg (mk_ BK170.out) : gb170 ≠ gb171))) (am_ ((ng_ hg (mk_ BK170.out) : gb171 ≠ gb170)))))))); clear BK170 HB; obtain ⟨BK170, HB, BK171, GW171, GE171, NB170_171, NB171_170⟩ := z_; clear hb hbox hg; have hnb7 := NB170_171.out; have hnc7 := NB171_170.out; have hcz8_0 : w6.cell? ⟨gb170, 0, none⟩ = some (.slice A0_0 l0_0.length c0_0) := (blk_cell BK170.out 0).trans rfl; have hcz8_1 : w6.cell? ⟨gb170, 1, none⟩ = some (.slice A0_1 l0_1.length c0_1) := (blk_cell BK170.out 1).trans rfl; have hcz8_2 : w6.cell? ⟨gb170, 2, none⟩ = some (.int .i64 a0_2) := (blk_cell BK170.out 2).trans rfl; have hcz8_3 : w6.cell? ⟨gb170, 3, none⟩ = some (.int .i64 a0_3) := (blk_cell BK170.out 3).trans rfl; have hfz8_0 := blk_frozen BK170.out 0; have hfz8_1 := blk_frozen BK170.out 1; have hfz8_2 := blk_frozen BK170.out 2; have hfz8_3 := blk_frozen BK170.out 3) | (go_at_call 39; (with_reducible refine (culetref49_works.calls k _ _ l0_0 _ _ l0_1 a0_2 a0_3 a2 t172 _ ?side1 ?side2 ?side3 ?side4 A4.out).mono ?_); (case side1 => exact mc_ (Kd.C_below HR0_0.out HB.out)); (case side2 => exact HC0_0.out); (case side3 => exact mc_ (Kd.C_below HR0_1.out HB.out)); (case side4 => exact HC0_1.out); rintro e w9 ⟨v173, rfl, ho0, hb⟩; have z_ := aI (am_ (Kd.R_lower ho0 (below_size (mb_ HB.out)))) (aI (am_ (blk_below (mk_ BK170.out) hb)) (aI (am_ (blk_below (mk_ BK171.out) hb)) (am_ (below_step (mb_ HB.out) hb)))); clear BK170 BK171 HB; obtain ⟨HO174, BK170, BK171, HB⟩ := z_; (try clear hb); (try clear hb2); (try clear hk); (try clear hi); (try clear ho0))))
 go_loopg [8] k (fun kq v8 w' => ∃ (x8_1 : Int), v8 = .int .i64 x8_1 ∧ Aside0 (culetref49_finished.l0 kq t172 x8_1 l0_0 l0_1 a0_2 a0_3 a1_0 a1_1 l1_2 = some r) ∧ Aside0 (kq ≤ k) ∧ Aside0 (Kd.R (Kd.int .i64) 3 w' w.heap.size (fun _ => True) v173 t172) ∧ Aside0 (w'.heap[gb170]? = some (.cells #[(.slice A0_0 l0_0.length c0_0), (.slice A0_1 l0_1.length c0_1), .int .i64 a0_2, .int .i64 a0_3] 25 (0, 0))) ∧ Aside0 (w'.heap[gb171]? = some (.cells #[.int .i64 a1_0, .bool a1_1, (.slice A1_2 l1_2.length c1_2)] 66 (0, 0))) ∧ Aside0 (Below w.heap.size w w'))
 case atStart => exact ⟨(0), rs_, H', ⟨Nat.le_refl _⟩, ⟨by (with_reducible repeat (first | apply Kd.R_alloc | apply Kd.R_drewN | apply Kd.R_drew)); exact HO174.out⟩, ⟨by (with_reducible repeat (first | refine blk_drewN ?_ _ | refine blk_drew ?_ | refine blk_alloc ?_ _)); exact BK170.out⟩, ⟨by (with_reducible repeat (first | refine blk_drewN ?_ _ | refine blk_drew ?_ | refine blk_alloc ?_ _)); exact BK171.out⟩, ⟨mb_ HB.out⟩⟩
 case round =>
  clear H'
  try clear c1
  try clear c2
  try clear p2
  try clear c7
  try clear hcz8_0
  try clear hcz8_1
  try clear hcz8_2
  try clear hcz8_3
  try clear hfz8_0
  try clear hfz8_1
  try clear hfz8_2
  try clear hfz8_3
  obtain ⟨x8_1, rfl, HA, HK1, HO_7, BK170, BK171, HB⟩ := hrel
  cases gk with
  | zero => exact absurd HA.out (by simp [culetref49_finished.l0])
  | succ k1 =>
   have H := HA.out
   clear HA
   simp only [culetref49_finished.l0] at H
   by_cases c10 : x8_1 < (t172.length : Int)
   ·
    rw [if_pos c10] at H
    have c10b0 : decide (x8_1 < (t172.length : Int)) = true := decide_eq_true c10
    clear c10
    by_cases c11 : 0 ≤ x8_1
    ·
     rw [if_pos c11] at H
     have c11b0 : decide (0 ≤ x8_1) = true := decide_eq_true c11
     clear c11
     by_cases c12 : 0 ≤ (rd t172 x8_1)
     ·
      rw [if_pos c12] at H
      have c12b0 : decide (0 ≤ (rd t172 x8_1)) = true := decide_eq_true c12
      clear c12
      by_cases c13 : (rd t172 x8_1) < (l1_2.length : Int)
      ·
       rw [if_pos c13] at H
       have c13b0 : decide ((rd t172 x8_1) < (l1_2.length : Int)) = true := decide_eq_true c13
       clear c13
       by_cases c14 : (rd l1_2 (rd t172 x8_1)) < (l0_0.length : Int)
       ·
        rw [if_pos c14] at H
        have c14b0 : decide ((rd l1_2 (rd t172 x8_1)) < (l0_0.length : Int)) = true := decide_eq_true c14
        clear c14
        obtain rfl := Option.some.inj H
        obtain ⟨Ao15, co15, eo15⟩ := Kd.R_slice HO_7.out
        subst eo15
        have hnb16 := NB171_170.out
        have hnc16 := NB170_171.out
        have hcz17_0 : wr.cell? ⟨gb171, 0, none⟩ = some (.int .i64 a1_0) := (blk_cell BK171.out 0).trans rfl
        have hcz17_1 : wr.cell? ⟨gb171, 1, none⟩ = some (.bool a1_1) := (blk_cell BK171.out 1).trans rfl
        have hcz17_2 : wr.cell? ⟨gb171, 2, none⟩ = some (.slice A1_2 l1_2.length c1_2) := (blk_cell BK171.out 2).trans rfl
        have hfz17_0 := blk_frozen BK171.out 0
        have hfz17_1 := blk_frozen BK171.out 1
        have hfz17_2 := blk_frozen BK171.out 2
        have p175 : 0 ≤ (x8_1 : Int) := of_decide_eq_true as_
        have q175 : x8_1 < (t172.length : Int) := of_decide_eq_true as_
        obtain ⟨ad175, e175, hx175_0⟩ := Kd.at_int (Kd.R_reads' HO_7.out).2.2 x8_1 p175 q175
        cases e175
        replace p175 := eq_true p175
        replace q175 := eq_true q175
        have p176 : 0 ≤ ((rd t172 x8_1) : Int) := of_decide_eq_true as_
        have q176 : (rd t172 x8_1) < (l1_2.length : Int) := of_decide_eq_true as_
        obtain ⟨ad176, e176, hx176_0⟩ := Kd.at_int HR1_2.out (rd t172 x8_1) p176 q176
        cases e176
        replace hx176_0 := (HB.out.cell (World.block_lt_of_cell? w _ hx176_0)).trans hx176_0
        replace p176 := eq_true p176
        replace q176 := eq_true q176
        have hcz18_0 : wr.cell? ⟨gb170, 0, none⟩ = some (.slice A0_0 l0_0.length c0_0) := (blk_cell BK170.out 0).trans rfl
        have hcz18_1 : wr.cell? ⟨gb170, 1, none⟩ = some (.slice A0_1 l0_1.length c0_1) := (blk_cell BK170.out 1).trans rfl
        have hcz18_2 : wr.cell? ⟨gb170, 2, none⟩ = some (.int .i64 a0_2) := (blk_cell BK170.out 2).trans rfl
        have hcz18_3 : wr.cell? ⟨gb170, 3, none⟩ = some (.int .i64 a0_3) := (blk_cell BK170.out 3).trans rfl
        have hfz18_0 := blk_frozen BK170.out 0
        have hfz18_1 := blk_frozen BK170.out 1
        have hfz18_2 := blk_frozen BK170.out 2
        have hfz18_3 := blk_frozen BK170.out 3
        go_wp2
        repeat (go_quiet (fail); try go_wp2)
        go_ret
        exact ⟨by first | rfl | (simp [errW_none, errW_some] <;> rfl) | (simp [*, errW_none, errW_some] <;> rfl), mb_ HB.out⟩
       ·
        rw [if_neg c14] at H
        have c14b0 : decide ((rd l1_2 (rd t172 x8_1)) < (l0_0.length : Int)) = false := decide_eq_false c14
        clear c14
        have H' := am_ H
        clear H
        obtain ⟨Ao19, co19, eo19⟩ := Kd.R_slice HO_7.out
        subst eo19
        have hnb20 := NB171_170.out
        have hnc20 := NB170_171.out
        have hcz21_0 : wr.cell? ⟨gb171, 0, none⟩ = some (.int .i64 a1_0) := (blk_cell BK171.out 0).trans rfl
        have hcz21_1 : wr.cell? ⟨gb171, 1, none⟩ = some (.bool a1_1) := (blk_cell BK171.out 1).trans rfl
        have hcz21_2 : wr.cell? ⟨gb171, 2, none⟩ = some (.slice A1_2 l1_2.length c1_2) := (blk_cell BK171.out 2).trans rfl
        have hfz21_0 := blk_frozen BK171.out 0
        have hfz21_1 := blk_frozen BK171.out 1
        have hfz21_2 := blk_frozen BK171.out 2
        have p175 : 0 ≤ (x8_1 : Int) := of_decide_eq_true as_
        have q175 : x8_1 < (t172.length : Int) := of_decide_eq_true as_
        obtain ⟨ad175, e175, hx175_0⟩ := Kd.at_int (Kd.R_reads' HO_7.out).2.2 x8_1 p175 q175
        cases e175
        replace p175 := eq_true p175
        replace q175 := eq_true q175
        have p176 : 0 ≤ ((rd t172 x8_1) : Int) := of_decide_eq_true as_
        have q176 : (rd t172 x8_1) < (l1_2.length : Int) := of_decide_eq_true as_
        obtain ⟨ad176, e176, hx176_0⟩ := Kd.at_int HR1_2.out (rd t172 x8_1) p176 q176
        cases e176
        replace hx176_0 := (HB.out.cell (World.block_lt_of_cell? w _ hx176_0)).trans hx176_0
        replace p176 := eq_true p176
        replace q176 := eq_true q176
        have hcz22_0 : wr.cell? ⟨gb170, 0, none⟩ = some (.slice A0_0 l0_0.length c0_0) := (blk_cell BK170.out 0).trans rfl
        have hcz22_1 : wr.cell? ⟨gb170, 1, none⟩ = some (.slice A0_1 l0_1.length c0_1) := (blk_cell BK170.out 1).trans rfl
        have hcz22_2 : wr.cell? ⟨gb170, 2, none⟩ = some (.int .i64 a0_2) := (blk_cell BK170.out 2).trans rfl
        have hcz22_3 : wr.cell? ⟨gb170, 3, none⟩ = some (.int .i64 a0_3) := (blk_cell BK170.out 3).trans rfl
        have hfz22_0 := blk_frozen BK170.out 0
        have hfz22_1 := blk_frozen BK170.out 1
        have hfz22_2 := blk_frozen BK170.out 2
        have hfz22_3 := blk_frozen BK170.out 3
        go_wp2
        repeat (go_quiet (fail); try go_wp2)
        go_roundg k1
        case measure => have := HK1.out; omega
        case rel => exact ⟨(wrap64 (x8_1 + 1)), rs_, H', ⟨by have := HK1.out; omega⟩, ⟨by (with_reducible repeat (first | apply Kd.R_alloc | apply Kd.R_drewN | apply Kd.R_drew)); exact HO_7.out⟩, ⟨by (with_reducible repeat (first | refine blk_drewN ?_ _ | refine blk_drew ?_ | refine blk_alloc ?_ _)); exact BK170.out⟩, ⟨by (with_reducible repeat (first | refine blk_drewN ?_ _ | refine blk_drew ?_ | refine blk_alloc ?_ _)); exact BK171.out⟩, ⟨mb_ HB.out⟩⟩
      ·
       rw [if_neg c13] at H
       exact absurd H (by simp)
     ·
      rw [if_neg c12] at H
      exact absurd H (by simp)
    ·
     rw [if_neg c11] at H
     exact absurd H (by simp)
   ·
    rw [if_neg c10] at H
    have c10b0 : decide (x8_1 < (t172.length : Int)) = false := decide_eq_false c10
    clear c10
    obtain rfl := Option.some.inj H
    obtain ⟨Ao23, co23, eo23⟩ := Kd.R_slice HO_7.out
    subst eo23
    go_wp2
    repeat (go_quiet (fail); try go_wp2)
    go_ret
    exact ⟨by first | rfl | (simp [errW_none, errW_some] <;> rfl) | (simp [*, errW_none, errW_some] <;> rfl), mb_ HB.out⟩

end Go.Proofs.YtalhpnfapagamaaDoor.S
