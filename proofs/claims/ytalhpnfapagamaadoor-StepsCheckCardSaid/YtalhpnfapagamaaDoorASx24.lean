-- Written by this session's own programs; what the law does not lean on is left out. Lean checks it.
import Derived.Test.YtalhpnfapagamaaDoorAS
namespace Go.Proofs.YtalhpnfapagamaaDoor.S
open Go.RowKit Go.Proofs.YtalhpnfapagamaaDoorW.PrintWords Go.Proofs.YtalhpnfapagamaaDoorW.PrintLast Go.Proofs.YtalhpnfapagamaaDoorW.PrintMore Go.Proofs.YtalhpnfapagamaaDoorD
set_option linter.unusedVariables false
set_option linter.unusedSimpArgs false

def culetref49_works.l0 : Nat → Int → List Int → Int → List (S55) → List (S56) → Int → Int → Option (List Int)
 | 0, _, _, _, _, _, _, _ => none
 | k + 1, x1, x5, x6, x166000, x166001, x166002, x166003 => if x6 < (x166001.length : Int) then (if 0 ≤ x6 then (if ((rd_T56 x166001 x6).f1) = x1 then (if x5.length < 17592186044416 then (culetref49_works.l0 k x1 (x5 ++ [x6]) (wrap64 (x6 + 1)) x166000 x166001 x166002 x166003) else (none)) else (culetref49_works.l0 k x1 x5 (wrap64 (x6 + 1)) x166000 x166001 x166002 x166003)) else (none)) else (some x5)
def culetref49_works.f (k : Nat) (l0_0 : List (S55)) (l0_1 : List (S56)) (a0_2 : Int) (a0_3 : Int) (a1 : Int) : Option (List Int) := culetref49_works.l0 k a1 ([] : List Int) 0 l0_0 l0_1 a0_2 a0_3
set_option maxHeartbeats 8000000 in
set_option maxRecDepth 100000 in
theorem culetref49_works.calls (k : Nat) (A0_0 : Option Addr) (c0_0 : Nat) (l0_0 : List (S55)) (A0_1 : Option Addr) (c0_1 : Nat) (l0_1 : List (S56)) (a0_2 : Int) (a0_3 : Int) (a1 : Int) (r : List Int) (w : World) (hr0_0 : Kd.C k55 w A0_0 l0_0.length l0_0) (hc0_0 : l0_0.length ≤ c0_0) (hr0_1 : Kd.C k56 w A0_1 l0_1.length l0_1) (hc0_1 : l0_1.length ≤ c0_1) (h : culetref49_works.f k l0_0 l0_1 a0_2 a0_3 a1 = some r) :
  Calls Tryd.prog 39 #[.agg #[.slice A0_0 l0_0.length c0_0, .slice A0_1 l0_1.length c0_1, .int .i64 a0_2, .int .i64 a0_3], .int .i64 a1] w fun e w' => ∃ v0_ : Value, e = .returned (v0_) ∧ Kd.R (Kd.int .i64) 3 w' w.heap.size (fun _ => True) v0_ r ∧ Below w.heap.size w w' := by
 have hu25 := Tryd.underlying25
 have HR0_0 := am_ hr0_0
 have HC0_0 := am_ hc0_0
 clear hr0_0 hc0_0
 have HR0_1 := am_ hr0_1
 have HC0_1 := am_ hc0_1
 clear hr0_1 hc0_1
 have HB := am_ (Below.refl w.heap.size w)
 have H : (culetref49_works.l0 k a1 ([] : List Int) 0 l0_0 l0_1 a0_2 a0_3) = some r := h
 clear h
 have H' := am_ H
 clear H
 go_enter Tryd.func39, Tryd.ntmps39
 go_wp2_with (first | ((with_reducible refine gate_dst (N := 2) rfl ?_); refine bev (N := 2) (cs := #[.slice A0_0 l0_0.length c0_0, .slice A0_1 l0_1.length c0_1, .int .i64 a0_2, .int .i64 a0_3]) (t := 25) ?_; intro gb165 hg w3 hbox hb; have n0_ := am_ (below_step (mb_ HB.out) hb); have n1_ := am_ (hbox); have n2_ := am_ ((bz_ hg (mb_ HB.out) : w.heap.size ≤ gb165)); have n3_ := am_ ((bz_ hg (mb_ HB.out) : w.heap.size ≤ gb165)); clear HB; have HB := n0_; have BK165 := n1_; have GW165 := n2_; have GE165 := n3_; clear n0_ n1_ n2_ n3_; clear hb hbox hg))
 go_loopg [5, 6] k (fun kq v5 v6 w' => ∃ (x5_1 : List Int) (x6_1 : Int), v6 = .int .i64 x6_1 ∧ Aside0 (culetref49_works.l0 kq a1 x5_1 x6_1 l0_0 l0_1 a0_2 a0_3 = some r) ∧ Aside0 (kq ≤ k) ∧ Aside0 (Kd.R (Kd.int .i64) 3 w' w.heap.size (fun _ => True) v5 x5_1) ∧ Aside0 (w'.heap[gb165]? = some (.cells #[(.slice A0_0 l0_0.length c0_0), (.slice A0_1 l0_1.length c0_1), .int .i64 a0_2, .int .i64 a0_3] 25 (0, 0))) ∧ Aside0 (Below w.heap.size w w'))
 case atStart => exact ⟨(([] : List Int)), (0), rs_, H', ⟨Nat.le_refl _⟩, ⟨by first | exact Kd.R_nil _ _ _ _ _ | exact Kd.N_nil _ _ _ _ _ | exact Kd.V_nil _ _ _ _ _ | exact Kd.Q_nil _ _ _ _ _ | exact Kd.S_nil _ _ _ _ _⟩, ⟨by (with_reducible repeat (first | refine blk_drewN ?_ _ | refine blk_drew ?_ | refine blk_alloc ?_ _)); exact BK165.out⟩, ⟨mb_ HB.out⟩⟩
 case round =>
  clear H'
  try clear p2
  try clear c3
  obtain ⟨x5_1, x6_1, rfl, HA, HK1, HO_5, BK165, HB⟩ := hrel
  cases gk with
  | zero => exact absurd HA.out (by simp [culetref49_works.l0])
  | succ k1 =>
   have H := HA.out
   clear HA
   simp only [culetref49_works.l0] at H
   by_cases c4 : x6_1 < (l0_1.length : Int)
   ·
    rw [if_pos c4] at H
    have c4b0 : decide (x6_1 < (l0_1.length : Int)) = true := decide_eq_true c4
    clear c4
    by_cases c5 : 0 ≤ x6_1
    ·
     rw [if_pos c5] at H
     have c5b0 : decide (0 ≤ x6_1) = true := decide_eq_true c5
     clear c5
     by_cases c6 : ((rd_T56 l0_1 x6_1).f1) = a1
     ·
      rw [if_pos c6] at H
      have c6b0 : (((rd_T56 l0_1 x6_1).f1) == a1) = true := beq_iff_eq.mpr c6
      have c6b1 : (((rd_T56 l0_1 x6_1).f1) != a1) = false := bne_eq_false_iff_eq.mpr c6
      clear c6
      by_cases c7 : x5_1.length < 17592186044416
      ·
       rw [if_pos c7] at H
       have LMc7 := am_ c7
       clear c7
       obtain ⟨y167, hy167⟩ : ∃ y_ : List Int, y_ = (x5_1 ++ [x6_1]) := ⟨_, rfl⟩
       replace H : (culetref49_works.l0 k1 a1 y167 (wrap64 (x6_1 + 1)) l0_0 l0_1 a0_2 a0_3) = some r := by first | (rw [hy167]; with_reducible exact H) | (have H2_ := (Option.bind_some _ _).symm.trans H; rw [hy167]; with_reducible exact H2_) | (have H2_ := (Option.bind_some _ _).symm.trans H; with_reducible exact H2_) | with_reducible exact H | (rw [hy167]; exact H) | exact H
       have Ny167 := am_ hy167
       clear hy167
       have H' := am_ H
       clear H
       have hcz8_0 : wr.cell? ⟨gb165, 0, none⟩ = some (.slice A0_0 l0_0.length c0_0) := (blk_cell BK165.out 0).trans rfl
       have hcz8_1 : wr.cell? ⟨gb165, 1, none⟩ = some (.slice A0_1 l0_1.length c0_1) := (blk_cell BK165.out 1).trans rfl
       have hcz8_2 : wr.cell? ⟨gb165, 2, none⟩ = some (.int .i64 a0_2) := (blk_cell BK165.out 2).trans rfl
       have hcz8_3 : wr.cell? ⟨gb165, 3, none⟩ = some (.int .i64 a0_3) := (blk_cell BK165.out 3).trans rfl
       have hfz8_0 := blk_frozen BK165.out 0
       have hfz8_1 := blk_frozen BK165.out 1
       have hfz8_2 := blk_frozen BK165.out 2
       have hfz8_3 := blk_frozen BK165.out 3
       have p166 : 0 ≤ (x6_1 : Int) := of_decide_eq_true as_
       have q166 : x6_1 < (l0_1.length : Int) := of_decide_eq_true as_
       obtain ⟨ad166, e166, hx166_0, hx166_1, hx166_2⟩ := at_T56 HR0_1.out x6_1 p166 q166
       cases e166
       replace hx166_0 := (HB.out.cell (World.block_lt_of_cell? w _ hx166_0)).trans hx166_0
       replace hx166_1 := (HB.out.cell (World.block_lt_of_cell? w _ hx166_1)).trans hx166_1
       replace hx166_2 := (HB.out.cell (World.block_lt_of_cell? w _ hx166_2)).trans hx166_2
       replace p166 := eq_true p166
       replace q166 := eq_true q166
       go_wp2_with (first | ((with_reducible refine gate_builtin (b := .append) (xs := #[.tmp 22, .tmp 24]) rfl ?_); at_builtin; refine Kd.R_append (Kd.int .i64) (w0 := w) w.heap.size rfl (.tmp 22) (.tmp 24) 64 3 (.int .i64 0) 8 rfl Tryd.underlying64 info3 rfl (by decide) (by omega) u5 x5_1 x6_1 [.int .i64 x6_1] (fun _ => True) (fun _ => False) rfl rfl ?aP (fun _ hk => hk.elim) ?aF ?aO ?aB ?aS ?aL ?_; (case aP => exact rfl); (case aB => exact (mb_ HB.out)); (case aF => exact (fun _ _ => trivial)); (case aO => exact (mr_ HO_5.out)); (case aS => exact (below_size (mb_ HB.out))); (case aL => have := LMc7.out; omega); intro v168 w9 ho hb hg hat; rw [← Ny167.out] at ho; have n0_ := am_ (blk_grown (g := gb165) (o := .cells #[.slice A0_0 l0_0.length c0_0, .slice (some ad166) l0_1.length c0_1, .int .i64 a0_2, .int .i64 a0_3] 25 (0, 0)) (mk_ BK165.out) hg (Kd.R_ne HO_5.out BK165.out (by decide))); have n1_ := am_ (hb); have n2_ := am_ (ho); clear BK165 HB HO_5; have BK165 := n0_; have HB := n1_; have HO169 := n2_; clear n0_ n1_ n2_; clear ho hb hg hat))
       go_roundg k1
       case measure => have := HK1.out; omega
       case rel => exact ⟨(y167), (wrap64 (x6_1 + 1)), rs_, H', ⟨by have := HK1.out; omega⟩, ⟨by (with_reducible repeat (first | apply Kd.R_alloc | apply Kd.R_drewN | apply Kd.R_drew)); exact HO169.out⟩, ⟨by (with_reducible repeat (first | refine blk_drewN ?_ _ | refine blk_drew ?_ | refine blk_alloc ?_ _)); exact BK165.out⟩, ⟨mb_ HB.out⟩⟩
      ·
       rw [if_neg c7] at H
       exact absurd H (by simp)
     ·
      rw [if_neg c6] at H
      have c6b0 : (((rd_T56 l0_1 x6_1).f1) == a1) = false := beq_eq_false_iff_ne.mpr c6
      have c6b1 : (((rd_T56 l0_1 x6_1).f1) != a1) = true := bne_iff_ne.mpr c6
      have H' := am_ H
      clear H
      have hcz10_0 : wr.cell? ⟨gb165, 0, none⟩ = some (.slice A0_0 l0_0.length c0_0) := (blk_cell BK165.out 0).trans rfl
      have hcz10_1 : wr.cell? ⟨gb165, 1, none⟩ = some (.slice A0_1 l0_1.length c0_1) := (blk_cell BK165.out 1).trans rfl
      have hcz10_2 : wr.cell? ⟨gb165, 2, none⟩ = some (.int .i64 a0_2) := (blk_cell BK165.out 2).trans rfl
      have hcz10_3 : wr.cell? ⟨gb165, 3, none⟩ = some (.int .i64 a0_3) := (blk_cell BK165.out 3).trans rfl
      have hfz10_0 := blk_frozen BK165.out 0
      have hfz10_1 := blk_frozen BK165.out 1
      have hfz10_2 := blk_frozen BK165.out 2
      have hfz10_3 := blk_frozen BK165.out 3
      have p166 : 0 ≤ (x6_1 : Int) := of_decide_eq_true as_
      have q166 : x6_1 < (l0_1.length : Int) := of_decide_eq_true as_
      obtain ⟨ad166, e166, hx166_0, hx166_1, hx166_2⟩ := at_T56 HR0_1.out x6_1 p166 q166
      cases e166
      replace hx166_0 := (HB.out.cell (World.block_lt_of_cell? w _ hx166_0)).trans hx166_0
      replace hx166_1 := (HB.out.cell (World.block_lt_of_cell? w _ hx166_1)).trans hx166_1
      replace hx166_2 := (HB.out.cell (World.block_lt_of_cell? w _ hx166_2)).trans hx166_2
      replace p166 := eq_true p166
      replace q166 := eq_true q166
      go_wp2
      go_roundg k1
      case measure => have := HK1.out; omega
      case rel => exact ⟨(x5_1), (wrap64 (x6_1 + 1)), rs_, H', ⟨by have := HK1.out; omega⟩, ⟨by (with_reducible repeat (first | apply Kd.R_alloc | apply Kd.R_drewN | apply Kd.R_drew)); exact HO_5.out⟩, ⟨by (with_reducible repeat (first | refine blk_drewN ?_ _ | refine blk_drew ?_ | refine blk_alloc ?_ _)); exact BK165.out⟩, ⟨mb_ HB.out⟩⟩
    ·
     rw [if_neg c5] at H
     exact absurd H (by simp)
   ·
    rw [if_neg c4] at H
    have c4b0 : decide (x6_1 < (l0_1.length : Int)) = false := decide_eq_false c4
    clear c4
    obtain rfl := Option.some.inj H
    have hcz11_0 : wr.cell? ⟨gb165, 0, none⟩ = some (.slice A0_0 l0_0.length c0_0) := (blk_cell BK165.out 0).trans rfl
    have hcz11_1 : wr.cell? ⟨gb165, 1, none⟩ = some (.slice A0_1 l0_1.length c0_1) := (blk_cell BK165.out 1).trans rfl
    have hcz11_2 : wr.cell? ⟨gb165, 2, none⟩ = some (.int .i64 a0_2) := (blk_cell BK165.out 2).trans rfl
    have hcz11_3 : wr.cell? ⟨gb165, 3, none⟩ = some (.int .i64 a0_3) := (blk_cell BK165.out 3).trans rfl
    have hfz11_0 := blk_frozen BK165.out 0
    have hfz11_1 := blk_frozen BK165.out 1
    have hfz11_2 := blk_frozen BK165.out 2
    have hfz11_3 := blk_frozen BK165.out 3
    go_wp2
    go_ret
    exact ⟨_, by first | rfl | (simp [errW_none, errW_some] <;> rfl) | (simp [*, errW_none, errW_some] <;> rfl), by (with_reducible repeat (first | apply Kd.R_alloc | apply Kd.R_drewN | apply Kd.R_drew)); exact HO_5.out, mb_ HB.out⟩

end Go.Proofs.YtalhpnfapagamaaDoor.S
