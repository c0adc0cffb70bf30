-- Written by this session's own programs; what the law does not lean on is left out. Lean checks it.
import Derived.Test.YtalhpnfapagamaaDoorAS
section
namespace Go.Proofs.YtalhpnfapagamaaDoor.S
open Go.RowKit Go.Proofs.YtalhpnfapagamaaDoorW.PrintWords Go.Proofs.YtalhpnfapagamaaDoorW.PrintLast Go.Proofs.YtalhpnfapagamaaDoorW.PrintMore Go.Proofs.YtalhpnfapagamaaDoorD
set_option linter.unusedVariables false
set_option linter.unusedSimpArgs false

mutual
def culetref49_Few.j0 : Nat → Bool → List (S55) → List (S56) → Int → Int → Option (Bool)
 | 0, _, _, _, _, _ => none
 | k + 1, x14, x132000, x132001, x132002, x132003 => if x14 = true then (some false) else (culetref49_Few.l0 k 0 x132000 x132001 x132002 x132003)
def culetref49_Few.l0 : Nat → Int → List (S55) → List (S56) → Int → Int → Option (Bool)
 | 0, _, _, _, _, _ => none
 | k + 1, x3, x132000, x132001, x132002, x132003 => if x3 < (x132000.length : Int) then (if 0 ≤ x3 then (if (((rd_T55 x132000 x3).f0).size : Int) > 40 then (some false) else (culetref49_Few.l0 k (wrap64 (x3 + 1)) x132000 x132001 x132002 x132003)) else (none)) else (culetref49_Few.l1 k 0 x132000 x132001 x132002 x132003)
def culetref49_Few.l1 : Nat → Int → List (S55) → List (S56) → Int → Int → Option (Bool)
 | 0, _, _, _, _, _ => none
 | k + 1, x4, x132000, x132001, x132002, x132003 => if x4 < (x132001.length : Int) then (if 0 ≤ x4 then (if (((rd_T56 x132001 x4).f0).size : Int) > 40 then (some false) else (culetref49_Few.l1 k (wrap64 (x4 + 1)) x132000 x132001 x132002 x132003)) else (none)) else (some true)
end
def culetref49_Few.f (k : Nat) (l0_0 : List (S55)) (l0_1 : List (S56)) (a0_2 : Int) (a0_3 : Int) : Option (Bool) := if (l0_0.length : Int) > 8 then (culetref49_Few.j0 k true l0_0 l0_1 a0_2 a0_3) else (culetref49_Few.j0 k (decide ((l0_1.length : Int) > 22)) l0_0 l0_1 a0_2 a0_3)
set_option maxHeartbeats 8000000 in
set_option maxRecDepth 100000 in
theorem culetref49_Few.calls (k : Nat) (A0_0 : Option Addr) (c0_0 : Nat) (l0_0 : List (S55)) (A0_1 : Option Addr) (c0_1 : Nat) (l0_1 : List (S56)) (a0_2 : Int) (a0_3 : Int) (r : Bool) (w : World) (hr0_0 : Kd.C k55 w A0_0 l0_0.length l0_0) (hc0_0 : l0_0.length ≤ c0_0) (hr0_1 : Kd.C k56 w A0_1 l0_1.length l0_1) (hc0_1 : l0_1.length ≤ c0_1) (h : culetref49_Few.f k l0_0 l0_1 a0_2 a0_3 = some r) :
  Calls Tryd.prog 5 #[.agg #[.slice A0_0 l0_0.length c0_0, .slice A0_1 l0_1.length c0_1, .int .i64 a0_2, .int .i64 a0_3]] w fun e w' => e = .returned (.bool r) ∧ Below w.heap.size w w' := by
 have hu25 := Tryd.underlying25
 have HR0_0 := am_ hr0_0
 have HC0_0 := am_ hc0_0
 clear hr0_0 hc0_0
 have HR0_1 := am_ hr0_1
 have HC0_1 := am_ hc0_1
 clear hr0_1 hc0_1
 have HB := am_ (Below.refl w.heap.size w)
 have H : (if (l0_0.length : Int) > 8 then (culetref49_Few.j0 k true l0_0 l0_1 a0_2 a0_3) else (culetref49_Few.j0 k (decide ((l0_1.length : Int) > 22)) l0_0 l0_1 a0_2 a0_3)) = some r := h
 clear h
 have HC2 := am_ H
 clear H
 go_enter Tryd.func5, Tryd.ntmps5
 go_upto_region 1 with (first | ((with_reducible refine gate_dst (N := 1) rfl ?_); (try (refine gate_guard (by rfl) ?_; dsimp only)); refine bev (N := 1) (cs := #[.slice A0_0 l0_0.length c0_0, .slice A0_1 l0_1.length c0_1, .int .i64 a0_2, .int .i64 a0_3]) (t := 25) ?_; intro gb131 hg w3 hbox hb; have n0_ := am_ (below_step (mb_ HB.out) hb); have n1_ := am_ (hbox); have n2_ := am_ ((bz_ hg (mb_ HB.out) : w.heap.size ≤ gb131)); have n3_ := am_ ((bz_ hg (mb_ HB.out) : w.heap.size ≤ gb131)); clear HB; have HB := n0_; have BK131 := n1_; have GW131 := n2_; have GE131 := n3_; clear n0_ n1_ n2_ n3_; clear hb hbox hg))
 (try simp only [Act.put, List.setIfInBounds_toArray, List.set_cons_zero, List.set_cons_succ])
 go_cut [14] (fun v14 wc => ∃ (kq : Nat) (x14_1 : Bool), v14 = .bool x14_1 ∧ Aside0 (culetref49_Few.j0 kq x14_1 l0_0 l0_1 a0_2 a0_3 = some r) ∧ Aside0 (kq ≤ k) ∧ Aside0 (wc.heap[gb131]? = some (.cells #[(.slice A0_0 l0_0.length c0_0), (.slice A0_1 l0_1.length c0_1), .int .i64 a0_2, .int .i64 a0_3] 25 (0, 0))) ∧ Aside0 (Below w.heap.size w wc))
 case first =>
  have H := HC2.out
  clear HC2
  by_cases c4 : (l0_0.length : Int) > 8
  ·
   rw [if_pos c4] at H
   have c4b0 : decide (8 < (l0_0.length : Int)) = true := decide_eq_true c4
   have c4b1 : decide (8 < l0_0.length) = true := decide_eq_true (by omega)
   clear c4
   (first | rw [c4b0] | (simp only [i64_w, i32_w]; rw [c4b0]) | skip)
   have H' := am_ H
   clear H
   have hcz5_0 : w3.cell? ⟨gb131, 0, none⟩ = some (.slice A0_0 l0_0.length c0_0) := (blk_cell BK131.out 0).trans rfl
   have hcz5_1 : w3.cell? ⟨gb131, 1, none⟩ = some (.slice A0_1 l0_1.length c0_1) := (blk_cell BK131.out 1).trans rfl
   have hcz5_2 : w3.cell? ⟨gb131, 2, none⟩ = some (.int .i64 a0_2) := (blk_cell BK131.out 2).trans rfl
   have hcz5_3 : w3.cell? ⟨gb131, 3, none⟩ = some (.int .i64 a0_3) := (blk_cell BK131.out 3).trans rfl
   have hfz5_0 := blk_frozen BK131.out 0
   have hfz5_1 := blk_frozen BK131.out 1
   have hfz5_2 := blk_frozen BK131.out 2
   have hfz5_3 := blk_frozen BK131.out 3
   go_wp2
   go_meet
   case rel => exact ⟨_, (true), rs_, H', ⟨by first | omega | exact Nat.le_refl _⟩, ⟨by (with_reducible repeat (first | refine blk_drewN ?_ _ | refine blk_drew ?_ | refine blk_alloc ?_ _)); exact BK131.out⟩, ⟨mb_ HB.out⟩⟩
  ·
   rw [if_neg c4] at H
   have c4b0 : decide (8 < (l0_0.length : Int)) = false := decide_eq_false c4
   have c4b1 : decide (8 < l0_0.length) = false := decide_eq_false (by omega)
   clear c4
   (first | rw [c4b0] | (simp only [i64_w, i32_w]; rw [c4b0]) | skip)
   have H' := am_ H
   clear H
   have hcz6_0 : w3.cell? ⟨gb131, 0, none⟩ = some (.slice A0_0 l0_0.length c0_0) := (blk_cell BK131.out 0).trans rfl
   have hcz6_1 : w3.cell? ⟨gb131, 1, none⟩ = some (.slice A0_1 l0_1.length c0_1) := (blk_cell BK131.out 1).trans rfl
   have hcz6_2 : w3.cell? ⟨gb131, 2, none⟩ = some (.int .i64 a0_2) := (blk_cell BK131.out 2).trans rfl
   have hcz6_3 : w3.cell? ⟨gb131, 3, none⟩ = some (.int .i64 a0_3) := (blk_cell BK131.out 3).trans rfl
   have hfz6_0 := blk_frozen BK131.out 0
   have hfz6_1 := blk_frozen BK131.out 1
   have hfz6_2 := blk_frozen BK131.out 2
   have hfz6_3 := blk_frozen BK131.out 3
   go_wp2
   go_meet
   case rel => exact ⟨_, (decide ((l0_1.length : Int) > 22)), rs_, H', ⟨by first | omega | exact Nat.le_refl _⟩, ⟨by (with_reducible repeat (first | refine blk_drewN ?_ _ | refine blk_drew ?_ | refine blk_alloc ?_ _)); exact BK131.out⟩, ⟨mb_ HB.out⟩⟩
 case rest =>
  clear HC2
  try clear p2
  try clear c4
  try clear c4b0
  try clear c4b1
  try clear c5
  try clear hcz5_0
  try clear hcz5_1
  try clear hcz5_2
  try clear hcz5_3
  try clear hcz6_0
  try clear hcz6_1
  try clear hcz6_2
  try clear hcz6_3
  try clear hfz5_0
  try clear hfz5_1
  try clear hfz5_2
  try clear hfz5_3
  try clear hfz6_0
  try clear hfz6_1
  try clear hfz6_2
  try clear hfz6_3
  obtain ⟨kq, x14_1, rfl, HA, HJ1, BK131, HB⟩ := hcut
  cases kq with
  | zero => exact absurd HA.out (by simp [culetref49_Few.j0])
  | succ kj1 =>
   have H := HA.out
   clear HA
   simp only [culetref49_Few.j0] at H
   by_cases c7 : x14_1 = true
   ·
    subst c7
    have H1 : (some false) = some r := by rw [if_pos rfl] at H; exact H
    clear H
    have H := H1
    clear H1
    obtain rfl := Option.some.inj H
    go_wp2
    go_ret
    exact ⟨by first | rfl | (simp [errW_none, errW_some] <;> rfl) | (simp [*, errW_none, errW_some] <;> rfl), mb_ HB.out⟩
   ·
    replace c7 := Bool.eq_false_iff.mpr c7
    subst c7
    have H1 : (culetref49_Few.l0 kj1 0 l0_0 l0_1 a0_2 a0_3) = some r := by rw [if_neg (show ¬ (false = true) by decide)] at H; exact H
    clear H
    have H := H1
    clear H1
    have H' := am_ H
    clear H
    go_wp2
    go_loopg [3] kj1 (fun kq v3 w' => ∃ (x3_2 : Int), v3 = .int .i64 x3_2 ∧ Aside0 (culetref49_Few.l0 kq x3_2 l0_0 l0_1 a0_2 a0_3 = some r) ∧ Aside0 (kq ≤ kj1) ∧ Aside0 (w'.heap[gb131]? = some (.cells #[(.slice A0_0 l0_0.length c0_0), (.slice A0_1 l0_1.length c0_1), .int .i64 a0_2, .int .i64 a0_3] 25 (0, 0))) ∧ Aside0 (Below w.heap.size w w'))
    case atStart => exact ⟨(0), rs_, H', ⟨Nat.le_refl _⟩, ⟨by (with_reducible repeat (first | refine blk_drewN ?_ _ | refine blk_drew ?_ | refine blk_alloc ?_ _)); exact BK131.out⟩, ⟨mb_ HB.out⟩⟩
    case round =>
     clear H'
     try clear p2
     try clear c4
     try clear c4b0
     try clear c4b1
     try clear c5
     try clear c7
     try clear hcz5_0
     try clear hcz5_1
     try clear hcz5_2
     try clear hcz5_3
     try clear hcz6_0
     try clear hcz6_1
     try clear hcz6_2
     try clear hcz6_3
     try clear hfz5_0
     try clear hfz5_1
     try clear hfz5_2
     try clear hfz5_3
     try clear hfz6_0
     try clear hfz6_1
     try clear hfz6_2
     try clear hfz6_3
     try clear p2
     obtain ⟨x3_2, rfl, HA, HK2, BK131, HB⟩ := hrel
     cases gk with
     | zero => exact absurd HA.out (by simp [culetref49_Few.l0])
     | succ k2 =>
      have H := HA.out
      clear HA
      simp only [culetref49_Few.l0] at H
      by_cases c8 : x3_2 < (l0_0.length : Int)
      ·
       rw [if_pos c8] at H
       have c8b0 : decide (x3_2 < (l0_0.length : Int)) = true := decide_eq_true c8
       clear c8
       by_cases c9 : 0 ≤ x3_2
       ·
        rw [if_pos c9] at H
        have c9b0 : decide (0 ≤ x3_2) = true := decide_eq_true c9
        clear c9
        by_cases c10 : (((rd_T55 l0_0 x3_2).f0).size : Int) > 40
        ·
         rw [if_pos c10] at H
         have c10b0 : decide (40 < (((rd_T55 l0_0 x3_2).f0).size : Int)) = true := decide_eq_true c10
         have c10b1 : decide (40 < ((rd_T55 l0_0 x3_2).f0).size) = true := decide_eq_true (by omega)
         clear c10
         obtain rfl := Option.some.inj H
         have hcz11_0 : wr.cell? ⟨gb131, 0, none⟩ = some (.slice A0_0 l0_0.length c0_0) := (blk_cell BK131.out 0).trans rfl
         have hcz11_1 : wr.cell? ⟨gb131, 1, none⟩ = some (.slice A0_1 l0_1.length c0_1) := (blk_cell BK131.out 1).trans rfl
         have hcz11_2 : wr.cell? ⟨gb131, 2, none⟩ = some (.int .i64 a0_2) := (blk_cell BK131.out 2).trans rfl
         have hcz11_3 : wr.cell? ⟨gb131, 3, none⟩ = some (.int .i64 a0_3) := (blk_cell BK131.out 3).trans rfl
         have hfz11_0 := blk_frozen BK131.out 0
         have hfz11_1 := blk_frozen BK131.out 1
         have hfz11_2 := blk_frozen BK131.out 2
         have hfz11_3 := blk_frozen BK131.out 3
         have p132 : 0 ≤ (x3_2 : Int) := of_decide_eq_true as_
         have q132 : x3_2 < (l0_0.length : Int) := of_decide_eq_true as_
         obtain ⟨ad132, e132, hx132_0, hx132_1, hx132_2⟩ := at_T55 HR0_0.out x3_2 p132 q132
         cases e132
         replace hx132_0 := (HB.out.cell (World.block_lt_of_cell? w _ hx132_0)).trans hx132_0
         replace hx132_1 := (HB.out.cell (World.block_lt_of_cell? w _ hx132_1)).trans hx132_1
         replace hx132_2 := (HB.out.cell (World.block_lt_of_cell? w _ hx132_2)).trans hx132_2
         replace p132 := eq_true p132
         replace q132 := eq_true q132
         go_wp2
         go_ret
         exact ⟨by first | rfl | (simp [errW_none, errW_some] <;> rfl) | (simp [*, errW_none, errW_some] <;> rfl), mb_ HB.out⟩
        ·
         rw [if_neg c10] at H
         have c10b0 : decide (40 < (((rd_T55 l0_0 x3_2).f0).size : Int)) = false := decide_eq_false c10
         have c10b1 : decide (40 < ((rd_T55 l0_0 x3_2).f0).size) = false := decide_eq_false (by omega)
         clear c10
         have H' := am_ H
         clear H
         have hcz12_0 : wr.cell? ⟨gb131, 0, none⟩ = some (.slice A0_0 l0_0.length c0_0) := (blk_cell BK131.out 0).trans rfl
         have hcz12_1 : wr.cell? ⟨gb131, 1, none⟩ = some (.slice A0_1 l0_1.length c0_1) := (blk_cell BK131.out 1).trans rfl
         have hcz12_2 : wr.cell? ⟨gb131, 2, none⟩ = some (.int .i64 a0_2) := (blk_cell BK131.out 2).trans rfl
         have hcz12_3 : wr.cell? ⟨gb131, 3, none⟩ = some (.int .i64 a0_3) := (blk_cell BK131.out 3).trans rfl
         have hfz12_0 := blk_frozen BK131.out 0
         have hfz12_1 := blk_frozen BK131.out 1
         have hfz12_2 := blk_frozen BK131.out 2
         have hfz12_3 := blk_frozen BK131.out 3
         have p132 : 0 ≤ (x3_2 : Int) := of_decide_eq_true as_
         have q132 : x3_2 < (l0_0.length : Int) := of_decide_eq_true as_
         obtain ⟨ad132, e132, hx132_0, hx132_1, hx132_2⟩ := at_T55 HR0_0.out x3_2 p132 q132
         cases e132
         replace hx132_0 := (HB.out.cell (World.block_lt_of_cell? w _ hx132_0)).trans hx132_0
         replace hx132_1 := (HB.out.cell (World.block_lt_of_cell? w _ hx132_1)).trans hx132_1
         replace hx132_2 := (HB.out.cell (World.block_lt_of_cell? w _ hx132_2)).trans hx132_2
         replace p132 := eq_true p132
         replace q132 := eq_true q132
         go_wp2
         go_roundg k2
         case measure => have := HJ1.out; have := HK2.out; omega
         case rel => exact ⟨(wrap64 (x3_2 + 1)), rs_, H', ⟨by have := HJ1.out; have := HK2.out; omega⟩, ⟨by (with_reducible repeat (first | refine blk_drewN ?_ _ | refine blk_drew ?_ | refine blk_alloc ?_ _)); exact BK131.out⟩, ⟨mb_ HB.out⟩⟩
       ·
        rw [if_neg c9] at H
        exact absurd H (by simp)
      ·
       rw [if_neg c8] at H
       have c8b0 : decide (x3_2 < (l0_0.length : Int)) = false := decide_eq_false c8
       clear c8
       have H' := am_ H
       clear H
       have hcz13_0 : wr.cell? ⟨gb131, 0, none⟩ = some (.slice A0_0 l0_0.length c0_0) := (blk_cell BK131.out 0).trans rfl
       have hcz13_1 : wr.cell? ⟨gb131, 1, none⟩ = some (.slice A0_1 l0_1.length c0_1) := (blk_cell BK131.out 1).trans rfl
       have hcz13_2 : wr.cell? ⟨gb131, 2, none⟩ = some (.int .i64 a0_2) := (blk_cell BK131.out 2).trans rfl
       have hcz13_3 : wr.cell? ⟨gb131, 3, none⟩ = some (.int .i64 a0_3) := (blk_cell BK131.out 3).trans rfl
       have hfz13_0 := blk_frozen BK131.out 0
       have hfz13_1 := blk_frozen BK131.out 1
       have hfz13_2 := blk_frozen BK131.out 2
       have hfz13_3 := blk_frozen BK131.out 3
       go_wp2
       go_loopg [4] k2 (fun kq v4 w' => ∃ (x4_3 : Int), v4 = .int .i64 x4_3 ∧ Aside0 (culetref49_Few.l1 kq x4_3 l0_0 l0_1 a0_2 a0_3 = some r) ∧ Aside0 (kq ≤ k2) ∧ Aside0 (w'.heap[gb131]? = some (.cells #[(.slice A0_0 l0_0.length c0_0), (.slice A0_1 l0_1.length c0_1), .int .i64 a0_2, .int .i64 a0_3] 25 (0, 0))) ∧ Aside0 (Below w.heap.size w w'))
       case atStart => exact ⟨(0), rs_, H', ⟨Nat.le_refl _⟩, ⟨by (with_reducible repeat (first | refine blk_drewN ?_ _ | refine blk_drew ?_ | refine blk_alloc ?_ _)); exact BK131.out⟩, ⟨mb_ HB.out⟩⟩
       case round =>
        clear H'
        try clear c1
        try clear p1
        try clear q1
        try clear hx1
        try clear p2
        try clear c4
        try clear c4b0
        try clear c4b1
        try clear c5
        try clear p6
        try clear c7
        try clear c8
        try clear c8b0
        try clear c9
        try clear c9b0
        try clear c10
        try clear c10b0
        try clear c10b1
        try clear p13
        try clear q13
        try clear hx13
        try clear hcz11_0
        try clear hcz11_1
        try clear hcz11_2
        try clear hcz11_3
        try clear hcz12_0
        try clear hcz12_1
        try clear hcz12_2
        try clear hcz12_3
        try clear hcz13_0
        try clear hcz13_1
        try clear hcz13_2
        try clear hcz13_3
        try clear hcz5_0
        try clear hcz5_1
        try clear hcz5_2
        try clear hcz5_3
        try clear hcz6_0
        try clear hcz6_1
        try clear hcz6_2
        try clear hcz6_3
        try clear hfz11_0
        try clear hfz11_1
        try clear hfz11_2
        try clear hfz11_3
        try clear hfz12_0
        try clear hfz12_1
        try clear hfz12_2
        try clear hfz12_3
        try clear hfz13_0
        try clear hfz13_1
        try clear hfz13_2
        try clear hfz13_3
        try clear hfz5_0
        try clear hfz5_1
        try clear hfz5_2
        try clear hfz5_3
        try clear hfz6_0
        try clear hfz6_1
        try clear hfz6_2
        try clear hfz6_3
        try clear hx132_0
        try clear hx132_1
        try clear hx132_2
        try clear p132
        try clear p2
        try clear q132
        obtain ⟨x4_3, rfl, HA, HK3, BK131, HB⟩ := hrel
        cases gk with
        | zero => exact absurd HA.out (by simp [culetref49_Few.l1])
        | succ k3 =>
         have H := HA.out
         clear HA
         simp only [culetref49_Few.l1] at H
         by_cases c14 : x4_3 < (l0_1.length : Int)
         ·
          rw [if_pos c14] at H
          have c14b0 : decide (x4_3 < (l0_1.length : Int)) = true := decide_eq_true c14
          clear c14
          by_cases c15 : 0 ≤ x4_3
          ·
           rw [if_pos c15] at H
           have c15b0 : decide (0 ≤ x4_3) = true := decide_eq_true c15
           clear c15
           by_cases c16 : (((rd_T56 l0_1 x4_3).f0).size : Int) > 40
           ·
            rw [if_pos c16] at H
            have c16b0 : decide (40 < (((rd_T56 l0_1 x4_3).f0).size : Int)) = true := decide_eq_true c16
            have c16b1 : decide (40 < ((rd_T56 l0_1 x4_3).f0).size) = true := decide_eq_true (by omega)
            clear c16
            obtain rfl := Option.some.inj H
            have hcz17_0 : wr.cell? ⟨gb131, 0, none⟩ = some (.slice A0_0 l0_0.length c0_0) := (blk_cell BK131.out 0).trans rfl
            have hcz17_1 : wr.cell? ⟨gb131, 1, none⟩ = some (.slice A0_1 l0_1.length c0_1) := (blk_cell BK131.out 1).trans rfl
            have hcz17_2 : wr.cell? ⟨gb131, 2, none⟩ = some (.int .i64 a0_2) := (blk_cell BK131.out 2).trans rfl
            have hcz17_3 : wr.cell? ⟨gb131, 3, none⟩ = some (.int .i64 a0_3) := (blk_cell BK131.out 3).trans rfl
            have hfz17_0 := blk_frozen BK131.out 0
            have hfz17_1 := blk_frozen BK131.out 1
            have hfz17_2 := blk_frozen BK131.out 2
            have hfz17_3 := blk_frozen BK131.out 3
            have p133 : 0 ≤ (x4_3 : Int) := of_decide_eq_true as_
            have q133 : x4_3 < (l0_1.length : Int) := of_decide_eq_true as_
            obtain ⟨ad133, e133, hx133_0, hx133_1, hx133_2⟩ := at_T56 HR0_1.out x4_3 p133 q133
            cases e133
            replace hx133_0 := (HB.out.cell (World.block_lt_of_cell? w _ hx133_0)).trans hx133_0
            replace hx133_1 := (HB.out.cell (World.block_lt_of_cell? w _ hx133_1)).trans hx133_1
            replace hx133_2 := (HB.out.cell (World.block_lt_of_cell? w _ hx133_2)).trans hx133_2
            replace p133 := eq_true p133
            replace q133 := eq_true q133
            go_wp2
            go_ret
            exact ⟨by first | rfl | (simp [errW_none, errW_some] <;> rfl) | (simp [*, errW_none, errW_some] <;> rfl), mb_ HB.out⟩
           ·
            rw [if_neg c16] at H
            have c16b0 : decide (40 < (((rd_T56 l0_1 x4_3).f0).size : Int)) = false := decide_eq_false c16
            have c16b1 : decide (40 < ((rd_T56 l0_1 x4_3).f0).size) = false := decide_eq_false (by omega)
            clear c16
            have H' := am_ H
            clear H
            have hcz18_0 : wr.cell? ⟨gb131, 0, none⟩ = some (.slice A0_0 l0_0.length c0_0) := (blk_cell BK131.out 0).trans rfl
            have hcz18_1 : wr.cell? ⟨gb131, 1, none⟩ = some (.slice A0_1 l0_1.length c0_1) := (blk_cell BK131.out 1).trans rfl
            have hcz18_2 : wr.cell? ⟨gb131, 2, none⟩ = some (.int .i64 a0_2) := (blk_cell BK131.out 2).trans rfl
            have hcz18_3 : wr.cell? ⟨gb131, 3, none⟩ = some (.int .i64 a0_3) := (blk_cell BK131.out 3).trans rfl
            have hfz18_0 := blk_frozen BK131.out 0
            have hfz18_1 := blk_frozen BK131.out 1
            have hfz18_2 := blk_frozen BK131.out 2
            have hfz18_3 := blk_frozen BK131.out 3
            have p133 : 0 ≤ (x4_3 : Int) := of_decide_eq_true as_
            have q133 : x4_3 < (l0_1.length : Int) := of_decide_eq_true as_
            obtain ⟨ad133, e133, hx133_0, hx133_1, hx133_2⟩ := at_T56 HR0_1.out x4_3 p133 q133
            cases e133
            replace hx133_0 := (HB.out.cell (World.block_lt_of_cell? w _ hx133_0)).trans hx133_0
            replace hx133_1 := (HB.out.cell (World.block_lt_of_cell? w _ hx133_1)).trans hx133_1
            replace hx133_2 := (HB.out.cell (World.block_lt_of_cell? w _ hx133_2)).trans hx133_2
            replace p133 := eq_true p133
            replace q133 := eq_true q133
            go_wp2
            go_roundg k3
            case measure => have := HJ1.out; have := HK2.out; have := HK3.out; omega
            case rel => exact ⟨(wrap64 (x4_3 + 1)), rs_, H', ⟨by have := HJ1.out; have := HK2.out; have := HK3.out; omega⟩, ⟨by (with_reducible repeat (first | refine blk_drewN ?_ _ | refine blk_drew ?_ | refine blk_alloc ?_ _)); exact BK131.out⟩, ⟨mb_ HB.out⟩⟩
          ·
           rw [if_neg c15] at H
           exact absurd H (by simp)
         ·
          rw [if_neg c14] at H
          have c14b0 : decide (x4_3 < (l0_1.length : Int)) = false := decide_eq_false c14
          clear c14
          obtain rfl := Option.some.inj H
          have hcz19_0 : wr.cell? ⟨gb131, 0, none⟩ = some (.slice A0_0 l0_0.length c0_0) := (blk_cell BK131.out 0).trans rfl
          have hcz19_1 : wr.cell? ⟨gb131, 1, none⟩ = some (.slice A0_1 l0_1.length c0_1) := (blk_cell BK131.out 1).trans rfl
          have hcz19_2 : wr.cell? ⟨gb131, 2, none⟩ = some (.int .i64 a0_2) := (blk_cell BK131.out 2).trans rfl
          have hcz19_3 : wr.cell? ⟨gb131, 3, none⟩ = some (.int .i64 a0_3) := (blk_cell BK131.out 3).trans rfl
          have hfz19_0 := blk_frozen BK131.out 0
          have hfz19_1 := blk_frozen BK131.out 1
          have hfz19_2 := blk_frozen BK131.out 2
          have hfz19_3 := blk_frozen BK131.out 3
          go_wp2
          go_ret
          exact ⟨by first | rfl | (simp [errW_none, errW_some] <;> rfl) | (simp [*, errW_none, errW_some] <;> rfl), mb_ HB.out⟩

end Go.Proofs.YtalhpnfapagamaaDoor.S
end
section
namespace Go.Proofs.YtalhpnfapagamaaDoor.S
open Go.RowKit Go.Proofs.YtalhpnfapagamaaDoorW.PrintWords Go.Proofs.YtalhpnfapagamaaDoorW.PrintLast Go.Proofs.YtalhpnfapagamaaDoorW.PrintMore Go.Proofs.YtalhpnfapagamaaDoorD
set_option linter.unusedVariables false
set_option linter.unusedSimpArgs false

mutual
def culetlaw49_Own.l0 : Nat → List (S55) → Int → Int → List (S55) → List (S56) → Int → Int → List (S49) → Int → Int → Option ((List (S49)) × (List (S51)) × Int × Int)
 | 0, _, _, _, _, _, _, _, _, _, _ => none
 | k + 1, x14, x15, x16, x135000, x135001, x135002, x135003, x137000, x137002, x137003 => if x16 < x15 then (if 0 ≤ x16 then (if x16 < (x14.length : Int) then (if x137000.length < 4398046511104 then (culetlaw49_Own.l0 k x14 x15 (wrap64 (x16 + 1)) x135000 x135001 x135002 x135003 (x137000 ++ [(⟨(rd_T55 x14 x16).f0, (rd_T55 x14 x16).f1, (rd_T55 x14 x16).f2⟩ : S49)]) x137002 x137003) else (none)) else (none)) else (none)) else (culetlaw49_Own.l1 k x135001 (x135001.length : Int) 0 x137000 ([] : List (S51)) x137002 x137003)
def culetlaw49_Own.l1 : Nat → List (S56) → Int → Int → List (S49) → List (S51) → Int → Int → Option ((List (S49)) × (List (S51)) × Int × Int)
 | 0, _, _, _, _, _, _, _ => none
 | k + 1, x28, x29, x30, x137000, x137001, x137002, x137003 => if x30 < x29 then (if 0 ≤ x30 then (if x30 < (x28.length : Int) then (if x137001.length < 4398046511104 then (culetlaw49_Own.l1 k x28 x29 (wrap64 (x30 + 1)) x137000 (x137001 ++ [(⟨(rd_T56 x28 x30).f0, (rd_T56 x28 x30).f1, (rd_T56 x28 x30).f2⟩ : S51)]) x137002 x137003) else (none)) else (none)) else (none)) else (some (x137000, x137001, x137002, x137003))
end
def culetlaw49_Own.f (k : Nat) (l0_0 : List (S55)) (l0_1 : List (S56)) (a0_2 : Int) (a0_3 : Int) : Option ((List (S49)) × (List (S51)) × Int × Int) := culetlaw49_Own.l0 k l0_0 (l0_0.length : Int) 0 l0_0 l0_1 a0_2 a0_3 ([] : List (S49)) a0_2 a0_3
set_option maxHeartbeats 8000000 in
set_option maxRecDepth 100000 in
theorem culetlaw49_Own.calls (k : Nat) (A0_0 : Option Addr) (c0_0 : Nat) (l0_0 : List (S55)) (A0_1 : Option Addr) (c0_1 : Nat) (l0_1 : List (S56)) (a0_2 : Int) (a0_3 : Int) (r1 : List (S49)) (r2 : List (S51)) (r3 : Int) (r4 : Int) (w : World) (hr0_0 : Kd.C k55 w A0_0 l0_0.length l0_0) (hc0_0 : l0_0.length ≤ c0_0) (hr0_1 : Kd.C k56 w A0_1 l0_1.length l0_1) (hc0_1 : l0_1.length ≤ c0_1) (h : culetlaw49_Own.f k l0_0 l0_1 a0_2 a0_3 = some (r1, r2, r3, r4)) :
  Calls Tryd.prog 7 #[.agg #[.slice A0_0 l0_0.length c0_0, .slice A0_1 l0_1.length c0_1, .int .i64 a0_2, .int .i64 a0_3]] w fun e w' => ∃ v0_ v1_ : Value, e = .returned (.agg #[v0_, v1_, .int .i64 r3, .int .i64 r4]) ∧ Kd.R k49 49 w' w.heap.size (fun _ => True) v0_ r1 ∧ Kd.R k51 51 w' w.heap.size (fun _ => True) v1_ r2 ∧ Below w.heap.size w w' := by
 have hu25 := Tryd.underlying25
 have hu35 := Tryd.underlying35
 have hu55 := Tryd.underlying55
 have hu56 := Tryd.underlying56
 have HR0_0 := am_ hr0_0
 have HC0_0 := am_ hc0_0
 clear hr0_0 hc0_0
 have HR0_1 := am_ hr0_1
 have HC0_1 := am_ hc0_1
 clear hr0_1 hc0_1
 have HB := am_ (Below.refl w.heap.size w)
 have H : (culetlaw49_Own.l0 k l0_0 (l0_0.length : Int) 0 l0_0 l0_1 a0_2 a0_3 ([] : List (S49)) a0_2 a0_3) = some (r1, r2, r3, r4) := h
 clear h
 have H' := am_ H
 clear H
 go_enter Tryd.func7, Tryd.ntmps7
 go_wp2_with (first | ((with_reducible refine gate_dst (N := 1) rfl ?_); refine bev (N := 1) (cs := #[.slice A0_0 l0_0.length c0_0, .slice A0_1 l0_1.length c0_1, .int .i64 a0_2, .int .i64 a0_3]) (t := 25) ?_; intro gb134 hg w2 hbox hb; have z_ := aI (am_ (below_step (mb_ HB.out) hb)) (aI (am_ (hbox)) (aI (am_ ((bz_ hg (mb_ HB.out) : w.heap.size ≤ gb134))) (am_ ((bz_ hg (mb_ HB.out) : w.heap.size ≤ gb134))))); clear HB; obtain ⟨HB, BK134, GW134, GE134⟩ := z_; clear hb hbox hg) | ((with_reducible refine gate_dst (N := 2) rfl ?_); refine bev (N := 2) (cs := #[.slice none 0 0, .slice none 0 0, .int .i64 0, .int .i64 0]) (t := 35) ?_; intro gb135 hg w3 hbox hb; have z_ := aI (am_ (blk_below (mk_ BK134.out) hb)) (aI (am_ (below_step (mb_ HB.out) hb)) (aI (am_ (hbox)) (aI (am_ ((bz_ hg (mb_ HB.out) : w.heap.size ≤ gb135))) (aI (am_ ((bz_ hg (mb_ HB.out) : w.heap.size ≤ gb135))) (aI (am_ ((nl_ hg (mk_ BK134.out) : gb134 ≠ gb135))) (am_ ((ng_ hg (mk_ BK134.out) : gb135 ≠ gb134)))))))); clear BK134 HB; obtain ⟨BK134, HB, BK135, GW135, GE135, NB134_135, NB135_134⟩ := z_; clear hb hbox hg; have hnb4 := NB134_135.out; have hnc4 := NB135_134.out; have hcz5_0 : w3.cell? ⟨gb134, 0, none⟩ = some (.slice A0_0 l0_0.length c0_0) := (blk_cell BK134.out 0).trans rfl; have hcz5_1 : w3.cell? ⟨gb134, 1, none⟩ = some (.slice A0_1 l0_1.length c0_1) := (blk_cell BK134.out 1).trans rfl; have hcz5_2 : w3.cell? ⟨gb134, 2, none⟩ = some (.int .i64 a0_2) := (blk_cell BK134.out 2).trans rfl; have hcz5_3 : w3.cell? ⟨gb134, 3, none⟩ = some (.int .i64 a0_3) := (blk_cell BK134.out 3).trans rfl; have hfz5_0 := blk_frozen BK134.out 0; have hfz5_1 := blk_frozen BK134.out 1; have hfz5_2 := blk_frozen BK134.out 2; have hfz5_3 := blk_frozen BK134.out 3) | ((with_reducible refine gate_dst (N := 3) rfl ?_); refine bev (N := 3) (cs := #[.slice none 0 0, .slice none 0 0, .int .i64 0, .int .i64 0]) (t := 35) ?_; intro gb136 hg w6 hbox hb; have z_ := aI (am_ (blk_below (mk_ BK134.out) hb)) (aI (am_ (blk_below (mk_ BK135.out) hb)) (aI (am_ (below_step (mb_ HB.out) hb)) (aI (am_ (hbox)) (aI (am_ ((bz_ hg (mb_ HB.out) : w.heap.size ≤ gb136))) (aI (am_ ((bz_ hg (mb_ HB.out) : w.heap.size ≤ gb136))) (aI (am_ ((nl_ hg (mk_ BK134.out) : gb134 ≠ gb136))) (aI (am_ ((ng_ hg (mk_ BK134.out) : gb136 ≠ gb134))) (aI (am_ ((nl_ hg (mk_ BK135.out) : gb135 ≠ gb136))) (am_ ((ng_ hg (mk_ BK135.out) : gb136 ≠ gb135))))))))))); clear BK134 BK135 HB; obtain ⟨BK134, BK135, HB, BK136, GW136, GE136, NB134_136, NB136_134, NB135_136, NB136_135⟩ := z_; clear hb hbox hg; have hnb7 := NB136_134.out; have hnc7 := NB134_136.out; have hnb8 := NB136_135.out; have hnc8 := NB135_136.out; have hcz9_0 : w6.cell? ⟨gb136, 0, none⟩ = some (.slice none 0 0) := (blk_cell BK136.out 0).trans rfl; have hcz9_1 : w6.cell? ⟨gb136, 1, none⟩ = some (.slice none 0 0) := (blk_cell BK136.out 1).trans rfl; have hcz9_2 : w6.cell? ⟨gb136, 2, none⟩ = some (.int .i64 0) := (blk_cell BK136.out 2).trans rfl; have hcz9_3 : w6.cell? ⟨gb136, 3, none⟩ = some (.int .i64 0) := (blk_cell BK136.out 3).trans rfl; have hfz9_0 := blk_frozen BK136.out 0; have hfz9_1 := blk_frozen BK136.out 1; have hfz9_2 := blk_frozen BK136.out 2; have hfz9_3 := blk_frozen BK136.out 3; have hcz10_0 : w6.cell? ⟨gb134, 0, none⟩ = some (.slice A0_0 l0_0.length c0_0) := (blk_cell BK134.out 0).trans rfl; have hcz10_1 : w6.cell? ⟨gb134, 1, none⟩ = some (.slice A0_1 l0_1.length c0_1) := (blk_cell BK134.out 1).trans rfl; have hcz10_2 : w6.cell? ⟨gb134, 2, none⟩ = some (.int .i64 a0_2) := (blk_cell BK134.out 2).trans rfl; have hcz10_3 : w6.cell? ⟨gb134, 3, none⟩ = some (.int .i64 a0_3) := (blk_cell BK134.out 3).trans rfl; have hfz10_0 := blk_frozen BK134.out 0; have hfz10_1 := blk_frozen BK134.out 1; have hfz10_2 := blk_frozen BK134.out 2; have hfz10_3 := blk_frozen BK134.out 3))
 go_loopg [16] k (fun kq v16 w' => ∃ (x16_1 : Int) (x137000_1 : List (S49)) (u137000 : Value), v16 = .int .i64 x16_1 ∧ Aside0 (culetlaw49_Own.l0 kq l0_0 (l0_0.length : Int) x16_1 l0_0 l0_1 a0_2 a0_3 x137000_1 a0_2 a0_3 = some (r1, r2, r3, r4)) ∧ Aside0 (kq ≤ k) ∧ Aside0 (Kd.R k49 49 w' w.heap.size (fun _ => True) u137000 x137000_1) ∧ Aside0 (w'.heap[gb134]? = some (.cells #[(.slice A0_0 l0_0.length c0_0), (.slice A0_1 l0_1.length c0_1), .int .i64 a0_2, .int .i64 a0_3] 25 (0, 0))) ∧ Aside0 (w'.heap[gb135]? = some (.cells #[(.slice none 0 0), (.slice none 0 0), .int .i64 0, .int .i64 0] 35 (0, 0))) ∧ Aside0 (w'.heap[gb136]? = some (.cells #[u137000, (.slice none 0 0), .int .i64 a0_2, .int .i64 a0_3] 35 (0, 0))) ∧ Aside0 (Below w.heap.size w w'))
 case atStart => exact ⟨(0), (([] : List (S49))), (.slice none 0 0), rs_, H', ⟨Nat.le_refl _⟩, ⟨by first | exact Kd.R_nil _ _ _ _ _ | exact Kd.N_nil _ _ _ _ _ | exact Kd.V_nil _ _ _ _ _ | exact Kd.Q_nil _ _ _ _ _ | exact Kd.S_nil _ _ _ _ _⟩, ⟨by (with_reducible repeat (first | refine blk_drewN ?_ _ | refine blk_drew ?_ | refine blk_alloc ?_ _)); refine blk_far ?_ NB134_136.out _; (with_reducible repeat (first | refine blk_drewN ?_ _ | refine blk_drew ?_ | refine blk_alloc ?_ _)); refine blk_far ?_ NB134_136.out _; (with_reducible repeat (first | refine blk_drewN ?_ _ | refine blk_drew ?_ | refine blk_alloc ?_ _)); refine blk_far ?_ NB134_136.out _; (with_reducible repeat (first | refine blk_drewN ?_ _ | refine blk_drew ?_ | refine blk_alloc ?_ _)); refine blk_far ?_ NB134_136.out _; (with_reducible repeat (first | refine blk_drewN ?_ _ | refine blk_drew ?_ | refine blk_alloc ?_ _)); exact BK134.out⟩, ⟨by (with_reducible repeat (first | refine blk_drewN ?_ _ | refine blk_drew ?_ | refine blk_alloc ?_ _)); refine blk_far ?_ NB135_136.out _; (with_reducible repeat (first | refine blk_drewN ?_ _ | refine blk_drew ?_ | refine blk_alloc ?_ _)); refine blk_far ?_ NB135_136.out _; (with_reducible repeat (first | refine blk_drewN ?_ _ | refine blk_drew ?_ | refine blk_alloc ?_ _)); refine blk_far ?_ NB135_136.out _; (with_reducible repeat (first | refine blk_drewN ?_ _ | refine blk_drew ?_ | refine blk_alloc ?_ _)); refine blk_far ?_ NB135_136.out _; (with_reducible repeat (first | refine blk_drewN ?_ _ | refine blk_drew ?_ | refine blk_alloc ?_ _)); exact BK135.out⟩, ⟨by (with_reducible repeat (first | refine blk_drewN ?_ _ | refine blk_drew ?_ | refine blk_alloc ?_ _)); refine blk_put (cs := #[.slice none 0 0, .slice none 0 0, .int .i64 a0_2, .int .i64 0]) ?_ 3 _ rfl; (with_reducible repeat (first | refine blk_drewN ?_ _ | refine blk_drew ?_ | refine blk_alloc ?_ _)); refine blk_put (cs := #[.slice none 0 0, .slice none 0 0, .int .i64 0, .int .i64 0]) ?_ 2 _ rfl; (with_reducible repeat (first | refine blk_drewN ?_ _ | refine blk_drew ?_ | refine blk_alloc ?_ _)); refine blk_put (cs := #[.slice none 0 0, .slice none 0 0, .int .i64 0, .int .i64 0]) ?_ 1 _ rfl; (with_reducible repeat (first | refine blk_drewN ?_ _ | refine blk_drew ?_ | refine blk_alloc ?_ _)); refine blk_put (cs := #[.slice none 0 0, .slice none 0 0, .int .i64 0, .int .i64 0]) ?_ 0 _ rfl; (with_reducible repeat (first | refine blk_drewN ?_ _ | refine blk_drew ?_ | refine blk_alloc ?_ _)); exact BK136.out⟩, ⟨mb_ HB.out⟩⟩
 case round =>
  clear H'
  try clear p2
  try clear c4
  try clear c7
  try clear c8
  try clear hcz10_0
  try clear hcz10_1
  try clear hcz10_2
  try clear hcz10_3
  try clear hcz5_0
  try clear hcz5_1
  try clear hcz5_2
  try clear hcz5_3
  try clear hcz9_0
  try clear hcz9_1
  try clear hcz9_2
  try clear hcz9_3
  try clear hfz10_0
  try clear hfz10_1
  try clear hfz10_2
  try clear hfz10_3
  try clear hfz5_0
  try clear hfz5_1
  try clear hfz5_2
  try clear hfz5_3
  try clear hfz9_0
  try clear hfz9_1
  try clear hfz9_2
  try clear hfz9_3
  obtain ⟨x16_1, x137000_1, u137000, rfl, HA, HK1, HO_137000, BK134, BK135, BK136, HB⟩ := hrel
  cases gk with
  | zero => exact absurd HA.out (by simp [culetlaw49_Own.l0])
  | succ k1 =>
   have H := HA.out
   clear HA
   simp only [culetlaw49_Own.l0] at H
   by_cases c11 : x16_1 < (l0_0.length : Int)
   ·
    rw [if_pos c11] at H
    have c11b0 : decide (x16_1 < (l0_0.length : Int)) = true := decide_eq_true c11
    clear c11
    by_cases c12 : 0 ≤ x16_1
    ·
     rw [if_pos c12] at H
     have c12b0 : decide (0 ≤ x16_1) = true := decide_eq_true c12
     clear c12
     by_cases c13 : x16_1 < (l0_0.length : Int)
     ·
      rw [if_pos c13] at H
      have c13b0 : decide (x16_1 < (l0_0.length : Int)) = true := decide_eq_true c13
      clear c13
      by_cases c14 : x137000_1.length < 4398046511104
      ·
       rw [if_pos c14] at H
       have LMc14 := am_ c14
       clear c14
       obtain ⟨y139, hy139⟩ : ∃ y_ : List (S49), y_ = (x137000_1 ++ [(⟨(rd_T55 l0_0 x16_1).f0, (rd_T55 l0_0 x16_1).f1, (rd_T55 l0_0 x16_1).f2⟩ : S49)]) := ⟨_, rfl⟩
       replace H : (culetlaw49_Own.l0 k1 l0_0 (l0_0.length : Int) (wrap64 (x16_1 + 1)) l0_0 l0_1 a0_2 a0_3 y139 a0_2 a0_3) = some (r1, r2, r3, r4) := by first | (rw [hy139]; with_reducible exact H) | (have H2_ := (Option.bind_some _ _).symm.trans H; rw [hy139]; with_reducible exact H2_) | (have H2_ := (Option.bind_some _ _).symm.trans H; with_reducible exact H2_) | with_reducible exact H | (rw [hy139]; exact H) | exact H
       have Ny139 := am_ hy139
       clear hy139
       have H' := am_ H
       clear H
       have p137 : 0 ≤ (x16_1 : Int) := of_decide_eq_true as_
       have q137 : x16_1 < (l0_0.length : Int) := of_decide_eq_true as_
       obtain ⟨ad137, e137, hx137_0, hx137_1, hx137_2⟩ := at_T55 HR0_0.out x16_1 p137 q137
       cases e137
       replace hx137_0 := (HB.out.cell (World.block_lt_of_cell? w _ hx137_0)).trans hx137_0
       replace hx137_1 := (HB.out.cell (World.block_lt_of_cell? w _ hx137_1)).trans hx137_1
       replace hx137_2 := (HB.out.cell (World.block_lt_of_cell? w _ hx137_2)).trans hx137_2
       replace p137 := eq_true p137
       replace q137 := eq_true q137
       go_wp2_with (first | ((with_reducible refine gate_dst (N := 5) rfl ?_); refine bev (N := 5) (cs := #[.string (⟨#[]⟩ : ByteArray), .int .i64 0, .int .i64 0]) (t := 55) ?_; intro gb138 hg w15 hbox hb; have z_ := aI (am_ (Kd.R_below (mr_ HO_137000.out) hb)) (aI (am_ (blk_below (mk_ BK134.out) hb)) (aI (am_ (blk_below (mk_ BK135.out) hb)) (aI (am_ (blk_below (mk_ BK136.out) hb)) (aI (am_ (below_step (mb_ HB.out) hb)) (aI (am_ (hbox)) (aI (am_ ((bz_ hg (mb_ HB.out) : w.heap.size ≤ gb138))) (aI (am_ ((bz_ hg (mb_ HB.out) : w.heap.size ≤ gb138))) (aI (am_ ((nl_ hg (mk_ BK134.out) : gb134 ≠ gb138))) (aI (am_ ((ng_ hg (mk_ BK134.out) : gb138 ≠ gb134))) (aI (am_ ((nl_ hg (mk_ BK135.out) : gb135 ≠ gb138))) (aI (am_ ((ng_ hg (mk_ BK135.out) : gb138 ≠ gb135))) (aI (am_ ((nl_ hg (mk_ BK136.out) : gb136 ≠ gb138))) (am_ ((ng_ hg (mk_ BK136.out) : gb138 ≠ gb136))))))))))))))); clear HO_137000 BK134 BK135 BK136 HB; obtain ⟨HO_137000, BK134, BK135, BK136, HB, BK138, GW138, GE138, NB134_138, NB138_134, NB135_138, NB138_135, NB136_138, NB138_136⟩ := z_; clear hb hbox hg; have hnb16 := NB138_134.out; have hnc16 := NB134_138.out; have hnb17 := NB138_135.out; have hnc17 := NB135_138.out; have hnb18 := NB138_136.out; have hnc18 := NB136_138.out; have hcz19_0 : w15.cell? ⟨gb138, 0, none⟩ = some (.string (⟨#[]⟩ : ByteArray)) := (blk_cell BK138.out 0).trans rfl; have hcz19_1 : w15.cell? ⟨gb138, 1, none⟩ = some (.int .i64 0) := (blk_cell BK138.out 1).trans rfl; have hcz19_2 : w15.cell? ⟨gb138, 2, none⟩ = some (.int .i64 0) := (blk_cell BK138.out 2).trans rfl; have hfz19_0 := blk_frozen BK138.out 0; have hfz19_1 := blk_frozen BK138.out 1; have hfz19_2 := blk_frozen BK138.out 2; have hnb20 := NB136_134.out; have hnc20 := NB134_136.out; have hnb21 := NB136_135.out; have hnc21 := NB135_136.out; have hcz22_0 : w15.cell? ⟨gb136, 0, none⟩ = some (u137000) := (blk_cell BK136.out 0).trans rfl; have hcz22_1 : w15.cell? ⟨gb136, 1, none⟩ = some (.slice none 0 0) := (blk_cell BK136.out 1).trans rfl; have hcz22_2 : w15.cell? ⟨gb136, 2, none⟩ = some (.int .i64 a0_2) := (blk_cell BK136.out 2).trans rfl; have hcz22_3 : w15.cell? ⟨gb136, 3, none⟩ = some (.int .i64 a0_3) := (blk_cell BK136.out 3).trans rfl; have hfz22_0 := blk_frozen BK136.out 0; have hfz22_1 := blk_frozen BK136.out 1; have hfz22_2 := blk_frozen BK136.out 2; have hfz22_3 := blk_frozen BK136.out 3) | ((with_reducible refine gate_builtin (b := .append) (xs := #[.tmp 21, .tmp 23]) rfl ?_); at_builtin; refine Kd.R_append k49 (w0 := w) w.heap.size rfl (.tmp 21) (.tmp 23) 32 49 (.agg #[(.string ⟨#[]⟩), (.int .i64 0), (.int .i64 0)]) 32 rfl Tryd.underlying32 info49 rfl (by decide) (by omega) u137000 x137000_1 (⟨(rd_T55 l0_0 x16_1).f0, (rd_T55 l0_0 x16_1).f1, (rd_T55 l0_0 x16_1).f2⟩ : S49) [.string ((rd_T55 l0_0 x16_1).f0), .int .i64 ((rd_T55 l0_0 x16_1).f1), .int .i64 ((rd_T55 l0_0 x16_1).f2)] (fun _ => True) (fun _ => False) rfl (by first | (go_simp; done) | (go_simp; rfl)) ?aP (fun _ hk => hk.elim) ?aF ?aO ?aB ?aS ?aL ?_; (case aP => exact k49_mkM _ _ _ (⟨(rd_T55 l0_0 x16_1).f0, (rd_T55 l0_0 x16_1).f1, (rd_T55 l0_0 x16_1).f2⟩ : S49)); (case aB => exact (mb_ HB.out)); (case aF => exact (fun _ _ => trivial)); (case aO => exact (by (with_reducible repeat (first | apply Kd.R_alloc | apply Kd.R_drewN | apply Kd.R_drew)); exact Kd.R_mono (Kd.R_far (p := ⟨gb138, 2, none⟩) (Kd.R_far (p := ⟨gb138, 1, none⟩) (Kd.R_far (p := ⟨gb138, 0, none⟩) (Kd.R_types HO_137000.out BK138.out (by decide)) (fun _ hk => hk.2) (.string ((rd_T55 l0_0 x16_1).f0))) (fun _ hk => hk.2) (.int .i64 ((rd_T55 l0_0 x16_1).f1))) (fun _ hk => hk.2) (.int .i64 ((rd_T55 l0_0 x16_1).f2))) (fun _ hk => trivial))); (case aS => exact (below_size (mb_ HB.out))); (case aL => have := LMc14.out; omega); intro v140 w23 ho hb hg hat; rw [← Ny139.out] at ho; have z_ := aI (am_ (blk_grown (g := gb134) (o := .cells #[.slice (some ad137) l0_0.length c0_0, .slice A0_1 l0_1.length c0_1, .int .i64 a0_2, .int .i64 a0_3] 25 (0, 0)) (mf_ BK134.out) hg (Kd.R_ne HO_137000.out BK134.out (by decide)))) (aI (am_ (blk_grown (g := gb135) (o := .cells #[.slice none 0 0, .slice none 0 0, .int .i64 0, .int .i64 0] 35 (0, 0)) (mf_ BK135.out) hg (Kd.R_ne HO_137000.out BK135.out (by decide)))) (aI (am_ (blk_grown (g := gb136) (o := .cells #[u137000, .slice none 0 0, .int .i64 a0_2, .int .i64 a0_3] 35 (0, 0)) (mf_ BK136.out) hg (Kd.R_ne HO_137000.out BK136.out (by decide)))) (aI (am_ (blk_grown (g := gb138) (o := .cells #[.string ((rd_T55 l0_0 x16_1).f0), .int .i64 ((rd_T55 l0_0 x16_1).f1), .int .i64 ((rd_T55 l0_0 x16_1).f2)] 55 (0, 0)) (by (with_reducible repeat (first | refine blk_drewN ?_ _ | refine blk_drew ?_ | refine blk_alloc ?_ _)); refine blk_put (cs := #[.string ((rd_T55 l0_0 x16_1).f0), .int .i64 ((rd_T55 l0_0 x16_1).f1), .int .i64 0]) ?_ 2 _ rfl; (with_reducible repeat (first | refine blk_drewN ?_ _ | refine blk_drew ?_ | refine blk_alloc ?_ _)); refine blk_put (cs := #[.string ((rd_T55 l0_0 x16_1).f0), .int .i64 0, .int .i64 0]) ?_ 1 _ rfl; (with_reducible repeat (first | refine blk_drewN ?_ _ | refine blk_drew ?_ | refine blk_alloc ?_ _)); refine blk_put (cs := #[.string (⟨#[]⟩ : ByteArray), .int .i64 0, .int .i64 0]) ?_ 0 _ rfl; (with_reducible repeat (first | refine blk_drewN ?_ _ | refine blk_drew ?_ | refine blk_alloc ?_ _)); exact BK138.out) hg (Kd.R_ne HO_137000.out BK138.out (by decide)))) (aI (am_ (hb)) (am_ (ho)))))); clear BK134 BK135 BK136 BK138 HB HO_137000; obtain ⟨BK134, BK135, BK136, BK138, HB, HO141⟩ := z_; clear ho hb hg hat; obtain ⟨Ao24, co24, eo24⟩ := Kd.R_slice HO141.out; subst eo24; have hcz25_0 : w23.cell? ⟨gb136, 0, none⟩ = some (u137000) := (blk_cell BK136.out 0).trans rfl; have hcz25_1 : w23.cell? ⟨gb136, 1, none⟩ = some (.slice none 0 0) := (blk_cell BK136.out 1).trans rfl; have hcz25_2 : w23.cell? ⟨gb136, 2, none⟩ = some (.int .i64 a0_2) := (blk_cell BK136.out 2).trans rfl; have hcz25_3 : w23.cell? ⟨gb136, 3, none⟩ = some (.int .i64 a0_3) := (blk_cell BK136.out 3).trans rfl; have hfz25_0 := blk_frozen BK136.out 0; have hfz25_1 := blk_frozen BK136.out 1; have hfz25_2 := blk_frozen BK136.out 2; have hfz25_3 := blk_frozen BK136.out 3))
       go_roundg k1
       case measure => have := HK1.out; omega
       case rel => exact ⟨(wrap64 (x16_1 + 1)), (y139), (.slice Ao24 y139.length co24), rs_, H', ⟨by have := HK1.out; omega⟩, ⟨by (with_reducible repeat (first | apply Kd.R_alloc | apply Kd.R_drewN | apply Kd.R_drew)); exact Kd.R_mono (Kd.R_far (p := ⟨gb136, 0, none⟩) (Kd.R_types HO141.out BK136.out (by decide)) (fun _ hk => hk.2) (.slice Ao24 y139.length co24)) (fun _ hk => trivial)⟩, ⟨by (with_reducible repeat (first | refine blk_drewN ?_ _ | refine blk_drew ?_ | refine blk_alloc ?_ _)); refine blk_far ?_ NB134_136.out _; (with_reducible repeat (first | refine blk_drewN ?_ _ | refine blk_drew ?_ | refine blk_alloc ?_ _)); exact BK134.out⟩, ⟨by (with_reducible repeat (first | refine blk_drewN ?_ _ | refine blk_drew ?_ | refine blk_alloc ?_ _)); refine blk_far ?_ NB135_136.out _; (with_reducible repeat (first | refine blk_drewN ?_ _ | refine blk_drew ?_ | refine blk_alloc ?_ _)); exact BK135.out⟩, ⟨by (with_reducible repeat (first | refine blk_drewN ?_ _ | refine blk_drew ?_ | refine blk_alloc ?_ _)); refine blk_put (cs := #[u137000, .slice none 0 0, .int .i64 a0_2, .int .i64 a0_3]) ?_ 0 _ rfl; (with_reducible repeat (first | refine blk_drewN ?_ _ | refine blk_drew ?_ | refine blk_alloc ?_ _)); exact BK136.out⟩, ⟨mb_ HB.out⟩⟩
      ·
       rw [if_neg c14] at H
       exact absurd H (by simp)
     ·
      rw [if_neg c13] at H
      exact absurd H (by simp)
    ·
     rw [if_neg c12] at H
     exact absurd H (by simp)
   ·
    rw [if_neg c11] at H
    have c11b0 : decide (x16_1 < (l0_0.length : Int)) = false := decide_eq_false c11
    clear c11
    have H' := am_ H
    clear H
    have hnb26 := NB134_135.out
    have hnc26 := NB135_134.out
    have hnb27 := NB134_136.out
    have hnc27 := NB136_134.out
    have hcz28_0 : wr.cell? ⟨gb134, 0, none⟩ = some (.slice A0_0 l0_0.length c0_0) := (blk_cell BK134.out 0).trans rfl
    have hcz28_1 : wr.cell? ⟨gb134, 1, none⟩ = some (.slice A0_1 l0_1.length c0_1) := (blk_cell BK134.out 1).trans rfl
    have hcz28_2 : wr.cell? ⟨gb134, 2, none⟩ = some (.int .i64 a0_2) := (blk_cell BK134.out 2).trans rfl
    have hcz28_3 : wr.cell? ⟨gb134, 3, none⟩ = some (.int .i64 a0_3) := (blk_cell BK134.out 3).trans rfl
    have hfz28_0 := blk_frozen BK134.out 0
    have hfz28_1 := blk_frozen BK134.out 1
    have hfz28_2 := blk_frozen BK134.out 2
    have hfz28_3 := blk_frozen BK134.out 3
    go_wp2
    go_loopg [30] k1 (fun kq v30 w' => ∃ (x30_2 : Int) (x137001_2 : List (S51)) (u137001 : Value), v30 = .int .i64 x30_2 ∧ Aside0 (culetlaw49_Own.l1 kq l0_1 (l0_1.length : Int) x30_2 x137000_1 x137001_2 a0_2 a0_3 = some (r1, r2, r3, r4)) ∧ Aside0 (kq ≤ k1) ∧ Aside0 (Kd.R k49 49 w' w.heap.size (fun _ => True) u137000 x137000_1) ∧ Aside0 (Kd.R k51 51 w' w.heap.size (fun _ => True) u137001 x137001_2) ∧ Aside0 (w'.heap[gb134]? = some (.cells #[(.slice A0_0 l0_0.length c0_0), (.slice A0_1 l0_1.length c0_1), .int .i64 a0_2, .int .i64 a0_3] 25 (0, 0))) ∧ Aside0 (w'.heap[gb135]? = some (.cells #[(.slice none 0 0), (.slice none 0 0), .int .i64 0, .int .i64 0] 35 (0, 0))) ∧ Aside0 (w'.heap[gb136]? = some (.cells #[u137000, u137001, .int .i64 a0_2, .int .i64 a0_3] 35 (0, 0))) ∧ Aside0 (Below w.heap.size w w'))
    case atStart => exact ⟨(0), (([] : List (S51))), (.slice none 0 0), rs_, H', ⟨Nat.le_refl _⟩, ⟨by (with_reducible repeat (first | apply Kd.R_alloc | apply Kd.R_drewN | apply Kd.R_drew)); exact HO_137000.out⟩, ⟨by first | exact Kd.R_nil _ _ _ _ _ | exact Kd.N_nil _ _ _ _ _ | exact Kd.V_nil _ _ _ _ _ | exact Kd.Q_nil _ _ _ _ _ | exact Kd.S_nil _ _ _ _ _⟩, ⟨by (with_reducible repeat (first | refine blk_drewN ?_ _ | refine blk_drew ?_ | refine blk_alloc ?_ _)); exact BK134.out⟩, ⟨by (with_reducible repeat (first | refine blk_drewN ?_ _ | refine blk_drew ?_ | refine blk_alloc ?_ _)); exact BK135.out⟩, ⟨by (with_reducible repeat (first | refine blk_drewN ?_ _ | refine blk_drew ?_ | refine blk_alloc ?_ _)); exact BK136.out⟩, ⟨mb_ HB.out⟩⟩
    case round =>
     clear H'
     try clear c1
     try clear p1
     try clear q1
     try clear hx1
     try clear c2
     try clear p2
     try clear c4
     try clear p6
     try clear c7
     try clear c8
     try clear c11
     try clear c11b0
     try clear c12
     try clear c12b0
     try clear c13
     try clear c13b0
     try clear p13
     try clear q13
     try clear hx13
     try clear c14
     try clear c16
     try clear c17
     try clear c18
     try clear c20
     try clear c21
     try clear c26
     try clear c27
     try clear hcz10_0
     try clear hcz10_1
     try clear hcz10_2
     try clear hcz10_3
     try clear hcz19_0
     try clear hcz19_1
     try clear hcz19_2
     try clear hcz22_0
     try clear hcz22_1
     try clear hcz22_2
     try clear hcz22_3
     try clear hcz25_0
     try clear hcz25_1
     try clear hcz25_2
     try clear hcz25_3
     try clear hcz28_0
     try clear hcz28_1
     try clear hcz28_2
     try clear hcz28_3
     try clear hcz5_0
     try clear hcz5_1
     try clear hcz5_2
     try clear hcz5_3
     try clear hcz9_0
     try clear hcz9_1
     try clear hcz9_2
     try clear hcz9_3
     try clear hfz10_0
     try clear hfz10_1
     try clear hfz10_2
     try clear hfz10_3
     try clear hfz19_0
     try clear hfz19_1
     try clear hfz19_2
     try clear hfz22_0
     try clear hfz22_1
     try clear hfz22_2
     try clear hfz22_3
     try clear hfz25_0
     try clear hfz25_1
     try clear hfz25_2
     try clear hfz25_3
     try clear hfz28_0
     try clear hfz28_1
     try clear hfz28_2
     try clear hfz28_3
     try clear hfz5_0
     try clear hfz5_1
     try clear hfz5_2
     try clear hfz5_3
     try clear hfz9_0
     try clear hfz9_1
     try clear hfz9_2
     try clear hfz9_3
     try clear hx137_0
     try clear hx137_1
     try clear hx137_2
     try clear p137
     try clear p2
     try clear q137
     obtain ⟨x30_2, x137001_2, u137001, rfl, HA, HK2, HO_137000, HO_137001, BK134, BK135, BK136, HB⟩ := hrel
     cases gk with
     | zero => exact absurd HA.out (by simp [culetlaw49_Own.l1])
     | succ k2 =>
      have H := HA.out
      clear HA
      simp only [culetlaw49_Own.l1] at H
      by_cases c29 : x30_2 < (l0_1.length : Int)
      ·
       rw [if_pos c29] at H
       have c29b0 : decide (x30_2 < (l0_1.length : Int)) = true := decide_eq_true c29
       clear c29
       by_cases c30 : 0 ≤ x30_2
       ·
        rw [if_pos c30] at H
        have c30b0 : decide (0 ≤ x30_2) = true := decide_eq_true c30
        clear c30
        by_cases c31 : x30_2 < (l0_1.length : Int)
        ·
         rw [if_pos c31] at H
         have c31b0 : decide (x30_2 < (l0_1.length : Int)) = true := decide_eq_true c31
         clear c31
         by_cases c32 : x137001_2.length < 4398046511104
         ·
          rw [if_pos c32] at H
          have LMc32 := am_ c32
          clear c32
          obtain ⟨y144, hy144⟩ : ∃ y_ : List (S51), y_ = (x137001_2 ++ [(⟨(rd_T56 l0_1 x30_2).f0, (rd_T56 l0_1 x30_2).f1, (rd_T56 l0_1 x30_2).f2⟩ : S51)]) := ⟨_, rfl⟩
          replace H : (culetlaw49_Own.l1 k2 l0_1 (l0_1.length : Int) (wrap64 (x30_2 + 1)) x137000_1 y144 a0_2 a0_3) = some (r1, r2, r3, r4) := by first | (rw [hy144]; with_reducible exact H) | (have H2_ := (Option.bind_some _ _).symm.trans H; rw [hy144]; with_reducible exact H2_) | (have H2_ := (Option.bind_some _ _).symm.trans H; with_reducible exact H2_) | with_reducible exact H | (rw [hy144]; exact H) | exact H
          have Ny144 := am_ hy144
          clear hy144
          have H' := am_ H
          clear H
          have p142 : 0 ≤ (x30_2 : Int) := of_decide_eq_true as_
          have q142 : x30_2 < (l0_1.length : Int) := of_decide_eq_true as_
          obtain ⟨ad142, e142, hx142_0, hx142_1, hx142_2⟩ := at_T56 HR0_1.out x30_2 p142 q142
          cases e142
          replace hx142_0 := (HB.out.cell (World.block_lt_of_cell? w _ hx142_0)).trans hx142_0
          replace hx142_1 := (HB.out.cell (World.block_lt_of_cell? w _ hx142_1)).trans hx142_1
          replace hx142_2 := (HB.out.cell (World.block_lt_of_cell? w _ hx142_2)).trans hx142_2
          replace p142 := eq_true p142
          replace q142 := eq_true q142
          go_wp2_with (first | ((with_reducible refine gate_dst (N := 7) rfl ?_); refine bev (N := 7) (cs := #[.string (⟨#[]⟩ : ByteArray), .int .i64 0, .int .i64 0]) (t := 56) ?_; intro gb143 hg w33 hbox hb; have z_ := aI (am_ (Kd.R_below (mr_ HO_137000.out) hb)) (aI (am_ (Kd.R_below (mr_ HO_137001.out) hb)) (aI (am_ (blk_below (mk_ BK134.out) hb)) (aI (am_ (blk_below (mk_ BK135.out) hb)) (aI (am_ (blk_below (mk_ BK136.out) hb)) (aI (am_ (below_step (mb_ HB.out) hb)) (aI (am_ (hbox)) (aI (am_ ((bz_ hg (mb_ HB.out) : w.heap.size ≤ gb143))) (aI (am_ ((bz_ hg (mb_ HB.out) : w.heap.size ≤ gb143))) (aI (am_ ((nl_ hg (mk_ BK134.out) : gb134 ≠ gb143))) (aI (am_ ((ng_ hg (mk_ BK134.out) : gb143 ≠ gb134))) (aI (am_ ((nl_ hg (mk_ BK135.out) : gb135 ≠ gb143))) (aI (am_ ((ng_ hg (mk_ BK135.out) : gb143 ≠ gb135))) (aI (am_ ((nl_ hg (mk_ BK136.out) : gb136 ≠ gb143))) (am_ ((ng_ hg (mk_ BK136.out) : gb143 ≠ gb136)))))))))))))))); clear HO_137000 HO_137001 BK134 BK135 BK136 HB; obtain ⟨HO_137000, HO_137001, BK134, BK135, BK136, HB, BK143, GW143, GE143, NB134_143, NB143_134, NB135_143, NB143_135, NB136_143, NB143_136⟩ := z_; clear hb hbox hg; have hnb34 := NB143_134.out; have hnc34 := NB134_143.out; have hnb35 := NB143_135.out; have hnc35 := NB135_143.out; have hnb36 := NB143_136.out; have hnc36 := NB136_143.out; have hcz37_0 : w33.cell? ⟨gb143, 0, none⟩ = some (.string (⟨#[]⟩ : ByteArray)) := (blk_cell BK143.out 0).trans rfl; have hcz37_1 : w33.cell? ⟨gb143, 1, none⟩ = some (.int .i64 0) := (blk_cell BK143.out 1).trans rfl; have hcz37_2 : w33.cell? ⟨gb143, 2, none⟩ = some (.int .i64 0) := (blk_cell BK143.out 2).trans rfl; have hfz37_0 := blk_frozen BK143.out 0; have hfz37_1 := blk_frozen BK143.out 1; have hfz37_2 := blk_frozen BK143.out 2; have hnb38 := NB136_134.out; have hnc38 := NB134_136.out; have hnb39 := NB136_135.out; have hnc39 := NB135_136.out; have hcz40_0 : w33.cell? ⟨gb136, 0, none⟩ = some (u137000) := (blk_cell BK136.out 0).trans rfl; have hcz40_1 : w33.cell? ⟨gb136, 1, none⟩ = some (u137001) := (blk_cell BK136.out 1).trans rfl; have hcz40_2 : w33.cell? ⟨gb136, 2, none⟩ = some (.int .i64 a0_2) := (blk_cell BK136.out 2).trans rfl; have hcz40_3 : w33.cell? ⟨gb136, 3, none⟩ = some (.int .i64 a0_3) := (blk_cell BK136.out 3).trans rfl; have hfz40_0 := blk_frozen BK136.out 0; have hfz40_1 := blk_frozen BK136.out 1; have hfz40_2 := blk_frozen BK136.out 2; have hfz40_3 := blk_frozen BK136.out 3) | ((with_reducible refine gate_builtin (b := .append) (xs := #[.tmp 35, .tmp 37]) rfl ?_); at_builtin; refine Kd.R_append k51 (w0 := w) w.heap.size rfl (.tmp 35) (.tmp 37) 33 51 (.agg #[(.string ⟨#[]⟩), (.int .i64 0), (.int .i64 0)]) 32 rfl Tryd.underlying33 info51 rfl (by decide) (by omega) u137001 x137001_2 (⟨(rd_T56 l0_1 x30_2).f0, (rd_T56 l0_1 x30_2).f1, (rd_T56 l0_1 x30_2).f2⟩ : S51) [.string ((rd_T56 l0_1 x30_2).f0), .int .i64 ((rd_T56 l0_1 x30_2).f1), .int .i64 ((rd_T56 l0_1 x30_2).f2)] (fun _ => True) (fun _ => False) rfl (by first | (go_simp; done) | (go_simp; rfl)) ?aP (fun _ hk => hk.elim) ?aF ?aO ?aB ?aS ?aL ?_; (case aP => exact k51_mkM _ _ _ (⟨(rd_T56 l0_1 x30_2).f0, (rd_T56 l0_1 x30_2).f1, (rd_T56 l0_1 x30_2).f2⟩ : S51)); (case aB => exact (mb_ HB.out)); (case aF => exact (fun _ _ => trivial)); (case aO => exact (by (with_reducible repeat (first | apply Kd.R_alloc | apply Kd.R_drewN | apply Kd.R_drew)); exact Kd.R_mono (Kd.R_far (p := ⟨gb143, 2, none⟩) (Kd.R_far (p := ⟨gb143, 1, none⟩) (Kd.R_far (p := ⟨gb143, 0, none⟩) (Kd.R_types HO_137001.out BK143.out (by decide)) (fun _ hk => hk.2) (.string ((rd_T56 l0_1 x30_2).f0))) (fun _ hk => hk.2) (.int .i64 ((rd_T56 l0_1 x30_2).f1))) (fun _ hk => hk.2) (.int .i64 ((rd_T56 l0_1 x30_2).f2))) (fun _ hk => trivial))); (case aS => exact (below_size (mb_ HB.out))); (case aL => have := LMc32.out; omega); intro v145 w41 ho hb hg hat; rw [← Ny144.out] at ho; have z_ := aI (am_ (Kd.R_over' (by (with_reducible repeat (first | apply Kd.R_alloc | apply Kd.R_drewN | apply Kd.R_drew)); exact (Kd.R_mono (Kd.R_far (p := ⟨gb143, 2, none⟩) (Kd.R_far (p := ⟨gb143, 1, none⟩) (Kd.R_far (p := ⟨gb143, 0, none⟩) (Kd.R_types HO_137000.out BK143.out (by decide)) (fun _ hk => hk.2) (.string ((rd_T56 l0_1 x30_2).f0))) (fun _ hk => hk.2) (.int .i64 ((rd_T56 l0_1 x30_2).f1))) (fun _ hk => hk.2) (.int .i64 ((rd_T56 l0_1 x30_2).f2))) (fun _ h_ => h_.1))) (Kd.R_typed (by (with_reducible repeat (first | apply Kd.R_alloc | apply Kd.R_drewN | apply Kd.R_drew)); exact (Kd.R_mono (Kd.R_far (p := ⟨gb143, 2, none⟩) (Kd.R_far (p := ⟨gb143, 1, none⟩) (Kd.R_far (p := ⟨gb143, 0, none⟩) (Kd.R_types HO_137001.out BK143.out (by decide)) (fun _ hk => hk.2) (.string ((rd_T56 l0_1 x30_2).f0))) (fun _ hk => hk.2) (.int .i64 ((rd_T56 l0_1 x30_2).f1))) (fun _ hk => hk.2) (.int .i64 ((rd_T56 l0_1 x30_2).f2))) (fun _ h_ => h_.1)))) (by decide) hg)) (aI (am_ (blk_grown (g := gb134) (o := .cells #[.slice A0_0 l0_0.length c0_0, .slice (some ad142) l0_1.length c0_1, .int .i64 a0_2, .int .i64 a0_3] 25 (0, 0)) (mf_ BK134.out) hg (Kd.R_ne HO_137001.out BK134.out (by decide)))) (aI (am_ (blk_grown (g := gb135) (o := .cells #[.slice none 0 0, .slice none 0 0, .int .i64 0, .int .i64 0] 35 (0, 0)) (mf_ BK135.out) hg (Kd.R_ne HO_137001.out BK135.out (by decide)))) (aI (am_ (blk_grown (g := gb136) (o := .cells #[u137000, u137001, .int .i64 a0_2, .int .i64 a0_3] 35 (0, 0)) (mf_ BK136.out) hg (Kd.R_ne HO_137001.out BK136.out (by decide)))) (aI (am_ (blk_grown (g := gb143) (o := .cells #[.string ((rd_T56 l0_1 x30_2).f0), .int .i64 ((rd_T56 l0_1 x30_2).f1), .int .i64 ((rd_T56 l0_1 x30_2).f2)] 56 (0, 0)) (by (with_reducible repeat (first | refine blk_drewN ?_ _ | refine blk_drew ?_ | refine blk_alloc ?_ _)); refine blk_put (cs := #[.string ((rd_T56 l0_1 x30_2).f0), .int .i64 ((rd_T56 l0_1 x30_2).f1), .int .i64 0]) ?_ 2 _ rfl; (with_reducible repeat (first | refine blk_drewN ?_ _ | refine blk_drew ?_ | refine blk_alloc ?_ _)); refine blk_put (cs := #[.string ((rd_T56 l0_1 x30_2).f0), .int .i64 0, .int .i64 0]) ?_ 1 _ rfl; (with_reducible repeat (first | refine blk_drewN ?_ _ | refine blk_drew ?_ | refine blk_alloc ?_ _)); refine blk_put (cs := #[.string (⟨#[]⟩ : ByteArray), .int .i64 0, .int .i64 0]) ?_ 0 _ rfl; (with_reducible repeat (first | refine blk_drewN ?_ _ | refine blk_drew ?_ | refine blk_alloc ?_ _)); exact BK143.out) hg (Kd.R_ne HO_137001.out BK143.out (by decide)))) (aI (am_ (hb)) (am_ (ho))))))); clear HO_137000 BK134 BK135 BK136 BK143 HB HO_137001; obtain ⟨HO_137000, BK134, BK135, BK136, BK143, HB, HO146⟩ := z_; clear ho hb hg hat; obtain ⟨Ao42, co42, eo42⟩ := Kd.R_slice HO146.out; subst eo42; have hcz43_0 : w41.cell? ⟨gb136, 0, none⟩ = some (u137000) := (blk_cell BK136.out 0).trans rfl; have hcz43_1 : w41.cell? ⟨gb136, 1, none⟩ = some (u137001) := (blk_cell BK136.out 1).trans rfl; have hcz43_2 : w41.cell? ⟨gb136, 2, none⟩ = some (.int .i64 a0_2) := (blk_cell BK136.out 2).trans rfl; have hcz43_3 : w41.cell? ⟨gb136, 3, none⟩ = some (.int .i64 a0_3) := (blk_cell BK136.out 3).trans rfl; have hfz43_0 := blk_frozen BK136.out 0; have hfz43_1 := blk_frozen BK136.out 1; have hfz43_2 := blk_frozen BK136.out 2; have hfz43_3 := blk_frozen BK136.out 3))
          go_roundg k2
          case measure => have := HK1.out; have := HK2.out; omega
          case rel => exact ⟨(wrap64 (x30_2 + 1)), (y144), (.slice Ao42 y144.length co42), rs_, H', ⟨by have := HK1.out; have := HK2.out; omega⟩, ⟨by (with_reducible repeat (first | apply Kd.R_alloc | apply Kd.R_drewN | apply Kd.R_drew)); exact Kd.R_mono (Kd.R_far (p := ⟨gb136, 1, none⟩) (Kd.R_types HO_137000.out BK136.out (by decide)) (fun _ hk => hk.2) (.slice Ao42 y144.length co42)) (fun _ hk => trivial)⟩, ⟨by (with_reducible repeat (first | apply Kd.R_alloc | apply Kd.R_drewN | apply Kd.R_drew)); exact Kd.R_mono (Kd.R_far (p := ⟨gb136, 1, none⟩) (Kd.R_types HO146.out BK136.out (by decide)) (fun _ hk => hk.2) (.slice Ao42 y144.length co42)) (fun _ hk => trivial)⟩, ⟨by (with_reducible repeat (first | refine blk_drewN ?_ _ | refine blk_drew ?_ | refine blk_alloc ?_ _)); refine blk_far ?_ NB134_136.out _; (with_reducible repeat (first | refine blk_drewN ?_ _ | refine blk_drew ?_ | refine blk_alloc ?_ _)); exact BK134.out⟩, ⟨by (with_reducible repeat (first | refine blk_drewN ?_ _ | refine blk_drew ?_ | refine blk_alloc ?_ _)); refine blk_far ?_ NB135_136.out _; (with_reducible repeat (first | refine blk_drewN ?_ _ | refine blk_drew ?_ | refine blk_alloc ?_ _)); exact BK135.out⟩, ⟨by (with_reducible repeat (first | refine blk_drewN ?_ _ | refine blk_drew ?_ | refine blk_alloc ?_ _)); refine blk_put (cs := #[u137000, u137001, .int .i64 a0_2, .int .i64 a0_3]) ?_ 1 _ rfl; (with_reducible repeat (first | refine blk_drewN ?_ _ | refine blk_drew ?_ | refine blk_alloc ?_ _)); exact BK136.out⟩, ⟨mb_ HB.out⟩⟩
         ·
          rw [if_neg c32] at H
          exact absurd H (by simp)
        ·
         rw [if_neg c31] at H
         exact absurd H (by simp)
       ·
        rw [if_neg c30] at H
        exact absurd H (by simp)
      ·
       rw [if_neg c29] at H
       have c29b0 : decide (x30_2 < (l0_1.length : Int)) = false := decide_eq_false c29
       clear c29
       simp only [Option.some.injEq, Prod.mk.injEq] at H
       obtain ⟨rfl, rfl, rfl, rfl⟩ := H
       have hnb44 := NB136_134.out
       have hnc44 := NB134_136.out
       have hnb45 := NB136_135.out
       have hnc45 := NB135_136.out
       have hcz46_0 : wr.cell? ⟨gb136, 0, none⟩ = some (u137000) := (blk_cell BK136.out 0).trans rfl
       have hcz46_1 : wr.cell? ⟨gb136, 1, none⟩ = some (u137001) := (blk_cell BK136.out 1).trans rfl
       have hcz46_2 : wr.cell? ⟨gb136, 2, none⟩ = some (.int .i64 a0_2) := (blk_cell BK136.out 2).trans rfl
       have hcz46_3 : wr.cell? ⟨gb136, 3, none⟩ = some (.int .i64 a0_3) := (blk_cell BK136.out 3).trans rfl
       have hfz46_0 := blk_frozen BK136.out 0
       have hfz46_1 := blk_frozen BK136.out 1
       have hfz46_2 := blk_frozen BK136.out 2
       have hfz46_3 := blk_frozen BK136.out 3
       obtain ⟨Ao47, co47, eo47⟩ := Kd.R_slice HO_137000.out
       subst eo47
       have hnb48 := NB135_134.out
       have hnc48 := NB134_135.out
       have hcz49_0 : wr.cell? ⟨gb135, 0, none⟩ = some (.slice none 0 0) := (blk_cell BK135.out 0).trans rfl
       have hcz49_1 : wr.cell? ⟨gb135, 1, none⟩ = some (.slice none 0 0) := (blk_cell BK135.out 1).trans rfl
       have hcz49_2 : wr.cell? ⟨gb135, 2, none⟩ = some (.int .i64 0) := (blk_cell BK135.out 2).trans rfl
       have hcz49_3 : wr.cell? ⟨gb135, 3, none⟩ = some (.int .i64 0) := (blk_cell BK135.out 3).trans rfl
       have hfz49_0 := blk_frozen BK135.out 0
       have hfz49_1 := blk_frozen BK135.out 1
       have hfz49_2 := blk_frozen BK135.out 2
       have hfz49_3 := blk_frozen BK135.out 3
       obtain ⟨Ao50, co50, eo50⟩ := Kd.R_slice HO_137001.out
       subst eo50
       go_wp2
       refine bodyPost_ret (results_cell_row rfl _ _ gb135 35 #[.slice Ao47 x137000_1.length co47, .slice Ao50 x137001_2.length co50, .int .i64 a0_2, .int .i64 a0_3] (0, 0) _ rfl (by (with_reducible repeat (first | refine blk_drewN ?_ _ | refine blk_drew ?_ | refine blk_alloc ?_ _)); refine blk_put (cs := #[.slice Ao47 x137000_1.length co47, .slice Ao50 x137001_2.length co50, .int .i64 a0_2, .int .i64 0]) ?_ 3 _ rfl; (with_reducible repeat (first | refine blk_drewN ?_ _ | refine blk_drew ?_ | refine blk_alloc ?_ _)); refine blk_put (cs := #[.slice Ao47 x137000_1.length co47, .slice Ao50 x137001_2.length co50, .int .i64 0, .int .i64 0]) ?_ 2 _ rfl; (with_reducible repeat (first | refine blk_drewN ?_ _ | refine blk_drew ?_ | refine blk_alloc ?_ _)); refine blk_put (cs := #[.slice Ao47 x137000_1.length co47, .slice none 0 0, .int .i64 0, .int .i64 0]) ?_ 1 _ rfl; (with_reducible repeat (first | refine blk_drewN ?_ _ | refine blk_drew ?_ | refine blk_alloc ?_ _)); refine blk_put (cs := #[.slice none 0 0, .slice none 0 0, .int .i64 0, .int .i64 0]) ?_ 0 _ rfl; (with_reducible repeat (first | refine blk_drewN ?_ _ | refine blk_drew ?_ | refine blk_alloc ?_ _)); exact BK135.out) Tryd.underlying35 rfl (by kernel_rfl)) rfl ?_
       exact ⟨_, _, by first | rfl | (simp [errW_none, errW_some] <;> rfl) | (simp [*, errW_none, errW_some] <;> rfl), by (with_reducible repeat (first | apply Kd.R_alloc | apply Kd.R_drewN | apply Kd.R_drew)); exact Kd.R_mono (Kd.R_far (p := ⟨gb135, 3, none⟩) (Kd.R_far (p := ⟨gb135, 2, none⟩) (Kd.R_far (p := ⟨gb135, 1, none⟩) (Kd.R_far (p := ⟨gb135, 0, none⟩) (Kd.R_types HO_137000.out BK135.out (by decide)) (fun _ hk => hk.2) (.slice Ao47 x137000_1.length co47)) (fun _ hk => hk.2) (.slice Ao50 x137001_2.length co50)) (fun _ hk => hk.2) (.int .i64 a0_2)) (fun _ hk => hk.2) (.int .i64 a0_3)) (fun _ hk => trivial), by (with_reducible repeat (first | apply Kd.R_alloc | apply Kd.R_drewN | apply Kd.R_drew)); exact Kd.R_mono (Kd.R_far (p := ⟨gb135, 3, none⟩) (Kd.R_far (p := ⟨gb135, 2, none⟩) (Kd.R_far (p := ⟨gb135, 1, none⟩) (Kd.R_far (p := ⟨gb135, 0, none⟩) (Kd.R_types HO_137001.out BK135.out (by decide)) (fun _ hk => hk.2) (.slice Ao47 x137000_1.length co47)) (fun _ hk => hk.2) (.slice Ao50 x137001_2.length co50)) (fun _ hk => hk.2) (.int .i64 a0_2)) (fun _ hk => hk.2) (.int .i64 a0_3)) (fun _ hk => trivial), mb_ HB.out⟩

end Go.Proofs.YtalhpnfapagamaaDoor.S
end
section
namespace Go.Proofs.YtalhpnfapagamaaDoor.S
open Go.RowKit Go.Proofs.YtalhpnfapagamaaDoorW.PrintWords Go.Proofs.YtalhpnfapagamaaDoorW.PrintLast Go.Proofs.YtalhpnfapagamaaDoorW.PrintMore Go.Proofs.YtalhpnfapagamaaDoorD
set_option linter.unusedVariables false
set_option linter.unusedSimpArgs false

def culetlaw49_own.l0 : Nat → List (S60) → List (S63) → Int → Int → Option ((List (S60)))
 | 0, _, _, _, _ => none
 | k + 1, x3, x6, x7, x8 => if x8 < x7 then (if 0 ≤ x8 then (if x8 < (x6.length : Int) then (if x3.length < 5864062014805 then (culetlaw49_own.l0 k (x3 ++ [(⟨(rd_T63 x6 x8).f0, (rd_T63 x6 x8).f1, (rd_T63 x6 x8).f2⟩ : S60)]) x6 x7 (wrap64 (x8 + 1))) else (none)) else (none)) else (none)) else (some x3)
def culetlaw49_own.f (k : Nat) (l0 : List (S63)) : Option ((List (S60))) := culetlaw49_own.l0 k ([] : List (S60)) l0 (l0.length : Int) 0
set_option maxHeartbeats 8000000 in
set_option maxRecDepth 100000 in
theorem culetlaw49_own.calls (k : Nat) (A0 : Option Addr) (c0 : Nat) (l0 : List (S63)) (r : List (S60)) (w : World) (hr0 : Kd.C k63 w A0 l0.length l0) (hc0 : l0.length ≤ c0) (h : culetlaw49_own.f k l0 = some r) :
  Calls Tryd.prog 8 #[.slice A0 l0.length c0] w fun e w' => ∃ v0_ : Value, e = .returned (v0_) ∧ Kd.R k60 60 w' w.heap.size (fun _ => True) v0_ r ∧ Below w.heap.size w w' := by
 have hu63 := Tryd.underlying63
 have HR0 := am_ hr0
 have HC0 := am_ hc0
 clear hr0 hc0
 have HB := am_ (Below.refl w.heap.size w)
 have H : (culetlaw49_own.l0 k ([] : List (S60)) l0 (l0.length : Int) 0) = some r := h
 clear h
 have H' := am_ H
 clear H
 go_enter Tryd.func8, Tryd.ntmps8
 go_wp2
 go_loopg [3, 8] k (fun kq v3 v8 w' => ∃ (x3_1 : List (S60)) (x8_1 : Int), v8 = .int .i64 x8_1 ∧ Aside0 (culetlaw49_own.l0 kq x3_1 l0 (l0.length : Int) x8_1 = some r) ∧ Aside0 (kq ≤ k) ∧ Aside0 (Kd.R k60 60 w' w.heap.size (fun _ => True) v3 x3_1) ∧ Aside0 (Below w.heap.size w w'))
 case atStart => exact ⟨(([] : List (S60))), (0), rs_, H', ⟨Nat.le_refl _⟩, ⟨by first | exact Kd.R_nil _ _ _ _ _ | exact Kd.N_nil _ _ _ _ _ | exact Kd.V_nil _ _ _ _ _ | exact Kd.Q_nil _ _ _ _ _ | exact Kd.S_nil _ _ _ _ _⟩, ⟨mb_ HB.out⟩⟩
 case round =>
  clear H'
  obtain ⟨x3_1, x8_1, rfl, HA, HK1, HO_3, HB⟩ := hrel
  cases gk with
  | zero => exact absurd HA.out (by simp [culetlaw49_own.l0])
  | succ k1 =>
   have H := HA.out
   clear HA
   simp only [culetlaw49_own.l0] at H
   by_cases c2 : x8_1 < (l0.length : Int)
   ·
    rw [if_pos c2] at H
    have c2b0 : decide (x8_1 < (l0.length : Int)) = true := decide_eq_true c2
    clear c2
    by_cases c3 : 0 ≤ x8_1
    ·
     rw [if_pos c3] at H
     have c3b0 : decide (0 ≤ x8_1) = true := decide_eq_true c3
     clear c3
     by_cases c4 : x8_1 < (l0.length : Int)
     ·
      rw [if_pos c4] at H
      have c4b0 : decide (x8_1 < (l0.length : Int)) = true := decide_eq_true c4
      clear c4
      by_cases c5 : x3_1.length < 5864062014805
      ·
       rw [if_pos c5] at H
       have LMc5 := am_ c5
       clear c5
       obtain ⟨y149, hy149⟩ : ∃ y_ : List (S60), y_ = (x3_1 ++ [(⟨(rd_T63 l0 x8_1).f0, (rd_T63 l0 x8_1).f1, (rd_T63 l0 x8_1).f2⟩ : S60)]) := ⟨_, rfl⟩
       replace H : (culetlaw49_own.l0 k1 y149 l0 (l0.length : Int) (wrap64 (x8_1 + 1))) = some r := by first | (rw [hy149]; with_reducible exact H) | (have H2_ := (Option.bind_some _ _).symm.trans H; rw [hy149]; with_reducible exact H2_) | (have H2_ := (Option.bind_some _ _).symm.trans H; with_reducible exact H2_) | with_reducible exact H | (rw [hy149]; exact H) | exact H
       have Ny149 := am_ hy149
       clear hy149
       have H' := am_ H
       clear H
       have p147 : 0 ≤ (x8_1 : Int) := of_decide_eq_true as_
       have q147 : x8_1 < (l0.length : Int) := of_decide_eq_true as_
       obtain ⟨ad147, e147, hx147_0, hx147_1, hx147_2⟩ := at_T63 HR0.out x8_1 p147 q147
       cases e147
       replace hx147_0 := (HB.out.cell (World.block_lt_of_cell? w _ hx147_0)).trans hx147_0
       replace hx147_1 := (HB.out.cell (World.block_lt_of_cell? w _ hx147_1)).trans hx147_1
       replace hx147_2 := (HB.out.cell (World.block_lt_of_cell? w _ hx147_2)).trans hx147_2
       replace p147 := eq_true p147
       replace q147 := eq_true q147
       go_wp2_with (first | ((with_reducible refine gate_dst (N := 5) rfl ?_); refine bev (N := 5) (cs := #[.int .i64 0, .int .i64 0, .int .i64 0]) (t := 63) ?_; intro gb148 hg w6 hbox hb; have z_ := aI (am_ (Kd.R_below (mr_ HO_3.out) hb)) (aI (am_ (below_step (mb_ HB.out) hb)) (aI (am_ (hbox)) (aI (am_ ((bz_ hg (mb_ HB.out) : w.heap.size ≤ gb148))) (am_ ((bz_ hg (mb_ HB.out) : w.heap.size ≤ gb148)))))); clear HO_3 HB; obtain ⟨HO_3, HB, BK148, GW148, GE148⟩ := z_; clear hb hbox hg; have hcz7_0 : w6.cell? ⟨gb148, 0, none⟩ = some (.int .i64 0) := (blk_cell BK148.out 0).trans rfl; have hcz7_1 : w6.cell? ⟨gb148, 1, none⟩ = some (.int .i64 0) := (blk_cell BK148.out 1).trans rfl; have hcz7_2 : w6.cell? ⟨gb148, 2, none⟩ = some (.int .i64 0) := (blk_cell BK148.out 2).trans rfl; have hfz7_0 := blk_frozen BK148.out 0; have hfz7_1 := blk_frozen BK148.out 1; have hfz7_2 := blk_frozen BK148.out 2) | ((with_reducible refine gate_builtin (b := .append) (xs := #[.tmp 12, .tmp 14]) rfl ?_); at_builtin; refine Kd.R_append k60 (w0 := w) w.heap.size rfl (.tmp 12) (.tmp 14) 37 60 (.agg #[(.int .i64 0), (.int .i64 0), (.int .i64 0)]) 24 rfl Tryd.underlying37 info60 rfl (by decide) (by omega) u3 x3_1 (⟨(rd_T63 l0 x8_1).f0, (rd_T63 l0 x8_1).f1, (rd_T63 l0 x8_1).f2⟩ : S60) [.int .i64 ((rd_T63 l0 x8_1).f0), .int .i64 ((rd_T63 l0 x8_1).f1), .int .i64 ((rd_T63 l0 x8_1).f2)] (fun _ => True) (fun _ => False) rfl (by first | (go_simp; done) | (go_simp; rfl)) ?aP (fun _ hk => hk.elim) ?aF ?aO ?aB ?aS ?aL ?_; (case aP => exact k60_mkM _ _ _ (⟨(rd_T63 l0 x8_1).f0, (rd_T63 l0 x8_1).f1, (rd_T63 l0 x8_1).f2⟩ : S60)); (case aB => exact (mb_ HB.out)); (case aF => exact (fun _ _ => trivial)); (case aO => exact (by (with_reducible repeat (first | apply Kd.R_alloc | apply Kd.R_drewN | apply Kd.R_drew)); exact Kd.R_mono (Kd.R_far (p := ⟨gb148, 2, none⟩) (Kd.R_far (p := ⟨gb148, 1, none⟩) (Kd.R_far (p := ⟨gb148, 0, none⟩) (Kd.R_types HO_3.out BK148.out (by decide)) (fun _ hk => hk.2) (.int .i64 ((rd_T63 l0 x8_1).f0))) (fun _ hk => hk.2) (.int .i64 ((rd_T63 l0 x8_1).f1))) (fun _ hk => hk.2) (.int .i64 ((rd_T63 l0 x8_1).f2))) (fun _ hk => trivial))); (case aS => exact (below_size (mb_ HB.out))); (case aL => have := LMc5.out; omega); intro v150 w8 ho hb hg hat; rw [← Ny149.out] at ho; have z_ := aI (am_ (blk_grown (g := gb148) (o := .cells #[.int .i64 ((rd_T63 l0 x8_1).f0), .int .i64 ((rd_T63 l0 x8_1).f1), .int .i64 ((rd_T63 l0 x8_1).f2)] 63 (0, 0)) (by (with_reducible repeat (first | refine blk_drewN ?_ _ | refine blk_drew ?_ | refine blk_alloc ?_ _)); refine blk_put (cs := #[.int .i64 ((rd_T63 l0 x8_1).f0), .int .i64 ((rd_T63 l0 x8_1).f1), .int .i64 0]) ?_ 2 _ rfl; (with_reducible repeat (first | refine blk_drewN ?_ _ | refine blk_drew ?_ | refine blk_alloc ?_ _)); refine blk_put (cs := #[.int .i64 ((rd_T63 l0 x8_1).f0), .int .i64 0, .int .i64 0]) ?_ 1 _ rfl; (with_reducible repeat (first | refine blk_drewN ?_ _ | refine blk_drew ?_ | refine blk_alloc ?_ _)); refine blk_put (cs := #[.int .i64 0, .int .i64 0, .int .i64 0]) ?_ 0 _ rfl; (with_reducible repeat (first | refine blk_drewN ?_ _ | refine blk_drew ?_ | refine blk_alloc ?_ _)); exact BK148.out) hg (Kd.R_ne HO_3.out BK148.out (by decide)))) (aI (am_ (hb)) (am_ (ho))); clear BK148 HB HO_3; obtain ⟨BK148, HB, HO151⟩ := z_; clear ho hb hg hat))
       go_roundg k1
       case measure => have := HK1.out; omega
       case rel => exact ⟨(y149), (wrap64 (x8_1 + 1)), rs_, H', ⟨by have := HK1.out; omega⟩, ⟨by (with_reducible repeat (first | apply Kd.R_alloc | apply Kd.R_drewN | apply Kd.R_drew)); exact HO151.out⟩, ⟨mb_ HB.out⟩⟩
      ·
       rw [if_neg c5] at H
       exact absurd H (by simp)
     ·
      rw [if_neg c4] at H
      exact absurd H (by simp)
    ·
     rw [if_neg c3] at H
     exact absurd H (by simp)
   ·
    rw [if_neg c2] at H
    have c2b0 : decide (x8_1 < (l0.length : Int)) = false := decide_eq_false c2
    clear c2
    obtain rfl := Option.some.inj H
    go_wp2
    go_ret
    exact ⟨_, by first | rfl | (simp [errW_none, errW_some] <;> rfl) | (simp [*, errW_none, errW_some] <;> rfl), by (with_reducible repeat (first | apply Kd.R_alloc | apply Kd.R_drewN | apply Kd.R_drew)); exact HO_3.out, mb_ HB.out⟩

end Go.Proofs.YtalhpnfapagamaaDoor.S
end
section
namespace Go.Proofs.YtalhpnfapagamaaDoor.S
open Go.RowKit Go.Proofs.YtalhpnfapagamaaDoorW.PrintWords Go.Proofs.YtalhpnfapagamaaDoorW.PrintLast Go.Proofs.YtalhpnfapagamaaDoorW.PrintMore
set_option linter.unusedVariables false
set_option linter.unusedSimpArgs false

def culetref13_letter.f (a0 : Int) : Option (Bool) := if a0 ≥ 97 then (if a0 ≤ 122 then (some true) else (if a0 ≥ 65 then (some (decide (a0 ≤ 90))) else (some false))) else (if a0 ≥ 65 then (some (decide (a0 ≤ 90))) else (some false))
set_option maxHeartbeats 8000000 in
set_option maxRecDepth 100000 in
theorem culetref13_letter.calls (a0 : Int) (r : Bool) (w : World) (h : culetref13_letter.f a0 = some r) :
  Calls Tryd.prog 53 #[.int .u8 a0] w fun e w' => e = .returned (.bool r) ∧ Drawn0 w w' := by
 have H : (if a0 ≥ 97 then (if a0 ≤ 122 then (some true) else (if a0 ≥ 65 then (some (decide (a0 ≤ 90))) else (some false))) else (if a0 ≥ 65 then (some (decide (a0 ≤ 90))) else (some false))) = some r := h
 clear h
 by_cases c2 : a0 ≥ 97
 ·
  rw [if_pos c2] at H
  have c2b0 : decide (97 ≤ a0) = true := decide_eq_true c2
  clear c2
  by_cases c3 : a0 ≤ 122
  ·
   rw [if_pos c3] at H
   have c3b0 : decide (a0 ≤ 122) = true := decide_eq_true c3
   clear c3
   obtain rfl := Option.some.inj H
   go_enter Tryd.func53, Tryd.ntmps53
   go_wp2
   go_ret
   exact ⟨by first | rfl | (simp; done) | (simp [*]; done), by repeat (first | exact Drawn0.refl _ | apply Drawn0.step)⟩
  ·
   rw [if_neg c3] at H
   have c3b0 : decide (a0 ≤ 122) = false := decide_eq_false c3
   clear c3
   by_cases c4 : a0 ≥ 65
   ·
    rw [if_pos c4] at H
    have c4b0 : decide (65 ≤ a0) = true := decide_eq_true c4
    clear c4
    obtain rfl := Option.some.inj H
    go_enter Tryd.func53, Tryd.ntmps53
    go_wp2
    go_ret
    exact ⟨by first | rfl | (simp; done) | (simp [*]; done), by repeat (first | exact Drawn0.refl _ | apply Drawn0.step)⟩
   ·
    rw [if_neg c4] at H
    have c4b0 : decide (65 ≤ a0) = false := decide_eq_false c4
    clear c4
    obtain rfl := Option.some.inj H
    go_enter Tryd.func53, Tryd.ntmps53
    go_wp2
    go_ret
    exact ⟨by first | rfl | (simp; done) | (simp [*]; done), by repeat (first | exact Drawn0.refl _ | apply Drawn0.step)⟩
 ·
  rw [if_neg c2] at H
  have c2b0 : decide (97 ≤ a0) = false := decide_eq_false c2
  clear c2
  by_cases c5 : a0 ≥ 65
  ·
   rw [if_pos c5] at H
   have c5b0 : decide (65 ≤ a0) = true := decide_eq_true c5
   clear c5
   obtain rfl := Option.some.inj H
   go_enter Tryd.func53, Tryd.ntmps53
   go_wp2
   go_ret
   exact ⟨by first | rfl | (simp; done) | (simp [*]; done), by repeat (first | exact Drawn0.refl _ | apply Drawn0.step)⟩
  ·
   rw [if_neg c5] at H
   have c5b0 : decide (65 ≤ a0) = false := decide_eq_false c5
   clear c5
   obtain rfl := Option.some.inj H
   go_enter Tryd.func53, Tryd.ntmps53
   go_wp2
   go_ret
   exact ⟨by first | rfl | (simp; done) | (simp [*]; done), by repeat (first | exact Drawn0.refl _ | apply Drawn0.step)⟩

end Go.Proofs.YtalhpnfapagamaaDoor.S
end
section
namespace Go.Proofs.YtalhpnfapagamaaDoor.S
open Go.RowKit Go.Proofs.YtalhpnfapagamaaDoorW.PrintWords Go.Proofs.YtalhpnfapagamaaDoorW.PrintLast Go.Proofs.YtalhpnfapagamaaDoorW.PrintMore
set_option linter.unusedVariables false
set_option linter.unusedSimpArgs false

def culetref13_digit.f (a0 : Int) : Option (Bool) := if a0 ≥ 48 then (some (decide (a0 ≤ 57))) else (some false)
set_option maxHeartbeats 8000000 in
set_option maxRecDepth 100000 in
theorem culetref13_digit.calls (a0 : Int) (r : Bool) (w : World) (h : culetref13_digit.f a0 = some r) :
  Calls Tryd.prog 54 #[.int .u8 a0] w fun e w' => e = .returned (.bool r) ∧ Drawn0 w w' := by
 have H : (if a0 ≥ 48 then (some (decide (a0 ≤ 57))) else (some false)) = some r := h
 clear h
 by_cases c2 : a0 ≥ 48
 ·
  rw [if_pos c2] at H
  have c2b0 : decide (48 ≤ a0) = true := decide_eq_true c2
  clear c2
  obtain rfl := Option.some.inj H
  go_enter Tryd.func54, Tryd.ntmps54
  go_wp2
  go_ret
  exact ⟨by first | rfl | (simp; done) | (simp [*]; done), by repeat (first | exact Drawn0.refl _ | apply Drawn0.step)⟩
 ·
  rw [if_neg c2] at H
  have c2b0 : decide (48 ≤ a0) = false := decide_eq_false c2
  clear c2
  obtain rfl := Option.some.inj H
  go_enter Tryd.func54, Tryd.ntmps54
  go_wp2
  go_ret
  exact ⟨by first | rfl | (simp; done) | (simp [*]; done), by repeat (first | exact Drawn0.refl _ | apply Drawn0.step)⟩

end Go.Proofs.YtalhpnfapagamaaDoor.S
end
section
namespace Go.Proofs.YtalhpnfapagamaaDoor.S
open Go.RowKit Go.Proofs.YtalhpnfapagamaaDoorW.PrintWords Go.Proofs.YtalhpnfapagamaaDoorW.PrintLast Go.Proofs.YtalhpnfapagamaaDoorW.PrintMore Go.Proofs.YtalhpnfapagamaaDoorD
set_option linter.unusedVariables false
set_option linter.unusedSimpArgs false

def culetref13_word.l0 : Nat → ByteArray → Int → Option (Bool)
 | 0, _, _ => none
 | k + 1, x0, x3 => if x3 < (x0.size : Int) then (if 0 ≤ x3 then ((culetref13_letter.f (bt x0 x3)).bind fun t152 => (if t152 = true then (culetref13_word.l0 k x0 (wrap64 (x3 + 1))) else (if x3 = 0 then (some false) else ((culetref13_digit.f (bt x0 x3)).bind fun t153 => (if t153 = true then (culetref13_word.l0 k x0 (wrap64 (x3 + 1))) else (if (bt x0 x3) = 45 then (culetref13_word.l0 k x0 (wrap64 (x3 + 1))) else (if (bt x0 x3) = 95 then (culetref13_word.l0 k x0 (wrap64 (x3 + 1))) else (some false)))))))) else (none)) else (some (decide ((x0.size : Int) > 0)))
def culetref13_word.f (k : Nat) (a0 : ByteArray) : Option (Bool) := culetref13_word.l0 k a0 0
set_option maxHeartbeats 8000000 in
set_option maxRecDepth 100000 in
theorem culetref13_word.calls (k : Nat) (a0 : ByteArray) (r : Bool) (w : World) (h : culetref13_word.f k a0 = some r) :
  Calls Tryd.prog 46 #[.string a0] w fun e w' => e = .returned (.bool r) ∧ Drawn0 w w' := by
 have H : (culetref13_word.l0 k a0 0) = some r := h
 clear h
 have H' := am_ H
 clear H
 go_enter Tryd.func46, Tryd.ntmps46
 go_wp2
 go_loopg [3] k (fun kq v3 w' => ∃ (x3_1 : Int), v3 = .int .i64 x3_1 ∧ Aside0 (culetref13_word.l0 kq a0 x3_1 = some r) ∧ Aside0 (kq ≤ k) ∧ Drawn0 w w')
 case atStart => exact ⟨(0), rs_, H', ⟨Nat.le_refl _⟩, by repeat (first | exact Drawn0.refl _ | apply Drawn0.step)⟩
 case round =>
  clear H'
  obtain ⟨x3_1, rfl, HA, HK1, ⟨m1, rfl⟩⟩ := hrel
  cases gk with
  | zero => exact absurd HA.out (by simp [culetref13_word.l0])
  | succ k1 =>
   have H := HA.out
   clear HA
   simp only [culetref13_word.l0] at H
   by_cases c2 : x3_1 < (a0.size : Int)
   ·
    rw [if_pos c2] at H
    have c2b0 : decide (x3_1 < (a0.size : Int)) = true := decide_eq_true c2
    clear c2
    by_cases c3 : 0 ≤ x3_1
    ·
     rw [if_pos c3] at H
     have c3b0 : decide (0 ≤ x3_1) = true := decide_eq_true c3
     clear c3
     replace H := Option.bind_eq_some_iff.mp H
     obtain ⟨t152, A50, H⟩ := H
     replace H : (if t152 = true then (culetref13_word.l0 k1 a0 (wrap64 (x3_1 + 1))) else (if x3_1 = 0 then (some false) else ((culetref13_digit.f (bt a0 x3_1)).bind fun t153 => (if t153 = true then (culetref13_word.l0 k1 a0 (wrap64 (x3_1 + 1))) else (if (bt a0 x3_1) = 45 then (culetref13_word.l0 k1 a0 (wrap64 (x3_1 + 1))) else (if (bt a0 x3_1) = 95 then (culetref13_word.l0 k1 a0 (wrap64 (x3_1 + 1))) else (some false))))))) = some r := H
     have A5 := am_ A50
     clear A50
     by_cases c6 : t152 = true
     ·
      subst c6
      have H1 : (culetref13_word.l0 k1 a0 (wrap64 (x3_1 + 1))) = some r := by rw [if_pos rfl] at H; exact H
      clear H
      have H := H1
      clear H1
      have H' := am_ H
      clear H
      have p4 : 0 ≤ (x3_1 : Int) := of_decide_eq_true as_
      have q4 : x3_1 < (a0.size : Int) := of_decide_eq_true as_
      have hx4 := bt_at a0 x3_1
      replace p4 := eq_true p4
      replace q4 := eq_true q4
      go_wp2_with (first | ((with_reducible refine gate_callee (f := 53) rfl ?_); refine goesL_ (some 13) rfl rfl Tryd.func53 (by kernel_rfl) rfl #[.int .u8 (bt a0 x3_1)] rfl ml_ ?_; (with_reducible refine (culetref13_letter.calls (bt a0 x3_1) true _ A5.out).mono ?_); rintro e w' ⟨rfl, ⟨nd, rfl⟩⟩; refine ⟨_, rfl, ?_⟩))
      go_roundg k1
      case measure => have := HK1.out; omega
      case rel => exact ⟨(wrap64 (x3_1 + 1)), rs_, H', ⟨by have := HK1.out; omega⟩, by repeat (first | exact Drawn0.refl _ | apply Drawn0.step)⟩
     ·
      replace c6 := Bool.eq_false_iff.mpr c6
      subst c6
      have H1 : (if x3_1 = 0 then (some false) else ((culetref13_digit.f (bt a0 x3_1)).bind fun t153 => (if t153 = true then (culetref13_word.l0 k1 a0 (wrap64 (x3_1 + 1))) else (if (bt a0 x3_1) = 45 then (culetref13_word.l0 k1 a0 (wrap64 (x3_1 + 1))) else (if (bt a0 x3_1) = 95 then (culetref13_word.l0 k1 a0 (wrap64 (x3_1 + 1))) else (some false)))))) = some r := by rw [if_neg (show ¬ (false = true) by decide)] at H; exact H
      clear H
      have H := H1
      clear H1
      by_cases c7 : x3_1 = 0
      ·
       rw [if_pos c7] at H
       have c7b0 : (x3_1 == 0) = true := beq_iff_eq.mpr c7
       have c7b1 : (x3_1 != 0) = false := bne_eq_false_iff_eq.mpr c7
       clear c7
       obtain rfl := Option.some.inj H
       have p4 : 0 ≤ (x3_1 : Int) := of_decide_eq_true as_
       have q4 : x3_1 < (a0.size : Int) := of_decide_eq_true as_
       have hx4 := bt_at a0 x3_1
       replace p4 := eq_true p4
       replace q4 := eq_true q4
       go_wp2_with (first | ((with_reducible refine gate_callee (f := 53) rfl ?_); refine goesL_ (some 13) rfl rfl Tryd.func53 (by kernel_rfl) rfl #[.int .u8 (bt a0 x3_1)] rfl ml_ ?_; (with_reducible refine (culetref13_letter.calls (bt a0 x3_1) false _ A5.out).mono ?_); rintro e w' ⟨rfl, ⟨nd, rfl⟩⟩; refine ⟨_, rfl, ?_⟩))
       go_ret
       exact ⟨by first | rfl | (simp; done) | (simp [*]; done), by repeat (first | exact Drawn0.refl _ | apply Drawn0.step)⟩
      ·
       rw [if_neg c7] at H
       have c7b0 : (x3_1 == 0) = false := beq_eq_false_iff_ne.mpr c7
       have c7b1 : (x3_1 != 0) = true := bne_iff_ne.mpr c7
       replace H := Option.bind_eq_some_iff.mp H
       obtain ⟨t153, A90, H⟩ := H
       replace H : (if t153 = true then (culetref13_word.l0 k1 a0 (wrap64 (x3_1 + 1))) else (if (bt a0 x3_1) = 45 then (culetref13_word.l0 k1 a0 (wrap64 (x3_1 + 1))) else (if (bt a0 x3_1) = 95 then (culetref13_word.l0 k1 a0 (wrap64 (x3_1 + 1))) else (some false)))) = some r := H
       have A9 := am_ A90
       clear A90
       by_cases c10 : t153 = true
       ·
        subst c10
        have H1 : (culetref13_word.l0 k1 a0 (wrap64 (x3_1 + 1))) = some r := by rw [if_pos rfl] at H; exact H
        clear H
        have H := H1
        clear H1
        have H' := am_ H
        clear H
        have p4 : 0 ≤ (x3_1 : Int) := of_decide_eq_true as_
        have q4 : x3_1 < (a0.size : Int) := of_decide_eq_true as_
        have hx4 := bt_at a0 x3_1
        replace p4 := eq_true p4
        replace q4 := eq_true q4
        go_wp2_with (first | ((with_reducible refine gate_callee (f := 53) rfl ?_); refine goesL_ (some 13) rfl rfl Tryd.func53 (by kernel_rfl) rfl #[.int .u8 (bt a0 x3_1)] rfl ml_ ?_; (with_reducible refine (culetref13_letter.calls (bt a0 x3_1) false _ A5.out).mono ?_); rintro e w' ⟨rfl, ⟨nd, rfl⟩⟩; refine ⟨_, rfl, ?_⟩; have p8 : 0 ≤ (x3_1 : Int) := of_decide_eq_true as_; have q8 : x3_1 < (a0.size : Int) := of_decide_eq_true as_; have hx8 := bt_at a0 x3_1; replace p8 := eq_true p8; replace q8 := eq_true q8) | (go_at_call 54; (with_reducible refine (culetref13_digit.calls (bt a0 x3_1) true _ A9.out).mono ?_); rintro e w' ⟨rfl, ⟨nd, rfl⟩⟩))
        go_roundg k1
        case measure => have := HK1.out; omega
        case rel => exact ⟨(wrap64 (x3_1 + 1)), rs_, H', ⟨by have := HK1.out; omega⟩, by repeat (first | exact Drawn0.refl _ | apply Drawn0.step)⟩
       ·
        replace c10 := Bool.eq_false_iff.mpr c10
        subst c10
        have H1 : (if (bt a0 x3_1) = 45 then (culetref13_word.l0 k1 a0 (wrap64 (x3_1 + 1))) else (if (bt a0 x3_1) = 95 then (culetref13_word.l0 k1 a0 (wrap64 (x3_1 + 1))) else (some false))) = some r := by rw [if_neg (show ¬ (false = true) by decide)] at H; exact H
        clear H
        have H := H1
        clear H1
        by_cases c12 : (bt a0 x3_1) = 45
        ·
         rw [if_pos c12] at H
         have c12b0 : ((bt a0 x3_1) == 45) = true := beq_iff_eq.mpr c12
         have c12b1 : ((bt a0 x3_1) != 45) = false := bne_eq_false_iff_eq.mpr c12
         clear c12
         have H' := am_ H
         clear H
         have p4 : 0 ≤ (x3_1 : Int) := of_decide_eq_true as_
         have q4 : x3_1 < (a0.size : Int) := of_decide_eq_true as_
         have hx4 := bt_at a0 x3_1
         replace p4 := eq_true p4
         replace q4 := eq_true q4
         go_wp2_with (first | ((with_reducible refine gate_callee (f := 53) rfl ?_); refine goesL_ (some 13) rfl rfl Tryd.func53 (by kernel_rfl) rfl #[.int .u8 (bt a0 x3_1)] rfl ml_ ?_; (with_reducible refine (culetref13_letter.calls (bt a0 x3_1) false _ A5.out).mono ?_); rintro e w' ⟨rfl, ⟨nd, rfl⟩⟩; refine ⟨_, rfl, ?_⟩; have p8 : 0 ≤ (x3_1 : Int) := of_decide_eq_true as_; have q8 : x3_1 < (a0.size : Int) := of_decide_eq_true as_; have hx8 := bt_at a0 x3_1; replace p8 := eq_true p8; replace q8 := eq_true q8) | (go_at_call 54; (with_reducible refine (culetref13_digit.calls (bt a0 x3_1) false _ A9.out).mono ?_); rintro e w' ⟨rfl, ⟨nd, rfl⟩⟩; have p11 : 0 ≤ (x3_1 : Int) := of_decide_eq_true as_; have q11 : x3_1 < (a0.size : Int) := of_decide_eq_true as_; have hx11 := bt_at a0 x3_1; replace p11 := eq_true p11; replace q11 := eq_true q11))
         go_roundg k1
         case measure => have := HK1.out; omega
         case rel => exact ⟨(wrap64 (x3_1 + 1)), rs_, H', ⟨by have := HK1.out; omega⟩, by repeat (first | exact Drawn0.refl _ | apply Drawn0.step)⟩
        ·
         rw [if_neg c12] at H
         have c12b0 : ((bt a0 x3_1) == 45) = false := beq_eq_false_iff_ne.mpr c12
         have c12b1 : ((bt a0 x3_1) != 45) = true := bne_iff_ne.mpr c12
         by_cases c14 : (bt a0 x3_1) = 95
         ·
          rw [if_pos c14] at H
          have c14b0 : ((bt a0 x3_1) == 95) = true := beq_iff_eq.mpr c14
          have c14b1 : ((bt a0 x3_1) != 95) = false := bne_eq_false_iff_eq.mpr c14
          clear c14
          have H' := am_ H
          clear H
          have p4 : 0 ≤ (x3_1 : Int) := of_decide_eq_true as_
          have q4 : x3_1 < (a0.size : Int) := of_decide_eq_true as_
          have hx4 := bt_at a0 x3_1
          replace p4 := eq_true p4
          replace q4 := eq_true q4
          go_wp2_with (first | ((with_reducible refine gate_callee (f := 53) rfl ?_); refine goesL_ (some 13) rfl rfl Tryd.func53 (by kernel_rfl) rfl #[.int .u8 (bt a0 x3_1)] rfl ml_ ?_; (with_reducible refine (culetref13_letter.calls (bt a0 x3_1) false _ A5.out).mono ?_); rintro e w' ⟨rfl, ⟨nd, rfl⟩⟩; refine ⟨_, rfl, ?_⟩; have p8 : 0 ≤ (x3_1 : Int) := of_decide_eq_true as_; have q8 : x3_1 < (a0.size : Int) := of_decide_eq_true as_; have hx8 := bt_at a0 x3_1; replace p8 := eq_true p8; replace q8 := eq_true q8) | (go_at_call 54; (with_reducible refine (culetref13_digit.calls (bt a0 x3_1) false _ A9.out).mono ?_); rintro e w' ⟨rfl, ⟨nd, rfl⟩⟩; have p11 : 0 ≤ (x3_1 : Int) := of_decide_eq_true as_; have q11 : x3_1 < (a0.size : Int) := of_decide_eq_true as_; have hx11 := bt_at a0 x3_1; replace p11 := eq_true p11; replace q11 := eq_true q11; have p13 : 0 ≤ (x3_1 : Int) := of_decide_eq_true as_; have q13 : x3_1 < (a0.size : Int) := of_decide_eq_true as_; have hx13 := bt_at a0 x3_1; replace p13 := eq_true p13; replace q13 := eq_true q13))
          go_roundg k1
          case measure => have := HK1.out; omega
          case rel => exact ⟨(wrap64 (x3_1 + 1)), rs_, H', ⟨by have := HK1.out; omega⟩, by repeat (first | exact Drawn0.refl _ | apply Drawn0.step)⟩
         ·
          rw [if_neg c14] at H
          have c14b0 : ((bt a0 x3_1) == 95) = false := beq_eq_false_iff_ne.mpr c14
          have c14b1 : ((bt a0 x3_1) != 95) = true := bne_iff_ne.mpr c14
          obtain rfl := Option.some.inj H
          have p4 : 0 ≤ (x3_1 : Int) := of_decide_eq_true as_
          have q4 : x3_1 < (a0.size : Int) := of_decide_eq_true as_
          have hx4 := bt_at a0 x3_1
          replace p4 := eq_true p4
          replace q4 := eq_true q4
          go_wp2_with (first | ((with_reducible refine gate_callee (f := 53) rfl ?_); refine goesL_ (some 13) rfl rfl Tryd.func53 (by kernel_rfl) rfl #[.int .u8 (bt a0 x3_1)] rfl ml_ ?_; (with_reducible refine (culetref13_letter.calls (bt a0 x3_1) false _ A5.out).mono ?_); rintro e w' ⟨rfl, ⟨nd, rfl⟩⟩; refine ⟨_, rfl, ?_⟩; have p8 : 0 ≤ (x3_1 : Int) := of_decide_eq_true as_; have q8 : x3_1 < (a0.size : Int) := of_decide_eq_true as_; have hx8 := bt_at a0 x3_1; replace p8 := eq_true p8; replace q8 := eq_true q8) | (go_at_call 54; (with_reducible refine (culetref13_digit.calls (bt a0 x3_1) false _ A9.out).mono ?_); rintro e w' ⟨rfl, ⟨nd, rfl⟩⟩; have p11 : 0 ≤ (x3_1 : Int) := of_decide_eq_true as_; have q11 : x3_1 < (a0.size : Int) := of_decide_eq_true as_; have hx11 := bt_at a0 x3_1; replace p11 := eq_true p11; replace q11 := eq_true q11; have p13 : 0 ≤ (x3_1 : Int) := of_decide_eq_true as_; have q13 : x3_1 < (a0.size : Int) := of_decide_eq_true as_; have hx13 := bt_at a0 x3_1; replace p13 := eq_true p13; replace q13 := eq_true q13))
          go_ret
          exact ⟨by first | rfl | (simp; done) | (simp [*]; done), by repeat (first | exact Drawn0.refl _ | apply Drawn0.step)⟩
    ·
     rw [if_neg c3] at H
     exact absurd H (by simp)
   ·
    rw [if_neg c2] at H
    have c2b0 : decide (x3_1 < (a0.size : Int)) = false := decide_eq_false c2
    clear c2
    obtain rfl := Option.some.inj H
    go_wp2
    go_ret
    exact ⟨by first | rfl | (simp; done) | (simp [*]; done), by repeat (first | exact Drawn0.refl _ | apply Drawn0.step)⟩

end Go.Proofs.YtalhpnfapagamaaDoor.S
end
section
namespace Go.Proofs.YtalhpnfapagamaaDoor.S
open Go.RowKit Go.Proofs.YtalhpnfapagamaaDoorW.PrintWords Go.Proofs.YtalhpnfapagamaaDoorW.PrintLast Go.Proofs.YtalhpnfapagamaaDoorW.PrintMore Go.Proofs.YtalhpnfapagamaaDoorD
set_option linter.unusedVariables false
set_option linter.unusedSimpArgs false

def culetref13_Reserved.l0 : Nat → ByteArray → List ByteArray → Int → Option (Bool)
 | 0, _, _, _ => none
 | k + 1, x0, x3, x4 => if x4 < (x3.length : Int) then (if 0 ≤ x4 then (if (rdOf ByteArray.empty x3 x4).toList = x0.toList then (some true) else (culetref13_Reserved.l0 k x0 x3 (wrap64 (x4 + 1)))) else (none)) else (some false)
def culetref13_Reserved.f (k : Nat) (a0 : ByteArray) : Option (Bool) := culetref13_Reserved.l0 k a0 (([(⟨#[100, 101, 115, 105, 103, 110]⟩ : ByteArray), (⟨#[111, 114, 100, 101, 114]⟩ : ByteArray), (⟨#[109, 105, 114, 114, 111, 114]⟩ : ByteArray), (⟨#[116, 105, 101, 114]⟩ : ByteArray), (⟨#[97, 110, 103, 108, 101]⟩ : ByteArray), (⟨#[97, 116]⟩ : ByteArray), (⟨#[100, 101, 112, 116, 104]⟩ : ByteArray), (⟨#[109, 101, 101, 116]⟩ : ByteArray), (⟨#[101, 100, 103, 101]⟩ : ByteArray), (⟨#[104, 101, 105, 103, 104, 116]⟩ : ByteArray), (⟨#[116, 104, 114, 111, 117, 103, 104]⟩ : ByteArray)] : List ByteArray)) 0
set_option maxHeartbeats 8000000 in
set_option maxRecDepth 100000 in
theorem culetref13_Reserved.calls (k : Nat) (a0 : ByteArray) (r : Bool) (w : World) (h : culetref13_Reserved.f k a0 = some r) :
  Calls Tryd.prog 47 #[.string a0] w fun e w' => e = .returned (.bool r) ∧ Below w.heap.size w w' := by
 have HB := am_ (Below.refl w.heap.size w)
 have H : (culetref13_Reserved.l0 k a0 (([(⟨#[100, 101, 115, 105, 103, 110]⟩ : ByteArray), (⟨#[111, 114, 100, 101, 114]⟩ : ByteArray), (⟨#[109, 105, 114, 114, 111, 114]⟩ : ByteArray), (⟨#[116, 105, 101, 114]⟩ : ByteArray), (⟨#[97, 110, 103, 108, 101]⟩ : ByteArray), (⟨#[97, 116]⟩ : ByteArray), (⟨#[100, 101, 112, 116, 104]⟩ : ByteArray), (⟨#[109, 101, 101, 116]⟩ : ByteArray), (⟨#[101, 100, 103, 101]⟩ : ByteArray), (⟨#[104, 101, 105, 103, 104, 116]⟩ : ByteArray), (⟨#[116, 104, 114, 111, 117, 103, 104]⟩ : ByteArray)] : List ByteArray)) 0) = some r := h
 clear h
 obtain ⟨y154, hy154⟩ : ∃ y_ : List ByteArray, y_ = (([(⟨#[100, 101, 115, 105, 103, 110]⟩ : ByteArray), (⟨#[111, 114, 100, 101, 114]⟩ : ByteArray), (⟨#[109, 105, 114, 114, 111, 114]⟩ : ByteArray), (⟨#[116, 105, 101, 114]⟩ : ByteArray), (⟨#[97, 110, 103, 108, 101]⟩ : ByteArray), (⟨#[97, 116]⟩ : ByteArray), (⟨#[100, 101, 112, 116, 104]⟩ : ByteArray), (⟨#[109, 101, 101, 116]⟩ : ByteArray), (⟨#[101, 100, 103, 101]⟩ : ByteArray), (⟨#[104, 101, 105, 103, 104, 116]⟩ : ByteArray), (⟨#[116, 104, 114, 111, 117, 103, 104]⟩ : ByteArray)] : List ByteArray)) := ⟨_, rfl⟩
 replace H : (culetref13_Reserved.l0 k a0 y154 0) = some r := by first | (rw [hy154]; with_reducible exact H) | (have H2_ := (Option.bind_some _ _).symm.trans H; rw [hy154]; with_reducible exact H2_) | (have H2_ := (Option.bind_some _ _).symm.trans H; with_reducible exact H2_) | with_reducible exact H | (rw [hy154]; exact H) | exact H
 have Ny154 := am_ hy154
 clear hy154
 have H' := am_ H
 clear H
 go_enter Tryd.func47, Tryd.ntmps47
 go_wp2_with (first | ((with_reducible refine gate_dst (N := 5) rfl ?_); refine Kd.R_lit Kd.string _ 9 ?hg (N := 5) ?hd (xs := ([(⟨#[100, 101, 115, 105, 103, 110]⟩ : ByteArray), (⟨#[111, 114, 100, 101, 114]⟩ : ByteArray), (⟨#[109, 105, 114, 114, 111, 114]⟩ : ByteArray), (⟨#[116, 105, 101, 114]⟩ : ByteArray), (⟨#[97, 110, 103, 108, 101]⟩ : ByteArray), (⟨#[97, 116]⟩ : ByteArray), (⟨#[100, 101, 112, 116, 104]⟩ : ByteArray), (⟨#[109, 101, 101, 116]⟩ : ByteArray), (⟨#[101, 100, 103, 101]⟩ : ByteArray), (⟨#[104, 101, 105, 103, 104, 116]⟩ : ByteArray), (⟨#[116, 104, 114, 111, 117, 103, 104]⟩ : ByteArray)] : List ByteArray)) (inner := [.string (⟨#[100, 101, 115, 105, 103, 110]⟩ : ByteArray), .string (⟨#[111, 114, 100, 101, 114]⟩ : ByteArray), .string (⟨#[109, 105, 114, 114, 111, 114]⟩ : ByteArray), .string (⟨#[116, 105, 101, 114]⟩ : ByteArray), .string (⟨#[97, 110, 103, 108, 101]⟩ : ByteArray), .string (⟨#[97, 116]⟩ : ByteArray), .string (⟨#[100, 101, 112, 116, 104]⟩ : ByteArray), .string (⟨#[109, 101, 101, 116]⟩ : ByteArray), .string (⟨#[101, 100, 103, 101]⟩ : ByteArray), .string (⟨#[104, 101, 105, 103, 104, 116]⟩ : ByteArray), .string (⟨#[116, 104, 114, 111, 117, 103, 104]⟩ : ByteArray)]) (ok := fun _ => True) (okp := fun _ => True) ?hr ?hp (fun _ hk => hk) trivial (Below.refl _ _) (Nat.le_refl _) (by simp) ?_; (case hd => rfl); (case hg => rfl); (case hr => first | (go_simp; done) | (go_simp; rfl)); (case hp => exact (Reps.one (show Kd.M Kd.string _ _ _ (⟨#[100, 101, 115, 105, 103, 110]⟩ : ByteArray) [.string (⟨#[100, 101, 115, 105, 103, 110]⟩ : ByteArray)] from rfl) (Reps.one (show Kd.M Kd.string _ _ _ (⟨#[111, 114, 100, 101, 114]⟩ : ByteArray) [.string (⟨#[111, 114, 100, 101, 114]⟩ : ByteArray)] from rfl) (Reps.one (show Kd.M Kd.string _ _ _ (⟨#[109, 105, 114, 114, 111, 114]⟩ : ByteArray) [.string (⟨#[109, 105, 114, 114, 111, 114]⟩ : ByteArray)] from rfl) (Reps.one (show Kd.M Kd.string _ _ _ (⟨#[116, 105, 101, 114]⟩ : ByteArray) [.string (⟨#[116, 105, 101, 114]⟩ : ByteArray)] from rfl) (Reps.one (show Kd.M Kd.string _ _ _ (⟨#[97, 110, 103, 108, 101]⟩ : ByteArray) [.string (⟨#[97, 110, 103, 108, 101]⟩ : ByteArray)] from rfl) (Reps.one (show Kd.M Kd.string _ _ _ (⟨#[97, 116]⟩ : ByteArray) [.string (⟨#[97, 116]⟩ : ByteArray)] from rfl) (Reps.one (show Kd.M Kd.string _ _ _ (⟨#[100, 101, 112, 116, 104]⟩ : ByteArray) [.string (⟨#[100, 101, 112, 116, 104]⟩ : ByteArray)] from rfl) (Reps.one (show Kd.M Kd.string _ _ _ (⟨#[109, 101, 101, 116]⟩ : ByteArray) [.string (⟨#[109, 101, 101, 116]⟩ : ByteArray)] from rfl) (Reps.one (show Kd.M Kd.string _ _ _ (⟨#[101, 100, 103, 101]⟩ : ByteArray) [.string (⟨#[101, 100, 103, 101]⟩ : ByteArray)] from rfl) (Reps.one (show Kd.M Kd.string _ _ _ (⟨#[104, 101, 105, 103, 104, 116]⟩ : ByteArray) [.string (⟨#[104, 101, 105, 103, 104, 116]⟩ : ByteArray)] from rfl) (Reps.one (show Kd.M Kd.string _ _ _ (⟨#[116, 104, 114, 111, 117, 103, 104]⟩ : ByteArray) [.string (⟨#[116, 104, 114, 111, 117, 103, 104]⟩ : ByteArray)] from rfl) (Reps.none _ _))))))))))))); intro v155 w2 ho3 hb hg_ hnew_; clear hg_ hnew_; (first | rw [← Ny154.out] at ho3 | (simp only [Int.reduceToNat] at ho3; rw [← Ny154.out] at ho3)); have z_ := aI (am_ (Kd.R_lower ho3 (below_size (mb_ HB.out)))) (am_ (below_step (mb_ HB.out) hb)); clear HB; obtain ⟨HO156, HB⟩ := z_; clear hb ho3))
 go_loopg [4] k (fun kq v4 w' => ∃ (x4_1 : Int), v4 = .int .i64 x4_1 ∧ Aside0 (culetref13_Reserved.l0 kq a0 y154 x4_1 = some r) ∧ Aside0 (kq ≤ k) ∧ Aside0 (Kd.R Kd.string 9 w' w.heap.size (fun _ => True) v155 y154) ∧ Aside0 (Below w.heap.size w w'))
 case atStart => exact ⟨(0), rs_, H', ⟨Nat.le_refl _⟩, ⟨by (with_reducible repeat (first | apply Kd.R_alloc | apply Kd.R_drewN | apply Kd.R_drew)); exact HO156.out⟩, ⟨mb_ HB.out⟩⟩
 case round =>
  clear H'
  try clear p2
  obtain ⟨x4_1, rfl, HA, HK1, HO_3, HB⟩ := hrel
  cases gk with
  | zero => exact absurd HA.out (by simp [culetref13_Reserved.l0])
  | succ k1 =>
   have H := HA.out
   clear HA
   simp only [culetref13_Reserved.l0] at H
   by_cases c4 : x4_1 < (y154.length : Int)
   ·
    rw [if_pos c4] at H
    have c4b0 : decide (x4_1 < (y154.length : Int)) = true := decide_eq_true c4
    clear c4
    by_cases c5 : 0 ≤ x4_1
    ·
     rw [if_pos c5] at H
     have c5b0 : decide (0 ≤ x4_1) = true := decide_eq_true c5
     clear c5
     by_cases c6 : (rdOf ByteArray.empty y154 x4_1).toList = a0.toList
     ·
      rw [if_pos c6] at H
      have c6b0 : ((rdOf ByteArray.empty y154 x4_1).toList == a0.toList) = true := beq_iff_eq.mpr c6
      have c6b1 : ((rdOf ByteArray.empty y154 x4_1).toList != a0.toList) = false := bne_eq_false_iff_eq.mpr c6
      clear c6
      obtain rfl := Option.some.inj H
      obtain ⟨Ao7, co7, eo7⟩ := Kd.R_slice HO_3.out
      subst eo7
      have p157 : 0 ≤ (x4_1 : Int) := of_decide_eq_true as_
      have q157 : x4_1 < (y154.length : Int) := of_decide_eq_true as_
      obtain ⟨ad157, e157, hx157_0⟩ := Kd.at_string (Kd.R_reads' HO_3.out).2.2 x4_1 p157 q157
      cases e157
      replace p157 := eq_true p157
      replace q157 := eq_true q157
      go_wp2
      go_ret
      exact ⟨by first | rfl | (simp [errW_none, errW_some] <;> rfl) | (simp [*, errW_none, errW_some] <;> rfl), mb_ HB.out⟩
     ·
      rw [if_neg c6] at H
      have c6b0 : ((rdOf ByteArray.empty y154 x4_1).toList == a0.toList) = false := beq_eq_false_iff_ne.mpr c6
      have c6b1 : ((rdOf ByteArray.empty y154 x4_1).toList != a0.toList) = true := bne_iff_ne.mpr c6
      have H' := am_ H
      clear H
      obtain ⟨Ao8, co8, eo8⟩ := Kd.R_slice HO_3.out
      subst eo8
      have p157 : 0 ≤ (x4_1 : Int) := of_decide_eq_true as_
      have q157 : x4_1 < (y154.length : Int) := of_decide_eq_true as_
      obtain ⟨ad157, e157, hx157_0⟩ := Kd.at_string (Kd.R_reads' HO_3.out).2.2 x4_1 p157 q157
      cases e157
      replace p157 := eq_true p157
      replace q157 := eq_true q157
      go_wp2
      go_roundg k1
      case measure => have := HK1.out; omega
      case rel => exact ⟨(wrap64 (x4_1 + 1)), rs_, H', ⟨by have := HK1.out; omega⟩, ⟨by (with_reducible repeat (first | apply Kd.R_alloc | apply Kd.R_drewN | apply Kd.R_drew)); exact HO_3.out⟩, ⟨mb_ HB.out⟩⟩
    ·
     rw [if_neg c5] at H
     exact absurd H (by simp)
   ·
    rw [if_neg c4] at H
    have c4b0 : decide (x4_1 < (y154.length : Int)) = false := decide_eq_false c4
    clear c4
    obtain rfl := Option.some.inj H
    obtain ⟨Ao9, co9, eo9⟩ := Kd.R_slice HO_3.out
    subst eo9
    go_wp2
    go_ret
    exact ⟨by first | rfl | (simp [errW_none, errW_some] <;> rfl) | (simp [*, errW_none, errW_some] <;> rfl), mb_ HB.out⟩

end Go.Proofs.YtalhpnfapagamaaDoor.S
end
section
namespace Go.Proofs.YtalhpnfapagamaaDoor.S
open Go.RowKit Go.Proofs.YtalhpnfapagamaaDoorW.PrintWords Go.Proofs.YtalhpnfapagamaaDoorW.PrintLast Go.Proofs.YtalhpnfapagamaaDoorW.PrintMore Go.Proofs.YtalhpnfapagamaaDoorD
set_option linter.unusedVariables false
set_option linter.unusedSimpArgs false

def culetref13_IsName.f (k : Nat) (a0 : ByteArray) : Option (Bool) := (culetref13_word.f k a0).bind fun t158 => (if t158 = true then (if (a0.size : Int) ≤ 30 then ((culetref13_Reserved.f k a0).bind fun t159 => (some (!t159))) else (some false)) else (some false))
set_option maxHeartbeats 8000000 in
set_option maxRecDepth 100000 in
theorem culetref13_IsName.calls (k : Nat) (a0 : ByteArray) (r : Bool) (w : World) (h : culetref13_IsName.f k a0 = some r) :
  Calls Tryd.prog 37 #[.string a0] w fun e w' => e = .returned (.bool r) ∧ Below w.heap.size w w' := by
 have HB := am_ (Below.refl w.heap.size w)
 have H : ((culetref13_word.f k a0).bind fun t158 => (if t158 = true then (if (a0.size : Int) ≤ 30 then ((culetref13_Reserved.f k a0).bind fun t159 => (some (!t159))) else (some false)) else (some false))) = some r := h
 clear h
 replace H := Option.bind_eq_some_iff.mp H
 obtain ⟨t158, A20, H⟩ := H
 replace H : (if t158 = true then (if (a0.size : Int) ≤ 30 then ((culetref13_Reserved.f k a0).bind fun t159 => (some (!t159))) else (some false)) else (some false)) = some r := H
 have A2 := am_ A20
 clear A20
 by_cases c3 : t158 = true
 ·
  subst c3
  have H1 : (if (a0.size : Int) ≤ 30 then ((culetref13_Reserved.f k a0).bind fun t159 => (some (!t159))) else (some false)) = some r := by rw [if_pos rfl] at H; exact H
  clear H
  have H := H1
  clear H1
  by_cases c4 : (a0.size : Int) ≤ 30
  ·
   rw [if_pos c4] at H
   have c4b0 : decide ((a0.size : Int) ≤ 30) = true := decide_eq_true c4
   have c4b1 : decide (a0.size ≤ 30) = true := decide_eq_true (by omega)
   clear c4
   replace H := Option.bind_eq_some_iff.mp H
   obtain ⟨t159, A50, H⟩ := H
   replace H : (some (!t159)) = some r := H
   have A5 := am_ A50
   clear A50
   obtain rfl := Option.some.inj H
   go_enter Tryd.func37, Tryd.ntmps37
   go_wp2_with (first | ((with_reducible refine gate_callee (f := 46) rfl ?_); refine goesL_ (some 4) rfl rfl Tryd.func46 (by kernel_rfl) rfl #[.string a0] rfl ml_ ?_; (with_reducible refine (culetref13_word.calls k a0 true _ A2.out).mono ?_); rintro e w' ⟨rfl, ⟨nd, rfl⟩⟩; refine ⟨_, rfl, ?_⟩) | (go_at_call 47; (with_reducible refine (culetref13_Reserved.calls k a0 t159 _ A5.out).mono ?_); rintro e w6 ⟨rfl, hb⟩; have n0_ := am_ (below_step (mb_ HB.out) hb); clear HB; have HB := n0_; clear n0_; (try clear hb); (try clear hb2); (try clear hk); (try clear hi)))
   go_ret
   exact ⟨by first | rfl | (simp [errW_none, errW_some] <;> rfl) | (simp [*, errW_none, errW_some] <;> rfl), mb_ HB.out⟩
  ·
   rw [if_neg c4] at H
   have c4b0 : decide ((a0.size : Int) ≤ 30) = false := decide_eq_false c4
   have c4b1 : decide (a0.size ≤ 30) = false := decide_eq_false (by omega)
   clear c4
   obtain rfl := Option.some.inj H
   go_enter Tryd.func37, Tryd.ntmps37
   go_wp2_with (first | ((with_reducible refine gate_callee (f := 46) rfl ?_); refine goesL_ (some 4) rfl rfl Tryd.func46 (by kernel_rfl) rfl #[.string a0] rfl ml_ ?_; (with_reducible refine (culetref13_word.calls k a0 true _ A2.out).mono ?_); rintro e w' ⟨rfl, ⟨nd, rfl⟩⟩; refine ⟨_, rfl, ?_⟩))
   go_ret
   exact ⟨by first | rfl | (simp [errW_none, errW_some] <;> rfl) | (simp [*, errW_none, errW_some] <;> rfl), mb_ HB.out⟩
 ·
  replace c3 := Bool.eq_false_iff.mpr c3
  subst c3
  have H1 : (some false) = some r := by rw [if_neg (show ¬ (false = true) by decide)] at H; exact H
  clear H
  have H := H1
  clear H1
  obtain rfl := Option.some.inj H
  go_enter Tryd.func37, Tryd.ntmps37
  go_wp2_with (first | ((with_reducible refine gate_callee (f := 46) rfl ?_); refine goesL_ (some 4) rfl rfl Tryd.func46 (by kernel_rfl) rfl #[.string a0] rfl ml_ ?_; (with_reducible refine (culetref13_word.calls k a0 false _ A2.out).mono ?_); rintro e w' ⟨rfl, ⟨nd, rfl⟩⟩; refine ⟨_, rfl, ?_⟩))
  go_ret
  exact ⟨by first | rfl | (simp [errW_none, errW_some] <;> rfl) | (simp [*, errW_none, errW_some] <;> rfl), mb_ HB.out⟩

end Go.Proofs.YtalhpnfapagamaaDoor.S
end
