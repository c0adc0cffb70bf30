-- Written by this session's own programs; what the law does not lean on is left out. Lean checks it.
import Derived.Test.YtejgenhmhahgeaaGreatDoorVS
import Derived.Test.YtejgenhmhahgeaaGreatDoorVR
import Derived.Test.YtejgenhmhahgeaaGreatDoorVTx21
namespace Go.Proofs.YtejgenhmhahgeaaGreatDoor.T
open Go.RowKit Go.Proofs.YtejgenhmhahgeaaGreatDoorW.PrintWords Go.Proofs.YtejgenhmhahgeaaGreatDoorW.PrintLast Go.Proofs.YtejgenhmhahgeaaGreatDoorW.PrintMore
attribute [local go_sem] max2_int max_two
set_option linter.unusedVariables false
set_option linter.unusedSimpArgs false

mutual
def tariff_Parse.j0 : Nat → ByteArray → ByteArray → ByteArray → Bool → Option (ByteArray × (List (S44)) × Int)
 | 0, _, _, _, _ => none
 | k + 1, x0, x4, x5, x31 => if x31 = true then (some ((⟨#[]⟩ : ByteArray), ([] : List (S44)), 4)) else ((strings_Split.f x5 (⟨#[44]⟩ : ByteArray)).bind fun t148 => (tariff_Parse.l0 k x0 t148 (t148.length : Int) 0 x4 ([] : List (S44))))
def tariff_Parse.l0 : Nat → ByteArray → List ByteArray → Int → Int → ByteArray → List (S44) → Option (ByteArray × (List (S44)) × Int)
 | 0, _, _, _, _, _, _ => none
 | k + 1, x0, x36, x37, x38, x148000, x148001 => if x38 < x37 then (if 0 ≤ x38 then (if x38 < (x36.length : Int) then ((strings_TrimPrefix.f (rdOf ByteArray.empty x36 x38) (⟨#[32]⟩ : ByteArray)).bind fun t154 => ((strings_Cut.f t154 (⟨#[64]⟩ : ByteArray)).bind fun bt155 => ((strconv_Atoi.f bt155.1).bind fun bt158 => ((strconv_Atoi.f bt155.2.1).bind fun bt160 => (if x148001.length < 8796093022208 then (tariff_Parse.l0 k x0 x36 x37 (wrap64 (x38 + 1)) x148000 (x148001 ++ [(⟨bt158.1, bt160.1⟩ : S44)])) else (none)))))) else (none)) else (none)) else ((tariff_Print.f k x148000 x148001).bind fun bt151 => (if bt151.2 = 0 then (if bt151.1.toList = x0.toList then (some (x148000, x148001, 0)) else (some ((⟨#[]⟩ : ByteArray), ([] : List (S44)), 4))) else (some ((⟨#[]⟩ : ByteArray), ([] : List (S44)), 4))))
end
def tariff_Parse.f (k : Nat) (a0 : ByteArray) : Option (ByteArray × (List (S44)) × Int) := (strings_Cut.f a0 (⟨#[58]⟩ : ByteArray)).bind fun bt144 => (if bt144.2.2 = true then (tariff_Parse.j0 k a0 bt144.1 bt144.2.1 (decide ((a0.size : Int) > 400))) else (tariff_Parse.j0 k a0 bt144.1 bt144.2.1 true))
set_option maxHeartbeats 8000000 in
set_option maxRecDepth 100000 in
theorem tariff_Parse.calls (k : Nat) (a0 : ByteArray) (r1 : ByteArray) (r2 : List (S44)) (r3 : Int) (w : World) (hTW : TW w) (h : tariff_Parse.f k a0 = some (r1, r2, r3)) :
  Calls Tryz.prog 17 #[.string a0] w fun e w' => ∃ v1_ : Value, e = .returned (.tuple #[.agg #[.string r1, v1_], .int .i64 r3]) ∧ Kd.R k44 44 w' w.heap.size (fun _ => True) v1_ r2 ∧ Below w.heap.size w w' := by
 have hu30 := Tryz.underlying30
 have hu44 := Tryz.underlying44
 have HB := Aside0.mk (Below.refl w.heap.size w)
 have HTW := Aside0.mk hTW
 clear hTW
 have H : ((strings_Cut.f a0 (⟨#[58]⟩ : ByteArray)).bind fun bt144 => (if bt144.2.2 = true then (tariff_Parse.j0 k a0 bt144.1 bt144.2.1 (decide ((a0.size : Int) > 400))) else (tariff_Parse.j0 k a0 bt144.1 bt144.2.1 true))) = some (r1, r2, r3) := h
 clear h
 replace H := Option.bind_eq_some_iff.mp H
 obtain ⟨⟨t144, t145, t146⟩, A20, H⟩ := H
 replace H : (if t146 = true then (tariff_Parse.j0 k a0 t144 t145 (decide ((a0.size : Int) > 400))) else (tariff_Parse.j0 k a0 t144 t145 true)) = some (r1, r2, r3) := H
 have A2 := Aside0.mk A20
 clear A20
 have HC3 := Aside0.mk H
 clear H
 go_enter Tryz.func17, Tryz.ntmps17
 go_upto_region 2 with (first | ((with_reducible refine gate_dst (N := 2) rfl ?_); (try (refine gate_guard (by rfl) ?_; dsimp only)); refine box_event ?hg (N := 2) ?hd (cs := #[.string (⟨#[]⟩ : ByteArray), .slice none 0 0]) (t := 30) ?hr ?_; (case hd => rfl); (case hg => rfl); (case hr => first | (go_simp; done) | (go_simp; rfl)); intro gb143 hg w4 hbox hb; have n0_ := Aside0.mk (below_step (by repeat (first | (with_reducible first | exact HB.out | apply below_alloc | apply pw_below_drewN | apply below_drew1) | exact HB.out)) hb); have n1_ := Aside0.mk (hbox); have n2_ := Aside0.mk ((by rw [hg]; exact (below_size (by repeat (first | (with_reducible first | exact HB.out | apply below_alloc | apply pw_below_drewN | apply below_drew1) | exact HB.out))) : w.heap.size ≤ gb143)); have n3_ := Aside0.mk ((by rw [hg]; exact (below_size (by repeat (first | (with_reducible first | exact HB.out | apply below_alloc | apply pw_below_drewN | apply below_drew1) | exact HB.out))) : w.heap.size ≤ gb143)); clear HB; have HB := n0_; have BK143 := n1_; have GW143 := n2_; have GE143 := n3_; clear n0_ n1_ n2_ n3_; clear hb hbox hg) | ((with_reducible refine gate_callee (f := 25) rfl ?_); refine goesL_ (some 21) rfl rfl Tryz.func25 (by kernel_rfl) rfl #[.string a0, .string (⟨#[58]⟩ : ByteArray)] rfl (by (try simp only [List.map_toArray, List.map_cons, List.map_nil]); first | done | rfl | (simp only [List.length_drop, List.length_take]; rfl)) ?_; (with_reducible refine (strings_Cut.calls a0 (⟨#[58]⟩ : ByteArray) t144 t145 t146 _ (HTW.out.at (by repeat (first | (with_reducible first | exact HB.out | apply below_alloc | apply pw_below_drewN | apply below_drew1 | refine below_set ?_ GE143.out | refine below_set ?_ GE147.out) | exact HB.out))) A2.out).mono ?_); rintro e w' ⟨rfl, ⟨nd, rfl⟩⟩; refine ⟨_, rfl, ?_⟩))
 (try simp only [Act.put, List.setIfInBounds_toArray, List.set_cons_zero, List.set_cons_succ])
 go_cut [31] (fun v31 wc => ∃ (kq : Nat) (x31_2 : Bool), v31 = .bool x31_2 ∧ Aside0 (tariff_Parse.j0 kq a0 t144 t145 x31_2 = some (r1, r2, r3)) ∧ Aside0 (kq ≤ k) ∧ Aside0 (wc.heap[gb143]? = some (.cells #[.string (⟨#[]⟩ : ByteArray), (.slice none 0 0)] 30 (0, 0))) ∧ Aside0 (Below w.heap.size w wc))
 case first =>
  have H := HC3.out
  clear HC3
  by_cases c5 : t146 = true
  ·
   subst c5
   have H1 : (tariff_Parse.j0 k a0 t144 t145 (decide ((a0.size : Int) > 400))) = some (r1, r2, r3) := by rw [if_pos rfl] at H; exact H
   clear H
   have H := H1
   clear H1
   have H' := Aside0.mk H
   clear H
   go_wp2
   go_meet
   case rel => exact ⟨_, (decide ((a0.size : Int) > 400)), (by first | rfl | (simp; done) | (simp [*]; done)), H', ⟨by first | omega | exact Nat.le_refl _⟩, ⟨by (with_reducible repeat (first | refine blk_drewN ?_ _ | refine blk_drew ?_ | refine blk_alloc ?_ _)); exact BK143.out⟩, ⟨by repeat (first | (with_reducible first | exact HB.out | apply below_alloc | apply pw_below_drewN | apply below_drew1 | refine below_set ?_ GE143.out) | exact HB.out)⟩⟩
  ·
   replace c5 := Bool.eq_false_iff.mpr c5
   subst c5
   have H1 : (tariff_Parse.j0 k a0 t144 t145 true) = some (r1, r2, r3) := by rw [if_neg (show ¬ (false = true) by decide)] at H; exact H
   clear H
   have H := H1
   clear H1
   have H' := Aside0.mk H
   clear H
   go_wp2
   go_meet
   case rel => exact ⟨_, (true), (by first | rfl | (simp; done) | (simp [*]; done)), H', ⟨by first | omega | exact Nat.le_refl _⟩, ⟨by (with_reducible repeat (first | refine blk_drewN ?_ _ | refine blk_drew ?_ | refine blk_alloc ?_ _)); exact BK143.out⟩, ⟨by repeat (first | (with_reducible first | exact HB.out | apply below_alloc | apply pw_below_drewN | apply below_drew1 | refine below_set ?_ GE143.out) | exact HB.out)⟩⟩
 case rest =>
  clear HC3
  try clear c1
  try clear c2
  try clear p2
  try clear c5
  obtain ⟨kq, x31_2, rfl, HA, HJ2, BK143, HB⟩ := hcut
  cases kq with
  | zero => exact absurd HA.out (by simp [tariff_Parse.j0])
  | succ kj2 =>
   have H := HA.out
   clear HA
   simp only [tariff_Parse.j0] at H
   by_cases c6 : x31_2 = true
   ·
    subst c6
    have H1 : (some ((⟨#[]⟩ : ByteArray), ([] : List (S44)), 4)) = some (r1, r2, r3) := by rw [if_pos rfl] at H; exact H
    clear H
    have H := H1
    clear H1
    simp only [Option.some.injEq, Prod.mk.injEq] at H
    obtain ⟨rfl, rfl, rfl⟩ := H
    have hcz7_0 : wc.cell? ⟨gb143, 0, none⟩ = some (.string (⟨#[]⟩ : ByteArray)) := (blk_cell BK143.out 0).trans rfl
    have hcz7_1 : wc.cell? ⟨gb143, 1, none⟩ = some (.slice none 0 0) := (blk_cell BK143.out 1).trans rfl
    have hfz7_0 := blk_frozen BK143.out 0
    have hfz7_1 := blk_frozen BK143.out 1
    go_wp2
    refine bodyPost_ret (results_ct rfl _ _ gb143 30 #[.string (⟨#[]⟩ : ByteArray), .slice none 0 0] (0, 0) _ rfl (by (with_reducible repeat (first | refine blk_drewN ?_ _ | refine blk_drew ?_ | refine blk_alloc ?_ _)); refine blk_put (cs := #[.string (⟨#[]⟩ : ByteArray), .slice none 0 0]) ?_ 1 _ rfl; (with_reducible repeat (first | refine blk_drewN ?_ _ | refine blk_drew ?_ | refine blk_alloc ?_ _)); refine blk_put (cs := #[.string (⟨#[]⟩ : ByteArray), .slice none 0 0]) ?_ 0 _ rfl; (with_reducible repeat (first | refine blk_drewN ?_ _ | refine blk_drew ?_ | refine blk_alloc ?_ _)); exact BK143.out) Tryz.underlying30 rfl (by kernel_rfl)) rfl ?_
    exact ⟨_, by first | rfl | (simp [errW_none, errW_some] <;> rfl) | (simp [*, errW_none, errW_some] <;> rfl), by first | exact Kd.R_nil _ _ _ _ _ | exact Kd.N_nil _ _ _ _ _ | exact Kd.V_nil _ _ _ _ _ | exact Kd.Q_nil _ _ _ _ _ | exact Kd.S_nil _ _ _ _ _, by repeat (first | (with_reducible first | exact HB.out | apply below_alloc | apply pw_below_drewN | apply below_drew1 | refine below_set ?_ GE143.out) | exact HB.out)⟩
   ·
    replace c6 := Bool.eq_false_iff.mpr c6
    subst c6
    have H1 : ((strings_Split.f t145 (⟨#[44]⟩ : ByteArray)).bind fun t148 => (tariff_Parse.l0 kj2 a0 t148 (t148.length : Int) 0 t144 ([] : List (S44)))) = some (r1, r2, r3) := by rw [if_neg (show ¬ (false = true) by decide)] at H; exact H
    clear H
    have H := H1
    clear H1
    replace H := Option.bind_eq_some_iff.mp H
    obtain ⟨t148, A80, H⟩ := H
    replace H : (tariff_Parse.l0 kj2 a0 t148 (t148.length : Int) 0 t144 ([] : List (S44))) = some (r1, r2, r3) := H
    have A8 := Aside0.mk A80
    clear A80
    have H' := Aside0.mk H
    clear H
    go_wp2_with (first | ((with_reducible refine gate_dst (N := 7) rfl ?_); (try (refine gate_guard (by rfl) ?_; dsimp only)); refine box_event ?hg (N := 7) ?hd (cs := #[.string (⟨#[]⟩ : ByteArray), .slice none 0 0]) (t := 30) ?hr ?_; (case hd => rfl); (case hg => rfl); (case hr => first | (go_simp; done) | (go_simp; rfl)); intro gb147 hg w9 hbox hb; have n0_ := Aside0.mk (blk_below (g := gb143) (o := .cells #[.string (⟨#[]⟩ : ByteArray), .slice none 0 0] 30 (0, 0)) (by (with_reducible repeat (first | refine blk_drewN ?_ _ | refine blk_drew ?_ | refine blk_alloc ?_ _)); exact BK143.out) hb); have n1_ := Aside0.mk (below_step (by repeat (first | (with_reducible first | exact HB.out | apply below_alloc | apply pw_below_drewN | apply below_drew1 | refine below_set ?_ GE143.out) | exact HB.out)) hb); have n2_ := Aside0.mk (hbox); have n3_ := Aside0.mk ((by rw [hg]; exact (below_size (by repeat (first | (with_reducible first | exact HB.out | apply below_alloc | apply pw_below_drewN | apply below_drew1 | refine below_set ?_ GE143.out) | exact HB.out))) : w.heap.size ≤ gb147)); have n4_ := Aside0.mk ((by rw [hg]; exact (below_size (by repeat (first | (with_reducible first | exact HB.out | apply below_alloc | apply pw_below_drewN | apply below_drew1 | refine below_set ?_ GE143.out) | exact HB.out))) : w.heap.size ≤ gb147)); have n5_ := Aside0.mk ((by rw [hg]; exact Nat.ne_of_lt (blk_lt (g := gb143) (o := .cells #[.string (⟨#[]⟩ : ByteArray), .slice none 0 0] 30 (0, 0)) (by (with_reducible repeat (first | refine blk_drewN ?_ _ | refine blk_drew ?_ | refine blk_alloc ?_ _)); exact BK143.out)) : gb143 ≠ gb147)); have n6_ := Aside0.mk ((by rw [hg]; exact Nat.ne_of_gt (blk_lt (g := gb143) (o := .cells #[.string (⟨#[]⟩ : ByteArray), .slice none 0 0] 30 (0, 0)) (by (with_reducible repeat (first | refine blk_drewN ?_ _ | refine blk_drew ?_ | refine blk_alloc ?_ _)); exact BK143.out)) : gb147 ≠ gb143)); clear BK143; clear HB; have BK143 := n0_; have HB := n1_; have BK147 := n2_; have GW147 := n3_; have GE147 := n4_; have NB143_147 := n5_; have NB147_143 := n6_; clear n0_ n1_ n2_ n3_ n4_ n5_ n6_; clear hb hbox hg; have hnb10 := NB147_143.out; have hnc10 := NB143_147.out; have hcz11_0 : w9.cell? ⟨gb147, 0, none⟩ = some (.string (⟨#[]⟩ : ByteArray)) := (blk_cell BK147.out 0).trans rfl; have hcz11_1 : w9.cell? ⟨gb147, 1, none⟩ = some (.slice none 0 0) := (blk_cell BK147.out 1).trans rfl; have hfz11_0 := blk_frozen BK147.out 0; have hfz11_1 := blk_frozen BK147.out 1) | ((with_reducible refine gate_callee (f := 26) rfl ?_); refine goesL_ (some 36) rfl rfl Tryz.func26 (by kernel_rfl) rfl #[.string t145, .string (⟨#[44]⟩ : ByteArray)] rfl (by (try simp only [List.map_toArray, List.map_cons, List.map_nil]); first | done | rfl | (simp only [List.length_drop, List.length_take]; rfl)) ?_; (with_reducible refine (strings_Split.calls t145 (⟨#[44]⟩ : ByteArray) t148 _ (HTW.out.at (by repeat (first | (with_reducible first | exact HB.out | apply below_alloc | apply pw_below_drewN | apply below_drew1 | refine below_set ?_ GE143.out | refine below_set ?_ GE147.out) | exact HB.out))) A8.out).mono ?_); rintro e w12 ⟨v149, rfl, ho0, hb⟩; refine ⟨_, rfl, ?_⟩; have n0_ := Aside0.mk (Kd.R_lower ho0 (below_size (by repeat (first | (with_reducible first | exact HB.out | apply below_alloc | apply pw_below_drewN | apply below_drew1 | refine below_set ?_ GE143.out | refine below_set ?_ GE147.out) | exact HB.out)))); have n1_ := Aside0.mk (blk_below (g := gb143) (o := .cells #[.string (⟨#[]⟩ : ByteArray), .slice none 0 0] 30 (0, 0)) (by (with_reducible repeat (first | refine blk_drewN ?_ _ | refine blk_drew ?_ | refine blk_alloc ?_ _)); refine blk_far ?_ NB143_147.out _; (with_reducible repeat (first | refine blk_drewN ?_ _ | refine blk_drew ?_ | refine blk_alloc ?_ _)); refine blk_far ?_ NB143_147.out _; (with_reducible repeat (first | refine blk_drewN ?_ _ | refine blk_drew ?_ | refine blk_alloc ?_ _)); exact BK143.out) hb); have n2_ := Aside0.mk (blk_below (g := gb147) (o := .cells #[.string t144, .slice none 0 0] 30 (0, 0)) (by (with_reducible repeat (first | refine blk_drewN ?_ _ | refine blk_drew ?_ | refine blk_alloc ?_ _)); refine blk_put (cs := #[.string t144, .slice none 0 0]) ?_ 1 _ rfl; (with_reducible repeat (first | refine blk_drewN ?_ _ | refine blk_drew ?_ | refine blk_alloc ?_ _)); refine blk_put (cs := #[.string (⟨#[]⟩ : ByteArray), .slice none 0 0]) ?_ 0 _ rfl; (with_reducible repeat (first | refine blk_drewN ?_ _ | refine blk_drew ?_ | refine blk_alloc ?_ _)); exact BK147.out) hb); have n3_ := Aside0.mk (below_step (by repeat (first | (with_reducible first | exact HB.out | apply below_alloc | apply pw_below_drewN | apply below_drew1 | refine below_set ?_ GE143.out | refine below_set ?_ GE147.out) | exact HB.out)) hb); clear BK143; clear BK147; clear HB; have HO150 := n0_; have BK143 := n1_; have BK147 := n2_; have HB := n3_; clear n0_ n1_ n2_ n3_; (try clear hb); (try clear hb2); (try clear hk); (try clear hi); (try clear ho0); obtain ⟨Ao13, co13, eo13⟩ := Kd.R_slice HO150.out; subst eo13))
    go_loopg [38] kj2 (fun kq v38 w' => ∃ (x38_2 : Int) (x148001_2 : List (S44)) (u148001 : Value), v38 = .int .i64 x38_2 ∧ Aside0 (tariff_Parse.l0 kq a0 t148 (t148.length : Int) x38_2 t144 x148001_2 = some (r1, r2, r3)) ∧ Aside0 (kq ≤ kj2) ∧ Aside0 (Kd.R Kd.string 9 w' w.heap.size (fun _ => True) (.slice Ao13 t148.length co13) t148) ∧ Aside0 (Kd.R k44 44 w' w.heap.size (fun _ => True) u148001 x148001_2) ∧ Aside0 (w'.heap[gb143]? = some (.cells #[.string (⟨#[]⟩ : ByteArray), (.slice none 0 0)] 30 (0, 0))) ∧ Aside0 (w'.heap[gb147]? = some (.cells #[.string t144, u148001] 30 (0, 0))) ∧ Aside0 (Below w.heap.size w w'))
    case atStart => exact ⟨(0), (([] : List (S44))), (.slice none 0 0), (by first | rfl | (simp; done) | (simp [*]; done)), H', ⟨Nat.le_refl _⟩, ⟨by (with_reducible repeat (first | apply Kd.R_alloc | apply Kd.R_drewN | apply Kd.R_drew)); exact HO150.out⟩, ⟨by first | exact Kd.R_nil _ _ _ _ _ | exact Kd.N_nil _ _ _ _ _ | exact Kd.V_nil _ _ _ _ _ | exact Kd.Q_nil _ _ _ _ _ | exact Kd.S_nil _ _ _ _ _⟩, ⟨by (with_reducible repeat (first | refine blk_drewN ?_ _ | refine blk_drew ?_ | refine blk_alloc ?_ _)); exact BK143.out⟩, ⟨by (with_reducible repeat (first | refine blk_drewN ?_ _ | refine blk_drew ?_ | refine blk_alloc ?_ _)); exact BK147.out⟩, ⟨by repeat (first | (with_reducible first | exact HB.out | apply below_alloc | apply pw_below_drewN | apply below_drew1 | refine below_set ?_ GE143.out | refine below_set ?_ GE147.out) | exact HB.out)⟩⟩
    case round =>
     clear H'
     try clear c1
     try clear c2
     try clear p2
     try clear c5
     try clear c6
     try clear c10
     try clear hcz11_0
     try clear hcz11_1
     try clear hcz7_0
     try clear hcz7_1
     try clear hfz11_0
     try clear hfz11_1
     try clear hfz7_0
     try clear hfz7_1
     try clear p2
     obtain ⟨x38_2, x148001_2, u148001, rfl, HA, HK2, HO_36, HO_148001, BK143, BK147, HB⟩ := hrel
     cases gk with
     | zero => exact absurd HA.out (by simp [tariff_Parse.l0])
     | succ k2 =>
      have H := HA.out
      clear HA
      simp only [tariff_Parse.l0] at H
      by_cases c14 : x38_2 < (t148.length : Int)
      ·
       rw [if_pos c14] at H
       have c14b0 : decide (x38_2 < (t148.length : Int)) = true := decide_eq_true c14
       clear c14
       by_cases c15 : 0 ≤ x38_2
       ·
        rw [if_pos c15] at H
        have c15b0 : decide (0 ≤ x38_2) = true := decide_eq_true c15
        clear c15
        by_cases c16 : x38_2 < (t148.length : Int)
        ·
         rw [if_pos c16] at H
         have c16b0 : decide (x38_2 < (t148.length : Int)) = true := decide_eq_true c16
         clear c16
         replace H := Option.bind_eq_some_iff.mp H
         obtain ⟨t154, A170, H⟩ := H
         replace H : ((strings_Cut.f t154 (⟨#[64]⟩ : ByteArray)).bind fun bt155 => ((strconv_Atoi.f bt155.1).bind fun bt158 => ((strconv_Atoi.f bt155.2.1).bind fun bt160 => (if x148001_2.length < 8796093022208 then (tariff_Parse.l0 k2 a0 t148 (t148.length : Int) (wrap64 (x38_2 + 1)) t144 (x148001_2 ++ [(⟨bt158.1, bt160.1⟩ : S44)])) else (none))))) = some (r1, r2, r3) := H
         have A17 := Aside0.mk A170
         clear A170
         replace H := Option.bind_eq_some_iff.mp H
         obtain ⟨⟨t155, t156, t157⟩, A180, H⟩ := H
         replace H : ((strconv_Atoi.f t155).bind fun bt158 => ((strconv_Atoi.f t156).bind fun bt160 => (if x148001_2.length < 8796093022208 then (tariff_Parse.l0 k2 a0 t148 (t148.length : Int) (wrap64 (x38_2 + 1)) t144 (x148001_2 ++ [(⟨bt158.1, bt160.1⟩ : S44)])) else (none)))) = some (r1, r2, r3) := H
         have A18 := Aside0.mk A180
         clear A180
         replace H := Option.bind_eq_some_iff.mp H
         obtain ⟨⟨t158, t159⟩, A190, H⟩ := H
         replace H : ((strconv_Atoi.f t156).bind fun bt160 => (if x148001_2.length < 8796093022208 then (tariff_Parse.l0 k2 a0 t148 (t148.length : Int) (wrap64 (x38_2 + 1)) t144 (x148001_2 ++ [(⟨t158, bt160.1⟩ : S44)])) else (none))) = some (r1, r2, r3) := H
         have A19 := Aside0.mk A190
         clear A190
         replace H := Option.bind_eq_some_iff.mp H
         obtain ⟨⟨t160, t161⟩, A200, H⟩ := H
         replace H : (if x148001_2.length < 8796093022208 then (tariff_Parse.l0 k2 a0 t148 (t148.length : Int) (wrap64 (x38_2 + 1)) t144 (x148001_2 ++ [(⟨t158, t160⟩ : S44)])) else (none)) = some (r1, r2, r3) := H
         have A20 := Aside0.mk A200
         clear A200
         by_cases c21 : x148001_2.length < 8796093022208
         ·
          rw [if_pos c21] at H
          have LMc21 := Aside0.mk c21
          clear c21
          obtain ⟨y162, hy162⟩ : ∃ y_ : List (S44), y_ = (x148001_2 ++ [(⟨t158, t160⟩ : S44)]) := ⟨_, rfl⟩
          replace H : (tariff_Parse.l0 k2 a0 t148 (t148.length : Int) (wrap64 (x38_2 + 1)) t144 y162) = some (r1, r2, r3) := by first | (rw [hy162]; with_reducible exact H) | (have H2_ := (Option.bind_some _ _).symm.trans H; rw [hy162]; with_reducible exact H2_) | (have H2_ := (Option.bind_some _ _).symm.trans H; with_reducible exact H2_) | with_reducible exact H | (rw [hy162]; exact H) | exact H
          have Ny162 := Aside0.mk hy162
          clear hy162
          have H' := Aside0.mk H
          clear H
          have p153 : 0 ≤ (x38_2 : Int) := of_decide_eq_true (by first | (with_reducible assumption) | assumption)
          have q153 : x38_2 < (t148.length : Int) := of_decide_eq_true (by first | (with_reducible assumption) | assumption)
          obtain ⟨ad153, e153, hx153_0⟩ := Kd.at_string (Kd.R_reads' HO_36.out).2.2 x38_2 p153 q153
          cases e153
          replace p153 := eq_true p153
          replace q153 := eq_true q153
          go_wp2_with (first | ((with_reducible refine gate_callee (f := 27) rfl ?_); refine goesL_ (some 44) rfl rfl Tryz.func27 (by kernel_rfl) rfl #[.string (rdOf ByteArray.empty t148 x38_2), .string (⟨#[32]⟩ : ByteArray)] rfl (by (try simp only [List.map_toArray, List.map_cons, List.map_nil]); first | done | rfl | (simp only [List.length_drop, List.length_take]; rfl)) ?_; (with_reducible refine (strings_TrimPrefix.calls (rdOf ByteArray.empty t148 x38_2) (⟨#[32]⟩ : ByteArray) t154 _ A17.out).mono ?_); rintro e w' ⟨rfl, ⟨nd, rfl⟩⟩; refine ⟨_, rfl, ?_⟩; (try (rw [drewN_self wr]; generalize hq_ : World.drewN wr _ = wr; have n0_ : Aside0 (Kd.R k44 44 wr w.heap.size (fun _ => True) u148001 x148001_2) := ⟨by rw [← hq_]; exact (by (with_reducible repeat (first | apply Kd.R_alloc | apply Kd.R_drewN | apply Kd.R_drew)); exact HO_148001.out)⟩; have n1_ : Aside0 (Kd.R Kd.string 9 wr w.heap.size (fun _ => True) (.slice (some ad153) t148.length co13) t148) := ⟨by rw [← hq_]; exact (by (with_reducible repeat (first | apply Kd.R_alloc | apply Kd.R_drewN | apply Kd.R_drew)); exact HO_36.out)⟩; have n2_ : Aside0 (wr.heap[gb143]? = some (.cells #[.string (⟨#[]⟩ : ByteArray), .slice none 0 0] 30 (0, 0))) := ⟨by rw [← hq_]; exact (by (with_reducible repeat (first | refine blk_drewN ?_ _ | refine blk_drew ?_ | refine blk_alloc ?_ _)); exact BK143.out)⟩; have n3_ : Aside0 (wr.heap[gb147]? = some (.cells #[.string t144, u148001] 30 (0, 0))) := ⟨by rw [← hq_]; exact (by (with_reducible repeat (first | refine blk_drewN ?_ _ | refine blk_drew ?_ | refine blk_alloc ?_ _)); exact BK147.out)⟩; have n4_ : Aside0 (Below w.heap.size w wr) := ⟨by rw [← hq_]; exact (by repeat (first | (with_reducible first | exact HB.out | apply below_alloc | apply pw_below_drewN | apply below_drew1 | refine below_set ?_ GE143.out | refine below_set ?_ GE147.out) | exact HB.out))⟩; clear HO_148001 HO_36 BK143 BK147 HB hq_; have HO_148001 := n0_; have HO_36 := n1_; have BK143 := n2_; have BK147 := n3_; have HB := n4_; clear n0_ n1_ n2_ n3_ n4_))) | ((with_reducible refine gate_callee (f := 25) rfl ?_); refine goesL_ (some 45) rfl rfl Tryz.func25 (by kernel_rfl) rfl #[.string t154, .string (⟨#[64]⟩ : ByteArray)] rfl (by (try simp only [List.map_toArray, List.map_cons, List.map_nil]); first | done | rfl | (simp only [List.length_drop, List.length_take]; rfl)) ?_; (with_reducible refine (strings_Cut.calls t154 (⟨#[64]⟩ : ByteArray) t155 t156 t157 _ (HTW.out.at (by repeat (first | (with_reducible first | exact HB.out | apply below_alloc | apply pw_below_drewN | apply below_drew1 | refine below_set ?_ GE143.out | refine below_set ?_ GE147.out) | exact HB.out))) A18.out).mono ?_); rintro e w' ⟨rfl, ⟨nd, rfl⟩⟩; refine ⟨_, rfl, ?_⟩; (try (rw [drewN_self wr]; generalize hq_ : World.drewN wr _ = wr; have n0_ : Aside0 (Kd.R k44 44 wr w.heap.size (fun _ => True) u148001 x148001_2) := ⟨by rw [← hq_]; exact (by (with_reducible repeat (first | apply Kd.R_alloc | apply Kd.R_drewN | apply Kd.R_drew)); exact HO_148001.out)⟩; have n1_ : Aside0 (Kd.R Kd.string 9 wr w.heap.size (fun _ => True) (.slice (some ad153) t148.length co13) t148) := ⟨by rw [← hq_]; exact (by (with_reducible repeat (first | apply Kd.R_alloc | apply Kd.R_drewN | apply Kd.R_drew)); exact HO_36.out)⟩; have n2_ : Aside0 (wr.heap[gb143]? = some (.cells #[.string (⟨#[]⟩ : ByteArray), .slice none 0 0] 30 (0, 0))) := ⟨by rw [← hq_]; exact (by (with_reducible repeat (first | refine blk_drewN ?_ _ | refine blk_drew ?_ | refine blk_alloc ?_ _)); exact BK143.out)⟩; have n3_ : Aside0 (wr.heap[gb147]? = some (.cells #[.string t144, u148001] 30 (0, 0))) := ⟨by rw [← hq_]; exact (by (with_reducible repeat (first | refine blk_drewN ?_ _ | refine blk_drew ?_ | refine blk_alloc ?_ _)); exact BK147.out)⟩; have n4_ : Aside0 (Below w.heap.size w wr) := ⟨by rw [← hq_]; exact (by repeat (first | (with_reducible first | exact HB.out | apply below_alloc | apply pw_below_drewN | apply below_drew1 | refine below_set ?_ GE143.out | refine below_set ?_ GE147.out) | exact HB.out))⟩; clear HO_148001 HO_36 BK143 BK147 HB hq_; have HO_148001 := n0_; have HO_36 := n1_; have BK143 := n2_; have BK147 := n3_; have HB := n4_; clear n0_ n1_ n2_ n3_ n4_))) | ((with_reducible refine gate_callee (f := 28) rfl ?_); refine goesL_ (some 51) rfl rfl Tryz.func28 (by kernel_rfl) rfl #[.string t155] rfl (by (try simp only [List.map_toArray, List.map_cons, List.map_nil]); first | done | rfl | (simp only [List.length_drop, List.length_take]; rfl)) ?_; (with_reducible refine (strconv_Atoi.calls t155 t158 t159 _ (HTW.out.at (by repeat (first | (with_reducible first | exact HB.out | apply below_alloc | apply pw_below_drewN | apply below_drew1 | refine below_set ?_ GE143.out | refine below_set ?_ GE147.out) | exact HB.out))) A19.out).mono ?_); rintro e w22 ⟨ev_, rfl, hb⟩; refine ⟨_, rfl, ?_⟩; have n0_ := Aside0.mk (Kd.R_below (by (with_reducible repeat (first | apply Kd.R_alloc | apply Kd.R_drewN | apply Kd.R_drew)); exact HO_36.out) hb); have n1_ := Aside0.mk (Kd.R_below (by (with_reducible repeat (first | apply Kd.R_alloc | apply Kd.R_drewN | apply Kd.R_drew)); exact HO_148001.out) hb); have n2_ := Aside0.mk (blk_below (g := gb143) (o := .cells #[.string (⟨#[]⟩ : ByteArray), .slice none 0 0] 30 (0, 0)) (by (with_reducible repeat (first | refine blk_drewN ?_ _ | refine blk_drew ?_ | refine blk_alloc ?_ _)); exact BK143.out) hb); have n3_ := Aside0.mk (blk_below (g := gb147) (o := .cells #[.string t144, u148001] 30 (0, 0)) (by (with_reducible repeat (first | refine blk_drewN ?_ _ | refine blk_drew ?_ | refine blk_alloc ?_ _)); exact BK147.out) hb); have n4_ := Aside0.mk (below_step (by repeat (first | (with_reducible first | exact HB.out | apply below_alloc | apply pw_below_drewN | apply below_drew1 | refine below_set ?_ GE143.out | refine below_set ?_ GE147.out) | exact HB.out)) hb); clear HO_36; clear HO_148001; clear BK143; clear BK147; clear HB; have HO_36 := n0_; have HO_148001 := n1_; have BK143 := n2_; have BK147 := n3_; have HB := n4_; clear n0_ n1_ n2_ n3_ n4_; (try clear hb); (try clear hb2); (try clear hk); (try clear hi); (try simp only [errW_none, errW_some])) | ((with_reducible refine gate_callee (f := 28) rfl ?_); refine goesL_ (some 56) rfl rfl Tryz.func28 (by kernel_rfl) rfl #[.string t156] rfl (by (try simp only [List.map_toArray, List.map_cons, List.map_nil]); first | done | rfl | (simp only [List.length_drop, List.length_take]; rfl)) ?_; (with_reducible refine (strconv_Atoi.calls t156 t160 t161 _ (HTW.out.at (by repeat (first | (with_reducible first | exact HB.out | apply below_alloc | apply pw_below_drewN | apply below_drew1 | refine below_set ?_ GE143.out | refine below_set ?_ GE147.out) | exact HB.out))) A20.out).mono ?_); rintro e w23 ⟨ev_, rfl, hb⟩; refine ⟨_, rfl, ?_⟩; have n0_ := Aside0.mk (Kd.R_below (by (with_reducible repeat (first | apply Kd.R_alloc | apply Kd.R_drewN | apply Kd.R_drew)); exact HO_36.out) hb); have n1_ := Aside0.mk (Kd.R_below (by (with_reducible repeat (first | apply Kd.R_alloc | apply Kd.R_drewN | apply Kd.R_drew)); exact HO_148001.out) hb); have n2_ := Aside0.mk (blk_below (g := gb143) (o := .cells #[.string (⟨#[]⟩ : ByteArray), .slice none 0 0] 30 (0, 0)) (by (with_reducible repeat (first | refine blk_drewN ?_ _ | refine blk_drew ?_ | refine blk_alloc ?_ _)); exact BK143.out) hb); have n3_ := Aside0.mk (blk_below (g := gb147) (o := .cells #[.string t144, u148001] 30 (0, 0)) (by (with_reducible repeat (first | refine blk_drewN ?_ _ | refine blk_drew ?_ | refine blk_alloc ?_ _)); exact BK147.out) hb); have n4_ := Aside0.mk (below_step (by repeat (first | (with_reducible first | exact HB.out | apply below_alloc | apply pw_below_drewN | apply below_drew1 | refine below_set ?_ GE143.out | refine below_set ?_ GE147.out) | exact HB.out)) hb); clear HO_36; clear HO_148001; clear BK143; clear BK147; clear HB; have HO_36 := n0_; have HO_148001 := n1_; have BK143 := n2_; have BK147 := n3_; have HB := n4_; clear n0_ n1_ n2_ n3_ n4_; (try clear hb); (try clear hb2); (try clear hk); (try clear hi); (try simp only [errW_none, errW_some]); have hnb24 := NB147_143.out; have hnc24 := NB143_147.out; have hcz25_0 : w23.cell? ⟨gb147, 0, none⟩ = some (.string t144) := (blk_cell BK147.out 0).trans rfl; have hcz25_1 : w23.cell? ⟨gb147, 1, none⟩ = some (u148001) := (blk_cell BK147.out 1).trans rfl; have hfz25_0 := blk_frozen BK147.out 0; have hfz25_1 := blk_frozen BK147.out 1) | ((with_reducible refine gate_builtin (b := .append) (xs := #[.tmp 60, .tmp 64]) rfl ?_); (try (refine gate_guard (by rfl) ?_; dsimp only)); at_builtin; refine Kd.R_append k44 (w0 := w) w.heap.size rfl (.tmp 60) (.tmp 64) 28 44 (.agg #[(.int .i64 0), (.int .i64 0)]) 16 rfl Tryz.underlying28 info44 rfl (by decide) (by omega) u148001 x148001_2 (⟨t158, t160⟩ : S44) [.int .i64 t158, .int .i64 t160] (fun _ => True) (fun _ => False) rfl rfl ?aP (fun _ hk => hk.elim) ?aF ?aO ?aB ?aS ?aL ?_; (case aP => exact k44_mkM _ _ _ (⟨t158, t160⟩ : S44)); (case aB => exact (by repeat (first | (with_reducible first | exact HB.out | apply below_alloc | apply pw_below_drewN | apply below_drew1 | refine below_set ?_ GE143.out | refine below_set ?_ GE147.out) | exact HB.out))); (case aF => exact (fun _ _ => trivial)); (case aO => exact (by (with_reducible repeat (first | apply Kd.R_alloc | apply Kd.R_drewN | apply Kd.R_drew)); exact HO_148001.out)); (case aS => exact (below_size (by repeat (first | (with_reducible first | exact HB.out | apply below_alloc | apply pw_below_drewN | apply below_drew1 | refine below_set ?_ GE143.out | refine below_set ?_ GE147.out) | exact HB.out)))); (case aL => have := LMc21.out; omega); intro v163 w26 ho hb hg hat; rw [← Ny162.out] at ho; have n0_ := Aside0.mk (Kd.R_over' (by (with_reducible repeat (first | apply Kd.R_alloc | apply Kd.R_drewN | apply Kd.R_drew)); exact HO_36.out) (Kd.R_typed (by (with_reducible repeat (first | apply Kd.R_alloc | apply Kd.R_drewN | apply Kd.R_drew)); exact HO_148001.out)) (by decide) hg); have n1_ := Aside0.mk (blk_grown (g := gb143) (o := .cells #[.string (⟨#[]⟩ : ByteArray), .slice none 0 0] 30 (0, 0)) (by (with_reducible repeat (first | refine blk_drewN ?_ _ | refine blk_drew ?_ | refine blk_alloc ?_ _)); exact BK143.out) hg (Kd.R_ne HO_148001.out BK143.out (by decide))); have n2_ := Aside0.mk (blk_grown (g := gb147) (o := .cells #[.string t144, u148001] 30 (0, 0)) (by (with_reducible repeat (first | refine blk_drewN ?_ _ | refine blk_drew ?_ | refine blk_alloc ?_ _)); exact BK147.out) hg (Kd.R_ne HO_148001.out BK147.out (by decide))); have n3_ := Aside0.mk (hb); have n4_ := Aside0.mk (ho); clear HO_36; clear BK143; clear BK147; clear HB; clear HO_148001; have HO_36 := n0_; have BK143 := n1_; have BK147 := n2_; have HB := n3_; have HO164 := n4_; clear n0_ n1_ n2_ n3_ n4_; clear ho hb hg hat; obtain ⟨Ao27, co27, eo27⟩ := Kd.R_slice HO164.out; subst eo27; have hcz28_0 : w26.cell? ⟨gb147, 0, none⟩ = some (.string t144) := (blk_cell BK147.out 0).trans rfl; have hcz28_1 : w26.cell? ⟨gb147, 1, none⟩ = some (u148001) := (blk_cell BK147.out 1).trans rfl; have hfz28_0 := blk_frozen BK147.out 0; have hfz28_1 := blk_frozen BK147.out 1))
          go_roundg k2
          case measure => have := HJ2.out; have := HK2.out; omega
          case rel => exact ⟨(wrap64 (x38_2 + 1)), (y162), (.slice Ao27 y162.length co27), (by first | rfl | (simp; done) | (simp [*]; done)), H', ⟨by have := HJ2.out; have := HK2.out; omega⟩, ⟨by (with_reducible repeat (first | apply Kd.R_alloc | apply Kd.R_drewN | apply Kd.R_drew)); exact Kd.R_mono (Kd.R_far (p := ⟨gb147, 1, none⟩) (Kd.R_types HO_36.out BK147.out (by decide)) (fun _ hk => hk.2) (.slice Ao27 y162.length co27)) (fun _ hk => trivial)⟩, ⟨by (with_reducible repeat (first | apply Kd.R_alloc | apply Kd.R_drewN | apply Kd.R_drew)); exact Kd.R_mono (Kd.R_far (p := ⟨gb147, 1, none⟩) (Kd.R_types HO164.out BK147.out (by decide)) (fun _ hk => hk.2) (.slice Ao27 y162.length co27)) (fun _ hk => trivial)⟩, ⟨by (with_reducible repeat (first | refine blk_drewN ?_ _ | refine blk_drew ?_ | refine blk_alloc ?_ _)); refine blk_far ?_ NB143_147.out _; (with_reducible repeat (first | refine blk_drewN ?_ _ | refine blk_drew ?_ | refine blk_alloc ?_ _)); exact BK143.out⟩, ⟨by (with_reducible repeat (first | refine blk_drewN ?_ _ | refine blk_drew ?_ | refine blk_alloc ?_ _)); refine blk_put (cs := #[.string t144, u148001]) ?_ 1 _ rfl; (with_reducible repeat (first | refine blk_drewN ?_ _ | refine blk_drew ?_ | refine blk_alloc ?_ _)); exact BK147.out⟩, ⟨by repeat (first | (with_reducible first | exact HB.out | apply below_alloc | apply pw_below_drewN | apply below_drew1 | refine below_set ?_ GE143.out | refine below_set ?_ GE147.out) | exact HB.out)⟩⟩
         ·
          rw [if_neg c21] at H
          exact absurd H (by simp)
        ·
         rw [if_neg c16] at H
         exact absurd H (by simp)
       ·
        rw [if_neg c15] at H
        exact absurd H (by simp)
      ·
       rw [if_neg c14] at H
       have c14b0 : decide (x38_2 < (t148.length : Int)) = false := decide_eq_false c14
       clear c14
       replace H := Option.bind_eq_some_iff.mp H
       obtain ⟨⟨t151, t152⟩, A290, H⟩ := H
       replace H : (if t152 = 0 then (if t151.toList = a0.toList then (some (t144, x148001_2, 0)) else (some ((⟨#[]⟩ : ByteArray), ([] : List (S44)), 4))) else (some ((⟨#[]⟩ : ByteArray), ([] : List (S44)), 4))) = some (r1, r2, r3) := H
       have A29 := Aside0.mk A290
       clear A290
       by_cases c30 : t152 = 0
       ·
        rw [if_pos c30] at H
        have c30b0 : (t152 == 0) = true := beq_iff_eq.mpr c30
        have c30b1 : (t152 != 0) = false := bne_eq_false_iff_eq.mpr c30
        clear c30
        by_cases c31 : t151.toList = a0.toList
        ·
         rw [if_pos c31] at H
         have c31b0 : (t151.toList == a0.toList) = true := beq_iff_eq.mpr c31
         have c31b1 : (t151.toList != a0.toList) = false := bne_eq_false_iff_eq.mpr c31
         clear c31
         simp only [Option.some.injEq, Prod.mk.injEq] at H
         obtain ⟨rfl, rfl, rfl⟩ := H
         have hnb32 := NB147_143.out
         have hnc32 := NB143_147.out
         have hcz33_0 : wr.cell? ⟨gb147, 0, none⟩ = some (.string t144) := (blk_cell BK147.out 0).trans rfl
         have hcz33_1 : wr.cell? ⟨gb147, 1, none⟩ = some (u148001) := (blk_cell BK147.out 1).trans rfl
         have hfz33_0 := blk_frozen BK147.out 0
         have hfz33_1 := blk_frozen BK147.out 1
         obtain ⟨Ao34, co34, eo34⟩ := Kd.R_slice HO_148001.out
         subst eo34
         go_wp2_with (first | ((with_reducible refine gate_callee (f := 29) rfl ?_); refine goesL_ (some 70) rfl rfl Tryz.func29 (by kernel_rfl) rfl #[.agg #[.string t144, .slice Ao34 x148001_2.length co34]] rfl (by (try simp only [List.map_toArray, List.map_cons, List.map_nil]); first | done | rfl | (simp only [List.length_drop, List.length_take]; rfl)) ?_; (with_reducible refine (tariff_Print.calls k2 t144 _ _ x148001_2 t151 t152 _ (HTW.out.at (by repeat (first | (with_reducible first | exact HB.out | apply below_alloc | apply pw_below_drewN | apply below_drew1 | refine below_set ?_ GE143.out | refine below_set ?_ GE147.out) | exact HB.out))) ?side1 ?side2 A29.out).mono ?_); (case side1 => repeat (first | exact (Kd.R_reads' HO_148001.out).2.2 | (with_reducible refine Kd.C_alloc ?_ _) | (with_reducible refine Kd.C_drewN ?_ _) | (with_reducible refine Kd.C_drew ?_))); (case side2 => exact (Kd.R_reads' HO_148001.out).2.1); rintro e w35 ⟨rfl, hb⟩; refine ⟨_, rfl, ?_⟩; have n0_ := Aside0.mk (Kd.R_below (by (with_reducible repeat (first | apply Kd.R_alloc | apply Kd.R_drewN | apply Kd.R_drew)); exact HO_36.out) hb); have n1_ := Aside0.mk (Kd.R_below (by (with_reducible repeat (first | apply Kd.R_alloc | apply Kd.R_drewN | apply Kd.R_drew)); exact HO_148001.out) hb); have n2_ := Aside0.mk (blk_below (g := gb143) (o := .cells #[.string (⟨#[]⟩ : ByteArray), .slice none 0 0] 30 (0, 0)) (by (with_reducible repeat (first | refine blk_drewN ?_ _ | refine blk_drew ?_ | refine blk_alloc ?_ _)); exact BK143.out) hb); have n3_ := Aside0.mk (blk_below (g := gb147) (o := .cells #[.string t144, .slice Ao34 x148001_2.length co34] 30 (0, 0)) (by (with_reducible repeat (first | refine blk_drewN ?_ _ | refine blk_drew ?_ | refine blk_alloc ?_ _)); exact BK147.out) hb); have n4_ := Aside0.mk (below_step (by repeat (first | (with_reducible first | exact HB.out | apply below_alloc | apply pw_below_drewN | apply below_drew1 | refine below_set ?_ GE143.out | refine below_set ?_ GE147.out) | exact HB.out)) hb); clear HO_36; clear HO_148001; clear BK143; clear BK147; clear HB; have HO_36 := n0_; have HO_148001 := n1_; have BK143 := n2_; have BK147 := n3_; have HB := n4_; clear n0_ n1_ n2_ n3_ n4_; (try clear hb); (try clear hb2); (try clear hk); (try clear hi); have hcz36_0 : w35.cell? ⟨gb147, 0, none⟩ = some (.string t144) := (blk_cell BK147.out 0).trans rfl; have hcz36_1 : w35.cell? ⟨gb147, 1, none⟩ = some (.slice Ao34 x148001_2.length co34) := (blk_cell BK147.out 1).trans rfl; have hfz36_0 := blk_frozen BK147.out 0; have hfz36_1 := blk_frozen BK147.out 1; have hcz37_0 : w35.cell? ⟨gb143, 0, none⟩ = some (.string (⟨#[]⟩ : ByteArray)) := (blk_cell BK143.out 0).trans rfl; have hcz37_1 : w35.cell? ⟨gb143, 1, none⟩ = some (.slice none 0 0) := (blk_cell BK143.out 1).trans rfl; have hfz37_0 := blk_frozen BK143.out 0; have hfz37_1 := blk_frozen BK143.out 1))
         refine bodyPost_ret (results_ct rfl _ _ gb143 30 #[.string t144, .slice Ao34 x148001_2.length co34] (0, 0) _ rfl (by (with_reducible repeat (first | refine blk_drewN ?_ _ | refine blk_drew ?_ | refine blk_alloc ?_ _)); refine blk_put (cs := #[.string t144, .slice none 0 0]) ?_ 1 _ rfl; (with_reducible repeat (first | refine blk_drewN ?_ _ | refine blk_drew ?_ | refine blk_alloc ?_ _)); refine blk_put (cs := #[.string (⟨#[]⟩ : ByteArray), .slice none 0 0]) ?_ 0 _ rfl; (with_reducible repeat (first | refine blk_drewN ?_ _ | refine blk_drew ?_ | refine blk_alloc ?_ _)); exact BK143.out) Tryz.underlying30 rfl (by kernel_rfl)) rfl ?_
         exact ⟨_, by first | rfl | (simp [errW_none, errW_some] <;> rfl) | (simp [*, errW_none, errW_some] <;> rfl), by (with_reducible repeat (first | apply Kd.R_alloc | apply Kd.R_drewN | apply Kd.R_drew)); exact Kd.R_mono (Kd.R_far (p := ⟨gb143, 1, none⟩) (Kd.R_far (p := ⟨gb143, 0, none⟩) (Kd.R_types HO_148001.out BK143.out (by decide)) (fun _ hk => hk.2) (.string t144)) (fun _ hk => hk.2) (.slice Ao34 x148001_2.length co34)) (fun _ hk => trivial), by repeat (first | (with_reducible first | exact HB.out | apply below_alloc | apply pw_below_drewN | apply below_drew1 | refine below_set ?_ GE143.out | refine below_set ?_ GE147.out) | exact HB.out)⟩
        ·
         rw [if_neg c31] at H
         have c31b0 : (t151.toList == a0.toList) = false := beq_eq_false_iff_ne.mpr c31
         have c31b1 : (t151.toList != a0.toList) = true := bne_iff_ne.mpr c31
         simp only [Option.some.injEq, Prod.mk.injEq] at H
         obtain ⟨rfl, rfl, rfl⟩ := H
         have hnb38 := NB147_143.out
         have hnc38 := NB143_147.out
         have hcz39_0 : wr.cell? ⟨gb147, 0, none⟩ = some (.string t144) := (blk_cell BK147.out 0).trans rfl
         have hcz39_1 : wr.cell? ⟨gb147, 1, none⟩ = some (u148001) := (blk_cell BK147.out 1).trans rfl
         have hfz39_0 := blk_frozen BK147.out 0
         have hfz39_1 := blk_frozen BK147.out 1
         obtain ⟨Ao40, co40, eo40⟩ := Kd.R_slice HO_148001.out
         subst eo40
         go_wp2_with (first | ((with_reducible refine gate_callee (f := 29) rfl ?_); refine goesL_ (some 70) rfl rfl Tryz.func29 (by kernel_rfl) rfl #[.agg #[.string t144, .slice Ao40 x148001_2.length co40]] rfl (by (try simp only [List.map_toArray, List.map_cons, List.map_nil]); first | done | rfl | (simp only [List.length_drop, List.length_take]; rfl)) ?_; (with_reducible refine (tariff_Print.calls k2 t144 _ _ x148001_2 t151 t152 _ (HTW.out.at (by repeat (first | (with_reducible first | exact HB.out | apply below_alloc | apply pw_below_drewN | apply below_drew1 | refine below_set ?_ GE143.out | refine below_set ?_ GE147.out) | exact HB.out))) ?side1 ?side2 A29.out).mono ?_); (case side1 => repeat (first | exact (Kd.R_reads' HO_148001.out).2.2 | (with_reducible refine Kd.C_alloc ?_ _) | (with_reducible refine Kd.C_drewN ?_ _) | (with_reducible refine Kd.C_drew ?_))); (case side2 => exact (Kd.R_reads' HO_148001.out).2.1); rintro e w41 ⟨rfl, hb⟩; refine ⟨_, rfl, ?_⟩; have n0_ := Aside0.mk (Kd.R_below (by (with_reducible repeat (first | apply Kd.R_alloc | apply Kd.R_drewN | apply Kd.R_drew)); exact HO_36.out) hb); have n1_ := Aside0.mk (Kd.R_below (by (with_reducible repeat (first | apply Kd.R_alloc | apply Kd.R_drewN | apply Kd.R_drew)); exact HO_148001.out) hb); have n2_ := Aside0.mk (blk_below (g := gb143) (o := .cells #[.string (⟨#[]⟩ : ByteArray), .slice none 0 0] 30 (0, 0)) (by (with_reducible repeat (first | refine blk_drewN ?_ _ | refine blk_drew ?_ | refine blk_alloc ?_ _)); exact BK143.out) hb); have n3_ := Aside0.mk (blk_below (g := gb147) (o := .cells #[.string t144, .slice Ao40 x148001_2.length co40] 30 (0, 0)) (by (with_reducible repeat (first | refine blk_drewN ?_ _ | refine blk_drew ?_ | refine blk_alloc ?_ _)); exact BK147.out) hb); have n4_ := Aside0.mk (below_step (by repeat (first | (with_reducible first | exact HB.out | apply below_alloc | apply pw_below_drewN | apply below_drew1 | refine below_set ?_ GE143.out | refine below_set ?_ GE147.out) | exact HB.out)) hb); clear HO_36; clear HO_148001; clear BK143; clear BK147; clear HB; have HO_36 := n0_; have HO_148001 := n1_; have BK143 := n2_; have BK147 := n3_; have HB := n4_; clear n0_ n1_ n2_ n3_ n4_; (try clear hb); (try clear hb2); (try clear hk); (try clear hi); have hcz42_0 : w41.cell? ⟨gb143, 0, none⟩ = some (.string (⟨#[]⟩ : ByteArray)) := (blk_cell BK143.out 0).trans rfl; have hcz42_1 : w41.cell? ⟨gb143, 1, none⟩ = some (.slice none 0 0) := (blk_cell BK143.out 1).trans rfl; have hfz42_0 := blk_frozen BK143.out 0; have hfz42_1 := blk_frozen BK143.out 1))
         refine bodyPost_ret (results_ct rfl _ _ gb143 30 #[.string (⟨#[]⟩ : ByteArray), .slice none 0 0] (0, 0) _ rfl (by (with_reducible repeat (first | refine blk_drewN ?_ _ | refine blk_drew ?_ | refine blk_alloc ?_ _)); refine blk_put (cs := #[.string (⟨#[]⟩ : ByteArray), .slice none 0 0]) ?_ 1 _ rfl; (with_reducible repeat (first | refine blk_drewN ?_ _ | refine blk_drew ?_ | refine blk_alloc ?_ _)); refine blk_put (cs := #[.string (⟨#[]⟩ : ByteArray), .slice none 0 0]) ?_ 0 _ rfl; (with_reducible repeat (first | refine blk_drewN ?_ _ | refine blk_drew ?_ | refine blk_alloc ?_ _)); exact BK143.out) Tryz.underlying30 rfl (by kernel_rfl)) rfl ?_
         exact ⟨_, by first | rfl | (simp [errW_none, errW_some] <;> rfl) | (simp [*, errW_none, errW_some] <;> rfl), by first | exact Kd.R_nil _ _ _ _ _ | exact Kd.N_nil _ _ _ _ _ | exact Kd.V_nil _ _ _ _ _ | exact Kd.Q_nil _ _ _ _ _ | exact Kd.S_nil _ _ _ _ _, by repeat (first | (with_reducible first | exact HB.out | apply below_alloc | apply pw_below_drewN | apply below_drew1 | refine below_set ?_ GE143.out | refine below_set ?_ GE147.out) | exact HB.out)⟩
       ·
        rw [if_neg c30] at H
        have c30b0 : (t152 == 0) = false := beq_eq_false_iff_ne.mpr c30
        have c30b1 : (t152 != 0) = true := bne_iff_ne.mpr c30
        simp only [Option.some.injEq, Prod.mk.injEq] at H
        obtain ⟨rfl, rfl, rfl⟩ := H
        have hnb43 := NB147_143.out
        have hnc43 := NB143_147.out
        have hcz44_0 : wr.cell? ⟨gb147, 0, none⟩ = some (.string t144) := (blk_cell BK147.out 0).trans rfl
        have hcz44_1 : wr.cell? ⟨gb147, 1, none⟩ = some (u148001) := (blk_cell BK147.out 1).trans rfl
        have hfz44_0 := blk_frozen BK147.out 0
        have hfz44_1 := blk_frozen BK147.out 1
        obtain ⟨Ao45, co45, eo45⟩ := Kd.R_slice HO_148001.out
        subst eo45
        go_wp2_with (first | ((with_reducible refine gate_callee (f := 29) rfl ?_); refine goesL_ (some 70) rfl rfl Tryz.func29 (by kernel_rfl) rfl #[.agg #[.string t144, .slice Ao45 x148001_2.length co45]] rfl (by (try simp only [List.map_toArray, List.map_cons, List.map_nil]); first | done | rfl | (simp only [List.length_drop, List.length_take]; rfl)) ?_; (with_reducible refine (tariff_Print.calls k2 t144 _ _ x148001_2 t151 t152 _ (HTW.out.at (by repeat (first | (with_reducible first | exact HB.out | apply below_alloc | apply pw_below_drewN | apply below_drew1 | refine below_set ?_ GE143.out | refine below_set ?_ GE147.out) | exact HB.out))) ?side1 ?side2 A29.out).mono ?_); (case side1 => repeat (first | exact (Kd.R_reads' HO_148001.out).2.2 | (with_reducible refine Kd.C_alloc ?_ _) | (with_reducible refine Kd.C_drewN ?_ _) | (with_reducible refine Kd.C_drew ?_))); (case side2 => exact (Kd.R_reads' HO_148001.out).2.1); rintro e w46 ⟨rfl, hb⟩; refine ⟨_, rfl, ?_⟩; have n0_ := Aside0.mk (Kd.R_below (by (with_reducible repeat (first | apply Kd.R_alloc | apply Kd.R_drewN | apply Kd.R_drew)); exact HO_36.out) hb); have n1_ := Aside0.mk (Kd.R_below (by (with_reducible repeat (first | apply Kd.R_alloc | apply Kd.R_drewN | apply Kd.R_drew)); exact HO_148001.out) hb); have n2_ := Aside0.mk (blk_below (g := gb143) (o := .cells #[.string (⟨#[]⟩ : ByteArray), .slice none 0 0] 30 (0, 0)) (by (with_reducible repeat (first | refine blk_drewN ?_ _ | refine blk_drew ?_ | refine blk_alloc ?_ _)); exact BK143.out) hb); have n3_ := Aside0.mk (blk_below (g := gb147) (o := .cells #[.string t144, .slice Ao45 x148001_2.length co45] 30 (0, 0)) (by (with_reducible repeat (first | refine blk_drewN ?_ _ | refine blk_drew ?_ | refine blk_alloc ?_ _)); exact BK147.out) hb); have n4_ := Aside0.mk (below_step (by repeat (first | (with_reducible first | exact HB.out | apply below_alloc | apply pw_below_drewN | apply below_drew1 | refine below_set ?_ GE143.out | refine below_set ?_ GE147.out) | exact HB.out)) hb); clear HO_36; clear HO_148001; clear BK143; clear BK147; clear HB; have HO_36 := n0_; have HO_148001 := n1_; have BK143 := n2_; have BK147 := n3_; have HB := n4_; clear n0_ n1_ n2_ n3_ n4_; (try clear hb); (try clear hb2); (try clear hk); (try clear hi); have hcz47_0 : w46.cell? ⟨gb143, 0, none⟩ = some (.string (⟨#[]⟩ : ByteArray)) := (blk_cell BK143.out 0).trans rfl; have hcz47_1 : w46.cell? ⟨gb143, 1, none⟩ = some (.slice none 0 0) := (blk_cell BK143.out 1).trans rfl; have hfz47_0 := blk_frozen BK143.out 0; have hfz47_1 := blk_frozen BK143.out 1))
        refine bodyPost_ret (results_ct rfl _ _ gb143 30 #[.string (⟨#[]⟩ : ByteArray), .slice none 0 0] (0, 0) _ rfl (by (with_reducible repeat (first | refine blk_drewN ?_ _ | refine blk_drew ?_ | refine blk_alloc ?_ _)); refine blk_put (cs := #[.string (⟨#[]⟩ : ByteArray), .slice none 0 0]) ?_ 1 _ rfl; (with_reducible repeat (first | refine blk_drewN ?_ _ | refine blk_drew ?_ | refine blk_alloc ?_ _)); refine blk_put (cs := #[.string (⟨#[]⟩ : ByteArray), .slice none 0 0]) ?_ 0 _ rfl; (with_reducible repeat (first | refine blk_drewN ?_ _ | refine blk_drew ?_ | refine blk_alloc ?_ _)); exact BK143.out) Tryz.underlying30 rfl (by kernel_rfl)) rfl ?_
        exact ⟨_, by first | rfl | (simp [errW_none, errW_some] <;> rfl) | (simp [*, errW_none, errW_some] <;> rfl), by first | exact Kd.R_nil _ _ _ _ _ | exact Kd.N_nil _ _ _ _ _ | exact Kd.V_nil _ _ _ _ _ | exact Kd.Q_nil _ _ _ _ _ | exact Kd.S_nil _ _ _ _ _, by repeat (first | (with_reducible first | exact HB.out | apply below_alloc | apply pw_below_drewN | apply below_drew1 | refine below_set ?_ GE143.out | refine below_set ?_ GE147.out) | exact HB.out)⟩

end Go.Proofs.YtejgenhmhahgeaaGreatDoor.T
