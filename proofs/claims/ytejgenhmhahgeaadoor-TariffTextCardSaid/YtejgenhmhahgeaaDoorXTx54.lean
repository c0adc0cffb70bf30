-- Written by this session's own programs; what the law does not lean on is left out. Lean checks it.
import Derived.Test.YtejgenhmhahgeaaDoorXS
import Derived.Test.YtejgenhmhahgeaaDoorXTx36
import Derived.Test.YtejgenhmhahgeaaDoorXTx52
import Derived.Test.YtejgenhmhahgeaaDoorXTx53
namespace Go.Proofs.YtejgenhmhahgeaaDoor.T
open Go.RowKit Go.Proofs.YtejgenhmhahgeaaDoorW.PrintWords Go.Proofs.YtejgenhmhahgeaaDoorW.PrintLast Go.Proofs.YtejgenhmhahgeaaDoorW.PrintMore
set_option linter.unusedVariables false
set_option linter.unusedSimpArgs false

mutual
def culetref44_Parse.l0 : Nat → List ByteArray → Int → ByteArray → List (S42) → Option (ByteArray × (List (S42)) × Int)
 | 0, _, _, _, _ => none
 | k + 1, x6, x7, x406000, x406001 => if x7 < (x6.length : Int) then (if 0 ≤ x7 then (if ((rdOf ByteArray.empty x6 x7).size : Int) = 0 then (culetref44_Parse.j1 k x6 x7 true x406000 x406001) else (if 0 < ((rdOf ByteArray.empty x6 x7).size : Int) then (culetref44_Parse.j1 k x6 x7 ((bt (rdOf ByteArray.empty x6 x7) 0) != 32) x406000 x406001) else (none))) else (none)) else ((culetref44_Valid.f k x406000 x406001).bind fun t410 => (if t410 = true then (some (x406000, x406001, 0)) else (some ((⟨#[]⟩ : ByteArray), ([] : List (S42)), 4))))
def culetref44_Parse.j1 : Nat → List ByteArray → Int → Bool → ByteArray → List (S42) → Option (ByteArray × (List (S42)) × Int)
 | 0, _, _, _, _, _ => none
 | k + 1, x6, x7, x50, x406000, x406001 => if x50 = true then (some ((⟨#[]⟩ : ByteArray), ([] : List (S42)), 4)) else (if 0 ≤ x7 then (if x7 < (x6.length : Int) then (if 1 ≤ ((rdOf ByteArray.empty x6 x7).size : Int) then ((culetref44_Parts.f k ((rdOf ByteArray.empty x6 x7).extract 1 (rdOf ByteArray.empty x6 x7).size) 64).bind fun t414 => (if (t414.length : Int) = 2 then (if 0 < (t414.length : Int) then ((culetref44_Number.f k (rdOf ByteArray.empty t414 0)).bind fun bt418 => (if 1 < (t414.length : Int) then ((culetref44_Number.f k (rdOf ByteArray.empty t414 1)).bind fun bt421 => (if bt418.2 = true then (if bt421.2 = true then (if x406001.length < 8796093022208 then (culetref44_Parse.l0 k x6 (wrap64 (x7 + 1)) x406000 (x406001 ++ [(⟨bt418.1, bt421.1⟩ : S42)])) else (none)) else (some ((⟨#[]⟩ : ByteArray), ([] : List (S42)), 4))) else (some ((⟨#[]⟩ : ByteArray), ([] : List (S42)), 4)))) else (none))) else (none)) else (some ((⟨#[]⟩ : ByteArray), ([] : List (S42)), 4)))) else (none)) else (none)) else (none))
end
def culetref44_Parse.f (k : Nat) (a0 : ByteArray) : Option (ByteArray × (List (S42)) × Int) := if (a0.size : Int) > 400 then (some ((⟨#[]⟩ : ByteArray), ([] : List (S42)), 4)) else ((culetref44_Parts.f k a0 58).bind fun t401 => (if (t401.length : Int) = 2 then (if 0 < (t401.length : Int) then (if 1 < (t401.length : Int) then ((culetref44_Parts.f k (rdOf ByteArray.empty t401 1) 44).bind fun t407 => (culetref44_Parse.l0 k t407 0 (rdOf ByteArray.empty t401 0) ([] : List (S42)))) else (none)) else (none)) else (some ((⟨#[]⟩ : ByteArray), ([] : List (S42)), 4))))
set_option maxHeartbeats 8000000 in
set_option maxRecDepth 100000 in
theorem culetref44_Parse.calls (k : Nat) (a0 : ByteArray) (r1 : ByteArray) (r2 : List (S42)) (r3 : Int) (w : World) (h : culetref44_Parse.f k a0 = some (r1, r2, r3)) :
  Calls Tryd.prog 12 #[.string a0] w fun e w' => ∃ v1_ : Value, e = .returned (.tuple #[.agg #[.string r1, v1_], .int .i64 r3]) ∧ Kd.R k42 42 w' w.heap.size (fun _ => True) v1_ r2 ∧ Below w.heap.size w w' := by
 have hu24 := Tryd.underlying24
 have hu42 := Tryd.underlying42
 have HB := Aside0.mk (Below.refl w.heap.size w)
 have H : (if (a0.size : Int) > 400 then (some ((⟨#[]⟩ : ByteArray), ([] : List (S42)), 4)) else ((culetref44_Parts.f k a0 58).bind fun t401 => (if (t401.length : Int) = 2 then (if 0 < (t401.length : Int) then (if 1 < (t401.length : Int) then ((culetref44_Parts.f k (rdOf ByteArray.empty t401 1) 44).bind fun t407 => (culetref44_Parse.l0 k t407 0 (rdOf ByteArray.empty t401 0) ([] : List (S42)))) else (none)) else (none)) else (some ((⟨#[]⟩ : ByteArray), ([] : List (S42)), 4))))) = some (r1, r2, r3) := h
 clear h
 by_cases c2 : (a0.size : Int) > 400
 ·
  rw [if_pos c2] at H
  have c2b0 : decide (400 < (a0.size : Int)) = true := decide_eq_true c2
  have c2b1 : decide (400 < a0.size) = true := decide_eq_true (by omega)
  clear c2
  simp only [Option.some.injEq, Prod.mk.injEq] at H
  obtain ⟨rfl, rfl, rfl⟩ := H
  go_enter Tryd.func12, Tryd.ntmps12
  go_wp2_with (first | ((with_reducible refine gate_dst (N := 2) rfl ?_); refine box_event ?hg (N := 2) ?hd (cs := #[.string (⟨#[]⟩ : ByteArray), .slice none 0 0]) (t := 24) ?hr ?_; (case hd => rfl); (case hg => rfl); (case hr => first | (go_simp; done) | (go_simp; rfl)); intro gb400 hg w3 hbox hb; have n0_ := Aside0.mk (below_step (by repeat (first | (with_reducible first | exact HB.out | apply below_alloc | apply pw_below_drewN | apply below_drew1) | exact HB.out)) hb); have n1_ := Aside0.mk (hbox); have n2_ := Aside0.mk ((by rw [hg]; exact (below_size (by repeat (first | (with_reducible first | exact HB.out | apply below_alloc | apply pw_below_drewN | apply below_drew1) | exact HB.out))) : w.heap.size ≤ gb400)); have n3_ := Aside0.mk ((by rw [hg]; exact (below_size (by repeat (first | (with_reducible first | exact HB.out | apply below_alloc | apply pw_below_drewN | apply below_drew1) | exact HB.out))) : w.heap.size ≤ gb400)); clear HB; have HB := n0_; have BK400 := n1_; have GW400 := n2_; have GE400 := n3_; clear n0_ n1_ n2_ n3_; clear hb hbox hg; have hcz4_0 : w3.cell? ⟨gb400, 0, none⟩ = some (.string (⟨#[]⟩ : ByteArray)) := (blk_cell BK400.out 0).trans rfl; have hcz4_1 : w3.cell? ⟨gb400, 1, none⟩ = some (.slice none 0 0) := (blk_cell BK400.out 1).trans rfl; have hfz4_0 := blk_frozen BK400.out 0; have hfz4_1 := blk_frozen BK400.out 1))
  refine bodyPost_ret (results_ct rfl _ _ gb400 24 #[.string (⟨#[]⟩ : ByteArray), .slice none 0 0] (0, 0) _ rfl (by (with_reducible repeat (first | refine blk_drewN ?_ _ | refine blk_drew ?_ | refine blk_alloc ?_ _)); refine blk_put (cs := #[.string (⟨#[]⟩ : ByteArray), .slice none 0 0]) ?_ 1 _ rfl; (with_reducible repeat (first | refine blk_drewN ?_ _ | refine blk_drew ?_ | refine blk_alloc ?_ _)); refine blk_put (cs := #[.string (⟨#[]⟩ : ByteArray), .slice none 0 0]) ?_ 0 _ rfl; (with_reducible repeat (first | refine blk_drewN ?_ _ | refine blk_drew ?_ | refine blk_alloc ?_ _)); exact BK400.out) Tryd.underlying24 rfl (by kernel_rfl)) rfl ?_
  exact ⟨_, by first | rfl | (simp [errW_none, errW_some] <;> rfl) | (simp [*, errW_none, errW_some] <;> rfl), by first | exact Kd.R_nil _ _ _ _ _ | exact Kd.N_nil _ _ _ _ _ | exact Kd.V_nil _ _ _ _ _ | exact Kd.Q_nil _ _ _ _ _ | exact Kd.S_nil _ _ _ _ _, by repeat (first | (with_reducible first | exact HB.out | apply below_alloc | apply pw_below_drewN | apply below_drew1 | refine below_set ?_ GE400.out) | exact HB.out)⟩
 ·
  rw [if_neg c2] at H
  have c2b0 : decide (400 < (a0.size : Int)) = false := decide_eq_false c2
  have c2b1 : decide (400 < a0.size) = false := decide_eq_false (by omega)
  clear c2
  replace H := Option.bind_eq_some_iff.mp H
  obtain ⟨t401, A50, H⟩ := H
  replace H : (if (t401.length : Int) = 2 then (if 0 < (t401.length : Int) then (if 1 < (t401.length : Int) then ((culetref44_Parts.f k (rdOf ByteArray.empty t401 1) 44).bind fun t407 => (culetref44_Parse.l0 k t407 0 (rdOf ByteArray.empty t401 0) ([] : List (S42)))) else (none)) else (none)) else (some ((⟨#[]⟩ : ByteArray), ([] : List (S42)), 4))) = some (r1, r2, r3) := H
  have A5 := Aside0.mk A50
  clear A50
  by_cases c6 : (t401.length : Int) = 2
  ·
   rw [if_pos c6] at H
   have c6b0 : ((t401.length : Int) == 2) = true := beq_iff_eq.mpr c6
   have c6b1 : ((t401.length : Int) != 2) = false := bne_eq_false_iff_eq.mpr c6
   clear c6
   by_cases c7 : 0 < (t401.length : Int)
   ·
    rw [if_pos c7] at H
    have c7b0 : decide (0 < (t401.length : Int)) = true := decide_eq_true c7
    have c7b1 : decide (0 < t401.length) = true := decide_eq_true (by omega)
    clear c7
    by_cases c8 : 1 < (t401.length : Int)
    ·
     rw [if_pos c8] at H
     have c8b0 : decide (1 < (t401.length : Int)) = true := decide_eq_true c8
     have c8b1 : decide (1 < t401.length) = true := decide_eq_true (by omega)
     clear c8
     replace H := Option.bind_eq_some_iff.mp H
     obtain ⟨t407, A90, H⟩ := H
     replace H : (culetref44_Parse.l0 k t407 0 (rdOf ByteArray.empty t401 0) ([] : List (S42))) = some (r1, r2, r3) := H
     have A9 := Aside0.mk A90
     clear A90
     have H' := Aside0.mk H
     clear H
     go_enter Tryd.func12, Tryd.ntmps12
     go_wp2_with (first | ((with_reducible refine gate_dst (N := 2) rfl ?_); refine box_event ?hg (N := 2) ?hd (cs := #[.string (⟨#[]⟩ : ByteArray), .slice none 0 0]) (t := 24) ?hr ?_; (case hd => rfl); (case hg => rfl); (case hr => first | (go_simp; done) | (go_simp; rfl)); intro gb400 hg w10 hbox hb; have n0_ := Aside0.mk (below_step (by repeat (first | (with_reducible first | exact HB.out | apply below_alloc | apply pw_below_drewN | apply below_drew1) | exact HB.out)) hb); have n1_ := Aside0.mk (hbox); have n2_ := Aside0.mk ((by rw [hg]; exact (below_size (by repeat (first | (with_reducible first | exact HB.out | apply below_alloc | apply pw_below_drewN | apply below_drew1) | exact HB.out))) : w.heap.size ≤ gb400)); have n3_ := Aside0.mk ((by rw [hg]; exact (below_size (by repeat (first | (with_reducible first | exact HB.out | apply below_alloc | apply pw_below_drewN | apply below_drew1) | exact HB.out))) : w.heap.size ≤ gb400)); clear HB; have HB := n0_; have BK400 := n1_; have GW400 := n2_; have GE400 := n3_; clear n0_ n1_ n2_ n3_; clear hb hbox hg) | ((with_reducible refine gate_callee (f := 32) rfl ?_); refine goesL_ (some 18) rfl rfl Tryd.func32 (by kernel_rfl) rfl #[.string a0, .int .u8 58] rfl (by (try simp only [List.map_toArray, List.map_cons, List.map_nil]); first | done | rfl | (simp only [List.length_drop, List.length_take]; rfl)) ?_; (with_reducible refine (culetref44_Parts.calls k a0 58 t401 _ A5.out).mono ?_); rintro e w11 ⟨v402, rfl, ho0, hb⟩; refine ⟨_, rfl, ?_⟩; have n0_ := Aside0.mk (Kd.R_lower ho0 (below_size (by repeat (first | (with_reducible first | exact HB.out | apply below_alloc | apply pw_below_drewN | apply below_drew1 | refine below_set ?_ GE400.out) | exact HB.out)))); have n1_ := Aside0.mk (blk_below (g := gb400) (o := .cells #[.string (⟨#[]⟩ : ByteArray), .slice none 0 0] 24 (0, 0)) (by (with_reducible repeat (first | refine blk_drewN ?_ _ | refine blk_drew ?_ | refine blk_alloc ?_ _)); exact BK400.out) hb); have n2_ := Aside0.mk (below_step (by repeat (first | (with_reducible first | exact HB.out | apply below_alloc | apply pw_below_drewN | apply below_drew1 | refine below_set ?_ GE400.out) | exact HB.out)) hb); clear BK400; clear HB; have HO403 := n0_; have BK400 := n1_; have HB := n2_; clear n0_ n1_ n2_; (try clear hb); (try clear hb2); (try clear hk); (try clear hi); (try clear ho0); obtain ⟨Ao12, co12, eo12⟩ := Kd.R_slice HO403.out; subst eo12; have p404 : 0 ≤ (0 : Int) := (by omega); have q404 : 0 < (t401.length : Int) := of_decide_eq_true (by first | (with_reducible assumption) | assumption); obtain ⟨ad404, e404, hx404_0⟩ := Kd.at_string (Kd.R_reads' HO403.out).2.2 0 p404 q404; cases e404; have qi404 : (0 < t401.length) = True := eq_true (by omega); (try rw [show ((0 : Int)).toNat = 0 from rfl] at hx404_0); (try rw [Addr.add_zero'] at hx404_0); replace p404 := eq_true p404; replace q404 := eq_true q404) | ((with_reducible refine gate_dst (N := 5) rfl ?_); refine box_event ?hg (N := 5) ?hd (cs := #[.string (⟨#[]⟩ : ByteArray), .slice none 0 0]) (t := 24) ?hr ?_; (case hd => rfl); (case hg => rfl); (case hr => first | (go_simp; done) | (go_simp; rfl)); intro gb405 hg w13 hbox hb; have n0_ := Aside0.mk (Kd.R_below (by (with_reducible repeat (first | apply Kd.R_alloc | apply Kd.R_drewN | apply Kd.R_drew)); exact HO403.out) hb); have n1_ := Aside0.mk (blk_below (g := gb400) (o := .cells #[.string (⟨#[]⟩ : ByteArray), .slice none 0 0] 24 (0, 0)) (by (with_reducible repeat (first | refine blk_drewN ?_ _ | refine blk_drew ?_ | refine blk_alloc ?_ _)); exact BK400.out) hb); have n2_ := Aside0.mk (below_step (by repeat (first | (with_reducible first | exact HB.out | apply below_alloc | apply pw_below_drewN | apply below_drew1 | refine below_set ?_ GE400.out) | exact HB.out)) hb); have n3_ := Aside0.mk (hbox); have n4_ := Aside0.mk ((by rw [hg]; exact (below_size (by repeat (first | (with_reducible first | exact HB.out | apply below_alloc | apply pw_below_drewN | apply below_drew1 | refine below_set ?_ GE400.out) | exact HB.out))) : w.heap.size ≤ gb405)); have n5_ := Aside0.mk ((by rw [hg]; exact (below_size (by repeat (first | (with_reducible first | exact HB.out | apply below_alloc | apply pw_below_drewN | apply below_drew1 | refine below_set ?_ GE400.out) | exact HB.out))) : w.heap.size ≤ gb405)); have n6_ := Aside0.mk ((by rw [hg]; exact Nat.ne_of_lt (blk_lt (g := gb400) (o := .cells #[.string (⟨#[]⟩ : ByteArray), .slice none 0 0] 24 (0, 0)) (by (with_reducible repeat (first | refine blk_drewN ?_ _ | refine blk_drew ?_ | refine blk_alloc ?_ _)); exact BK400.out)) : gb400 ≠ gb405)); have n7_ := Aside0.mk ((by rw [hg]; exact Nat.ne_of_gt (blk_lt (g := gb400) (o := .cells #[.string (⟨#[]⟩ : ByteArray), .slice none 0 0] 24 (0, 0)) (by (with_reducible repeat (first | refine blk_drewN ?_ _ | refine blk_drew ?_ | refine blk_alloc ?_ _)); exact BK400.out)) : gb405 ≠ gb400)); clear HO403; clear BK400; clear HB; have HO403 := n0_; have BK400 := n1_; have HB := n2_; have BK405 := n3_; have GW405 := n4_; have GE405 := n5_; have NB400_405 := n6_; have NB405_400 := n7_; clear n0_ n1_ n2_ n3_ n4_ n5_ n6_ n7_; clear hb hbox hg; have hnb14 := NB405_400.out; have hnc14 := NB400_405.out; have hcz15_0 : w13.cell? ⟨gb405, 0, none⟩ = some (.string (⟨#[]⟩ : ByteArray)) := (blk_cell BK405.out 0).trans rfl; have hcz15_1 : w13.cell? ⟨gb405, 1, none⟩ = some (.slice none 0 0) := (blk_cell BK405.out 1).trans rfl; have hfz15_0 := blk_frozen BK405.out 0; have hfz15_1 := blk_frozen BK405.out 1; have p406 : 0 ≤ (1 : Int) := (by omega); have q406 : 1 < (t401.length : Int) := of_decide_eq_true (by first | (with_reducible assumption) | assumption); obtain ⟨ad406, e406, hx406_0⟩ := Kd.at_string (Kd.R_reads' HO403.out).2.2 1 p406 q406; obtain rfl : ad404 = ad406 := (by injection e406); (try simp only [show (1 : Int).toNat = 1 from rfl, Nat.reduceMul, Nat.reduceEqDiff, Go.Addr.add, ↓reduceIte] at hx406_0); have qi406 : (1 < t401.length) = True := eq_true (by omega); (try rw [show ((1 : Int)).toNat = 1 from rfl] at hx406_0); have hn406_0 : ad404.block ≠ gb405 := Kd.own_blk (Kd.R_ne HO403.out BK405.out (by decide)); have hn406_1 : ad404.block ≠ gb405 := Kd.own_blk (Kd.R_ne HO403.out BK405.out (by decide)); replace hx406_0 := (cell_far (p := ⟨gb405, 0, none⟩) (by first | (rw [add_block]; exact hn406_0) | (show (Addr.add _ _).block ≠ _; rw [add_block]; exact hn406_0) | exact hn406_0) (.string (rdOf ByteArray.empty t401 0))).trans hx406_0; replace hx406_0 := (cell_far (p := ⟨gb405, 1, none⟩) (by first | (rw [add_block]; exact hn406_1) | (show (Addr.add _ _).block ≠ _; rw [add_block]; exact hn406_1) | exact hn406_1) (.slice none 0 0)).trans hx406_0; clear hn406_0; clear hn406_1; replace p406 := eq_true p406; replace q406 := eq_true q406) | ((with_reducible refine gate_callee (f := 32) rfl ?_); refine goesL_ (some 30) rfl rfl Tryd.func32 (by kernel_rfl) rfl #[.string (rdOf ByteArray.empty t401 1), .int .u8 44] rfl (by (try simp only [List.map_toArray, List.map_cons, List.map_nil]); first | done | rfl | (simp only [List.length_drop, List.length_take]; rfl)) ?_; (with_reducible refine (culetref44_Parts.calls k (rdOf ByteArray.empty t401 1) 44 t407 _ A9.out).mono ?_); rintro e w16 ⟨v408, rfl, ho0, hb⟩; refine ⟨_, rfl, ?_⟩; have n0_ := Aside0.mk (Kd.R_elder' (by (with_reducible repeat (first | apply Kd.R_alloc | apply Kd.R_drewN | apply Kd.R_drew)); exact (Kd.R_mono (Kd.R_far (p := ⟨gb405, 1, none⟩) (Kd.R_far (p := ⟨gb405, 0, none⟩) (Kd.R_types HO403.out BK405.out (by decide)) (fun _ hk => hk.2) (.string (rdOf ByteArray.empty t401 0))) (fun _ hk => hk.2) (.slice none 0 0)) (fun _ h_ => h_.1))) (Kd.R_base ho0) hb); have n1_ := Aside0.mk (Kd.R_lower (Kd.R_new' ho0 (Kd.R_lt (by (with_reducible repeat (first | apply Kd.R_alloc | apply Kd.R_drewN | apply Kd.R_drew)); exact (Kd.R_mono (Kd.R_far (p := ⟨gb405, 1, none⟩) (Kd.R_far (p := ⟨gb405, 0, none⟩) (Kd.R_types HO403.out BK405.out (by decide)) (fun _ hk => hk.2) (.string (rdOf ByteArray.empty t401 0))) (fun _ hk => hk.2) (.slice none 0 0)) (fun _ h_ => h_.1))))) (below_size (by repeat (first | (with_reducible first | exact HB.out | apply below_alloc | apply pw_below_drewN | apply below_drew1 | refine below_set ?_ GE400.out | refine below_set ?_ GE405.out) | exact HB.out)))); have n2_ := Aside0.mk (blk_below (g := gb400) (o := .cells #[.string (⟨#[]⟩ : ByteArray), .slice none 0 0] 24 (0, 0)) (by (with_reducible repeat (first | refine blk_drewN ?_ _ | refine blk_drew ?_ | refine blk_alloc ?_ _)); refine blk_far ?_ NB400_405.out _; (with_reducible repeat (first | refine blk_drewN ?_ _ | refine blk_drew ?_ | refine blk_alloc ?_ _)); refine blk_far ?_ NB400_405.out _; (with_reducible repeat (first | refine blk_drewN ?_ _ | refine blk_drew ?_ | refine blk_alloc ?_ _)); exact BK400.out) hb); have n3_ := Aside0.mk (blk_below (g := gb405) (o := .cells #[.string (rdOf ByteArray.empty t401 0), .slice none 0 0] 24 (0, 0)) (by (with_reducible repeat (first | refine blk_drewN ?_ _ | refine blk_drew ?_ | refine blk_alloc ?_ _)); refine blk_put (cs := #[.string (rdOf ByteArray.empty t401 0), .slice none 0 0]) ?_ 1 _ rfl; (with_reducible repeat (first | refine blk_drewN ?_ _ | refine blk_drew ?_ | refine blk_alloc ?_ _)); refine blk_put (cs := #[.string (⟨#[]⟩ : ByteArray), .slice none 0 0]) ?_ 0 _ rfl; (with_reducible repeat (first | refine blk_drewN ?_ _ | refine blk_drew ?_ | refine blk_alloc ?_ _)); exact BK405.out) hb); have n4_ := Aside0.mk (below_step (by repeat (first | (with_reducible first | exact HB.out | apply below_alloc | apply pw_below_drewN | apply below_drew1 | refine below_set ?_ GE400.out | refine below_set ?_ GE405.out) | exact HB.out)) hb); clear HO403; clear BK400; clear BK405; clear HB; have HO403 := n0_; have HO409 := n1_; have BK400 := n2_; have BK405 := n3_; have HB := n4_; clear n0_ n1_ n2_ n3_ n4_; (try clear hb); (try clear hb2); (try clear hk); (try clear hi); (try clear ho0)))
     go_loopg [7] k (fun kq v7 w' => ∃ (x7_1 : Int) (x401000_1 : ByteArray) (x406001_1 : List (S42)) (u406001 : Value), v7 = .int .i64 x7_1 ∧ Aside0 (culetref44_Parse.l0 kq t407 x7_1 (rdOf ByteArray.empty t401 0) x406001_1 = some (r1, r2, r3)) ∧ Aside0 (kq ≤ k) ∧ Aside0 (Kd.R Kd.string 9 w' w.heap.size (fun _ => True) v408 t407) ∧ Aside0 (Kd.R k42 42 w' w.heap.size (fun _ => True) u406001 x406001_1) ∧ Aside0 (w'.heap[gb400]? = some (.cells #[.string x401000_1, (.slice none 0 0)] 24 (0, 0))) ∧ Aside0 (w'.heap[gb405]? = some (.cells #[.string (rdOf ByteArray.empty t401 0), u406001] 24 (0, 0))) ∧ Aside0 (Below w.heap.size w w'))
     case atStart => exact ⟨(0), ((⟨#[]⟩ : ByteArray)), (([] : List (S42))), (.slice none 0 0), (by first | rfl | (simp; done) | (simp [*]; done)), H', ⟨Nat.le_refl _⟩, ⟨by (with_reducible repeat (first | apply Kd.R_alloc | apply Kd.R_drewN | apply Kd.R_drew)); exact Kd.R_mono HO409.out (fun _ hk => trivial)⟩, ⟨by first | exact Kd.R_nil _ _ _ _ _ | exact Kd.N_nil _ _ _ _ _ | exact Kd.V_nil _ _ _ _ _ | exact Kd.Q_nil _ _ _ _ _ | exact Kd.S_nil _ _ _ _ _⟩, ⟨by (with_reducible repeat (first | refine blk_drewN ?_ _ | refine blk_drew ?_ | refine blk_alloc ?_ _)); exact BK400.out⟩, ⟨by (with_reducible repeat (first | refine blk_drewN ?_ _ | refine blk_drew ?_ | refine blk_alloc ?_ _)); exact BK405.out⟩, ⟨by repeat (first | (with_reducible first | exact HB.out | apply below_alloc | apply pw_below_drewN | apply below_drew1 | refine below_set ?_ GE400.out | refine below_set ?_ GE405.out) | exact HB.out)⟩⟩
     case round =>
      clear H'
      try clear c1
      try clear c2
      try clear c2b0
      try clear c2b1
      try clear p2
      try clear c3
      try clear p4
      try clear q4
      try clear hx4
      try clear qi4
      try clear c6
      try clear c6b0
      try clear c6b1
      try clear c7
      try clear c7b0
      try clear c7b1
      try clear c8
      try clear c8b0
      try clear c8b1
      try clear c12
      try clear c14
      try clear hcz15_0
      try clear hcz15_1
      try clear hcz4_0
      try clear hcz4_1
      try clear hfz15_0
      try clear hfz15_1
      try clear hfz4_0
      try clear hfz4_1
      try clear hx404_0
      try clear hx406_0
      try clear p404
      try clear p406
      try clear q404
      try clear q406
      obtain ⟨x7_1, x401000_1, x406001_1, u406001, rfl, HA, HK1, HO_6, HO_406001, BK400, BK405, HB⟩ := hrel
      cases gk with
      | zero => exact absurd HA.out (by simp [culetref44_Parse.l0])
      | succ k1 =>
       have H := HA.out
       clear HA
       simp only [culetref44_Parse.l0] at H
       by_cases c17 : x7_1 < (t407.length : Int)
       ·
        rw [if_pos c17] at H
        have c17b0 : decide (x7_1 < (t407.length : Int)) = true := decide_eq_true c17
        clear c17
        have HC18 := Aside0.mk H
        clear H
        obtain ⟨Ao19, co19, eo19⟩ := Kd.R_slice HO_6.out
        subst eo19
        go_upto_region 11 with (fail)
        go_cut [50] (fun v50 wc => ∃ (kq : Nat) (x50_17 : Bool), v50 = .bool x50_17 ∧ Aside0 (culetref44_Parse.j1 kq t407 x7_1 x50_17 (rdOf ByteArray.empty t401 0) x406001_1 = some (r1, r2, r3)) ∧ Aside0 (kq ≤ k1) ∧ Aside0 (Kd.R Kd.string 9 wc w.heap.size (fun _ => True) (.slice Ao19 t407.length co19) t407) ∧ Aside0 (Kd.R k42 42 wc w.heap.size (fun _ => True) u406001 x406001_1) ∧ Aside0 (wc.heap[gb400]? = some (.cells #[.string x401000_1, (.slice none 0 0)] 24 (0, 0))) ∧ Aside0 (wc.heap[gb405]? = some (.cells #[.string (rdOf ByteArray.empty t401 0), u406001] 24 (0, 0))) ∧ Aside0 (Below w.heap.size w wc))
        case first =>
         have H := HC18.out
         clear HC18
         by_cases c20 : 0 ≤ x7_1
         ·
          rw [if_pos c20] at H
          have c20b0 : decide (0 ≤ x7_1) = true := decide_eq_true c20
          clear c20
          (first | rw [c20b0] | (simp only [i64_w, i32_w]; rw [c20b0]) | skip)
          by_cases c21 : ((rdOf ByteArray.empty t407 x7_1).size : Int) = 0
          ·
           rw [if_pos c21] at H
           have c21b0 : (((rdOf ByteArray.empty t407 x7_1).size : Int) == 0) = true := beq_iff_eq.mpr c21
           have c21b1 : (((rdOf ByteArray.empty t407 x7_1).size : Int) != 0) = false := bne_eq_false_iff_eq.mpr c21
           clear c21
           have H' := Aside0.mk H
           clear H
           have p411 : 0 ≤ (x7_1 : Int) := of_decide_eq_true (by first | (with_reducible assumption) | assumption)
           have q411 : x7_1 < (t407.length : Int) := of_decide_eq_true (by first | (with_reducible assumption) | assumption)
           obtain ⟨ad411, e411, hx411_0⟩ := Kd.at_string (Kd.R_reads' HO_6.out).2.2 x7_1 p411 q411
           cases e411
           replace p411 := eq_true p411
           replace q411 := eq_true q411
           go_wp2
           go_meet
           case rel => exact ⟨_, (true), (by first | rfl | (simp; done) | (simp [*]; done)), H', ⟨by have := HK1.out; first | omega | exact Nat.le_refl _⟩, ⟨by (with_reducible repeat (first | apply Kd.R_alloc | apply Kd.R_drewN | apply Kd.R_drew)); exact HO_6.out⟩, ⟨by (with_reducible repeat (first | apply Kd.R_alloc | apply Kd.R_drewN | apply Kd.R_drew)); exact HO_406001.out⟩, ⟨by (with_reducible repeat (first | refine blk_drewN ?_ _ | refine blk_drew ?_ | refine blk_alloc ?_ _)); exact BK400.out⟩, ⟨by (with_reducible repeat (first | refine blk_drewN ?_ _ | refine blk_drew ?_ | refine blk_alloc ?_ _)); exact BK405.out⟩, ⟨by repeat (first | (with_reducible first | exact HB.out | apply below_alloc | apply pw_below_drewN | apply below_drew1 | refine below_set ?_ GE400.out | refine below_set ?_ GE405.out) | exact HB.out)⟩⟩
          ·
           rw [if_neg c21] at H
           have c21b0 : (((rdOf ByteArray.empty t407 x7_1).size : Int) == 0) = false := beq_eq_false_iff_ne.mpr c21
           have c21b1 : (((rdOf ByteArray.empty t407 x7_1).size : Int) != 0) = true := bne_iff_ne.mpr c21
           by_cases c22 : 0 < ((rdOf ByteArray.empty t407 x7_1).size : Int)
           ·
            rw [if_pos c22] at H
            have c22b0 : decide (0 < ((rdOf ByteArray.empty t407 x7_1).size : Int)) = true := decide_eq_true c22
            have c22b1 : decide (0 < (rdOf ByteArray.empty t407 x7_1).size) = true := decide_eq_true (by omega)
            clear c22
            have H' := Aside0.mk H
            clear H
            have p411 : 0 ≤ (x7_1 : Int) := of_decide_eq_true (by first | (with_reducible assumption) | assumption)
            have q411 : x7_1 < (t407.length : Int) := of_decide_eq_true (by first | (with_reducible assumption) | assumption)
            obtain ⟨ad411, e411, hx411_0⟩ := Kd.at_string (Kd.R_reads' HO_6.out).2.2 x7_1 p411 q411
            cases e411
            replace p411 := eq_true p411
            replace q411 := eq_true q411
            have p412 : 0 ≤ (x7_1 : Int) := of_decide_eq_true (by first | (with_reducible assumption) | assumption)
            have q412 : x7_1 < (t407.length : Int) := of_decide_eq_true (by first | (with_reducible assumption) | assumption)
            obtain ⟨ad412, e412, hx412_0⟩ := Kd.at_string (Kd.R_reads' HO_6.out).2.2 x7_1 p412 q412
            obtain rfl : ad411 = ad412 := (by injection e412)
            replace p412 := eq_true p412
            replace q412 := eq_true q412
            have p23 : 0 ≤ (0 : Int) := (by omega)
            have q23 : 0 < (rdOf ByteArray.empty t407 x7_1).size := (by have : (0 : Int) < ((rdOf ByteArray.empty t407 x7_1).size : Int) := of_decide_eq_true (by first | (with_reducible assumption) | assumption); omega)
            have hx23 : ∀ h : 0 < (rdOf ByteArray.empty t407 x7_1).size, (((rdOf ByteArray.empty t407 x7_1)[0]'h).toNat : Int) = bt (rdOf ByteArray.empty t407 x7_1) 0 := bt_at (rdOf ByteArray.empty t407 x7_1) 0
            clear p23
            have qi23 : (0 < ((rdOf ByteArray.empty t407 x7_1).size : Int)) = True := eq_true (of_decide_eq_true (by first | (with_reducible assumption) | assumption))
            replace q23 := eq_true q23
            go_wp2
            go_meet
            case rel => exact ⟨_, (((bt (rdOf ByteArray.empty t407 x7_1) 0) != 32)), (by first | rfl | (simp; done) | (simp [*]; done)), H', ⟨by have := HK1.out; first | omega | exact Nat.le_refl _⟩, ⟨by (with_reducible repeat (first | apply Kd.R_alloc | apply Kd.R_drewN | apply Kd.R_drew)); exact HO_6.out⟩, ⟨by (with_reducible repeat (first | apply Kd.R_alloc | apply Kd.R_drewN | apply Kd.R_drew)); exact HO_406001.out⟩, ⟨by (with_reducible repeat (first | refine blk_drewN ?_ _ | refine blk_drew ?_ | refine blk_alloc ?_ _)); exact BK400.out⟩, ⟨by (with_reducible repeat (first | refine blk_drewN ?_ _ | refine blk_drew ?_ | refine blk_alloc ?_ _)); exact BK405.out⟩, ⟨by repeat (first | (with_reducible first | exact HB.out | apply below_alloc | apply pw_below_drewN | apply below_drew1 | refine below_set ?_ GE400.out | refine below_set ?_ GE405.out) | exact HB.out)⟩⟩
           ·
            rw [if_neg c22] at H
            exact absurd H (by simp)
         ·
          rw [if_neg c20] at H
          exact absurd H (by simp)
        case rest =>
         clear HC18
         try clear c1
         try clear c2
         try clear c2b0
         try clear c2b1
         try clear p2
         try clear q2
         try clear hx2
         try clear qi2
         try clear c3
         try clear p4
         try clear q4
         try clear hx4
         try clear qi4
         try clear c6
         try clear c6b0
         try clear c6b1
         try clear c7
         try clear c7b0
         try clear c7b1
         try clear c8
         try clear c8b0
         try clear c8b1
         try clear c12
         try clear c14
         try clear c17
         try clear c17b0
         try clear c20
         try clear c20b0
         try clear c21
         try clear c21b0
         try clear c21b1
         try clear c22
         try clear c22b0
         try clear c22b1
         try clear p23
         try clear q23
         try clear hx23
         try clear qi23
         try clear hcz15_0
         try clear hcz15_1
         try clear hcz4_0
         try clear hcz4_1
         try clear hfz15_0
         try clear hfz15_1
         try clear hfz4_0
         try clear hfz4_1
         try clear hx404_0
         try clear hx406_0
         try clear hx411_0
         try clear hx412_0
         try clear p2
         try clear p23
         try clear p4
         try clear p404
         try clear p406
         try clear p411
         try clear p412
         try clear q23
         try clear q4
         try clear q404
         try clear q406
         try clear q411
         try clear q412
         obtain ⟨kq, x50_17, rfl, HA, HJ17, HO_6, HO_406001, BK400, BK405, HB⟩ := hcut
         cases kq with
         | zero => exact absurd HA.out (by simp [culetref44_Parse.j1])
         | succ kj17 =>
          have H := HA.out
          clear HA
          simp only [culetref44_Parse.j1] at H
          by_cases c24 : x50_17 = true
          ·
           subst c24
           have H1 : (some ((⟨#[]⟩ : ByteArray), ([] : List (S42)), 4)) = some (r1, r2, r3) := by rw [if_pos rfl] at H; exact H
           clear H
           have H := H1
           clear H1
           simp only [Option.some.injEq, Prod.mk.injEq] at H
           obtain ⟨rfl, rfl, rfl⟩ := H
           have hnb25 := NB400_405.out
           have hnc25 := NB405_400.out
           have hcz26_0 : wc.cell? ⟨gb400, 0, none⟩ = some (.string x401000_1) := (blk_cell BK400.out 0).trans rfl
           have hcz26_1 : wc.cell? ⟨gb400, 1, none⟩ = some (.slice none 0 0) := (blk_cell BK400.out 1).trans rfl
           have hfz26_0 := blk_frozen BK400.out 0
           have hfz26_1 := blk_frozen BK400.out 1
           go_wp2
           refine bodyPost_ret (results_ct rfl _ _ gb400 24 #[.string (⟨#[]⟩ : ByteArray), .slice none 0 0] (0, 0) _ rfl (by (with_reducible repeat (first | refine blk_drewN ?_ _ | refine blk_drew ?_ | refine blk_alloc ?_ _)); refine blk_put (cs := #[.string (⟨#[]⟩ : ByteArray), .slice none 0 0]) ?_ 1 _ rfl; (with_reducible repeat (first | refine blk_drewN ?_ _ | refine blk_drew ?_ | refine blk_alloc ?_ _)); refine blk_put (cs := #[.string x401000_1, .slice none 0 0]) ?_ 0 _ rfl; (with_reducible repeat (first | refine blk_drewN ?_ _ | refine blk_drew ?_ | refine blk_alloc ?_ _)); exact BK400.out) Tryd.underlying24 rfl (by kernel_rfl)) rfl ?_
           exact ⟨_, by first | rfl | (simp [errW_none, errW_some] <;> rfl) | (simp [*, errW_none, errW_some] <;> rfl), by first | exact Kd.R_nil _ _ _ _ _ | exact Kd.N_nil _ _ _ _ _ | exact Kd.V_nil _ _ _ _ _ | exact Kd.Q_nil _ _ _ _ _ | exact Kd.S_nil _ _ _ _ _, by repeat (first | (with_reducible first | exact HB.out | apply below_alloc | apply pw_below_drewN | apply below_drew1 | refine below_set ?_ GE400.out | refine below_set ?_ GE405.out) | exact HB.out)⟩
          ·
           replace c24 := Bool.eq_false_iff.mpr c24
           subst c24
           have H1 : (if 0 ≤ x7_1 then (if x7_1 < (t407.length : Int) then (if 1 ≤ ((rdOf ByteArray.empty t407 x7_1).size : Int) then ((culetref44_Parts.f kj17 ((rdOf ByteArray.empty t407 x7_1).extract 1 (rdOf ByteArray.empty t407 x7_1).size) 64).bind fun t414 => (if (t414.length : Int) = 2 then (if 0 < (t414.length : Int) then ((culetref44_Number.f kj17 (rdOf ByteArray.empty t414 0)).bind fun bt418 => (if 1 < (t414.length : Int) then ((culetref44_Number.f kj17 (rdOf ByteArray.empty t414 1)).bind fun bt421 => (if bt418.2 = true then (if bt421.2 = true then (if x406001_1.length < 8796093022208 then (culetref44_Parse.l0 kj17 t407 (wrap64 (x7_1 + 1)) (rdOf ByteArray.empty t401 0) (x406001_1 ++ [(⟨bt418.1, bt421.1⟩ : S42)])) else (none)) else (some ((⟨#[]⟩ : ByteArray), ([] : List (S42)), 4))) else (some ((⟨#[]⟩ : ByteArray), ([] : List (S42)), 4)))) else (none))) else (none)) else (some ((⟨#[]⟩ : ByteArray), ([] : List (S42)), 4)))) else (none)) else (none)) else (none)) = some (r1, r2, r3) := by rw [if_neg (show ¬ (false = true) by decide)] at H; exact H
           clear H
           have H := H1
           clear H1
           by_cases c27 : 0 ≤ x7_1
           ·
            rw [if_pos c27] at H
            have c27b0 : decide (0 ≤ x7_1) = true := decide_eq_true c27
            clear c27
            by_cases c28 : x7_1 < (t407.length : Int)
            ·
             rw [if_pos c28] at H
             have c28b0 : decide (x7_1 < (t407.length : Int)) = true := decide_eq_true c28
             clear c28
             by_cases c29 : 1 ≤ ((rdOf ByteArray.empty t407 x7_1).size : Int)
             ·
              rw [if_pos c29] at H
              have c29b0 := eq_true c29
              have c29b1 : decide (1 ≤ ((rdOf ByteArray.empty t407 x7_1).size : Int)) = true := decide_eq_true c29
              clear c29
              replace H := Option.bind_eq_some_iff.mp H
              obtain ⟨t414, A300, H⟩ := H
              replace H : (if (t414.length : Int) = 2 then (if 0 < (t414.length : Int) then ((culetref44_Number.f kj17 (rdOf ByteArray.empty t414 0)).bind fun bt418 => (if 1 < (t414.length : Int) then ((culetref44_Number.f kj17 (rdOf ByteArray.empty t414 1)).bind fun bt421 => (if bt418.2 = true then (if bt421.2 = true then (if x406001_1.length < 8796093022208 then (culetref44_Parse.l0 kj17 t407 (wrap64 (x7_1 + 1)) (rdOf ByteArray.empty t401 0) (x406001_1 ++ [(⟨bt418.1, bt421.1⟩ : S42)])) else (none)) else (some ((⟨#[]⟩ : ByteArray), ([] : List (S42)), 4))) else (some ((⟨#[]⟩ : ByteArray), ([] : List (S42)), 4)))) else (none))) else (none)) else (some ((⟨#[]⟩ : ByteArray), ([] : List (S42)), 4))) = some (r1, r2, r3) := H
              have A30 := Aside0.mk A300
              clear A300
              by_cases c31 : (t414.length : Int) = 2
              ·
               rw [if_pos c31] at H
               have c31b0 : ((t414.length : Int) == 2) = true := beq_iff_eq.mpr c31
               have c31b1 : ((t414.length : Int) != 2) = false := bne_eq_false_iff_eq.mpr c31
               clear c31
               by_cases c32 : 0 < (t414.length : Int)
               ·
                rw [if_pos c32] at H
                have c32b0 : decide (0 < (t414.length : Int)) = true := decide_eq_true c32
                have c32b1 : decide (0 < t414.length) = true := decide_eq_true (by omega)
                clear c32
                replace H := Option.bind_eq_some_iff.mp H
                obtain ⟨⟨t418, t419⟩, A330, H⟩ := H
                replace H : (if 1 < (t414.length : Int) then ((culetref44_Number.f kj17 (rdOf ByteArray.empty t414 1)).bind fun bt421 => (if t419 = true then (if bt421.2 = true then (if x406001_1.length < 8796093022208 then (culetref44_Parse.l0 kj17 t407 (wrap64 (x7_1 + 1)) (rdOf ByteArray.empty t401 0) (x406001_1 ++ [(⟨t418, bt421.1⟩ : S42)])) else (none)) else (some ((⟨#[]⟩ : ByteArray), ([] : List (S42)), 4))) else (some ((⟨#[]⟩ : ByteArray), ([] : List (S42)), 4)))) else (none)) = some (r1, r2, r3) := H
                have A33 := Aside0.mk A330
                clear A330
                by_cases c34 : 1 < (t414.length : Int)
                ·
                 rw [if_pos c34] at H
                 have c34b0 : decide (1 < (t414.length : Int)) = true := decide_eq_true c34
                 have c34b1 : decide (1 < t414.length) = true := decide_eq_true (by omega)
                 clear c34
                 replace H := Option.bind_eq_some_iff.mp H
                 obtain ⟨⟨t421, t422⟩, A350, H⟩ := H
                 replace H : (if t419 = true then (if t422 = true then (if x406001_1.length < 8796093022208 then (culetref44_Parse.l0 kj17 t407 (wrap64 (x7_1 + 1)) (rdOf ByteArray.empty t401 0) (x406001_1 ++ [(⟨t418, t421⟩ : S42)])) else (none)) else (some ((⟨#[]⟩ : ByteArray), ([] : List (S42)), 4))) else (some ((⟨#[]⟩ : ByteArray), ([] : List (S42)), 4))) = some (r1, r2, r3) := H
                 have A35 := Aside0.mk A350
                 clear A350
                 by_cases c36 : t419 = true
                 ·
                  subst c36
                  have H1 : (if t422 = true then (if x406001_1.length < 8796093022208 then (culetref44_Parse.l0 kj17 t407 (wrap64 (x7_1 + 1)) (rdOf ByteArray.empty t401 0) (x406001_1 ++ [(⟨t418, t421⟩ : S42)])) else (none)) else (some ((⟨#[]⟩ : ByteArray), ([] : List (S42)), 4))) = some (r1, r2, r3) := by rw [if_pos rfl] at H; exact H
                  clear H
                  have H := H1
                  clear H1
                  by_cases c37 : t422 = true
                  ·
                   subst c37
                   have H1 : (if x406001_1.length < 8796093022208 then (culetref44_Parse.l0 kj17 t407 (wrap64 (x7_1 + 1)) (rdOf ByteArray.empty t401 0) (x406001_1 ++ [(⟨t418, t421⟩ : S42)])) else (none)) = some (r1, r2, r3) := by rw [if_pos rfl] at H; exact H
                   clear H
                   have H := H1
                   clear H1
                   by_cases c38 : x406001_1.length < 8796093022208
                   ·
                    rw [if_pos c38] at H
                    have LMc38 := Aside0.mk c38
                    clear c38
                    obtain ⟨y423, hy423⟩ : ∃ y_ : List (S42), y_ = (x406001_1 ++ [(⟨t418, t421⟩ : S42)]) := ⟨_, rfl⟩
                    replace H : (culetref44_Parse.l0 kj17 t407 (wrap64 (x7_1 + 1)) (rdOf ByteArray.empty t401 0) y423) = some (r1, r2, r3) := by first | (rw [hy423]; with_reducible exact H) | (have H2_ := (Option.bind_some _ _).symm.trans H; rw [hy423]; with_reducible exact H2_) | (have H2_ := (Option.bind_some _ _).symm.trans H; with_reducible exact H2_) | with_reducible exact H | (rw [hy423]; exact H) | exact H
                    have Ny423 := Aside0.mk hy423
                    clear hy423
                    have H' := Aside0.mk H
                    clear H
                    have p413 : 0 ≤ (x7_1 : Int) := of_decide_eq_true (by first | (with_reducible assumption) | assumption)
                    have q413 : x7_1 < (t407.length : Int) := of_decide_eq_true (by first | (with_reducible assumption) | assumption)
                    obtain ⟨ad413, e413, hx413_0⟩ := Kd.at_string (Kd.R_reads' HO_6.out).2.2 x7_1 p413 q413
                    cases e413
                    replace p413 := eq_true p413
                    replace q413 := eq_true q413
                    go_wp2_with (first | ((with_reducible refine gate_callee (f := 32) rfl ?_); refine goesL_ (some 57) rfl rfl Tryd.func32 (by kernel_rfl) rfl #[.string ((rdOf ByteArray.empty t407 x7_1).extract 1 (rdOf ByteArray.empty t407 x7_1).size), .int .u8 64] rfl (by (try simp only [List.map_toArray, List.map_cons, List.map_nil]); first | done | rfl | (simp only [List.length_drop, List.length_take]; rfl)) ?_; (with_reducible refine (culetref44_Parts.calls kj17 ((rdOf ByteArray.empty t407 x7_1).extract 1 (rdOf ByteArray.empty t407 x7_1).size) 64 t414 _ A30.out).mono ?_); rintro e w39 ⟨v415, rfl, ho0, hb⟩; refine ⟨_, rfl, ?_⟩; have n0_ := Aside0.mk (Kd.R_elder' (by (with_reducible repeat (first | apply Kd.R_alloc | apply Kd.R_drewN | apply Kd.R_drew)); exact HO_6.out) (Kd.R_base ho0) hb); have n1_ := Aside0.mk (Kd.R_below (by (with_reducible repeat (first | apply Kd.R_alloc | apply Kd.R_drewN | apply Kd.R_drew)); exact HO_406001.out) hb); have n2_ := Aside0.mk (Kd.R_lower (Kd.R_new' ho0 (Kd.R_lt (by (with_reducible repeat (first | apply Kd.R_alloc | apply Kd.R_drewN | apply Kd.R_drew)); exact HO_6.out))) (below_size (by repeat (first | (with_reducible first | exact HB.out | apply below_alloc | apply pw_below_drewN | apply below_drew1 | refine below_set ?_ GE400.out | refine below_set ?_ GE405.out) | exact HB.out)))); have n3_ := Aside0.mk (blk_below (g := gb400) (o := .cells #[.string x401000_1, .slice none 0 0] 24 (0, 0)) (by (with_reducible repeat (first | refine blk_drewN ?_ _ | refine blk_drew ?_ | refine blk_alloc ?_ _)); exact BK400.out) hb); have n4_ := Aside0.mk (blk_below (g := gb405) (o := .cells #[.string (rdOf ByteArray.empty t401 0), u406001] 24 (0, 0)) (by (with_reducible repeat (first | refine blk_drewN ?_ _ | refine blk_drew ?_ | refine blk_alloc ?_ _)); exact BK405.out) hb); have n5_ := Aside0.mk (below_step (by repeat (first | (with_reducible first | exact HB.out | apply below_alloc | apply pw_below_drewN | apply below_drew1 | refine below_set ?_ GE400.out | refine below_set ?_ GE405.out) | exact HB.out)) hb); clear HO_6; clear HO_406001; clear BK400; clear BK405; clear HB; have HO_6 := n0_; have HO_406001 := n1_; have HO416 := n2_; have BK400 := n3_; have BK405 := n4_; have HB := n5_; clear n0_ n1_ n2_ n3_ n4_ n5_; (try clear hb); (try clear hb2); (try clear hk); (try clear hi); (try clear ho0); obtain ⟨Ao40, co40, eo40⟩ := Kd.R_slice HO416.out; subst eo40; have p417 : 0 ≤ (0 : Int) := (by omega); have q417 : 0 < (t414.length : Int) := of_decide_eq_true (by first | (with_reducible assumption) | assumption); obtain ⟨ad417, e417, hx417_0⟩ := Kd.at_string (Kd.R_reads' HO416.out).2.2 0 p417 q417; cases e417; have qi417 : (0 < t414.length) = True := eq_true (by omega); (try rw [show ((0 : Int)).toNat = 0 from rfl] at hx417_0); (try rw [Addr.add_zero'] at hx417_0); replace p417 := eq_true p417; replace q417 := eq_true q417) | ((with_reducible refine gate_callee (f := 33) rfl ?_); refine goesL_ (some 66) rfl rfl Tryd.func33 (by kernel_rfl) rfl #[.string (rdOf ByteArray.empty t414 0)] rfl (by (try simp only [List.map_toArray, List.map_cons, List.map_nil]); first | done | rfl | (simp only [List.length_drop, List.length_take]; rfl)) ?_; (with_reducible refine (culetref44_Number.calls kj17 (rdOf ByteArray.empty t414 0) t418 true _ A33.out).mono ?_); rintro e w' ⟨rfl, ⟨nd, rfl⟩⟩; refine ⟨_, rfl, ?_⟩; (try (rw [drewN_self w39]; generalize hq_ : World.drewN w39 _ = w39; have n0_ : Aside0 (Kd.R Kd.string 9 w39 w.heap.size (fun k_ => some k_ ≠ (.slice (some ad413) t407.length co19 : Value).ownBlock) (.slice (some ad417) t414.length co40) t414) := ⟨by rw [← hq_]; exact (by (with_reducible repeat (first | apply Kd.R_alloc | apply Kd.R_drewN | apply Kd.R_drew)); exact Kd.R_mono HO416.out (fun _ hk => hk.2))⟩; have n1_ : Aside0 (Kd.R k42 42 w39 w.heap.size (fun _ => True) u406001 x406001_1) := ⟨by rw [← hq_]; exact (by (with_reducible repeat (first | apply Kd.R_alloc | apply Kd.R_drewN | apply Kd.R_drew)); exact HO_406001.out)⟩; have n2_ : Aside0 (Kd.R Kd.string 9 w39 w.heap.size (fun k_ => some k_ ≠ (.slice (some ad417) t414.length co40 : Value).ownBlock) (.slice (some ad413) t407.length co19) t407) := ⟨by rw [← hq_]; exact (by (with_reducible repeat (first | apply Kd.R_alloc | apply Kd.R_drewN | apply Kd.R_drew)); exact Kd.R_mono HO_6.out (fun _ hk => hk.2))⟩; have n3_ : Aside0 (w39.heap[gb400]? = some (.cells #[.string x401000_1, .slice none 0 0] 24 (0, 0))) := ⟨by rw [← hq_]; exact (by (with_reducible repeat (first | refine blk_drewN ?_ _ | refine blk_drew ?_ | refine blk_alloc ?_ _)); exact BK400.out)⟩; have n4_ : Aside0 (w39.heap[gb405]? = some (.cells #[.string (rdOf ByteArray.empty t401 0), u406001] 24 (0, 0))) := ⟨by rw [← hq_]; exact (by (with_reducible repeat (first | refine blk_drewN ?_ _ | refine blk_drew ?_ | refine blk_alloc ?_ _)); exact BK405.out)⟩; have n5_ : Aside0 (Below w.heap.size w w39) := ⟨by rw [← hq_]; exact (by repeat (first | (with_reducible first | exact HB.out | apply below_alloc | apply pw_below_drewN | apply below_drew1 | refine below_set ?_ GE400.out | refine below_set ?_ GE405.out) | exact HB.out))⟩; clear HO416 HO_406001 HO_6 BK400 BK405 HB hq_; have HO416 := n0_; have HO_406001 := n1_; have HO_6 := n2_; have BK400 := n3_; have BK405 := n4_; have HB := n5_; clear n0_ n1_ n2_ n3_ n4_ n5_)); have p420 : 0 ≤ (1 : Int) := (by omega); have q420 : 1 < (t414.length : Int) := of_decide_eq_true (by first | (with_reducible assumption) | assumption); obtain ⟨ad420, e420, hx420_0⟩ := Kd.at_string (Kd.R_reads' HO416.out).2.2 1 p420 q420; obtain rfl : ad417 = ad420 := (by injection e420); (try simp only [show (1 : Int).toNat = 1 from rfl, Nat.reduceMul, Nat.reduceEqDiff, Go.Addr.add, ↓reduceIte] at hx420_0); have qi420 : (1 < t414.length) = True := eq_true (by omega); (try rw [show ((1 : Int)).toNat = 1 from rfl] at hx420_0); replace p420 := eq_true p420; replace q420 := eq_true q420) | ((with_reducible refine gate_callee (f := 33) rfl ?_); refine goesL_ (some 73) rfl rfl Tryd.func33 (by kernel_rfl) rfl #[.string (rdOf ByteArray.empty t414 1)] rfl (by (try simp only [List.map_toArray, List.map_cons, List.map_nil]); first | done | rfl | (simp only [List.length_drop, List.length_take]; rfl)) ?_; (with_reducible refine (culetref44_Number.calls kj17 (rdOf ByteArray.empty t414 1) t421 true _ A35.out).mono ?_); rintro e w' ⟨rfl, ⟨nd, rfl⟩⟩; refine ⟨_, rfl, ?_⟩; (try (rw [drewN_self w39]; generalize hq_ : World.drewN w39 _ = w39; have n0_ : Aside0 (Kd.R Kd.string 9 w39 w.heap.size (fun k_ => some k_ ≠ (.slice (some ad413) t407.length co19 : Value).ownBlock) (.slice (some ad417) t414.length co40) t414) := ⟨by rw [← hq_]; exact (by (with_reducible repeat (first | apply Kd.R_alloc | apply Kd.R_drewN | apply Kd.R_drew)); exact Kd.R_mono HO416.out (fun _ hk => hk.2))⟩; have n1_ : Aside0 (Kd.R k42 42 w39 w.heap.size (fun _ => True) u406001 x406001_1) := ⟨by rw [← hq_]; exact (by (with_reducible repeat (first | apply Kd.R_alloc | apply Kd.R_drewN | apply Kd.R_drew)); exact HO_406001.out)⟩; have n2_ : Aside0 (Kd.R Kd.string 9 w39 w.heap.size (fun k_ => some k_ ≠ (.slice (some ad417) t414.length co40 : Value).ownBlock) (.slice (some ad413) t407.length co19) t407) := ⟨by rw [← hq_]; exact (by (with_reducible repeat (first | apply Kd.R_alloc | apply Kd.R_drewN | apply Kd.R_drew)); exact Kd.R_mono HO_6.out (fun _ hk => hk.2))⟩; have n3_ : Aside0 (w39.heap[gb400]? = some (.cells #[.string x401000_1, .slice none 0 0] 24 (0, 0))) := ⟨by rw [← hq_]; exact (by (with_reducible repeat (first | refine blk_drewN ?_ _ | refine blk_drew ?_ | refine blk_alloc ?_ _)); exact BK400.out)⟩; have n4_ : Aside0 (w39.heap[gb405]? = some (.cells #[.string (rdOf ByteArray.empty t401 0), u406001] 24 (0, 0))) := ⟨by rw [← hq_]; exact (by (with_reducible repeat (first | refine blk_drewN ?_ _ | refine blk_drew ?_ | refine blk_alloc ?_ _)); exact BK405.out)⟩; have n5_ : Aside0 (Below w.heap.size w w39) := ⟨by rw [← hq_]; exact (by repeat (first | (with_reducible first | exact HB.out | apply below_alloc | apply pw_below_drewN | apply below_drew1 | refine below_set ?_ GE400.out | refine below_set ?_ GE405.out) | exact HB.out))⟩; clear HO416 HO_406001 HO_6 BK400 BK405 HB hq_; have HO416 := n0_; have HO_406001 := n1_; have HO_6 := n2_; have BK400 := n3_; have BK405 := n4_; have HB := n5_; clear n0_ n1_ n2_ n3_ n4_ n5_)); have hnb41 := NB405_400.out; have hnc41 := NB400_405.out; have hcz42_0 : w39.cell? ⟨gb405, 0, none⟩ = some (.string (rdOf ByteArray.empty t401 0)) := (blk_cell BK405.out 0).trans rfl; have hcz42_1 : w39.cell? ⟨gb405, 1, none⟩ = some (u406001) := (blk_cell BK405.out 1).trans rfl; have hfz42_0 := blk_frozen BK405.out 0; have hfz42_1 := blk_frozen BK405.out 1) | ((with_reducible refine gate_builtin (b := .append) (xs := #[.tmp 84, .tmp 88]) rfl ?_); at_builtin; refine Kd.R_append k42 (w0 := w) w.heap.size rfl (.tmp 84) (.tmp 88) 22 42 (.agg #[(.int .i64 0), (.int .i64 0)]) 16 rfl Tryd.underlying22 info42 rfl (by decide) (by omega) u406001 x406001_1 (⟨t418, t421⟩ : S42) [.int .i64 t418, .int .i64 t421] (fun _ => True) (fun _ => False) rfl rfl ?aP (fun _ hk => hk.elim) ?aF ?aO ?aB ?aS ?aL ?_; (case aP => exact k42_mkM _ _ _ (⟨t418, t421⟩ : S42)); (case aB => exact (by repeat (first | (with_reducible first | exact HB.out | apply below_alloc | apply pw_below_drewN | apply below_drew1 | refine below_set ?_ GE400.out | refine below_set ?_ GE405.out) | exact HB.out))); (case aF => exact (fun _ _ => trivial)); (case aO => exact (by (with_reducible repeat (first | apply Kd.R_alloc | apply Kd.R_drewN | apply Kd.R_drew)); exact HO_406001.out)); (case aS => exact (below_size (by repeat (first | (with_reducible first | exact HB.out | apply below_alloc | apply pw_below_drewN | apply below_drew1 | refine below_set ?_ GE400.out | refine below_set ?_ GE405.out) | exact HB.out)))); (case aL => have := LMc38.out; omega); intro v424 w43 ho hb hg hat; rw [← Ny423.out] at ho; have n0_ := Aside0.mk (Kd.R_over' (by (with_reducible repeat (first | apply Kd.R_alloc | apply Kd.R_drewN | apply Kd.R_drew)); exact HO_6.out) (Kd.R_typed (by (with_reducible repeat (first | apply Kd.R_alloc | apply Kd.R_drewN | apply Kd.R_drew)); exact HO_406001.out)) (by decide) hg); have n1_ := Aside0.mk (blk_grown (g := gb400) (o := .cells #[.string x401000_1, .slice none 0 0] 24 (0, 0)) (by (with_reducible repeat (first | refine blk_drewN ?_ _ | refine blk_drew ?_ | refine blk_alloc ?_ _)); exact BK400.out) hg (Kd.R_ne HO_406001.out BK400.out (by decide))); have n2_ := Aside0.mk (blk_grown (g := gb405) (o := .cells #[.string (rdOf ByteArray.empty t401 0), u406001] 24 (0, 0)) (by (with_reducible repeat (first | refine blk_drewN ?_ _ | refine blk_drew ?_ | refine blk_alloc ?_ _)); exact BK405.out) hg (Kd.R_ne HO_406001.out BK405.out (by decide))); have n3_ := Aside0.mk (Kd.R_over' (by (with_reducible repeat (first | apply Kd.R_alloc | apply Kd.R_drewN | apply Kd.R_drew)); exact HO416.out) (Kd.R_typed (by (with_reducible repeat (first | apply Kd.R_alloc | apply Kd.R_drewN | apply Kd.R_drew)); exact HO_406001.out)) (by decide) hg); have n4_ := Aside0.mk (hb); have n5_ := Aside0.mk (ho); clear HO_6; clear BK400; clear BK405; clear HO416; clear HB; clear HO_406001; have HO_6 := n0_; have BK400 := n1_; have BK405 := n2_; have HO416 := n3_; have HB := n4_; have HO425 := n5_; clear n0_ n1_ n2_ n3_ n4_ n5_; clear ho hb hg hat; obtain ⟨Ao44, co44, eo44⟩ := Kd.R_slice HO425.out; subst eo44; have hcz45_0 : w43.cell? ⟨gb405, 0, none⟩ = some (.string (rdOf ByteArray.empty t401 0)) := (blk_cell BK405.out 0).trans rfl; have hcz45_1 : w43.cell? ⟨gb405, 1, none⟩ = some (u406001) := (blk_cell BK405.out 1).trans rfl; have hfz45_0 := blk_frozen BK405.out 0; have hfz45_1 := blk_frozen BK405.out 1))
                    go_roundg kj17
                    case measure => have := HK1.out; have := HJ17.out; omega
                    case rel => exact ⟨(wrap64 (x7_1 + 1)), (x401000_1), (y423), (.slice Ao44 y423.length co44), (by first | rfl | (simp; done) | (simp [*]; done)), H', ⟨by have := HK1.out; have := HJ17.out; omega⟩, ⟨by (with_reducible repeat (first | apply Kd.R_alloc | apply Kd.R_drewN | apply Kd.R_drew)); exact Kd.R_mono (Kd.R_far (p := ⟨gb405, 1, none⟩) (Kd.R_types HO_6.out BK405.out (by decide)) (fun _ hk => hk.2) (.slice Ao44 y423.length co44)) (fun _ hk => trivial)⟩, ⟨by (with_reducible repeat (first | apply Kd.R_alloc | apply Kd.R_drewN | apply Kd.R_drew)); exact Kd.R_mono (Kd.R_far (p := ⟨gb405, 1, none⟩) (Kd.R_types HO425.out BK405.out (by decide)) (fun _ hk => hk.2) (.slice Ao44 y423.length co44)) (fun _ hk => trivial)⟩, ⟨by (with_reducible repeat (first | refine blk_drewN ?_ _ | refine blk_drew ?_ | refine blk_alloc ?_ _)); refine blk_far ?_ NB400_405.out _; (with_reducible repeat (first | refine blk_drewN ?_ _ | refine blk_drew ?_ | refine blk_alloc ?_ _)); exact BK400.out⟩, ⟨by (with_reducible repeat (first | refine blk_drewN ?_ _ | refine blk_drew ?_ | refine blk_alloc ?_ _)); refine blk_put (cs := #[.string (rdOf ByteArray.empty t401 0), u406001]) ?_ 1 _ rfl; (with_reducible repeat (first | refine blk_drewN ?_ _ | refine blk_drew ?_ | refine blk_alloc ?_ _)); exact BK405.out⟩, ⟨by repeat (first | (with_reducible first | exact HB.out | apply below_alloc | apply pw_below_drewN | apply below_drew1 | refine below_set ?_ GE400.out | refine below_set ?_ GE405.out) | exact HB.out)⟩⟩
                   ·
                    rw [if_neg c38] at H
                    exact absurd H (by simp)
                  ·
                   replace c37 := Bool.eq_false_iff.mpr c37
                   subst c37
                   have H1 : (some ((⟨#[]⟩ : ByteArray), ([] : List (S42)), 4)) = some (r1, r2, r3) := by rw [if_neg (show ¬ (false = true) by decide)] at H; exact H
                   clear H
                   have H := H1
                   clear H1
                   simp only [Option.some.injEq, Prod.mk.injEq] at H
                   obtain ⟨rfl, rfl, rfl⟩ := H
                   have p413 : 0 ≤ (x7_1 : Int) := of_decide_eq_true (by first | (with_reducible assumption) | assumption)
                   have q413 : x7_1 < (t407.length : Int) := of_decide_eq_true (by first | (with_reducible assumption) | assumption)
                   obtain ⟨ad413, e413, hx413_0⟩ := Kd.at_string (Kd.R_reads' HO_6.out).2.2 x7_1 p413 q413
                   cases e413
                   replace p413 := eq_true p413
                   replace q413 := eq_true q413
                   go_wp2_with (first | ((with_reducible refine gate_callee (f := 32) rfl ?_); refine goesL_ (some 57) rfl rfl Tryd.func32 (by kernel_rfl) rfl #[.string ((rdOf ByteArray.empty t407 x7_1).extract 1 (rdOf ByteArray.empty t407 x7_1).size), .int .u8 64] rfl (by (try simp only [List.map_toArray, List.map_cons, List.map_nil]); first | done | rfl | (simp only [List.length_drop, List.length_take]; rfl)) ?_; (with_reducible refine (culetref44_Parts.calls kj17 ((rdOf ByteArray.empty t407 x7_1).extract 1 (rdOf ByteArray.empty t407 x7_1).size) 64 t414 _ A30.out).mono ?_); rintro e w46 ⟨v415, rfl, ho0, hb⟩; refine ⟨_, rfl, ?_⟩; have n0_ := Aside0.mk (Kd.R_elder' (by (with_reducible repeat (first | apply Kd.R_alloc | apply Kd.R_drewN | apply Kd.R_drew)); exact HO_6.out) (Kd.R_base ho0) hb); have n1_ := Aside0.mk (Kd.R_below (by (with_reducible repeat (first | apply Kd.R_alloc | apply Kd.R_drewN | apply Kd.R_drew)); exact HO_406001.out) hb); have n2_ := Aside0.mk (Kd.R_lower (Kd.R_new' ho0 (Kd.R_lt (by (with_reducible repeat (first | apply Kd.R_alloc | apply Kd.R_drewN | apply Kd.R_drew)); exact HO_6.out))) (below_size (by repeat (first | (with_reducible first | exact HB.out | apply below_alloc | apply pw_below_drewN | apply below_drew1 | refine below_set ?_ GE400.out | refine below_set ?_ GE405.out) | exact HB.out)))); have n3_ := Aside0.mk (blk_below (g := gb400) (o := .cells #[.string x401000_1, .slice none 0 0] 24 (0, 0)) (by (with_reducible repeat (first | refine blk_drewN ?_ _ | refine blk_drew ?_ | refine blk_alloc ?_ _)); exact BK400.out) hb); have n4_ := Aside0.mk (blk_below (g := gb405) (o := .cells #[.string (rdOf ByteArray.empty t401 0), u406001] 24 (0, 0)) (by (with_reducible repeat (first | refine blk_drewN ?_ _ | refine blk_drew ?_ | refine blk_alloc ?_ _)); exact BK405.out) hb); have n5_ := Aside0.mk (below_step (by repeat (first | (with_reducible first | exact HB.out | apply below_alloc | apply pw_below_drewN | apply below_drew1 | refine below_set ?_ GE400.out | refine below_set ?_ GE405.out) | exact HB.out)) hb); clear HO_6; clear HO_406001; clear BK400; clear BK405; clear HB; have HO_6 := n0_; have HO_406001 := n1_; have HO416 := n2_; have BK400 := n3_; have BK405 := n4_; have HB := n5_; clear n0_ n1_ n2_ n3_ n4_ n5_; (try clear hb); (try clear hb2); (try clear hk); (try clear hi); (try clear ho0); obtain ⟨Ao47, co47, eo47⟩ := Kd.R_slice HO416.out; subst eo47; have p417 : 0 ≤ (0 : Int) := (by omega); have q417 : 0 < (t414.length : Int) := of_decide_eq_true (by first | (with_reducible assumption) | assumption); obtain ⟨ad417, e417, hx417_0⟩ := Kd.at_string (Kd.R_reads' HO416.out).2.2 0 p417 q417; cases e417; have qi417 : (0 < t414.length) = True := eq_true (by omega); (try rw [show ((0 : Int)).toNat = 0 from rfl] at hx417_0); (try rw [Addr.add_zero'] at hx417_0); replace p417 := eq_true p417; replace q417 := eq_true q417) | ((with_reducible refine gate_callee (f := 33) rfl ?_); refine goesL_ (some 66) rfl rfl Tryd.func33 (by kernel_rfl) rfl #[.string (rdOf ByteArray.empty t414 0)] rfl (by (try simp only [List.map_toArray, List.map_cons, List.map_nil]); first | done | rfl | (simp only [List.length_drop, List.length_take]; rfl)) ?_; (with_reducible refine (culetref44_Number.calls kj17 (rdOf ByteArray.empty t414 0) t418 true _ A33.out).mono ?_); rintro e w' ⟨rfl, ⟨nd, rfl⟩⟩; refine ⟨_, rfl, ?_⟩; (try (rw [drewN_self w46]; generalize hq_ : World.drewN w46 _ = w46; have n0_ : Aside0 (Kd.R Kd.string 9 w46 w.heap.size (fun k_ => some k_ ≠ (.slice (some ad413) t407.length co19 : Value).ownBlock) (.slice (some ad417) t414.length co47) t414) := ⟨by rw [← hq_]; exact (by (with_reducible repeat (first | apply Kd.R_alloc | apply Kd.R_drewN | apply Kd.R_drew)); exact Kd.R_mono HO416.out (fun _ hk => hk.2))⟩; have n1_ : Aside0 (Kd.R k42 42 w46 w.heap.size (fun _ => True) u406001 x406001_1) := ⟨by rw [← hq_]; exact (by (with_reducible repeat (first | apply Kd.R_alloc | apply Kd.R_drewN | apply Kd.R_drew)); exact HO_406001.out)⟩; have n2_ : Aside0 (Kd.R Kd.string 9 w46 w.heap.size (fun k_ => some k_ ≠ (.slice (some ad417) t414.length co47 : Value).ownBlock) (.slice (some ad413) t407.length co19) t407) := ⟨by rw [← hq_]; exact (by (with_reducible repeat (first | apply Kd.R_alloc | apply Kd.R_drewN | apply Kd.R_drew)); exact Kd.R_mono HO_6.out (fun _ hk => hk.2))⟩; have n3_ : Aside0 (w46.heap[gb400]? = some (.cells #[.string x401000_1, .slice none 0 0] 24 (0, 0))) := ⟨by rw [← hq_]; exact (by (with_reducible repeat (first | refine blk_drewN ?_ _ | refine blk_drew ?_ | refine blk_alloc ?_ _)); exact BK400.out)⟩; have n4_ : Aside0 (w46.heap[gb405]? = some (.cells #[.string (rdOf ByteArray.empty t401 0), u406001] 24 (0, 0))) := ⟨by rw [← hq_]; exact (by (with_reducible repeat (first | refine blk_drewN ?_ _ | refine blk_drew ?_ | refine blk_alloc ?_ _)); exact BK405.out)⟩; have n5_ : Aside0 (Below w.heap.size w w46) := ⟨by rw [← hq_]; exact (by repeat (first | (with_reducible first | exact HB.out | apply below_alloc | apply pw_below_drewN | apply below_drew1 | refine below_set ?_ GE400.out | refine below_set ?_ GE405.out) | exact HB.out))⟩; clear HO416 HO_406001 HO_6 BK400 BK405 HB hq_; have HO416 := n0_; have HO_406001 := n1_; have HO_6 := n2_; have BK400 := n3_; have BK405 := n4_; have HB := n5_; clear n0_ n1_ n2_ n3_ n4_ n5_)); have p420 : 0 ≤ (1 : Int) := (by omega); have q420 : 1 < (t414.length : Int) := of_decide_eq_true (by first | (with_reducible assumption) | assumption); obtain ⟨ad420, e420, hx420_0⟩ := Kd.at_string (Kd.R_reads' HO416.out).2.2 1 p420 q420; obtain rfl : ad417 = ad420 := (by injection e420); (try simp only [show (1 : Int).toNat = 1 from rfl, Nat.reduceMul, Nat.reduceEqDiff, Go.Addr.add, ↓reduceIte] at hx420_0); have qi420 : (1 < t414.length) = True := eq_true (by omega); (try rw [show ((1 : Int)).toNat = 1 from rfl] at hx420_0); replace p420 := eq_true p420; replace q420 := eq_true q420) | ((with_reducible refine gate_callee (f := 33) rfl ?_); refine goesL_ (some 73) rfl rfl Tryd.func33 (by kernel_rfl) rfl #[.string (rdOf ByteArray.empty t414 1)] rfl (by (try simp only [List.map_toArray, List.map_cons, List.map_nil]); first | done | rfl | (simp only [List.length_drop, List.length_take]; rfl)) ?_; (with_reducible refine (culetref44_Number.calls kj17 (rdOf ByteArray.empty t414 1) t421 false _ A35.out).mono ?_); rintro e w' ⟨rfl, ⟨nd, rfl⟩⟩; refine ⟨_, rfl, ?_⟩; (try (rw [drewN_self w46]; generalize hq_ : World.drewN w46 _ = w46; have n0_ : Aside0 (Kd.R Kd.string 9 w46 w.heap.size (fun k_ => some k_ ≠ (.slice (some ad413) t407.length co19 : Value).ownBlock) (.slice (some ad417) t414.length co47) t414) := ⟨by rw [← hq_]; exact (by (with_reducible repeat (first | apply Kd.R_alloc | apply Kd.R_drewN | apply Kd.R_drew)); exact Kd.R_mono HO416.out (fun _ hk => hk.2))⟩; have n1_ : Aside0 (Kd.R k42 42 w46 w.heap.size (fun _ => True) u406001 x406001_1) := ⟨by rw [← hq_]; exact (by (with_reducible repeat (first | apply Kd.R_alloc | apply Kd.R_drewN | apply Kd.R_drew)); exact HO_406001.out)⟩; have n2_ : Aside0 (Kd.R Kd.string 9 w46 w.heap.size (fun k_ => some k_ ≠ (.slice (some ad417) t414.length co47 : Value).ownBlock) (.slice (some ad413) t407.length co19) t407) := ⟨by rw [← hq_]; exact (by (with_reducible repeat (first | apply Kd.R_alloc | apply Kd.R_drewN | apply Kd.R_drew)); exact Kd.R_mono HO_6.out (fun _ hk => hk.2))⟩; have n3_ : Aside0 (w46.heap[gb400]? = some (.cells #[.string x401000_1, .slice none 0 0] 24 (0, 0))) := ⟨by rw [← hq_]; exact (by (with_reducible repeat (first | refine blk_drewN ?_ _ | refine blk_drew ?_ | refine blk_alloc ?_ _)); exact BK400.out)⟩; have n4_ : Aside0 (w46.heap[gb405]? = some (.cells #[.string (rdOf ByteArray.empty t401 0), u406001] 24 (0, 0))) := ⟨by rw [← hq_]; exact (by (with_reducible repeat (first | refine blk_drewN ?_ _ | refine blk_drew ?_ | refine blk_alloc ?_ _)); exact BK405.out)⟩; have n5_ : Aside0 (Below w.heap.size w w46) := ⟨by rw [← hq_]; exact (by repeat (first | (with_reducible first | exact HB.out | apply below_alloc | apply pw_below_drewN | apply below_drew1 | refine below_set ?_ GE400.out | refine below_set ?_ GE405.out) | exact HB.out))⟩; clear HO416 HO_406001 HO_6 BK400 BK405 HB hq_; have HO416 := n0_; have HO_406001 := n1_; have HO_6 := n2_; have BK400 := n3_; have BK405 := n4_; have HB := n5_; clear n0_ n1_ n2_ n3_ n4_ n5_)); have hnb48 := NB400_405.out; have hnc48 := NB405_400.out; have hcz49_0 : w46.cell? ⟨gb400, 0, none⟩ = some (.string x401000_1) := (blk_cell BK400.out 0).trans rfl; have hcz49_1 : w46.cell? ⟨gb400, 1, none⟩ = some (.slice none 0 0) := (blk_cell BK400.out 1).trans rfl; have hfz49_0 := blk_frozen BK400.out 0; have hfz49_1 := blk_frozen BK400.out 1))
                   refine bodyPost_ret (results_ct rfl _ _ gb400 24 #[.string (⟨#[]⟩ : ByteArray), .slice none 0 0] (0, 0) _ rfl (by (with_reducible repeat (first | refine blk_drewN ?_ _ | refine blk_drew ?_ | refine blk_alloc ?_ _)); refine blk_put (cs := #[.string (⟨#[]⟩ : ByteArray), .slice none 0 0]) ?_ 1 _ rfl; (with_reducible repeat (first | refine blk_drewN ?_ _ | refine blk_drew ?_ | refine blk_alloc ?_ _)); refine blk_put (cs := #[.string x401000_1, .slice none 0 0]) ?_ 0 _ rfl; (with_reducible repeat (first | refine blk_drewN ?_ _ | refine blk_drew ?_ | refine blk_alloc ?_ _)); exact BK400.out) Tryd.underlying24 rfl (by kernel_rfl)) rfl ?_
                   exact ⟨_, by first | rfl | (simp [errW_none, errW_some] <;> rfl) | (simp [*, errW_none, errW_some] <;> rfl), by first | exact Kd.R_nil _ _ _ _ _ | exact Kd.N_nil _ _ _ _ _ | exact Kd.V_nil _ _ _ _ _ | exact Kd.Q_nil _ _ _ _ _ | exact Kd.S_nil _ _ _ _ _, by repeat (first | (with_reducible first | exact HB.out | apply below_alloc | apply pw_below_drewN | apply below_drew1 | refine below_set ?_ GE400.out | refine below_set ?_ GE405.out) | exact HB.out)⟩
                 ·
                  replace c36 := Bool.eq_false_iff.mpr c36
                  subst c36
                  have H1 : (some ((⟨#[]⟩ : ByteArray), ([] : List (S42)), 4)) = some (r1, r2, r3) := by rw [if_neg (show ¬ (false = true) by decide)] at H; exact H
                  clear H
                  have H := H1
                  clear H1
                  simp only [Option.some.injEq, Prod.mk.injEq] at H
                  obtain ⟨rfl, rfl, rfl⟩ := H
                  have p413 : 0 ≤ (x7_1 : Int) := of_decide_eq_true (by first | (with_reducible assumption) | assumption)
                  have q413 : x7_1 < (t407.length : Int) := of_decide_eq_true (by first | (with_reducible assumption) | assumption)
                  obtain ⟨ad413, e413, hx413_0⟩ := Kd.at_string (Kd.R_reads' HO_6.out).2.2 x7_1 p413 q413
                  cases e413
                  replace p413 := eq_true p413
                  replace q413 := eq_true q413
                  go_wp2_with (first | ((with_reducible refine gate_callee (f := 32) rfl ?_); refine goesL_ (some 57) rfl rfl Tryd.func32 (by kernel_rfl) rfl #[.string ((rdOf ByteArray.empty t407 x7_1).extract 1 (rdOf ByteArray.empty t407 x7_1).size), .int .u8 64] rfl (by (try simp only [List.map_toArray, List.map_cons, List.map_nil]); first | done | rfl | (simp only [List.length_drop, List.length_take]; rfl)) ?_; (with_reducible refine (culetref44_Parts.calls kj17 ((rdOf ByteArray.empty t407 x7_1).extract 1 (rdOf ByteArray.empty t407 x7_1).size) 64 t414 _ A30.out).mono ?_); rintro e w50 ⟨v415, rfl, ho0, hb⟩; refine ⟨_, rfl, ?_⟩; have n0_ := Aside0.mk (Kd.R_elder' (by (with_reducible repeat (first | apply Kd.R_alloc | apply Kd.R_drewN | apply Kd.R_drew)); exact HO_6.out) (Kd.R_base ho0) hb); have n1_ := Aside0.mk (Kd.R_below (by (with_reducible repeat (first | apply Kd.R_alloc | apply Kd.R_drewN | apply Kd.R_drew)); exact HO_406001.out) hb); have n2_ := Aside0.mk (Kd.R_lower (Kd.R_new' ho0 (Kd.R_lt (by (with_reducible repeat (first | apply Kd.R_alloc | apply Kd.R_drewN | apply Kd.R_drew)); exact HO_6.out))) (below_size (by repeat (first | (with_reducible first | exact HB.out | apply below_alloc | apply pw_below_drewN | apply below_drew1 | refine below_set ?_ GE400.out | refine below_set ?_ GE405.out) | exact HB.out)))); have n3_ := Aside0.mk (blk_below (g := gb400) (o := .cells #[.string x401000_1, .slice none 0 0] 24 (0, 0)) (by (with_reducible repeat (first | refine blk_drewN ?_ _ | refine blk_drew ?_ | refine blk_alloc ?_ _)); exact BK400.out) hb); have n4_ := Aside0.mk (blk_below (g := gb405) (o := .cells #[.string (rdOf ByteArray.empty t401 0), u406001] 24 (0, 0)) (by (with_reducible repeat (first | refine blk_drewN ?_ _ | refine blk_drew ?_ | refine blk_alloc ?_ _)); exact BK405.out) hb); have n5_ := Aside0.mk (below_step (by repeat (first | (with_reducible first | exact HB.out | apply below_alloc | apply pw_below_drewN | apply below_drew1 | refine below_set ?_ GE400.out | refine below_set ?_ GE405.out) | exact HB.out)) hb); clear HO_6; clear HO_406001; clear BK400; clear BK405; clear HB; have HO_6 := n0_; have HO_406001 := n1_; have HO416 := n2_; have BK400 := n3_; have BK405 := n4_; have HB := n5_; clear n0_ n1_ n2_ n3_ n4_ n5_; (try clear hb); (try clear hb2); (try clear hk); (try clear hi); (try clear ho0); obtain ⟨Ao51, co51, eo51⟩ := Kd.R_slice HO416.out; subst eo51; have p417 : 0 ≤ (0 : Int) := (by omega); have q417 : 0 < (t414.length : Int) := of_decide_eq_true (by first | (with_reducible assumption) | assumption); obtain ⟨ad417, e417, hx417_0⟩ := Kd.at_string (Kd.R_reads' HO416.out).2.2 0 p417 q417; cases e417; have qi417 : (0 < t414.length) = True := eq_true (by omega); (try rw [show ((0 : Int)).toNat = 0 from rfl] at hx417_0); (try rw [Addr.add_zero'] at hx417_0); replace p417 := eq_true p417; replace q417 := eq_true q417) | ((with_reducible refine gate_callee (f := 33) rfl ?_); refine goesL_ (some 66) rfl rfl Tryd.func33 (by kernel_rfl) rfl #[.string (rdOf ByteArray.empty t414 0)] rfl (by (try simp only [List.map_toArray, List.map_cons, List.map_nil]); first | done | rfl | (simp only [List.length_drop, List.length_take]; rfl)) ?_; (with_reducible refine (culetref44_Number.calls kj17 (rdOf ByteArray.empty t414 0) t418 false _ A33.out).mono ?_); rintro e w' ⟨rfl, ⟨nd, rfl⟩⟩; refine ⟨_, rfl, ?_⟩; (try (rw [drewN_self w50]; generalize hq_ : World.drewN w50 _ = w50; have n0_ : Aside0 (Kd.R Kd.string 9 w50 w.heap.size (fun k_ => some k_ ≠ (.slice (some ad413) t407.length co19 : Value).ownBlock) (.slice (some ad417) t414.length co51) t414) := ⟨by rw [← hq_]; exact (by (with_reducible repeat (first | apply Kd.R_alloc | apply Kd.R_drewN | apply Kd.R_drew)); exact Kd.R_mono HO416.out (fun _ hk => hk.2))⟩; have n1_ : Aside0 (Kd.R k42 42 w50 w.heap.size (fun _ => True) u406001 x406001_1) := ⟨by rw [← hq_]; exact (by (with_reducible repeat (first | apply Kd.R_alloc | apply Kd.R_drewN | apply Kd.R_drew)); exact HO_406001.out)⟩; have n2_ : Aside0 (Kd.R Kd.string 9 w50 w.heap.size (fun k_ => some k_ ≠ (.slice (some ad417) t414.length co51 : Value).ownBlock) (.slice (some ad413) t407.length co19) t407) := ⟨by rw [← hq_]; exact (by (with_reducible repeat (first | apply Kd.R_alloc | apply Kd.R_drewN | apply Kd.R_drew)); exact Kd.R_mono HO_6.out (fun _ hk => hk.2))⟩; have n3_ : Aside0 (w50.heap[gb400]? = some (.cells #[.string x401000_1, .slice none 0 0] 24 (0, 0))) := ⟨by rw [← hq_]; exact (by (with_reducible repeat (first | refine blk_drewN ?_ _ | refine blk_drew ?_ | refine blk_alloc ?_ _)); exact BK400.out)⟩; have n4_ : Aside0 (w50.heap[gb405]? = some (.cells #[.string (rdOf ByteArray.empty t401 0), u406001] 24 (0, 0))) := ⟨by rw [← hq_]; exact (by (with_reducible repeat (first | refine blk_drewN ?_ _ | refine blk_drew ?_ | refine blk_alloc ?_ _)); exact BK405.out)⟩; have n5_ : Aside0 (Below w.heap.size w w50) := ⟨by rw [← hq_]; exact (by repeat (first | (with_reducible first | exact HB.out | apply below_alloc | apply pw_below_drewN | apply below_drew1 | refine below_set ?_ GE400.out | refine below_set ?_ GE405.out) | exact HB.out))⟩; clear HO416 HO_406001 HO_6 BK400 BK405 HB hq_; have HO416 := n0_; have HO_406001 := n1_; have HO_6 := n2_; have BK400 := n3_; have BK405 := n4_; have HB := n5_; clear n0_ n1_ n2_ n3_ n4_ n5_)); have p420 : 0 ≤ (1 : Int) := (by omega); have q420 : 1 < (t414.length : Int) := of_decide_eq_true (by first | (with_reducible assumption) | assumption); obtain ⟨ad420, e420, hx420_0⟩ := Kd.at_string (Kd.R_reads' HO416.out).2.2 1 p420 q420; obtain rfl : ad417 = ad420 := (by injection e420); (try simp only [show (1 : Int).toNat = 1 from rfl, Nat.reduceMul, Nat.reduceEqDiff, Go.Addr.add, ↓reduceIte] at hx420_0); have qi420 : (1 < t414.length) = True := eq_true (by omega); (try rw [show ((1 : Int)).toNat = 1 from rfl] at hx420_0); replace p420 := eq_true p420; replace q420 := eq_true q420) | ((with_reducible refine gate_callee (f := 33) rfl ?_); refine goesL_ (some 73) rfl rfl Tryd.func33 (by kernel_rfl) rfl #[.string (rdOf ByteArray.empty t414 1)] rfl (by (try simp only [List.map_toArray, List.map_cons, List.map_nil]); first | done | rfl | (simp only [List.length_drop, List.length_take]; rfl)) ?_; (with_reducible refine (culetref44_Number.calls kj17 (rdOf ByteArray.empty t414 1) t421 t422 _ A35.out).mono ?_); rintro e w' ⟨rfl, ⟨nd, rfl⟩⟩; refine ⟨_, rfl, ?_⟩; (try (rw [drewN_self w50]; generalize hq_ : World.drewN w50 _ = w50; have n0_ : Aside0 (Kd.R Kd.string 9 w50 w.heap.size (fun k_ => some k_ ≠ (.slice (some ad413) t407.length co19 : Value).ownBlock) (.slice (some ad417) t414.length co51) t414) := ⟨by rw [← hq_]; exact (by (with_reducible repeat (first | apply Kd.R_alloc | apply Kd.R_drewN | apply Kd.R_drew)); exact Kd.R_mono HO416.out (fun _ hk => hk.2))⟩; have n1_ : Aside0 (Kd.R k42 42 w50 w.heap.size (fun _ => True) u406001 x406001_1) := ⟨by rw [← hq_]; exact (by (with_reducible repeat (first | apply Kd.R_alloc | apply Kd.R_drewN | apply Kd.R_drew)); exact HO_406001.out)⟩; have n2_ : Aside0 (Kd.R Kd.string 9 w50 w.heap.size (fun k_ => some k_ ≠ (.slice (some ad417) t414.length co51 : Value).ownBlock) (.slice (some ad413) t407.length co19) t407) := ⟨by rw [← hq_]; exact (by (with_reducible repeat (first | apply Kd.R_alloc | apply Kd.R_drewN | apply Kd.R_drew)); exact Kd.R_mono HO_6.out (fun _ hk => hk.2))⟩; have n3_ : Aside0 (w50.heap[gb400]? = some (.cells #[.string x401000_1, .slice none 0 0] 24 (0, 0))) := ⟨by rw [← hq_]; exact (by (with_reducible repeat (first | refine blk_drewN ?_ _ | refine blk_drew ?_ | refine blk_alloc ?_ _)); exact BK400.out)⟩; have n4_ : Aside0 (w50.heap[gb405]? = some (.cells #[.string (rdOf ByteArray.empty t401 0), u406001] 24 (0, 0))) := ⟨by rw [← hq_]; exact (by (with_reducible repeat (first | refine blk_drewN ?_ _ | refine blk_drew ?_ | refine blk_alloc ?_ _)); exact BK405.out)⟩; have n5_ : Aside0 (Below w.heap.size w w50) := ⟨by rw [← hq_]; exact (by repeat (first | (with_reducible first | exact HB.out | apply below_alloc | apply pw_below_drewN | apply below_drew1 | refine below_set ?_ GE400.out | refine below_set ?_ GE405.out) | exact HB.out))⟩; clear HO416 HO_406001 HO_6 BK400 BK405 HB hq_; have HO416 := n0_; have HO_406001 := n1_; have HO_6 := n2_; have BK400 := n3_; have BK405 := n4_; have HB := n5_; clear n0_ n1_ n2_ n3_ n4_ n5_)); have hnb52 := NB400_405.out; have hnc52 := NB405_400.out; have hcz53_0 : w50.cell? ⟨gb400, 0, none⟩ = some (.string x401000_1) := (blk_cell BK400.out 0).trans rfl; have hcz53_1 : w50.cell? ⟨gb400, 1, none⟩ = some (.slice none 0 0) := (blk_cell BK400.out 1).trans rfl; have hfz53_0 := blk_frozen BK400.out 0; have hfz53_1 := blk_frozen BK400.out 1))
                  refine bodyPost_ret (results_ct rfl _ _ gb400 24 #[.string (⟨#[]⟩ : ByteArray), .slice none 0 0] (0, 0) _ rfl (by (with_reducible repeat (first | refine blk_drewN ?_ _ | refine blk_drew ?_ | refine blk_alloc ?_ _)); refine blk_put (cs := #[.string (⟨#[]⟩ : ByteArray), .slice none 0 0]) ?_ 1 _ rfl; (with_reducible repeat (first | refine blk_drewN ?_ _ | refine blk_drew ?_ | refine blk_alloc ?_ _)); refine blk_put (cs := #[.string x401000_1, .slice none 0 0]) ?_ 0 _ rfl; (with_reducible repeat (first | refine blk_drewN ?_ _ | refine blk_drew ?_ | refine blk_alloc ?_ _)); exact BK400.out) Tryd.underlying24 rfl (by kernel_rfl)) rfl ?_
                  exact ⟨_, by first | rfl | (simp [errW_none, errW_some] <;> rfl) | (simp [*, errW_none, errW_some] <;> rfl), by first | exact Kd.R_nil _ _ _ _ _ | exact Kd.N_nil _ _ _ _ _ | exact Kd.V_nil _ _ _ _ _ | exact Kd.Q_nil _ _ _ _ _ | exact Kd.S_nil _ _ _ _ _, by repeat (first | (with_reducible first | exact HB.out | apply below_alloc | apply pw_below_drewN | apply below_drew1 | refine below_set ?_ GE400.out | refine below_set ?_ GE405.out) | exact HB.out)⟩
                ·
                 rw [if_neg c34] at H
                 exact absurd H (by simp)
               ·
                rw [if_neg c32] at H
                exact absurd H (by simp)
              ·
               rw [if_neg c31] at H
               have c31b0 : ((t414.length : Int) == 2) = false := beq_eq_false_iff_ne.mpr c31
               have c31b1 : ((t414.length : Int) != 2) = true := bne_iff_ne.mpr c31
               simp only [Option.some.injEq, Prod.mk.injEq] at H
               obtain ⟨rfl, rfl, rfl⟩ := H
               have p413 : 0 ≤ (x7_1 : Int) := of_decide_eq_true (by first | (with_reducible assumption) | assumption)
               have q413 : x7_1 < (t407.length : Int) := of_decide_eq_true (by first | (with_reducible assumption) | assumption)
               obtain ⟨ad413, e413, hx413_0⟩ := Kd.at_string (Kd.R_reads' HO_6.out).2.2 x7_1 p413 q413
               cases e413
               replace p413 := eq_true p413
               replace q413 := eq_true q413
               go_wp2_with (first | ((with_reducible refine gate_callee (f := 32) rfl ?_); refine goesL_ (some 57) rfl rfl Tryd.func32 (by kernel_rfl) rfl #[.string ((rdOf ByteArray.empty t407 x7_1).extract 1 (rdOf ByteArray.empty t407 x7_1).size), .int .u8 64] rfl (by (try simp only [List.map_toArray, List.map_cons, List.map_nil]); first | done | rfl | (simp only [List.length_drop, List.length_take]; rfl)) ?_; (with_reducible refine (culetref44_Parts.calls kj17 ((rdOf ByteArray.empty t407 x7_1).extract 1 (rdOf ByteArray.empty t407 x7_1).size) 64 t414 _ A30.out).mono ?_); rintro e w54 ⟨v415, rfl, ho0, hb⟩; refine ⟨_, rfl, ?_⟩; have n0_ := Aside0.mk (Kd.R_elder' (by (with_reducible repeat (first | apply Kd.R_alloc | apply Kd.R_drewN | apply Kd.R_drew)); exact HO_6.out) (Kd.R_base ho0) hb); have n1_ := Aside0.mk (Kd.R_below (by (with_reducible repeat (first | apply Kd.R_alloc | apply Kd.R_drewN | apply Kd.R_drew)); exact HO_406001.out) hb); have n2_ := Aside0.mk (Kd.R_lower (Kd.R_new' ho0 (Kd.R_lt (by (with_reducible repeat (first | apply Kd.R_alloc | apply Kd.R_drewN | apply Kd.R_drew)); exact HO_6.out))) (below_size (by repeat (first | (with_reducible first | exact HB.out | apply below_alloc | apply pw_below_drewN | apply below_drew1 | refine below_set ?_ GE400.out | refine below_set ?_ GE405.out) | exact HB.out)))); have n3_ := Aside0.mk (blk_below (g := gb400) (o := .cells #[.string x401000_1, .slice none 0 0] 24 (0, 0)) (by (with_reducible repeat (first | refine blk_drewN ?_ _ | refine blk_drew ?_ | refine blk_alloc ?_ _)); exact BK400.out) hb); have n4_ := Aside0.mk (blk_below (g := gb405) (o := .cells #[.string (rdOf ByteArray.empty t401 0), u406001] 24 (0, 0)) (by (with_reducible repeat (first | refine blk_drewN ?_ _ | refine blk_drew ?_ | refine blk_alloc ?_ _)); exact BK405.out) hb); have n5_ := Aside0.mk (below_step (by repeat (first | (with_reducible first | exact HB.out | apply below_alloc | apply pw_below_drewN | apply below_drew1 | refine below_set ?_ GE400.out | refine below_set ?_ GE405.out) | exact HB.out)) hb); clear HO_6; clear HO_406001; clear BK400; clear BK405; clear HB; have HO_6 := n0_; have HO_406001 := n1_; have HO416 := n2_; have BK400 := n3_; have BK405 := n4_; have HB := n5_; clear n0_ n1_ n2_ n3_ n4_ n5_; (try clear hb); (try clear hb2); (try clear hk); (try clear hi); (try clear ho0); obtain ⟨Ao55, co55, eo55⟩ := Kd.R_slice HO416.out; subst eo55; have hnb56 := NB400_405.out; have hnc56 := NB405_400.out; have hcz57_0 : w54.cell? ⟨gb400, 0, none⟩ = some (.string x401000_1) := (blk_cell BK400.out 0).trans rfl; have hcz57_1 : w54.cell? ⟨gb400, 1, none⟩ = some (.slice none 0 0) := (blk_cell BK400.out 1).trans rfl; have hfz57_0 := blk_frozen BK400.out 0; have hfz57_1 := blk_frozen BK400.out 1))
               refine bodyPost_ret (results_ct rfl _ _ gb400 24 #[.string (⟨#[]⟩ : ByteArray), .slice none 0 0] (0, 0) _ rfl (by (with_reducible repeat (first | refine blk_drewN ?_ _ | refine blk_drew ?_ | refine blk_alloc ?_ _)); refine blk_put (cs := #[.string (⟨#[]⟩ : ByteArray), .slice none 0 0]) ?_ 1 _ rfl; (with_reducible repeat (first | refine blk_drewN ?_ _ | refine blk_drew ?_ | refine blk_alloc ?_ _)); refine blk_put (cs := #[.string x401000_1, .slice none 0 0]) ?_ 0 _ rfl; (with_reducible repeat (first | refine blk_drewN ?_ _ | refine blk_drew ?_ | refine blk_alloc ?_ _)); exact BK400.out) Tryd.underlying24 rfl (by kernel_rfl)) rfl ?_
               exact ⟨_, by first | rfl | (simp [errW_none, errW_some] <;> rfl) | (simp [*, errW_none, errW_some] <;> rfl), by first | exact Kd.R_nil _ _ _ _ _ | exact Kd.N_nil _ _ _ _ _ | exact Kd.V_nil _ _ _ _ _ | exact Kd.Q_nil _ _ _ _ _ | exact Kd.S_nil _ _ _ _ _, by repeat (first | (with_reducible first | exact HB.out | apply below_alloc | apply pw_below_drewN | apply below_drew1 | refine below_set ?_ GE400.out | refine below_set ?_ GE405.out) | exact HB.out)⟩
             ·
              rw [if_neg c29] at H
              exact absurd H (by simp)
            ·
             rw [if_neg c28] at H
             exact absurd H (by simp)
           ·
            rw [if_neg c27] at H
            exact absurd H (by simp)
       ·
        rw [if_neg c17] at H
        have c17b0 : decide (x7_1 < (t407.length : Int)) = false := decide_eq_false c17
        clear c17
        replace H := Option.bind_eq_some_iff.mp H
        obtain ⟨t410, A580, H⟩ := H
        replace H : (if t410 = true then (some ((rdOf ByteArray.empty t401 0), x406001_1, 0)) else (some ((⟨#[]⟩ : ByteArray), ([] : List (S42)), 4))) = some (r1, r2, r3) := H
        have A58 := Aside0.mk A580
        clear A580
        by_cases c59 : t410 = true
        ·
         subst c59
         have H1 : (some ((rdOf ByteArray.empty t401 0), x406001_1, 0)) = some (r1, r2, r3) := by rw [if_pos rfl] at H; exact H
         clear H
         have H := H1
         clear H1
         simp only [Option.some.injEq, Prod.mk.injEq] at H
         obtain ⟨rfl, rfl, rfl⟩ := H
         obtain ⟨Ao60, co60, eo60⟩ := Kd.R_slice HO_6.out
         subst eo60
         have hnb61 := NB405_400.out
         have hnc61 := NB400_405.out
         have hcz62_0 : wr.cell? ⟨gb405, 0, none⟩ = some (.string (rdOf ByteArray.empty t401 0)) := (blk_cell BK405.out 0).trans rfl
         have hcz62_1 : wr.cell? ⟨gb405, 1, none⟩ = some (u406001) := (blk_cell BK405.out 1).trans rfl
         have hfz62_0 := blk_frozen BK405.out 0
         have hfz62_1 := blk_frozen BK405.out 1
         obtain ⟨Ao63, co63, eo63⟩ := Kd.R_slice HO_406001.out
         subst eo63
         go_wp2_with (first | ((with_reducible refine gate_callee (f := 17) rfl ?_); refine goesL_ (some 92) rfl rfl Tryd.func17 (by kernel_rfl) rfl #[.agg #[.string (rdOf ByteArray.empty t401 0), .slice Ao63 x406001_1.length co63]] rfl (by (try simp only [List.map_toArray, List.map_cons, List.map_nil]); first | done | rfl | (simp only [List.length_drop, List.length_take]; rfl)) ?_; (with_reducible refine (culetref44_Valid.calls k1 (rdOf ByteArray.empty t401 0) _ _ x406001_1 true _ ?side1 ?side2 A58.out).mono ?_); (case side1 => repeat (first | exact (Kd.R_reads' HO_406001.out).2.2 | (with_reducible refine Kd.C_alloc ?_ _) | (with_reducible refine Kd.C_drewN ?_ _) | (with_reducible refine Kd.C_drew ?_))); (case side2 => exact (Kd.R_reads' HO_406001.out).2.1); rintro e w64 ⟨rfl, hb⟩; refine ⟨_, rfl, ?_⟩; have n0_ := Aside0.mk (Kd.R_below (by (with_reducible repeat (first | apply Kd.R_alloc | apply Kd.R_drewN | apply Kd.R_drew)); exact HO_6.out) hb); have n1_ := Aside0.mk (Kd.R_below (by (with_reducible repeat (first | apply Kd.R_alloc | apply Kd.R_drewN | apply Kd.R_drew)); exact HO_406001.out) hb); have n2_ := Aside0.mk (blk_below (g := gb400) (o := .cells #[.string x401000_1, .slice none 0 0] 24 (0, 0)) (by (with_reducible repeat (first | refine blk_drewN ?_ _ | refine blk_drew ?_ | refine blk_alloc ?_ _)); exact BK400.out) hb); have n3_ := Aside0.mk (blk_below (g := gb405) (o := .cells #[.string (rdOf ByteArray.empty t401 0), .slice Ao63 x406001_1.length co63] 24 (0, 0)) (by (with_reducible repeat (first | refine blk_drewN ?_ _ | refine blk_drew ?_ | refine blk_alloc ?_ _)); exact BK405.out) hb); have n4_ := Aside0.mk (below_step (by repeat (first | (with_reducible first | exact HB.out | apply below_alloc | apply pw_below_drewN | apply below_drew1 | refine below_set ?_ GE400.out | refine below_set ?_ GE405.out) | exact HB.out)) hb); clear HO_6; clear HO_406001; clear BK400; clear BK405; clear HB; have HO_6 := n0_; have HO_406001 := n1_; have BK400 := n2_; have BK405 := n3_; have HB := n4_; clear n0_ n1_ n2_ n3_ n4_; (try clear hb); (try clear hb2); (try clear hk); (try clear hi); have hcz65_0 : w64.cell? ⟨gb405, 0, none⟩ = some (.string (rdOf ByteArray.empty t401 0)) := (blk_cell BK405.out 0).trans rfl; have hcz65_1 : w64.cell? ⟨gb405, 1, none⟩ = some (.slice Ao63 x406001_1.length co63) := (blk_cell BK405.out 1).trans rfl; have hfz65_0 := blk_frozen BK405.out 0; have hfz65_1 := blk_frozen BK405.out 1; have hcz66_0 : w64.cell? ⟨gb400, 0, none⟩ = some (.string x401000_1) := (blk_cell BK400.out 0).trans rfl; have hcz66_1 : w64.cell? ⟨gb400, 1, none⟩ = some (.slice none 0 0) := (blk_cell BK400.out 1).trans rfl; have hfz66_0 := blk_frozen BK400.out 0; have hfz66_1 := blk_frozen BK400.out 1))
         refine bodyPost_ret (results_ct rfl _ _ gb400 24 #[.string (rdOf ByteArray.empty t401 0), .slice Ao63 x406001_1.length co63] (0, 0) _ rfl (by (with_reducible repeat (first | refine blk_drewN ?_ _ | refine blk_drew ?_ | refine blk_alloc ?_ _)); refine blk_put (cs := #[.string (rdOf ByteArray.empty t401 0), .slice none 0 0]) ?_ 1 _ rfl; (with_reducible repeat (first | refine blk_drewN ?_ _ | refine blk_drew ?_ | refine blk_alloc ?_ _)); refine blk_put (cs := #[.string x401000_1, .slice none 0 0]) ?_ 0 _ rfl; (with_reducible repeat (first | refine blk_drewN ?_ _ | refine blk_drew ?_ | refine blk_alloc ?_ _)); exact BK400.out) Tryd.underlying24 rfl (by kernel_rfl)) rfl ?_
         exact ⟨_, by first | rfl | (simp [errW_none, errW_some] <;> rfl) | (simp [*, errW_none, errW_some] <;> rfl), by (with_reducible repeat (first | apply Kd.R_alloc | apply Kd.R_drewN | apply Kd.R_drew)); exact Kd.R_mono (Kd.R_far (p := ⟨gb400, 1, none⟩) (Kd.R_far (p := ⟨gb400, 0, none⟩) (Kd.R_types HO_406001.out BK400.out (by decide)) (fun _ hk => hk.2) (.string (rdOf ByteArray.empty t401 0))) (fun _ hk => hk.2) (.slice Ao63 x406001_1.length co63)) (fun _ hk => trivial), by repeat (first | (with_reducible first | exact HB.out | apply below_alloc | apply pw_below_drewN | apply below_drew1 | refine below_set ?_ GE400.out | refine below_set ?_ GE405.out) | exact HB.out)⟩
        ·
         replace c59 := Bool.eq_false_iff.mpr c59
         subst c59
         have H1 : (some ((⟨#[]⟩ : ByteArray), ([] : List (S42)), 4)) = some (r1, r2, r3) := by rw [if_neg (show ¬ (false = true) by decide)] at H; exact H
         clear H
         have H := H1
         clear H1
         simp only [Option.some.injEq, Prod.mk.injEq] at H
         obtain ⟨rfl, rfl, rfl⟩ := H
         obtain ⟨Ao67, co67, eo67⟩ := Kd.R_slice HO_6.out
         subst eo67
         have hnb68 := NB405_400.out
         have hnc68 := NB400_405.out
         have hcz69_0 : wr.cell? ⟨gb405, 0, none⟩ = some (.string (rdOf ByteArray.empty t401 0)) := (blk_cell BK405.out 0).trans rfl
         have hcz69_1 : wr.cell? ⟨gb405, 1, none⟩ = some (u406001) := (blk_cell BK405.out 1).trans rfl
         have hfz69_0 := blk_frozen BK405.out 0
         have hfz69_1 := blk_frozen BK405.out 1
         obtain ⟨Ao70, co70, eo70⟩ := Kd.R_slice HO_406001.out
         subst eo70
         go_wp2_with (first | ((with_reducible refine gate_callee (f := 17) rfl ?_); refine goesL_ (some 92) rfl rfl Tryd.func17 (by kernel_rfl) rfl #[.agg #[.string (rdOf ByteArray.empty t401 0), .slice Ao70 x406001_1.length co70]] rfl (by (try simp only [List.map_toArray, List.map_cons, List.map_nil]); first | done | rfl | (simp only [List.length_drop, List.length_take]; rfl)) ?_; (with_reducible refine (culetref44_Valid.calls k1 (rdOf ByteArray.empty t401 0) _ _ x406001_1 false _ ?side1 ?side2 A58.out).mono ?_); (case side1 => repeat (first | exact (Kd.R_reads' HO_406001.out).2.2 | (with_reducible refine Kd.C_alloc ?_ _) | (with_reducible refine Kd.C_drewN ?_ _) | (with_reducible refine Kd.C_drew ?_))); (case side2 => exact (Kd.R_reads' HO_406001.out).2.1); rintro e w71 ⟨rfl, hb⟩; refine ⟨_, rfl, ?_⟩; have n0_ := Aside0.mk (Kd.R_below (by (with_reducible repeat (first | apply Kd.R_alloc | apply Kd.R_drewN | apply Kd.R_drew)); exact HO_6.out) hb); have n1_ := Aside0.mk (Kd.R_below (by (with_reducible repeat (first | apply Kd.R_alloc | apply Kd.R_drewN | apply Kd.R_drew)); exact HO_406001.out) hb); have n2_ := Aside0.mk (blk_below (g := gb400) (o := .cells #[.string x401000_1, .slice none 0 0] 24 (0, 0)) (by (with_reducible repeat (first | refine blk_drewN ?_ _ | refine blk_drew ?_ | refine blk_alloc ?_ _)); exact BK400.out) hb); have n3_ := Aside0.mk (blk_below (g := gb405) (o := .cells #[.string (rdOf ByteArray.empty t401 0), .slice Ao70 x406001_1.length co70] 24 (0, 0)) (by (with_reducible repeat (first | refine blk_drewN ?_ _ | refine blk_drew ?_ | refine blk_alloc ?_ _)); exact BK405.out) hb); have n4_ := Aside0.mk (below_step (by repeat (first | (with_reducible first | exact HB.out | apply below_alloc | apply pw_below_drewN | apply below_drew1 | refine below_set ?_ GE400.out | refine below_set ?_ GE405.out) | exact HB.out)) hb); clear HO_6; clear HO_406001; clear BK400; clear BK405; clear HB; have HO_6 := n0_; have HO_406001 := n1_; have BK400 := n2_; have BK405 := n3_; have HB := n4_; clear n0_ n1_ n2_ n3_ n4_; (try clear hb); (try clear hb2); (try clear hk); (try clear hi); have hcz72_0 : w71.cell? ⟨gb400, 0, none⟩ = some (.string x401000_1) := (blk_cell BK400.out 0).trans rfl; have hcz72_1 : w71.cell? ⟨gb400, 1, none⟩ = some (.slice none 0 0) := (blk_cell BK400.out 1).trans rfl; have hfz72_0 := blk_frozen BK400.out 0; have hfz72_1 := blk_frozen BK400.out 1))
         refine bodyPost_ret (results_ct rfl _ _ gb400 24 #[.string (⟨#[]⟩ : ByteArray), .slice none 0 0] (0, 0) _ rfl (by (with_reducible repeat (first | refine blk_drewN ?_ _ | refine blk_drew ?_ | refine blk_alloc ?_ _)); refine blk_put (cs := #[.string (⟨#[]⟩ : ByteArray), .slice none 0 0]) ?_ 1 _ rfl; (with_reducible repeat (first | refine blk_drewN ?_ _ | refine blk_drew ?_ | refine blk_alloc ?_ _)); refine blk_put (cs := #[.string x401000_1, .slice none 0 0]) ?_ 0 _ rfl; (with_reducible repeat (first | refine blk_drewN ?_ _ | refine blk_drew ?_ | refine blk_alloc ?_ _)); exact BK400.out) Tryd.underlying24 rfl (by kernel_rfl)) rfl ?_
         exact ⟨_, by first | rfl | (simp [errW_none, errW_some] <;> rfl) | (simp [*, errW_none, errW_some] <;> rfl), by first | exact Kd.R_nil _ _ _ _ _ | exact Kd.N_nil _ _ _ _ _ | exact Kd.V_nil _ _ _ _ _ | exact Kd.Q_nil _ _ _ _ _ | exact Kd.S_nil _ _ _ _ _, by repeat (first | (with_reducible first | exact HB.out | apply below_alloc | apply pw_below_drewN | apply below_drew1 | refine below_set ?_ GE400.out | refine below_set ?_ GE405.out) | exact HB.out)⟩
    ·
     rw [if_neg c8] at H
     exact absurd H (by simp)
   ·
    rw [if_neg c7] at H
    exact absurd H (by simp)
  ·
   rw [if_neg c6] at H
   have c6b0 : ((t401.length : Int) == 2) = false := beq_eq_false_iff_ne.mpr c6
   have c6b1 : ((t401.length : Int) != 2) = true := bne_iff_ne.mpr c6
   simp only [Option.some.injEq, Prod.mk.injEq] at H
   obtain ⟨rfl, rfl, rfl⟩ := H
   go_enter Tryd.func12, Tryd.ntmps12
   go_wp2_with (first | ((with_reducible refine gate_dst (N := 2) rfl ?_); refine box_event ?hg (N := 2) ?hd (cs := #[.string (⟨#[]⟩ : ByteArray), .slice none 0 0]) (t := 24) ?hr ?_; (case hd => rfl); (case hg => rfl); (case hr => first | (go_simp; done) | (go_simp; rfl)); intro gb400 hg w73 hbox hb; have n0_ := Aside0.mk (below_step (by repeat (first | (with_reducible first | exact HB.out | apply below_alloc | apply pw_below_drewN | apply below_drew1) | exact HB.out)) hb); have n1_ := Aside0.mk (hbox); have n2_ := Aside0.mk ((by rw [hg]; exact (below_size (by repeat (first | (with_reducible first | exact HB.out | apply below_alloc | apply pw_below_drewN | apply below_drew1) | exact HB.out))) : w.heap.size ≤ gb400)); have n3_ := Aside0.mk ((by rw [hg]; exact (below_size (by repeat (first | (with_reducible first | exact HB.out | apply below_alloc | apply pw_below_drewN | apply below_drew1) | exact HB.out))) : w.heap.size ≤ gb400)); clear HB; have HB := n0_; have BK400 := n1_; have GW400 := n2_; have GE400 := n3_; clear n0_ n1_ n2_ n3_; clear hb hbox hg) | ((with_reducible refine gate_callee (f := 32) rfl ?_); refine goesL_ (some 18) rfl rfl Tryd.func32 (by kernel_rfl) rfl #[.string a0, .int .u8 58] rfl (by (try simp only [List.map_toArray, List.map_cons, List.map_nil]); first | done | rfl | (simp only [List.length_drop, List.length_take]; rfl)) ?_; (with_reducible refine (culetref44_Parts.calls k a0 58 t401 _ A5.out).mono ?_); rintro e w74 ⟨v402, rfl, ho0, hb⟩; refine ⟨_, rfl, ?_⟩; have n0_ := Aside0.mk (Kd.R_lower ho0 (below_size (by repeat (first | (with_reducible first | exact HB.out | apply below_alloc | apply pw_below_drewN | apply below_drew1 | refine below_set ?_ GE400.out) | exact HB.out)))); have n1_ := Aside0.mk (blk_below (g := gb400) (o := .cells #[.string (⟨#[]⟩ : ByteArray), .slice none 0 0] 24 (0, 0)) (by (with_reducible repeat (first | refine blk_drewN ?_ _ | refine blk_drew ?_ | refine blk_alloc ?_ _)); exact BK400.out) hb); have n2_ := Aside0.mk (below_step (by repeat (first | (with_reducible first | exact HB.out | apply below_alloc | apply pw_below_drewN | apply below_drew1 | refine below_set ?_ GE400.out) | exact HB.out)) hb); clear BK400; clear HB; have HO403 := n0_; have BK400 := n1_; have HB := n2_; clear n0_ n1_ n2_; (try clear hb); (try clear hb2); (try clear hk); (try clear hi); (try clear ho0); obtain ⟨Ao75, co75, eo75⟩ := Kd.R_slice HO403.out; subst eo75; have hcz76_0 : w74.cell? ⟨gb400, 0, none⟩ = some (.string (⟨#[]⟩ : ByteArray)) := (blk_cell BK400.out 0).trans rfl; have hcz76_1 : w74.cell? ⟨gb400, 1, none⟩ = some (.slice none 0 0) := (blk_cell BK400.out 1).trans rfl; have hfz76_0 := blk_frozen BK400.out 0; have hfz76_1 := blk_frozen BK400.out 1))
   refine bodyPost_ret (results_ct rfl _ _ gb400 24 #[.string (⟨#[]⟩ : ByteArray), .slice none 0 0] (0, 0) _ rfl (by (with_reducible repeat (first | refine blk_drewN ?_ _ | refine blk_drew ?_ | refine blk_alloc ?_ _)); refine blk_put (cs := #[.string (⟨#[]⟩ : ByteArray), .slice none 0 0]) ?_ 1 _ rfl; (with_reducible repeat (first | refine blk_drewN ?_ _ | refine blk_drew ?_ | refine blk_alloc ?_ _)); refine blk_put (cs := #[.string (⟨#[]⟩ : ByteArray), .slice none 0 0]) ?_ 0 _ rfl; (with_reducible repeat (first | refine blk_drewN ?_ _ | refine blk_drew ?_ | refine blk_alloc ?_ _)); exact BK400.out) Tryd.underlying24 rfl (by kernel_rfl)) rfl ?_
   exact ⟨_, by first | rfl | (simp [errW_none, errW_some] <;> rfl) | (simp [*, errW_none, errW_some] <;> rfl), by first | exact Kd.R_nil _ _ _ _ _ | exact Kd.N_nil _ _ _ _ _ | exact Kd.V_nil _ _ _ _ _ | exact Kd.Q_nil _ _ _ _ _ | exact Kd.S_nil _ _ _ _ _, by repeat (first | (with_reducible first | exact HB.out | apply below_alloc | apply pw_below_drewN | apply below_drew1 | refine below_set ?_ GE400.out) | exact HB.out)⟩

end Go.Proofs.YtejgenhmhahgeaaDoor.T
