-- Written by this session's own programs; what the law does not lean on is left out. Lean checks it.
import Derived.Test.YtejgenhmhahgeaaGreatDoorVS
import Derived.Test.YtejgenhmhahgeaaGreatDoorVQ
import Derived.Test.YtejgenhmhahgeaaGreatDoorVTx6
section
namespace Go.Proofs.YtejgenhmhahgeaaGreatDoor.T
open Go.RowKit Go.Proofs.YtejgenhmhahgeaaGreatDoorW.PrintWords Go.Proofs.YtejgenhmhahgeaaGreatDoorW.PrintLast Go.Proofs.YtejgenhmhahgeaaGreatDoorW.PrintMore
attribute [local go_sem] max2_int max_two
set_option linter.unusedVariables false
set_option linter.unusedSimpArgs false

def tariff_Fair_c1.f (a0_0 : Int) (a0_1 : Int) (a1_0 : ByteArray) (l1_1 : List (S44)) : Option (Bool) := (tariff_value.f a1_0 l1_1 (wrap64 (a0_0 - 1))).bind fun t167 => ((tariff_value.f a1_0 l1_1 a0_0).bind fun t168 => (some (decide (t167 > t168))))
def tariff_Fair_c1.T1 : Bool × List (List Nat × List Nat) := (true, [([], []), ([], []), ([1], [1]), ([2], [2]), ([0, 3], [0, 3]), ([], []), ([], []), ([6], [6]), ([5, 7, 4], [5, 7]), ([4, 8], [4, 8]), ([9, 8, 0, 1, 2, 3, 4, 5, 6, 7, 8, 9], [9])])
def tariff_Fair_c1.B1 : List Nat := [0, 0, 2, 6, 15, 0, 0, 64, 255, 511, 1023]
theorem tariff_Fair_c1.tab1 : rtab .any (opsOf Tryz.f31 1) = tariff_Fair_c1.T1 := by kernel_rfl
theorem tariff_Fair_c1.bits1 : waitsOk tariff_Fair_c1.T1.2 tariff_Fair_c1.B1 = true := by kernel_rfl
set_option maxHeartbeats 8000000 in
set_option maxRecDepth 100000 in
theorem tariff_Fair_c1.calls (a0_0 : Int) (a0_1 : Int) (a1_0 : ByteArray) (A1_1 : Option Addr) (c1_1 : Nat) (l1_1 : List (S44)) (gb165 : Nat) (r : Bool) (w : World) (hr1_1 : Kd.C k44 w A1_1 l1_1.length l1_1) (hc1_1 : l1_1.length ≤ c1_1) (hgb : w.heap[gb165]? = some (.cells #[.string a1_0, .slice A1_1 l1_1.length c1_1] 30 (0, 0))) (h : tariff_Fair_c1.f a0_0 a0_1 a1_0 l1_1 = some r) :
  Calls Tryz.prog 31 #[.agg #[.int .i64 a0_0, .int .i64 a0_1], .pointer (some ⟨gb165, 0, none⟩)] w fun e w' => e = .returned (.bool r) ∧ Below w.heap.size w w' := by
 have hu30 := Tryz.underlying30
 have hu44 := Tryz.underlying44
 have HR1_1 := Aside0.mk hr1_1
 have HC1_1 := Aside0.mk hc1_1
 clear hr1_1 hc1_1
 have HB := Aside0.mk (Below.refl w.heap.size w)
 have BK165 := Aside0.mk hgb
 clear hgb
 have H : ((tariff_value.f a1_0 l1_1 (wrap64 (a0_0 - 1))).bind fun t167 => ((tariff_value.f a1_0 l1_1 a0_0).bind fun t168 => (some (decide (t167 > t168))))) = some r := h
 clear h
 replace H := Option.bind_eq_some_iff.mp H
 obtain ⟨t167, A30, H⟩ := H
 replace H : ((tariff_value.f a1_0 l1_1 a0_0).bind fun t168 => (some (decide (t167 > t168)))) = some r := H
 have A3 := Aside0.mk A30
 clear A30
 replace H := Option.bind_eq_some_iff.mp H
 obtain ⟨t168, A40, H⟩ := H
 replace H : (some (decide (t167 > t168))) = some r := H
 have A4 := Aside0.mk A40
 clear A40
 obtain rfl := Option.some.inj H
 go_enter Tryz.func31, Tryz.ntmps31
 try go_wp2_with (first | ((with_reducible refine gate_dst (N := 2) rfl ?_); refine box_event ?hg (N := 2) ?hd (cs := #[.int .i64 a0_0, .int .i64 a0_1]) (t := 44) ?hr ?_; (case hd => rfl); (case hg => rfl); (case hr => first | (go_simp; done) | (go_simp; rfl)); intro gb166 hg w6 hbox hb; have n0_ := Aside0.mk (blk_below (g := gb165) (o := .cells #[.string a1_0, .slice A1_1 l1_1.length c1_1] 30 (0, 0)) (by (with_reducible repeat (first | refine blk_drewN ?_ _ | refine blk_drew ?_ | refine blk_alloc ?_ _)); exact BK165.out) hb); have n1_ := Aside0.mk (below_step (by repeat (first | (with_reducible first | exact HB.out | apply below_alloc | apply pw_below_drewN | apply below_drew1 | refine below_set ?_ GE165.out) | exact HB.out)) hb); have n2_ := Aside0.mk (hbox); have n3_ := Aside0.mk ((by rw [hg]; exact (below_size (by repeat (first | (with_reducible first | exact HB.out | apply below_alloc | apply pw_below_drewN | apply below_drew1 | refine below_set ?_ GE165.out) | exact HB.out))) : w.heap.size ≤ gb166)); have n4_ := Aside0.mk ((by rw [hg]; exact (below_size (by repeat (first | (with_reducible first | exact HB.out | apply below_alloc | apply pw_below_drewN | apply below_drew1 | refine below_set ?_ GE165.out) | exact HB.out))) : w.heap.size ≤ gb166)); have n5_ := Aside0.mk ((by rw [hg]; exact Nat.ne_of_lt (blk_lt (g := gb165) (o := .cells #[.string a1_0, .slice A1_1 l1_1.length c1_1] 30 (0, 0)) (by (with_reducible repeat (first | refine blk_drewN ?_ _ | refine blk_drew ?_ | refine blk_alloc ?_ _)); exact BK165.out)) : gb165 ≠ gb166)); have n6_ := Aside0.mk ((by rw [hg]; exact Nat.ne_of_gt (blk_lt (g := gb165) (o := .cells #[.string a1_0, .slice A1_1 l1_1.length c1_1] 30 (0, 0)) (by (with_reducible repeat (first | refine blk_drewN ?_ _ | refine blk_drew ?_ | refine blk_alloc ?_ _)); exact BK165.out)) : gb166 ≠ gb165)); clear BK165; clear HB; have BK165 := n0_; have HB := n1_; have BK166 := n2_; have GW166 := n3_; have GE166 := n4_; have NB165_166 := n5_; have NB166_165 := n6_; clear n0_ n1_ n2_ n3_ n4_ n5_ n6_; clear hb hbox hg))
 have n0_ := Aside0.mk (blk_drew BK165.out)
 have n1_ := Aside0.mk (blk_drew BK166.out)
 have n2_ := Aside0.mk (below_drew1 HB.out)
 clear BK165
 clear BK166
 clear HB
 have BK165 := n0_
 have BK166 := n1_
 have HB := n2_
 clear n0_ n1_ n2_
 refine start_ (n := 11) (S := fun w' => w'.cell? ⟨gb165, 0, none⟩ = some (.string a1_0) ∧ w'.cell? ⟨gb165, 1, none⟩ = some (.slice A1_1 l1_1.length c1_1) ∧ w'.cell? ⟨gb166, 0, none⟩ = some (.int .i64 a0_0) ∧ w'.cell? ⟨gb166, 1, none⟩ = some (.int .i64 a0_1)) (ds := []) #[false, false, false, false, false, false, false, false, false, false, false] (by kernel_rfl) rfl rfl ⟨(blk_cell BK165.out 0).trans rfl, (blk_cell BK165.out 1).trans rfl, (blk_cell BK166.out 0).trans rfl, (blk_cell BK166.out 1).trans rfl⟩ (fun hHeld => ?_); refine with_tabW tariff_Fair_c1.tab1 tariff_Fair_c1.bits1 (fun HT_ HW_ => ?_)
 generalize w6.drew = w7 at BK165 BK166 HB hHeld ⊢
 refine pure_ (i := 1) (N := some 5) (v := ?_) (a' := ?_) #[false, true, false, false, false, false, false, false, false, false, false] rfl rfl (any_of HT_.out (by kernel_rfl)) (fun _ _ _ h => h) (Or.inl ⟨by rfl, ?_⟩) ?_ ?_
 rotate_left
 ·
  intro w'
  go_simp
  with_reducible rfl
 rotate_left
 ·
  simp only [Act.put, List.setIfInBounds_toArray, List.set_cons_zero, List.set_cons_succ, i64_w, i32_w]
  rfl
 refine pure_ (i := 6) (N := some 10) (v := ?_) (a' := ?_) #[false, true, false, false, false, false, true, false, false, false, false] rfl rfl (any_of HT_.out (by kernel_rfl)) (fun _ _ _ h => h) (Or.inl ⟨by rfl, ?_⟩) ?_ ?_
 rotate_left
 ·
  intro w'
  go_simp
  with_reducible rfl
 rotate_left
 ·
  simp only [Act.put, List.setIfInBounds_toArray, List.set_cons_zero, List.set_cons_succ, i64_w, i32_w]
  rfl
 refine take_ (i := 0) (N := some 4) (v := ?_) (a' := ?_) #[true, true, false, false, false, false, true, false, false, false, false] rfl rfl (take_ofW HT_.out HW_.out (by kernel_rfl)) (fun _ _ _ h => h) (Or.inl ⟨by rfl, ?_⟩) hHeld ?_ ?_
 rotate_left
 ·
  rintro w' ⟨s0, s1, s2, s3⟩
  go_simp
  with_reducible rfl
 rotate_left
 ·
  simp only [Act.put, List.setIfInBounds_toArray, List.set_cons_zero, List.set_cons_succ, i64_w, i32_w]
  rfl
 refine take_ (i := 2) (N := some 6) (v := ?_) (a' := ?_) #[true, true, true, false, false, false, true, false, false, false, false] rfl rfl (take_ofW HT_.out HW_.out (by kernel_rfl)) (fun _ _ _ h => h) (Or.inl ⟨by rfl, ?_⟩) hHeld ?_ ?_
 rotate_left
 ·
  rintro w' ⟨s0, s1, s2, s3⟩
  go_simp
  with_reducible rfl
 rotate_left
 ·
  simp only [Act.put, List.setIfInBounds_toArray, List.set_cons_zero, List.set_cons_succ, i64_w, i32_w]
  rfl
 refine pure_ (i := 3) (N := some 7) (v := ?_) (a' := ?_) #[true, true, true, true, false, false, true, false, false, false, false] rfl rfl (any_of HT_.out (by kernel_rfl)) (fun _ _ _ h => h) (Or.inl ⟨by rfl, ?_⟩) ?_ ?_
 rotate_left
 ·
  intro w'
  go_simp
  with_reducible rfl
 rotate_left
 ·
  simp only [Act.put, List.setIfInBounds_toArray, List.set_cons_zero, List.set_cons_succ, i64_w, i32_w]
  rfl
 refine take_ (i := 5) (N := some 9) (v := ?_) (a' := ?_) #[true, true, true, true, false, true, true, false, false, false, false] rfl rfl (take_ofW HT_.out HW_.out (by kernel_rfl)) (fun _ _ _ h => h) (Or.inl ⟨by rfl, ?_⟩) hHeld ?_ ?_
 rotate_left
 ·
  rintro w' ⟨s0, s1, s2, s3⟩
  go_simp
  with_reducible rfl
 rotate_left
 ·
  simp only [Act.put, List.setIfInBounds_toArray, List.set_cons_zero, List.set_cons_succ, i64_w, i32_w]
  rfl
 refine take_ (i := 7) (N := some 11) (v := ?_) (a' := ?_) #[true, true, true, true, false, true, true, true, false, false, false] rfl rfl (take_ofW HT_.out HW_.out (by kernel_rfl)) (fun _ _ _ h => h) (Or.inl ⟨by rfl, ?_⟩) hHeld ?_ ?_
 rotate_left
 ·
  rintro w' ⟨s0, s1, s2, s3⟩
  go_simp
  with_reducible rfl
 rotate_left
 ·
  simp only [Act.put, List.setIfInBounds_toArray, List.set_cons_zero, List.set_cons_succ, i64_w, i32_w]
  rfl
 refine one_ (i := 4) (N := some 8) #[true, true, true, true, true, true, true, true, false, false, false] rfl rfl (one_of HT_.out (by kernel_rfl)) (by decide) (fun K hK => ?_)
 refine goes_ Tryz.func24 (by kernel_rfl) rfl #[.agg #[.string a1_0, .slice A1_1 l1_1.length c1_1], .int .i64 (wrap64 (a0_0 - 1))] (by rfl) rfl rfl (by (try simp only [List.map_toArray, List.map_cons, List.map_nil]); first | done | rfl | (simp only [List.length_drop, List.length_take]; rfl)) ?_
 with_reducible refine (tariff_value.calls a1_0 _ _ l1_1 (wrap64 (a0_0 - 1)) t167 _ ?side1 ?side2 A3.out).mono ?_
 (case side1 => repeat (first | exact (Kd.C_below HR1_1.out HB.out) | (with_reducible refine Kd.C_alloc ?_ _) | (with_reducible refine Kd.C_drewN ?_ _) | (with_reducible refine Kd.C_drew ?_)))
 (case side2 => exact HC1_1.out)
 rintro e w8 ⟨rfl, hb⟩
 refine ⟨_, rfl, ?_⟩
 have n0_ := Aside0.mk (blk_below (g := gb165) (o := .cells #[.string a1_0, .slice A1_1 l1_1.length c1_1] 30 (0, 0)) (by (with_reducible repeat (first | refine blk_drewN ?_ _ | refine blk_drew ?_ | refine blk_alloc ?_ _)); exact BK165.out) hb)
 have n1_ := Aside0.mk (blk_below (g := gb166) (o := .cells #[.int .i64 a0_0, .int .i64 a0_1] 44 (0, 0)) (by (with_reducible repeat (first | refine blk_drewN ?_ _ | refine blk_drew ?_ | refine blk_alloc ?_ _)); exact BK166.out) hb)
 have n2_ := Aside0.mk (below_step (by repeat (first | (with_reducible first | exact HB.out | apply below_alloc | apply pw_below_drewN | apply below_drew1 | refine below_set ?_ GE165.out | refine below_set ?_ GE166.out) | exact HB.out)) hb)
 clear BK165
 clear BK166
 clear HB
 have BK165 := n0_
 have BK166 := n1_
 have HB := n2_
 clear n0_ n1_ n2_
 (try clear hb)
 (try clear hb2)
 (try clear hk)
 (try clear hi)
 refine hK.out _ _ ⟨(blk_cell BK165.out 0).trans rfl, (blk_cell BK165.out 1).trans rfl, (blk_cell BK166.out 0).trans rfl, (blk_cell BK166.out 1).trans rfl⟩ (fun hHeld => ?_)
 clear hK K
 refine norm_ (a' := ?_) ?_ ?_
 rotate_left
 ·
  show Act.put _ (some 8) _ = _
  simp only [Act.put, List.setIfInBounds_toArray, List.set_cons_zero, List.set_cons_succ, i64_w, i32_w]
  rfl
 refine one_ (i := 8) (N := some 12) #[true, true, true, true, true, true, true, true, true, false, false] rfl rfl (one_of HT_.out (by kernel_rfl)) (by decide) (fun K hK => ?_)
 refine goes_ Tryz.func24 (by kernel_rfl) rfl #[.agg #[.string a1_0, .slice A1_1 l1_1.length c1_1], .int .i64 a0_0] (by rfl) rfl rfl (by (try simp only [List.map_toArray, List.map_cons, List.map_nil]); first | done | rfl | (simp only [List.length_drop, List.length_take]; rfl)) ?_
 with_reducible refine (tariff_value.calls a1_0 _ _ l1_1 a0_0 t168 _ ?side1 ?side2 A4.out).mono ?_
 (case side1 => repeat (first | exact (Kd.C_below HR1_1.out HB.out) | (with_reducible refine Kd.C_alloc ?_ _) | (with_reducible refine Kd.C_drewN ?_ _) | (with_reducible refine Kd.C_drew ?_)))
 (case side2 => exact HC1_1.out)
 rintro e w9 ⟨rfl, hb⟩
 refine ⟨_, rfl, ?_⟩
 have n0_ := Aside0.mk (blk_below (g := gb165) (o := .cells #[.string a1_0, .slice A1_1 l1_1.length c1_1] 30 (0, 0)) (by (with_reducible repeat (first | refine blk_drewN ?_ _ | refine blk_drew ?_ | refine blk_alloc ?_ _)); exact BK165.out) hb)
 have n1_ := Aside0.mk (blk_below (g := gb166) (o := .cells #[.int .i64 a0_0, .int .i64 a0_1] 44 (0, 0)) (by (with_reducible repeat (first | refine blk_drewN ?_ _ | refine blk_drew ?_ | refine blk_alloc ?_ _)); exact BK166.out) hb)
 have n2_ := Aside0.mk (below_step (by repeat (first | (with_reducible first | exact HB.out | apply below_alloc | apply pw_below_drewN | apply below_drew1 | refine below_set ?_ GE165.out | refine below_set ?_ GE166.out) | exact HB.out)) hb)
 clear BK165
 clear BK166
 clear HB
 have BK165 := n0_
 have BK166 := n1_
 have HB := n2_
 clear n0_ n1_ n2_
 (try clear hb)
 (try clear hb2)
 (try clear hk)
 (try clear hi)
 refine hK.out _ _ ⟨(blk_cell BK165.out 0).trans rfl, (blk_cell BK165.out 1).trans rfl, (blk_cell BK166.out 0).trans rfl, (blk_cell BK166.out 1).trans rfl⟩ (fun hHeld => ?_)
 clear hK K
 refine norm_ (a' := ?_) ?_ ?_
 rotate_left
 ·
  show Act.put _ (some 12) _ = _
  simp only [Act.put, List.setIfInBounds_toArray, List.set_cons_zero, List.set_cons_succ, i64_w, i32_w]
  rfl
 refine pure_ (i := 9) (N := some 13) (v := ?_) (a' := ?_) #[true, true, true, true, true, true, true, true, true, true, false] rfl rfl (any_of HT_.out (by kernel_rfl)) (fun _ _ _ h => h) (Or.inl ⟨by rfl, ?_⟩) ?_ ?_
 rotate_left
 ·
  intro w'
  go_simp
  with_reducible rfl
 rotate_left
 ·
  simp only [Act.put, List.setIfInBounds_toArray, List.set_cons_zero, List.set_cons_succ, i64_w, i32_w]
  rfl
 refine pure_ (i := 10) (N := some 3) (v := ?_) (a' := ?_) #[true, true, true, true, true, true, true, true, true, true, true] rfl rfl (any_of HT_.out (by kernel_rfl)) (fun _ _ _ h => h) (Or.inl ⟨by rfl, ?_⟩) ?_ ?_
 rotate_left
 ·
  intro w'
  go_simp
  with_reducible rfl
 rotate_left
 ·
  simp only [Act.put, List.setIfInBounds_toArray, List.set_cons_zero, List.set_cons_succ, i64_w, i32_w]
  rfl
 refine done_ (done_of HT_.out (by kernel_rfl)) ?_
 try go_wp2
 go_ret
 exact ⟨by first | rfl | (simp [errW_none, errW_some] <;> rfl) | (simp [*, errW_none, errW_some] <;> rfl), by repeat (first | (with_reducible first | exact HB.out | apply below_alloc | apply pw_below_drewN | apply below_drew1 | refine below_set ?_ GE165.out | refine below_set ?_ GE166.out) | exact HB.out)⟩

end Go.Proofs.YtejgenhmhahgeaaGreatDoor.T
end
section
namespace Go.Proofs.YtejgenhmhahgeaaGreatDoor.T
open Go.RowKit Go.Proofs.YtejgenhmhahgeaaGreatDoorW.PrintWords Go.Proofs.YtejgenhmhahgeaaGreatDoorW.PrintLast Go.Proofs.YtejgenhmhahgeaaGreatDoorW.PrintMore
attribute [local go_sem] max2_int max_two
set_option linter.unusedVariables false
set_option linter.unusedSimpArgs false

def findO (p : S44 → Option Bool) : List S44 → Int → Option Int
 | [], _ => some (-1)
 | x :: r, i => (p x).bind fun b => if b = true then some i else findO p r (i + 1)
theorem findO_at (p : S44 → Option Bool) (l : List S44) (i : Nat) (hi : i < l.length) (n : Int) : findO p (l.drop i) n = (p (l.getD i z44)).bind fun b => if b = true then some n else findO p (l.drop (i + 1)) (n + 1) := by
 rw [List.drop_eq_getElem_cons hi]
 have e : l.getD i z44 = l[i] := by rw [List.getD_eq_getElem?_getD, List.getElem?_eq_getElem hi]; rfl
 rw [e]
 rfl
theorem fair_lit.eg : ∀ args w, (callFunc 31 args).run Tryz.prog w = .ok (.enter 31 args) w := enters_of Tryz.func31 (by kernel_rfl) rfl
set_option maxHeartbeats 4000000 in
set_option maxRecDepth 100000 in
theorem fair_idx.calls (A0 : Option Addr) (c0 : Nat) (l0 : List S44) (a1_0 : ByteArray) (A1_1 : Option Addr) (c1_1 : Nat) (l1_1 : List S44) (g : Nat) (r : Int) (w : World) (hr0 : Kd.C k44 w A0 l0.length l0) (hc0 : l0.length ≤ c0) (hr1_1 : Kd.C k44 w A1_1 l1_1.length l1_1) (hc1_1 : l1_1.length ≤ c1_1) (hlen : l0.length ≤ 100000) (hgb : w.heap[g]? = some (.cells #[.string a1_0, .slice A1_1 l1_1.length c1_1] 30 (0, 0))) (h : findO (fun x => tariff_Fair_c1.f x.f0 x.f1 a1_0 l1_1) l0 0 = some r) :
  Calls Tryz.prog 35 #[.slice A0 l0.length c0, .func (.func 31) #[] #[.pointer (some ⟨g, 0, none⟩)]] w fun e w' => e = .returned (.int .i64 r) ∧ Below w.heap.size w w' := by
 have hu := Tryz.underlying44
 have eg := fair_lit.eg
 have HR0 := Aside0.mk hr0
 have HR1 := Aside0.mk hr1_1
 have HC1 := Aside0.mk hc1_1
 have BK := Aside0.mk hgb
 have HB := Aside0.mk (Below.refl w.heap.size w)
 have HL := Aside0.mk hlen
 have HC0 := Aside0.mk hc0
 have H := Aside0.mk h
 clear hr0 hc0 hr1_1 hc1_1 hgb hlen h
 go_enter Tryz.func35, Tryz.ntmps35
 go_wp2
 go_loopg [8] l0.length (fun kq v8 w' => ∃ i : Nat, v8 = .int .i64 (i : Int) ∧ Aside0 (i + kq = l0.length) ∧ Aside0 (findO (fun x => tariff_Fair_c1.f x.f0 x.f1 a1_0 l1_1) (l0.drop i) (i : Int) = some r) ∧ Aside0 (Below w.heap.size w w'))
 case atStart => exact ⟨0, rfl, ⟨by omega⟩, H, HB⟩
 case round =>
  clear HB H
  obtain ⟨i, rfl, HI, HN, HB⟩ := hrel
  cases gk with
  | zero =>
   have hi : i = l0.length := by have := HI.out; omega
   have c1 : decide ((i : Int) < (l0.length : Int)) = false := decide_eq_false (by omega)
   have c2 : decide (i < l0.length) = false := decide_eq_false (by omega)
   obtain rfl : (-1 : Int) = r := Option.some.inj ((by rw [hi, List.drop_length]; rfl : some (-1 : Int) = findO (fun x => tariff_Fair_c1.f x.f0 x.f1 a1_0 l1_1) (l0.drop i) (i : Int)).trans HN.out)
   clear hi
   go_wp2
   go_ret
   exact ⟨rfl, HB.out⟩
  | succ k1 =>
   have hi : i < l0.length := by have := HI.out; omega
   have c1 : decide ((i : Int) < (l0.length : Int)) = true := decide_eq_true (by omega)
   have c2 : decide (i < l0.length) = true := decide_eq_true hi
   have c3 : ((i : Int) < (l0.length : Int)) = True := eq_true (by omega)
   have c4 : (0 ≤ (i : Int)) = True := eq_true (by omega)
   obtain ⟨ad, e1, hx0, hx1⟩ := at_T44 HR0.out (i : Int) (by omega) (by omega)
   cases e1
   rw [Int.toNat_natCast] at hx0 hx1
   replace hx0 := (HB.out.cell (World.block_lt_of_cell? w _ hx0)).trans hx0
   replace hx1 := (HB.out.cell (World.block_lt_of_cell? w _ hx1)).trans hx1
   have HX : Aside0 (rd_T44 l0 (i : Int) = l0.getD i z44) := ⟨by unfold rd_T44; rw [Int.toNat_natCast]⟩
   have HW := Aside0.mk (wrap_i i (by have := HL.out; omega))
   have hn := HN.out
   rw [findO_at _ _ _ hi, ← HX.out] at hn
   clear HN hi
   generalize hX : rd_T44 l0 (i : Int) = X at hx0 hx1 HX hn
   clear hX HX
   obtain ⟨b, hb, hn⟩ := Option.bind_eq_some_iff.mp hn
   have HQ := Aside0.mk hb
   clear hb
   cases b with
   | true =>
    rw [if_pos rfl] at hn
    obtain rfl := Option.some.inj hn
    clear hn
    go_wp2_with (go_at_fn 31; refine (tariff_Fair_c1.calls X.f0 X.f1 a1_0 A1_1 c1_1 l1_1 g true _ (Kd.C_below HR1.out HB.out) HC1.out (blk_below BK.out HB.out) HQ.out).mono ?_; rintro e w1 ⟨rfl, hb⟩; have HB2 := Aside0.mk (HB.out.trans (hb.mono HB.out.size)); clear hb)
    go_ret
    exact ⟨rfl, HB2.out⟩
   | false =>
    rw [if_neg (by decide)] at hn
    have HN := Aside0.mk hn
    clear hn
    go_wp2_with (go_at_fn 31; refine (tariff_Fair_c1.calls X.f0 X.f1 a1_0 A1_1 c1_1 l1_1 g false _ (Kd.C_below HR1.out HB.out) HC1.out (blk_below BK.out HB.out) HQ.out).mono ?_; rintro e w1 ⟨rfl, hb⟩; have HB2 := Aside0.mk (HB.out.trans (hb.mono HB.out.size)); clear hb)
    go_roundg k1
    case measure => omega
    case rel => exact ⟨i + 1, congrArg (Value.int .i64) HW.out, ⟨by have := HI.out; omega⟩, ⟨by have := HN.out; rwa [Int.natCast_add]⟩, HB2⟩
def fair_has.f (l0 : List S44) (a1_0 : ByteArray) (l1_1 : List S44) : Option Bool := if l0.length ≤ 100000 then ((findO (fun x => tariff_Fair_c1.f x.f0 x.f1 a1_0 l1_1) l0 0).bind fun n => some (decide (0 ≤ n))) else none
set_option maxHeartbeats 2000000 in
set_option maxRecDepth 100000 in
theorem fair_has.calls (A0 : Option Addr) (c0 : Nat) (l0 : List S44) (a1_0 : ByteArray) (A1_1 : Option Addr) (c1_1 : Nat) (l1_1 : List S44) {g : Nat} (r : Bool) (w : World) (hr0 : Kd.C k44 w A0 l0.length l0) (hc0 : l0.length ≤ c0) (hr1_1 : Kd.C k44 w A1_1 l1_1.length l1_1) (hc1_1 : l1_1.length ≤ c1_1) (hgb : w.heap[g]? = some (.cells #[.string a1_0, .slice A1_1 l1_1.length c1_1] 30 (0, 0))) (h : fair_has.f l0 a1_0 l1_1 = some r) :
  Calls Tryz.prog 30 #[.slice A0 l0.length c0, .func (.func 31) #[] #[.pointer (some ⟨g, 0, none⟩)]] w fun e w' => e = .returned (.bool r) ∧ Below w.heap.size w w' := by
 unfold fair_has.f at h
 by_cases hlen : l0.length ≤ 100000
 ·
  rw [if_pos hlen] at h
  obtain ⟨n, hn, hr⟩ := Option.bind_eq_some_iff.mp h
  obtain rfl := Option.some.inj hr
  have HN := Aside0.mk hn
  have BK := Aside0.mk hgb
  have HR1 := Aside0.mk hr1_1
  have HC1 := Aside0.mk hc1_1
  have HR0 := Aside0.mk hr0
  have HC0 := Aside0.mk hc0
  have HL := Aside0.mk hlen
  clear hn hr0 hc0 hlen h hgb hr1_1 hc1_1 hr
  go_enter Tryz.func30, Tryz.ntmps30
  go_wp2_with (go_at_call 35; refine (fair_idx.calls A0 c0 l0 a1_0 A1_1 c1_1 l1_1 g n _ HR0.out HC0.out HR1.out HC1.out HL.out BK.out HN.out).mono ?_; rintro e w1 ⟨rfl, hb⟩; have HB := Aside0.mk hb; clear hb)
  go_ret
  exact ⟨rfl, HB.out⟩
 ·
  rw [if_neg hlen] at h
  exact absurd h (by simp)

end Go.Proofs.YtejgenhmhahgeaaGreatDoor.T
end
section
namespace Go.Proofs.YtejgenhmhahgeaaGreatDoor.T
open Go.RowKit Go.Proofs.YtejgenhmhahgeaaGreatDoorW.PrintWords Go.Proofs.YtejgenhmhahgeaaGreatDoorW.PrintLast Go.Proofs.YtejgenhmhahgeaaGreatDoorW.PrintMore
attribute [local go_sem] max2_int max_two
set_option linter.unusedVariables false
set_option linter.unusedSimpArgs false

def tariff_Fair.f (k : Nat) (a0_0 : ByteArray) (l0_1 : List (S44)) : Option (Bool) := (tariff_Valid.f k a0_0 l0_1).bind fun t170 => (if t170 = true then (if 1 ≤ (l0_1.length : Int) then ((fair_has.f (l0_1.drop 1) a0_0 l0_1).bind fun t175 => (some (!t175))) else (none)) else (some false))
set_option maxHeartbeats 8000000 in
set_option maxRecDepth 100000 in
theorem tariff_Fair.calls (k : Nat) (a0_0 : ByteArray) (A0_1 : Option Addr) (c0_1 : Nat) (l0_1 : List (S44)) (r : Bool) (w : World) (hr0_1 : Kd.C k44 w A0_1 l0_1.length l0_1) (hc0_1 : l0_1.length ≤ c0_1) (h : tariff_Fair.f k a0_0 l0_1 = some r) :
  Calls Tryz.prog 18 #[.agg #[.string a0_0, .slice A0_1 l0_1.length c0_1]] w fun e w' => e = .returned (.bool r) ∧ Below w.heap.size w w' := by
 have hu30 := Tryz.underlying30
 have hmf : ∀ (fn : Fn) (first cap : Array Value) (w : World), (Instr.makeFunc fn first cap).run Tryz.prog w = .ok (.func fn first cap) w := fun _ _ _ _ => rfl
 have HR0_1 := Aside0.mk hr0_1
 have HC0_1 := Aside0.mk hc0_1
 clear hr0_1 hc0_1
 have HB := Aside0.mk (Below.refl w.heap.size w)
 have H : ((tariff_Valid.f k a0_0 l0_1).bind fun t170 => (if t170 = true then (if 1 ≤ (l0_1.length : Int) then ((fair_has.f (l0_1.drop 1) a0_0 l0_1).bind fun t175 => (some (!t175))) else (none)) else (some false))) = some r := h
 clear h
 replace H := Option.bind_eq_some_iff.mp H
 obtain ⟨t170, A20, H⟩ := H
 replace H : (if t170 = true then (if 1 ≤ (l0_1.length : Int) then ((fair_has.f (l0_1.drop 1) a0_0 l0_1).bind fun t175 => (some (!t175))) else (none)) else (some false)) = some r := H
 have A2 := Aside0.mk A20
 clear A20
 by_cases c3 : t170 = true
 ·
  subst c3
  have H1 : (if 1 ≤ (l0_1.length : Int) then ((fair_has.f (l0_1.drop 1) a0_0 l0_1).bind fun t175 => (some (!t175))) else (none)) = some r := by rw [if_pos rfl] at H; exact H
  clear H
  have H := H1
  clear H1
  by_cases c4 : 1 ≤ (l0_1.length : Int)
  ·
   rw [if_pos c4] at H
   have c4b0 := eq_true c4
   have c4b1 : decide (1 ≤ (l0_1.length : Int)) = true := decide_eq_true c4
   clear c4
   obtain ⟨y171, hy171⟩ : ∃ y_ : List (S44), y_ = (l0_1.drop 1) := ⟨_, rfl⟩
   replace H : ((fair_has.f y171 a0_0 l0_1).bind fun t175 => (some (!t175))) = some r := by first | (rw [hy171]; with_reducible exact H) | (have H2_ := (Option.bind_some _ _).symm.trans H; rw [hy171]; with_reducible exact H2_) | (have H2_ := (Option.bind_some _ _).symm.trans H; with_reducible exact H2_) | with_reducible exact H | (rw [hy171]; exact H) | exact H
   have Ny171 := Aside0.mk hy171
   clear hy171
   replace H := Option.bind_eq_some_iff.mp H
   obtain ⟨t175, A50, H⟩ := H
   replace H : (some (!t175)) = some r := H
   have A5 := Aside0.mk A50
   clear A50
   obtain rfl := Option.some.inj H
   go_enter Tryz.func18, Tryz.ntmps18
   go_wp2_with (first | ((with_reducible refine gate_dst (N := 1) rfl ?_); refine box_event ?hg (N := 1) ?hd (cs := #[.string a0_0, .slice A0_1 l0_1.length c0_1]) (t := 30) ?hr ?_; (case hd => rfl); (case hg => rfl); (case hr => first | (go_simp; done) | (go_simp; rfl)); intro gb169 hg w6 hbox hb; have n0_ := Aside0.mk (below_step (by repeat (first | (with_reducible first | exact HB.out | apply below_alloc | apply pw_below_drewN | apply below_drew1) | exact HB.out)) hb); have n1_ := Aside0.mk (hbox); have n2_ := Aside0.mk ((by rw [hg]; exact (below_size (by repeat (first | (with_reducible first | exact HB.out | apply below_alloc | apply pw_below_drewN | apply below_drew1) | exact HB.out))) : w.heap.size ≤ gb169)); have n3_ := Aside0.mk ((by rw [hg]; exact (below_size (by repeat (first | (with_reducible first | exact HB.out | apply below_alloc | apply pw_below_drewN | apply below_drew1) | exact HB.out))) : w.heap.size ≤ gb169)); clear HB; have HB := n0_; have BK169 := n1_; have GW169 := n2_; have GE169 := n3_; clear n0_ n1_ n2_ n3_; clear hb hbox hg; have hcz7_0 : w6.cell? ⟨gb169, 0, none⟩ = some (.string a0_0) := (blk_cell BK169.out 0).trans rfl; have hcz7_1 : w6.cell? ⟨gb169, 1, none⟩ = some (.slice A0_1 l0_1.length c0_1) := (blk_cell BK169.out 1).trans rfl; have hfz7_0 := blk_frozen BK169.out 0; have hfz7_1 := blk_frozen BK169.out 1) | ((with_reducible refine gate_callee (f := 19) rfl ?_); refine goesL_ (some 4) rfl rfl Tryz.func19 (by kernel_rfl) rfl #[.agg #[.string a0_0, .slice A0_1 l0_1.length c0_1]] rfl (by (try simp only [List.map_toArray, List.map_cons, List.map_nil]); first | done | rfl | (simp only [List.length_drop, List.length_take]; rfl)) ?_; (with_reducible refine (tariff_Valid.calls k a0_0 _ _ l0_1 true _ ?side1 ?side2 A2.out).mono ?_); (case side1 => repeat (first | exact (Kd.C_below HR0_1.out HB.out) | (with_reducible refine Kd.C_alloc ?_ _) | (with_reducible refine Kd.C_drewN ?_ _) | (with_reducible refine Kd.C_drew ?_))); (case side2 => exact HC0_1.out); rintro e w8 ⟨rfl, hb⟩; refine ⟨_, rfl, ?_⟩; have n0_ := Aside0.mk (blk_below (g := gb169) (o := .cells #[.string a0_0, .slice A0_1 l0_1.length c0_1] 30 (0, 0)) (by (with_reducible repeat (first | refine blk_drewN ?_ _ | refine blk_drew ?_ | refine blk_alloc ?_ _)); exact BK169.out) hb); have n1_ := Aside0.mk (below_step (by repeat (first | (with_reducible first | exact HB.out | apply below_alloc | apply pw_below_drewN | apply below_drew1 | refine below_set ?_ GE169.out) | exact HB.out)) hb); clear BK169; clear HB; have BK169 := n0_; have HB := n1_; clear n0_ n1_; (try clear hb); (try clear hb2); (try clear hk); (try clear hi); have hcz9_0 : w8.cell? ⟨gb169, 0, none⟩ = some (.string a0_0) := (blk_cell BK169.out 0).trans rfl; have hcz9_1 : w8.cell? ⟨gb169, 1, none⟩ = some (.slice A0_1 l0_1.length c0_1) := (blk_cell BK169.out 1).trans rfl; have hfz9_0 := blk_frozen BK169.out 0; have hfz9_1 := blk_frozen BK169.out 1; have q10 : (1 : Int) ≤ ((l0_1.length : Int) : Int) := of_decide_eq_true (by first | (with_reducible assumption) | assumption); obtain ⟨i010, hi010, _, hsz10, _⟩ := info_parts info44; have hroom10 : l0_1.length ≤ c0_1 := HC0_1.out; have hC10 : Kd.C k44 _ A0_1 l0_1.length l0_1 := HR0_1.out; have hcut10 := cut_from (P := Tryz.prog) 28 44 .i64 Tryz.underlying28 hi010 2 hsz10 A0_1 l0_1.length c0_1 1 (by omega) q10; have hr10 := Kd.C_drop (m := (1 : Int).toNat) (c := c0_1) hC10 (by omega) hroom10; obtain ⟨A10, hA10⟩ : ∃ A1, A1 = (if c0_1 = (1 : Int).toNat then A0_1 else (A0_1 : Option Addr).map (·.add ((1 : Int).toNat * 2))) := ⟨_, rfl⟩; obtain ⟨c10, hc10⟩ : ∃ c1, c1 = c0_1 - (1 : Int).toNat := ⟨_, rfl⟩; have hy10 : y171.length = l0_1.length - (1 : Int).toNat := (by rw [Ny171.out, List.length_drop] <;> omega); rw [show (l0_1).drop (1 : Int).toNat = y171 from Ny171.out.symm] at hr10; replace hr10 : Kd.C k44 _ A10 y171.length y171 := (by rw [hA10]; exact hr10); rw [← hy10, ← hA10, ← hc10] at hcut10; have HR174 := Aside0.mk hr10; have HC174 := Aside0.mk (show y171.length ≤ c10 from by rw [hy10, hc10]; exact Nat.sub_le_sub_right hroom10 _); clear hr10 hC10 hroom10 hi010 hsz10 hc10; have KY10 := Aside0.mk hy10; have KA10 := Aside0.mk hA10; clear hy10 hA10; replace q10 := eq_true q10) | (go_at_call 30; (with_reducible refine (fair_has.calls _ _ y171 a0_0 A0_1 c0_1 l0_1 t175 _ ?side1 ?side2 ?side3 ?side4 ?sidebk A5.out).mono ?_); (case sidebk => repeat (first | exact BK169.out | (with_reducible refine blk_alloc ?_ _) | (with_reducible refine blk_drewN ?_ _) | (with_reducible refine blk_drew ?_))); (case side1 => repeat (first | exact (Kd.C_below HR174.out HB.out) | (with_reducible refine Kd.C_alloc ?_ _) | (with_reducible refine Kd.C_drewN ?_ _) | (with_reducible refine Kd.C_drew ?_))); (case side2 => exact HC174.out); (case side3 => repeat (first | exact (Kd.C_below HR0_1.out HB.out) | (with_reducible refine Kd.C_alloc ?_ _) | (with_reducible refine Kd.C_drewN ?_ _) | (with_reducible refine Kd.C_drew ?_))); (case side4 => exact HC0_1.out); rintro e w11 ⟨rfl, hb⟩; have n0_ := Aside0.mk (blk_below (g := gb169) (o := .cells #[.string a0_0, .slice A0_1 l0_1.length c0_1] 30 (0, 0)) (by (with_reducible repeat (first | refine blk_drewN ?_ _ | refine blk_drew ?_ | refine blk_alloc ?_ _)); exact BK169.out) hb); have n1_ := Aside0.mk (below_step (by repeat (first | (with_reducible first | exact HB.out | apply below_alloc | apply pw_below_drewN | apply below_drew1 | refine below_set ?_ GE169.out) | exact HB.out)) hb); clear BK169; clear HB; have BK169 := n0_; have HB := n1_; clear n0_ n1_; (try clear hb); (try clear hb2); (try clear hk); (try clear hi)))
   go_ret
   exact ⟨by first | rfl | (simp [errW_none, errW_some] <;> rfl) | (simp [*, errW_none, errW_some] <;> rfl), by repeat (first | (with_reducible first | exact HB.out | apply below_alloc | apply pw_below_drewN | apply below_drew1 | refine below_set ?_ GE169.out) | exact HB.out)⟩
  ·
   rw [if_neg c4] at H
   exact absurd H (by simp)
 ·
  replace c3 := Bool.eq_false_iff.mpr c3
  subst c3
  have H1 : (some false) = some r := by rw [if_neg (show ¬ (false = true) by decide)] at H; exact H
  clear H
  have H := H1
  clear H1
  obtain rfl := Option.some.inj H
  go_enter Tryz.func18, Tryz.ntmps18
  go_wp2_with (first | ((with_reducible refine gate_dst (N := 1) rfl ?_); refine box_event ?hg (N := 1) ?hd (cs := #[.string a0_0, .slice A0_1 l0_1.length c0_1]) (t := 30) ?hr ?_; (case hd => rfl); (case hg => rfl); (case hr => first | (go_simp; done) | (go_simp; rfl)); intro gb169 hg w12 hbox hb; have n0_ := Aside0.mk (below_step (by repeat (first | (with_reducible first | exact HB.out | apply below_alloc | apply pw_below_drewN | apply below_drew1) | exact HB.out)) hb); have n1_ := Aside0.mk (hbox); have n2_ := Aside0.mk ((by rw [hg]; exact (below_size (by repeat (first | (with_reducible first | exact HB.out | apply below_alloc | apply pw_below_drewN | apply below_drew1) | exact HB.out))) : w.heap.size ≤ gb169)); have n3_ := Aside0.mk ((by rw [hg]; exact (below_size (by repeat (first | (with_reducible first | exact HB.out | apply below_alloc | apply pw_below_drewN | apply below_drew1) | exact HB.out))) : w.heap.size ≤ gb169)); clear HB; have HB := n0_; have BK169 := n1_; have GW169 := n2_; have GE169 := n3_; clear n0_ n1_ n2_ n3_; clear hb hbox hg; have hcz13_0 : w12.cell? ⟨gb169, 0, none⟩ = some (.string a0_0) := (blk_cell BK169.out 0).trans rfl; have hcz13_1 : w12.cell? ⟨gb169, 1, none⟩ = some (.slice A0_1 l0_1.length c0_1) := (blk_cell BK169.out 1).trans rfl; have hfz13_0 := blk_frozen BK169.out 0; have hfz13_1 := blk_frozen BK169.out 1) | ((with_reducible refine gate_callee (f := 19) rfl ?_); refine goesL_ (some 4) rfl rfl Tryz.func19 (by kernel_rfl) rfl #[.agg #[.string a0_0, .slice A0_1 l0_1.length c0_1]] rfl (by (try simp only [List.map_toArray, List.map_cons, List.map_nil]); first | done | rfl | (simp only [List.length_drop, List.length_take]; rfl)) ?_; (with_reducible refine (tariff_Valid.calls k a0_0 _ _ l0_1 false _ ?side1 ?side2 A2.out).mono ?_); (case side1 => repeat (first | exact (Kd.C_below HR0_1.out HB.out) | (with_reducible refine Kd.C_alloc ?_ _) | (with_reducible refine Kd.C_drewN ?_ _) | (with_reducible refine Kd.C_drew ?_))); (case side2 => exact HC0_1.out); rintro e w14 ⟨rfl, hb⟩; refine ⟨_, rfl, ?_⟩; have n0_ := Aside0.mk (blk_below (g := gb169) (o := .cells #[.string a0_0, .slice A0_1 l0_1.length c0_1] 30 (0, 0)) (by (with_reducible repeat (first | refine blk_drewN ?_ _ | refine blk_drew ?_ | refine blk_alloc ?_ _)); exact BK169.out) hb); have n1_ := Aside0.mk (below_step (by repeat (first | (with_reducible first | exact HB.out | apply below_alloc | apply pw_below_drewN | apply below_drew1 | refine below_set ?_ GE169.out) | exact HB.out)) hb); clear BK169; clear HB; have BK169 := n0_; have HB := n1_; clear n0_ n1_; (try clear hb); (try clear hb2); (try clear hk); (try clear hi)))
  go_ret
  exact ⟨by first | rfl | (simp [errW_none, errW_some] <;> rfl) | (simp [*, errW_none, errW_some] <;> rfl), by repeat (first | (with_reducible first | exact HB.out | apply below_alloc | apply pw_below_drewN | apply below_drew1 | refine below_set ?_ GE169.out) | exact HB.out)⟩

end Go.Proofs.YtejgenhmhahgeaaGreatDoor.T
end
