-- Written by this session's own programs; what the law does not lean on is left out. Lean checks it.
import Derived.Test.YtejgenhmhahgeaaDoorGS
import Derived.Test.YtejgenhmhahgeaaDoorGQ
import Derived.Test.YtejgenhmhahgeaaDoorGTx28
import Derived.Test.YtejgenhmhahgeaaDoorGJ
import Derived.Test.YtejgenhmhahgeaaDoorGTx36
import Derived.Test.YtejgenhmhahgeaaDoorGTx38
import Derived.Test.YtejgenhmhahgeaaDoorGTx41
namespace Go.Proofs.YtejgenhmhahgeaaDoor.T
open Go.RowKit Go.Proofs.YtejgenhmhahgeaaDoorW.PrintWords Go.Proofs.YtejgenhmhahgeaaDoorW.PrintLast Go.Proofs.YtejgenhmhahgeaaDoorW.PrintMore
set_option linter.unusedVariables false
set_option linter.unusedSimpArgs false

mutual
def culetlaw44_TariffSplit.j0 : Nat → Bool → ByteArray → List (S42) → Int → Int → Option (Bool)
 | 0, _, _, _, _, _ => none
 | k + 1, x53, x224000, x224001, x225000, x225001 => if x53 = true then ((culetlaw44_awake.f k).bind fun t228 => (some t228)) else ((culetlaw44_Own.f k x224000 x224001).bind fun bt229 => ((tariff_Value.f k bt229.1 bt229.2 (wrap64 (x225000 + x225001))).bind fun bt234 => ((tariff_Total2.f k bt229.1 bt229.2 x225000 x225001).bind fun bt236 => (if bt234.2 = 0 then (culetlaw44_TariffSplit.j1 k bt234.1 bt236.1 (bt236.2 != 0) x224000 x224001 x225000 x225001 bt229.1 bt229.2) else (culetlaw44_TariffSplit.j1 k bt234.1 bt236.1 true x224000 x224001 x225000 x225001 bt229.1 bt229.2)))))
def culetlaw44_TariffSplit.j1 : Nat → Int → Int → Bool → ByteArray → List (S42) → Int → Int → ByteArray → List (S63) → Option (Bool)
 | 0, _, _, _, _, _, _, _, _, _ => none
 | k + 1, x6, x8, x78, x224000, x224001, x225000, x225001, x234000, x234001 => if x78 = true then (some false) else ((some (([x225000, x225001, wrap64 (x225000 + x225001)] : List Int) : List Int)).bind fun y238 => (culetlaw44_TariffSplit.l0 k x6 x8 ([] : List Int) y238 (y238.length : Int) 0 x224000 x224001 x234000 x234001))
def culetlaw44_TariffSplit.l0 : Nat → Int → Int → List Int → List Int → Int → Int → ByteArray → List (S42) → ByteArray → List (S63) → Option (Bool)
 | 0, _, _, _, _, _, _, _, _, _, _ => none
 | k + 1, x6, x8, x10, x88, x89, x90, x224000, x224001, x234000, x234001 => if x90 < x89 then (if 0 ≤ x90 then (if x90 < (x88.length : Int) then ((tariff_ClassOf.f k x234000 x234001 (rd x88 x90)).bind fun bt242 => (if x10.length < 17592186044416 then (culetlaw44_TariffSplit.l0 k x6 x8 (x10 ++ [bt242.1]) x88 x89 (wrap64 (x90 + 1)) x224000 x224001 x234000 x234001) else (none))) else (none)) else (none)) else (if 0 < (x10.length : Int) then (if 2 < (x10.length : Int) then (if (rd x10 0) = (rd x10 2) then (if 1 < (x10.length : Int) then (if (rd x10 1) = (rd x10 2) then (if (wrap64 (x6 - x8)) < 0 then (culetlaw44_TariffSplit.j3 k x6 x8 true x224000 x224001) else (culetlaw44_TariffSplit.j3 k x6 x8 (decide ((wrap64 (x6 - x8)) > 1)) x224000 x224001)) else (culetlaw44_TariffSplit.j3 k x6 x8 false x224000 x224001)) else (none)) else (culetlaw44_TariffSplit.j3 k x6 x8 false x224000 x224001)) else (none)) else (none))
def culetlaw44_TariffSplit.j3 : Nat → Int → Int → Bool → ByteArray → List (S42) → Option (Bool)
 | 0, _, _, _, _, _ => none
 | k + 1, x6, x8, x127, x224000, x224001 => if x127 = true then (some false) else (culetlaw44_TariffSplit.l1 k x6 x8 1 x224000 x224001)
def culetlaw44_TariffSplit.l1 : Nat → Int → Int → Int → ByteArray → List (S42) → Option (Bool)
 | 0, _, _, _, _, _ => none
 | k + 1, x6, x8, x13, x224000, x224001 => if x13 < (x224001.length : Int) then (if 0 ≤ (wrap64 (x13 - 1)) then (if (wrap64 (x13 - 1)) < (x224001.length : Int) then (if 0 ≤ x13 then (if ((rd_T42 x224001 (wrap64 (x13 - 1))).f1) > ((rd_T42 x224001 x13).f1) then (some true) else (culetlaw44_TariffSplit.l1 k x6 x8 (wrap64 (x13 + 1)) x224000 x224001)) else (none)) else (none)) else (none)) else (some (decide (x8 ≤ x6)))
end
def culetlaw44_TariffSplit.f (k : Nat) (a0_0 : ByteArray) (l0_1 : List (S42)) (a1_0 : Int) (a1_1 : Int) : Option (Bool) := (culetlaw44_awake.f k).bind fun t225 => (if t225 = true then ((culetref44_Few.f a0_0 l0_1).bind fun t226 => (if t226 = true then (if a1_0 < 0 then (culetlaw44_TariffSplit.j0 k true a0_0 l0_1 a1_0 a1_1) else (if a1_1 < 0 then (culetlaw44_TariffSplit.j0 k true a0_0 l0_1 a1_0 a1_1) else (if a1_0 > 1000000 then (culetlaw44_TariffSplit.j0 k true a0_0 l0_1 a1_0 a1_1) else (if a1_1 > 1000000 then (culetlaw44_TariffSplit.j0 k true a0_0 l0_1 a1_0 a1_1) else (if (wrap64 (a1_0 + a1_1)) > 1000000 then (culetlaw44_TariffSplit.j0 k true a0_0 l0_1 a1_0 a1_1) else ((culetref44_Valid.f k a0_0 l0_1).bind fun t227 => (culetlaw44_TariffSplit.j0 k (!t227) a0_0 l0_1 a1_0 a1_1))))))) else (culetlaw44_TariffSplit.j0 k true a0_0 l0_1 a1_0 a1_1))) else (culetlaw44_TariffSplit.j0 k true a0_0 l0_1 a1_0 a1_1))
def culetlaw44_TariffSplit.T5 : Bool × List (List Nat × List Nat) := (true, [([], []), ([], []), ([0, 1], [0, 1]), ([2], [2]), ([3], [3]), ([3], [3]), ([4, 2, 0, 1, 2, 3, 4], [4]), ([5, 6, 0, 1, 2, 3, 4, 5, 6], [5])])
def culetlaw44_TariffSplit.B5 : List Nat := [0, 0, 3, 7, 15, 15, 31, 127]
theorem culetlaw44_TariffSplit.tab5 : rtab .any (opsOf Tryd.f7 5) = culetlaw44_TariffSplit.T5 := by kernel_rfl
theorem culetlaw44_TariffSplit.bits5 : waitsOk culetlaw44_TariffSplit.T5.2 culetlaw44_TariffSplit.B5 = true := by kernel_rfl
def culetlaw44_TariffSplit.T19 : Bool × List (List Nat × List Nat) := (true, [([], []), ([0], [0]), ([], []), ([2], [2]), ([1, 3], [1, 3]), ([4], [4]), ([5], [5]), ([], []), ([7], [7]), ([], []), ([8, 9], [8, 9]), ([10], [10]), ([11], [11]), ([6, 12], [6, 12])])
def culetlaw44_TariffSplit.B19 : List Nat := [0, 1, 0, 4, 15, 31, 63, 0, 128, 0, 896, 1920, 3968, 8191]
theorem culetlaw44_TariffSplit.tab19 : rtab .any (opsOf Tryd.f7 19) = culetlaw44_TariffSplit.T19 := by kernel_rfl
theorem culetlaw44_TariffSplit.bits19 : waitsOk culetlaw44_TariffSplit.T19.2 culetlaw44_TariffSplit.B19 = true := by kernel_rfl
/-- The array of three classes, of which some are known. -/
def kcs (ks : List Int) : Array Value := #[.int .i64 (rd ks 0), .int .i64 (rd ks 1), .int .i64 (rd ks 2)]
theorem three_of (ks : List Int) (h : (ks.length : Int) < 3) : ks = [] ∨ (∃ a, ks = [a]) ∨ (∃ a b, ks = [a, b]) := by
 match ks, h with
 | [], _ => exact .inl rfl
 | [a], _ => exact .inr (.inl ⟨a, rfl⟩)
 | [a, b], _ => exact .inr (.inr ⟨a, b, rfl⟩)
 | _ :: _ :: _ :: _, h => simp only [List.length_cons] at h; omega
theorem R_arr {α : Type} {d : Kd α} {e : Nat} {w : World} {base : Nat} {v : Value} {xs : List α} (h : d.R e w base (fun _ => True) v xs) {g t : Nat} {cells : Array Value} (hb : w.heap[g]? = some (.cells cells t (0, 0))) (ht : ∀ q, q ∈ e :: d.E → q ≠ t) (i : Nat) (u : Value) : d.R e (w.setCell ⟨g, i, none⟩ u) base (fun _ => True) v xs :=
 Kd.R_mono (Kd.R_far (p := ⟨g, i, none⟩) (Kd.R_types h hb ht) (fun _ hk => hk.2) u) (fun _ _ => trivial)
theorem st3 (W : World) (g i : Nat) (v : Int) {old : Value} (hc : W.cell? ⟨g, i, none⟩ = some old) (hf : W.frozen? ⟨g, i, none⟩ = false) :
  (do Instr.storeAt 3 (.pointer (some ⟨g, i, none⟩)) (.int .i64 v); pure Next.skip : Sem Next).run Tryd.prog W = .ok .skip (W.setCell ⟨g, i, none⟩ (.int .i64 v)) := by
 have hu := Tryd.underlying3
 go_simp
set_option maxHeartbeats 8000000 in
set_option maxRecDepth 100000 in
theorem culetlaw44_TariffSplit.calls (k : Nat) (a0_0 : ByteArray) (A0_1 : Option Addr) (c0_1 : Nat) (l0_1 : List (S42)) (a1_0 : Int) (a1_1 : Int) (r : Bool) (w : World) (hTW : TW w) (hr0_1 : Kd.C k42 w A0_1 l0_1.length l0_1) (hc0_1 : l0_1.length ≤ c0_1) (h : culetlaw44_TariffSplit.f k a0_0 l0_1 a1_0 a1_1 = some r) :
  Calls Tryd.prog 7 #[.agg #[.string a0_0, .slice A0_1 l0_1.length c0_1], .agg #[.int .i64 a1_0, .int .i64 a1_1]] w fun e w' => e = .returned (.bool r) ∧ Below w.heap.size w w' := by
 have hu24 := Tryd.underlying24
 have hu46 := Tryd.underlying46
 have hu52 := Tryd.underlying52
 have hu42 := Tryd.underlying42
 have hu29 := Tryd.underlying29
 have HR0_1 := Aside0.mk hr0_1
 have HC0_1 := Aside0.mk hc0_1
 clear hr0_1 hc0_1
 have HB := Aside0.mk (Below.refl w.heap.size w)
 have HTW := Aside0.mk hTW
 clear hTW
 have H : ((culetlaw44_awake.f k).bind fun t225 => (if t225 = true then ((culetref44_Few.f a0_0 l0_1).bind fun t226 => (if t226 = true then (if a1_0 < 0 then (culetlaw44_TariffSplit.j0 k true a0_0 l0_1 a1_0 a1_1) else (if a1_1 < 0 then (culetlaw44_TariffSplit.j0 k true a0_0 l0_1 a1_0 a1_1) else (if a1_0 > 1000000 then (culetlaw44_TariffSplit.j0 k true a0_0 l0_1 a1_0 a1_1) else (if a1_1 > 1000000 then (culetlaw44_TariffSplit.j0 k true a0_0 l0_1 a1_0 a1_1) else (if (wrap64 (a1_0 + a1_1)) > 1000000 then (culetlaw44_TariffSplit.j0 k true a0_0 l0_1 a1_0 a1_1) else ((culetref44_Valid.f k a0_0 l0_1).bind fun t227 => (culetlaw44_TariffSplit.j0 k (!t227) a0_0 l0_1 a1_0 a1_1))))))) else (culetlaw44_TariffSplit.j0 k true a0_0 l0_1 a1_0 a1_1))) else (culetlaw44_TariffSplit.j0 k true a0_0 l0_1 a1_0 a1_1))) = some r := h
 clear h
 have HC3 := Aside0.mk H
 clear H
 go_enter Tryd.func7, Tryd.ntmps7
 go_upto_region 1 with (first | ((with_reducible refine gate_dst (N := 2) rfl ?_); refine box_event ?hg (N := 2) ?hd (cs := #[.string a0_0, .slice A0_1 l0_1.length c0_1]) (t := 24) ?hr ?_; (case hd => rfl); (case hg => rfl); (case hr => first | (go_simp; done) | (go_simp; rfl)); intro gb223 hg w4 hbox hb; have n0_ := Aside0.mk (below_step (by repeat (first | (with_reducible first | exact HB.out | apply below_alloc | apply pw_below_drewN | apply below_drew1) | exact HB.out)) hb); have n1_ := Aside0.mk (hbox); have n2_ := Aside0.mk ((by rw [hg]; exact (below_size (by repeat (first | (with_reducible first | exact HB.out | apply below_alloc | apply pw_below_drewN | apply below_drew1) | exact HB.out))) : w.heap.size ≤ gb223)); have n3_ := Aside0.mk ((by rw [hg]; exact (below_size (by repeat (first | (with_reducible first | exact HB.out | apply below_alloc | apply pw_below_drewN | apply below_drew1) | exact HB.out))) : w.heap.size ≤ gb223)); clear HB; have HB := n0_; have BK223 := n1_; have GW223 := n2_; have GE223 := n3_; clear n0_ n1_ n2_ n3_; clear hb hbox hg) | ((with_reducible refine gate_dst (N := 3) rfl ?_); refine box_event ?hg (N := 3) ?hd (cs := #[.int .i64 a1_0, .int .i64 a1_1]) (t := 46) ?hr ?_; (case hd => rfl); (case hg => rfl); (case hr => first | (go_simp; done) | (go_simp; rfl)); intro gb224 hg w5 hbox hb; have n0_ := Aside0.mk (blk_below (g := gb223) (o := .cells #[.string a0_0, .slice A0_1 l0_1.length c0_1] 24 (0, 0)) (by (with_reducible repeat (first | refine blk_drewN ?_ _ | refine blk_drew ?_ | refine blk_alloc ?_ _)); exact BK223.out) hb); have n1_ := Aside0.mk (below_step (by repeat (first | (with_reducible first | exact HB.out | apply below_alloc | apply pw_below_drewN | apply below_drew1 | refine below_set ?_ GE223.out) | exact HB.out)) hb); have n2_ := Aside0.mk (hbox); have n3_ := Aside0.mk ((by rw [hg]; exact (below_size (by repeat (first | (with_reducible first | exact HB.out | apply below_alloc | apply pw_below_drewN | apply below_drew1 | refine below_set ?_ GE223.out) | exact HB.out))) : w.heap.size ≤ gb224)); have n4_ := Aside0.mk ((by rw [hg]; exact (below_size (by repeat (first | (with_reducible first | exact HB.out | apply below_alloc | apply pw_below_drewN | apply below_drew1 | refine below_set ?_ GE223.out) | exact HB.out))) : w.heap.size ≤ gb224)); have n5_ := Aside0.mk ((by rw [hg]; exact Nat.ne_of_lt (blk_lt (g := gb223) (o := .cells #[.string a0_0, .slice A0_1 l0_1.length c0_1] 24 (0, 0)) (by (with_reducible repeat (first | refine blk_drewN ?_ _ | refine blk_drew ?_ | refine blk_alloc ?_ _)); exact BK223.out)) : gb223 ≠ gb224)); have n6_ := Aside0.mk ((by rw [hg]; exact Nat.ne_of_gt (blk_lt (g := gb223) (o := .cells #[.string a0_0, .slice A0_1 l0_1.length c0_1] 24 (0, 0)) (by (with_reducible repeat (first | refine blk_drewN ?_ _ | refine blk_drew ?_ | refine blk_alloc ?_ _)); exact BK223.out)) : gb224 ≠ gb223)); clear BK223; clear HB; have BK223 := n0_; have HB := n1_; have BK224 := n2_; have GW224 := n3_; have GE224 := n4_; have NB223_224 := n5_; have NB224_223 := n6_; clear n0_ n1_ n2_ n3_ n4_ n5_ n6_; clear hb hbox hg))
 (try simp only [Act.put, List.setIfInBounds_toArray, List.set_cons_zero, List.set_cons_succ])
 go_cut [53] (fun v53 wc => ∃ (kq : Nat) (x53_2 : Bool), v53 = .bool x53_2 ∧ Aside0 (culetlaw44_TariffSplit.j0 kq x53_2 a0_0 l0_1 a1_0 a1_1 = some r) ∧ Aside0 (kq ≤ k) ∧ Aside0 (wc.heap[gb223]? = some (.cells #[.string a0_0, (.slice A0_1 l0_1.length c0_1)] 24 (0, 0))) ∧ Aside0 (wc.heap[gb224]? = some (.cells #[.int .i64 a1_0, .int .i64 a1_1] 46 (0, 0))) ∧ Aside0 (Below w.heap.size w wc))
 case first =>
  have H := HC3.out
  clear HC3
  replace H := Option.bind_eq_some_iff.mp H
  obtain ⟨t225, A60, H⟩ := H
  replace H : (if t225 = true then ((culetref44_Few.f a0_0 l0_1).bind fun t226 => (if t226 = true then (if a1_0 < 0 then (culetlaw44_TariffSplit.j0 k true a0_0 l0_1 a1_0 a1_1) else (if a1_1 < 0 then (culetlaw44_TariffSplit.j0 k true a0_0 l0_1 a1_0 a1_1) else (if a1_0 > 1000000 then (culetlaw44_TariffSplit.j0 k true a0_0 l0_1 a1_0 a1_1) else (if a1_1 > 1000000 then (culetlaw44_TariffSplit.j0 k true a0_0 l0_1 a1_0 a1_1) else (if (wrap64 (a1_0 + a1_1)) > 1000000 then (culetlaw44_TariffSplit.j0 k true a0_0 l0_1 a1_0 a1_1) else ((culetref44_Valid.f k a0_0 l0_1).bind fun t227 => (culetlaw44_TariffSplit.j0 k (!t227) a0_0 l0_1 a1_0 a1_1))))))) else (culetlaw44_TariffSplit.j0 k true a0_0 l0_1 a1_0 a1_1))) else (culetlaw44_TariffSplit.j0 k true a0_0 l0_1 a1_0 a1_1)) = some r := H
  have A6 := Aside0.mk A60
  clear A60
  by_cases c7 : t225 = true
  ·
   subst c7
   have H1 : ((culetref44_Few.f a0_0 l0_1).bind fun t226 => (if t226 = true then (if a1_0 < 0 then (culetlaw44_TariffSplit.j0 k true a0_0 l0_1 a1_0 a1_1) else (if a1_1 < 0 then (culetlaw44_TariffSplit.j0 k true a0_0 l0_1 a1_0 a1_1) else (if a1_0 > 1000000 then (culetlaw44_TariffSplit.j0 k true a0_0 l0_1 a1_0 a1_1) else (if a1_1 > 1000000 then (culetlaw44_TariffSplit.j0 k true a0_0 l0_1 a1_0 a1_1) else (if (wrap64 (a1_0 + a1_1)) > 1000000 then (culetlaw44_TariffSplit.j0 k true a0_0 l0_1 a1_0 a1_1) else ((culetref44_Valid.f k a0_0 l0_1).bind fun t227 => (culetlaw44_TariffSplit.j0 k (!t227) a0_0 l0_1 a1_0 a1_1))))))) else (culetlaw44_TariffSplit.j0 k true a0_0 l0_1 a1_0 a1_1))) = some r := by rw [if_pos rfl] at H; exact H
   clear H
   have H := H1
   clear H1
   replace H := Option.bind_eq_some_iff.mp H
   obtain ⟨t226, A80, H⟩ := H
   replace H : (if t226 = true then (if a1_0 < 0 then (culetlaw44_TariffSplit.j0 k true a0_0 l0_1 a1_0 a1_1) else (if a1_1 < 0 then (culetlaw44_TariffSplit.j0 k true a0_0 l0_1 a1_0 a1_1) else (if a1_0 > 1000000 then (culetlaw44_TariffSplit.j0 k true a0_0 l0_1 a1_0 a1_1) else (if a1_1 > 1000000 then (culetlaw44_TariffSplit.j0 k true a0_0 l0_1 a1_0 a1_1) else (if (wrap64 (a1_0 + a1_1)) > 1000000 then (culetlaw44_TariffSplit.j0 k true a0_0 l0_1 a1_0 a1_1) else ((culetref44_Valid.f k a0_0 l0_1).bind fun t227 => (culetlaw44_TariffSplit.j0 k (!t227) a0_0 l0_1 a1_0 a1_1))))))) else (culetlaw44_TariffSplit.j0 k true a0_0 l0_1 a1_0 a1_1)) = some r := H
   have A8 := Aside0.mk A80
   clear A80
   by_cases c9 : t226 = true
   ·
    subst c9
    have H1 : (if a1_0 < 0 then (culetlaw44_TariffSplit.j0 k true a0_0 l0_1 a1_0 a1_1) else (if a1_1 < 0 then (culetlaw44_TariffSplit.j0 k true a0_0 l0_1 a1_0 a1_1) else (if a1_0 > 1000000 then (culetlaw44_TariffSplit.j0 k true a0_0 l0_1 a1_0 a1_1) else (if a1_1 > 1000000 then (culetlaw44_TariffSplit.j0 k true a0_0 l0_1 a1_0 a1_1) else (if (wrap64 (a1_0 + a1_1)) > 1000000 then (culetlaw44_TariffSplit.j0 k true a0_0 l0_1 a1_0 a1_1) else ((culetref44_Valid.f k a0_0 l0_1).bind fun t227 => (culetlaw44_TariffSplit.j0 k (!t227) a0_0 l0_1 a1_0 a1_1))))))) = some r := by rw [if_pos rfl] at H; exact H
    clear H
    have H := H1
    clear H1
    by_cases c10 : a1_0 < 0
    ·
     rw [if_pos c10] at H
     have c10b0 : decide (a1_0 < 0) = true := decide_eq_true c10
     clear c10
     (first | rw [c10b0] | (simp only [i64_w, i32_w]; rw [c10b0]) | skip)
     have H' := Aside0.mk H
     clear H
     go_wp2_with (first | ((with_reducible refine gate_callee (f := 9) rfl ?_); refine goesL_ (some 14) rfl rfl Tryd.func9 (by kernel_rfl) rfl #[] rfl (by (try simp only [List.map_toArray, List.map_cons, List.map_nil]); first | done | rfl | (simp only [List.length_drop, List.length_take]; rfl)) ?_; (with_reducible refine (culetlaw44_awake.calls k  true _ (HTW.out.at (by repeat (first | (with_reducible first | exact HB.out | apply below_alloc | apply pw_below_drewN | apply below_drew1 | refine below_set ?_ GE223.out | refine below_set ?_ GE224.out | refine below_set ?_ GE233.out) | exact HB.out))) A6.out).mono ?_); rintro e w11 ⟨rfl, hb⟩; refine ⟨_, rfl, ?_⟩; have n0_ := Aside0.mk (blk_below (g := gb223) (o := .cells #[.string a0_0, .slice A0_1 l0_1.length c0_1] 24 (0, 0)) (by (with_reducible repeat (first | refine blk_drewN ?_ _ | refine blk_drew ?_ | refine blk_alloc ?_ _)); exact BK223.out) hb); have n1_ := Aside0.mk (blk_below (g := gb224) (o := .cells #[.int .i64 a1_0, .int .i64 a1_1] 46 (0, 0)) (by (with_reducible repeat (first | refine blk_drewN ?_ _ | refine blk_drew ?_ | refine blk_alloc ?_ _)); exact BK224.out) hb); have n2_ := Aside0.mk (below_step (by repeat (first | (with_reducible first | exact HB.out | apply below_alloc | apply pw_below_drewN | apply below_drew1 | refine below_set ?_ GE223.out | refine below_set ?_ GE224.out) | exact HB.out)) hb); clear BK223; clear BK224; clear HB; have BK223 := n0_; have BK224 := n1_; have HB := n2_; clear n0_ n1_ n2_; (try clear hb); (try clear hb2); (try clear hk); (try clear hi); have hnb12 := NB223_224.out; have hnc12 := NB224_223.out; have hcz13_0 : w11.cell? ⟨gb223, 0, none⟩ = some (.string a0_0) := (blk_cell BK223.out 0).trans rfl; have hcz13_1 : w11.cell? ⟨gb223, 1, none⟩ = some (.slice A0_1 l0_1.length c0_1) := (blk_cell BK223.out 1).trans rfl; have hfz13_0 := blk_frozen BK223.out 0; have hfz13_1 := blk_frozen BK223.out 1) | (go_at_call 10; (with_reducible refine (culetref44_Few.calls a0_0 _ _ l0_1 true _ ?side1 ?side2 A8.out).mono ?_); (case side1 => repeat (first | exact (Kd.C_below HR0_1.out HB.out) | (with_reducible refine Kd.C_alloc ?_ _) | (with_reducible refine Kd.C_drewN ?_ _) | (with_reducible refine Kd.C_drew ?_))); (case side2 => exact HC0_1.out); rintro e w14 ⟨rfl, hb⟩; have n0_ := Aside0.mk (blk_below (g := gb223) (o := .cells #[.string a0_0, .slice A0_1 l0_1.length c0_1] 24 (0, 0)) (by (with_reducible repeat (first | refine blk_drewN ?_ _ | refine blk_drew ?_ | refine blk_alloc ?_ _)); exact BK223.out) hb); have n1_ := Aside0.mk (blk_below (g := gb224) (o := .cells #[.int .i64 a1_0, .int .i64 a1_1] 46 (0, 0)) (by (with_reducible repeat (first | refine blk_drewN ?_ _ | refine blk_drew ?_ | refine blk_alloc ?_ _)); exact BK224.out) hb); have n2_ := Aside0.mk (below_step (by repeat (first | (with_reducible first | exact HB.out | apply below_alloc | apply pw_below_drewN | apply below_drew1 | refine below_set ?_ GE223.out | refine below_set ?_ GE224.out) | exact HB.out)) hb); clear BK223; clear BK224; clear HB; have BK223 := n0_; have BK224 := n1_; have HB := n2_; clear n0_ n1_ n2_; (try clear hb); (try clear hb2); (try clear hk); (try clear hi); have hcz15_0 : w14.cell? ⟨gb224, 0, none⟩ = some (.int .i64 a1_0) := (blk_cell BK224.out 0).trans rfl; have hcz15_1 : w14.cell? ⟨gb224, 1, none⟩ = some (.int .i64 a1_1) := (blk_cell BK224.out 1).trans rfl; have hfz15_0 := blk_frozen BK224.out 0; have hfz15_1 := blk_frozen BK224.out 1))
     go_meet
     case rel => exact ⟨_, (true), (by first | rfl | (simp; done) | (simp [*]; done)), H', ⟨by first | omega | exact Nat.le_refl _⟩, ⟨by (with_reducible repeat (first | refine blk_drewN ?_ _ | refine blk_drew ?_ | refine blk_alloc ?_ _)); exact BK223.out⟩, ⟨by (with_reducible repeat (first | refine blk_drewN ?_ _ | refine blk_drew ?_ | refine blk_alloc ?_ _)); exact BK224.out⟩, ⟨by repeat (first | (with_reducible first | exact HB.out | apply below_alloc | apply pw_below_drewN | apply below_drew1 | refine below_set ?_ GE223.out | refine below_set ?_ GE224.out) | exact HB.out)⟩⟩
    ·
     rw [if_neg c10] at H
     have c10b0 : decide (a1_0 < 0) = false := decide_eq_false c10
     clear c10
     (first | rw [c10b0] | (simp only [i64_w, i32_w]; rw [c10b0]) | skip)
     by_cases c16 : a1_1 < 0
     ·
      rw [if_pos c16] at H
      have c16b0 : decide (a1_1 < 0) = true := decide_eq_true c16
      clear c16
      have H' := Aside0.mk H
      clear H
      go_wp2_with (first | ((with_reducible refine gate_callee (f := 9) rfl ?_); refine goesL_ (some 14) rfl rfl Tryd.func9 (by kernel_rfl) rfl #[] rfl (by (try simp only [List.map_toArray, List.map_cons, List.map_nil]); first | done | rfl | (simp only [List.length_drop, List.length_take]; rfl)) ?_; (with_reducible refine (culetlaw44_awake.calls k  true _ (HTW.out.at (by repeat (first | (with_reducible first | exact HB.out | apply below_alloc | apply pw_below_drewN | apply below_drew1 | refine below_set ?_ GE223.out | refine below_set ?_ GE224.out | refine below_set ?_ GE233.out) | exact HB.out))) A6.out).mono ?_); rintro e w17 ⟨rfl, hb⟩; refine ⟨_, rfl, ?_⟩; have n0_ := Aside0.mk (blk_below (g := gb223) (o := .cells #[.string a0_0, .slice A0_1 l0_1.length c0_1] 24 (0, 0)) (by (with_reducible repeat (first | refine blk_drewN ?_ _ | refine blk_drew ?_ | refine blk_alloc ?_ _)); exact BK223.out) hb); have n1_ := Aside0.mk (blk_below (g := gb224) (o := .cells #[.int .i64 a1_0, .int .i64 a1_1] 46 (0, 0)) (by (with_reducible repeat (first | refine blk_drewN ?_ _ | refine blk_drew ?_ | refine blk_alloc ?_ _)); exact BK224.out) hb); have n2_ := Aside0.mk (below_step (by repeat (first | (with_reducible first | exact HB.out | apply below_alloc | apply pw_below_drewN | apply below_drew1 | refine below_set ?_ GE223.out | refine below_set ?_ GE224.out) | exact HB.out)) hb); clear BK223; clear BK224; clear HB; have BK223 := n0_; have BK224 := n1_; have HB := n2_; clear n0_ n1_ n2_; (try clear hb); (try clear hb2); (try clear hk); (try clear hi); have hnb18 := NB223_224.out; have hnc18 := NB224_223.out; have hcz19_0 : w17.cell? ⟨gb223, 0, none⟩ = some (.string a0_0) := (blk_cell BK223.out 0).trans rfl; have hcz19_1 : w17.cell? ⟨gb223, 1, none⟩ = some (.slice A0_1 l0_1.length c0_1) := (blk_cell BK223.out 1).trans rfl; have hfz19_0 := blk_frozen BK223.out 0; have hfz19_1 := blk_frozen BK223.out 1) | (go_at_call 10; (with_reducible refine (culetref44_Few.calls a0_0 _ _ l0_1 true _ ?side1 ?side2 A8.out).mono ?_); (case side1 => repeat (first | exact (Kd.C_below HR0_1.out HB.out) | (with_reducible refine Kd.C_alloc ?_ _) | (with_reducible refine Kd.C_drewN ?_ _) | (with_reducible refine Kd.C_drew ?_))); (case side2 => exact HC0_1.out); rintro e w20 ⟨rfl, hb⟩; have n0_ := Aside0.mk (blk_below (g := gb223) (o := .cells #[.string a0_0, .slice A0_1 l0_1.length c0_1] 24 (0, 0)) (by (with_reducible repeat (first | refine blk_drewN ?_ _ | refine blk_drew ?_ | refine blk_alloc ?_ _)); exact BK223.out) hb); have n1_ := Aside0.mk (blk_below (g := gb224) (o := .cells #[.int .i64 a1_0, .int .i64 a1_1] 46 (0, 0)) (by (with_reducible repeat (first | refine blk_drewN ?_ _ | refine blk_drew ?_ | refine blk_alloc ?_ _)); exact BK224.out) hb); have n2_ := Aside0.mk (below_step (by repeat (first | (with_reducible first | exact HB.out | apply below_alloc | apply pw_below_drewN | apply below_drew1 | refine below_set ?_ GE223.out | refine below_set ?_ GE224.out) | exact HB.out)) hb); clear BK223; clear BK224; clear HB; have BK223 := n0_; have BK224 := n1_; have HB := n2_; clear n0_ n1_ n2_; (try clear hb); (try clear hb2); (try clear hk); (try clear hi); have hcz21_0 : w20.cell? ⟨gb224, 0, none⟩ = some (.int .i64 a1_0) := (blk_cell BK224.out 0).trans rfl; have hcz21_1 : w20.cell? ⟨gb224, 1, none⟩ = some (.int .i64 a1_1) := (blk_cell BK224.out 1).trans rfl; have hfz21_0 := blk_frozen BK224.out 0; have hfz21_1 := blk_frozen BK224.out 1))
      go_meet
      case rel => exact ⟨_, (true), (by first | rfl | (simp; done) | (simp [*]; done)), H', ⟨by first | omega | exact Nat.le_refl _⟩, ⟨by (with_reducible repeat (first | refine blk_drewN ?_ _ | refine blk_drew ?_ | refine blk_alloc ?_ _)); exact BK223.out⟩, ⟨by (with_reducible repeat (first | refine blk_drewN ?_ _ | refine blk_drew ?_ | refine blk_alloc ?_ _)); exact BK224.out⟩, ⟨by repeat (first | (with_reducible first | exact HB.out | apply below_alloc | apply pw_below_drewN | apply below_drew1 | refine below_set ?_ GE223.out | refine below_set ?_ GE224.out) | exact HB.out)⟩⟩
     ·
      rw [if_neg c16] at H
      have c16b0 : decide (a1_1 < 0) = false := decide_eq_false c16
      clear c16
      by_cases c22 : a1_0 > 1000000
      ·
       rw [if_pos c22] at H
       have c22b0 : decide (1000000 < a1_0) = true := decide_eq_true c22
       clear c22
       have H' := Aside0.mk H
       clear H
       go_wp2_with (first | ((with_reducible refine gate_callee (f := 9) rfl ?_); refine goesL_ (some 14) rfl rfl Tryd.func9 (by kernel_rfl) rfl #[] rfl (by (try simp only [List.map_toArray, List.map_cons, List.map_nil]); first | done | rfl | (simp only [List.length_drop, List.length_take]; rfl)) ?_; (with_reducible refine (culetlaw44_awake.calls k  true _ (HTW.out.at (by repeat (first | (with_reducible first | exact HB.out | apply below_alloc | apply pw_below_drewN | apply below_drew1 | refine below_set ?_ GE223.out | refine below_set ?_ GE224.out | refine below_set ?_ GE233.out) | exact HB.out))) A6.out).mono ?_); rintro e w23 ⟨rfl, hb⟩; refine ⟨_, rfl, ?_⟩; have n0_ := Aside0.mk (blk_below (g := gb223) (o := .cells #[.string a0_0, .slice A0_1 l0_1.length c0_1] 24 (0, 0)) (by (with_reducible repeat (first | refine blk_drewN ?_ _ | refine blk_drew ?_ | refine blk_alloc ?_ _)); exact BK223.out) hb); have n1_ := Aside0.mk (blk_below (g := gb224) (o := .cells #[.int .i64 a1_0, .int .i64 a1_1] 46 (0, 0)) (by (with_reducible repeat (first | refine blk_drewN ?_ _ | refine blk_drew ?_ | refine blk_alloc ?_ _)); exact BK224.out) hb); have n2_ := Aside0.mk (below_step (by repeat (first | (with_reducible first | exact HB.out | apply below_alloc | apply pw_below_drewN | apply below_drew1 | refine below_set ?_ GE223.out | refine below_set ?_ GE224.out) | exact HB.out)) hb); clear BK223; clear BK224; clear HB; have BK223 := n0_; have BK224 := n1_; have HB := n2_; clear n0_ n1_ n2_; (try clear hb); (try clear hb2); (try clear hk); (try clear hi); have hnb24 := NB223_224.out; have hnc24 := NB224_223.out; have hcz25_0 : w23.cell? ⟨gb223, 0, none⟩ = some (.string a0_0) := (blk_cell BK223.out 0).trans rfl; have hcz25_1 : w23.cell? ⟨gb223, 1, none⟩ = some (.slice A0_1 l0_1.length c0_1) := (blk_cell BK223.out 1).trans rfl; have hfz25_0 := blk_frozen BK223.out 0; have hfz25_1 := blk_frozen BK223.out 1) | (go_at_call 10; (with_reducible refine (culetref44_Few.calls a0_0 _ _ l0_1 true _ ?side1 ?side2 A8.out).mono ?_); (case side1 => repeat (first | exact (Kd.C_below HR0_1.out HB.out) | (with_reducible refine Kd.C_alloc ?_ _) | (with_reducible refine Kd.C_drewN ?_ _) | (with_reducible refine Kd.C_drew ?_))); (case side2 => exact HC0_1.out); rintro e w26 ⟨rfl, hb⟩; have n0_ := Aside0.mk (blk_below (g := gb223) (o := .cells #[.string a0_0, .slice A0_1 l0_1.length c0_1] 24 (0, 0)) (by (with_reducible repeat (first | refine blk_drewN ?_ _ | refine blk_drew ?_ | refine blk_alloc ?_ _)); exact BK223.out) hb); have n1_ := Aside0.mk (blk_below (g := gb224) (o := .cells #[.int .i64 a1_0, .int .i64 a1_1] 46 (0, 0)) (by (with_reducible repeat (first | refine blk_drewN ?_ _ | refine blk_drew ?_ | refine blk_alloc ?_ _)); exact BK224.out) hb); have n2_ := Aside0.mk (below_step (by repeat (first | (with_reducible first | exact HB.out | apply below_alloc | apply pw_below_drewN | apply below_drew1 | refine below_set ?_ GE223.out | refine below_set ?_ GE224.out) | exact HB.out)) hb); clear BK223; clear BK224; clear HB; have BK223 := n0_; have BK224 := n1_; have HB := n2_; clear n0_ n1_ n2_; (try clear hb); (try clear hb2); (try clear hk); (try clear hi); have hcz27_0 : w26.cell? ⟨gb224, 0, none⟩ = some (.int .i64 a1_0) := (blk_cell BK224.out 0).trans rfl; have hcz27_1 : w26.cell? ⟨gb224, 1, none⟩ = some (.int .i64 a1_1) := (blk_cell BK224.out 1).trans rfl; have hfz27_0 := blk_frozen BK224.out 0; have hfz27_1 := blk_frozen BK224.out 1))
       go_meet
       case rel => exact ⟨_, (true), (by first | rfl | (simp; done) | (simp [*]; done)), H', ⟨by first | omega | exact Nat.le_refl _⟩, ⟨by (with_reducible repeat (first | refine blk_drewN ?_ _ | refine blk_drew ?_ | refine blk_alloc ?_ _)); exact BK223.out⟩, ⟨by (with_reducible repeat (first | refine blk_drewN ?_ _ | refine blk_drew ?_ | refine blk_alloc ?_ _)); exact BK224.out⟩, ⟨by repeat (first | (with_reducible first | exact HB.out | apply below_alloc | apply pw_below_drewN | apply below_drew1 | refine below_set ?_ GE223.out | refine below_set ?_ GE224.out) | exact HB.out)⟩⟩
      ·
       rw [if_neg c22] at H
       have c22b0 : decide (1000000 < a1_0) = false := decide_eq_false c22
       clear c22
       by_cases c28 : a1_1 > 1000000
       ·
        rw [if_pos c28] at H
        have c28b0 : decide (1000000 < a1_1) = true := decide_eq_true c28
        clear c28
        have H' := Aside0.mk H
        clear H
        go_wp2_with (first | ((with_reducible refine gate_callee (f := 9) rfl ?_); refine goesL_ (some 14) rfl rfl Tryd.func9 (by kernel_rfl) rfl #[] rfl (by (try simp only [List.map_toArray, List.map_cons, List.map_nil]); first | done | rfl | (simp only [List.length_drop, List.length_take]; rfl)) ?_; (with_reducible refine (culetlaw44_awake.calls k  true _ (HTW.out.at (by repeat (first | (with_reducible first | exact HB.out | apply below_alloc | apply pw_below_drewN | apply below_drew1 | refine below_set ?_ GE223.out | refine below_set ?_ GE224.out | refine below_set ?_ GE233.out) | exact HB.out))) A6.out).mono ?_); rintro e w29 ⟨rfl, hb⟩; refine ⟨_, rfl, ?_⟩; have n0_ := Aside0.mk (blk_below (g := gb223) (o := .cells #[.string a0_0, .slice A0_1 l0_1.length c0_1] 24 (0, 0)) (by (with_reducible repeat (first | refine blk_drewN ?_ _ | refine blk_drew ?_ | refine blk_alloc ?_ _)); exact BK223.out) hb); have n1_ := Aside0.mk (blk_below (g := gb224) (o := .cells #[.int .i64 a1_0, .int .i64 a1_1] 46 (0, 0)) (by (with_reducible repeat (first | refine blk_drewN ?_ _ | refine blk_drew ?_ | refine blk_alloc ?_ _)); exact BK224.out) hb); have n2_ := Aside0.mk (below_step (by repeat (first | (with_reducible first | exact HB.out | apply below_alloc | apply pw_below_drewN | apply below_drew1 | refine below_set ?_ GE223.out | refine below_set ?_ GE224.out) | exact HB.out)) hb); clear BK223; clear BK224; clear HB; have BK223 := n0_; have BK224 := n1_; have HB := n2_; clear n0_ n1_ n2_; (try clear hb); (try clear hb2); (try clear hk); (try clear hi); have hnb30 := NB223_224.out; have hnc30 := NB224_223.out; have hcz31_0 : w29.cell? ⟨gb223, 0, none⟩ = some (.string a0_0) := (blk_cell BK223.out 0).trans rfl; have hcz31_1 : w29.cell? ⟨gb223, 1, none⟩ = some (.slice A0_1 l0_1.length c0_1) := (blk_cell BK223.out 1).trans rfl; have hfz31_0 := blk_frozen BK223.out 0; have hfz31_1 := blk_frozen BK223.out 1) | (go_at_call 10; (with_reducible refine (culetref44_Few.calls a0_0 _ _ l0_1 true _ ?side1 ?side2 A8.out).mono ?_); (case side1 => repeat (first | exact (Kd.C_below HR0_1.out HB.out) | (with_reducible refine Kd.C_alloc ?_ _) | (with_reducible refine Kd.C_drewN ?_ _) | (with_reducible refine Kd.C_drew ?_))); (case side2 => exact HC0_1.out); rintro e w32 ⟨rfl, hb⟩; have n0_ := Aside0.mk (blk_below (g := gb223) (o := .cells #[.string a0_0, .slice A0_1 l0_1.length c0_1] 24 (0, 0)) (by (with_reducible repeat (first | refine blk_drewN ?_ _ | refine blk_drew ?_ | refine blk_alloc ?_ _)); exact BK223.out) hb); have n1_ := Aside0.mk (blk_below (g := gb224) (o := .cells #[.int .i64 a1_0, .int .i64 a1_1] 46 (0, 0)) (by (with_reducible repeat (first | refine blk_drewN ?_ _ | refine blk_drew ?_ | refine blk_alloc ?_ _)); exact BK224.out) hb); have n2_ := Aside0.mk (below_step (by repeat (first | (with_reducible first | exact HB.out | apply below_alloc | apply pw_below_drewN | apply below_drew1 | refine below_set ?_ GE223.out | refine below_set ?_ GE224.out) | exact HB.out)) hb); clear BK223; clear BK224; clear HB; have BK223 := n0_; have BK224 := n1_; have HB := n2_; clear n0_ n1_ n2_; (try clear hb); (try clear hb2); (try clear hk); (try clear hi); have hcz33_0 : w32.cell? ⟨gb224, 0, none⟩ = some (.int .i64 a1_0) := (blk_cell BK224.out 0).trans rfl; have hcz33_1 : w32.cell? ⟨gb224, 1, none⟩ = some (.int .i64 a1_1) := (blk_cell BK224.out 1).trans rfl; have hfz33_0 := blk_frozen BK224.out 0; have hfz33_1 := blk_frozen BK224.out 1))
        go_meet
        case rel => exact ⟨_, (true), (by first | rfl | (simp; done) | (simp [*]; done)), H', ⟨by first | omega | exact Nat.le_refl _⟩, ⟨by (with_reducible repeat (first | refine blk_drewN ?_ _ | refine blk_drew ?_ | refine blk_alloc ?_ _)); exact BK223.out⟩, ⟨by (with_reducible repeat (first | refine blk_drewN ?_ _ | refine blk_drew ?_ | refine blk_alloc ?_ _)); exact BK224.out⟩, ⟨by repeat (first | (with_reducible first | exact HB.out | apply below_alloc | apply pw_below_drewN | apply below_drew1 | refine below_set ?_ GE223.out | refine below_set ?_ GE224.out) | exact HB.out)⟩⟩
       ·
        rw [if_neg c28] at H
        have c28b0 : decide (1000000 < a1_1) = false := decide_eq_false c28
        clear c28
        by_cases c34 : (wrap64 (a1_0 + a1_1)) > 1000000
        ·
         rw [if_pos c34] at H
         have c34b0 : decide (1000000 < (wrap64 (a1_0 + a1_1))) = true := decide_eq_true c34
         clear c34
         have H' := Aside0.mk H
         clear H
         go_wp2_with (first | ((with_reducible refine gate_callee (f := 9) rfl ?_); refine goesL_ (some 14) rfl rfl Tryd.func9 (by kernel_rfl) rfl #[] rfl (by (try simp only [List.map_toArray, List.map_cons, List.map_nil]); first | done | rfl | (simp only [List.length_drop, List.length_take]; rfl)) ?_; (with_reducible refine (culetlaw44_awake.calls k  true _ (HTW.out.at (by repeat (first | (with_reducible first | exact HB.out | apply below_alloc | apply pw_below_drewN | apply below_drew1 | refine below_set ?_ GE223.out | refine below_set ?_ GE224.out | refine below_set ?_ GE233.out) | exact HB.out))) A6.out).mono ?_); rintro e w35 ⟨rfl, hb⟩; refine ⟨_, rfl, ?_⟩; have n0_ := Aside0.mk (blk_below (g := gb223) (o := .cells #[.string a0_0, .slice A0_1 l0_1.length c0_1] 24 (0, 0)) (by (with_reducible repeat (first | refine blk_drewN ?_ _ | refine blk_drew ?_ | refine blk_alloc ?_ _)); exact BK223.out) hb); have n1_ := Aside0.mk (blk_below (g := gb224) (o := .cells #[.int .i64 a1_0, .int .i64 a1_1] 46 (0, 0)) (by (with_reducible repeat (first | refine blk_drewN ?_ _ | refine blk_drew ?_ | refine blk_alloc ?_ _)); exact BK224.out) hb); have n2_ := Aside0.mk (below_step (by repeat (first | (with_reducible first | exact HB.out | apply below_alloc | apply pw_below_drewN | apply below_drew1 | refine below_set ?_ GE223.out | refine below_set ?_ GE224.out) | exact HB.out)) hb); clear BK223; clear BK224; clear HB; have BK223 := n0_; have BK224 := n1_; have HB := n2_; clear n0_ n1_ n2_; (try clear hb); (try clear hb2); (try clear hk); (try clear hi); have hnb36 := NB223_224.out; have hnc36 := NB224_223.out; have hcz37_0 : w35.cell? ⟨gb223, 0, none⟩ = some (.string a0_0) := (blk_cell BK223.out 0).trans rfl; have hcz37_1 : w35.cell? ⟨gb223, 1, none⟩ = some (.slice A0_1 l0_1.length c0_1) := (blk_cell BK223.out 1).trans rfl; have hfz37_0 := blk_frozen BK223.out 0; have hfz37_1 := blk_frozen BK223.out 1) | (go_at_call 10; (with_reducible refine (culetref44_Few.calls a0_0 _ _ l0_1 true _ ?side1 ?side2 A8.out).mono ?_); (case side1 => repeat (first | exact (Kd.C_below HR0_1.out HB.out) | (with_reducible refine Kd.C_alloc ?_ _) | (with_reducible refine Kd.C_drewN ?_ _) | (with_reducible refine Kd.C_drew ?_))); (case side2 => exact HC0_1.out); rintro e w38 ⟨rfl, hb⟩; have n0_ := Aside0.mk (blk_below (g := gb223) (o := .cells #[.string a0_0, .slice A0_1 l0_1.length c0_1] 24 (0, 0)) (by (with_reducible repeat (first | refine blk_drewN ?_ _ | refine blk_drew ?_ | refine blk_alloc ?_ _)); exact BK223.out) hb); have n1_ := Aside0.mk (blk_below (g := gb224) (o := .cells #[.int .i64 a1_0, .int .i64 a1_1] 46 (0, 0)) (by (with_reducible repeat (first | refine blk_drewN ?_ _ | refine blk_drew ?_ | refine blk_alloc ?_ _)); exact BK224.out) hb); have n2_ := Aside0.mk (below_step (by repeat (first | (with_reducible first | exact HB.out | apply below_alloc | apply pw_below_drewN | apply below_drew1 | refine below_set ?_ GE223.out | refine below_set ?_ GE224.out) | exact HB.out)) hb); clear BK223; clear BK224; clear HB; have BK223 := n0_; have BK224 := n1_; have HB := n2_; clear n0_ n1_ n2_; (try clear hb); (try clear hb2); (try clear hk); (try clear hi); have hcz39_0 : w38.cell? ⟨gb224, 0, none⟩ = some (.int .i64 a1_0) := (blk_cell BK224.out 0).trans rfl; have hcz39_1 : w38.cell? ⟨gb224, 1, none⟩ = some (.int .i64 a1_1) := (blk_cell BK224.out 1).trans rfl; have hfz39_0 := blk_frozen BK224.out 0; have hfz39_1 := blk_frozen BK224.out 1))
         go_meet
         case rel => exact ⟨_, (true), (by first | rfl | (simp; done) | (simp [*]; done)), H', ⟨by first | omega | exact Nat.le_refl _⟩, ⟨by (with_reducible repeat (first | refine blk_drewN ?_ _ | refine blk_drew ?_ | refine blk_alloc ?_ _)); exact BK223.out⟩, ⟨by (with_reducible repeat (first | refine blk_drewN ?_ _ | refine blk_drew ?_ | refine blk_alloc ?_ _)); exact BK224.out⟩, ⟨by repeat (first | (with_reducible first | exact HB.out | apply below_alloc | apply pw_below_drewN | apply below_drew1 | refine below_set ?_ GE223.out | refine below_set ?_ GE224.out) | exact HB.out)⟩⟩
        ·
         rw [if_neg c34] at H
         have c34b0 : decide (1000000 < (wrap64 (a1_0 + a1_1))) = false := decide_eq_false c34
         clear c34
         replace H := Option.bind_eq_some_iff.mp H
         obtain ⟨t227, A400, H⟩ := H
         replace H : (culetlaw44_TariffSplit.j0 k (!t227) a0_0 l0_1 a1_0 a1_1) = some r := H
         have A40 := Aside0.mk A400
         clear A400
         have H' := Aside0.mk H
         clear H
         go_wp2_with (first | ((with_reducible refine gate_callee (f := 9) rfl ?_); refine goesL_ (some 14) rfl rfl Tryd.func9 (by kernel_rfl) rfl #[] rfl (by (try simp only [List.map_toArray, List.map_cons, List.map_nil]); first | done | rfl | (simp only [List.length_drop, List.length_take]; rfl)) ?_; (with_reducible refine (culetlaw44_awake.calls k  true _ (HTW.out.at (by repeat (first | (with_reducible first | exact HB.out | apply below_alloc | apply pw_below_drewN | apply below_drew1 | refine below_set ?_ GE223.out | refine below_set ?_ GE224.out | refine below_set ?_ GE233.out) | exact HB.out))) A6.out).mono ?_); rintro e w41 ⟨rfl, hb⟩; refine ⟨_, rfl, ?_⟩; have n0_ := Aside0.mk (blk_below (g := gb223) (o := .cells #[.string a0_0, .slice A0_1 l0_1.length c0_1] 24 (0, 0)) (by (with_reducible repeat (first | refine blk_drewN ?_ _ | refine blk_drew ?_ | refine blk_alloc ?_ _)); exact BK223.out) hb); have n1_ := Aside0.mk (blk_below (g := gb224) (o := .cells #[.int .i64 a1_0, .int .i64 a1_1] 46 (0, 0)) (by (with_reducible repeat (first | refine blk_drewN ?_ _ | refine blk_drew ?_ | refine blk_alloc ?_ _)); exact BK224.out) hb); have n2_ := Aside0.mk (below_step (by repeat (first | (with_reducible first | exact HB.out | apply below_alloc | apply pw_below_drewN | apply below_drew1 | refine below_set ?_ GE223.out | refine below_set ?_ GE224.out) | exact HB.out)) hb); clear BK223; clear BK224; clear HB; have BK223 := n0_; have BK224 := n1_; have HB := n2_; clear n0_ n1_ n2_; (try clear hb); (try clear hb2); (try clear hk); (try clear hi); have hnb42 := NB223_224.out; have hnc42 := NB224_223.out; have hcz43_0 : w41.cell? ⟨gb223, 0, none⟩ = some (.string a0_0) := (blk_cell BK223.out 0).trans rfl; have hcz43_1 : w41.cell? ⟨gb223, 1, none⟩ = some (.slice A0_1 l0_1.length c0_1) := (blk_cell BK223.out 1).trans rfl; have hfz43_0 := blk_frozen BK223.out 0; have hfz43_1 := blk_frozen BK223.out 1) | (go_at_call 10; (with_reducible refine (culetref44_Few.calls a0_0 _ _ l0_1 true _ ?side1 ?side2 A8.out).mono ?_); (case side1 => repeat (first | exact (Kd.C_below HR0_1.out HB.out) | (with_reducible refine Kd.C_alloc ?_ _) | (with_reducible refine Kd.C_drewN ?_ _) | (with_reducible refine Kd.C_drew ?_))); (case side2 => exact HC0_1.out); rintro e w44 ⟨rfl, hb⟩; have n0_ := Aside0.mk (blk_below (g := gb223) (o := .cells #[.string a0_0, .slice A0_1 l0_1.length c0_1] 24 (0, 0)) (by (with_reducible repeat (first | refine blk_drewN ?_ _ | refine blk_drew ?_ | refine blk_alloc ?_ _)); exact BK223.out) hb); have n1_ := Aside0.mk (blk_below (g := gb224) (o := .cells #[.int .i64 a1_0, .int .i64 a1_1] 46 (0, 0)) (by (with_reducible repeat (first | refine blk_drewN ?_ _ | refine blk_drew ?_ | refine blk_alloc ?_ _)); exact BK224.out) hb); have n2_ := Aside0.mk (below_step (by repeat (first | (with_reducible first | exact HB.out | apply below_alloc | apply pw_below_drewN | apply below_drew1 | refine below_set ?_ GE223.out | refine below_set ?_ GE224.out) | exact HB.out)) hb); clear BK223; clear BK224; clear HB; have BK223 := n0_; have BK224 := n1_; have HB := n2_; clear n0_ n1_ n2_; (try clear hb); (try clear hb2); (try clear hk); (try clear hi); have hcz45_0 : w44.cell? ⟨gb224, 0, none⟩ = some (.int .i64 a1_0) := (blk_cell BK224.out 0).trans rfl; have hcz45_1 : w44.cell? ⟨gb224, 1, none⟩ = some (.int .i64 a1_1) := (blk_cell BK224.out 1).trans rfl; have hfz45_0 := blk_frozen BK224.out 0; have hfz45_1 := blk_frozen BK224.out 1; have hcz46_0 : w44.cell? ⟨gb223, 0, none⟩ = some (.string a0_0) := (blk_cell BK223.out 0).trans rfl; have hcz46_1 : w44.cell? ⟨gb223, 1, none⟩ = some (.slice A0_1 l0_1.length c0_1) := (blk_cell BK223.out 1).trans rfl; have hfz46_0 := blk_frozen BK223.out 0; have hfz46_1 := blk_frozen BK223.out 1) | (go_at_call 17; (with_reducible refine (culetref44_Valid.calls k a0_0 _ _ l0_1 t227 _ ?side1 ?side2 A40.out).mono ?_); (case side1 => repeat (first | exact (Kd.C_below HR0_1.out HB.out) | (with_reducible refine Kd.C_alloc ?_ _) | (with_reducible refine Kd.C_drewN ?_ _) | (with_reducible refine Kd.C_drew ?_))); (case side2 => exact HC0_1.out); rintro e w47 ⟨rfl, hb⟩; have n0_ := Aside0.mk (blk_below (g := gb223) (o := .cells #[.string a0_0, .slice A0_1 l0_1.length c0_1] 24 (0, 0)) (by (with_reducible repeat (first | refine blk_drewN ?_ _ | refine blk_drew ?_ | refine blk_alloc ?_ _)); exact BK223.out) hb); have n1_ := Aside0.mk (blk_below (g := gb224) (o := .cells #[.int .i64 a1_0, .int .i64 a1_1] 46 (0, 0)) (by (with_reducible repeat (first | refine blk_drewN ?_ _ | refine blk_drew ?_ | refine blk_alloc ?_ _)); exact BK224.out) hb); have n2_ := Aside0.mk (below_step (by repeat (first | (with_reducible first | exact HB.out | apply below_alloc | apply pw_below_drewN | apply below_drew1 | refine below_set ?_ GE223.out | refine below_set ?_ GE224.out) | exact HB.out)) hb); clear BK223; clear BK224; clear HB; have BK223 := n0_; have BK224 := n1_; have HB := n2_; clear n0_ n1_ n2_; (try clear hb); (try clear hb2); (try clear hk); (try clear hi)))
         go_meet
         case rel => exact ⟨_, (!t227), (by first | rfl | (simp; done) | (simp [*]; done)), H', ⟨by first | omega | exact Nat.le_refl _⟩, ⟨by (with_reducible repeat (first | refine blk_drewN ?_ _ | refine blk_drew ?_ | refine blk_alloc ?_ _)); exact BK223.out⟩, ⟨by (with_reducible repeat (first | refine blk_drewN ?_ _ | refine blk_drew ?_ | refine blk_alloc ?_ _)); exact BK224.out⟩, ⟨by repeat (first | (with_reducible first | exact HB.out | apply below_alloc | apply pw_below_drewN | apply below_drew1 | refine below_set ?_ GE223.out | refine below_set ?_ GE224.out) | exact HB.out)⟩⟩
   ·
    replace c9 := Bool.eq_false_iff.mpr c9
    subst c9
    have H1 : (culetlaw44_TariffSplit.j0 k true a0_0 l0_1 a1_0 a1_1) = some r := by rw [if_neg (show ¬ (false = true) by decide)] at H; exact H
    clear H
    have H := H1
    clear H1
    have H' := Aside0.mk H
    clear H
    go_wp2_with (first | ((with_reducible refine gate_callee (f := 9) rfl ?_); refine goesL_ (some 14) rfl rfl Tryd.func9 (by kernel_rfl) rfl #[] rfl (by (try simp only [List.map_toArray, List.map_cons, List.map_nil]); first | done | rfl | (simp only [List.length_drop, List.length_take]; rfl)) ?_; (with_reducible refine (culetlaw44_awake.calls k  true _ (HTW.out.at (by repeat (first | (with_reducible first | exact HB.out | apply below_alloc | apply pw_below_drewN | apply below_drew1 | refine below_set ?_ GE223.out | refine below_set ?_ GE224.out | refine below_set ?_ GE233.out) | exact HB.out))) A6.out).mono ?_); rintro e w48 ⟨rfl, hb⟩; refine ⟨_, rfl, ?_⟩; have n0_ := Aside0.mk (blk_below (g := gb223) (o := .cells #[.string a0_0, .slice A0_1 l0_1.length c0_1] 24 (0, 0)) (by (with_reducible repeat (first | refine blk_drewN ?_ _ | refine blk_drew ?_ | refine blk_alloc ?_ _)); exact BK223.out) hb); have n1_ := Aside0.mk (blk_below (g := gb224) (o := .cells #[.int .i64 a1_0, .int .i64 a1_1] 46 (0, 0)) (by (with_reducible repeat (first | refine blk_drewN ?_ _ | refine blk_drew ?_ | refine blk_alloc ?_ _)); exact BK224.out) hb); have n2_ := Aside0.mk (below_step (by repeat (first | (with_reducible first | exact HB.out | apply below_alloc | apply pw_below_drewN | apply below_drew1 | refine below_set ?_ GE223.out | refine below_set ?_ GE224.out) | exact HB.out)) hb); clear BK223; clear BK224; clear HB; have BK223 := n0_; have BK224 := n1_; have HB := n2_; clear n0_ n1_ n2_; (try clear hb); (try clear hb2); (try clear hk); (try clear hi); have hnb49 := NB223_224.out; have hnc49 := NB224_223.out; have hcz50_0 : w48.cell? ⟨gb223, 0, none⟩ = some (.string a0_0) := (blk_cell BK223.out 0).trans rfl; have hcz50_1 : w48.cell? ⟨gb223, 1, none⟩ = some (.slice A0_1 l0_1.length c0_1) := (blk_cell BK223.out 1).trans rfl; have hfz50_0 := blk_frozen BK223.out 0; have hfz50_1 := blk_frozen BK223.out 1) | (go_at_call 10; (with_reducible refine (culetref44_Few.calls a0_0 _ _ l0_1 false _ ?side1 ?side2 A8.out).mono ?_); (case side1 => repeat (first | exact (Kd.C_below HR0_1.out HB.out) | (with_reducible refine Kd.C_alloc ?_ _) | (with_reducible refine Kd.C_drewN ?_ _) | (with_reducible refine Kd.C_drew ?_))); (case side2 => exact HC0_1.out); rintro e w51 ⟨rfl, hb⟩; have n0_ := Aside0.mk (blk_below (g := gb223) (o := .cells #[.string a0_0, .slice A0_1 l0_1.length c0_1] 24 (0, 0)) (by (with_reducible repeat (first | refine blk_drewN ?_ _ | refine blk_drew ?_ | refine blk_alloc ?_ _)); exact BK223.out) hb); have n1_ := Aside0.mk (blk_below (g := gb224) (o := .cells #[.int .i64 a1_0, .int .i64 a1_1] 46 (0, 0)) (by (with_reducible repeat (first | refine blk_drewN ?_ _ | refine blk_drew ?_ | refine blk_alloc ?_ _)); exact BK224.out) hb); have n2_ := Aside0.mk (below_step (by repeat (first | (with_reducible first | exact HB.out | apply below_alloc | apply pw_below_drewN | apply below_drew1 | refine below_set ?_ GE223.out | refine below_set ?_ GE224.out) | exact HB.out)) hb); clear BK223; clear BK224; clear HB; have BK223 := n0_; have BK224 := n1_; have HB := n2_; clear n0_ n1_ n2_; (try clear hb); (try clear hb2); (try clear hk); (try clear hi)))
    go_meet
    case rel => exact ⟨_, (true), (by first | rfl | (simp; done) | (simp [*]; done)), H', ⟨by first | omega | exact Nat.le_refl _⟩, ⟨by (with_reducible repeat (first | refine blk_drewN ?_ _ | refine blk_drew ?_ | refine blk_alloc ?_ _)); exact BK223.out⟩, ⟨by (with_reducible repeat (first | refine blk_drewN ?_ _ | refine blk_drew ?_ | refine blk_alloc ?_ _)); exact BK224.out⟩, ⟨by repeat (first | (with_reducible first | exact HB.out | apply below_alloc | apply pw_below_drewN | apply below_drew1 | refine below_set ?_ GE223.out | refine below_set ?_ GE224.out) | exact HB.out)⟩⟩
  ·
   replace c7 := Bool.eq_false_iff.mpr c7
   subst c7
   have H1 : (culetlaw44_TariffSplit.j0 k true a0_0 l0_1 a1_0 a1_1) = some r := by rw [if_neg (show ¬ (false = true) by decide)] at H; exact H
   clear H
   have H := H1
   clear H1
   have H' := Aside0.mk H
   clear H
   go_wp2_with (first | ((with_reducible refine gate_callee (f := 9) rfl ?_); refine goesL_ (some 14) rfl rfl Tryd.func9 (by kernel_rfl) rfl #[] rfl (by (try simp only [List.map_toArray, List.map_cons, List.map_nil]); first | done | rfl | (simp only [List.length_drop, List.length_take]; rfl)) ?_; (with_reducible refine (culetlaw44_awake.calls k  false _ (HTW.out.at (by repeat (first | (with_reducible first | exact HB.out | apply below_alloc | apply pw_below_drewN | apply below_drew1 | refine below_set ?_ GE223.out | refine below_set ?_ GE224.out | refine below_set ?_ GE233.out) | exact HB.out))) A6.out).mono ?_); rintro e w52 ⟨rfl, hb⟩; refine ⟨_, rfl, ?_⟩; have n0_ := Aside0.mk (blk_below (g := gb223) (o := .cells #[.string a0_0, .slice A0_1 l0_1.length c0_1] 24 (0, 0)) (by (with_reducible repeat (first | refine blk_drewN ?_ _ | refine blk_drew ?_ | refine blk_alloc ?_ _)); exact BK223.out) hb); have n1_ := Aside0.mk (blk_below (g := gb224) (o := .cells #[.int .i64 a1_0, .int .i64 a1_1] 46 (0, 0)) (by (with_reducible repeat (first | refine blk_drewN ?_ _ | refine blk_drew ?_ | refine blk_alloc ?_ _)); exact BK224.out) hb); have n2_ := Aside0.mk (below_step (by repeat (first | (with_reducible first | exact HB.out | apply below_alloc | apply pw_below_drewN | apply below_drew1 | refine below_set ?_ GE223.out | refine below_set ?_ GE224.out) | exact HB.out)) hb); clear BK223; clear BK224; clear HB; have BK223 := n0_; have BK224 := n1_; have HB := n2_; clear n0_ n1_ n2_; (try clear hb); (try clear hb2); (try clear hk); (try clear hi)))
   go_meet
   case rel => exact ⟨_, (true), (by first | rfl | (simp; done) | (simp [*]; done)), H', ⟨by first | omega | exact Nat.le_refl _⟩, ⟨by (with_reducible repeat (first | refine blk_drewN ?_ _ | refine blk_drew ?_ | refine blk_alloc ?_ _)); exact BK223.out⟩, ⟨by (with_reducible repeat (first | refine blk_drewN ?_ _ | refine blk_drew ?_ | refine blk_alloc ?_ _)); exact BK224.out⟩, ⟨by repeat (first | (with_reducible first | exact HB.out | apply below_alloc | apply pw_below_drewN | apply below_drew1 | refine below_set ?_ GE223.out | refine below_set ?_ GE224.out) | exact HB.out)⟩⟩
 case rest =>
  clear HC3
  try clear c1
  try clear c2
  try clear p2
  try clear c3
  try clear c4
  try clear p6
  try clear c7
  try clear c9
  try clear c10
  try clear c10b0
  try clear c12
  try clear c16
  try clear c16b0
  try clear c18
  try clear c22
  try clear c22b0
  try clear c24
  try clear c28
  try clear c28b0
  try clear c30
  try clear c34
  try clear c34b0
  try clear c36
  try clear c42
  try clear c49
  try clear hcz13_0
  try clear hcz13_1
  try clear hcz15_0
  try clear hcz15_1
  try clear hcz19_0
  try clear hcz19_1
  try clear hcz21_0
  try clear hcz21_1
  try clear hcz25_0
  try clear hcz25_1
  try clear hcz27_0
  try clear hcz27_1
  try clear hcz31_0
  try clear hcz31_1
  try clear hcz33_0
  try clear hcz33_1
  try clear hcz37_0
  try clear hcz37_1
  try clear hcz39_0
  try clear hcz39_1
  try clear hcz43_0
  try clear hcz43_1
  try clear hcz45_0
  try clear hcz45_1
  try clear hcz46_0
  try clear hcz46_1
  try clear hcz50_0
  try clear hcz50_1
  try clear hfz13_0
  try clear hfz13_1
  try clear hfz15_0
  try clear hfz15_1
  try clear hfz19_0
  try clear hfz19_1
  try clear hfz21_0
  try clear hfz21_1
  try clear hfz25_0
  try clear hfz25_1
  try clear hfz27_0
  try clear hfz27_1
  try clear hfz31_0
  try clear hfz31_1
  try clear hfz33_0
  try clear hfz33_1
  try clear hfz37_0
  try clear hfz37_1
  try clear hfz39_0
  try clear hfz39_1
  try clear hfz43_0
  try clear hfz43_1
  try clear hfz45_0
  try clear hfz45_1
  try clear hfz46_0
  try clear hfz46_1
  try clear hfz50_0
  try clear hfz50_1
  obtain ⟨kq, x53_2, rfl, HA, HJ2, BK223, BK224, HB⟩ := hcut
  cases kq with
  | zero => exact absurd HA.out (by simp [culetlaw44_TariffSplit.j0])
  | succ kj2 =>
   have H := HA.out
   clear HA
   simp only [culetlaw44_TariffSplit.j0] at H
   by_cases c53 : x53_2 = true
   ·
    subst c53
    have H1 : ((culetlaw44_awake.f kj2).bind fun t228 => (some t228)) = some r := by rw [if_pos rfl] at H; exact H
    clear H
    have H := H1
    clear H1
    replace H := Option.bind_eq_some_iff.mp H
    obtain ⟨t228, A540, H⟩ := H
    replace H : (some t228) = some r := H
    have A54 := Aside0.mk A540
    clear A540
    obtain rfl := Option.some.inj H
    go_wp2_with (first | ((with_reducible refine gate_callee (f := 9) rfl ?_); refine goesL_ (some 54) rfl rfl Tryd.func9 (by kernel_rfl) rfl #[] rfl (by (try simp only [List.map_toArray, List.map_cons, List.map_nil]); first | done | rfl | (simp only [List.length_drop, List.length_take]; rfl)) ?_; (with_reducible refine (culetlaw44_awake.calls kj2  t228 _ (HTW.out.at (by repeat (first | (with_reducible first | exact HB.out | apply below_alloc | apply pw_below_drewN | apply below_drew1 | refine below_set ?_ GE223.out | refine below_set ?_ GE224.out | refine below_set ?_ GE233.out) | exact HB.out))) A54.out).mono ?_); rintro e w55 ⟨rfl, hb⟩; refine ⟨_, rfl, ?_⟩; have n0_ := Aside0.mk (blk_below (g := gb223) (o := .cells #[.string a0_0, .slice A0_1 l0_1.length c0_1] 24 (0, 0)) (by (with_reducible repeat (first | refine blk_drewN ?_ _ | refine blk_drew ?_ | refine blk_alloc ?_ _)); exact BK223.out) hb); have n1_ := Aside0.mk (blk_below (g := gb224) (o := .cells #[.int .i64 a1_0, .int .i64 a1_1] 46 (0, 0)) (by (with_reducible repeat (first | refine blk_drewN ?_ _ | refine blk_drew ?_ | refine blk_alloc ?_ _)); exact BK224.out) hb); have n2_ := Aside0.mk (below_step (by repeat (first | (with_reducible first | exact HB.out | apply below_alloc | apply pw_below_drewN | apply below_drew1 | refine below_set ?_ GE223.out | refine below_set ?_ GE224.out) | exact HB.out)) hb); clear BK223; clear BK224; clear HB; have BK223 := n0_; have BK224 := n1_; have HB := n2_; clear n0_ n1_ n2_; (try clear hb); (try clear hb2); (try clear hk); (try clear hi)))
    go_ret
    exact ⟨by first | rfl | (simp [errW_none, errW_some] <;> rfl) | (simp [*, errW_none, errW_some] <;> rfl), by repeat (first | (with_reducible first | exact HB.out | apply below_alloc | apply pw_below_drewN | apply below_drew1 | refine below_set ?_ GE223.out | refine below_set ?_ GE224.out) | exact HB.out)⟩
   ·
    replace c53 := Bool.eq_false_iff.mpr c53
    subst c53
    have H1 : ((culetlaw44_Own.f kj2 a0_0 l0_1).bind fun bt229 => ((tariff_Value.f kj2 bt229.1 bt229.2 (wrap64 (a1_0 + a1_1))).bind fun bt234 => ((tariff_Total2.f kj2 bt229.1 bt229.2 a1_0 a1_1).bind fun bt236 => (if bt234.2 = 0 then (culetlaw44_TariffSplit.j1 kj2 bt234.1 bt236.1 (bt236.2 != 0) a0_0 l0_1 a1_0 a1_1 bt229.1 bt229.2) else (culetlaw44_TariffSplit.j1 kj2 bt234.1 bt236.1 true a0_0 l0_1 a1_0 a1_1 bt229.1 bt229.2))))) = some r := by rw [if_neg (show ¬ (false = true) by decide)] at H; exact H
    clear H
    have H := H1
    clear H1
    replace H := Option.bind_eq_some_iff.mp H
    obtain ⟨⟨t229, t230⟩, A560, H⟩ := H
    replace H : ((tariff_Value.f kj2 t229 t230 (wrap64 (a1_0 + a1_1))).bind fun bt234 => ((tariff_Total2.f kj2 t229 t230 a1_0 a1_1).bind fun bt236 => (if bt234.2 = 0 then (culetlaw44_TariffSplit.j1 kj2 bt234.1 bt236.1 (bt236.2 != 0) a0_0 l0_1 a1_0 a1_1 t229 t230) else (culetlaw44_TariffSplit.j1 kj2 bt234.1 bt236.1 true a0_0 l0_1 a1_0 a1_1 t229 t230)))) = some r := H
    have A56 := Aside0.mk A560
    clear A560
    replace H := Option.bind_eq_some_iff.mp H
    obtain ⟨⟨t234, t235⟩, A570, H⟩ := H
    replace H : ((tariff_Total2.f kj2 t229 t230 a1_0 a1_1).bind fun bt236 => (if t235 = 0 then (culetlaw44_TariffSplit.j1 kj2 t234 bt236.1 (bt236.2 != 0) a0_0 l0_1 a1_0 a1_1 t229 t230) else (culetlaw44_TariffSplit.j1 kj2 t234 bt236.1 true a0_0 l0_1 a1_0 a1_1 t229 t230))) = some r := H
    have A57 := Aside0.mk A570
    clear A570
    replace H := Option.bind_eq_some_iff.mp H
    obtain ⟨⟨t236, t237⟩, A580, H⟩ := H
    replace H : (if t235 = 0 then (culetlaw44_TariffSplit.j1 kj2 t234 t236 (t237 != 0) a0_0 l0_1 a1_0 a1_1 t229 t230) else (culetlaw44_TariffSplit.j1 kj2 t234 t236 true a0_0 l0_1 a1_0 a1_1 t229 t230)) = some r := H
    have A58 := Aside0.mk A580
    clear A580
    have HC59 := Aside0.mk H
    clear H
    have hnb60 := NB223_224.out
    have hnc60 := NB224_223.out
    have hcz61_0 : wc.cell? ⟨gb223, 0, none⟩ = some (.string a0_0) := (blk_cell BK223.out 0).trans rfl
    have hcz61_1 : wc.cell? ⟨gb223, 1, none⟩ = some (.slice A0_1 l0_1.length c0_1) := (blk_cell BK223.out 1).trans rfl
    have hfz61_0 := blk_frozen BK223.out 0
    have hfz61_1 := blk_frozen BK223.out 1
    try go_wp2_with (first | ((with_reducible refine gate_callee (f := 16) rfl ?_); refine goesL_ (some 56) rfl rfl Tryd.func16 (by kernel_rfl) rfl #[.agg #[.string a0_0, .slice A0_1 l0_1.length c0_1]] rfl (by (try simp only [List.map_toArray, List.map_cons, List.map_nil]); first | done | rfl | (simp only [List.length_drop, List.length_take]; rfl)) ?_; (with_reducible refine (culetlaw44_Own.calls kj2 a0_0 _ _ l0_1 t229 t230 _ ?side1 ?side2 A56.out).mono ?_); (case side1 => repeat (first | exact (Kd.C_below HR0_1.out HB.out) | (with_reducible refine Kd.C_alloc ?_ _) | (with_reducible refine Kd.C_drewN ?_ _) | (with_reducible refine Kd.C_drew ?_))); (case side2 => exact HC0_1.out); rintro e w62 ⟨v231, rfl, ho0, hb⟩; refine ⟨_, rfl, ?_⟩; have n0_ := Aside0.mk (Kd.R_lower ho0 (below_size (by repeat (first | (with_reducible first | exact HB.out | apply below_alloc | apply pw_below_drewN | apply below_drew1 | refine below_set ?_ GE223.out | refine below_set ?_ GE224.out) | exact HB.out)))); have n1_ := Aside0.mk (blk_below (g := gb223) (o := .cells #[.string a0_0, .slice A0_1 l0_1.length c0_1] 24 (0, 0)) (by (with_reducible repeat (first | refine blk_drewN ?_ _ | refine blk_drew ?_ | refine blk_alloc ?_ _)); exact BK223.out) hb); have n2_ := Aside0.mk (blk_below (g := gb224) (o := .cells #[.int .i64 a1_0, .int .i64 a1_1] 46 (0, 0)) (by (with_reducible repeat (first | refine blk_drewN ?_ _ | refine blk_drew ?_ | refine blk_alloc ?_ _)); exact BK224.out) hb); have n3_ := Aside0.mk (below_step (by repeat (first | (with_reducible first | exact HB.out | apply below_alloc | apply pw_below_drewN | apply below_drew1 | refine below_set ?_ GE223.out | refine below_set ?_ GE224.out) | exact HB.out)) hb); clear BK223; clear BK224; clear HB; have HO232 := n0_; have BK223 := n1_; have BK224 := n2_; have HB := n3_; clear n0_ n1_ n2_ n3_; (try clear hb); (try clear hb2); (try clear hk); (try clear hi); (try clear ho0)) | ((with_reducible refine gate_dst (N := 5) rfl ?_); refine box_event ?hg (N := 5) ?hd (cs := #[.string (⟨#[]⟩ : ByteArray), .slice none 0 0]) (t := 29) ?hr ?_; (case hd => rfl); (case hg => rfl); (case hr => first | (go_simp; done) | (go_simp; rfl)); intro gb233 hg w63 hbox hb; have n0_ := Aside0.mk (Kd.R_below (by (with_reducible repeat (first | apply Kd.R_alloc | apply Kd.R_drewN | apply Kd.R_drew)); exact HO232.out) hb); have n1_ := Aside0.mk (blk_below (g := gb223) (o := .cells #[.string a0_0, .slice A0_1 l0_1.length c0_1] 24 (0, 0)) (by (with_reducible repeat (first | refine blk_drewN ?_ _ | refine blk_drew ?_ | refine blk_alloc ?_ _)); exact BK223.out) hb); have n2_ := Aside0.mk (blk_below (g := gb224) (o := .cells #[.int .i64 a1_0, .int .i64 a1_1] 46 (0, 0)) (by (with_reducible repeat (first | refine blk_drewN ?_ _ | refine blk_drew ?_ | refine blk_alloc ?_ _)); exact BK224.out) hb); have n3_ := Aside0.mk (below_step (by repeat (first | (with_reducible first | exact HB.out | apply below_alloc | apply pw_below_drewN | apply below_drew1 | refine below_set ?_ GE223.out | refine below_set ?_ GE224.out) | exact HB.out)) hb); have n4_ := Aside0.mk (hbox); have n5_ := Aside0.mk ((by rw [hg]; exact (below_size (by repeat (first | (with_reducible first | exact HB.out | apply below_alloc | apply pw_below_drewN | apply below_drew1 | refine below_set ?_ GE223.out | refine below_set ?_ GE224.out) | exact HB.out))) : w.heap.size ≤ gb233)); have n6_ := Aside0.mk ((by rw [hg]; exact (below_size (by repeat (first | (with_reducible first | exact HB.out | apply below_alloc | apply pw_below_drewN | apply below_drew1 | refine below_set ?_ GE223.out | refine below_set ?_ GE224.out) | exact HB.out))) : w.heap.size ≤ gb233)); have n7_ := Aside0.mk ((by rw [hg]; exact Nat.ne_of_lt (blk_lt (g := gb223) (o := .cells #[.string a0_0, .slice A0_1 l0_1.length c0_1] 24 (0, 0)) (by (with_reducible repeat (first | refine blk_drewN ?_ _ | refine blk_drew ?_ | refine blk_alloc ?_ _)); exact BK223.out)) : gb223 ≠ gb233)); have n8_ := Aside0.mk ((by rw [hg]; exact Nat.ne_of_gt (blk_lt (g := gb223) (o := .cells #[.string a0_0, .slice A0_1 l0_1.length c0_1] 24 (0, 0)) (by (with_reducible repeat (first | refine blk_drewN ?_ _ | refine blk_drew ?_ | refine blk_alloc ?_ _)); exact BK223.out)) : gb233 ≠ gb223)); have n9_ := Aside0.mk ((by rw [hg]; exact Nat.ne_of_lt (blk_lt (g := gb224) (o := .cells #[.int .i64 a1_0, .int .i64 a1_1] 46 (0, 0)) (by (with_reducible repeat (first | refine blk_drewN ?_ _ | refine blk_drew ?_ | refine blk_alloc ?_ _)); exact BK224.out)) : gb224 ≠ gb233)); have n10_ := Aside0.mk ((by rw [hg]; exact Nat.ne_of_gt (blk_lt (g := gb224) (o := .cells #[.int .i64 a1_0, .int .i64 a1_1] 46 (0, 0)) (by (with_reducible repeat (first | refine blk_drewN ?_ _ | refine blk_drew ?_ | refine blk_alloc ?_ _)); exact BK224.out)) : gb233 ≠ gb224)); clear HO232; clear BK223; clear BK224; clear HB; have HO232 := n0_; have BK223 := n1_; have BK224 := n2_; have HB := n3_; have BK233 := n4_; have GW233 := n5_; have GE233 := n6_; have NB223_233 := n7_; have NB233_223 := n8_; have NB224_233 := n9_; have NB233_224 := n10_; clear n0_ n1_ n2_ n3_ n4_ n5_ n6_ n7_ n8_ n9_ n10_; clear hb hbox hg; have hnb64 := NB233_223.out; have hnc64 := NB223_233.out; have hnb65 := NB233_224.out; have hnc65 := NB224_233.out; have hcz66_0 : w63.cell? ⟨gb233, 0, none⟩ = some (.string (⟨#[]⟩ : ByteArray)) := (blk_cell BK233.out 0).trans rfl; have hcz66_1 : w63.cell? ⟨gb233, 1, none⟩ = some (.slice none 0 0) := (blk_cell BK233.out 1).trans rfl; have hfz66_0 := blk_frozen BK233.out 0; have hfz66_1 := blk_frozen BK233.out 1; obtain ⟨Ao67, co67, eo67⟩ := Kd.R_slice HO232.out; subst eo67; have hcz68_0 : w63.cell? ⟨gb224, 0, none⟩ = some (.int .i64 a1_0) := (blk_cell BK224.out 0).trans rfl; have hcz68_1 : w63.cell? ⟨gb224, 1, none⟩ = some (.int .i64 a1_1) := (blk_cell BK224.out 1).trans rfl; have hfz68_0 := blk_frozen BK224.out 0; have hfz68_1 := blk_frozen BK224.out 1) | ((with_reducible refine gate_callee (f := 18) rfl ?_); refine goesL_ (some 64) rfl rfl Tryd.func18 (by kernel_rfl) rfl #[.agg #[.string t229, .slice Ao67 t230.length co67], .int .i64 (wrap64 (a1_0 + a1_1))] rfl (by (try simp only [List.map_toArray, List.map_cons, List.map_nil]); first | done | rfl | (simp only [List.length_drop, List.length_take]; rfl)) ?_; (with_reducible refine (tariff_Value.calls kj2 t229 _ _ t230 (wrap64 (a1_0 + a1_1)) t234 t235 _ ?side1 ?side2 A57.out).mono ?_); (case side1 => refine (Kd.R_reads' (e := 63) (base := w.heap.size) (ok := fun k_ => True) (n := t230.length) (c := co67) ?_).2.2; exact (by (with_reducible repeat (first | apply Kd.R_alloc | apply Kd.R_drewN | apply Kd.R_drew)); exact (Kd.R_mono (Kd.R_far (p := ⟨gb233, 1, none⟩) (Kd.R_far (p := ⟨gb233, 0, none⟩) (Kd.R_types HO232.out BK233.out (by decide)) (fun _ hk => hk.2) (.string t229)) (fun _ hk => hk.2) (.slice Ao67 t230.length co67)) (fun _ h_ => h_.1)))); (case side2 => exact (Kd.R_reads' HO232.out).2.1); rintro e w69 ⟨rfl, hb⟩; refine ⟨_, rfl, ?_⟩; have n0_ := Aside0.mk (Kd.R_below (by (with_reducible repeat (first | apply Kd.R_alloc | apply Kd.R_drewN | apply Kd.R_drew)); exact (Kd.R_mono (Kd.R_far (p := ⟨gb233, 1, none⟩) (Kd.R_far (p := ⟨gb233, 0, none⟩) (Kd.R_types HO232.out BK233.out (by decide)) (fun _ hk => hk.2) (.string t229)) (fun _ hk => hk.2) (.slice Ao67 t230.length co67)) (fun _ h_ => h_.1))) hb); have n1_ := Aside0.mk (blk_below (g := gb223) (o := .cells #[.string a0_0, .slice A0_1 l0_1.length c0_1] 24 (0, 0)) (by (with_reducible repeat (first | refine blk_drewN ?_ _ | refine blk_drew ?_ | refine blk_alloc ?_ _)); refine blk_far ?_ NB223_233.out _; (with_reducible repeat (first | refine blk_drewN ?_ _ | refine blk_drew ?_ | refine blk_alloc ?_ _)); refine blk_far ?_ NB223_233.out _; (with_reducible repeat (first | refine blk_drewN ?_ _ | refine blk_drew ?_ | refine blk_alloc ?_ _)); exact BK223.out) hb); have n2_ := Aside0.mk (blk_below (g := gb224) (o := .cells #[.int .i64 a1_0, .int .i64 a1_1] 46 (0, 0)) (by (with_reducible repeat (first | refine blk_drewN ?_ _ | refine blk_drew ?_ | refine blk_alloc ?_ _)); refine blk_far ?_ NB224_233.out _; (with_reducible repeat (first | refine blk_drewN ?_ _ | refine blk_drew ?_ | refine blk_alloc ?_ _)); refine blk_far ?_ NB224_233.out _; (with_reducible repeat (first | refine blk_drewN ?_ _ | refine blk_drew ?_ | refine blk_alloc ?_ _)); exact BK224.out) hb); have n3_ := Aside0.mk (blk_below (g := gb233) (o := .cells #[.string t229, .slice Ao67 t230.length co67] 29 (0, 0)) (by (with_reducible repeat (first | refine blk_drewN ?_ _ | refine blk_drew ?_ | refine blk_alloc ?_ _)); refine blk_put (cs := #[.string t229, .slice none 0 0]) ?_ 1 _ rfl; (with_reducible repeat (first | refine blk_drewN ?_ _ | refine blk_drew ?_ | refine blk_alloc ?_ _)); refine blk_put (cs := #[.string (⟨#[]⟩ : ByteArray), .slice none 0 0]) ?_ 0 _ rfl; (with_reducible repeat (first | refine blk_drewN ?_ _ | refine blk_drew ?_ | refine blk_alloc ?_ _)); exact BK233.out) hb); have n4_ := Aside0.mk (below_step (by repeat (first | (with_reducible first | exact HB.out | apply below_alloc | apply pw_below_drewN | apply below_drew1 | refine below_set ?_ GE223.out | refine below_set ?_ GE224.out | refine below_set ?_ GE233.out) | exact HB.out)) hb); clear HO232; clear BK223; clear BK224; clear BK233; clear HB; have HO232 := n0_; have BK223 := n1_; have BK224 := n2_; have BK233 := n3_; have HB := n4_; clear n0_ n1_ n2_ n3_ n4_; (try clear hb); (try clear hb2); (try clear hk); (try clear hi)))
    have n0_ := Aside0.mk (Kd.R_drew HO232.out)
    have n1_ := Aside0.mk (blk_drew BK223.out)
    have n2_ := Aside0.mk (blk_drew BK224.out)
    have n3_ := Aside0.mk (blk_drew BK233.out)
    have n4_ := Aside0.mk (below_drew1 HB.out)
    clear HO232
    clear BK223
    clear BK224
    clear BK233
    clear HB
    have HO232 := n0_
    have BK223 := n1_
    have BK224 := n2_
    have BK233 := n3_
    have HB := n4_
    clear n0_ n1_ n2_ n3_ n4_
    refine start_ (n := 8) (S := fun w' => w'.cell? ⟨gb233, 0, none⟩ = some (.string t229) ∧ w'.cell? ⟨gb233, 1, none⟩ = some (.slice Ao67 t230.length co67) ∧ w'.cell? ⟨gb224, 0, none⟩ = some (.int .i64 a1_0) ∧ w'.cell? ⟨gb224, 1, none⟩ = some (.int .i64 a1_1)) (ds := []) #[false, false, false, false, false, false, false, false] (by kernel_rfl) rfl rfl ⟨(blk_cell BK233.out 0).trans rfl, (blk_cell BK233.out 1).trans rfl, (blk_cell BK224.out 0).trans rfl, (blk_cell BK224.out 1).trans rfl⟩ (fun hHeld => ?_); refine with_tabW culetlaw44_TariffSplit.tab5 culetlaw44_TariffSplit.bits5 (fun HT_ HW_ => ?_)
    generalize w69.drew = w70 at HO232 BK223 BK224 BK233 HB hHeld ⊢
    refine take_ (i := 0) (N := some 68) (v := ?_) (a' := ?_) #[true, false, false, false, false, false, false, false] rfl rfl (take_ofW HT_.out HW_.out (by kernel_rfl)) (fun _ _ _ h => h) (Or.inl ⟨by rfl, ?_⟩) hHeld ?_ ?_
    rotate_left
    ·
     rintro w' ⟨s0, s1, s2, s3⟩
     go_simp
     with_reducible rfl
    rotate_left
    ·
     simp only [Act.put, List.setIfInBounds_toArray, List.set_cons_zero, List.set_cons_succ, i64_w, i32_w]
     rfl
    refine pure_ (i := 1) (N := some 69) (v := ?_) (a' := ?_) #[true, true, false, false, false, false, false, false] rfl rfl (any_of HT_.out (by kernel_rfl)) (fun _ _ _ h => h) (Or.inl ⟨by rfl, ?_⟩) ?_ ?_
    rotate_left
    ·
     intro w'
     go_simp
     with_reducible rfl
    rotate_left
    ·
     simp only [Act.put, List.setIfInBounds_toArray, List.set_cons_zero, List.set_cons_succ, i64_w, i32_w]
     rfl
    refine one_ (i := 2) (N := some 70) #[true, true, true, false, false, false, false, false] rfl rfl (one_of HT_.out (by kernel_rfl)) (by decide) (fun K hK => ?_)
    refine goes_ Tryd.func26 (by kernel_rfl) rfl #[.agg #[.string t229, .slice Ao67 t230.length co67], .slice (some ⟨gb224, 0, none⟩) 2 2] (by rfl) rfl rfl (by (try simp only [List.map_toArray, List.map_cons, List.map_nil]); first | done | rfl | (simp only [List.length_drop, List.length_take]; rfl)) ?_
    with_reducible refine (tariff_Total2.calls kj2 t229 _ _ t230 a1_0 a1_1 t236 t237 _ ?side1 ?side2 BK224.out A58.out).mono ?_
    (case side1 => repeat (first | exact (Kd.R_reads' HO232.out).2.2 | (with_reducible refine Kd.C_alloc ?_ _) | (with_reducible refine Kd.C_drewN ?_ _) | (with_reducible refine Kd.C_drew ?_)))
    (case side2 => exact (Kd.R_reads' HO232.out).2.1)
    rintro e w71 ⟨rfl, hb⟩
    refine ⟨_, rfl, ?_⟩
    have n0_ := Aside0.mk (Kd.R_below (by (with_reducible repeat (first | apply Kd.R_alloc | apply Kd.R_drewN | apply Kd.R_drew)); exact HO232.out) hb)
    have n1_ := Aside0.mk (blk_below (g := gb223) (o := .cells #[.string a0_0, .slice A0_1 l0_1.length c0_1] 24 (0, 0)) (by (with_reducible repeat (first | refine blk_drewN ?_ _ | refine blk_drew ?_ | refine blk_alloc ?_ _)); exact BK223.out) hb)
    have n2_ := Aside0.mk (blk_below (g := gb224) (o := .cells #[.int .i64 a1_0, .int .i64 a1_1] 46 (0, 0)) (by (with_reducible repeat (first | refine blk_drewN ?_ _ | refine blk_drew ?_ | refine blk_alloc ?_ _)); exact BK224.out) hb)
    have n3_ := Aside0.mk (blk_below (g := gb233) (o := .cells #[.string t229, .slice Ao67 t230.length co67] 29 (0, 0)) (by (with_reducible repeat (first | refine blk_drewN ?_ _ | refine blk_drew ?_ | refine blk_alloc ?_ _)); exact BK233.out) hb)
    have n4_ := Aside0.mk (below_step (by repeat (first | (with_reducible first | exact HB.out | apply below_alloc | apply pw_below_drewN | apply below_drew1 | refine below_set ?_ GE223.out | refine below_set ?_ GE224.out | refine below_set ?_ GE233.out) | exact HB.out)) hb)
    clear HO232
    clear BK223
    clear BK224
    clear BK233
    clear HB
    have HO232 := n0_
    have BK223 := n1_
    have BK224 := n2_
    have BK233 := n3_
    have HB := n4_
    clear n0_ n1_ n2_ n3_ n4_
    (try clear hb)
    (try clear hb2)
    (try clear hk)
    (try clear hi)
    refine hK.out _ _ ⟨(blk_cell BK233.out 0).trans rfl, (blk_cell BK233.out 1).trans rfl, (blk_cell BK224.out 0).trans rfl, (blk_cell BK224.out 1).trans rfl⟩ (fun hHeld => ?_)
    clear hK K
    refine norm_ (a' := ?_) ?_ ?_
    rotate_left
    ·
     show Act.put _ (some 70) _ = _
     simp only [Act.put, List.setIfInBounds_toArray, List.set_cons_zero, List.set_cons_succ, i64_w, i32_w]
     rfl
    refine pure_ (i := 3) (N := some 67) (v := ?_) (a' := ?_) #[true, true, true, true, false, false, false, false] rfl rfl (any_of HT_.out (by kernel_rfl)) (fun _ _ _ h => h) (Or.inl ⟨by rfl, ?_⟩) ?_ ?_
    rotate_left
    ·
     intro w'
     go_simp
     with_reducible rfl
    rotate_left
    ·
     simp only [Act.put, List.setIfInBounds_toArray, List.set_cons_zero, List.set_cons_succ, i64_w, i32_w]
     rfl
    refine pure_ (i := 4) (N := some 71) (v := ?_) (a' := ?_) #[true, true, true, true, true, false, false, false] rfl rfl (any_of HT_.out (by kernel_rfl)) (fun _ _ _ h => h) (Or.inl ⟨by rfl, ?_⟩) ?_ ?_
    rotate_left
    ·
     intro w'
     go_simp
     with_reducible rfl
    rotate_left
    ·
     simp only [Act.put, List.setIfInBounds_toArray, List.set_cons_zero, List.set_cons_succ, i64_w, i32_w]
     rfl
    refine pure_ (i := 5) (N := some 72) (v := ?_) (a' := ?_) #[true, true, true, true, true, true, false, false] rfl rfl (any_of HT_.out (by kernel_rfl)) (fun _ _ _ h => h) (Or.inl ⟨by rfl, ?_⟩) ?_ ?_
    rotate_left
    ·
     intro w'
     go_simp
     with_reducible rfl
    rotate_left
    ·
     simp only [Act.put, List.setIfInBounds_toArray, List.set_cons_zero, List.set_cons_succ, i64_w, i32_w]
     rfl
    refine pure_ (i := 6) (N := some 8) (v := ?_) (a' := ?_) #[true, true, true, true, true, true, true, false] rfl rfl (any_of HT_.out (by kernel_rfl)) (fun _ _ _ h => h) (Or.inl ⟨by rfl, ?_⟩) ?_ ?_
    rotate_left
    ·
     intro w'
     go_simp
     with_reducible rfl
    rotate_left
    ·
     simp only [Act.put, List.setIfInBounds_toArray, List.set_cons_zero, List.set_cons_succ, i64_w, i32_w]
     rfl
    refine pure_ (i := 7) (N := some 9) (v := ?_) (a' := ?_) #[true, true, true, true, true, true, true, true] rfl rfl (any_of HT_.out (by kernel_rfl)) (fun _ _ _ h => h) (Or.inl ⟨by rfl, ?_⟩) ?_ ?_
    rotate_left
    ·
     intro w'
     go_simp
     with_reducible rfl
    rotate_left
    ·
     simp only [Act.put, List.setIfInBounds_toArray, List.set_cons_zero, List.set_cons_succ, i64_w, i32_w]
     rfl
    refine done_ (done_of HT_.out (by kernel_rfl)) ?_
    go_upto_region 6 with (fail)
    go_cut [78] (fun v78 wc => ∃ (kq : Nat) (x78_58 : Bool), v78 = .bool x78_58 ∧ Aside0 (culetlaw44_TariffSplit.j1 kq t234 t236 x78_58 a0_0 l0_1 a1_0 a1_1 t229 t230 = some r) ∧ Aside0 (kq ≤ kj2) ∧ Aside0 (Kd.R k63 63 wc w.heap.size (fun _ => True) (.slice Ao67 t230.length co67) t230) ∧ Aside0 (wc.heap[gb223]? = some (.cells #[.string a0_0, (.slice A0_1 l0_1.length c0_1)] 24 (0, 0))) ∧ Aside0 (wc.heap[gb224]? = some (.cells #[.int .i64 a1_0, .int .i64 a1_1] 46 (0, 0))) ∧ Aside0 (wc.heap[gb233]? = some (.cells #[.string t229, (.slice Ao67 t230.length co67)] 29 (0, 0))) ∧ Aside0 (Below w.heap.size w wc))
    case first =>
     have H := HC59.out
     clear HC59
     by_cases c72 : t235 = 0
     ·
      rw [if_pos c72] at H
      have c72b0 : (t235 == 0) = true := beq_iff_eq.mpr c72
      have c72b1 : (t235 != 0) = false := bne_eq_false_iff_eq.mpr c72
      clear c72
      (first | rw [c72b0] | (simp only [i64_w, i32_w]; rw [c72b0]) | skip)
      have H' := Aside0.mk H
      clear H
      go_wp2
      go_meet
      case rel => exact ⟨_, ((t237 != 0)), (by first | rfl | (simp; done) | (simp [*]; done)), H', ⟨by have := HJ2.out; first | omega | exact Nat.le_refl _⟩, ⟨by (with_reducible repeat (first | apply Kd.R_alloc | apply Kd.R_drewN | apply Kd.R_drew)); exact HO232.out⟩, ⟨by (with_reducible repeat (first | refine blk_drewN ?_ _ | refine blk_drew ?_ | refine blk_alloc ?_ _)); exact BK223.out⟩, ⟨by (with_reducible repeat (first | refine blk_drewN ?_ _ | refine blk_drew ?_ | refine blk_alloc ?_ _)); exact BK224.out⟩, ⟨by (with_reducible repeat (first | refine blk_drewN ?_ _ | refine blk_drew ?_ | refine blk_alloc ?_ _)); exact BK233.out⟩, ⟨by repeat (first | (with_reducible first | exact HB.out | apply below_alloc | apply pw_below_drewN | apply below_drew1 | refine below_set ?_ GE223.out | refine below_set ?_ GE224.out | refine below_set ?_ GE233.out) | exact HB.out)⟩⟩
     ·
      rw [if_neg c72] at H
      have c72b0 : (t235 == 0) = false := beq_eq_false_iff_ne.mpr c72
      have c72b1 : (t235 != 0) = true := bne_iff_ne.mpr c72
      (first | rw [c72b0] | (simp only [i64_w, i32_w]; rw [c72b0]) | skip)
      have H' := Aside0.mk H
      clear H
      go_wp2
      go_meet
      case rel => exact ⟨_, (true), (by first | rfl | (simp; done) | (simp [*]; done)), H', ⟨by have := HJ2.out; first | omega | exact Nat.le_refl _⟩, ⟨by (with_reducible repeat (first | apply Kd.R_alloc | apply Kd.R_drewN | apply Kd.R_drew)); exact HO232.out⟩, ⟨by (with_reducible repeat (first | refine blk_drewN ?_ _ | refine blk_drew ?_ | refine blk_alloc ?_ _)); exact BK223.out⟩, ⟨by (with_reducible repeat (first | refine blk_drewN ?_ _ | refine blk_drew ?_ | refine blk_alloc ?_ _)); exact BK224.out⟩, ⟨by (with_reducible repeat (first | refine blk_drewN ?_ _ | refine blk_drew ?_ | refine blk_alloc ?_ _)); exact BK233.out⟩, ⟨by repeat (first | (with_reducible first | exact HB.out | apply below_alloc | apply pw_below_drewN | apply below_drew1 | refine below_set ?_ GE223.out | refine below_set ?_ GE224.out | refine below_set ?_ GE233.out) | exact HB.out)⟩⟩
    case rest =>
     clear HC59
     try clear c1
     try clear c2
     try clear p2
     try clear c3
     try clear c4
     try clear c5
     try clear c6
     try clear p6
     try clear c7
     try clear c9
     try clear c10
     try clear c10b0
     try clear c11
     try clear c12
     try clear c16
     try clear c16b0
     try clear c18
     try clear c22
     try clear c22b0
     try clear c24
     try clear c28
     try clear c28b0
     try clear c30
     try clear c34
     try clear c34b0
     try clear c36
     try clear c42
     try clear c49
     try clear c53
     try clear c60
     try clear c64
     try clear p64
     try clear c65
     try clear c72
     try clear c72b0
     try clear c72b1
     try clear hcz13_0
     try clear hcz13_1
     try clear hcz15_0
     try clear hcz15_1
     try clear hcz19_0
     try clear hcz19_1
     try clear hcz21_0
     try clear hcz21_1
     try clear hcz25_0
     try clear hcz25_1
     try clear hcz27_0
     try clear hcz27_1
     try clear hcz31_0
     try clear hcz31_1
     try clear hcz33_0
     try clear hcz33_1
     try clear hcz37_0
     try clear hcz37_1
     try clear hcz39_0
     try clear hcz39_1
     try clear hcz43_0
     try clear hcz43_1
     try clear hcz45_0
     try clear hcz45_1
     try clear hcz46_0
     try clear hcz46_1
     try clear hcz50_0
     try clear hcz50_1
     try clear hcz61_0
     try clear hcz61_1
     try clear hcz66_0
     try clear hcz66_1
     try clear hcz68_0
     try clear hcz68_1
     try clear hfz13_0
     try clear hfz13_1
     try clear hfz15_0
     try clear hfz15_1
     try clear hfz19_0
     try clear hfz19_1
     try clear hfz21_0
     try clear hfz21_1
     try clear hfz25_0
     try clear hfz25_1
     try clear hfz27_0
     try clear hfz27_1
     try clear hfz31_0
     try clear hfz31_1
     try clear hfz33_0
     try clear hfz33_1
     try clear hfz37_0
     try clear hfz37_1
     try clear hfz39_0
     try clear hfz39_1
     try clear hfz43_0
     try clear hfz43_1
     try clear hfz45_0
     try clear hfz45_1
     try clear hfz46_0
     try clear hfz46_1
     try clear hfz50_0
     try clear hfz50_1
     try clear hfz61_0
     try clear hfz61_1
     try clear hfz66_0
     try clear hfz66_1
     try clear hfz68_0
     try clear hfz68_1
     try clear p2
     try clear p6
     obtain ⟨kq, x78_58, rfl, HA, HJ58, HO_234001, BK223, BK224, BK233, HB⟩ := hcut
     cases kq with
     | zero => exact absurd HA.out (by simp [culetlaw44_TariffSplit.j1])
     | succ kj58 =>
      have H := HA.out
      clear HA
      simp only [culetlaw44_TariffSplit.j1] at H
      by_cases c73 : x78_58 = true
      ·
       subst c73
       have H1 : (some false) = some r := by rw [if_pos rfl] at H; exact H
       clear H
       have H := H1
       clear H1
       obtain rfl := Option.some.inj H
       go_wp2
       go_ret
       exact ⟨by first | rfl | (simp [errW_none, errW_some] <;> rfl) | (simp [*, errW_none, errW_some] <;> rfl), by repeat (first | (with_reducible first | exact HB.out | apply below_alloc | apply pw_below_drewN | apply below_drew1 | refine below_set ?_ GE223.out | refine below_set ?_ GE224.out | refine below_set ?_ GE233.out) | exact HB.out)⟩
      ·
       replace c73 := Bool.eq_false_iff.mpr c73
       subst c73
       have H1 : ((some (([a1_0, a1_1, wrap64 (a1_0 + a1_1)] : List Int) : List Int)).bind fun y238 => (culetlaw44_TariffSplit.l0 kj58 t234 t236 ([] : List Int) y238 (y238.length : Int) 0 a0_0 l0_1 t229 t230)) = some r := by rw [if_neg (show ¬ (false = true) by decide)] at H; exact H
       clear H
       have H := H1
       clear H1
       obtain ⟨y238, hy238⟩ : ∃ y_ : List Int, y_ = (([a1_0, a1_1, wrap64 (a1_0 + a1_1)] : List Int)) := ⟨_, rfl⟩
       replace H : (culetlaw44_TariffSplit.l0 kj58 t234 t236 ([] : List Int) y238 (y238.length : Int) 0 a0_0 l0_1 t229 t230) = some r := by first | (rw [hy238]; with_reducible exact H) | (have H2_ := (Option.bind_some _ _).symm.trans H; rw [hy238]; with_reducible exact H2_) | (have H2_ := (Option.bind_some _ _).symm.trans H; with_reducible exact H2_) | with_reducible exact H | (rw [hy238]; exact H) | exact H
       have Ny238 := Aside0.mk hy238
       clear hy238
       have H' := Aside0.mk H
       clear H
       have hnb74 := NB224_223.out
       have hnc74 := NB223_224.out
       have hnb75 := NB224_233.out
       have hnc75 := NB233_224.out
       have hcz76_0 : wc.cell? ⟨gb224, 0, none⟩ = some (.int .i64 a1_0) := (blk_cell BK224.out 0).trans rfl
       have hcz76_1 : wc.cell? ⟨gb224, 1, none⟩ = some (.int .i64 a1_1) := (blk_cell BK224.out 1).trans rfl
       have hfz76_0 := blk_frozen BK224.out 0
       have hfz76_1 := blk_frozen BK224.out 1
       go_wp2_with (first | ((with_reducible refine gate_dst (N := 10) rfl ?_); refine box_event ?hg (N := 10) ?hd (cs := #[.int .i64 0, .int .i64 0, .int .i64 0]) (t := 52) ?hr ?_; (case hd => rfl); (case hg => rfl); (case hr => first | (go_simp; done) | (go_simp; rfl)); intro gbk hg wk hbox hb; have m0_ := Aside0.mk (Kd.R_below (by (with_reducible repeat (first | apply Kd.R_alloc | apply Kd.R_drewN | apply Kd.R_drew)); exact HO_234001.out) hb); have m1_ := Aside0.mk (blk_below (g := gb223) (o := .cells #[.string a0_0, .slice A0_1 l0_1.length c0_1] 24 (0, 0)) (by (with_reducible repeat (first | refine blk_drewN ?_ _ | refine blk_drew ?_ | refine blk_alloc ?_ _)); exact BK223.out) hb); have m2_ := Aside0.mk (blk_below (g := gb224) (o := .cells #[.int .i64 a1_0, .int .i64 a1_1] 46 (0, 0)) (by (with_reducible repeat (first | refine blk_drewN ?_ _ | refine blk_drew ?_ | refine blk_alloc ?_ _)); exact BK224.out) hb); have m3_ := Aside0.mk (blk_below (g := gb233) (o := .cells #[.string t229, .slice Ao67 t230.length co67] 29 (0, 0)) (by (with_reducible repeat (first | refine blk_drewN ?_ _ | refine blk_drew ?_ | refine blk_alloc ?_ _)); exact BK233.out) hb); have m9_ := Aside0.mk (below_step (by repeat (first | (with_reducible first | exact HB.out | apply below_alloc | apply pw_below_drewN | apply below_drew1 | refine below_set ?_ GE223.out | refine below_set ?_ GE224.out | refine below_set ?_ GE233.out) | exact HB.out)) hb); have HO_10 := Aside0.mk hbox; have GEk := Aside0.mk ((by rw [hg]; exact (below_size (by repeat (first | (with_reducible first | exact HB.out | apply below_alloc | apply pw_below_drewN | apply below_drew1 | refine below_set ?_ GE223.out | refine below_set ?_ GE224.out | refine below_set ?_ GE233.out) | exact HB.out)))) : w.heap.size ≤ gbk); clear HO_234001 BK223 BK224 BK233 HB; have HO_234001 := m0_; have BK223 := m1_; have BK224 := m2_; have BK233 := m3_; have HB := m9_; clear m0_ m1_ m2_ m3_ m9_; clear hb hbox hg; have hczk_0 : wk.cell? ⟨gb224, 0, none⟩ = some (.int .i64 a1_0) := (blk_cell BK224.out 0).trans rfl; have hczk_1 : wk.cell? ⟨gb224, 1, none⟩ = some (.int .i64 a1_1) := (blk_cell BK224.out 1).trans rfl; have hfzk_0 := blk_frozen BK224.out 0; have hfzk_1 := blk_frozen BK224.out 1) | ((with_reducible refine gate_dst (N := 88) rfl ?_); refine Kd.R_lit (Kd.int .i64) _ 3 ?hg (N := 88) ?hd (xs := ([a1_0, a1_1, wrap64 (a1_0 + a1_1)] : List Int)) (inner := [.int .i64 a1_0, .int .i64 a1_1, .int .i64 (wrap64 (a1_0 + a1_1))]) (ok := fun _ => True) (okp := fun _ => True) ?hr ?hp (fun _ hk => hk) trivial (Below.refl _ _) (Nat.le_refl _) (by simp) ?_; (case hd => rfl); (case hg => rfl); (case hr => first | (go_simp; done) | (go_simp; rfl)); (case hp => exact (Reps.one (show Kd.M (Kd.int .i64) _ _ _ a1_0 [.int .i64 a1_0] from rfl) (Reps.one (show Kd.M (Kd.int .i64) _ _ _ a1_1 [.int .i64 a1_1] from rfl) (Reps.one (show Kd.M (Kd.int .i64) _ _ _ (wrap64 (a1_0 + a1_1)) [.int .i64 (wrap64 (a1_0 + a1_1))] from rfl) (Reps.none _ _))))); intro v239 w77 ho78 hb hg_ hnew_; clear hg_ hnew_; (first | rw [← Ny238.out] at ho78 | (simp only [Int.reduceToNat] at ho78; rw [← Ny238.out] at ho78)); have n0_ := Aside0.mk (Kd.R_below (by (with_reducible repeat (first | apply Kd.R_alloc | apply Kd.R_drewN | apply Kd.R_drew)); exact HO_234001.out) hb); have n1_ := Aside0.mk (Kd.R_lower ho78 (below_size (by repeat (first | (with_reducible first | exact HB.out | apply below_alloc | apply pw_below_drewN | apply below_drew1 | refine below_set ?_ GE223.out | refine below_set ?_ GE224.out | refine below_set ?_ GE233.out) | exact HB.out)))); have n2_ := Aside0.mk (blk_below (g := gb223) (o := .cells #[.string a0_0, .slice A0_1 l0_1.length c0_1] 24 (0, 0)) (by (with_reducible repeat (first | refine blk_drewN ?_ _ | refine blk_drew ?_ | refine blk_alloc ?_ _)); exact BK223.out) hb); have n3_ := Aside0.mk (blk_below (g := gb224) (o := .cells #[.int .i64 a1_0, .int .i64 a1_1] 46 (0, 0)) (by (with_reducible repeat (first | refine blk_drewN ?_ _ | refine blk_drew ?_ | refine blk_alloc ?_ _)); exact BK224.out) hb); have n4_ := Aside0.mk (blk_below (g := gb233) (o := .cells #[.string t229, .slice Ao67 t230.length co67] 29 (0, 0)) (by (with_reducible repeat (first | refine blk_drewN ?_ _ | refine blk_drew ?_ | refine blk_alloc ?_ _)); exact BK233.out) hb); have n5_ := Aside0.mk (below_step (by repeat (first | (with_reducible first | exact HB.out | apply below_alloc | apply pw_below_drewN | apply below_drew1 | refine below_set ?_ GE223.out | refine below_set ?_ GE224.out | refine below_set ?_ GE233.out) | exact HB.out)) hb); clear HO_234001; clear BK223; clear BK224; clear BK233; clear HB; have HO_234001 := n0_; have HO240 := n1_; have BK223 := n2_; have BK224 := n3_; have BK233 := n4_; have HB := n5_; clear n0_ n1_ n2_ n3_ n4_ n5_; have k9_ := Aside0.mk (blk_below (g := gbk) (o := .cells #[.int .i64 0, .int .i64 0, .int .i64 0] 52 (0, 0)) (by (with_reducible repeat (first | refine blk_drewN ?_ _ | refine blk_drew ?_ | refine blk_alloc ?_ _)); exact HO_10.out) hb); clear HO_10; have HO_10 := k9_; clear k9_; clear hb ho78; obtain ⟨Ao79, co79, eo79⟩ := Kd.R_slice HO240.out; subst eo79))
       go_loopg [90] kj58 (fun kq v90 w' => ∃ (x10_3 : List Int) (x90_3 : Int), v90 = .int .i64 x90_3 ∧ Aside0 (culetlaw44_TariffSplit.l0 kq t234 t236 x10_3 y238 (y238.length : Int) x90_3 a0_0 l0_1 t229 t230 = some r) ∧ Aside0 (kq ≤ kj58) ∧ Aside0 (x90_3 = (x10_3.length : Int) ∧ w'.heap[gbk]? = some (.cells (kcs x10_3) 52 (0, 0))) ∧ Aside0 (Kd.R (Kd.int .i64) 3 w' w.heap.size (fun _ => True) (.slice Ao79 y238.length co79) y238) ∧ Aside0 (Kd.R k63 63 w' w.heap.size (fun _ => True) (.slice Ao67 t230.length co67) t230) ∧ Aside0 (w'.heap[gb223]? = some (.cells #[.string a0_0, (.slice A0_1 l0_1.length c0_1)] 24 (0, 0))) ∧ Aside0 (w'.heap[gb224]? = some (.cells #[.int .i64 a1_0, .int .i64 a1_1] 46 (0, 0))) ∧ Aside0 (w'.heap[gb233]? = some (.cells #[.string t229, (.slice Ao67 t230.length co67)] 29 (0, 0))) ∧ Aside0 (Below w.heap.size w w'))
       case atStart => exact ⟨(([] : List Int)), (0), (by first | rfl | (simp; done) | (simp [*]; done)), H', ⟨Nat.le_refl _⟩, ⟨⟨rfl, by (with_reducible repeat (first | refine blk_drewN ?_ _ | refine blk_drew ?_ | refine blk_alloc ?_ _)); exact HO_10.out⟩⟩, ⟨by (with_reducible repeat (first | apply Kd.R_alloc | apply Kd.R_drewN | apply Kd.R_drew)); exact HO240.out⟩, ⟨by (with_reducible repeat (first | apply Kd.R_alloc | apply Kd.R_drewN | apply Kd.R_drew)); exact HO_234001.out⟩, ⟨by (with_reducible repeat (first | refine blk_drewN ?_ _ | refine blk_drew ?_ | refine blk_alloc ?_ _)); exact BK223.out⟩, ⟨by (with_reducible repeat (first | refine blk_drewN ?_ _ | refine blk_drew ?_ | refine blk_alloc ?_ _)); exact BK224.out⟩, ⟨by (with_reducible repeat (first | refine blk_drewN ?_ _ | refine blk_drew ?_ | refine blk_alloc ?_ _)); exact BK233.out⟩, ⟨by repeat (first | (with_reducible first | exact HB.out | apply below_alloc | apply pw_below_drewN | apply below_drew1 | refine below_set ?_ GE223.out | refine below_set ?_ GE224.out | refine below_set ?_ GE233.out) | exact HB.out)⟩⟩
       case round =>
        clear H'
        try clear c1
        try clear c2
        try clear p2
        try clear c3
        try clear c4
        try clear c5
        try clear c6
        try clear p6
        try clear c7
        try clear c9
        try clear c10
        try clear c10b0
        try clear c11
        try clear c12
        try clear c16
        try clear c16b0
        try clear c18
        try clear c22
        try clear c22b0
        try clear c24
        try clear c28
        try clear c28b0
        try clear c30
        try clear c34
        try clear c34b0
        try clear c36
        try clear c42
        try clear c49
        try clear c53
        try clear c60
        try clear c64
        try clear p64
        try clear c65
        try clear c72
        try clear c72b0
        try clear c72b1
        try clear c73
        try clear c74
        try clear c75
        try clear hcz13_0
        try clear hcz13_1
        try clear hcz15_0
        try clear hcz15_1
        try clear hcz19_0
        try clear hcz19_1
        try clear hcz21_0
        try clear hcz21_1
        try clear hcz25_0
        try clear hcz25_1
        try clear hcz27_0
        try clear hcz27_1
        try clear hcz31_0
        try clear hcz31_1
        try clear hcz33_0
        try clear hcz33_1
        try clear hcz37_0
        try clear hcz37_1
        try clear hcz39_0
        try clear hcz39_1
        try clear hcz43_0
        try clear hcz43_1
        try clear hcz45_0
        try clear hcz45_1
        try clear hcz46_0
        try clear hcz46_1
        try clear hcz50_0
        try clear hcz50_1
        try clear hcz61_0
        try clear hcz61_1
        try clear hcz66_0
        try clear hcz66_1
        try clear hcz68_0
        try clear hcz68_1
        try clear hcz76_0
        try clear hcz76_1
        try clear hfz13_0
        try clear hfz13_1
        try clear hfz15_0
        try clear hfz15_1
        try clear hfz19_0
        try clear hfz19_1
        try clear hfz21_0
        try clear hfz21_1
        try clear hfz25_0
        try clear hfz25_1
        try clear hfz27_0
        try clear hfz27_1
        try clear hfz31_0
        try clear hfz31_1
        try clear hfz33_0
        try clear hfz33_1
        try clear hfz37_0
        try clear hfz37_1
        try clear hfz39_0
        try clear hfz39_1
        try clear hfz43_0
        try clear hfz43_1
        try clear hfz45_0
        try clear hfz45_1
        try clear hfz46_0
        try clear hfz46_1
        try clear hfz50_0
        try clear hfz50_1
        try clear hfz61_0
        try clear hfz61_1
        try clear hfz66_0
        try clear hfz66_1
        try clear hfz68_0
        try clear hfz68_1
        try clear hfz76_0
        try clear hfz76_1
        try clear p2
        try clear p6
        try clear p64
        obtain ⟨x10_3, x90_3, rfl, HA, HK3, HO_10, HO_88, HO_234001, BK223, BK224, BK233, HB⟩ := hrel
        have HX90 := Aside0.mk HO_10.out.1
        have HOk := Aside0.mk HO_10.out.2
        clear HO_10
        have HO_10 := HOk
        clear HOk
        cases gk with
        | zero => exact absurd HA.out (by simp [culetlaw44_TariffSplit.l0])
        | succ k3 =>
         have H := HA.out
         clear HA
         simp only [culetlaw44_TariffSplit.l0] at H
         by_cases c80 : x90_3 < (y238.length : Int)
         ·
          rw [if_pos c80] at H
          have c80b0 : decide (x90_3 < (y238.length : Int)) = true := decide_eq_true c80
          clear c80
          by_cases c81 : 0 ≤ x90_3
          ·
           rw [if_pos c81] at H
           have c81b0 : decide (0 ≤ x90_3) = true := decide_eq_true c81
           clear c81
           by_cases c82 : x90_3 < (y238.length : Int)
           ·
            rw [if_pos c82] at H
            have c82b0 : decide (x90_3 < (y238.length : Int)) = true := decide_eq_true c82
            clear c82
            replace H := Option.bind_eq_some_iff.mp H
            obtain ⟨⟨t242, t243⟩, A830, H⟩ := H
            replace H : (if x10_3.length < 17592186044416 then (culetlaw44_TariffSplit.l0 k3 t234 t236 (x10_3 ++ [t242]) y238 (y238.length : Int) (wrap64 (x90_3 + 1)) a0_0 l0_1 t229 t230) else (none)) = some r := H
            have A83 := Aside0.mk A830
            clear A830
            by_cases c84 : x10_3.length < 17592186044416
            ·
             rw [if_pos c84] at H
             have LMc84 := Aside0.mk c84
             clear c84
             have hks : x10_3 = [] ∨ (∃ ka, x10_3 = [ka]) ∨ (∃ ka kb, x10_3 = [ka, kb]) := three_of x10_3 (by have h1 := HX90.out; have h2 : x90_3 < (y238.length : Int) := of_decide_eq_true (by first | (with_reducible assumption) | assumption); rw [Ny238.out] at h2; simp only [List.length_cons, List.length_nil] at h2; omega)
             rcases hks with rfl | ⟨ka, rfl⟩ | ⟨ka, kb, rfl⟩
             ·
              obtain rfl : x90_3 = 0 := HX90.out
              clear HX90
              obtain ⟨y244, hy244⟩ : ∃ y_ : List Int, y_ = (([] : List Int) ++ [t242]) := ⟨_, rfl⟩
              replace H : (culetlaw44_TariffSplit.l0 k3 t234 t236 y244 y238 (y238.length : Int) (wrap64 ((0 : Int) + 1)) a0_0 l0_1 t229 t230) = some r := by first | (rw [hy244]; with_reducible exact H) | (have H2_ := (Option.bind_some _ _).symm.trans H; rw [hy244]; with_reducible exact H2_) | (have H2_ := (Option.bind_some _ _).symm.trans H; with_reducible exact H2_) | with_reducible exact H | (rw [hy244]; exact H) | exact H
              have Ny244 := Aside0.mk hy244
              clear hy244
              have H' := Aside0.mk H
              clear H
              have p241 : 0 ≤ ((0 : Int) : Int) := of_decide_eq_true (by first | (with_reducible assumption) | assumption)
              have q241 : (0 : Int) < (y238.length : Int) := of_decide_eq_true (by first | (with_reducible assumption) | assumption)
              obtain ⟨ad241, e241, hx241_0⟩ := Kd.at_int (Kd.R_reads' HO_88.out).2.2 (0 : Int) p241 q241
              cases e241
              (try rw [show ((0 : Int)).toNat = 0 from rfl] at hx241_0)
              (try rw [Addr.add_zero'] at hx241_0)
              have qi241 : (0 < y238.length) = True := eq_true (by omega)
              replace p241 := eq_true p241
              replace q241 := eq_true q241
              have hnb85 := NB233_223.out
              have hnc85 := NB223_233.out
              have hnb86 := NB233_224.out
              have hnc86 := NB224_233.out
              have hcz87_0 : wr.cell? ⟨gb233, 0, none⟩ = some (.string t229) := (blk_cell BK233.out 0).trans rfl
              have hcz87_1 : wr.cell? ⟨gb233, 1, none⟩ = some (.slice Ao67 t230.length co67) := (blk_cell BK233.out 1).trans rfl
              have hfz87_0 := blk_frozen BK233.out 0
              have hfz87_1 := blk_frozen BK233.out 1
              go_wp2_with (first | ((with_reducible refine gate_callee (f := 20) rfl ?_); refine goesL_ (some 99) rfl rfl Tryd.func20 (by kernel_rfl) rfl #[.agg #[.string t229, .slice Ao67 t230.length co67], .int .i64 (rd y238 (0 : Int))] rfl (by (try simp only [List.map_toArray, List.map_cons, List.map_nil]); first | done | rfl | (simp only [List.length_drop, List.length_take]; rfl)) ?_; (with_reducible refine (tariff_ClassOf.calls k3 t229 _ _ t230 (rd y238 (0 : Int)) t242 t243 _ ?side1 ?side2 A83.out).mono ?_); (case side1 => repeat (first | exact (Kd.R_reads' HO_234001.out).2.2 | (with_reducible refine Kd.C_alloc ?_ _) | (with_reducible refine Kd.C_drewN ?_ _) | (with_reducible refine Kd.C_drew ?_))); (case side2 => exact (Kd.R_reads' HO_234001.out).2.1); rintro e w88 ⟨rfl, hb⟩; refine ⟨_, rfl, ?_⟩; have n0_ := Aside0.mk (blk_below (g := gbk) (o := .cells (kcs ([] : List Int)) 52 (0, 0)) (by (with_reducible repeat (first | refine blk_drewN ?_ _ | refine blk_drew ?_ | refine blk_alloc ?_ _)); exact HO_10.out) hb); have n1_ := Aside0.mk (Kd.R_below (by (with_reducible repeat (first | apply Kd.R_alloc | apply Kd.R_drewN | apply Kd.R_drew)); exact HO_88.out) hb); have n2_ := Aside0.mk (Kd.R_below (by (with_reducible repeat (first | apply Kd.R_alloc | apply Kd.R_drewN | apply Kd.R_drew)); exact HO_234001.out) hb); have n3_ := Aside0.mk (blk_below (g := gb223) (o := .cells #[.string a0_0, .slice A0_1 l0_1.length c0_1] 24 (0, 0)) (by (with_reducible repeat (first | refine blk_drewN ?_ _ | refine blk_drew ?_ | refine blk_alloc ?_ _)); exact BK223.out) hb); have n4_ := Aside0.mk (blk_below (g := gb224) (o := .cells #[.int .i64 a1_0, .int .i64 a1_1] 46 (0, 0)) (by (with_reducible repeat (first | refine blk_drewN ?_ _ | refine blk_drew ?_ | refine blk_alloc ?_ _)); exact BK224.out) hb); have n5_ := Aside0.mk (blk_below (g := gb233) (o := .cells #[.string t229, .slice Ao67 t230.length co67] 29 (0, 0)) (by (with_reducible repeat (first | refine blk_drewN ?_ _ | refine blk_drew ?_ | refine blk_alloc ?_ _)); exact BK233.out) hb); have n6_ := Aside0.mk (below_step (by repeat (first | (with_reducible first | exact HB.out | apply below_alloc | apply pw_below_drewN | apply below_drew1 | refine below_set ?_ GE223.out | refine below_set ?_ GE224.out | refine below_set ?_ GE233.out) | exact HB.out)) hb); clear HO_10; clear HO_88; clear HO_234001; clear BK223; clear BK224; clear BK233; clear HB; have HO_10 := n0_; have HO_88 := n1_; have HO_234001 := n2_; have BK223 := n3_; have BK224 := n4_; have BK233 := n5_; have HB := n6_; clear n0_ n1_ n2_ n3_ n4_ n5_ n6_; (try clear hb); (try clear hb2); (try clear hk); (try clear hi)) | ((with_reducible refine gate_store (t := 3) (p := 102) rfl ?_); refine store_event (t := 3) (p := 102) (v := ?vo0) (w1 := w88.setCell ⟨gbk, 0, none⟩ (.int .i64 t242)) ?hg ?ho ?hn ?hr ?_; (case ho => rfl); (case hg => rfl); (case hn => rfl); (case hr => (simp only [execOp]); (rw [show Act.eval _ (.tmp 102) = .pointer (some ⟨gbk, 0, none⟩) from rfl, show Act.eval _ (.tmp 100) = .int .i64 t242 from rfl]); exact st3 _ _ _ _ ((blk_cell HO_10.out 0).trans rfl) (blk_frozen HO_10.out 0)); intro w89 hw_; have n0_ := Aside0.mk (show Kd.R (Kd.int .i64) 3 w89 w.heap.size (fun _ => True) _ _ by rw [hw_]; exact R_arr HO_88.out HO_10.out (by decide) _ _); have n1_ := Aside0.mk (show Kd.R k63 63 w89 w.heap.size (fun _ => True) _ _ by rw [hw_]; exact R_arr HO_234001.out HO_10.out (by decide) _ _); have n2_ := Aside0.mk (show w89.heap[gb223]? = some _ by rw [hw_]; exact blk_far BK223.out (blk_ne BK223.out HO_10.out (by decide)) _); have n3_ := Aside0.mk (show w89.heap[gb224]? = some _ by rw [hw_]; exact blk_far BK224.out (blk_ne BK224.out HO_10.out (by decide)) _); have n4_ := Aside0.mk (show w89.heap[gb233]? = some _ by rw [hw_]; exact blk_far BK233.out (blk_ne BK233.out HO_10.out (by decide)) _); have n7_ := Aside0.mk (show Below w.heap.size w w89 by rw [hw_]; exact below_set HB.out GEk.out); have n8_ := Aside0.mk (show w89.heap[gbk]? = some (.cells (kcs y244) 52 (0, 0)) by rw [hw_, Ny244.out]; exact blk_put HO_10.out _ _ rfl); clear HO_88 HO_234001 BK223 BK224 BK233 HB HO_10; have HO_88 := n0_; have HO_234001 := n1_; have BK223 := n2_; have BK224 := n3_; have BK233 := n4_; have HB := n7_; have HO246 := n8_; clear n0_ n1_ n2_ n3_ n4_ n7_ n8_; clear hw_))
              go_roundg k3
              case measure => have := HJ2.out; have := HJ58.out; have := HK3.out; omega
              case rel => exact ⟨(y244), (wrap64 ((0 : Int) + 1)), (by simp; unfold wrap64; omega), H', ⟨by have := HJ2.out; have := HJ58.out; have := HK3.out; omega⟩, ⟨⟨by rw [Ny244.out]; show wrap64 ((0 : Int) + 1) = ((1 : Nat) : Int); unfold wrap64; omega, by (with_reducible repeat (first | refine blk_drewN ?_ _ | refine blk_drew ?_ | refine blk_alloc ?_ _)); exact HO246.out⟩⟩, ⟨by (with_reducible repeat (first | apply Kd.R_alloc | apply Kd.R_drewN | apply Kd.R_drew)); exact HO_88.out⟩, ⟨by (with_reducible repeat (first | apply Kd.R_alloc | apply Kd.R_drewN | apply Kd.R_drew)); exact HO_234001.out⟩, ⟨by (with_reducible repeat (first | refine blk_drewN ?_ _ | refine blk_drew ?_ | refine blk_alloc ?_ _)); exact BK223.out⟩, ⟨by (with_reducible repeat (first | refine blk_drewN ?_ _ | refine blk_drew ?_ | refine blk_alloc ?_ _)); exact BK224.out⟩, ⟨by (with_reducible repeat (first | refine blk_drewN ?_ _ | refine blk_drew ?_ | refine blk_alloc ?_ _)); exact BK233.out⟩, ⟨by repeat (first | (with_reducible first | exact HB.out | apply below_alloc | apply pw_below_drewN | apply below_drew1 | refine below_set ?_ GE223.out | refine below_set ?_ GE224.out | refine below_set ?_ GE233.out) | exact HB.out)⟩⟩
             ·
              obtain rfl : x90_3 = 1 := HX90.out
              clear HX90
              obtain ⟨y244, hy244⟩ : ∃ y_ : List Int, y_ = (([ka] : List Int) ++ [t242]) := ⟨_, rfl⟩
              replace H : (culetlaw44_TariffSplit.l0 k3 t234 t236 y244 y238 (y238.length : Int) (wrap64 ((1 : Int) + 1)) a0_0 l0_1 t229 t230) = some r := by first | (rw [hy244]; with_reducible exact H) | (have H2_ := (Option.bind_some _ _).symm.trans H; rw [hy244]; with_reducible exact H2_) | (have H2_ := (Option.bind_some _ _).symm.trans H; with_reducible exact H2_) | with_reducible exact H | (rw [hy244]; exact H) | exact H
              have Ny244 := Aside0.mk hy244
              clear hy244
              have H' := Aside0.mk H
              clear H
              have p241 : 0 ≤ ((1 : Int) : Int) := of_decide_eq_true (by first | (with_reducible assumption) | assumption)
              have q241 : (1 : Int) < (y238.length : Int) := of_decide_eq_true (by first | (with_reducible assumption) | assumption)
              obtain ⟨ad241, e241, hx241_0⟩ := Kd.at_int (Kd.R_reads' HO_88.out).2.2 (1 : Int) p241 q241
              cases e241
              (try simp only [show (1 : Int).toNat = 1 from rfl, Nat.reduceMul, Nat.reduceEqDiff, Go.Addr.add, ↓reduceIte] at hx241_0)
              have qi241 : (1 < y238.length) = True := eq_true (by omega)
              replace p241 := eq_true p241
              replace q241 := eq_true q241
              have hnb85 := NB233_223.out
              have hnc85 := NB223_233.out
              have hnb86 := NB233_224.out
              have hnc86 := NB224_233.out
              have hcz87_0 : wr.cell? ⟨gb233, 0, none⟩ = some (.string t229) := (blk_cell BK233.out 0).trans rfl
              have hcz87_1 : wr.cell? ⟨gb233, 1, none⟩ = some (.slice Ao67 t230.length co67) := (blk_cell BK233.out 1).trans rfl
              have hfz87_0 := blk_frozen BK233.out 0
              have hfz87_1 := blk_frozen BK233.out 1
              go_wp2_with (first | ((with_reducible refine gate_callee (f := 20) rfl ?_); refine goesL_ (some 99) rfl rfl Tryd.func20 (by kernel_rfl) rfl #[.agg #[.string t229, .slice Ao67 t230.length co67], .int .i64 (rd y238 (1 : Int))] rfl (by (try simp only [List.map_toArray, List.map_cons, List.map_nil]); first | done | rfl | (simp only [List.length_drop, List.length_take]; rfl)) ?_; (with_reducible refine (tariff_ClassOf.calls k3 t229 _ _ t230 (rd y238 (1 : Int)) t242 t243 _ ?side1 ?side2 A83.out).mono ?_); (case side1 => repeat (first | exact (Kd.R_reads' HO_234001.out).2.2 | (with_reducible refine Kd.C_alloc ?_ _) | (with_reducible refine Kd.C_drewN ?_ _) | (with_reducible refine Kd.C_drew ?_))); (case side2 => exact (Kd.R_reads' HO_234001.out).2.1); rintro e w88 ⟨rfl, hb⟩; refine ⟨_, rfl, ?_⟩; have n0_ := Aside0.mk (blk_below (g := gbk) (o := .cells (kcs ([ka] : List Int)) 52 (0, 0)) (by (with_reducible repeat (first | refine blk_drewN ?_ _ | refine blk_drew ?_ | refine blk_alloc ?_ _)); exact HO_10.out) hb); have n1_ := Aside0.mk (Kd.R_below (by (with_reducible repeat (first | apply Kd.R_alloc | apply Kd.R_drewN | apply Kd.R_drew)); exact HO_88.out) hb); have n2_ := Aside0.mk (Kd.R_below (by (with_reducible repeat (first | apply Kd.R_alloc | apply Kd.R_drewN | apply Kd.R_drew)); exact HO_234001.out) hb); have n3_ := Aside0.mk (blk_below (g := gb223) (o := .cells #[.string a0_0, .slice A0_1 l0_1.length c0_1] 24 (0, 0)) (by (with_reducible repeat (first | refine blk_drewN ?_ _ | refine blk_drew ?_ | refine blk_alloc ?_ _)); exact BK223.out) hb); have n4_ := Aside0.mk (blk_below (g := gb224) (o := .cells #[.int .i64 a1_0, .int .i64 a1_1] 46 (0, 0)) (by (with_reducible repeat (first | refine blk_drewN ?_ _ | refine blk_drew ?_ | refine blk_alloc ?_ _)); exact BK224.out) hb); have n5_ := Aside0.mk (blk_below (g := gb233) (o := .cells #[.string t229, .slice Ao67 t230.length co67] 29 (0, 0)) (by (with_reducible repeat (first | refine blk_drewN ?_ _ | refine blk_drew ?_ | refine blk_alloc ?_ _)); exact BK233.out) hb); have n6_ := Aside0.mk (below_step (by repeat (first | (with_reducible first | exact HB.out | apply below_alloc | apply pw_below_drewN | apply below_drew1 | refine below_set ?_ GE223.out | refine below_set ?_ GE224.out | refine below_set ?_ GE233.out) | exact HB.out)) hb); clear HO_10; clear HO_88; clear HO_234001; clear BK223; clear BK224; clear BK233; clear HB; have HO_10 := n0_; have HO_88 := n1_; have HO_234001 := n2_; have BK223 := n3_; have BK224 := n4_; have BK233 := n5_; have HB := n6_; clear n0_ n1_ n2_ n3_ n4_ n5_ n6_; (try clear hb); (try clear hb2); (try clear hk); (try clear hi)) | ((with_reducible refine gate_store (t := 3) (p := 102) rfl ?_); refine store_event (t := 3) (p := 102) (v := ?vo1) (w1 := w88.setCell ⟨gbk, 1, none⟩ (.int .i64 t242)) ?hg ?ho ?hn ?hr ?_; (case ho => rfl); (case hg => rfl); (case hn => rfl); (case hr => (simp only [execOp]); (rw [show Act.eval _ (.tmp 102) = .pointer (some ⟨gbk, 1, none⟩) from rfl, show Act.eval _ (.tmp 100) = .int .i64 t242 from rfl]); exact st3 _ _ _ _ ((blk_cell HO_10.out 1).trans rfl) (blk_frozen HO_10.out 1)); intro w89 hw_; have n0_ := Aside0.mk (show Kd.R (Kd.int .i64) 3 w89 w.heap.size (fun _ => True) _ _ by rw [hw_]; exact R_arr HO_88.out HO_10.out (by decide) _ _); have n1_ := Aside0.mk (show Kd.R k63 63 w89 w.heap.size (fun _ => True) _ _ by rw [hw_]; exact R_arr HO_234001.out HO_10.out (by decide) _ _); have n2_ := Aside0.mk (show w89.heap[gb223]? = some _ by rw [hw_]; exact blk_far BK223.out (blk_ne BK223.out HO_10.out (by decide)) _); have n3_ := Aside0.mk (show w89.heap[gb224]? = some _ by rw [hw_]; exact blk_far BK224.out (blk_ne BK224.out HO_10.out (by decide)) _); have n4_ := Aside0.mk (show w89.heap[gb233]? = some _ by rw [hw_]; exact blk_far BK233.out (blk_ne BK233.out HO_10.out (by decide)) _); have n7_ := Aside0.mk (show Below w.heap.size w w89 by rw [hw_]; exact below_set HB.out GEk.out); have n8_ := Aside0.mk (show w89.heap[gbk]? = some (.cells (kcs y244) 52 (0, 0)) by rw [hw_, Ny244.out]; exact blk_put HO_10.out _ _ rfl); clear HO_88 HO_234001 BK223 BK224 BK233 HB HO_10; have HO_88 := n0_; have HO_234001 := n1_; have BK223 := n2_; have BK224 := n3_; have BK233 := n4_; have HB := n7_; have HO246 := n8_; clear n0_ n1_ n2_ n3_ n4_ n7_ n8_; clear hw_))
              go_roundg k3
              case measure => have := HJ2.out; have := HJ58.out; have := HK3.out; omega
              case rel => exact ⟨(y244), (wrap64 ((1 : Int) + 1)), (by simp; unfold wrap64; omega), H', ⟨by have := HJ2.out; have := HJ58.out; have := HK3.out; omega⟩, ⟨⟨by rw [Ny244.out]; show wrap64 ((1 : Int) + 1) = ((2 : Nat) : Int); unfold wrap64; omega, by (with_reducible repeat (first | refine blk_drewN ?_ _ | refine blk_drew ?_ | refine blk_alloc ?_ _)); exact HO246.out⟩⟩, ⟨by (with_reducible repeat (first | apply Kd.R_alloc | apply Kd.R_drewN | apply Kd.R_drew)); exact HO_88.out⟩, ⟨by (with_reducible repeat (first | apply Kd.R_alloc | apply Kd.R_drewN | apply Kd.R_drew)); exact HO_234001.out⟩, ⟨by (with_reducible repeat (first | refine blk_drewN ?_ _ | refine blk_drew ?_ | refine blk_alloc ?_ _)); exact BK223.out⟩, ⟨by (with_reducible repeat (first | refine blk_drewN ?_ _ | refine blk_drew ?_ | refine blk_alloc ?_ _)); exact BK224.out⟩, ⟨by (with_reducible repeat (first | refine blk_drewN ?_ _ | refine blk_drew ?_ | refine blk_alloc ?_ _)); exact BK233.out⟩, ⟨by repeat (first | (with_reducible first | exact HB.out | apply below_alloc | apply pw_below_drewN | apply below_drew1 | refine below_set ?_ GE223.out | refine below_set ?_ GE224.out | refine below_set ?_ GE233.out) | exact HB.out)⟩⟩
             ·
              obtain rfl : x90_3 = 2 := HX90.out
              clear HX90
              obtain ⟨y244, hy244⟩ : ∃ y_ : List Int, y_ = (([ka, kb] : List Int) ++ [t242]) := ⟨_, rfl⟩
              replace H : (culetlaw44_TariffSplit.l0 k3 t234 t236 y244 y238 (y238.length : Int) (wrap64 ((2 : Int) + 1)) a0_0 l0_1 t229 t230) = some r := by first | (rw [hy244]; with_reducible exact H) | (have H2_ := (Option.bind_some _ _).symm.trans H; rw [hy244]; with_reducible exact H2_) | (have H2_ := (Option.bind_some _ _).symm.trans H; with_reducible exact H2_) | with_reducible exact H | (rw [hy244]; exact H) | exact H
              have Ny244 := Aside0.mk hy244
              clear hy244
              have H' := Aside0.mk H
              clear H
              have p241 : 0 ≤ ((2 : Int) : Int) := of_decide_eq_true (by first | (with_reducible assumption) | assumption)
              have q241 : (2 : Int) < (y238.length : Int) := of_decide_eq_true (by first | (with_reducible assumption) | assumption)
              obtain ⟨ad241, e241, hx241_0⟩ := Kd.at_int (Kd.R_reads' HO_88.out).2.2 (2 : Int) p241 q241
              cases e241
              (try simp only [show (2 : Int).toNat = 2 from rfl, Nat.reduceMul, Nat.reduceEqDiff, Go.Addr.add, ↓reduceIte] at hx241_0)
              have qi241 : (2 < y238.length) = True := eq_true (by omega)
              replace p241 := eq_true p241
              replace q241 := eq_true q241
              have hnb85 := NB233_223.out
              have hnc85 := NB223_233.out
              have hnb86 := NB233_224.out
              have hnc86 := NB224_233.out
              have hcz87_0 : wr.cell? ⟨gb233, 0, none⟩ = some (.string t229) := (blk_cell BK233.out 0).trans rfl
              have hcz87_1 : wr.cell? ⟨gb233, 1, none⟩ = some (.slice Ao67 t230.length co67) := (blk_cell BK233.out 1).trans rfl
              have hfz87_0 := blk_frozen BK233.out 0
              have hfz87_1 := blk_frozen BK233.out 1
              go_wp2_with (first | ((with_reducible refine gate_callee (f := 20) rfl ?_); refine goesL_ (some 99) rfl rfl Tryd.func20 (by kernel_rfl) rfl #[.agg #[.string t229, .slice Ao67 t230.length co67], .int .i64 (rd y238 (2 : Int))] rfl (by (try simp only [List.map_toArray, List.map_cons, List.map_nil]); first | done | rfl | (simp only [List.length_drop, List.length_take]; rfl)) ?_; (with_reducible refine (tariff_ClassOf.calls k3 t229 _ _ t230 (rd y238 (2 : Int)) t242 t243 _ ?side1 ?side2 A83.out).mono ?_); (case side1 => repeat (first | exact (Kd.R_reads' HO_234001.out).2.2 | (with_reducible refine Kd.C_alloc ?_ _) | (with_reducible refine Kd.C_drewN ?_ _) | (with_reducible refine Kd.C_drew ?_))); (case side2 => exact (Kd.R_reads' HO_234001.out).2.1); rintro e w88 ⟨rfl, hb⟩; refine ⟨_, rfl, ?_⟩; have n0_ := Aside0.mk (blk_below (g := gbk) (o := .cells (kcs ([ka, kb] : List Int)) 52 (0, 0)) (by (with_reducible repeat (first | refine blk_drewN ?_ _ | refine blk_drew ?_ | refine blk_alloc ?_ _)); exact HO_10.out) hb); have n1_ := Aside0.mk (Kd.R_below (by (with_reducible repeat (first | apply Kd.R_alloc | apply Kd.R_drewN | apply Kd.R_drew)); exact HO_88.out) hb); have n2_ := Aside0.mk (Kd.R_below (by (with_reducible repeat (first | apply Kd.R_alloc | apply Kd.R_drewN | apply Kd.R_drew)); exact HO_234001.out) hb); have n3_ := Aside0.mk (blk_below (g := gb223) (o := .cells #[.string a0_0, .slice A0_1 l0_1.length c0_1] 24 (0, 0)) (by (with_reducible repeat (first | refine blk_drewN ?_ _ | refine blk_drew ?_ | refine blk_alloc ?_ _)); exact BK223.out) hb); have n4_ := Aside0.mk (blk_below (g := gb224) (o := .cells #[.int .i64 a1_0, .int .i64 a1_1] 46 (0, 0)) (by (with_reducible repeat (first | refine blk_drewN ?_ _ | refine blk_drew ?_ | refine blk_alloc ?_ _)); exact BK224.out) hb); have n5_ := Aside0.mk (blk_below (g := gb233) (o := .cells #[.string t229, .slice Ao67 t230.length co67] 29 (0, 0)) (by (with_reducible repeat (first | refine blk_drewN ?_ _ | refine blk_drew ?_ | refine blk_alloc ?_ _)); exact BK233.out) hb); have n6_ := Aside0.mk (below_step (by repeat (first | (with_reducible first | exact HB.out | apply below_alloc | apply pw_below_drewN | apply below_drew1 | refine below_set ?_ GE223.out | refine below_set ?_ GE224.out | refine below_set ?_ GE233.out) | exact HB.out)) hb); clear HO_10; clear HO_88; clear HO_234001; clear BK223; clear BK224; clear BK233; clear HB; have HO_10 := n0_; have HO_88 := n1_; have HO_234001 := n2_; have BK223 := n3_; have BK224 := n4_; have BK233 := n5_; have HB := n6_; clear n0_ n1_ n2_ n3_ n4_ n5_ n6_; (try clear hb); (try clear hb2); (try clear hk); (try clear hi)) | ((with_reducible refine gate_store (t := 3) (p := 102) rfl ?_); refine store_event (t := 3) (p := 102) (v := ?vo2) (w1 := w88.setCell ⟨gbk, 2, none⟩ (.int .i64 t242)) ?hg ?ho ?hn ?hr ?_; (case ho => rfl); (case hg => rfl); (case hn => rfl); (case hr => (simp only [execOp]); (rw [show Act.eval _ (.tmp 102) = .pointer (some ⟨gbk, 2, none⟩) from rfl, show Act.eval _ (.tmp 100) = .int .i64 t242 from rfl]); exact st3 _ _ _ _ ((blk_cell HO_10.out 2).trans rfl) (blk_frozen HO_10.out 2)); intro w89 hw_; have n0_ := Aside0.mk (show Kd.R (Kd.int .i64) 3 w89 w.heap.size (fun _ => True) _ _ by rw [hw_]; exact R_arr HO_88.out HO_10.out (by decide) _ _); have n1_ := Aside0.mk (show Kd.R k63 63 w89 w.heap.size (fun _ => True) _ _ by rw [hw_]; exact R_arr HO_234001.out HO_10.out (by decide) _ _); have n2_ := Aside0.mk (show w89.heap[gb223]? = some _ by rw [hw_]; exact blk_far BK223.out (blk_ne BK223.out HO_10.out (by decide)) _); have n3_ := Aside0.mk (show w89.heap[gb224]? = some _ by rw [hw_]; exact blk_far BK224.out (blk_ne BK224.out HO_10.out (by decide)) _); have n4_ := Aside0.mk (show w89.heap[gb233]? = some _ by rw [hw_]; exact blk_far BK233.out (blk_ne BK233.out HO_10.out (by decide)) _); have n7_ := Aside0.mk (show Below w.heap.size w w89 by rw [hw_]; exact below_set HB.out GEk.out); have n8_ := Aside0.mk (show w89.heap[gbk]? = some (.cells (kcs y244) 52 (0, 0)) by rw [hw_, Ny244.out]; exact blk_put HO_10.out _ _ rfl); clear HO_88 HO_234001 BK223 BK224 BK233 HB HO_10; have HO_88 := n0_; have HO_234001 := n1_; have BK223 := n2_; have BK224 := n3_; have BK233 := n4_; have HB := n7_; have HO246 := n8_; clear n0_ n1_ n2_ n3_ n4_ n7_ n8_; clear hw_))
              go_roundg k3
              case measure => have := HJ2.out; have := HJ58.out; have := HK3.out; omega
              case rel => exact ⟨(y244), (wrap64 ((2 : Int) + 1)), (by simp; unfold wrap64; omega), H', ⟨by have := HJ2.out; have := HJ58.out; have := HK3.out; omega⟩, ⟨⟨by rw [Ny244.out]; show wrap64 ((2 : Int) + 1) = ((3 : Nat) : Int); unfold wrap64; omega, by (with_reducible repeat (first | refine blk_drewN ?_ _ | refine blk_drew ?_ | refine blk_alloc ?_ _)); exact HO246.out⟩⟩, ⟨by (with_reducible repeat (first | apply Kd.R_alloc | apply Kd.R_drewN | apply Kd.R_drew)); exact HO_88.out⟩, ⟨by (with_reducible repeat (first | apply Kd.R_alloc | apply Kd.R_drewN | apply Kd.R_drew)); exact HO_234001.out⟩, ⟨by (with_reducible repeat (first | refine blk_drewN ?_ _ | refine blk_drew ?_ | refine blk_alloc ?_ _)); exact BK223.out⟩, ⟨by (with_reducible repeat (first | refine blk_drewN ?_ _ | refine blk_drew ?_ | refine blk_alloc ?_ _)); exact BK224.out⟩, ⟨by (with_reducible repeat (first | refine blk_drewN ?_ _ | refine blk_drew ?_ | refine blk_alloc ?_ _)); exact BK233.out⟩, ⟨by repeat (first | (with_reducible first | exact HB.out | apply below_alloc | apply pw_below_drewN | apply below_drew1 | refine below_set ?_ GE223.out | refine below_set ?_ GE224.out | refine below_set ?_ GE233.out) | exact HB.out)⟩⟩
            ·
             rw [if_neg c84] at H
             exact absurd H (by simp)
           ·
            rw [if_neg c82] at H
            exact absurd H (by simp)
          ·
           rw [if_neg c81] at H
           exact absurd H (by simp)
         ·
          rw [if_neg c80] at H
          have c80b0 : decide (x90_3 < (y238.length : Int)) = false := decide_eq_false c80
          clear c80
          have HC90 := Aside0.mk H
          clear H
          go_upto_region 14 with (fail)
          go_cut [127] (fun v127 wc => ∃ (kq : Nat) (x127_89 : Bool), v127 = .bool x127_89 ∧ Aside0 (culetlaw44_TariffSplit.j3 kq t234 t236 x127_89 a0_0 l0_1 = some r) ∧ Aside0 (kq ≤ k3) ∧ Aside0 (Kd.R k63 63 wc w.heap.size (fun _ => True) (.slice Ao67 t230.length co67) t230) ∧ Aside0 (wc.heap[gb223]? = some (.cells #[.string a0_0, (.slice A0_1 l0_1.length c0_1)] 24 (0, 0))) ∧ Aside0 (wc.heap[gb224]? = some (.cells #[.int .i64 a1_0, .int .i64 a1_1] 46 (0, 0))) ∧ Aside0 (wc.heap[gb233]? = some (.cells #[.string t229, (.slice Ao67 t230.length co67)] 29 (0, 0))) ∧ Aside0 (Below w.heap.size w wc))
          case first =>
           have H := HC90.out
           clear HC90
           by_cases c91 : 0 < (x10_3.length : Int)
           ·
            rw [if_pos c91] at H
            have c91b0 : decide (0 < (x10_3.length : Int)) = true := decide_eq_true c91
            have c91b1 : decide (0 < x10_3.length) = true := decide_eq_true (by omega)
            clear c91
            (first | rw [c91b0] | (simp only [i64_w, i32_w]; rw [c91b0]) | skip)
            by_cases c92 : 2 < (x10_3.length : Int)
            ·
             rw [if_pos c92] at H
             have c92b0 : decide (2 < (x10_3.length : Int)) = true := decide_eq_true c92
             have c92b1 : decide (2 < x10_3.length) = true := decide_eq_true (by omega)
             clear c92
             by_cases c93 : (rd x10_3 0) = (rd x10_3 2)
             ·
              rw [if_pos c93] at H
              have c93b0 : ((rd x10_3 0) == (rd x10_3 2)) = true := beq_iff_eq.mpr c93
              have c93b1 : ((rd x10_3 0) != (rd x10_3 2)) = false := bne_eq_false_iff_eq.mpr c93
              clear c93
              by_cases c94 : 1 < (x10_3.length : Int)
              ·
               rw [if_pos c94] at H
               have c94b0 : decide (1 < (x10_3.length : Int)) = true := decide_eq_true c94
               have c94b1 : decide (1 < x10_3.length) = true := decide_eq_true (by omega)
               clear c94
               by_cases c95 : (rd x10_3 1) = (rd x10_3 2)
               ·
                rw [if_pos c95] at H
                have c95b0 : ((rd x10_3 1) == (rd x10_3 2)) = true := beq_iff_eq.mpr c95
                have c95b1 : ((rd x10_3 1) != (rd x10_3 2)) = false := bne_eq_false_iff_eq.mpr c95
                clear c95
                by_cases c96 : (wrap64 (t234 - t236)) < 0
                ·
                 rw [if_pos c96] at H
                 have c96b0 : decide ((wrap64 (t234 - t236)) < 0) = true := decide_eq_true c96
                 clear c96
                 have H' := Aside0.mk H
                 clear H
                 have hx247_0 := (blk_cell HO_10.out 0).trans (show (kcs x10_3)[0]? = some (.int .i64 (rd x10_3 0)) from rfl)
                 have hx248_0 := (blk_cell HO_10.out 2).trans (show (kcs x10_3)[2]? = some (.int .i64 (rd x10_3 2)) from rfl)
                 have hx249_0 := (blk_cell HO_10.out 1).trans (show (kcs x10_3)[1]? = some (.int .i64 (rd x10_3 1)) from rfl)
                 have hx250_0 := (blk_cell HO_10.out 2).trans (show (kcs x10_3)[2]? = some (.int .i64 (rd x10_3 2)) from rfl)
                 go_wp2
                 go_meet
                 case rel => exact ⟨_, (true), (by first | rfl | (simp; done) | (simp [*]; done)), H', ⟨by have := HJ2.out; have := HJ58.out; have := HK3.out; first | omega | exact Nat.le_refl _⟩, ⟨by (with_reducible repeat (first | apply Kd.R_alloc | apply Kd.R_drewN | apply Kd.R_drew)); exact HO_234001.out⟩, ⟨by (with_reducible repeat (first | refine blk_drewN ?_ _ | refine blk_drew ?_ | refine blk_alloc ?_ _)); exact BK223.out⟩, ⟨by (with_reducible repeat (first | refine blk_drewN ?_ _ | refine blk_drew ?_ | refine blk_alloc ?_ _)); exact BK224.out⟩, ⟨by (with_reducible repeat (first | refine blk_drewN ?_ _ | refine blk_drew ?_ | refine blk_alloc ?_ _)); exact BK233.out⟩, ⟨by repeat (first | (with_reducible first | exact HB.out | apply below_alloc | apply pw_below_drewN | apply below_drew1 | refine below_set ?_ GE223.out | refine below_set ?_ GE224.out | refine below_set ?_ GE233.out) | exact HB.out)⟩⟩
                ·
                 rw [if_neg c96] at H
                 have c96b0 : decide ((wrap64 (t234 - t236)) < 0) = false := decide_eq_false c96
                 clear c96
                 have H' := Aside0.mk H
                 clear H
                 have hx247_0 := (blk_cell HO_10.out 0).trans (show (kcs x10_3)[0]? = some (.int .i64 (rd x10_3 0)) from rfl)
                 have hx248_0 := (blk_cell HO_10.out 2).trans (show (kcs x10_3)[2]? = some (.int .i64 (rd x10_3 2)) from rfl)
                 have hx249_0 := (blk_cell HO_10.out 1).trans (show (kcs x10_3)[1]? = some (.int .i64 (rd x10_3 1)) from rfl)
                 have hx250_0 := (blk_cell HO_10.out 2).trans (show (kcs x10_3)[2]? = some (.int .i64 (rd x10_3 2)) from rfl)
                 go_wp2
                 go_meet
                 case rel => exact ⟨_, (decide ((wrap64 (t234 - t236)) > 1)), (by first | rfl | (simp; done) | (simp [*]; done)), H', ⟨by have := HJ2.out; have := HJ58.out; have := HK3.out; first | omega | exact Nat.le_refl _⟩, ⟨by (with_reducible repeat (first | apply Kd.R_alloc | apply Kd.R_drewN | apply Kd.R_drew)); exact HO_234001.out⟩, ⟨by (with_reducible repeat (first | refine blk_drewN ?_ _ | refine blk_drew ?_ | refine blk_alloc ?_ _)); exact BK223.out⟩, ⟨by (with_reducible repeat (first | refine blk_drewN ?_ _ | refine blk_drew ?_ | refine blk_alloc ?_ _)); exact BK224.out⟩, ⟨by (with_reducible repeat (first | refine blk_drewN ?_ _ | refine blk_drew ?_ | refine blk_alloc ?_ _)); exact BK233.out⟩, ⟨by repeat (first | (with_reducible first | exact HB.out | apply below_alloc | apply pw_below_drewN | apply below_drew1 | refine below_set ?_ GE223.out | refine below_set ?_ GE224.out | refine below_set ?_ GE233.out) | exact HB.out)⟩⟩
               ·
                rw [if_neg c95] at H
                have c95b0 : ((rd x10_3 1) == (rd x10_3 2)) = false := beq_eq_false_iff_ne.mpr c95
                have c95b1 : ((rd x10_3 1) != (rd x10_3 2)) = true := bne_iff_ne.mpr c95
                have H' := Aside0.mk H
                clear H
                have hx247_0 := (blk_cell HO_10.out 0).trans (show (kcs x10_3)[0]? = some (.int .i64 (rd x10_3 0)) from rfl)
                have hx248_0 := (blk_cell HO_10.out 2).trans (show (kcs x10_3)[2]? = some (.int .i64 (rd x10_3 2)) from rfl)
                have hx249_0 := (blk_cell HO_10.out 1).trans (show (kcs x10_3)[1]? = some (.int .i64 (rd x10_3 1)) from rfl)
                have hx250_0 := (blk_cell HO_10.out 2).trans (show (kcs x10_3)[2]? = some (.int .i64 (rd x10_3 2)) from rfl)
                go_wp2
                go_meet
                case rel => exact ⟨_, (false), (by first | rfl | (simp; done) | (simp [*]; done)), H', ⟨by have := HJ2.out; have := HJ58.out; have := HK3.out; first | omega | exact Nat.le_refl _⟩, ⟨by (with_reducible repeat (first | apply Kd.R_alloc | apply Kd.R_drewN | apply Kd.R_drew)); exact HO_234001.out⟩, ⟨by (with_reducible repeat (first | refine blk_drewN ?_ _ | refine blk_drew ?_ | refine blk_alloc ?_ _)); exact BK223.out⟩, ⟨by (with_reducible repeat (first | refine blk_drewN ?_ _ | refine blk_drew ?_ | refine blk_alloc ?_ _)); exact BK224.out⟩, ⟨by (with_reducible repeat (first | refine blk_drewN ?_ _ | refine blk_drew ?_ | refine blk_alloc ?_ _)); exact BK233.out⟩, ⟨by repeat (first | (with_reducible first | exact HB.out | apply below_alloc | apply pw_below_drewN | apply below_drew1 | refine below_set ?_ GE223.out | refine below_set ?_ GE224.out | refine below_set ?_ GE233.out) | exact HB.out)⟩⟩
              ·
               rw [if_neg c94] at H
               exact absurd H (by simp)
             ·
              rw [if_neg c93] at H
              have c93b0 : ((rd x10_3 0) == (rd x10_3 2)) = false := beq_eq_false_iff_ne.mpr c93
              have c93b1 : ((rd x10_3 0) != (rd x10_3 2)) = true := bne_iff_ne.mpr c93
              have H' := Aside0.mk H
              clear H
              have hx247_0 := (blk_cell HO_10.out 0).trans (show (kcs x10_3)[0]? = some (.int .i64 (rd x10_3 0)) from rfl)
              have hx248_0 := (blk_cell HO_10.out 2).trans (show (kcs x10_3)[2]? = some (.int .i64 (rd x10_3 2)) from rfl)
              go_wp2
              go_meet
              case rel => exact ⟨_, (false), (by first | rfl | (simp; done) | (simp [*]; done)), H', ⟨by have := HJ2.out; have := HJ58.out; have := HK3.out; first | omega | exact Nat.le_refl _⟩, ⟨by (with_reducible repeat (first | apply Kd.R_alloc | apply Kd.R_drewN | apply Kd.R_drew)); exact HO_234001.out⟩, ⟨by (with_reducible repeat (first | refine blk_drewN ?_ _ | refine blk_drew ?_ | refine blk_alloc ?_ _)); exact BK223.out⟩, ⟨by (with_reducible repeat (first | refine blk_drewN ?_ _ | refine blk_drew ?_ | refine blk_alloc ?_ _)); exact BK224.out⟩, ⟨by (with_reducible repeat (first | refine blk_drewN ?_ _ | refine blk_drew ?_ | refine blk_alloc ?_ _)); exact BK233.out⟩, ⟨by repeat (first | (with_reducible first | exact HB.out | apply below_alloc | apply pw_below_drewN | apply below_drew1 | refine below_set ?_ GE223.out | refine below_set ?_ GE224.out | refine below_set ?_ GE233.out) | exact HB.out)⟩⟩
            ·
             rw [if_neg c92] at H
             exact absurd H (by simp)
           ·
            rw [if_neg c91] at H
            exact absurd H (by simp)
          case rest =>
           clear HC90
           try clear c1
           try clear c2
           try clear p2
           try clear q2
           try clear hx2
           try clear qi2
           try clear c3
           try clear c4
           try clear c5
           try clear c6
           try clear p6
           try clear c7
           try clear c8
           try clear c9
           try clear c10
           try clear c10b0
           try clear c11
           try clear c12
           try clear c16
           try clear c16b0
           try clear c18
           try clear c20
           try clear c22
           try clear c22b0
           try clear c24
           try clear p24
           try clear q24
           try clear hx24
           try clear qi24
           try clear p25
           try clear q25
           try clear hx25
           try clear qi25
           try clear c28
           try clear c28b0
           try clear c30
           try clear c34
           try clear c34b0
           try clear c36
           try clear c42
           try clear c49
           try clear c53
           try clear c60
           try clear c64
           try clear p64
           try clear c65
           try clear c72
           try clear c72b0
           try clear c72b1
           try clear c73
           try clear c74
           try clear c75
           try clear c80
           try clear c80b0
           try clear c81
           try clear c81b0
           try clear c82
           try clear c82b0
           try clear c84
           try clear c85
           try clear c86
           try clear c91
           try clear c91b0
           try clear c91b1
           try clear c92
           try clear c92b0
           try clear c92b1
           try clear c93
           try clear c93b0
           try clear c93b1
           try clear c94
           try clear c94b0
           try clear c94b1
           try clear c95
           try clear c95b0
           try clear c95b1
           try clear c96
           try clear c96b0
           try clear hcz13_0
           try clear hcz13_1
           try clear hcz15_0
           try clear hcz15_1
           try clear hcz19_0
           try clear hcz19_1
           try clear hcz21_0
           try clear hcz21_1
           try clear hcz25_0
           try clear hcz25_1
           try clear hcz27_0
           try clear hcz27_1
           try clear hcz31_0
           try clear hcz31_1
           try clear hcz33_0
           try clear hcz33_1
           try clear hcz37_0
           try clear hcz37_1
           try clear hcz39_0
           try clear hcz39_1
           try clear hcz43_0
           try clear hcz43_1
           try clear hcz45_0
           try clear hcz45_1
           try clear hcz46_0
           try clear hcz46_1
           try clear hcz50_0
           try clear hcz50_1
           try clear hcz61_0
           try clear hcz61_1
           try clear hcz66_0
           try clear hcz66_1
           try clear hcz68_0
           try clear hcz68_1
           try clear hcz76_0
           try clear hcz76_1
           try clear hcz87_0
           try clear hcz87_1
           try clear hfz13_0
           try clear hfz13_1
           try clear hfz15_0
           try clear hfz15_1
           try clear hfz19_0
           try clear hfz19_1
           try clear hfz21_0
           try clear hfz21_1
           try clear hfz25_0
           try clear hfz25_1
           try clear hfz27_0
           try clear hfz27_1
           try clear hfz31_0
           try clear hfz31_1
           try clear hfz33_0
           try clear hfz33_1
           try clear hfz37_0
           try clear hfz37_1
           try clear hfz39_0
           try clear hfz39_1
           try clear hfz43_0
           try clear hfz43_1
           try clear hfz45_0
           try clear hfz45_1
           try clear hfz46_0
           try clear hfz46_1
           try clear hfz50_0
           try clear hfz50_1
           try clear hfz61_0
           try clear hfz61_1
           try clear hfz66_0
           try clear hfz66_1
           try clear hfz68_0
           try clear hfz68_1
           try clear hfz76_0
           try clear hfz76_1
           try clear hfz87_0
           try clear hfz87_1
           try clear hx241_0
           try clear hx247_0
           try clear hx248_0
           try clear hx249_0
           try clear hx250_0
           try clear p2
           try clear p241
           try clear p247
           try clear p248
           try clear p249
           try clear p250
           try clear p6
           try clear p64
           try clear q241
           try clear q247
           try clear q248
           try clear q249
           try clear q250
           obtain ⟨kq, x127_89, rfl, HA, HJ89, HO_234001, BK223, BK224, BK233, HB⟩ := hcut
           cases kq with
           | zero => exact absurd HA.out (by simp [culetlaw44_TariffSplit.j3])
           | succ kj89 =>
            have H := HA.out
            clear HA
            simp only [culetlaw44_TariffSplit.j3] at H
            by_cases c101 : x127_89 = true
            ·
             subst c101
             have H1 : (some false) = some r := by rw [if_pos rfl] at H; exact H
             clear H
             have H := H1
             clear H1
             obtain rfl := Option.some.inj H
             go_wp2
             go_ret
             exact ⟨by first | rfl | (simp [errW_none, errW_some] <;> rfl) | (simp [*, errW_none, errW_some] <;> rfl), by repeat (first | (with_reducible first | exact HB.out | apply below_alloc | apply pw_below_drewN | apply below_drew1 | refine below_set ?_ GE223.out | refine below_set ?_ GE224.out | refine below_set ?_ GE233.out) | exact HB.out)⟩
            ·
             replace c101 := Bool.eq_false_iff.mpr c101
             subst c101
             have H1 : (culetlaw44_TariffSplit.l1 kj89 t234 t236 1 a0_0 l0_1) = some r := by rw [if_neg (show ¬ (false = true) by decide)] at H; exact H
             clear H
             have H := H1
             clear H1
             have H' := Aside0.mk H
             clear H
             go_wp2
             go_loopg [13] kj89 (fun kq v13 w' => ∃ (x13_5 : Int), v13 = .int .i64 x13_5 ∧ Aside0 (culetlaw44_TariffSplit.l1 kq t234 t236 x13_5 a0_0 l0_1 = some r) ∧ Aside0 (kq ≤ kj89) ∧ Aside0 (Kd.R k63 63 w' w.heap.size (fun _ => True) (.slice Ao67 t230.length co67) t230) ∧ Aside0 (w'.heap[gb223]? = some (.cells #[.string a0_0, (.slice A0_1 l0_1.length c0_1)] 24 (0, 0))) ∧ Aside0 (w'.heap[gb224]? = some (.cells #[.int .i64 a1_0, .int .i64 a1_1] 46 (0, 0))) ∧ Aside0 (w'.heap[gb233]? = some (.cells #[.string t229, (.slice Ao67 t230.length co67)] 29 (0, 0))) ∧ Aside0 (Below w.heap.size w w'))
             case atStart => exact ⟨(1), (by first | rfl | (simp; done) | (simp [*]; done)), H', ⟨Nat.le_refl _⟩, ⟨by (with_reducible repeat (first | apply Kd.R_alloc | apply Kd.R_drewN | apply Kd.R_drew)); exact HO_234001.out⟩, ⟨by (with_reducible repeat (first | refine blk_drewN ?_ _ | refine blk_drew ?_ | refine blk_alloc ?_ _)); exact BK223.out⟩, ⟨by (with_reducible repeat (first | refine blk_drewN ?_ _ | refine blk_drew ?_ | refine blk_alloc ?_ _)); exact BK224.out⟩, ⟨by (with_reducible repeat (first | refine blk_drewN ?_ _ | refine blk_drew ?_ | refine blk_alloc ?_ _)); exact BK233.out⟩, ⟨by repeat (first | (with_reducible first | exact HB.out | apply below_alloc | apply pw_below_drewN | apply below_drew1 | refine below_set ?_ GE223.out | refine below_set ?_ GE224.out | refine below_set ?_ GE233.out) | exact HB.out)⟩⟩
             case round =>
              clear H'
              try clear c1
              try clear c2
              try clear p2
              try clear q2
              try clear hx2
              try clear qi2
              try clear c3
              try clear c4
              try clear c5
              try clear c6
              try clear p6
              try clear c7
              try clear c8
              try clear c9
              try clear c10
              try clear c10b0
              try clear c11
              try clear c12
              try clear c16
              try clear c16b0
              try clear c18
              try clear c20
              try clear c22
              try clear c22b0
              try clear c24
              try clear p24
              try clear q24
              try clear hx24
              try clear qi24
              try clear p25
              try clear q25
              try clear hx25
              try clear qi25
              try clear c28
              try clear c28b0
              try clear c30
              try clear c34
              try clear c34b0
              try clear c36
              try clear c42
              try clear c49
              try clear c53
              try clear c60
              try clear c64
              try clear p64
              try clear c65
              try clear c72
              try clear c72b0
              try clear c72b1
              try clear c73
              try clear c74
              try clear c75
              try clear c80
              try clear c80b0
              try clear c81
              try clear c81b0
              try clear c82
              try clear c82b0
              try clear c84
              try clear c85
              try clear c86
              try clear c91
              try clear c91b0
              try clear c91b1
              try clear c92
              try clear c92b0
              try clear c92b1
              try clear c93
              try clear c93b0
              try clear c93b1
              try clear c94
              try clear c94b0
              try clear c94b1
              try clear c95
              try clear c95b0
              try clear c95b1
              try clear c96
              try clear c96b0
              try clear c101
              try clear hcz13_0
              try clear hcz13_1
              try clear hcz15_0
              try clear hcz15_1
              try clear hcz19_0
              try clear hcz19_1
              try clear hcz21_0
              try clear hcz21_1
              try clear hcz25_0
              try clear hcz25_1
              try clear hcz27_0
              try clear hcz27_1
              try clear hcz31_0
              try clear hcz31_1
              try clear hcz33_0
              try clear hcz33_1
              try clear hcz37_0
              try clear hcz37_1
              try clear hcz39_0
              try clear hcz39_1
              try clear hcz43_0
              try clear hcz43_1
              try clear hcz45_0
              try clear hcz45_1
              try clear hcz46_0
              try clear hcz46_1
              try clear hcz50_0
              try clear hcz50_1
              try clear hcz61_0
              try clear hcz61_1
              try clear hcz66_0
              try clear hcz66_1
              try clear hcz68_0
              try clear hcz68_1
              try clear hcz76_0
              try clear hcz76_1
              try clear hcz87_0
              try clear hcz87_1
              try clear hfz13_0
              try clear hfz13_1
              try clear hfz15_0
              try clear hfz15_1
              try clear hfz19_0
              try clear hfz19_1
              try clear hfz21_0
              try clear hfz21_1
              try clear hfz25_0
              try clear hfz25_1
              try clear hfz27_0
              try clear hfz27_1
              try clear hfz31_0
              try clear hfz31_1
              try clear hfz33_0
              try clear hfz33_1
              try clear hfz37_0
              try clear hfz37_1
              try clear hfz39_0
              try clear hfz39_1
              try clear hfz43_0
              try clear hfz43_1
              try clear hfz45_0
              try clear hfz45_1
              try clear hfz46_0
              try clear hfz46_1
              try clear hfz50_0
              try clear hfz50_1
              try clear hfz61_0
              try clear hfz61_1
              try clear hfz66_0
              try clear hfz66_1
              try clear hfz68_0
              try clear hfz68_1
              try clear hfz76_0
              try clear hfz76_1
              try clear hfz87_0
              try clear hfz87_1
              try clear hx241_0
              try clear hx247_0
              try clear hx248_0
              try clear hx249_0
              try clear hx250_0
              try clear p2
              try clear p24
              try clear p241
              try clear p247
              try clear p248
              try clear p249
              try clear p25
              try clear p250
              try clear p6
              try clear p64
              try clear q2
              try clear q24
              try clear q241
              try clear q247
              try clear q248
              try clear q249
              try clear q25
              try clear q250
              obtain ⟨x13_5, rfl, HA, HK5, HO_234001, BK223, BK224, BK233, HB⟩ := hrel
              cases gk with
              | zero => exact absurd HA.out (by simp [culetlaw44_TariffSplit.l1])
              | succ k5 =>
               have H := HA.out
               clear HA
               simp only [culetlaw44_TariffSplit.l1] at H
               by_cases c102 : x13_5 < (l0_1.length : Int)
               ·
                rw [if_pos c102] at H
                have c102b0 : decide (x13_5 < (l0_1.length : Int)) = true := decide_eq_true c102
                clear c102
                obtain ⟨ji103, hji103⟩ : ∃ j_ : Int, (wrap64 (x13_5 - 1)) = j_ := ⟨_, rfl⟩
                replace H : (if 0 ≤ (ji103) then (if (ji103) < (l0_1.length : Int) then (if 0 ≤ x13_5 then (if ((rd_T42 l0_1 (ji103)).f1) > ((rd_T42 l0_1 x13_5).f1) then (some true) else (culetlaw44_TariffSplit.l1 k5 t234 t236 (wrap64 (x13_5 + 1)) a0_0 l0_1)) else (none)) else (none)) else (none)) = some r := by first | (rw [hji103] at H; exact H) | (simp only [hji103] at H ⊢; exact H)
                have hji103w : (IntKind.i64.wrap (x13_5 - 1)) = ji103 := (i64_w _).trans hji103
                by_cases c104 : 0 ≤ (ji103)
                ·
                 rw [if_pos c104] at H
                 have c104b0 : decide (0 ≤ (ji103)) = true := decide_eq_true c104
                 clear c104
                 by_cases c105 : (ji103) < (l0_1.length : Int)
                 ·
                  rw [if_pos c105] at H
                  have c105b0 : decide ((ji103) < (l0_1.length : Int)) = true := decide_eq_true c105
                  clear c105
                  by_cases c106 : 0 ≤ x13_5
                  ·
                   rw [if_pos c106] at H
                   have c106b0 : decide (0 ≤ x13_5) = true := decide_eq_true c106
                   clear c106
                   by_cases c107 : ((rd_T42 l0_1 (ji103)).f1) > ((rd_T42 l0_1 x13_5).f1)
                   ·
                    rw [if_pos c107] at H
                    have c107b0 : decide (((rd_T42 l0_1 x13_5).f1) < ((rd_T42 l0_1 (ji103)).f1)) = true := decide_eq_true c107
                    clear c107
                    obtain rfl := Option.some.inj H
                    have hnb108 := NB223_224.out
                    have hnc108 := NB224_223.out
                    have hnb109 := NB223_233.out
                    have hnc109 := NB233_223.out
                    have hcz110_0 : wr.cell? ⟨gb223, 0, none⟩ = some (.string a0_0) := (blk_cell BK223.out 0).trans rfl
                    have hcz110_1 : wr.cell? ⟨gb223, 1, none⟩ = some (.slice A0_1 l0_1.length c0_1) := (blk_cell BK223.out 1).trans rfl
                    have hfz110_0 := blk_frozen BK223.out 0
                    have hfz110_1 := blk_frozen BK223.out 1
                    try go_wp2
                    have n0_ := Aside0.mk (Kd.R_drew HO_234001.out)
                    have n1_ := Aside0.mk (blk_drew BK223.out)
                    have n2_ := Aside0.mk (blk_drew BK224.out)
                    have n3_ := Aside0.mk (blk_drew BK233.out)
                    have n4_ := Aside0.mk (below_drew1 HB.out)
                    clear HO_234001
                    clear BK223
                    clear BK224
                    clear BK233
                    clear HB
                    have HO_234001 := n0_
                    have BK223 := n1_
                    have BK224 := n2_
                    have BK233 := n3_
                    have HB := n4_
                    clear n0_ n1_ n2_ n3_ n4_
                    have p251 : 0 ≤ ((ji103) : Int) := of_decide_eq_true (by first | (with_reducible assumption) | assumption)
                    have q251 : (ji103) < (l0_1.length : Int) := of_decide_eq_true (by first | (with_reducible assumption) | assumption)
                    obtain ⟨ad251, e251, hx251_0, hx251_1⟩ := at_T42 HR0_1.out (ji103) p251 q251
                    have hw251_1 := hx251_1
                    have hw251_0 := hx251_0
                    cases e251
                    replace hx251_0 := (HB.out.cell (World.block_lt_of_cell? w _ hx251_0)).trans hx251_0
                    replace hx251_1 := (HB.out.cell (World.block_lt_of_cell? w _ hx251_1)).trans hx251_1
                    replace p251 := eq_true p251
                    replace q251 := eq_true q251
                    have p252 : 0 ≤ (x13_5 : Int) := of_decide_eq_true (by first | (with_reducible assumption) | assumption)
                    have q252 : x13_5 < (l0_1.length : Int) := of_decide_eq_true (by first | (with_reducible assumption) | assumption)
                    obtain ⟨ad252, e252, hx252_0, hx252_1⟩ := at_T42 HR0_1.out x13_5 p252 q252
                    have hw252_1 := hx252_1
                    have hw252_0 := hx252_0
                    obtain rfl : ad251 = ad252 := (by injection e252)
                    replace hx252_0 := (HB.out.cell (World.block_lt_of_cell? w _ hx252_0)).trans hx252_0
                    replace hx252_1 := (HB.out.cell (World.block_lt_of_cell? w _ hx252_1)).trans hx252_1
                    replace p252 := eq_true p252
                    replace q252 := eq_true q252
                    refine start_ (n := 14) (S := fun w' => w'.cell? ⟨gb223, 0, none⟩ = some (.string a0_0) ∧ w'.cell? ⟨gb223, 1, none⟩ = some (.slice (some ad251) l0_1.length c0_1) ∧ w'.cell? (ad251.add (((ji103)).toNat * 2)) = some (.int .i64 ((rd_T42 l0_1 (ji103)).f0)) ∧ w'.cell? ⟨(ad251.add (((ji103)).toNat * 2)).block, (ad251.add (((ji103)).toNat * 2)).off + 1, none⟩ = some (.int .i64 ((rd_T42 l0_1 (ji103)).f1)) ∧ w'.cell? (ad251.add ((x13_5).toNat * 2)) = some (.int .i64 ((rd_T42 l0_1 x13_5).f0)) ∧ w'.cell? ⟨(ad251.add ((x13_5).toNat * 2)).block, (ad251.add ((x13_5).toNat * 2)).off + 1, none⟩ = some (.int .i64 ((rd_T42 l0_1 x13_5).f1))) (ds := []) #[false, false, false, false, false, false, false, false, false, false, false, false, false, false] (by kernel_rfl) rfl rfl ⟨(blk_cell BK223.out 0).trans rfl, (blk_cell BK223.out 1).trans rfl, ((HB.out.cell (World.block_lt_of_cell? w _ hw251_0)).trans hw251_0), ((HB.out.cell (World.block_lt_of_cell? w _ hw251_1)).trans hw251_1), ((HB.out.cell (World.block_lt_of_cell? w _ hw252_0)).trans hw252_0), ((HB.out.cell (World.block_lt_of_cell? w _ hw252_1)).trans hw252_1)⟩ (fun hHeld => ?_); refine with_tabW culetlaw44_TariffSplit.tab19 culetlaw44_TariffSplit.bits19 (fun HT_ HW_ => ?_)
                    generalize wr.drew = w111 at HO_234001 BK223 BK224 BK233 HB hx251_0 hx251_1 hx252_0 hx252_1 hHeld ⊢
                    refine pure_ (i := 0) (N := some 135) (v := ?_) (a' := ?_) #[true, false, false, false, false, false, false, false, false, false, false, false, false, false] rfl rfl (any_of HT_.out (by kernel_rfl)) (fun _ _ _ h => h) (Or.inl ⟨by rfl, ?_⟩) ?_ ?_
                    rotate_left
                    ·
                     intro w'
                     go_simp
                     with_reducible rfl
                    rotate_left
                    ·
                     simp only [Act.put, List.setIfInBounds_toArray, List.set_cons_zero, List.set_cons_succ, i64_w, i32_w]
                     rfl
                    refine pure_ (i := 2) (N := some 137) (v := ?_) (a' := ?_) #[true, false, true, false, false, false, false, false, false, false, false, false, false, false] rfl rfl (any_of HT_.out (by kernel_rfl)) (fun _ _ _ h => h) (Or.inl ⟨by rfl, ?_⟩) ?_ ?_
                    rotate_left
                    ·
                     intro w'
                     go_simp
                     with_reducible rfl
                    rotate_left
                    ·
                     simp only [Act.put, List.setIfInBounds_toArray, List.set_cons_zero, List.set_cons_succ, i64_w, i32_w]
                     rfl
                    refine pure_ (i := 3) (N := some 138) (v := ?_) (a' := ?_) #[true, false, true, true, false, false, false, false, false, false, false, false, false, false] rfl rfl (any_of HT_.out (by kernel_rfl)) (fun _ _ _ h => h) (Or.inl ⟨by rfl, ?_⟩) ?_ ?_
                    rotate_left
                    ·
                     intro w'
                     go_simp
                     with_reducible rfl
                    rotate_left
                    ·
                     simp only [Act.put, List.setIfInBounds_toArray, List.set_cons_zero, List.set_cons_succ, i64_w, i32_w]
                     rfl
                    refine pure_ (i := 7) (N := some 142) (v := ?_) (a' := ?_) #[true, false, true, true, false, false, false, true, false, false, false, false, false, false] rfl rfl (any_of HT_.out (by kernel_rfl)) (fun _ _ _ h => h) (Or.inl ⟨by rfl, ?_⟩) ?_ ?_
                    rotate_left
                    ·
                     intro w'
                     go_simp
                     with_reducible rfl
                    rotate_left
                    ·
                     simp only [Act.put, List.setIfInBounds_toArray, List.set_cons_zero, List.set_cons_succ, i64_w, i32_w]
                     rfl
                    refine pure_ (i := 9) (N := some 144) (v := ?_) (a' := ?_) #[true, false, true, true, false, false, false, true, false, true, false, false, false, false] rfl rfl (any_of HT_.out (by kernel_rfl)) (fun _ _ _ h => h) (Or.inl ⟨by rfl, ?_⟩) ?_ ?_
                    rotate_left
                    ·
                     intro w'
                     go_simp
                     with_reducible rfl
                    rotate_left
                    ·
                     simp only [Act.put, List.setIfInBounds_toArray, List.set_cons_zero, List.set_cons_succ, i64_w, i32_w]
                     rfl
                    refine take_ (i := 1) (N := some 136) (v := ?_) (a' := ?_) #[true, true, true, true, false, false, false, true, false, true, false, false, false, false] rfl rfl (take_ofW HT_.out HW_.out (by kernel_rfl)) (fun _ _ _ h => h) (Or.inl ⟨by rfl, ?_⟩) hHeld ?_ ?_
                    rotate_left
                    ·
                     rintro w' ⟨s0, s1, s2, s3, s4, s5⟩
                     go_simp
                     with_reducible rfl
                    rotate_left
                    ·
                     simp only [Act.put, List.setIfInBounds_toArray, List.set_cons_zero, List.set_cons_succ, i64_w, i32_w]
                     rfl
                    refine pure_ (i := 4) (N := some 139) (v := ?_) (a' := ?_) #[true, true, true, true, true, false, false, true, false, true, false, false, false, false] rfl rfl (any_of HT_.out (by kernel_rfl)) (fun _ _ _ h => h) (Or.inl ⟨by rfl, ?_⟩) ?_ ?_
                    rotate_left
                    ·
                     intro w'
                     go_simp
                     with_reducible rfl
                    rotate_left
                    ·
                     simp only [Act.put, List.setIfInBounds_toArray, List.set_cons_zero, List.set_cons_succ, i64_w, i32_w]
                     rfl
                    refine pure_ (i := 5) (N := some 140) (v := ?_) (a' := ?_) #[true, true, true, true, true, true, false, true, false, true, false, false, false, false] rfl rfl (any_of HT_.out (by kernel_rfl)) (fun _ _ _ h => h) (Or.inl ⟨by rfl, ?_⟩) ?_ ?_
                    rotate_left
                    ·
                     intro w'
                     go_simp
                     with_reducible rfl
                    rotate_left
                    ·
                     simp only [Act.put, List.setIfInBounds_toArray, List.set_cons_zero, List.set_cons_succ, i64_w, i32_w]
                     rfl
                    refine take_ (i := 6) (N := some 141) (v := ?_) (a' := ?_) #[true, true, true, true, true, true, true, true, false, true, false, false, false, false] rfl rfl (take_ofW HT_.out HW_.out (by kernel_rfl)) (fun _ _ _ h => h) (Or.inl ⟨by rfl, ?_⟩) hHeld ?_ ?_
                    rotate_left
                    ·
                     rintro w' ⟨s0, s1, s2, s3, s4, s5⟩
                     go_simp
                     with_reducible rfl
                    rotate_left
                    ·
                     simp only [Act.put, List.setIfInBounds_toArray, List.set_cons_zero, List.set_cons_succ, i64_w, i32_w]
                     rfl
                    refine take_ (i := 8) (N := some 143) (v := ?_) (a' := ?_) #[true, true, true, true, true, true, true, true, true, true, false, false, false, false] rfl rfl (take_ofW HT_.out HW_.out (by kernel_rfl)) (fun _ _ _ h => h) (Or.inl ⟨by rfl, ?_⟩) hHeld ?_ ?_
                    rotate_left
                    ·
                     rintro w' ⟨s0, s1, s2, s3, s4, s5⟩
                     go_simp
                     with_reducible rfl
                    rotate_left
                    ·
                     simp only [Act.put, List.setIfInBounds_toArray, List.set_cons_zero, List.set_cons_succ, i64_w, i32_w]
                     rfl
                    refine pure_ (i := 10) (N := some 145) (v := ?_) (a' := ?_) #[true, true, true, true, true, true, true, true, true, true, true, false, false, false] rfl rfl (any_of HT_.out (by kernel_rfl)) (fun _ _ _ h => h) (Or.inl ⟨by rfl, ?_⟩) ?_ ?_
                    rotate_left
                    ·
                     intro w'
                     go_simp
                     with_reducible rfl
                    rotate_left
                    ·
                     simp only [Act.put, List.setIfInBounds_toArray, List.set_cons_zero, List.set_cons_succ, i64_w, i32_w]
                     rfl
                    refine pure_ (i := 11) (N := some 146) (v := ?_) (a' := ?_) #[true, true, true, true, true, true, true, true, true, true, true, true, false, false] rfl rfl (any_of HT_.out (by kernel_rfl)) (fun _ _ _ h => h) (Or.inl ⟨by rfl, ?_⟩) ?_ ?_
                    rotate_left
                    ·
                     intro w'
                     go_simp
                     with_reducible rfl
                    rotate_left
                    ·
                     simp only [Act.put, List.setIfInBounds_toArray, List.set_cons_zero, List.set_cons_succ, i64_w, i32_w]
                     rfl
                    refine take_ (i := 12) (N := some 147) (v := ?_) (a' := ?_) #[true, true, true, true, true, true, true, true, true, true, true, true, true, false] rfl rfl (take_ofW HT_.out HW_.out (by kernel_rfl)) (fun _ _ _ h => h) (Or.inl ⟨by rfl, ?_⟩) hHeld ?_ ?_
                    rotate_left
                    ·
                     rintro w' ⟨s0, s1, s2, s3, s4, s5⟩
                     go_simp
                     with_reducible rfl
                    rotate_left
                    ·
                     simp only [Act.put, List.setIfInBounds_toArray, List.set_cons_zero, List.set_cons_succ, i64_w, i32_w]
                     rfl
                    refine pure_ (i := 13) (N := some 148) (v := ?_) (a' := ?_) #[true, true, true, true, true, true, true, true, true, true, true, true, true, true] rfl rfl (any_of HT_.out (by kernel_rfl)) (fun _ _ _ h => h) (Or.inl ⟨by rfl, ?_⟩) ?_ ?_
                    rotate_left
                    ·
                     intro w'
                     go_simp
                     with_reducible rfl
                    rotate_left
                    ·
                     simp only [Act.put, List.setIfInBounds_toArray, List.set_cons_zero, List.set_cons_succ, i64_w, i32_w]
                     rfl
                    refine done_ (done_of HT_.out (by kernel_rfl)) ?_
                    try go_wp2
                    go_ret
                    exact ⟨by first | rfl | (simp [errW_none, errW_some] <;> rfl) | (simp only [← hji103]; first | rfl | (simp [errW_none, errW_some] <;> rfl)) | (simp [*, errW_none, errW_some] <;> rfl), by repeat (first | (with_reducible first | exact HB.out | apply below_alloc | apply pw_below_drewN | apply below_drew1 | refine below_set ?_ GE223.out | refine below_set ?_ GE224.out | refine below_set ?_ GE233.out) | exact HB.out)⟩
                   ·
                    rw [if_neg c107] at H
                    have c107b0 : decide (((rd_T42 l0_1 x13_5).f1) < ((rd_T42 l0_1 (ji103)).f1)) = false := decide_eq_false c107
                    clear c107
                    have H' := Aside0.mk H
                    clear H
                    have hnb112 := NB223_224.out
                    have hnc112 := NB224_223.out
                    have hnb113 := NB223_233.out
                    have hnc113 := NB233_223.out
                    have hcz114_0 : wr.cell? ⟨gb223, 0, none⟩ = some (.string a0_0) := (blk_cell BK223.out 0).trans rfl
                    have hcz114_1 : wr.cell? ⟨gb223, 1, none⟩ = some (.slice A0_1 l0_1.length c0_1) := (blk_cell BK223.out 1).trans rfl
                    have hfz114_0 := blk_frozen BK223.out 0
                    have hfz114_1 := blk_frozen BK223.out 1
                    try go_wp2
                    have n0_ := Aside0.mk (Kd.R_drew HO_234001.out)
                    have n1_ := Aside0.mk (blk_drew BK223.out)
                    have n2_ := Aside0.mk (blk_drew BK224.out)
                    have n3_ := Aside0.mk (blk_drew BK233.out)
                    have n4_ := Aside0.mk (below_drew1 HB.out)
                    clear HO_234001
                    clear BK223
                    clear BK224
                    clear BK233
                    clear HB
                    have HO_234001 := n0_
                    have BK223 := n1_
                    have BK224 := n2_
                    have BK233 := n3_
                    have HB := n4_
                    clear n0_ n1_ n2_ n3_ n4_
                    have p251 : 0 ≤ ((ji103) : Int) := of_decide_eq_true (by first | (with_reducible assumption) | assumption)
                    have q251 : (ji103) < (l0_1.length : Int) := of_decide_eq_true (by first | (with_reducible assumption) | assumption)
                    obtain ⟨ad251, e251, hx251_0, hx251_1⟩ := at_T42 HR0_1.out (ji103) p251 q251
                    have hw251_1 := hx251_1
                    have hw251_0 := hx251_0
                    cases e251
                    replace hx251_0 := (HB.out.cell (World.block_lt_of_cell? w _ hx251_0)).trans hx251_0
                    replace hx251_1 := (HB.out.cell (World.block_lt_of_cell? w _ hx251_1)).trans hx251_1
                    replace p251 := eq_true p251
                    replace q251 := eq_true q251
                    have p252 : 0 ≤ (x13_5 : Int) := of_decide_eq_true (by first | (with_reducible assumption) | assumption)
                    have q252 : x13_5 < (l0_1.length : Int) := of_decide_eq_true (by first | (with_reducible assumption) | assumption)
                    obtain ⟨ad252, e252, hx252_0, hx252_1⟩ := at_T42 HR0_1.out x13_5 p252 q252
                    have hw252_1 := hx252_1
                    have hw252_0 := hx252_0
                    obtain rfl : ad251 = ad252 := (by injection e252)
                    replace hx252_0 := (HB.out.cell (World.block_lt_of_cell? w _ hx252_0)).trans hx252_0
                    replace hx252_1 := (HB.out.cell (World.block_lt_of_cell? w _ hx252_1)).trans hx252_1
                    replace p252 := eq_true p252
                    replace q252 := eq_true q252
                    refine start_ (n := 14) (S := fun w' => w'.cell? ⟨gb223, 0, none⟩ = some (.string a0_0) ∧ w'.cell? ⟨gb223, 1, none⟩ = some (.slice (some ad251) l0_1.length c0_1) ∧ w'.cell? (ad251.add (((ji103)).toNat * 2)) = some (.int .i64 ((rd_T42 l0_1 (ji103)).f0)) ∧ w'.cell? ⟨(ad251.add (((ji103)).toNat * 2)).block, (ad251.add (((ji103)).toNat * 2)).off + 1, none⟩ = some (.int .i64 ((rd_T42 l0_1 (ji103)).f1)) ∧ w'.cell? (ad251.add ((x13_5).toNat * 2)) = some (.int .i64 ((rd_T42 l0_1 x13_5).f0)) ∧ w'.cell? ⟨(ad251.add ((x13_5).toNat * 2)).block, (ad251.add ((x13_5).toNat * 2)).off + 1, none⟩ = some (.int .i64 ((rd_T42 l0_1 x13_5).f1))) (ds := []) #[false, false, false, false, false, false, false, false, false, false, false, false, false, false] (by kernel_rfl) rfl rfl ⟨(blk_cell BK223.out 0).trans rfl, (blk_cell BK223.out 1).trans rfl, ((HB.out.cell (World.block_lt_of_cell? w _ hw251_0)).trans hw251_0), ((HB.out.cell (World.block_lt_of_cell? w _ hw251_1)).trans hw251_1), ((HB.out.cell (World.block_lt_of_cell? w _ hw252_0)).trans hw252_0), ((HB.out.cell (World.block_lt_of_cell? w _ hw252_1)).trans hw252_1)⟩ (fun hHeld => ?_); refine with_tabW culetlaw44_TariffSplit.tab19 culetlaw44_TariffSplit.bits19 (fun HT_ HW_ => ?_)
                    generalize wr.drew = w115 at HO_234001 BK223 BK224 BK233 HB hx251_0 hx251_1 hx252_0 hx252_1 hHeld ⊢
                    refine pure_ (i := 0) (N := some 135) (v := ?_) (a' := ?_) #[true, false, false, false, false, false, false, false, false, false, false, false, false, false] rfl rfl (any_of HT_.out (by kernel_rfl)) (fun _ _ _ h => h) (Or.inl ⟨by rfl, ?_⟩) ?_ ?_
                    rotate_left
                    ·
                     intro w'
                     go_simp
                     with_reducible rfl
                    rotate_left
                    ·
                     simp only [Act.put, List.setIfInBounds_toArray, List.set_cons_zero, List.set_cons_succ, i64_w, i32_w]
                     rfl
                    refine pure_ (i := 2) (N := some 137) (v := ?_) (a' := ?_) #[true, false, true, false, false, false, false, false, false, false, false, false, false, false] rfl rfl (any_of HT_.out (by kernel_rfl)) (fun _ _ _ h => h) (Or.inl ⟨by rfl, ?_⟩) ?_ ?_
                    rotate_left
                    ·
                     intro w'
                     go_simp
                     with_reducible rfl
                    rotate_left
                    ·
                     simp only [Act.put, List.setIfInBounds_toArray, List.set_cons_zero, List.set_cons_succ, i64_w, i32_w]
                     rfl
                    refine pure_ (i := 3) (N := some 138) (v := ?_) (a' := ?_) #[true, false, true, true, false, false, false, false, false, false, false, false, false, false] rfl rfl (any_of HT_.out (by kernel_rfl)) (fun _ _ _ h => h) (Or.inl ⟨by rfl, ?_⟩) ?_ ?_
                    rotate_left
                    ·
                     intro w'
                     go_simp
                     with_reducible rfl
                    rotate_left
                    ·
                     simp only [Act.put, List.setIfInBounds_toArray, List.set_cons_zero, List.set_cons_succ, i64_w, i32_w]
                     rfl
                    refine pure_ (i := 7) (N := some 142) (v := ?_) (a' := ?_) #[true, false, true, true, false, false, false, true, false, false, false, false, false, false] rfl rfl (any_of HT_.out (by kernel_rfl)) (fun _ _ _ h => h) (Or.inl ⟨by rfl, ?_⟩) ?_ ?_
                    rotate_left
                    ·
                     intro w'
                     go_simp
                     with_reducible rfl
                    rotate_left
                    ·
                     simp only [Act.put, List.setIfInBounds_toArray, List.set_cons_zero, List.set_cons_succ, i64_w, i32_w]
                     rfl
                    refine pure_ (i := 9) (N := some 144) (v := ?_) (a' := ?_) #[true, false, true, true, false, false, false, true, false, true, false, false, false, false] rfl rfl (any_of HT_.out (by kernel_rfl)) (fun _ _ _ h => h) (Or.inl ⟨by rfl, ?_⟩) ?_ ?_
                    rotate_left
                    ·
                     intro w'
                     go_simp
                     with_reducible rfl
                    rotate_left
                    ·
                     simp only [Act.put, List.setIfInBounds_toArray, List.set_cons_zero, List.set_cons_succ, i64_w, i32_w]
                     rfl
                    refine take_ (i := 1) (N := some 136) (v := ?_) (a' := ?_) #[true, true, true, true, false, false, false, true, false, true, false, false, false, false] rfl rfl (take_ofW HT_.out HW_.out (by kernel_rfl)) (fun _ _ _ h => h) (Or.inl ⟨by rfl, ?_⟩) hHeld ?_ ?_
                    rotate_left
                    ·
                     rintro w' ⟨s0, s1, s2, s3, s4, s5⟩
                     go_simp
                     with_reducible rfl
                    rotate_left
                    ·
                     simp only [Act.put, List.setIfInBounds_toArray, List.set_cons_zero, List.set_cons_succ, i64_w, i32_w]
                     rfl
                    refine pure_ (i := 4) (N := some 139) (v := ?_) (a' := ?_) #[true, true, true, true, true, false, false, true, false, true, false, false, false, false] rfl rfl (any_of HT_.out (by kernel_rfl)) (fun _ _ _ h => h) (Or.inl ⟨by rfl, ?_⟩) ?_ ?_
                    rotate_left
                    ·
                     intro w'
                     go_simp
                     with_reducible rfl
                    rotate_left
                    ·
                     simp only [Act.put, List.setIfInBounds_toArray, List.set_cons_zero, List.set_cons_succ, i64_w, i32_w]
                     rfl
                    refine pure_ (i := 5) (N := some 140) (v := ?_) (a' := ?_) #[true, true, true, true, true, true, false, true, false, true, false, false, false, false] rfl rfl (any_of HT_.out (by kernel_rfl)) (fun _ _ _ h => h) (Or.inl ⟨by rfl, ?_⟩) ?_ ?_
                    rotate_left
                    ·
                     intro w'
                     go_simp
                     with_reducible rfl
                    rotate_left
                    ·
                     simp only [Act.put, List.setIfInBounds_toArray, List.set_cons_zero, List.set_cons_succ, i64_w, i32_w]
                     rfl
                    refine take_ (i := 6) (N := some 141) (v := ?_) (a' := ?_) #[true, true, true, true, true, true, true, true, false, true, false, false, false, false] rfl rfl (take_ofW HT_.out HW_.out (by kernel_rfl)) (fun _ _ _ h => h) (Or.inl ⟨by rfl, ?_⟩) hHeld ?_ ?_
                    rotate_left
                    ·
                     rintro w' ⟨s0, s1, s2, s3, s4, s5⟩
                     go_simp
                     with_reducible rfl
                    rotate_left
                    ·
                     simp only [Act.put, List.setIfInBounds_toArray, List.set_cons_zero, List.set_cons_succ, i64_w, i32_w]
                     rfl
                    refine take_ (i := 8) (N := some 143) (v := ?_) (a' := ?_) #[true, true, true, true, true, true, true, true, true, true, false, false, false, false] rfl rfl (take_ofW HT_.out HW_.out (by kernel_rfl)) (fun _ _ _ h => h) (Or.inl ⟨by rfl, ?_⟩) hHeld ?_ ?_
                    rotate_left
                    ·
                     rintro w' ⟨s0, s1, s2, s3, s4, s5⟩
                     go_simp
                     with_reducible rfl
                    rotate_left
                    ·
                     simp only [Act.put, List.setIfInBounds_toArray, List.set_cons_zero, List.set_cons_succ, i64_w, i32_w]
                     rfl
                    refine pure_ (i := 10) (N := some 145) (v := ?_) (a' := ?_) #[true, true, true, true, true, true, true, true, true, true, true, false, false, false] rfl rfl (any_of HT_.out (by kernel_rfl)) (fun _ _ _ h => h) (Or.inl ⟨by rfl, ?_⟩) ?_ ?_
                    rotate_left
                    ·
                     intro w'
                     go_simp
                     with_reducible rfl
                    rotate_left
                    ·
                     simp only [Act.put, List.setIfInBounds_toArray, List.set_cons_zero, List.set_cons_succ, i64_w, i32_w]
                     rfl
                    refine pure_ (i := 11) (N := some 146) (v := ?_) (a' := ?_) #[true, true, true, true, true, true, true, true, true, true, true, true, false, false] rfl rfl (any_of HT_.out (by kernel_rfl)) (fun _ _ _ h => h) (Or.inl ⟨by rfl, ?_⟩) ?_ ?_
                    rotate_left
                    ·
                     intro w'
                     go_simp
                     with_reducible rfl
                    rotate_left
                    ·
                     simp only [Act.put, List.setIfInBounds_toArray, List.set_cons_zero, List.set_cons_succ, i64_w, i32_w]
                     rfl
                    refine take_ (i := 12) (N := some 147) (v := ?_) (a' := ?_) #[true, true, true, true, true, true, true, true, true, true, true, true, true, false] rfl rfl (take_ofW HT_.out HW_.out (by kernel_rfl)) (fun _ _ _ h => h) (Or.inl ⟨by rfl, ?_⟩) hHeld ?_ ?_
                    rotate_left
                    ·
                     rintro w' ⟨s0, s1, s2, s3, s4, s5⟩
                     go_simp
                     with_reducible rfl
                    rotate_left
                    ·
                     simp only [Act.put, List.setIfInBounds_toArray, List.set_cons_zero, List.set_cons_succ, i64_w, i32_w]
                     rfl
                    refine pure_ (i := 13) (N := some 148) (v := ?_) (a' := ?_) #[true, true, true, true, true, true, true, true, true, true, true, true, true, true] rfl rfl (any_of HT_.out (by kernel_rfl)) (fun _ _ _ h => h) (Or.inl ⟨by rfl, ?_⟩) ?_ ?_
                    rotate_left
                    ·
                     intro w'
                     go_simp
                     with_reducible rfl
                    rotate_left
                    ·
                     simp only [Act.put, List.setIfInBounds_toArray, List.set_cons_zero, List.set_cons_succ, i64_w, i32_w]
                     rfl
                    refine done_ (done_of HT_.out (by kernel_rfl)) ?_
                    try go_wp2
                    go_roundg k5
                    case measure => have := HJ2.out; have := HJ58.out; have := HK3.out; have := HJ89.out; have := HK5.out; omega
                    case rel => exact ⟨(wrap64 (x13_5 + 1)), (by first | rfl | (simp; done) | (simp [*]; done)), H', ⟨by have := HJ2.out; have := HJ58.out; have := HK3.out; have := HJ89.out; have := HK5.out; omega⟩, ⟨by (with_reducible repeat (first | apply Kd.R_alloc | apply Kd.R_drewN | apply Kd.R_drew)); exact HO_234001.out⟩, ⟨by (with_reducible repeat (first | refine blk_drewN ?_ _ | refine blk_drew ?_ | refine blk_alloc ?_ _)); exact BK223.out⟩, ⟨by (with_reducible repeat (first | refine blk_drewN ?_ _ | refine blk_drew ?_ | refine blk_alloc ?_ _)); exact BK224.out⟩, ⟨by (with_reducible repeat (first | refine blk_drewN ?_ _ | refine blk_drew ?_ | refine blk_alloc ?_ _)); exact BK233.out⟩, ⟨by repeat (first | (with_reducible first | exact HB.out | apply below_alloc | apply pw_below_drewN | apply below_drew1 | refine below_set ?_ GE223.out | refine below_set ?_ GE224.out | refine below_set ?_ GE233.out) | exact HB.out)⟩⟩
                  ·
                   rw [if_neg c106] at H
                   exact absurd H (by simp)
                 ·
                  rw [if_neg c105] at H
                  exact absurd H (by simp)
                ·
                 rw [if_neg c104] at H
                 exact absurd H (by simp)
               ·
                rw [if_neg c102] at H
                have c102b0 : decide (x13_5 < (l0_1.length : Int)) = false := decide_eq_false c102
                clear c102
                obtain rfl := Option.some.inj H
                have hnb116 := NB223_224.out
                have hnc116 := NB224_223.out
                have hnb117 := NB223_233.out
                have hnc117 := NB233_223.out
                have hcz118_0 : wr.cell? ⟨gb223, 0, none⟩ = some (.string a0_0) := (blk_cell BK223.out 0).trans rfl
                have hcz118_1 : wr.cell? ⟨gb223, 1, none⟩ = some (.slice A0_1 l0_1.length c0_1) := (blk_cell BK223.out 1).trans rfl
                have hfz118_0 := blk_frozen BK223.out 0
                have hfz118_1 := blk_frozen BK223.out 1
                go_wp2
                go_ret
                exact ⟨by first | rfl | (simp [errW_none, errW_some] <;> rfl) | (simp [*, errW_none, errW_some] <;> rfl), by repeat (first | (with_reducible first | exact HB.out | apply below_alloc | apply pw_below_drewN | apply below_drew1 | refine below_set ?_ GE223.out | refine below_set ?_ GE224.out | refine below_set ?_ GE233.out) | exact HB.out)⟩

end Go.Proofs.YtejgenhmhahgeaaDoor.T
