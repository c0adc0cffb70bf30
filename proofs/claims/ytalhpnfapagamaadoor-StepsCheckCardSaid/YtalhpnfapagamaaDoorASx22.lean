-- Written by this session's own programs; what the law does not lean on is left out. Lean checks it.
import Derived.Test.YtalhpnfapagamaaDoorAS
import Derived.Test.YtalhpnfapagamaaDoorASx8
import Derived.Test.YtalhpnfapagamaaDoorAR
namespace Go.Proofs.YtalhpnfapagamaaDoor.S
open Go.RowKit Go.Proofs.YtalhpnfapagamaaDoorW.PrintWords Go.Proofs.YtalhpnfapagamaaDoorW.PrintLast Go.Proofs.YtalhpnfapagamaaDoorW.PrintMore Go.Proofs.YtalhpnfapagamaaDoorD
set_option linter.unusedVariables false
set_option linter.unusedSimpArgs false

def refV.l1 : Nat → List S56 → Nat → Option Bool
 | 0, _, _ => none
 | k + 1, l1, i => if i < l1.length then
   ((culetref13_IsName.f k (l1.getD i z56).f0).bind fun nm => if nm = true then (if inB (l1.getD i z56).f1 1 2 = true then (if inB (l1.getD i z56).f2 1 48 = true then (if (l1.take i).any (fun y => y.f0.toList == (l1.getD i z56).f0.toList) = true then some false else refV.l1 k l1 (i + 1)) else some false) else some false) else some false)
  else some true
def refV.up (l0 : List S55) (i : Nat) : Bool := i == 0 || decide ((l0.getD (i - 1) z55).f1 < (l0.getD i z55).f1)
def refV.l0 : Nat → List S55 → List S56 → Nat → Option Bool
 | 0, _, _, _ => none
 | k + 1, l0, l1, i => if i < l0.length then
   ((culetref13_IsName.f k (l0.getD i z55).f0).bind fun nm => if nm = true then (if inB (l0.getD i z55).f1 1 200000 = true then (if inB (l0.getD i z55).f2 1 100 = true then (if refV.up l0 i = true then (if (l0.take i).any (fun y => y.f0.toList == (l0.getD i z55).f0.toList) = true then some false else refV.l0 k l0 l1 (i + 1)) else some false) else some false) else some false) else some false)
  else refV.l1 k l1 0
def culetref49_Valid.f (k : Nat) (a0_0 : List S55) (a0_1 : List S56) (a0_2 : Int) (a0_3 : Int) : Option Bool :=
 if inB a0_0.length 1 6 = true then (if inB a0_1.length 1 20 = true then (if inB a0_2 0 1000 = true then (if inB a0_3 0 1000 = true then refV.l0 k a0_0 a0_1 0 else some false) else some false) else some false) else some false
def culetref49_Valid.T7 : Bool × List (List Nat × List Nat) := (true, [([], []), ([0], [0]), ([1], [1]), ([2], [2]), ([3, 2], [3]), ([4], [4]), ([5, 4], [4, 5]), ([6, 4], [4, 6]), ([4, 7], [4, 7]), ([8, 4], [8]), ([9], [9]), ([10, 9], [9, 10]), ([11, 9], [9, 11]), ([9, 12], [9, 12]), ([13, 9], [13]), ([14], [14]), ([15, 14], [14, 15]), ([16, 14], [14, 16]), ([14, 17], [14, 17]), ([18, 14], [18]), ([19], [19]), ([20, 19], [19, 20]), ([21, 19], [19, 21]), ([19, 22], [19, 22]), ([23, 19], [23]), ([24], [24]), ([25, 24], [24, 25]), ([26, 24, 24], [24, 26]), ([27], [27]), ([28, 27], [27, 28]), ([27], [27]), ([30, 27], [27, 30]), ([29, 31, 27], [27, 29, 31]), ([32, 27], [27, 32]), ([33, 27], [27, 33]), ([27], [27]), ([35, 27], [27, 35]), ([34, 36, 27], [27, 34, 36]), ([27, 37, 24], [24, 27, 37]), ([24, 38], [24, 38])])
def culetref49_Valid.B7 : List Nat := [0, 1, 3, 7, 15, 31, 63, 127, 255, 511, 1023, 2047, 4095, 8191, 16383, 32767, 65535, 131071, 262143, 524287, 1048575, 2097151, 4194303, 8388607, 16777215, 33554431, 67108863, 134217727, 268435455, 536870911, 268435455, 1342177279, 4294967295, 8589934591, 17179869183, 268435455, 34628173823, 137438953471, 274877906943, 549755813887]
theorem culetref49_Valid.tab7 : rtab .any (opsOf Tryd.f22 7) = culetref49_Valid.T7 := by kernel_rfl
theorem culetref49_Valid.bits7 : waitsOk culetref49_Valid.T7.2 culetref49_Valid.B7 = true := by kernel_rfl
def upB (n m : Nat) : Array Bool := ((List.range m).map (fun i => decide (i < n))).toArray
section
variable {P : Program} {md : Region.Mode} {ops : Array Oper} {Q : Exit → Act → World → Prop} {S : World → Prop} {ds : List Nat}
theorem pnx {n m fuel : Nat} {oi : Oper} {v : Value} {N : Option Tmp} {a : Act} {w : World} (hi : ops[n]? = some oi) (hN : oi.dst = N) (hc : anyB md ops (upB n m) (upB (n + 1) m) n = true)
  (hy : Yields P ops oi v a) {a' : Act} (h : wpAnyLast P md ops Q S ds fuel (upB (n + 1) m) a' w) (hQ : ∀ c a w, Q (.panic c) (a.put oi.dst v) w → Q (.panic c) a w := by exact fun _ _ _ h => h) (ha : a.put N v = a' := by show Act.put _ (some _) _ = _; simp only [Act.put, List.setIfInBounds_toArray, List.set_cons_zero, List.set_cons_succ, i64_w, i32_w]; rfl) :
  wpAnyLast P md ops Q S ds (fuel + 1) (upB n m) a w := pure_ (upB (n + 1) m) hi hN hc hQ hy ha h
theorem tnx {n m fuel : Nat} {oi : Oper} {v : Value} {N : Option Tmp} {a : Act} {w : World} (hi : ops[n]? = some oi) (hN : oi.dst = N) (hc : takeB md ops ds (upB n m) (upB (n + 1) m) n = true)
  (hy : YieldsIf P ops S oi v a) (hS : S w) {a' : Act} (h : wpAnyLast P md ops Q S ds fuel (upB (n + 1) m) a' w) (hQ : ∀ c a w, Q (.panic c) (a.put oi.dst v) w → Q (.panic c) a w := by exact fun _ _ _ h => h) (ha : a.put N v = a' := by show Act.put _ (some _) _ = _; simp only [Act.put, List.setIfInBounds_toArray, List.set_cons_zero, List.set_cons_succ, i64_w, i32_w]; rfl) :
  wpAnyLast P md ops Q S ds (fuel + 1) (upB n m) a w := take_ (upB (n + 1) m) hi hN hc hQ hy hS ha h
end
theorem st94 (W : World) (g : Nat) (a : ByteArray) (c d : Int) {o0 o1 o2 : Value} (h0 : W.cell? ⟨g, 0, none⟩ = some o0) (h1 : W.cell? ⟨g, 1, none⟩ = some o1) (h2 : W.cell? ⟨g, 2, none⟩ = some o2)
  (f0 : W.frozen? ⟨g, 0, none⟩ = false) (f1 : W.frozen? ⟨g, 1, none⟩ = false) (f2 : W.frozen? ⟨g, 2, none⟩ = false) :
  (do Instr.storeAt 55 (.pointer (some ⟨g, 0, none⟩)) (.agg #[.string a, .int .i64 c, .int .i64 d]); pure Next.skip : Sem Next).run Tryd.prog W = .ok .skip (((W.setCell ⟨g, 0, none⟩ (.string a)).setCell ⟨g, 1, none⟩ (.int .i64 c)).setCell ⟨g, 2, none⟩ (.int .i64 d)) := by
 have hu := Tryd.underlying55
 have hu3 := Tryd.underlying3
 have hu9 := Tryd.underlying9
 go_simp
theorem st68 (W : World) (g : Nat) (a : ByteArray) (c d : Int) {o0 o1 o2 : Value} (h0 : W.cell? ⟨g, 0, none⟩ = some o0) (h1 : W.cell? ⟨g, 1, none⟩ = some o1) (h2 : W.cell? ⟨g, 2, none⟩ = some o2)
  (f0 : W.frozen? ⟨g, 0, none⟩ = false) (f1 : W.frozen? ⟨g, 1, none⟩ = false) (f2 : W.frozen? ⟨g, 2, none⟩ = false) :
  (do Instr.storeAt 56 (.pointer (some ⟨g, 0, none⟩)) (.agg #[.string a, .int .i64 c, .int .i64 d]); pure Next.skip : Sem Next).run Tryd.prog W = .ok .skip (((W.setCell ⟨g, 0, none⟩ (.string a)).setCell ⟨g, 1, none⟩ (.int .i64 c)).setCell ⟨g, 2, none⟩ (.int .i64 d)) := by
 have hu := Tryd.underlying56
 have hu3 := Tryd.underlying3
 have hu9 := Tryd.underlying9
 go_simp
theorem inB_pos (x lo hi : Int) (h1 : lo ≤ x) (h2 : x ≤ hi) : inB x lo hi = true := by unfold inB; rw [decide_eq_true h1, decide_eq_true h2]; rfl
theorem inB_neg (x lo hi : Int) (h : x < lo ∨ hi < x) : ¬ inB x lo hi = true := by unfold inB; simp; omega
theorem refV.any_no {α : Type} (q : α → Bool) (d : α) (l : List α) (i : Nat) (hi : i ≤ l.length) (h : ∀ j, j < i → q (l.getD j d) = false) : (l.take i).any q = false := by
 rw [List.any_eq_false]
 intro x hx
 obtain ⟨j, hj, rfl⟩ := List.getElem_of_mem hx
 rw [List.length_take] at hj
 have h1 := h j (by omega)
 rw [List.getElem_take]
 rw [List.getD_eq_getElem?_getD, List.getElem?_eq_getElem (by omega)] at h1
 simpa using h1
theorem refV.any_yes {α : Type} (q : α → Bool) (d : α) (l : List α) (i j : Nat) (hi : i ≤ l.length) (hj : j < i) (h : q (l.getD j d) = true) : (l.take i).any q = true := by
 rw [List.any_eq_true]
 rw [List.getD_eq_getElem?_getD, List.getElem?_eq_getElem (by omega)] at h
 exact ⟨l[j]'(by omega), by rw [List.mem_take_iff_getElem]; exact ⟨j, by omega, rfl⟩, h⟩
set_option maxHeartbeats 8000000 in
set_option maxRecDepth 100000 in
theorem culetref49_Valid.calls (k : Nat) (A0_0 : Option Addr) (c0_0 : Nat) (l0_0 : List S55) (A0_1 : Option Addr) (c0_1 : Nat) (l0_1 : List S56) (a0_2 : Int) (a0_3 : Int) (r : Bool) (w : World) (hr0_0 : Kd.C k55 w A0_0 l0_0.length l0_0) (hc0_0 : l0_0.length ≤ c0_0) (hr0_1 : Kd.C k56 w A0_1 l0_1.length l0_1) (hc0_1 : l0_1.length ≤ c0_1) (h : culetref49_Valid.f k l0_0 l0_1 a0_2 a0_3 = some r) :
  Calls Tryd.prog 22 #[.agg #[.slice A0_0 l0_0.length c0_0, .slice A0_1 l0_1.length c0_1, .int .i64 a0_2, .int .i64 a0_3]] w fun e w' => e = .returned (.bool r) ∧ Below w.heap.size w w' := by
 have hu50 := Tryd.underlying25
 have hu94 := Tryd.underlying55
 have hu68 := Tryd.underlying56
 have hu47 := Tryd.underlying22
 have hu48 := Tryd.underlying23
 have HR0 := Aside0.mk hr0_0
 have HC0 := Aside0.mk hc0_0
 have HR1 := Aside0.mk hr0_1
 have HC1 := Aside0.mk hc0_1
 clear hr0_0 hc0_0 hr0_1 hc0_1
 unfold culetref49_Valid.f at h
 by_cases a0 : (l0_0.length : Int) < 1
 ·
  rw [if_neg (inB_neg _ _ _ (by omega))] at h
  obtain rfl := Option.some.inj h
  have d0 : decide ((l0_0.length : Int) < 1) = true := decide_eq_true (by omega)
  have d0n : decide (l0_0.length < 1) = true := decide_eq_true (by omega)
  have d0z : decide (l0_0.length = 0) = true := decide_eq_true (by omega)
  clear h a0
  go_enter Tryd.func22, Tryd.ntmps22
  go_wp2_with (((with_reducible refine gate_dst (N := 1) rfl ?_); refine bev (N := 1) (cs := #[.slice A0_0 l0_0.length c0_0, .slice A0_1 l0_1.length c0_1, .int .i64 a0_2, .int .i64 a0_3]) (t := 25) ?_; intro gp hg w6 hbox hb; have BP := Aside0.mk hbox; have HB1 : Aside0 (Below w.heap.size w w6) := ⟨hb⟩; have GP : Aside0 (w.heap.size ≤ gp) := ⟨by rw [hg]; exact Nat.le_refl _⟩; clear hb hbox hg; have hp0 : w6.cell? ⟨gp, 0, none⟩ = some (.slice A0_0 l0_0.length c0_0) := (blk_cell BP.out 0).trans rfl; have hp1 : w6.cell? ⟨gp, 1, none⟩ = some (.slice A0_1 l0_1.length c0_1) := (blk_cell BP.out 1).trans rfl; have hp2 : w6.cell? ⟨gp, 2, none⟩ = some (.int .i64 a0_2) := (blk_cell BP.out 2).trans rfl; have hp3 : w6.cell? ⟨gp, 3, none⟩ = some (.int .i64 a0_3) := (blk_cell BP.out 3).trans rfl))
  go_ret
  exact ⟨rfl, mb_ HB1.out⟩
 have d0 : decide ((l0_0.length : Int) < 1) = false := decide_eq_false (by omega)
 have d0n : decide (l0_0.length < 1) = false := decide_eq_false (by omega)
 have d0z : decide (l0_0.length = 0) = false := decide_eq_false (by omega)
 by_cases a1 : 6 < (l0_0.length : Int)
 ·
  rw [if_neg (inB_neg _ _ _ (by omega))] at h
  obtain rfl := Option.some.inj h
  have d1 : decide (6 < (l0_0.length : Int)) = true := decide_eq_true (by omega)
  have d1n : decide (6 < l0_0.length) = true := decide_eq_true (by omega)
  clear h a0 a1
  go_enter Tryd.func22, Tryd.ntmps22
  go_wp2_with (((with_reducible refine gate_dst (N := 1) rfl ?_); refine bev (N := 1) (cs := #[.slice A0_0 l0_0.length c0_0, .slice A0_1 l0_1.length c0_1, .int .i64 a0_2, .int .i64 a0_3]) (t := 25) ?_; intro gp hg w6 hbox hb; have BP := Aside0.mk hbox; have HB1 : Aside0 (Below w.heap.size w w6) := ⟨hb⟩; have GP : Aside0 (w.heap.size ≤ gp) := ⟨by rw [hg]; exact Nat.le_refl _⟩; clear hb hbox hg; have hp0 : w6.cell? ⟨gp, 0, none⟩ = some (.slice A0_0 l0_0.length c0_0) := (blk_cell BP.out 0).trans rfl; have hp1 : w6.cell? ⟨gp, 1, none⟩ = some (.slice A0_1 l0_1.length c0_1) := (blk_cell BP.out 1).trans rfl; have hp2 : w6.cell? ⟨gp, 2, none⟩ = some (.int .i64 a0_2) := (blk_cell BP.out 2).trans rfl; have hp3 : w6.cell? ⟨gp, 3, none⟩ = some (.int .i64 a0_3) := (blk_cell BP.out 3).trans rfl))
  go_ret
  exact ⟨rfl, mb_ HB1.out⟩
 have d1 : decide (6 < (l0_0.length : Int)) = false := decide_eq_false (by omega)
 have d1n : decide (6 < l0_0.length) = false := decide_eq_false (by omega)
 by_cases a2 : (l0_1.length : Int) < 1
 ·
  rw [if_pos (inB_pos _ _ _ (by omega) (by omega))] at h
  rw [if_neg (inB_neg _ _ _ (by omega))] at h
  obtain rfl := Option.some.inj h
  have d2 : decide ((l0_1.length : Int) < 1) = true := decide_eq_true (by omega)
  have d2n : decide (l0_1.length < 1) = true := decide_eq_true (by omega)
  have d2z : decide (l0_1.length = 0) = true := decide_eq_true (by omega)
  clear h a0 a1 a2
  go_enter Tryd.func22, Tryd.ntmps22
  go_wp2_with (((with_reducible refine gate_dst (N := 1) rfl ?_); refine bev (N := 1) (cs := #[.slice A0_0 l0_0.length c0_0, .slice A0_1 l0_1.length c0_1, .int .i64 a0_2, .int .i64 a0_3]) (t := 25) ?_; intro gp hg w6 hbox hb; have BP := Aside0.mk hbox; have HB1 : Aside0 (Below w.heap.size w w6) := ⟨hb⟩; have GP : Aside0 (w.heap.size ≤ gp) := ⟨by rw [hg]; exact Nat.le_refl _⟩; clear hb hbox hg; have hp0 : w6.cell? ⟨gp, 0, none⟩ = some (.slice A0_0 l0_0.length c0_0) := (blk_cell BP.out 0).trans rfl; have hp1 : w6.cell? ⟨gp, 1, none⟩ = some (.slice A0_1 l0_1.length c0_1) := (blk_cell BP.out 1).trans rfl; have hp2 : w6.cell? ⟨gp, 2, none⟩ = some (.int .i64 a0_2) := (blk_cell BP.out 2).trans rfl; have hp3 : w6.cell? ⟨gp, 3, none⟩ = some (.int .i64 a0_3) := (blk_cell BP.out 3).trans rfl))
  go_ret
  exact ⟨rfl, mb_ HB1.out⟩
 have d2 : decide ((l0_1.length : Int) < 1) = false := decide_eq_false (by omega)
 have d2n : decide (l0_1.length < 1) = false := decide_eq_false (by omega)
 have d2z : decide (l0_1.length = 0) = false := decide_eq_false (by omega)
 by_cases a3 : 20 < (l0_1.length : Int)
 ·
  rw [if_pos (inB_pos _ _ _ (by omega) (by omega))] at h
  rw [if_neg (inB_neg _ _ _ (by omega))] at h
  obtain rfl := Option.some.inj h
  have d3 : decide (20 < (l0_1.length : Int)) = true := decide_eq_true (by omega)
  have d3n : decide (20 < l0_1.length) = true := decide_eq_true (by omega)
  clear h a0 a1 a2 a3
  go_enter Tryd.func22, Tryd.ntmps22
  go_wp2_with (((with_reducible refine gate_dst (N := 1) rfl ?_); refine bev (N := 1) (cs := #[.slice A0_0 l0_0.length c0_0, .slice A0_1 l0_1.length c0_1, .int .i64 a0_2, .int .i64 a0_3]) (t := 25) ?_; intro gp hg w6 hbox hb; have BP := Aside0.mk hbox; have HB1 : Aside0 (Below w.heap.size w w6) := ⟨hb⟩; have GP : Aside0 (w.heap.size ≤ gp) := ⟨by rw [hg]; exact Nat.le_refl _⟩; clear hb hbox hg; have hp0 : w6.cell? ⟨gp, 0, none⟩ = some (.slice A0_0 l0_0.length c0_0) := (blk_cell BP.out 0).trans rfl; have hp1 : w6.cell? ⟨gp, 1, none⟩ = some (.slice A0_1 l0_1.length c0_1) := (blk_cell BP.out 1).trans rfl; have hp2 : w6.cell? ⟨gp, 2, none⟩ = some (.int .i64 a0_2) := (blk_cell BP.out 2).trans rfl; have hp3 : w6.cell? ⟨gp, 3, none⟩ = some (.int .i64 a0_3) := (blk_cell BP.out 3).trans rfl))
  go_ret
  exact ⟨rfl, mb_ HB1.out⟩
 have d3 : decide (20 < (l0_1.length : Int)) = false := decide_eq_false (by omega)
 have d3n : decide (20 < l0_1.length) = false := decide_eq_false (by omega)
 by_cases a4 : a0_2 < 0
 ·
  rw [if_pos (inB_pos _ _ _ (by omega) (by omega))] at h
  rw [if_pos (inB_pos _ _ _ (by omega) (by omega))] at h
  rw [if_neg (inB_neg _ _ _ (by omega))] at h
  obtain rfl := Option.some.inj h
  have d4 : decide (a0_2 < 0) = true := decide_eq_true (by omega)
  clear h a0 a1 a2 a3 a4
  go_enter Tryd.func22, Tryd.ntmps22
  go_wp2_with (((with_reducible refine gate_dst (N := 1) rfl ?_); refine bev (N := 1) (cs := #[.slice A0_0 l0_0.length c0_0, .slice A0_1 l0_1.length c0_1, .int .i64 a0_2, .int .i64 a0_3]) (t := 25) ?_; intro gp hg w6 hbox hb; have BP := Aside0.mk hbox; have HB1 : Aside0 (Below w.heap.size w w6) := ⟨hb⟩; have GP : Aside0 (w.heap.size ≤ gp) := ⟨by rw [hg]; exact Nat.le_refl _⟩; clear hb hbox hg; have hp0 : w6.cell? ⟨gp, 0, none⟩ = some (.slice A0_0 l0_0.length c0_0) := (blk_cell BP.out 0).trans rfl; have hp1 : w6.cell? ⟨gp, 1, none⟩ = some (.slice A0_1 l0_1.length c0_1) := (blk_cell BP.out 1).trans rfl; have hp2 : w6.cell? ⟨gp, 2, none⟩ = some (.int .i64 a0_2) := (blk_cell BP.out 2).trans rfl; have hp3 : w6.cell? ⟨gp, 3, none⟩ = some (.int .i64 a0_3) := (blk_cell BP.out 3).trans rfl))
  go_ret
  exact ⟨rfl, mb_ HB1.out⟩
 have d4 : decide (a0_2 < 0) = false := decide_eq_false (by omega)
 by_cases a5 : 1000 < a0_2
 ·
  rw [if_pos (inB_pos _ _ _ (by omega) (by omega))] at h
  rw [if_pos (inB_pos _ _ _ (by omega) (by omega))] at h
  rw [if_neg (inB_neg _ _ _ (by omega))] at h
  obtain rfl := Option.some.inj h
  have d5 : decide (1000 < a0_2) = true := decide_eq_true (by omega)
  clear h a0 a1 a2 a3 a4 a5
  go_enter Tryd.func22, Tryd.ntmps22
  go_wp2_with (((with_reducible refine gate_dst (N := 1) rfl ?_); refine bev (N := 1) (cs := #[.slice A0_0 l0_0.length c0_0, .slice A0_1 l0_1.length c0_1, .int .i64 a0_2, .int .i64 a0_3]) (t := 25) ?_; intro gp hg w6 hbox hb; have BP := Aside0.mk hbox; have HB1 : Aside0 (Below w.heap.size w w6) := ⟨hb⟩; have GP : Aside0 (w.heap.size ≤ gp) := ⟨by rw [hg]; exact Nat.le_refl _⟩; clear hb hbox hg; have hp0 : w6.cell? ⟨gp, 0, none⟩ = some (.slice A0_0 l0_0.length c0_0) := (blk_cell BP.out 0).trans rfl; have hp1 : w6.cell? ⟨gp, 1, none⟩ = some (.slice A0_1 l0_1.length c0_1) := (blk_cell BP.out 1).trans rfl; have hp2 : w6.cell? ⟨gp, 2, none⟩ = some (.int .i64 a0_2) := (blk_cell BP.out 2).trans rfl; have hp3 : w6.cell? ⟨gp, 3, none⟩ = some (.int .i64 a0_3) := (blk_cell BP.out 3).trans rfl))
  go_ret
  exact ⟨rfl, mb_ HB1.out⟩
 have d5 : decide (1000 < a0_2) = false := decide_eq_false (by omega)
 by_cases a6 : a0_3 < 0
 ·
  rw [if_pos (inB_pos _ _ _ (by omega) (by omega))] at h
  rw [if_pos (inB_pos _ _ _ (by omega) (by omega))] at h
  rw [if_pos (inB_pos _ _ _ (by omega) (by omega))] at h
  rw [if_neg (inB_neg _ _ _ (by omega))] at h
  obtain rfl := Option.some.inj h
  have d6 : decide (a0_3 < 0) = true := decide_eq_true (by omega)
  clear h a0 a1 a2 a3 a4 a5 a6
  go_enter Tryd.func22, Tryd.ntmps22
  go_wp2_with (((with_reducible refine gate_dst (N := 1) rfl ?_); refine bev (N := 1) (cs := #[.slice A0_0 l0_0.length c0_0, .slice A0_1 l0_1.length c0_1, .int .i64 a0_2, .int .i64 a0_3]) (t := 25) ?_; intro gp hg w6 hbox hb; have BP := Aside0.mk hbox; have HB1 : Aside0 (Below w.heap.size w w6) := ⟨hb⟩; have GP : Aside0 (w.heap.size ≤ gp) := ⟨by rw [hg]; exact Nat.le_refl _⟩; clear hb hbox hg; have hp0 : w6.cell? ⟨gp, 0, none⟩ = some (.slice A0_0 l0_0.length c0_0) := (blk_cell BP.out 0).trans rfl; have hp1 : w6.cell? ⟨gp, 1, none⟩ = some (.slice A0_1 l0_1.length c0_1) := (blk_cell BP.out 1).trans rfl; have hp2 : w6.cell? ⟨gp, 2, none⟩ = some (.int .i64 a0_2) := (blk_cell BP.out 2).trans rfl; have hp3 : w6.cell? ⟨gp, 3, none⟩ = some (.int .i64 a0_3) := (blk_cell BP.out 3).trans rfl))
  go_ret
  exact ⟨rfl, mb_ HB1.out⟩
 have d6 : decide (a0_3 < 0) = false := decide_eq_false (by omega)
 by_cases a7 : 1000 < a0_3
 ·
  rw [if_pos (inB_pos _ _ _ (by omega) (by omega))] at h
  rw [if_pos (inB_pos _ _ _ (by omega) (by omega))] at h
  rw [if_pos (inB_pos _ _ _ (by omega) (by omega))] at h
  rw [if_neg (inB_neg _ _ _ (by omega))] at h
  obtain rfl := Option.some.inj h
  have d7 : decide (1000 < a0_3) = true := decide_eq_true (by omega)
  clear h a0 a1 a2 a3 a4 a5 a6 a7
  go_enter Tryd.func22, Tryd.ntmps22
  go_wp2_with (((with_reducible refine gate_dst (N := 1) rfl ?_); refine bev (N := 1) (cs := #[.slice A0_0 l0_0.length c0_0, .slice A0_1 l0_1.length c0_1, .int .i64 a0_2, .int .i64 a0_3]) (t := 25) ?_; intro gp hg w6 hbox hb; have BP := Aside0.mk hbox; have HB1 : Aside0 (Below w.heap.size w w6) := ⟨hb⟩; have GP : Aside0 (w.heap.size ≤ gp) := ⟨by rw [hg]; exact Nat.le_refl _⟩; clear hb hbox hg; have hp0 : w6.cell? ⟨gp, 0, none⟩ = some (.slice A0_0 l0_0.length c0_0) := (blk_cell BP.out 0).trans rfl; have hp1 : w6.cell? ⟨gp, 1, none⟩ = some (.slice A0_1 l0_1.length c0_1) := (blk_cell BP.out 1).trans rfl; have hp2 : w6.cell? ⟨gp, 2, none⟩ = some (.int .i64 a0_2) := (blk_cell BP.out 2).trans rfl; have hp3 : w6.cell? ⟨gp, 3, none⟩ = some (.int .i64 a0_3) := (blk_cell BP.out 3).trans rfl))
  go_ret
  exact ⟨rfl, mb_ HB1.out⟩
 have d7 : decide (1000 < a0_3) = false := decide_eq_false (by omega)
 rw [if_pos (inB_pos _ _ _ (by omega) (by omega))] at h
 rw [if_pos (inB_pos _ _ _ (by omega) (by omega))] at h
 rw [if_pos (inB_pos _ _ _ (by omega) (by omega))] at h
 rw [if_pos (inB_pos _ _ _ (by omega) (by omega))] at h
 have HN0 : Aside0 (l0_0.length ≤ 6) := ⟨by omega⟩
 have HN1 : Aside0 (l0_1.length ≤ 20) := ⟨by omega⟩
 have H' := Aside0.mk h
 clear h a0 a1 a2 a3 a4 a5 a6 a7
 go_enter Tryd.func22, Tryd.ntmps22
 go_wp2_with (((with_reducible refine gate_dst (N := 1) rfl ?_); refine bev (N := 1) (cs := #[.slice A0_0 l0_0.length c0_0, .slice A0_1 l0_1.length c0_1, .int .i64 a0_2, .int .i64 a0_3]) (t := 25) ?_; intro gp hg w6 hbox hb; have BP := Aside0.mk hbox; have HB1 : Aside0 (Below w.heap.size w w6) := ⟨hb⟩; have GP : Aside0 (w.heap.size ≤ gp) := ⟨by rw [hg]; exact Nat.le_refl _⟩; clear hb hbox hg; have hp0 : w6.cell? ⟨gp, 0, none⟩ = some (.slice A0_0 l0_0.length c0_0) := (blk_cell BP.out 0).trans rfl; have hp1 : w6.cell? ⟨gp, 1, none⟩ = some (.slice A0_1 l0_1.length c0_1) := (blk_cell BP.out 1).trans rfl; have hp2 : w6.cell? ⟨gp, 2, none⟩ = some (.int .i64 a0_2) := (blk_cell BP.out 2).trans rfl; have hp3 : w6.cell? ⟨gp, 3, none⟩ = some (.int .i64 a0_3) := (blk_cell BP.out 3).trans rfl))
 clear hp0 hp1 hp2 hp3 d0 d1 d2 d3 d4 d5 d6 d7 d0n d0z d1n d2n d2z d3n
 go_loopg [3] k (fun kq v3 w' => ∃ i : Nat, v3 = .int .i64 (i : Int) ∧ Aside0 (i ≤ l0_0.length) ∧ Aside0 (refV.l0 kq l0_0 l0_1 i = some r) ∧ Aside0 (kq ≤ k) ∧ Aside0 (w'.heap[gp]? = some (.cells #[.slice A0_0 l0_0.length c0_0, .slice A0_1 l0_1.length c0_1, .int .i64 a0_2, .int .i64 a0_3] 25 (0, 0))) ∧ Aside0 (Below w.heap.size w w'))
 case atStart => exact ⟨0, rfl, ⟨Nat.zero_le _⟩, H', ⟨Nat.le_refl _⟩, ⟨by (with_reducible repeat (first | refine blk_drewN ?_ _ | refine blk_drew ?_ | refine blk_alloc ?_ _)); exact BP.out⟩, ⟨by repeat (first | exact HB1.out | apply pw_below_drewN | apply below_drew | apply below_drew1)⟩⟩
 case round =>
  clear H' HB1 BP
  obtain ⟨i, rfl, HI, HA, HK1, BP, HB⟩ := hrel
  cases gk with
  | zero => exact absurd HA.out (by simp [refV.l0])
  | succ k1 =>
   have H := HA.out
   clear HA
   simp only [refV.l0] at H
   have hp0 : wr.cell? ⟨gp, 0, none⟩ = some (.slice A0_0 l0_0.length c0_0) := (blk_cell BP.out 0).trans rfl
   by_cases hi : i < l0_0.length
   rotate_left
   ·
    rw [if_neg hi] at H
    have d1 : decide ((i : Int) < (l0_0.length : Int)) = false := decide_eq_false (by omega)
    have d2 : decide (i < l0_0.length) = false := decide_eq_false hi
    have H' := Aside0.mk H
    clear hi H
    go_wp2
    clear hp0 d1 d2
    go_loopg [6] k1 (fun kq v6 w' => ∃ i : Nat, v6 = .int .i64 (i : Int) ∧ Aside0 (i ≤ l0_1.length) ∧ Aside0 (refV.l1 kq l0_1 i = some r) ∧ Aside0 (kq ≤ k1) ∧ Aside0 (w'.heap[gp]? = some (.cells #[.slice A0_0 l0_0.length c0_0, .slice A0_1 l0_1.length c0_1, .int .i64 a0_2, .int .i64 a0_3] 25 (0, 0))) ∧ Aside0 (Below w.heap.size w w'))
    case atStart => exact ⟨0, rfl, ⟨Nat.zero_le _⟩, H', ⟨Nat.le_refl _⟩, ⟨by (with_reducible repeat (first | refine blk_drewN ?_ _ | refine blk_drew ?_ | refine blk_alloc ?_ _)); exact BP.out⟩, ⟨by repeat (first | exact HB.out | apply pw_below_drewN | apply below_drew | apply below_drew1)⟩⟩
    case round =>
     clear H' HB BP HK1 HI
     obtain ⟨i, rfl, HI, HA, HK1, BP, HB⟩ := hrel
     cases gk with
     | zero => exact absurd HA.out (by simp [refV.l1])
     | succ k1 =>
      have H := HA.out
      clear HA
      simp only [refV.l1] at H
      have hp1 : wr.cell? ⟨gp, 1, none⟩ = some (.slice A0_1 l0_1.length c0_1) := (blk_cell BP.out 1).trans rfl
      by_cases hi : i < l0_1.length
      rotate_left
      ·
       rw [if_neg hi] at H
       have d1 : decide ((i : Int) < (l0_1.length : Int)) = false := decide_eq_false (by omega)
       have d2 : decide (i < l0_1.length) = false := decide_eq_false hi
       obtain rfl := Option.some.inj H
       clear hi H
       go_wp2
       go_ret
       exact ⟨rfl, HB.out⟩
      rw [if_pos hi] at H
      have d1 : decide ((i : Int) < (l0_1.length : Int)) = true := decide_eq_true (by omega)
      have d2 : decide (i < l0_1.length) = true := decide_eq_true hi
      have d3 : ((i : Int) < (l0_1.length : Int)) = True := eq_true (by omega)
      have d4 : (0 ≤ (i : Int)) = True := eq_true (by omega)
      obtain ⟨ad, e1, hx0, hx1, hx2⟩ := at_T56 HR1.out (i : Int) (by omega) (by omega)
      cases e1
      rw [Int.toNat_natCast] at hx0 hx1 hx2
      replace hx0 := (HB.out.cell (World.block_lt_of_cell? w _ hx0)).trans hx0
      replace hx1 := (HB.out.cell (World.block_lt_of_cell? w _ hx1)).trans hx1
      replace hx2 := (HB.out.cell (World.block_lt_of_cell? w _ hx2)).trans hx2
      rw [show rd_T56 l0_1 (i : Int) = l0_1.getD i z56 by unfold rd_T56; rw [Int.toNat_natCast]] at hx0 hx1 hx2
      have hW : Aside0 (wrap64 ((i : Int) + 1) = ((i + 1 : Nat) : Int)) := ⟨wrap_i i (by have := HN1.out; omega)⟩
      obtain ⟨nm, hnm, H⟩ := Option.bind_eq_some_iff.mp H
      obtain ⟨X, hX⟩ : ∃ X, l0_1.getD i z56 = X := ⟨_, rfl⟩
      have HX := Aside0.mk hX
      rw [hX] at hx0 hx1 hx2 hnm H
      have HNM := Aside0.mk hnm
      have HII := Aside0.mk hi
      clear hnm hX hi
      go_upto_region 18 with (first | ((with_reducible refine gate_dst (N := 7) rfl ?_); refine bev (N := 7) (cs := #[.string (⟨#[]⟩ : ByteArray), .int .i64 0, .int .i64 0]) (t := 56) ?_; intro gx hg w6 hbox hb; have BK1 := Aside0.mk hbox; have HBW := Aside0.mk hb; have GW := Aside0.mk ((by rw [hg]; exact Nat.le_refl _) : wr.heap.size ≤ gx); have hz0 : w6.cell? ⟨gx, 0, none⟩ = some (.string (⟨#[]⟩ : ByteArray)) := (blk_cell BK1.out 0).trans rfl; have hz1 : w6.cell? ⟨gx, 1, none⟩ = some (.int .i64 0) := (blk_cell BK1.out 1).trans rfl; have hz2 : w6.cell? ⟨gx, 2, none⟩ = some (.int .i64 0) := (blk_cell BK1.out 2).trans rfl; have hf0 := blk_frozen BK1.out 0; have hf1 := blk_frozen BK1.out 1; have hf2 := blk_frozen BK1.out 2; clear hb hbox hg) | ((with_reducible refine gate_store (t := 56) (p := 7) rfl ?_); refine store_event (t := 56) (p := 7) (v := ?vs68) (w1 := (((w6.setCell ⟨gx, 0, none⟩ (.string X.f0)).setCell ⟨gx, 1, none⟩ (.int .i64 X.f1)).setCell ⟨gx, 2, none⟩ (.int .i64 X.f2))) ?hg ?ho ?hn ?hr ?_; (case ho => rfl); (case hg => rfl); (case hn => rfl); (case hr => (simp only [execOp]); (rw [show Act.eval _ (.tmp 7) = .pointer (some ⟨gx, 0, none⟩) from rfl, show Act.eval _ (.tmp 128) = .agg #[.string X.f0, .int .i64 X.f1, .int .i64 X.f2] from rfl]); exact st68 _ _ _ _ _ hz0 hz1 hz2 hf0 hf1 hf2); intro w97 hw97; have BX : Aside0 (w97.heap[gx]? = some (.cells #[.string X.f0, .int .i64 X.f1, .int .i64 X.f2] 56 (0, 0))) := ⟨by rw [hw97]; refine blk_put (cs := #[.string X.f0, .int .i64 X.f1, .int .i64 0]) ?_ 2 _ rfl; refine blk_put (cs := #[.string X.f0, .int .i64 0, .int .i64 0]) ?_ 1 _ rfl; refine blk_put (cs := #[.string (⟨#[]⟩ : ByteArray), .int .i64 0, .int .i64 0]) ?_ 0 _ rfl; exact BK1.out⟩; have HBX := Aside0.mk (((HBW.out.setCell (p := ⟨gx, 0, none⟩) GW.out (.string X.f0)).setCell (p := ⟨gx, 1, none⟩) GW.out (.int .i64 X.f1)).setCell (p := ⟨gx, 2, none⟩) GW.out (.int .i64 X.f2)); rw [← hw97] at HBX; have HB2 : Aside0 (Below w.heap.size w w97) := ⟨HB.out.trans (HBX.out.mono HB.out.size)⟩; have BP2 : Aside0 (w97.heap[gp]? = some (.cells #[.slice A0_0 l0_0.length c0_0, .slice (some ad) l0_1.length c0_1, .int .i64 a0_2, .int .i64 a0_3] 25 (0, 0))) := ⟨(HBX.out.block _ (blk_lt_ BP.out)).trans BP.out⟩; clear hz0 hz1 hz2 hf0 hf1 hf2 hw97 HBX HBW BK1))
      (try simp only [Act.put, List.setIfInBounds_toArray, List.set_cons_zero, List.set_cons_succ])
      have hy0 : w97.cell? ⟨gx, 0, none⟩ = some (.string X.f0) := (blk_cell BX.out 0).trans rfl
      have hy1 : w97.cell? ⟨gx, 1, none⟩ = some (.int .i64 X.f1) := (blk_cell BX.out 1).trans rfl
      have hy2 : w97.cell? ⟨gx, 2, none⟩ = some (.int .i64 X.f2) := (blk_cell BX.out 2).trans rfl
      have hq1 : w97.cell? ⟨gp, 1, none⟩ = some (.slice (some ad) l0_1.length c0_1) := (blk_cell BP2.out 1).trans rfl
      clear hp1 hx0 hx1 hx2 d1 d2 BP HB
      cases nm with
      | false =>
       rw [if_neg (by simp)] at H
       obtain rfl := Option.some.inj H
       clear H
       go_wp2_with (go_at_call 37; (with_reducible refine (culetref13_IsName.calls k1 X.f0 false _ HNM.out).mono ?_); rintro e w98 ⟨rfl, hb⟩; have n0 := Aside0.mk (blk_below BP2.out hb); have n1 := Aside0.mk (blk_below BX.out hb); have n2 := Aside0.mk (below_step HB2.out hb); clear BP2 BX HB2 hy0 hy1 hy2 hq1 hb; have BP2 := n0; have BX := n1; have HB2 := n2; clear n0 n1 n2; have hy0 : w98.cell? ⟨gx, 0, none⟩ = some (.string X.f0) := (blk_cell BX.out 0).trans rfl; have hy1 : w98.cell? ⟨gx, 1, none⟩ = some (.int .i64 X.f1) := (blk_cell BX.out 1).trans rfl; have hy2 : w98.cell? ⟨gx, 2, none⟩ = some (.int .i64 X.f2) := (blk_cell BX.out 2).trans rfl)
       go_ret
       exact ⟨rfl, by repeat (first | exact HB2.out | apply pw_below_drewN | apply below_drew | apply below_drew1)⟩
      | true =>
       rw [if_pos rfl] at H
       by_cases a : X.f1 ≠ 1 ∧ X.f1 ≠ 2
       ·
        rw [if_neg (inB_neg _ _ _ (by omega))] at H
        obtain rfl := Option.some.inj H
        have q1 : (X.f1 != 1) = true := bne_iff_ne.mpr a.1
        have q2 : (X.f1 != 2) = true := bne_iff_ne.mpr a.2
        clear H a
        go_wp2_with (go_at_call 37; (with_reducible refine (culetref13_IsName.calls k1 X.f0 true _ HNM.out).mono ?_); rintro e w98 ⟨rfl, hb⟩; have n0 := Aside0.mk (blk_below BP2.out hb); have n1 := Aside0.mk (blk_below BX.out hb); have n2 := Aside0.mk (below_step HB2.out hb); clear BP2 BX HB2 hy0 hy1 hy2 hq1 hb; have BP2 := n0; have BX := n1; have HB2 := n2; clear n0 n1 n2; have hy0 : w98.cell? ⟨gx, 0, none⟩ = some (.string X.f0) := (blk_cell BX.out 0).trans rfl; have hy1 : w98.cell? ⟨gx, 1, none⟩ = some (.int .i64 X.f1) := (blk_cell BX.out 1).trans rfl; have hy2 : w98.cell? ⟨gx, 2, none⟩ = some (.int .i64 X.f2) := (blk_cell BX.out 2).trans rfl)
        go_ret
        exact ⟨rfl, by repeat (first | exact HB2.out | apply pw_below_drewN | apply below_drew | apply below_drew1)⟩
       rw [if_pos (inB_pos _ _ _ (by omega) (by omega))] at H
       have a12 : X.f1 = 1 ∨ X.f1 = 2 := by omega
       clear a
       rcases a12 with a1 | a1
       ·
        have q1 : (X.f1 != 1) = false := by rw [a1]; rfl
        clear a1
        by_cases a : X.f2 < 1
        ·
         rw [if_neg (inB_neg _ _ _ (by omega))] at H
         obtain rfl := Option.some.inj H
         have q3 : decide (X.f2 < 1) = true := decide_eq_true a
         clear H a
         go_wp2_with (go_at_call 37; (with_reducible refine (culetref13_IsName.calls k1 X.f0 true _ HNM.out).mono ?_); rintro e w98 ⟨rfl, hb⟩; have n0 := Aside0.mk (blk_below BP2.out hb); have n1 := Aside0.mk (blk_below BX.out hb); have n2 := Aside0.mk (below_step HB2.out hb); clear BP2 BX HB2 hy0 hy1 hy2 hq1 hb; have BP2 := n0; have BX := n1; have HB2 := n2; clear n0 n1 n2; have hy0 : w98.cell? ⟨gx, 0, none⟩ = some (.string X.f0) := (blk_cell BX.out 0).trans rfl; have hy1 : w98.cell? ⟨gx, 1, none⟩ = some (.int .i64 X.f1) := (blk_cell BX.out 1).trans rfl; have hy2 : w98.cell? ⟨gx, 2, none⟩ = some (.int .i64 X.f2) := (blk_cell BX.out 2).trans rfl)
         go_ret
         exact ⟨rfl, by repeat (first | exact HB2.out | apply pw_below_drewN | apply below_drew | apply below_drew1)⟩
        have q3 : decide (X.f2 < 1) = false := decide_eq_false a
        by_cases a : 48 < X.f2
        ·
         rw [if_neg (inB_neg _ _ _ (by omega))] at H
         obtain rfl := Option.some.inj H
         have q4 : decide (48 < X.f2) = true := decide_eq_true a
         clear H a
         go_wp2_with (go_at_call 37; (with_reducible refine (culetref13_IsName.calls k1 X.f0 true _ HNM.out).mono ?_); rintro e w98 ⟨rfl, hb⟩; have n0 := Aside0.mk (blk_below BP2.out hb); have n1 := Aside0.mk (blk_below BX.out hb); have n2 := Aside0.mk (below_step HB2.out hb); clear BP2 BX HB2 hy0 hy1 hy2 hq1 hb; have BP2 := n0; have BX := n1; have HB2 := n2; clear n0 n1 n2; have hy0 : w98.cell? ⟨gx, 0, none⟩ = some (.string X.f0) := (blk_cell BX.out 0).trans rfl; have hy1 : w98.cell? ⟨gx, 1, none⟩ = some (.int .i64 X.f1) := (blk_cell BX.out 1).trans rfl; have hy2 : w98.cell? ⟨gx, 2, none⟩ = some (.int .i64 X.f2) := (blk_cell BX.out 2).trans rfl)
         go_ret
         exact ⟨rfl, by repeat (first | exact HB2.out | apply pw_below_drewN | apply below_drew | apply below_drew1)⟩
        have q4 : decide (48 < X.f2) = false := decide_eq_false a
        rw [if_pos (inB_pos _ _ _ (by omega) (by omega))] at H
        have H' := Aside0.mk H
        clear H
        go_wp2_with (go_at_call 37; (with_reducible refine (culetref13_IsName.calls k1 X.f0 true _ HNM.out).mono ?_); rintro e w98 ⟨rfl, hb⟩; have n0 := Aside0.mk (blk_below BP2.out hb); have n1 := Aside0.mk (blk_below BX.out hb); have n2 := Aside0.mk (below_step HB2.out hb); clear BP2 BX HB2 hy0 hy1 hy2 hq1 hb; have BP2 := n0; have BX := n1; have HB2 := n2; clear n0 n1 n2; have hy0 : w98.cell? ⟨gx, 0, none⟩ = some (.string X.f0) := (blk_cell BX.out 0).trans rfl; have hy1 : w98.cell? ⟨gx, 1, none⟩ = some (.int .i64 X.f1) := (blk_cell BX.out 1).trans rfl; have hy2 : w98.cell? ⟨gx, 2, none⟩ = some (.int .i64 X.f2) := (blk_cell BX.out 2).trans rfl)
        clear hy0 hy1 hy2
        go_loopg [8] i (fun kq v8 w' => ∃ j : Nat, v8 = .int .i64 (j : Int) ∧ Aside0 (j + kq = i) ∧ Aside0 (∀ s, s < j → (fun y : S56 => y.f0.toList == X.f0.toList) (l0_1.getD s z56) = false) ∧ Aside0 (w'.heap[gp]? = some (.cells #[.slice A0_0 l0_0.length c0_0, .slice (some ad) l0_1.length c0_1, .int .i64 a0_2, .int .i64 a0_3] 25 (0, 0))) ∧ Aside0 (w'.heap[gx]? = some (.cells #[.string X.f0, .int .i64 X.f1, .int .i64 X.f2] 56 (0, 0))) ∧ Aside0 (Below w.heap.size w w'))
        case atStart => exact ⟨0, rfl, ⟨by omega⟩, ⟨fun _ h => absurd h (by omega)⟩, ⟨by (with_reducible repeat (first | refine blk_drewN ?_ _ | refine blk_drew ?_ | refine blk_alloc ?_ _)); exact BP2.out⟩, ⟨by (with_reducible repeat (first | refine blk_drewN ?_ _ | refine blk_drew ?_ | refine blk_alloc ?_ _)); exact BX.out⟩, ⟨by repeat (first | exact HB2.out | apply pw_below_drewN | apply below_drew | apply below_drew1)⟩⟩
        case round =>
         clear BP2 BX HB2
         obtain ⟨j, rfl, HJ, HS, BP2, BX, HB2⟩ := hrel
         have hy0 : wr.cell? ⟨gx, 0, none⟩ = some (.string X.f0) := (blk_cell BX.out 0).trans rfl
         have hq1 : wr.cell? ⟨gp, 1, none⟩ = some (.slice (some ad) l0_1.length c0_1) := (blk_cell BP2.out 1).trans rfl
         cases gk with
         | zero =>
          have hj : j = i := by have := HJ.out; omega
          have d1 : decide ((j : Int) < (i : Int)) = false := decide_eq_false (by omega)
          have d2 : decide (j < i) = false := decide_eq_false (by omega)
          have H := H'.out
          rw [if_neg (by rw [refV.any_no _ z56 _ i (Nat.le_of_lt HII.out) (fun s hs => HS.out s (by omega))]; simp)] at H
          clear H'
          have H' := Aside0.mk H
          clear H hj
          go_wp2
          go_roundg k1
          case measure => omega
          case rel => exact ⟨i + 1, congrArg (Value.int .i64) hW.out, ⟨HII.out⟩, H', ⟨by have := HK1.out; omega⟩, ⟨by (with_reducible repeat (first | refine blk_drewN ?_ _ | refine blk_drew ?_ | refine blk_alloc ?_ _)); exact BP2.out⟩, ⟨by repeat (first | exact HB2.out | apply pw_below_drewN | apply below_drew | apply below_drew1)⟩⟩
         | succ k2 =>
          have hj : j < i := by have := HJ.out; omega
          have hil := HII.out
          have d1 : decide ((j : Int) < (i : Int)) = true := decide_eq_true (by omega)
          have d2 : decide (j < i) = true := decide_eq_true (by omega)
          have j3 : ((j : Int) < (l0_1.length : Int)) = True := eq_true (by omega)
          have j4 : (0 ≤ (j : Int)) = True := eq_true (by omega)
          have hWj : Aside0 (wrap64 ((j : Int) + 1) = ((j + 1 : Nat) : Int)) := ⟨wrap_i j (by have := HN1.out; omega)⟩
          obtain ⟨ad, e1, hv0, hv1, hv2⟩ := at_T56 HR1.out (j : Int) (by omega) (by omega)
          cases e1
          rw [Int.toNat_natCast] at hv0 hv1 hv2
          replace hv0 := (HB2.out.cell (World.block_lt_of_cell? w _ hv0)).trans hv0
          replace hv1 := (HB2.out.cell (World.block_lt_of_cell? w _ hv1)).trans hv1
          replace hv2 := (HB2.out.cell (World.block_lt_of_cell? w _ hv2)).trans hv2
          rw [show rd_T56 l0_1 (j : Int) = l0_1.getD j z56 by unfold rd_T56; rw [Int.toNat_natCast]] at hv0 hv1 hv2
          have HJI := Aside0.mk hj
          clear hj hil
          cases hs : ((l0_1.getD j z56).f0.toList == X.f0.toList) with
          | true =>
           have H := H'.out
           rw [if_pos (refV.any_yes _ z56 _ i j (Nat.le_of_lt HII.out) HJI.out hs)] at H
           obtain rfl := Option.some.inj H
           clear H H'
           generalize l0_1.getD j z56 = Y at *
           go_wp2
           go_quiet (fail)
           go_wp2
           go_ret
           exact ⟨rfl, by repeat (first | exact HB2.out | apply pw_below_drewN | apply below_drew | apply below_drew1)⟩
          | false =>
           have HSS := Aside0.mk hs
           generalize hY : l0_1.getD j z56 = Y at hs hv0 hv1 hv2
           go_wp2
           go_quiet (fail)
           go_wp2
           go_roundg k2
           case measure => omega
           case rel => exact ⟨j + 1, congrArg (Value.int .i64) hWj.out, ⟨by have := HJ.out; omega⟩, ⟨fun s hs2 => by
             by_cases hsj : s < j
             ·
              exact HS.out s hsj
             ·
              obtain rfl : s = j := by omega
              exact HSS.out⟩, ⟨by (with_reducible repeat (first | refine blk_drewN ?_ _ | refine blk_drew ?_ | refine blk_alloc ?_ _)); exact BP2.out⟩, ⟨by (with_reducible repeat (first | refine blk_drewN ?_ _ | refine blk_drew ?_ | refine blk_alloc ?_ _)); exact BX.out⟩, ⟨by repeat (first | exact HB2.out | apply pw_below_drewN | apply below_drew | apply below_drew1)⟩⟩
       ·
        have q1 : (X.f1 != 1) = true := by rw [a1]; rfl
        have q2 : (X.f1 != 2) = false := by rw [a1]; rfl
        clear a1
        by_cases a : X.f2 < 1
        ·
         rw [if_neg (inB_neg _ _ _ (by omega))] at H
         obtain rfl := Option.some.inj H
         have q3 : decide (X.f2 < 1) = true := decide_eq_true a
         clear H a
         go_wp2_with (go_at_call 37; (with_reducible refine (culetref13_IsName.calls k1 X.f0 true _ HNM.out).mono ?_); rintro e w98 ⟨rfl, hb⟩; have n0 := Aside0.mk (blk_below BP2.out hb); have n1 := Aside0.mk (blk_below BX.out hb); have n2 := Aside0.mk (below_step HB2.out hb); clear BP2 BX HB2 hy0 hy1 hy2 hq1 hb; have BP2 := n0; have BX := n1; have HB2 := n2; clear n0 n1 n2; have hy0 : w98.cell? ⟨gx, 0, none⟩ = some (.string X.f0) := (blk_cell BX.out 0).trans rfl; have hy1 : w98.cell? ⟨gx, 1, none⟩ = some (.int .i64 X.f1) := (blk_cell BX.out 1).trans rfl; have hy2 : w98.cell? ⟨gx, 2, none⟩ = some (.int .i64 X.f2) := (blk_cell BX.out 2).trans rfl)
         go_ret
         exact ⟨rfl, by repeat (first | exact HB2.out | apply pw_below_drewN | apply below_drew | apply below_drew1)⟩
        have q3 : decide (X.f2 < 1) = false := decide_eq_false a
        by_cases a : 48 < X.f2
        ·
         rw [if_neg (inB_neg _ _ _ (by omega))] at H
         obtain rfl := Option.some.inj H
         have q4 : decide (48 < X.f2) = true := decide_eq_true a
         clear H a
         go_wp2_with (go_at_call 37; (with_reducible refine (culetref13_IsName.calls k1 X.f0 true _ HNM.out).mono ?_); rintro e w98 ⟨rfl, hb⟩; have n0 := Aside0.mk (blk_below BP2.out hb); have n1 := Aside0.mk (blk_below BX.out hb); have n2 := Aside0.mk (below_step HB2.out hb); clear BP2 BX HB2 hy0 hy1 hy2 hq1 hb; have BP2 := n0; have BX := n1; have HB2 := n2; clear n0 n1 n2; have hy0 : w98.cell? ⟨gx, 0, none⟩ = some (.string X.f0) := (blk_cell BX.out 0).trans rfl; have hy1 : w98.cell? ⟨gx, 1, none⟩ = some (.int .i64 X.f1) := (blk_cell BX.out 1).trans rfl; have hy2 : w98.cell? ⟨gx, 2, none⟩ = some (.int .i64 X.f2) := (blk_cell BX.out 2).trans rfl)
         go_ret
         exact ⟨rfl, by repeat (first | exact HB2.out | apply pw_below_drewN | apply below_drew | apply below_drew1)⟩
        have q4 : decide (48 < X.f2) = false := decide_eq_false a
        rw [if_pos (inB_pos _ _ _ (by omega) (by omega))] at H
        have H' := Aside0.mk H
        clear H
        go_wp2_with (go_at_call 37; (with_reducible refine (culetref13_IsName.calls k1 X.f0 true _ HNM.out).mono ?_); rintro e w98 ⟨rfl, hb⟩; have n0 := Aside0.mk (blk_below BP2.out hb); have n1 := Aside0.mk (blk_below BX.out hb); have n2 := Aside0.mk (below_step HB2.out hb); clear BP2 BX HB2 hy0 hy1 hy2 hq1 hb; have BP2 := n0; have BX := n1; have HB2 := n2; clear n0 n1 n2; have hy0 : w98.cell? ⟨gx, 0, none⟩ = some (.string X.f0) := (blk_cell BX.out 0).trans rfl; have hy1 : w98.cell? ⟨gx, 1, none⟩ = some (.int .i64 X.f1) := (blk_cell BX.out 1).trans rfl; have hy2 : w98.cell? ⟨gx, 2, none⟩ = some (.int .i64 X.f2) := (blk_cell BX.out 2).trans rfl)
        clear hy0 hy1 hy2
        go_loopg [8] i (fun kq v8 w' => ∃ j : Nat, v8 = .int .i64 (j : Int) ∧ Aside0 (j + kq = i) ∧ Aside0 (∀ s, s < j → (fun y : S56 => y.f0.toList == X.f0.toList) (l0_1.getD s z56) = false) ∧ Aside0 (w'.heap[gp]? = some (.cells #[.slice A0_0 l0_0.length c0_0, .slice (some ad) l0_1.length c0_1, .int .i64 a0_2, .int .i64 a0_3] 25 (0, 0))) ∧ Aside0 (w'.heap[gx]? = some (.cells #[.string X.f0, .int .i64 X.f1, .int .i64 X.f2] 56 (0, 0))) ∧ Aside0 (Below w.heap.size w w'))
        case atStart => exact ⟨0, rfl, ⟨by omega⟩, ⟨fun _ h => absurd h (by omega)⟩, ⟨by (with_reducible repeat (first | refine blk_drewN ?_ _ | refine blk_drew ?_ | refine blk_alloc ?_ _)); exact BP2.out⟩, ⟨by (with_reducible repeat (first | refine blk_drewN ?_ _ | refine blk_drew ?_ | refine blk_alloc ?_ _)); exact BX.out⟩, ⟨by repeat (first | exact HB2.out | apply pw_below_drewN | apply below_drew | apply below_drew1)⟩⟩
        case round =>
         clear BP2 BX HB2
         obtain ⟨j, rfl, HJ, HS, BP2, BX, HB2⟩ := hrel
         have hy0 : wr.cell? ⟨gx, 0, none⟩ = some (.string X.f0) := (blk_cell BX.out 0).trans rfl
         have hq1 : wr.cell? ⟨gp, 1, none⟩ = some (.slice (some ad) l0_1.length c0_1) := (blk_cell BP2.out 1).trans rfl
         cases gk with
         | zero =>
          have hj : j = i := by have := HJ.out; omega
          have d1 : decide ((j : Int) < (i : Int)) = false := decide_eq_false (by omega)
          have d2 : decide (j < i) = false := decide_eq_false (by omega)
          have H := H'.out
          rw [if_neg (by rw [refV.any_no _ z56 _ i (Nat.le_of_lt HII.out) (fun s hs => HS.out s (by omega))]; simp)] at H
          clear H'
          have H' := Aside0.mk H
          clear H hj
          go_wp2
          go_roundg k1
          case measure => omega
          case rel => exact ⟨i + 1, congrArg (Value.int .i64) hW.out, ⟨HII.out⟩, H', ⟨by have := HK1.out; omega⟩, ⟨by (with_reducible repeat (first | refine blk_drewN ?_ _ | refine blk_drew ?_ | refine blk_alloc ?_ _)); exact BP2.out⟩, ⟨by repeat (first | exact HB2.out | apply pw_below_drewN | apply below_drew | apply below_drew1)⟩⟩
         | succ k2 =>
          have hj : j < i := by have := HJ.out; omega
          have hil := HII.out
          have d1 : decide ((j : Int) < (i : Int)) = true := decide_eq_true (by omega)
          have d2 : decide (j < i) = true := decide_eq_true (by omega)
          have j3 : ((j : Int) < (l0_1.length : Int)) = True := eq_true (by omega)
          have j4 : (0 ≤ (j : Int)) = True := eq_true (by omega)
          have hWj : Aside0 (wrap64 ((j : Int) + 1) = ((j + 1 : Nat) : Int)) := ⟨wrap_i j (by have := HN1.out; omega)⟩
          obtain ⟨ad, e1, hv0, hv1, hv2⟩ := at_T56 HR1.out (j : Int) (by omega) (by omega)
          cases e1
          rw [Int.toNat_natCast] at hv0 hv1 hv2
          replace hv0 := (HB2.out.cell (World.block_lt_of_cell? w _ hv0)).trans hv0
          replace hv1 := (HB2.out.cell (World.block_lt_of_cell? w _ hv1)).trans hv1
          replace hv2 := (HB2.out.cell (World.block_lt_of_cell? w _ hv2)).trans hv2
          rw [show rd_T56 l0_1 (j : Int) = l0_1.getD j z56 by unfold rd_T56; rw [Int.toNat_natCast]] at hv0 hv1 hv2
          have HJI := Aside0.mk hj
          clear hj hil
          cases hs : ((l0_1.getD j z56).f0.toList == X.f0.toList) with
          | true =>
           have H := H'.out
           rw [if_pos (refV.any_yes _ z56 _ i j (Nat.le_of_lt HII.out) HJI.out hs)] at H
           obtain rfl := Option.some.inj H
           clear H H'
           generalize l0_1.getD j z56 = Y at *
           go_wp2
           go_quiet (fail)
           go_wp2
           go_ret
           exact ⟨rfl, by repeat (first | exact HB2.out | apply pw_below_drewN | apply below_drew | apply below_drew1)⟩
          | false =>
           have HSS := Aside0.mk hs
           generalize hY : l0_1.getD j z56 = Y at hs hv0 hv1 hv2
           go_wp2
           go_quiet (fail)
           go_wp2
           go_roundg k2
           case measure => omega
           case rel => exact ⟨j + 1, congrArg (Value.int .i64) hWj.out, ⟨by have := HJ.out; omega⟩, ⟨fun s hs2 => by
             by_cases hsj : s < j
             ·
              exact HS.out s hsj
             ·
              obtain rfl : s = j := by omega
              exact HSS.out⟩, ⟨by (with_reducible repeat (first | refine blk_drewN ?_ _ | refine blk_drew ?_ | refine blk_alloc ?_ _)); exact BP2.out⟩, ⟨by (with_reducible repeat (first | refine blk_drewN ?_ _ | refine blk_drew ?_ | refine blk_alloc ?_ _)); exact BX.out⟩, ⟨by repeat (first | exact HB2.out | apply pw_below_drewN | apply below_drew | apply below_drew1)⟩⟩
   rw [if_pos hi] at H
   have d1 : decide ((i : Int) < (l0_0.length : Int)) = true := decide_eq_true (by omega)
   have d2 : decide (i < l0_0.length) = true := decide_eq_true hi
   have d3 : ((i : Int) < (l0_0.length : Int)) = True := eq_true (by omega)
   have d4 : (0 ≤ (i : Int)) = True := eq_true (by omega)
   obtain ⟨ad, e1, hx0, hx1, hx2⟩ := at_T55 HR0.out (i : Int) (by omega) (by omega)
   cases e1
   rw [Int.toNat_natCast] at hx0 hx1 hx2
   replace hx0 := (HB.out.cell (World.block_lt_of_cell? w _ hx0)).trans hx0
   replace hx1 := (HB.out.cell (World.block_lt_of_cell? w _ hx1)).trans hx1
   replace hx2 := (HB.out.cell (World.block_lt_of_cell? w _ hx2)).trans hx2
   rw [show rd_T55 l0_0 (i : Int) = l0_0.getD i z55 by unfold rd_T55; rw [Int.toNat_natCast]] at hx0 hx1 hx2
   have hW : Aside0 (wrap64 ((i : Int) + 1) = ((i + 1 : Nat) : Int)) := ⟨wrap_i i (by have := HN0.out; omega)⟩
   obtain ⟨nm, hnm, H⟩ := Option.bind_eq_some_iff.mp H
   obtain ⟨X, hX⟩ : ∃ X, l0_0.getD i z55 = X := ⟨_, rfl⟩
   have HX := Aside0.mk hX
   rw [hX] at hx0 hx1 hx2 hnm H
   have HNM := Aside0.mk hnm
   have HII := Aside0.mk hi
   clear hnm hX hi
   go_upto_region 7 with (first | ((with_reducible refine gate_dst (N := 4) rfl ?_); refine bev (N := 4) (cs := #[.string (⟨#[]⟩ : ByteArray), .int .i64 0, .int .i64 0]) (t := 55) ?_; intro gx hg w6 hbox hb; have BK1 := Aside0.mk hbox; have HBW := Aside0.mk hb; have GW := Aside0.mk ((by rw [hg]; exact Nat.le_refl _) : wr.heap.size ≤ gx); have hz0 : w6.cell? ⟨gx, 0, none⟩ = some (.string (⟨#[]⟩ : ByteArray)) := (blk_cell BK1.out 0).trans rfl; have hz1 : w6.cell? ⟨gx, 1, none⟩ = some (.int .i64 0) := (blk_cell BK1.out 1).trans rfl; have hz2 : w6.cell? ⟨gx, 2, none⟩ = some (.int .i64 0) := (blk_cell BK1.out 2).trans rfl; have hf0 := blk_frozen BK1.out 0; have hf1 := blk_frozen BK1.out 1; have hf2 := blk_frozen BK1.out 2; clear hb hbox hg) | ((with_reducible refine gate_store (t := 55) (p := 4) rfl ?_); refine store_event (t := 55) (p := 4) (v := ?vs94) (w1 := (((w6.setCell ⟨gx, 0, none⟩ (.string X.f0)).setCell ⟨gx, 1, none⟩ (.int .i64 X.f1)).setCell ⟨gx, 2, none⟩ (.int .i64 X.f2))) ?hg ?ho ?hn ?hr ?_; (case ho => rfl); (case hg => rfl); (case hn => rfl); (case hr => (simp only [execOp]); (rw [show Act.eval _ (.tmp 4) = .pointer (some ⟨gx, 0, none⟩) from rfl, show Act.eval _ (.tmp 62) = .agg #[.string X.f0, .int .i64 X.f1, .int .i64 X.f2] from rfl]); exact st94 _ _ _ _ _ hz0 hz1 hz2 hf0 hf1 hf2); intro w97 hw97; have BX : Aside0 (w97.heap[gx]? = some (.cells #[.string X.f0, .int .i64 X.f1, .int .i64 X.f2] 55 (0, 0))) := ⟨by rw [hw97]; refine blk_put (cs := #[.string X.f0, .int .i64 X.f1, .int .i64 0]) ?_ 2 _ rfl; refine blk_put (cs := #[.string X.f0, .int .i64 0, .int .i64 0]) ?_ 1 _ rfl; refine blk_put (cs := #[.string (⟨#[]⟩ : ByteArray), .int .i64 0, .int .i64 0]) ?_ 0 _ rfl; exact BK1.out⟩; have HBX := Aside0.mk (((HBW.out.setCell (p := ⟨gx, 0, none⟩) GW.out (.string X.f0)).setCell (p := ⟨gx, 1, none⟩) GW.out (.int .i64 X.f1)).setCell (p := ⟨gx, 2, none⟩) GW.out (.int .i64 X.f2)); rw [← hw97] at HBX; have HB2 : Aside0 (Below w.heap.size w w97) := ⟨HB.out.trans (HBX.out.mono HB.out.size)⟩; have BP2 : Aside0 (w97.heap[gp]? = some (.cells #[.slice (some ad) l0_0.length c0_0, .slice A0_1 l0_1.length c0_1, .int .i64 a0_2, .int .i64 a0_3] 25 (0, 0))) := ⟨(HBX.out.block _ (blk_lt_ BP.out)).trans BP.out⟩; clear hz0 hz1 hz2 hf0 hf1 hf2 hw97 HBX HBW BK1))
   (try simp only [Act.put, List.setIfInBounds_toArray, List.set_cons_zero, List.set_cons_succ])
   have hy0 : w97.cell? ⟨gx, 0, none⟩ = some (.string X.f0) := (blk_cell BX.out 0).trans rfl
   have hy1 : w97.cell? ⟨gx, 1, none⟩ = some (.int .i64 X.f1) := (blk_cell BX.out 1).trans rfl
   have hy2 : w97.cell? ⟨gx, 2, none⟩ = some (.int .i64 X.f2) := (blk_cell BX.out 2).trans rfl
   have hq0 : w97.cell? ⟨gp, 0, none⟩ = some (.slice (some ad) l0_0.length c0_0) := (blk_cell BP2.out 0).trans rfl
   clear hp0 hx0 hx1 hx2 d1 d2 BP HB
   cases nm with
   | false =>
    rw [if_neg (by simp)] at H
    obtain rfl := Option.some.inj H
    clear H
    have BP3 := Aside0.mk (blk_drew BP2.out)
    have BX3 := Aside0.mk (blk_drew BX.out)
    have HB3 := Aside0.mk (below_drew1 HB2.out)
    clear BP2 BX HB2 hy0 hy1 hy2 hq0
    refine start_ (n := 40) (S := fun w' => w'.cell? ⟨gx, 0, none⟩ = some (.string X.f0) ∧ w'.cell? ⟨gx, 1, none⟩ = some (.int .i64 X.f1) ∧ w'.cell? ⟨gx, 2, none⟩ = some (.int .i64 X.f2)) (ds := []) (upB 0 40) (by kernel_rfl) rfl (by kernel_rfl) ⟨(blk_cell BX3.out 0).trans rfl, (blk_cell BX3.out 1).trans rfl, (blk_cell BX3.out 2).trans rfl⟩ (fun hHeld => ?_); refine with_tabW culetref49_Valid.tab7 culetref49_Valid.bits7 (fun HT_ HW_ => ?_)
    generalize w97.drew = w31 at BP3 BX3 HB3 hHeld ⊢
    repeat (first | (refine pnx rfl rfl (any_of HT_.out (by kernel_rfl)) (Or.inr ⟨by rfl, rfl⟩) ?_) | (refine pnx rfl rfl (any_of HT_.out (by kernel_rfl)) (Or.inl ⟨by rfl, by intro w'; go_simp; with_reducible rfl⟩) ?_) | (refine tnx rfl rfl (take_ofW HT_.out HW_.out (by kernel_rfl)) (Or.inl ⟨by rfl, by rintro w' ⟨s0, s1, s2⟩; go_simp; with_reducible rfl⟩) hHeld ?_))
    refine one_ (i := 2) (N := some 65) (upB (0 + 1 + 1 + 1) 40) rfl rfl (one_of HT_.out (by kernel_rfl)) (by decide) (fun K hK => ?_)
    refine goes_ Tryd.func37 (by kernel_rfl) rfl #[.string X.f0] (by rfl) rfl rfl (by (try simp only [List.map_toArray, List.map_cons, List.map_nil]); first | done | rfl) ?_
    with_reducible refine (culetref13_IsName.calls k1 X.f0 false _ HNM.out).mono ?_
    rintro e w32 ⟨rfl, hb⟩
    refine ⟨_, rfl, ?_⟩
    have BP2 := Aside0.mk (blk_below BP3.out hb)
    have BX := Aside0.mk (blk_below BX3.out hb)
    have HB2 := Aside0.mk (below_step HB3.out hb)
    clear BP3 BX3 HB3 hb hHeld
    refine hK.out _ _ ⟨(blk_cell BX.out 0).trans rfl, (blk_cell BX.out 1).trans rfl, (blk_cell BX.out 2).trans rfl⟩ (fun hHeld => ?_)
    clear hK K
    refine norm_ (a' := ?_) ?_ ?_
    rotate_left
    ·
     show Act.put _ (some 65) _ = _
     simp only [Act.put, List.setIfInBounds_toArray, List.set_cons_zero, List.set_cons_succ, i64_w, i32_w]
     rfl
    repeat (first | (refine pnx rfl rfl (any_of HT_.out (by kernel_rfl)) (Or.inr ⟨by rfl, rfl⟩) ?_) | (refine pnx rfl rfl (any_of HT_.out (by kernel_rfl)) (Or.inl ⟨by rfl, by intro w'; go_simp; with_reducible rfl⟩) ?_) | (refine tnx rfl rfl (take_ofW HT_.out HW_.out (by kernel_rfl)) (Or.inl ⟨by rfl, by rintro w' ⟨s0, s1, s2⟩; go_simp; with_reducible rfl⟩) hHeld ?_))
    refine done_ (done_of HT_.out (by kernel_rfl)) ?_
    clear hHeld HT_ HW_
    try go_wp2
    go_ret
    exact ⟨rfl, by repeat (first | exact HB2.out | apply pw_below_drewN | apply below_drew | apply below_drew1)⟩
   | true =>
    rw [if_pos rfl] at H
    by_cases a : X.f1 < 1
    ·
     rw [if_neg (inB_neg _ _ _ (by omega))] at H
     obtain rfl := Option.some.inj H
     have qf1a : decide (X.f1 < 1) = true := decide_eq_true a
     clear H a
     have BP3 := Aside0.mk (blk_drew BP2.out)
     have BX3 := Aside0.mk (blk_drew BX.out)
     have HB3 := Aside0.mk (below_drew1 HB2.out)
     clear BP2 BX HB2 hy0 hy1 hy2 hq0
     refine start_ (n := 40) (S := fun w' => w'.cell? ⟨gx, 0, none⟩ = some (.string X.f0) ∧ w'.cell? ⟨gx, 1, none⟩ = some (.int .i64 X.f1) ∧ w'.cell? ⟨gx, 2, none⟩ = some (.int .i64 X.f2)) (ds := []) (upB 0 40) (by kernel_rfl) rfl (by kernel_rfl) ⟨(blk_cell BX3.out 0).trans rfl, (blk_cell BX3.out 1).trans rfl, (blk_cell BX3.out 2).trans rfl⟩ (fun hHeld => ?_); refine with_tabW culetref49_Valid.tab7 culetref49_Valid.bits7 (fun HT_ HW_ => ?_)
     generalize w97.drew = w31 at BP3 BX3 HB3 hHeld ⊢
     repeat (first | (refine pnx rfl rfl (any_of HT_.out (by kernel_rfl)) (Or.inr ⟨by rfl, rfl⟩) ?_) | (refine pnx rfl rfl (any_of HT_.out (by kernel_rfl)) (Or.inl ⟨by rfl, by intro w'; go_simp; with_reducible rfl⟩) ?_) | (refine tnx rfl rfl (take_ofW HT_.out HW_.out (by kernel_rfl)) (Or.inl ⟨by rfl, by rintro w' ⟨s0, s1, s2⟩; go_simp; with_reducible rfl⟩) hHeld ?_))
     refine one_ (i := 2) (N := some 65) (upB (0 + 1 + 1 + 1) 40) rfl rfl (one_of HT_.out (by kernel_rfl)) (by decide) (fun K hK => ?_)
     refine goes_ Tryd.func37 (by kernel_rfl) rfl #[.string X.f0] (by rfl) rfl rfl (by (try simp only [List.map_toArray, List.map_cons, List.map_nil]); first | done | rfl) ?_
     with_reducible refine (culetref13_IsName.calls k1 X.f0 true _ HNM.out).mono ?_
     rintro e w32 ⟨rfl, hb⟩
     refine ⟨_, rfl, ?_⟩
     have BP2 := Aside0.mk (blk_below BP3.out hb)
     have BX := Aside0.mk (blk_below BX3.out hb)
     have HB2 := Aside0.mk (below_step HB3.out hb)
     clear BP3 BX3 HB3 hb hHeld
     refine hK.out _ _ ⟨(blk_cell BX.out 0).trans rfl, (blk_cell BX.out 1).trans rfl, (blk_cell BX.out 2).trans rfl⟩ (fun hHeld => ?_)
     clear hK K
     refine norm_ (a' := ?_) ?_ ?_
     rotate_left
     ·
      show Act.put _ (some 65) _ = _
      simp only [Act.put, List.setIfInBounds_toArray, List.set_cons_zero, List.set_cons_succ, i64_w, i32_w]
      rfl
     repeat (first | (refine pnx rfl rfl (any_of HT_.out (by kernel_rfl)) (Or.inr ⟨by rfl, rfl⟩) ?_) | (refine pnx rfl rfl (any_of HT_.out (by kernel_rfl)) (Or.inl ⟨by rfl, by intro w'; go_simp; with_reducible rfl⟩) ?_) | (refine tnx rfl rfl (take_ofW HT_.out HW_.out (by kernel_rfl)) (Or.inl ⟨by rfl, by rintro w' ⟨s0, s1, s2⟩; go_simp; with_reducible rfl⟩) hHeld ?_))
     refine done_ (done_of HT_.out (by kernel_rfl)) ?_
     clear hHeld HT_ HW_
     try go_wp2
     go_ret
     exact ⟨rfl, by repeat (first | exact HB2.out | apply pw_below_drewN | apply below_drew | apply below_drew1)⟩
    have qf1a : decide (X.f1 < 1) = false := decide_eq_false a
    by_cases a : 200000 < X.f1
    ·
     rw [if_neg (inB_neg _ _ _ (by omega))] at H
     obtain rfl := Option.some.inj H
     have qf1b : decide (200000 < X.f1) = true := decide_eq_true a
     clear H a
     have BP3 := Aside0.mk (blk_drew BP2.out)
     have BX3 := Aside0.mk (blk_drew BX.out)
     have HB3 := Aside0.mk (below_drew1 HB2.out)
     clear BP2 BX HB2 hy0 hy1 hy2 hq0
     refine start_ (n := 40) (S := fun w' => w'.cell? ⟨gx, 0, none⟩ = some (.string X.f0) ∧ w'.cell? ⟨gx, 1, none⟩ = some (.int .i64 X.f1) ∧ w'.cell? ⟨gx, 2, none⟩ = some (.int .i64 X.f2)) (ds := []) (upB 0 40) (by kernel_rfl) rfl (by kernel_rfl) ⟨(blk_cell BX3.out 0).trans rfl, (blk_cell BX3.out 1).trans rfl, (blk_cell BX3.out 2).trans rfl⟩ (fun hHeld => ?_); refine with_tabW culetref49_Valid.tab7 culetref49_Valid.bits7 (fun HT_ HW_ => ?_)
     generalize w97.drew = w31 at BP3 BX3 HB3 hHeld ⊢
     repeat (first | (refine pnx rfl rfl (any_of HT_.out (by kernel_rfl)) (Or.inr ⟨by rfl, rfl⟩) ?_) | (refine pnx rfl rfl (any_of HT_.out (by kernel_rfl)) (Or.inl ⟨by rfl, by intro w'; go_simp; with_reducible rfl⟩) ?_) | (refine tnx rfl rfl (take_ofW HT_.out HW_.out (by kernel_rfl)) (Or.inl ⟨by rfl, by rintro w' ⟨s0, s1, s2⟩; go_simp; with_reducible rfl⟩) hHeld ?_))
     refine one_ (i := 2) (N := some 65) (upB (0 + 1 + 1 + 1) 40) rfl rfl (one_of HT_.out (by kernel_rfl)) (by decide) (fun K hK => ?_)
     refine goes_ Tryd.func37 (by kernel_rfl) rfl #[.string X.f0] (by rfl) rfl rfl (by (try simp only [List.map_toArray, List.map_cons, List.map_nil]); first | done | rfl) ?_
     with_reducible refine (culetref13_IsName.calls k1 X.f0 true _ HNM.out).mono ?_
     rintro e w32 ⟨rfl, hb⟩
     refine ⟨_, rfl, ?_⟩
     have BP2 := Aside0.mk (blk_below BP3.out hb)
     have BX := Aside0.mk (blk_below BX3.out hb)
     have HB2 := Aside0.mk (below_step HB3.out hb)
     clear BP3 BX3 HB3 hb hHeld
     refine hK.out _ _ ⟨(blk_cell BX.out 0).trans rfl, (blk_cell BX.out 1).trans rfl, (blk_cell BX.out 2).trans rfl⟩ (fun hHeld => ?_)
     clear hK K
     refine norm_ (a' := ?_) ?_ ?_
     rotate_left
     ·
      show Act.put _ (some 65) _ = _
      simp only [Act.put, List.setIfInBounds_toArray, List.set_cons_zero, List.set_cons_succ, i64_w, i32_w]
      rfl
     repeat (first | (refine pnx rfl rfl (any_of HT_.out (by kernel_rfl)) (Or.inr ⟨by rfl, rfl⟩) ?_) | (refine pnx rfl rfl (any_of HT_.out (by kernel_rfl)) (Or.inl ⟨by rfl, by intro w'; go_simp; with_reducible rfl⟩) ?_) | (refine tnx rfl rfl (take_ofW HT_.out HW_.out (by kernel_rfl)) (Or.inl ⟨by rfl, by rintro w' ⟨s0, s1, s2⟩; go_simp; with_reducible rfl⟩) hHeld ?_))
     refine done_ (done_of HT_.out (by kernel_rfl)) ?_
     clear hHeld HT_ HW_
     try go_wp2
     go_ret
     exact ⟨rfl, by repeat (first | exact HB2.out | apply pw_below_drewN | apply below_drew | apply below_drew1)⟩
    have qf1b : decide (200000 < X.f1) = false := decide_eq_false a
    rw [if_pos (inB_pos _ _ _ (by omega) (by omega))] at H
    by_cases a : X.f2 < 1
    ·
     rw [if_neg (inB_neg _ _ _ (by omega))] at H
     obtain rfl := Option.some.inj H
     have qf2a : decide (X.f2 < 1) = true := decide_eq_true a
     clear H a
     have BP3 := Aside0.mk (blk_drew BP2.out)
     have BX3 := Aside0.mk (blk_drew BX.out)
     have HB3 := Aside0.mk (below_drew1 HB2.out)
     clear BP2 BX HB2 hy0 hy1 hy2 hq0
     refine start_ (n := 40) (S := fun w' => w'.cell? ⟨gx, 0, none⟩ = some (.string X.f0) ∧ w'.cell? ⟨gx, 1, none⟩ = some (.int .i64 X.f1) ∧ w'.cell? ⟨gx, 2, none⟩ = some (.int .i64 X.f2)) (ds := []) (upB 0 40) (by kernel_rfl) rfl (by kernel_rfl) ⟨(blk_cell BX3.out 0).trans rfl, (blk_cell BX3.out 1).trans rfl, (blk_cell BX3.out 2).trans rfl⟩ (fun hHeld => ?_); refine with_tabW culetref49_Valid.tab7 culetref49_Valid.bits7 (fun HT_ HW_ => ?_)
     generalize w97.drew = w31 at BP3 BX3 HB3 hHeld ⊢
     repeat (first | (refine pnx rfl rfl (any_of HT_.out (by kernel_rfl)) (Or.inr ⟨by rfl, rfl⟩) ?_) | (refine pnx rfl rfl (any_of HT_.out (by kernel_rfl)) (Or.inl ⟨by rfl, by intro w'; go_simp; with_reducible rfl⟩) ?_) | (refine tnx rfl rfl (take_ofW HT_.out HW_.out (by kernel_rfl)) (Or.inl ⟨by rfl, by rintro w' ⟨s0, s1, s2⟩; go_simp; with_reducible rfl⟩) hHeld ?_))
     refine one_ (i := 2) (N := some 65) (upB (0 + 1 + 1 + 1) 40) rfl rfl (one_of HT_.out (by kernel_rfl)) (by decide) (fun K hK => ?_)
     refine goes_ Tryd.func37 (by kernel_rfl) rfl #[.string X.f0] (by rfl) rfl rfl (by (try simp only [List.map_toArray, List.map_cons, List.map_nil]); first | done | rfl) ?_
     with_reducible refine (culetref13_IsName.calls k1 X.f0 true _ HNM.out).mono ?_
     rintro e w32 ⟨rfl, hb⟩
     refine ⟨_, rfl, ?_⟩
     have BP2 := Aside0.mk (blk_below BP3.out hb)
     have BX := Aside0.mk (blk_below BX3.out hb)
     have HB2 := Aside0.mk (below_step HB3.out hb)
     clear BP3 BX3 HB3 hb hHeld
     refine hK.out _ _ ⟨(blk_cell BX.out 0).trans rfl, (blk_cell BX.out 1).trans rfl, (blk_cell BX.out 2).trans rfl⟩ (fun hHeld => ?_)
     clear hK K
     refine norm_ (a' := ?_) ?_ ?_
     rotate_left
     ·
      show Act.put _ (some 65) _ = _
      simp only [Act.put, List.setIfInBounds_toArray, List.set_cons_zero, List.set_cons_succ, i64_w, i32_w]
      rfl
     repeat (first | (refine pnx rfl rfl (any_of HT_.out (by kernel_rfl)) (Or.inr ⟨by rfl, rfl⟩) ?_) | (refine pnx rfl rfl (any_of HT_.out (by kernel_rfl)) (Or.inl ⟨by rfl, by intro w'; go_simp; with_reducible rfl⟩) ?_) | (refine tnx rfl rfl (take_ofW HT_.out HW_.out (by kernel_rfl)) (Or.inl ⟨by rfl, by rintro w' ⟨s0, s1, s2⟩; go_simp; with_reducible rfl⟩) hHeld ?_))
     refine done_ (done_of HT_.out (by kernel_rfl)) ?_
     clear hHeld HT_ HW_
     try go_wp2
     go_ret
     exact ⟨rfl, by repeat (first | exact HB2.out | apply pw_below_drewN | apply below_drew | apply below_drew1)⟩
    have qf2a : decide (X.f2 < 1) = false := decide_eq_false a
    by_cases a : 100 < X.f2
    ·
     rw [if_neg (inB_neg _ _ _ (by omega))] at H
     obtain rfl := Option.some.inj H
     have qf2b : decide (100 < X.f2) = true := decide_eq_true a
     clear H a
     have BP3 := Aside0.mk (blk_drew BP2.out)
     have BX3 := Aside0.mk (blk_drew BX.out)
     have HB3 := Aside0.mk (below_drew1 HB2.out)
     clear BP2 BX HB2 hy0 hy1 hy2 hq0
     refine start_ (n := 40) (S := fun w' => w'.cell? ⟨gx, 0, none⟩ = some (.string X.f0) ∧ w'.cell? ⟨gx, 1, none⟩ = some (.int .i64 X.f1) ∧ w'.cell? ⟨gx, 2, none⟩ = some (.int .i64 X.f2)) (ds := []) (upB 0 40) (by kernel_rfl) rfl (by kernel_rfl) ⟨(blk_cell BX3.out 0).trans rfl, (blk_cell BX3.out 1).trans rfl, (blk_cell BX3.out 2).trans rfl⟩ (fun hHeld => ?_); refine with_tabW culetref49_Valid.tab7 culetref49_Valid.bits7 (fun HT_ HW_ => ?_)
     generalize w97.drew = w31 at BP3 BX3 HB3 hHeld ⊢
     repeat (first | (refine pnx rfl rfl (any_of HT_.out (by kernel_rfl)) (Or.inr ⟨by rfl, rfl⟩) ?_) | (refine pnx rfl rfl (any_of HT_.out (by kernel_rfl)) (Or.inl ⟨by rfl, by intro w'; go_simp; with_reducible rfl⟩) ?_) | (refine tnx rfl rfl (take_ofW HT_.out HW_.out (by kernel_rfl)) (Or.inl ⟨by rfl, by rintro w' ⟨s0, s1, s2⟩; go_simp; with_reducible rfl⟩) hHeld ?_))
     refine one_ (i := 2) (N := some 65) (upB (0 + 1 + 1 + 1) 40) rfl rfl (one_of HT_.out (by kernel_rfl)) (by decide) (fun K hK => ?_)
     refine goes_ Tryd.func37 (by kernel_rfl) rfl #[.string X.f0] (by rfl) rfl rfl (by (try simp only [List.map_toArray, List.map_cons, List.map_nil]); first | done | rfl) ?_
     with_reducible refine (culetref13_IsName.calls k1 X.f0 true _ HNM.out).mono ?_
     rintro e w32 ⟨rfl, hb⟩
     refine ⟨_, rfl, ?_⟩
     have BP2 := Aside0.mk (blk_below BP3.out hb)
     have BX := Aside0.mk (blk_below BX3.out hb)
     have HB2 := Aside0.mk (below_step HB3.out hb)
     clear BP3 BX3 HB3 hb hHeld
     refine hK.out _ _ ⟨(blk_cell BX.out 0).trans rfl, (blk_cell BX.out 1).trans rfl, (blk_cell BX.out 2).trans rfl⟩ (fun hHeld => ?_)
     clear hK K
     refine norm_ (a' := ?_) ?_ ?_
     rotate_left
     ·
      show Act.put _ (some 65) _ = _
      simp only [Act.put, List.setIfInBounds_toArray, List.set_cons_zero, List.set_cons_succ, i64_w, i32_w]
      rfl
     repeat (first | (refine pnx rfl rfl (any_of HT_.out (by kernel_rfl)) (Or.inr ⟨by rfl, rfl⟩) ?_) | (refine pnx rfl rfl (any_of HT_.out (by kernel_rfl)) (Or.inl ⟨by rfl, by intro w'; go_simp; with_reducible rfl⟩) ?_) | (refine tnx rfl rfl (take_ofW HT_.out HW_.out (by kernel_rfl)) (Or.inl ⟨by rfl, by rintro w' ⟨s0, s1, s2⟩; go_simp; with_reducible rfl⟩) hHeld ?_))
     refine done_ (done_of HT_.out (by kernel_rfl)) ?_
     clear hHeld HT_ HW_
     try go_wp2
     go_ret
     exact ⟨rfl, by repeat (first | exact HB2.out | apply pw_below_drewN | apply below_drew | apply below_drew1)⟩
    have qf2b : decide (100 < X.f2) = false := decide_eq_false a
    rw [if_pos (inB_pos _ _ _ (by omega) (by omega))] at H
    unfold refV.up at H
    rw [HX.out] at H
    by_cases a0 : i = 0
    ·
     have q0 : decide (0 < (i : Int)) = false := decide_eq_false (by omega)
     have q0n : decide (0 < i) = false := decide_eq_false (by omega)
     rw [show (i == 0) = true from by simp [a0], Bool.true_or, if_pos rfl] at H
     have H' := Aside0.mk H
     clear H a0
     have BP3 := Aside0.mk (blk_drew BP2.out)
     have BX3 := Aside0.mk (blk_drew BX.out)
     have HB3 := Aside0.mk (below_drew1 HB2.out)
     clear BP2 BX HB2 hy0 hy1 hy2 hq0
     refine start_ (n := 40) (S := fun w' => w'.cell? ⟨gx, 0, none⟩ = some (.string X.f0) ∧ w'.cell? ⟨gx, 1, none⟩ = some (.int .i64 X.f1) ∧ w'.cell? ⟨gx, 2, none⟩ = some (.int .i64 X.f2)) (ds := []) (upB 0 40) (by kernel_rfl) rfl (by kernel_rfl) ⟨(blk_cell BX3.out 0).trans rfl, (blk_cell BX3.out 1).trans rfl, (blk_cell BX3.out 2).trans rfl⟩ (fun hHeld => ?_); refine with_tabW culetref49_Valid.tab7 culetref49_Valid.bits7 (fun HT_ HW_ => ?_)
     generalize w97.drew = w31 at BP3 BX3 HB3 hHeld ⊢
     repeat (first | (refine pnx rfl rfl (any_of HT_.out (by kernel_rfl)) (Or.inr ⟨by rfl, rfl⟩) ?_) | (refine pnx rfl rfl (any_of HT_.out (by kernel_rfl)) (Or.inl ⟨by rfl, by intro w'; go_simp; with_reducible rfl⟩) ?_) | (refine tnx rfl rfl (take_ofW HT_.out HW_.out (by kernel_rfl)) (Or.inl ⟨by rfl, by rintro w' ⟨s0, s1, s2⟩; go_simp; with_reducible rfl⟩) hHeld ?_))
     refine one_ (i := 2) (N := some 65) (upB (0 + 1 + 1 + 1) 40) rfl rfl (one_of HT_.out (by kernel_rfl)) (by decide) (fun K hK => ?_)
     refine goes_ Tryd.func37 (by kernel_rfl) rfl #[.string X.f0] (by rfl) rfl rfl (by (try simp only [List.map_toArray, List.map_cons, List.map_nil]); first | done | rfl) ?_
     with_reducible refine (culetref13_IsName.calls k1 X.f0 true _ HNM.out).mono ?_
     rintro e w32 ⟨rfl, hb⟩
     refine ⟨_, rfl, ?_⟩
     have BP2 := Aside0.mk (blk_below BP3.out hb)
     have BX := Aside0.mk (blk_below BX3.out hb)
     have HB2 := Aside0.mk (below_step HB3.out hb)
     clear BP3 BX3 HB3 hb hHeld
     refine hK.out _ _ ⟨(blk_cell BX.out 0).trans rfl, (blk_cell BX.out 1).trans rfl, (blk_cell BX.out 2).trans rfl⟩ (fun hHeld => ?_)
     clear hK K
     refine norm_ (a' := ?_) ?_ ?_
     rotate_left
     ·
      show Act.put _ (some 65) _ = _
      simp only [Act.put, List.setIfInBounds_toArray, List.set_cons_zero, List.set_cons_succ, i64_w, i32_w]
      rfl
     repeat (first | (refine pnx rfl rfl (any_of HT_.out (by kernel_rfl)) (Or.inr ⟨by rfl, rfl⟩) ?_) | (refine pnx rfl rfl (any_of HT_.out (by kernel_rfl)) (Or.inl ⟨by rfl, by intro w'; go_simp; with_reducible rfl⟩) ?_) | (refine tnx rfl rfl (take_ofW HT_.out HW_.out (by kernel_rfl)) (Or.inl ⟨by rfl, by rintro w' ⟨s0, s1, s2⟩; go_simp; with_reducible rfl⟩) hHeld ?_))
     refine done_ (done_of HT_.out (by kernel_rfl)) ?_
     clear hHeld HT_ HW_
     try go_wp2
     go_loopg [5] i (fun kq v5 w' => ∃ j : Nat, v5 = .int .i64 (j : Int) ∧ Aside0 (j + kq = i) ∧ Aside0 (∀ s, s < j → (fun y : S55 => y.f0.toList == X.f0.toList) (l0_0.getD s z55) = false) ∧ Aside0 (w'.heap[gp]? = some (.cells #[.slice (some ad) l0_0.length c0_0, .slice A0_1 l0_1.length c0_1, .int .i64 a0_2, .int .i64 a0_3] 25 (0, 0))) ∧ Aside0 (w'.heap[gx]? = some (.cells #[.string X.f0, .int .i64 X.f1, .int .i64 X.f2] 55 (0, 0))) ∧ Aside0 (Below w.heap.size w w'))
     case atStart => exact ⟨0, rfl, ⟨by omega⟩, ⟨fun _ h => absurd h (by omega)⟩, ⟨by (with_reducible repeat (first | refine blk_drewN ?_ _ | refine blk_drew ?_ | refine blk_alloc ?_ _)); exact BP2.out⟩, ⟨by (with_reducible repeat (first | refine blk_drewN ?_ _ | refine blk_drew ?_ | refine blk_alloc ?_ _)); exact BX.out⟩, ⟨by repeat (first | exact HB2.out | apply pw_below_drewN | apply below_drew | apply below_drew1)⟩⟩
     case round =>
      clear BP2 BX HB2
      obtain ⟨j, rfl, HJ, HS, BP2, BX, HB2⟩ := hrel
      have hy0 : wr.cell? ⟨gx, 0, none⟩ = some (.string X.f0) := (blk_cell BX.out 0).trans rfl
      have hq0 : wr.cell? ⟨gp, 0, none⟩ = some (.slice (some ad) l0_0.length c0_0) := (blk_cell BP2.out 0).trans rfl
      cases gk with
      | zero =>
       have hj : j = i := by have := HJ.out; omega
       have d1 : decide ((j : Int) < (i : Int)) = false := decide_eq_false (by omega)
       have d2 : decide (j < i) = false := decide_eq_false (by omega)
       have H := H'.out
       rw [if_neg (by rw [refV.any_no _ z55 _ i (Nat.le_of_lt HII.out) (fun s hs => HS.out s (by omega))]; simp)] at H
       clear H'
       have H' := Aside0.mk H
       clear H hj
       go_wp2
       go_roundg k1
       case measure => omega
       case rel => exact ⟨i + 1, congrArg (Value.int .i64) hW.out, ⟨HII.out⟩, H', ⟨by have := HK1.out; omega⟩, ⟨by (with_reducible repeat (first | refine blk_drewN ?_ _ | refine blk_drew ?_ | refine blk_alloc ?_ _)); exact BP2.out⟩, ⟨by repeat (first | exact HB2.out | apply pw_below_drewN | apply below_drew | apply below_drew1)⟩⟩
      | succ k2 =>
       have hj : j < i := by have := HJ.out; omega
       have hil := HII.out
       have d1 : decide ((j : Int) < (i : Int)) = true := decide_eq_true (by omega)
       have d2 : decide (j < i) = true := decide_eq_true (by omega)
       have j3 : ((j : Int) < (l0_0.length : Int)) = True := eq_true (by omega)
       have j4 : (0 ≤ (j : Int)) = True := eq_true (by omega)
       have hWj : Aside0 (wrap64 ((j : Int) + 1) = ((j + 1 : Nat) : Int)) := ⟨wrap_i j (by have := HN0.out; omega)⟩
       obtain ⟨ad, e1, hv0, hv1, hv2⟩ := at_T55 HR0.out (j : Int) (by omega) (by omega)
       cases e1
       rw [Int.toNat_natCast] at hv0 hv1 hv2
       replace hv0 := (HB2.out.cell (World.block_lt_of_cell? w _ hv0)).trans hv0
       replace hv1 := (HB2.out.cell (World.block_lt_of_cell? w _ hv1)).trans hv1
       replace hv2 := (HB2.out.cell (World.block_lt_of_cell? w _ hv2)).trans hv2
       rw [show rd_T55 l0_0 (j : Int) = l0_0.getD j z55 by unfold rd_T55; rw [Int.toNat_natCast]] at hv0 hv1 hv2
       have HJI := Aside0.mk hj
       clear hj hil
       cases hs : ((l0_0.getD j z55).f0.toList == X.f0.toList) with
       | true =>
        have H := H'.out
        rw [if_pos (refV.any_yes _ z55 _ i j (Nat.le_of_lt HII.out) HJI.out hs)] at H
        obtain rfl := Option.some.inj H
        clear H H'
        generalize l0_0.getD j z55 = Y at *
        go_wp2
        go_quiet (fail)
        go_wp2
        go_ret
        exact ⟨rfl, by repeat (first | exact HB2.out | apply pw_below_drewN | apply below_drew | apply below_drew1)⟩
       | false =>
        have HSS := Aside0.mk hs
        generalize hY : l0_0.getD j z55 = Y at hs hv0 hv1 hv2
        go_wp2
        go_quiet (fail)
        go_wp2
        go_roundg k2
        case measure => omega
        case rel => exact ⟨j + 1, congrArg (Value.int .i64) hWj.out, ⟨by have := HJ.out; omega⟩, ⟨fun s hs2 => by
          by_cases hsj : s < j
          ·
           exact HS.out s hsj
          ·
           obtain rfl : s = j := by omega
           exact HSS.out⟩, ⟨by (with_reducible repeat (first | refine blk_drewN ?_ _ | refine blk_drew ?_ | refine blk_alloc ?_ _)); exact BP2.out⟩, ⟨by (with_reducible repeat (first | refine blk_drewN ?_ _ | refine blk_drew ?_ | refine blk_alloc ?_ _)); exact BX.out⟩, ⟨by repeat (first | exact HB2.out | apply pw_below_drewN | apply below_drew | apply below_drew1)⟩⟩
    have q0 : decide (0 < (i : Int)) = true := decide_eq_true (by omega)
    have q0n : decide (0 < i) = true := decide_eq_true (by omega)
    rw [show (i == 0) = false from by simp [a0], Bool.false_or] at H
    have HII2 := HII.out
    have hz : wrap64 ((i : Int) - 1) = ((i - 1 : Nat) : Int) := by unfold wrap64; have := HN0.out; omega
    have m3 : wrap64 ((i : Int) - 1) < (l0_0.length : Int) := by rw [hz]; omega
    have m4 : 0 ≤ wrap64 ((i : Int) - 1) := by rw [hz]; omega
    obtain ⟨ad, e1, hu0, HU0, hu2⟩ := at_T55 HR0.out (wrap64 ((i : Int) - 1)) m4 m3
    cases e1
    rw [show rd_T55 l0_0 (wrap64 ((i : Int) - 1)) = l0_0.getD (i - 1) z55 by unfold rd_T55; rw [hz, Int.toNat_natCast]] at HU0
    have HU := Aside0.mk HU0
    clear hu0 HU0 hu2 hz
    replace m3 := eq_true m3
    replace m4 := eq_true m4
    generalize l0_0.getD (i - 1) z55 = Y at *
    clear HII2 a0
    by_cases a : Y.f1 < X.f1
    rotate_left
    ·
     rw [if_neg (by simp [a])] at H
     obtain rfl := Option.some.inj H
     have q9 : decide (X.f1 ≤ Y.f1) = true := decide_eq_true (by omega)
     clear H a
     have BP3 := Aside0.mk (blk_drew BP2.out)
     have BX3 := Aside0.mk (blk_drew BX.out)
     have HB3 := Aside0.mk (below_drew1 HB2.out)
     clear BP2 BX HB2 hy0 hy1 hy2 hq0
     refine start_ (n := 40) (S := fun w' => w'.cell? ⟨gx, 0, none⟩ = some (.string X.f0) ∧ w'.cell? ⟨gx, 1, none⟩ = some (.int .i64 X.f1) ∧ w'.cell? ⟨gx, 2, none⟩ = some (.int .i64 X.f2) ∧ w'.cell? ⟨gp, 0, none⟩ = some (.slice (some ad) l0_0.length c0_0) ∧ w'.cell? ⟨(ad.add ((wrap64 ((i : Int) - 1)).toNat * 3)).block, (ad.add ((wrap64 ((i : Int) - 1)).toNat * 3)).off + 1, none⟩ = some (.int .i64 Y.f1)) (ds := []) (upB 0 40) (by kernel_rfl) rfl (by kernel_rfl) ⟨(blk_cell BX3.out 0).trans rfl, (blk_cell BX3.out 1).trans rfl, (blk_cell BX3.out 2).trans rfl, (blk_cell BP3.out 0).trans rfl, (HB3.out.cell (World.block_lt_of_cell? w _ HU.out)).trans HU.out⟩ (fun hHeld => ?_); refine with_tabW culetref49_Valid.tab7 culetref49_Valid.bits7 (fun HT_ HW_ => ?_)
     generalize w97.drew = w31 at BP3 BX3 HB3 hHeld ⊢
     repeat (first | (refine pnx rfl rfl (any_of HT_.out (by kernel_rfl)) (Or.inr ⟨by rfl, rfl⟩) ?_) | (refine pnx rfl rfl (any_of HT_.out (by kernel_rfl)) (Or.inl ⟨by rfl, by intro w'; go_simp; with_reducible rfl⟩) ?_) | (refine tnx rfl rfl (take_ofW HT_.out HW_.out (by kernel_rfl)) (Or.inl ⟨by rfl, by rintro w' ⟨s0, s1, s2, s3, s4⟩; go_simp; with_reducible rfl⟩) hHeld ?_))
     refine one_ (i := 2) (N := some 65) (upB (0 + 1 + 1 + 1) 40) rfl rfl (one_of HT_.out (by kernel_rfl)) (by decide) (fun K hK => ?_)
     refine goes_ Tryd.func37 (by kernel_rfl) rfl #[.string X.f0] (by rfl) rfl rfl (by (try simp only [List.map_toArray, List.map_cons, List.map_nil]); first | done | rfl) ?_
     with_reducible refine (culetref13_IsName.calls k1 X.f0 true _ HNM.out).mono ?_
     rintro e w32 ⟨rfl, hb⟩
     refine ⟨_, rfl, ?_⟩
     have BP2 := Aside0.mk (blk_below BP3.out hb)
     have BX := Aside0.mk (blk_below BX3.out hb)
     have HB2 := Aside0.mk (below_step HB3.out hb)
     clear BP3 BX3 HB3 hb hHeld
     refine hK.out _ _ ⟨(blk_cell BX.out 0).trans rfl, (blk_cell BX.out 1).trans rfl, (blk_cell BX.out 2).trans rfl, (blk_cell BP2.out 0).trans rfl, (HB2.out.cell (World.block_lt_of_cell? w _ HU.out)).trans HU.out⟩ (fun hHeld => ?_)
     clear hK K
     refine norm_ (a' := ?_) ?_ ?_
     rotate_left
     ·
      show Act.put _ (some 65) _ = _
      simp only [Act.put, List.setIfInBounds_toArray, List.set_cons_zero, List.set_cons_succ, i64_w, i32_w]
      rfl
     repeat (first | (refine pnx rfl rfl (any_of HT_.out (by kernel_rfl)) (Or.inr ⟨by rfl, rfl⟩) ?_) | (refine pnx rfl rfl (any_of HT_.out (by kernel_rfl)) (Or.inl ⟨by rfl, by intro w'; go_simp; with_reducible rfl⟩) ?_) | (refine tnx rfl rfl (take_ofW HT_.out HW_.out (by kernel_rfl)) (Or.inl ⟨by rfl, by rintro w' ⟨s0, s1, s2, s3, s4⟩; go_simp; with_reducible rfl⟩) hHeld ?_))
     refine done_ (done_of HT_.out (by kernel_rfl)) ?_
     clear hHeld HT_ HW_
     try go_wp2
     go_ret
     exact ⟨rfl, by repeat (first | exact HB2.out | apply pw_below_drewN | apply below_drew | apply below_drew1)⟩
    rw [if_pos (by simp [a])] at H
    have q9 : decide (X.f1 ≤ Y.f1) = false := decide_eq_false (by omega)
    have H' := Aside0.mk H
    clear H a
    have BP3 := Aside0.mk (blk_drew BP2.out)
    have BX3 := Aside0.mk (blk_drew BX.out)
    have HB3 := Aside0.mk (below_drew1 HB2.out)
    clear BP2 BX HB2 hy0 hy1 hy2 hq0
    refine start_ (n := 40) (S := fun w' => w'.cell? ⟨gx, 0, none⟩ = some (.string X.f0) ∧ w'.cell? ⟨gx, 1, none⟩ = some (.int .i64 X.f1) ∧ w'.cell? ⟨gx, 2, none⟩ = some (.int .i64 X.f2) ∧ w'.cell? ⟨gp, 0, none⟩ = some (.slice (some ad) l0_0.length c0_0) ∧ w'.cell? ⟨(ad.add ((wrap64 ((i : Int) - 1)).toNat * 3)).block, (ad.add ((wrap64 ((i : Int) - 1)).toNat * 3)).off + 1, none⟩ = some (.int .i64 Y.f1)) (ds := []) (upB 0 40) (by kernel_rfl) rfl (by kernel_rfl) ⟨(blk_cell BX3.out 0).trans rfl, (blk_cell BX3.out 1).trans rfl, (blk_cell BX3.out 2).trans rfl, (blk_cell BP3.out 0).trans rfl, (HB3.out.cell (World.block_lt_of_cell? w _ HU.out)).trans HU.out⟩ (fun hHeld => ?_); refine with_tabW culetref49_Valid.tab7 culetref49_Valid.bits7 (fun HT_ HW_ => ?_)
    generalize w97.drew = w31 at BP3 BX3 HB3 hHeld ⊢
    repeat (first | (refine pnx rfl rfl (any_of HT_.out (by kernel_rfl)) (Or.inr ⟨by rfl, rfl⟩) ?_) | (refine pnx rfl rfl (any_of HT_.out (by kernel_rfl)) (Or.inl ⟨by rfl, by intro w'; go_simp; with_reducible rfl⟩) ?_) | (refine tnx rfl rfl (take_ofW HT_.out HW_.out (by kernel_rfl)) (Or.inl ⟨by rfl, by rintro w' ⟨s0, s1, s2, s3, s4⟩; go_simp; with_reducible rfl⟩) hHeld ?_))
    refine one_ (i := 2) (N := some 65) (upB (0 + 1 + 1 + 1) 40) rfl rfl (one_of HT_.out (by kernel_rfl)) (by decide) (fun K hK => ?_)
    refine goes_ Tryd.func37 (by kernel_rfl) rfl #[.string X.f0] (by rfl) rfl rfl (by (try simp only [List.map_toArray, List.map_cons, List.map_nil]); first | done | rfl) ?_
    with_reducible refine (culetref13_IsName.calls k1 X.f0 true _ HNM.out).mono ?_
    rintro e w32 ⟨rfl, hb⟩
    refine ⟨_, rfl, ?_⟩
    have BP2 := Aside0.mk (blk_below BP3.out hb)
    have BX := Aside0.mk (blk_below BX3.out hb)
    have HB2 := Aside0.mk (below_step HB3.out hb)
    clear BP3 BX3 HB3 hb hHeld
    refine hK.out _ _ ⟨(blk_cell BX.out 0).trans rfl, (blk_cell BX.out 1).trans rfl, (blk_cell BX.out 2).trans rfl, (blk_cell BP2.out 0).trans rfl, (HB2.out.cell (World.block_lt_of_cell? w _ HU.out)).trans HU.out⟩ (fun hHeld => ?_)
    clear hK K
    refine norm_ (a' := ?_) ?_ ?_
    rotate_left
    ·
     show Act.put _ (some 65) _ = _
     simp only [Act.put, List.setIfInBounds_toArray, List.set_cons_zero, List.set_cons_succ, i64_w, i32_w]
     rfl
    repeat (first | (refine pnx rfl rfl (any_of HT_.out (by kernel_rfl)) (Or.inr ⟨by rfl, rfl⟩) ?_) | (refine pnx rfl rfl (any_of HT_.out (by kernel_rfl)) (Or.inl ⟨by rfl, by intro w'; go_simp; with_reducible rfl⟩) ?_) | (refine tnx rfl rfl (take_ofW HT_.out HW_.out (by kernel_rfl)) (Or.inl ⟨by rfl, by rintro w' ⟨s0, s1, s2, s3, s4⟩; go_simp; with_reducible rfl⟩) hHeld ?_))
    refine done_ (done_of HT_.out (by kernel_rfl)) ?_
    clear hHeld HT_ HW_
    try go_wp2
    clear m3 m4 HU q9
    go_loopg [5] i (fun kq v5 w' => ∃ j : Nat, v5 = .int .i64 (j : Int) ∧ Aside0 (j + kq = i) ∧ Aside0 (∀ s, s < j → (fun y : S55 => y.f0.toList == X.f0.toList) (l0_0.getD s z55) = false) ∧ Aside0 (w'.heap[gp]? = some (.cells #[.slice (some ad) l0_0.length c0_0, .slice A0_1 l0_1.length c0_1, .int .i64 a0_2, .int .i64 a0_3] 25 (0, 0))) ∧ Aside0 (w'.heap[gx]? = some (.cells #[.string X.f0, .int .i64 X.f1, .int .i64 X.f2] 55 (0, 0))) ∧ Aside0 (Below w.heap.size w w'))
    case atStart => exact ⟨0, rfl, ⟨by omega⟩, ⟨fun _ h => absurd h (by omega)⟩, ⟨by (with_reducible repeat (first | refine blk_drewN ?_ _ | refine blk_drew ?_ | refine blk_alloc ?_ _)); exact BP2.out⟩, ⟨by (with_reducible repeat (first | refine blk_drewN ?_ _ | refine blk_drew ?_ | refine blk_alloc ?_ _)); exact BX.out⟩, ⟨by repeat (first | exact HB2.out | apply pw_below_drewN | apply below_drew | apply below_drew1)⟩⟩
    case round =>
     clear BP2 BX HB2
     obtain ⟨j, rfl, HJ, HS, BP2, BX, HB2⟩ := hrel
     have hy0 : wr.cell? ⟨gx, 0, none⟩ = some (.string X.f0) := (blk_cell BX.out 0).trans rfl
     have hq0 : wr.cell? ⟨gp, 0, none⟩ = some (.slice (some ad) l0_0.length c0_0) := (blk_cell BP2.out 0).trans rfl
     cases gk with
     | zero =>
      have hj : j = i := by have := HJ.out; omega
      have d1 : decide ((j : Int) < (i : Int)) = false := decide_eq_false (by omega)
      have d2 : decide (j < i) = false := decide_eq_false (by omega)
      have H := H'.out
      rw [if_neg (by rw [refV.any_no _ z55 _ i (Nat.le_of_lt HII.out) (fun s hs => HS.out s (by omega))]; simp)] at H
      clear H'
      have H' := Aside0.mk H
      clear H hj
      go_wp2
      go_roundg k1
      case measure => omega
      case rel => exact ⟨i + 1, congrArg (Value.int .i64) hW.out, ⟨HII.out⟩, H', ⟨by have := HK1.out; omega⟩, ⟨by (with_reducible repeat (first | refine blk_drewN ?_ _ | refine blk_drew ?_ | refine blk_alloc ?_ _)); exact BP2.out⟩, ⟨by repeat (first | exact HB2.out | apply pw_below_drewN | apply below_drew | apply below_drew1)⟩⟩
     | succ k2 =>
      have hj : j < i := by have := HJ.out; omega
      have hil := HII.out
      have d1 : decide ((j : Int) < (i : Int)) = true := decide_eq_true (by omega)
      have d2 : decide (j < i) = true := decide_eq_true (by omega)
      have j3 : ((j : Int) < (l0_0.length : Int)) = True := eq_true (by omega)
      have j4 : (0 ≤ (j : Int)) = True := eq_true (by omega)
      have hWj : Aside0 (wrap64 ((j : Int) + 1) = ((j + 1 : Nat) : Int)) := ⟨wrap_i j (by have := HN0.out; omega)⟩
      obtain ⟨ad, e1, hv0, hv1, hv2⟩ := at_T55 HR0.out (j : Int) (by omega) (by omega)
      cases e1
      rw [Int.toNat_natCast] at hv0 hv1 hv2
      replace hv0 := (HB2.out.cell (World.block_lt_of_cell? w _ hv0)).trans hv0
      replace hv1 := (HB2.out.cell (World.block_lt_of_cell? w _ hv1)).trans hv1
      replace hv2 := (HB2.out.cell (World.block_lt_of_cell? w _ hv2)).trans hv2
      rw [show rd_T55 l0_0 (j : Int) = l0_0.getD j z55 by unfold rd_T55; rw [Int.toNat_natCast]] at hv0 hv1 hv2
      have HJI := Aside0.mk hj
      clear hj hil
      cases hs : ((l0_0.getD j z55).f0.toList == X.f0.toList) with
      | true =>
       have H := H'.out
       rw [if_pos (refV.any_yes _ z55 _ i j (Nat.le_of_lt HII.out) HJI.out hs)] at H
       obtain rfl := Option.some.inj H
       clear H H'
       generalize l0_0.getD j z55 = Y at *
       go_wp2
       go_quiet (fail)
       go_wp2
       go_ret
       exact ⟨rfl, by repeat (first | exact HB2.out | apply pw_below_drewN | apply below_drew | apply below_drew1)⟩
      | false =>
       have HSS := Aside0.mk hs
       generalize hY : l0_0.getD j z55 = Y at hs hv0 hv1 hv2
       go_wp2
       go_quiet (fail)
       go_wp2
       go_roundg k2
       case measure => omega
       case rel => exact ⟨j + 1, congrArg (Value.int .i64) hWj.out, ⟨by have := HJ.out; omega⟩, ⟨fun s hs2 => by
         by_cases hsj : s < j
         ·
          exact HS.out s hsj
         ·
          obtain rfl : s = j := by omega
          exact HSS.out⟩, ⟨by (with_reducible repeat (first | refine blk_drewN ?_ _ | refine blk_drew ?_ | refine blk_alloc ?_ _)); exact BP2.out⟩, ⟨by (with_reducible repeat (first | refine blk_drewN ?_ _ | refine blk_drew ?_ | refine blk_alloc ?_ _)); exact BX.out⟩, ⟨by repeat (first | exact HB2.out | apply pw_below_drewN | apply below_drew | apply below_drew1)⟩⟩
end Go.Proofs.YtalhpnfapagamaaDoor.S
