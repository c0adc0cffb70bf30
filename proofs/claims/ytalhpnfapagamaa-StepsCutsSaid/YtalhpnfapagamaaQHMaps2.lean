-- Written by this session's own programs; what the law does not lean on is left out. Lean checks it.
import Derived.Test.YtalhpnfapagamaaQHMaps
import Derived.WideKeyPair
import Derived.Maps.OwnSet
namespace Go.Proofs.Ytalhpnfapagamaa.S
set_option linter.unusedSimpArgs false
set_option linter.unusedVariables false
open Go.RowKit Go.Proofs.YtalhpnfapagamaaW.PrintWords Go.Proofs.YtalhpnfapagamaaW.PrintLast Go.Proofs.YtalhpnfapagamaaW.PrintMore Go.Maps Go.ChangeMaps
section
variable {W w1 : World} {b g : Nat} {o0 o' : Obj}
theorem grown_block (hb : W.heap[b]? = some o0) : W.grownBy (setBlock W b o') (some b) :=
 ⟨rfl, rfl, rfl, by simp [setBlock], fun i _ hi => by
  have : b ≠ i := fun e => hi (by rw [e])
  simp [setBlock, Array.getElem?_setIfInBounds_ne this]⟩
theorem block_is (hb : W.heap[b]? = some o0) : (setBlock W b o').heap[b]? = some o' := by
 have h := blk_lt hb
 simp [setBlock, h]
theorem blk_apart (h : W.heap[g]? = some o') (hb : W.heap[b]? = some o0) (hne : o' ≠ o0) (hg : W.grownBy w1 (some b)) : w1.heap[g]? = some o' :=
 (hg.block g (blk_lt h) (fun e => hne (Option.some.inj ((Option.some.inj e ▸ h).symm.trans hb)))).trans h
theorem obj_far {j : Nat} {u : Value} (h : W.heap[b]? = some o0) (hne : b ≠ g) : (W.setCell ⟨g, j, none⟩ u).heap[b]? = some o0 := (Below.heap_setCell W ⟨g, j, none⟩ u b hne).trans h
theorem below_written {w : World} (h : Below w.heap.size w W) (hle : w.heap.size ≤ b) (hg : W.grownBy w1 (some b)) : Below w.heap.size w w1 :=
 h.trans ⟨hg.os, hg.tape, hg.output, hg.size, fun k hk => hg.block k (Nat.lt_of_lt_of_le hk h.size) (fun e => by have := Option.some.inj e; omega)⟩
theorem R_apart {α : Type} {d : Kd α} {e base : Nat} {ok : Nat → Prop} {v : Value} {xs : List α} (h : d.R e W base ok v xs) (hb : W.heap[b]? = some o0) (ho : ∀ cs t q, o0 ≠ .cells cs t q) (hg : W.grownBy w1 (some b)) : d.R e w1 base ok v xs :=
 Kd.R_mono (Kd.R_move (Kd.R_bound h) (fun k hk => hg.block k hk.2.2.1 (fun e => by
  obtain ⟨_, _, _, q, _, cells, hc⟩ := hk
  rw [Option.some.inj e, hb] at hc
  exact ho _ _ _ (Option.some.inj hc)))) (fun _ hk => hk.1)
end
section
variable {P : Program} {ops : Array Oper} {rest : List Oper} {o : Oper} {a : Act} {Q : Exit → Act → World → Prop} {W : World}
theorem map_event (hgd : o.guard = none) {N : Tmp} (_hd : o.dst = some N) (t : TypeId) (ho : o.op = .makeMap t none)
  (h : ∀ b, b = W.heap.size → ∀ w1, w1.heap[b]? = some (.map #[] 0) → Below W.heap.size W w1 → wpList P ops Q rest (a.put o.dst (.map (some b))) w1) : wpList P ops Q (o :: rest) a W :=
 Kd.event_run hgd (w1 := W.alloc (.map #[] 0)) (by simp [execOp, ho, run_makeMap, Result.andThen]) (h _ rfl _ (blk_new W _) (below_alloc (Below.refl _ _) _))
theorem update_event (hgd : o.guard = none) (m x v : Operand) (t : TypeId) (ho : o.op = .mapUpdate t m x v) {vm vx vv : Value} (hm : a.eval m = vm) (hx : a.eval x = vx) (hv : a.eval v = vv) {w1 : World}
  (hrun : (Instr.mapUpdate t vm vx vv).run P W = .ok () w1) (h : wpList P ops Q rest (a.put o.dst undef) w1) : wpList P ops Q (o :: rest) a W := by
 refine wpList_plain hgd fun K' hK' => ?_
 unfold Oper.wp
 simp [execOp, ho, hm, hx, hv, hrun, Result.andThen]
 exact hK' _ _ h
theorem len_event (hgd : o.guard = none) (x : Operand) (t k e : TypeId) (ho : o.op = .call { callee := .builtin .len, args := #[x], argTypes := #[t] }) (ht : P.underlying t = some (.map k e)) {b : Nat} {es : Array MapEntry} {clock : Nat} (hx : a.eval x = .map (some b))
  (hb : W.heap[b]? = some (.map es clock)) (h : wpList P ops Q rest (a.put o.dst (.int .i64 es.size)) W) : wpList P ops Q (o :: rest) a W := by
 refine Kd.event_run hgd (w1 := W) (v := .int .i64 es.size) ?_ h
 simp [execOp, ho, hx, resolve, invoke, builtin, Builtin.len_, run_underlying ht, MapKept.run_getObj_map hb, goInt, Result.andThen]
theorem range_event (hgd : o.guard = none) {N : Tmp} (_hd : o.dst = some N) (x : Operand) (t k e : TypeId) (ho : o.op = .range t x) (ht : P.underlying t = some (.map k e)) {b : Nat} {es : Array MapEntry} {clock : Nat} (hx : a.eval x = .map (some b)) (hb : W.heap[b]? = some (.map es clock))
  (h : ∀ r, r = W.heap.size → ∀ w1, w1.heap[r]? = some (.mapIter (some b) clock #[] clock) → Below W.heap.size W w1 → wpList P ops Q rest (a.put o.dst (.pointer (some ⟨r, 0, none⟩))) w1) : wpList P ops Q (o :: rest) a W :=
 Kd.event_run hgd (w1 := W.alloc (.mapIter (some b) clock #[] clock)) (by simp [execOp, ho, hx, run_range_map W t k e b es clock ht hb, Result.andThen]) (h _ rfl _ (blk_new W _) (below_alloc (Below.refl _ _) _))
theorem entry_event (hgd : o.guard = none) {N : Tmp} (_hd : o.dst = some N) (x : Operand) (ho : o.op = .entry x) {vx v : Value} (hx : a.eval x = vx) (hrun : (Instr.entry vx).run P W = .ok v W) (h : wpList P ops Q rest (a.put o.dst v) W) : wpList P ops Q (o :: rest) a W :=
 Kd.event_run hgd (by simp [execOp, ho, hx, hrun, Result.andThen]) h
end
theorem next_two {P : Program} (W : World) (ty : TypeId) {r b n : Nat} {seen : Array Nat} {α : Type} {kf : α → Value} {v : Value} {s : List α}
  (hr : W.heap[r]? = some (.mapIter (some b) s.length seen s.length)) (hb : W.heap[b]? = some (.map (ents kf v s) s.length)) (hn : (leftOf (ents kf v s) seen).size ≤ n) :
  ((Instr.next (.pointer (some ⟨r, 0, none⟩)) false ty).run P W = .ok (.tuple #[.bool false]) W) ∨
  ∃ y w1 n' seen', n = n' + 1 ∧ (Instr.next (.pointer (some ⟨r, 0, none⟩)) false ty).run P W = .ok (.tuple #[.bool true, kf y, v]) w1 ∧ W.grownBy w1 (some r) ∧ w1.heap[r]? = some (.mapIter (some b) s.length seen' s.length) ∧
   (leftOf (ents kf v s) seen').size ≤ n' ∧ (Instr.entry (.pointer (some ⟨r, 0, none⟩))).run P w1 = .ok (.tuple #[kf y, v]) w1 := by
 have hold : ∀ q ∈ (ents kf v s).toList, q.born < s.length := fun q hq => by obtain ⟨_, _, _, _, h⟩ := mem_ents hq; exact h
 rcases run_next_at (P := P) W ty r b s.length s.length seen (ents kf v s) s.length hr hb hold (Nat.le_refl _) with ⟨_, hrun⟩ | ⟨q, hq, w1, hw1, hrun⟩
 ·
  exact .inl hrun
 ·
  have hm := mem_left hq
  obtain ⟨y, _, e1, e2, _⟩ := mem_ents hm.1
  have hlt := left_shrinks _ _ _ hq
  have hr1 : w1.heap[r]? = some (.mapIter (some b) s.length seen s.length) := by rcases hw1 with rfl | rfl <;> exact hr
  have hb1 : w1.heap[b]? = some (.map (ents kf v s) s.length) := by rcases hw1 with rfl | rfl <;> exact hb
  have hg : W.grownBy (setBlock w1 r (.mapIter (some b) s.length (seen.push q.born) s.length)) (some r) := by
   have := grown_block (o' := .mapIter (some b) s.length (seen.push q.born) s.length) hr1
   rcases hw1 with rfl | rfl
   ·
    exact this
   ·
    exact ⟨this.os, this.tape, this.output, this.size, this.block⟩
  have hrb : (setBlock w1 r (.mapIter (some b) s.length (seen.push q.born) s.length)).heap[r]? = some (.mapIter (some b) s.length (seen.push q.born) s.length) := block_is hr1
  have hbb : (setBlock w1 r (.mapIter (some b) s.length (seen.push q.born) s.length)).heap[b]? = some (.map (ents kf v s) s.length) := blk_apart hb1 hr1 (by simp) (grown_block hr1)
  have hent := run_entry_at (P := P) _ r b s.length seen (ents kf v s) s.length q hrb hbb hm.1 (ents_nodup kf v s)
  rw [e1, e2] at hent hrun
  exact .inr ⟨y, _, n - 1, _, by omega, hrun, hg, hrb, by omega, hent⟩
theorem next_run {P : Program} {ops : Array Oper} {rest : List Oper} {o : Oper} {a : Act} {Q : Exit → Act → World → Prop} {W w1 : World} (hgd : o.guard = none) (x : Operand) (ho : o.op = .next x false) {vx v : Value} (hx : a.eval x = vx)
  (hrun : (Instr.next vx false o.type).run P W = .ok v w1) (h : wpList P ops Q rest (a.put o.dst v) w1) : wpList P ops Q (o :: rest) a W :=
 Kd.event_run hgd (by simp [execOp, ho, hx, hrun, Result.andThen]) h
theorem left_all {α : Type} (kf : α → Value) (v : Value) (s : List α) : (leftOf (ents kf v s) #[]).size ≤ s.length := by
 unfold leftOf
 refine Nat.le_trans Array.size_filter_le ?_
 rw [ents_size]
 exact Nat.le_refl _
theorem law70 : WideMaps.KeyLaw Try.prog 70 := deep_law_gate (by kernel_rfl) (of_decide_eq_true (by kernel_rfl)) (of_decide_eq_true (by kernel_rfl)) (by kernel_rfl) (by kernel_rfl)
/-- A key of two whole numbers. -/
def key2 (p : Int × Int) : Value := .agg #[.int .i64 p.1, .int .i64 p.2]
def key1 (x : Int) : Value := .int .i64 x
theorem key1_inj : ∀ a c, key1 a = key1 c → a = c := fun a c h => by simpa [key1] using h
theorem key2_inj : ∀ a c, key2 a = key2 c → a = c := fun a c h => by
 simp [key2] at h
 exact Prod.ext h.1 h.2
theorem wf_small {x : Int} (h : 0 ≤ x ∧ x ≤ 1000) : (Lit.int .i64 x).wf = true := by
 simp [Lit.wf]
 have : IntKind.i64.min = -9223372036854775808 := by decide
 have := h.1
 have := h.2
 omega
theorem key1_of {x : Int} (h : 0 ≤ x ∧ x ≤ 1000) : ∃ l, keyOf Try.prog 3 (key1 x) = some l := by
 refine ⟨_, keyOf_int_mk Try.underlying3 ?_⟩
 exact wf_small h
theorem key2_of {p : Int × Int} (h : (0 ≤ p.1 ∧ p.1 ≤ 1000) ∧ 0 ≤ p.2 ∧ p.2 ≤ 1000) : ∃ l, keyOf Try.prog 70 (key2 p) = some l := by
 exact ⟨_, WideMaps.keyOf_pair ⟨Try.underlying70, by kernel_rfl, by kernel_rfl, by kernel_rfl⟩ Try.underlying3 ⟨Try.prog.types.size - 1, by kernel_rfl⟩ (wf_small h.1) (wf_small h.2)⟩
/-- One more key, once. -/
def ins (s : List Int) (x : Int) : List Int := if x ∈ s then s else s ++ [x]
theorem ins_bound {s : List Int} {x : Int} (h : ∀ y ∈ s, 0 ≤ y ∧ y ≤ 1000) (hx : 0 ≤ x ∧ x ≤ 1000) : ∀ y ∈ ins s x, 0 ≤ y ∧ y ≤ 1000 := by
 intro y hy
 unfold ins at hy
 split at hy
 ·
  exact h y hy
 ·
  rcases List.mem_append.1 hy with hy | hy
  ·
   exact h y hy
  ·
   rw [List.mem_singleton.1 hy]; exact hx
section
variable {ops : Array Oper} {rest : List Oper} {o : Oper} {a : Act} {Q : Exit → Act → World → Prop} {W : World}
theorem ins_event (hgd : o.guard = none) (m x y : Operand) (ho : o.op = .mapUpdate 66 m x y) {b : Nat} {n : Int} {s : List Int} (hm : a.eval m = .map (some b)) (hx : a.eval x = .int .i64 n) (hv : a.eval y = .bool true)
  (hs : ∀ y ∈ s, 0 ≤ y ∧ y ≤ 1000) (hn : 0 ≤ n ∧ n ≤ 1000) (hb : W.heap[b]? = some (.map (ents key1 (.bool true) s) s.length))
  (h : ∀ w1, W.heap[b]? = some (.map (ents key1 (.bool true) s) s.length) → w1.heap[b]? = some (.map (ents key1 (.bool true) (ins s n)) (ins s n).length) → W.grownBy w1 (some b) → wpList Try.prog ops Q rest (a.put o.dst undef) w1) : wpList Try.prog ops Q (o :: rest) a W := by
 have hK : Keyed Try.prog 3 := int_keyed Try.underlying3
 have hk : ∀ y ∈ s, ∃ l, keyOf Try.prog 3 (key1 y) = some l := fun y hy => key1_of (hs y hy)
 by_cases hin : n ∈ s
 ·
  refine update_event hgd m x y 66 ho hm hx hv (update_old (x := n) hK Try.underlying66 hk hin hb) (h _ hb ?_ (grown_block hb))
  unfold ins
  rw [if_pos hin]
  exact block_is hb
 ·
  refine update_event hgd m x y 66 ho hm hx hv (update_new (x := n) hK Try.underlying66 key1_inj hk (key1_of hn) hin hb) (h _ hb ?_ (grown_block hb))
  unfold ins
  rw [if_neg hin]
  exact block_is hb
end
theorem cell_apart {W w1 : World} {g b j : Nat} {v : Value} (h : W.cell? ⟨g, j, none⟩ = some v) (hg : W.grownBy w1 (some b)) (hne : b ≠ g) : w1.cell? ⟨g, j, none⟩ = some v :=
 (World.cell?_of_block (a := ⟨g, j, none⟩) (hg.block g (World.block_lt_of_cell? W _ h) (fun e => hne (Option.some.inj e).symm))).trans h
section
variable {P : Program} {ops : Array Oper} {o : Oper} {a : Act} {Q : Exit → Act → World → Prop} {Kc : Act → World → Prop} {W : World}
theorem lookup_runs {t : TypeId} {m x : Operand} (ho : o.op = .lookup t m x false) {vm vx v : Value} (hm : a.eval m = vm) (hx : a.eval x = vx) (h : (Instr.lookup t vm vx false).run P W = .ok v W) : (execOp a.eval o).run P W = .ok (.value v) W := by
 simp [execOp, ho, hm, hx, h, Result.andThen]
variable {α : Type} {kf : α → Value} {v z : Value} {s : List α} {b : Nat} {n : α} {t k e : TypeId}
theorem entry_step (hw : Region.wanted o (yielded ops a.tmps) = true) (m x : Operand) (ho : o.op = .mapEntry t m x) (hm : a.eval m = .map (some b)) (hx : a.eval x = kf n)
  (K : Keyed P k) (ht : P.underlying t = some (.map k e)) (inj : ∀ a c, kf a = kf c → a = c) (hk : ∀ y ∈ s, ∃ l, keyOf P k (kf y) = some l) (hn : ∃ l, keyOf P k (kf n) = some l) (hni : n ∉ s) (hz : (zeroValue e).run P W = .ok z W)
  (hb : W.heap[b]? = some (.map (ents kf v s) s.length))
  (h : ∀ w1, W.heap[b]? = some (.map (ents kf v s) s.length) → w1.heap[b]? = some (.map ((ents kf v s).push ⟨kf n, z, s.length⟩) (s.length + 1)) → W.grownBy w1 (some b) → Kc (a.put o.dst (.tuple #[z, .int .i64 s.length])) w1) :
  if Region.wanted o (yielded ops a.tmps) = true then Oper.wp P o a W Kc Q else Kc (a.put o.dst undef) W := by
 have hrun := entry_new (v := v) K ht inj hk hn hni hz hb
 exact event_step hw (by simp [execOp, ho, hm, hx, hrun, Result.andThen, goInt]) (h _ hb (block_is hb) (grown_block hb))
theorem store_step (hw : Region.wanted o (yielded ops a.tmps) = true) (m x y : Operand) (ho : o.op = .entryStore t m x y) (hm : a.eval m = .map (some b)) (hx : a.eval x = .int .i64 s.length) (hy : a.eval y = v)
  (hb : W.heap[b]? = some (.map ((ents kf v s).push ⟨kf n, z, s.length⟩) (s.length + 1)))
  (h : ∀ w1, W.heap[b]? = some (.map ((ents kf v s).push ⟨kf n, z, s.length⟩) (s.length + 1)) → w1.heap[b]? = some (.map (ents kf v (s ++ [n])) (s ++ [n]).length) → W.grownBy w1 (some b) → Kc (a.put o.dst undef) w1) :
  if Region.wanted o (yielded ops a.tmps) = true then Oper.wp P o a W Kc Q else Kc (a.put o.dst undef) W := by
 have hrun := store_new (P := P) (t := t) hb
 rw [if_pos hw]
 unfold Oper.wp
 have hx' : a.eval x = goInt s.length := hx
 simp [execOp, ho, hm, hx', hy, hrun, Result.andThen]
 have h1 := h _ hb (block_is hb) (grown_block hb)
 have h2 : Kc (a.put o.dst undef) (setBlock W b (.map (ents kf v (s ++ [n])) (s.length + 1))) := by simpa using h1
 exact h2
end
end Go.Proofs.Ytalhpnfapagamaa.S
