-- Written by this session's own programs; what the law does not lean on is left out. Lean checks it.
import Derived.Test.YthjmbagkomnpgaaDoorJS
namespace Go.Proofs.YthjmbagkomnpgaaDoorD
open Go Go.RowKit Go.Proofs.YthjmbagkomnpgaaDoorW.PrintWords Go.Proofs.YthjmbagkomnpgaaDoorW.PrintLast Go.Proofs.YthjmbagkomnpgaaDoorW.PrintMore
def dnB (o : List Nat) (n m : Nat) : Array Bool := ((List.range m).map (fun i => (o.take n).contains i)).toArray
theorem mk_ {p q : Prop} (h : p) (f : p → q := by intro h; (with_reducible repeat (first | refine blk_drewN ?_ _ | refine blk_drew ?_ | refine blk_alloc ?_ _)); exact h) : q := f h
theorem mr_ {p q : Prop} (h : p) (f : p → q := by intro h; (with_reducible repeat (first | apply Kd.R_alloc | apply Kd.R_drewN | apply Kd.R_drew)); exact h) : q := f h
theorem mc_ {p q : Prop} (h : p) (f : p → q := by intro h; repeat (first | exact h | (with_reducible refine Kd.C_alloc ?_ _) | (with_reducible refine Kd.C_drewN ?_ _) | (with_reducible refine Kd.C_drew ?_))) : q := f h
theorem mb_ {n : Nat} {w W W' : World} (h : Below n w W) (f : Below n w W → Below n w W' := by intro h; repeat (first | (with_reducible first | exact h | apply below_alloc | apply pw_below_drewN | apply below_drew1 | refine below_set ?_ (Aside0.out (by assumption))) | exact h)) : Below n w W' := f h
theorem aI {p q : Prop} (a : p) (b : q) : p ∧ q := ⟨a, b⟩
theorem am_ {p : Prop} (h : p) : Aside0 p := ⟨h⟩
theorem bz_ {w W : World} {g : Nat} (hg : g = W.heap.size) (h : Below w.heap.size w W) : w.heap.size ≤ g := hg ▸ below_size h
theorem nl_ {W : World} {g n : Nat} {o : Obj} (hg : n = W.heap.size) (h : W.heap[g]? = some o) : g ≠ n := hg ▸ Nat.ne_of_lt (blk_lt h)
theorem ng_ {W : World} {g n : Nat} {o : Obj} (hg : n = W.heap.size) (h : W.heap[g]? = some o) : n ≠ g := hg ▸ Nat.ne_of_gt (blk_lt h)
theorem bev {P : Program} {ops : Array Oper} {rest : List Oper} {o : Oper} {a : Act} {Q : Exit → Act → World → Prop} {W : World} {N : Tmp} {cs : Array Value} {t : TypeId}
  (h : ∀ g, g = W.heap.size → ∀ w1, w1.heap[g]? = some (.cells cs t (0, 0)) → Below W.heap.size W w1 → wpList P ops Q rest (a.put o.dst (.pointer (some ⟨g, 0, none⟩))) w1)
  (hgd : o.guard = none := by rfl) (hd : o.dst = some N := by rfl) (hrun : (execOp a.eval o).run P W = .ok (.value (.pointer (some ⟨W.heap.size, 0, none⟩))) (W.alloc (.cells cs t (0, 0))) := by first | (go_simp; done) | (go_simp; rfl)) : wpList P ops Q (o :: rest) a W := box_event hgd hd hrun h
section
variable {P : Program} {md : Region.Mode} {ops : Array Oper} {Q : Exit → Act → World → Prop} {S : World → Prop} {ds : List Nat}
theorem ltd {o : List Nat} {n m fuel : Nat} {d : Array Bool} {a : Act} {w : World} (hd : d = dnB o n m) (h : wpAnyLast P md ops Q S ds fuel (dnB o n m) a w) : wpAnyLast P md ops Q S ds fuel d a w := hd ▸ h
theorem pnd {o : List Nat} {n m fuel : Nat} {oi : Oper} {v : Value} {N : Option Tmp} {a : Act} {w : World} (hi : ops[o.getD n 0]? = some oi) (hN : oi.dst = N) (hc : anyB md ops (dnB o n m) (dnB o (n + 1) m) (o.getD n 0) = true)
  (hQ : ∀ c a w, Q (.panic c) (a.put oi.dst v) w → Q (.panic c) a w) (hy : Yields P ops oi v a) {a' : Act} (ha : a.put N v = a') (h : wpAnyLast P md ops Q S ds fuel (dnB o (n + 1) m) a' w) :
  wpAnyLast P md ops Q S ds (fuel + 1) (dnB o n m) a w := pure_ (dnB o (n + 1) m) hi hN hc hQ hy ha h
theorem tnd {o : List Nat} {n m fuel : Nat} {oi : Oper} {v : Value} {N : Option Tmp} {a : Act} {w : World} (hi : ops[o.getD n 0]? = some oi) (hN : oi.dst = N) (hc : takeB md ops ds (dnB o n m) (dnB o (n + 1) m) (o.getD n 0) = true)
  (hQ : ∀ c a w, Q (.panic c) (a.put oi.dst v) w → Q (.panic c) a w) (hy : YieldsIf P ops S oi v a) (hS : S w) {a' : Act} (ha : a.put N v = a') (h : wpAnyLast P md ops Q S ds fuel (dnB o (n + 1) m) a' w) :
  wpAnyLast P md ops Q S ds (fuel + 1) (dnB o n m) a w := take_ (dnB o (n + 1) m) hi hN hc hQ hy hS ha h
end
end Go.Proofs.YthjmbagkomnpgaaDoorD
