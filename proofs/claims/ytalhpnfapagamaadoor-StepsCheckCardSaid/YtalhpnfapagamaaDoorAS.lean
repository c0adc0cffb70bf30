-- Written by this session's own programs; what the law does not lean on is left out. Lean checks it.
import Derived.Test.YtalhpnfapagamaaDoorProg
import Derived.Below
import Derived.Deep.Draws
import Derived.Deep.AppendLies
import Derived.Maps.AppendAt
import Derived.OwnWalk
import Derived.Laws.BytesArg
import Derived.Laws.MakeOwn
import Derived.Laws.OwnMore
import Derived.Deep.OwnRows
import Derived.Tactics
import Derived.Lib.ConvBytes
import Derived.Laws.Slices
import Derived.WalkKit
import Derived.KernelRfl
import Derived.RowKit3
import Derived.Deep.LoopGhost
import Derived.Deep.QuietTactic
import Derived.BigQuiet
import Derived.WideLaws
import Derived.Deep.DeepCutAuto
import Derived.Deep.CutBlock
import Derived.Deep.RegionHeld3
import Derived.Laws.Rows
import Derived.Lib.AppendStr
import Derived.ArgAppend
import Derived.Laws.IdiomCopy
import Derived.OrdersHeld
import Derived.Laws.BitsLemmas
import Derived.RowKit
import Derived.Shelf.Abstract
import Derived.Test.YtalhpnfapagamaaDoorAShelf
import Derived.Test.YtalhpnfapagamaaDoorAWWords
import Derived.Test.YtalhpnfapagamaaDoorAWLast
import Derived.Test.YtalhpnfapagamaaDoorAWTab
import Derived.Test.YtalhpnfapagamaaDoorAWFour
import Derived.Test.YtalhpnfapagamaaDoorAWQPut
import Derived.Test.YtalhpnfapagamaaDoorAWApart
import Derived.Test.YtalhpnfapagamaaDoorAWArr
import Derived.Test.YtalhpnfapagamaaDoorAWZeros
import Derived.Test.YtalhpnfapagamaaDoorAWFoot
import Derived.Test.YtalhpnfapagamaaDoorAWKept
import Derived.Test.YtalhpnfapagamaaDoorAWShare
import Derived.Test.YtalhpnfapagamaaDoorAWN
import Derived.Test.YtalhpnfapagamaaDoorAWFootNe
import Derived.Test.YtalhpnfapagamaaDoorAWAt
import Derived.Test.YtalhpnfapagamaaDoorAWEqStruct
import Derived.Test.YtalhpnfapagamaaDoorAWRepsOne
import Derived.Test.YtalhpnfapagamaaDoorAWInv
import Derived.Test.YtalhpnfapagamaaDoorAWInvWords
import Derived.Test.YtalhpnfapagamaaDoorAWGuard
import Derived.Test.YtalhpnfapagamaaDoorAWNEv
import Derived.Test.YtalhpnfapagamaaDoorAWMore
section
namespace Go.Proofs.YtalhpnfapagamaaDoor.S
open Go.RowKit Go.Proofs.YtalhpnfapagamaaDoorW.PrintWords Go.Proofs.YtalhpnfapagamaaDoorW.PrintLast Go.Proofs.YtalhpnfapagamaaDoorW.PrintMore
set_option linter.unusedVariables false
set_option linter.unusedSimpArgs false



def errW : Option Int → Value
 | none => .nilIface
 | some c => .iface 0 (.int .i64 c)
theorem errW_none : errW none = .nilIface := rfl
theorem errW_some (c : Int) : errW (some c) = .iface 0 (.int .i64 c) := rfl

theorem info3 : (Tryd.prog.info? 3).map (fun i => (i.zero, i.size, i.bytes)) = some (some (.int .i64 0), 1, 8) := by kernel_rfl
theorem info9 : (Tryd.prog.info? 9).map (fun i => (i.zero, i.size, i.bytes)) = some (some (.string ⟨#[]⟩), 1, 16) := by kernel_rfl
theorem info49 : (Tryd.prog.info? 49).map (fun i => (i.zero, i.size, i.bytes)) = some (some (.agg #[(.string ⟨#[]⟩), (.int .i64 0), (.int .i64 0)]), 3, 32) := by kernel_rfl
theorem info51 : (Tryd.prog.info? 51).map (fun i => (i.zero, i.size, i.bytes)) = some (some (.agg #[(.string ⟨#[]⟩), (.int .i64 0), (.int .i64 0)]), 3, 32) := by kernel_rfl
theorem info60 : (Tryd.prog.info? 60).map (fun i => (i.zero, i.size, i.bytes)) = some (some (.agg #[(.int .i64 0), (.int .i64 0), (.int .i64 0)]), 3, 24) := by kernel_rfl
structure S49 where
 f0 : ByteArray
 f1 : Int
 f2 : Int
def z49 : S49 := ⟨(⟨#[]⟩ : ByteArray), (0 : Int), (0 : Int)⟩
def k49 : Kd S49 := Kd.iso (Kd.pair Kd.string (Kd.pair (Kd.int .i64) (Kd.int .i64))) (fun x : S49 => (x.f0, x.f1, x.f2))
theorem k49_open {w : World} {x : S49} {cs : List Value} (h : k49.K w x cs) : cs = [.string x.f0, .int .i64 x.f1, .int .i64 x.f2] := by
 obtain ⟨_, _, rfl, rfl, ⟨_, _, rfl, rfl, rfl⟩⟩ := h
 exact rfl
theorem k49_mkM (w : World) (base : Nat) (ok : Nat → Prop) (x : S49)  : k49.M w base ok x [.string x.f0, .int .i64 x.f1, .int .i64 x.f2] := ⟨[.string x.f0], [.int .i64 x.f1, .int .i64 x.f2], rfl, rfl, ⟨[.int .i64 x.f1], [.int .i64 x.f2], rfl, rfl, rfl⟩⟩
def rd_T49 (xs : List S49) (i : Int) : S49 := xs.getD i.toNat z49
theorem at_T49 {w : World} {A : Option Addr} {n : Nat} {xs : List S49} (h : Kd.C k49 w A n xs) (i : Int) (h0 : 0 ≤ i) (h1 : i < n) : ∃ ad , A = some ad ∧ w.cell? (ad.add (i.toNat * 3)) = some (.string (rd_T49 xs i).f0) ∧ w.cell? ⟨(ad.add (i.toNat * 3)).block, (ad.add (i.toNat * 3)).off + 1, none⟩ = some (.int .i64 (rd_T49 xs i).f1) ∧ w.cell? ⟨(ad.add (i.toNat * 3)).block, (ad.add (i.toNat * 3)).off + 2, none⟩ = some (.int .i64 (rd_T49 xs i).f2) := by
 obtain ⟨ad, c, e, _, hK, hc0⟩ := Kd.C_get h z49 i h0 h1
 have hc : ∀ j u, c[j]? = some u → w.cell? (ad.add (i.toNat * 3 + j)) = some u := hc0
 obtain rfl := k49_open hK
 exact ⟨ad, e, hc 0 _ rfl, by rw [← add_field _ _ 1 (by omega)]; exact hc 1 _ rfl, by rw [← add_field _ _ 2 (by omega)]; exact hc 2 _ rfl⟩

structure S51 where
 f0 : ByteArray
 f1 : Int
 f2 : Int
def z51 : S51 := ⟨(⟨#[]⟩ : ByteArray), (0 : Int), (0 : Int)⟩
def k51 : Kd S51 := Kd.iso (Kd.pair Kd.string (Kd.pair (Kd.int .i64) (Kd.int .i64))) (fun x : S51 => (x.f0, x.f1, x.f2))
theorem k51_open {w : World} {x : S51} {cs : List Value} (h : k51.K w x cs) : cs = [.string x.f0, .int .i64 x.f1, .int .i64 x.f2] := by
 obtain ⟨_, _, rfl, rfl, ⟨_, _, rfl, rfl, rfl⟩⟩ := h
 exact rfl
theorem k51_mkM (w : World) (base : Nat) (ok : Nat → Prop) (x : S51)  : k51.M w base ok x [.string x.f0, .int .i64 x.f1, .int .i64 x.f2] := ⟨[.string x.f0], [.int .i64 x.f1, .int .i64 x.f2], rfl, rfl, ⟨[.int .i64 x.f1], [.int .i64 x.f2], rfl, rfl, rfl⟩⟩
def rd_T51 (xs : List S51) (i : Int) : S51 := xs.getD i.toNat z51
theorem at_T51 {w : World} {A : Option Addr} {n : Nat} {xs : List S51} (h : Kd.C k51 w A n xs) (i : Int) (h0 : 0 ≤ i) (h1 : i < n) : ∃ ad , A = some ad ∧ w.cell? (ad.add (i.toNat * 3)) = some (.string (rd_T51 xs i).f0) ∧ w.cell? ⟨(ad.add (i.toNat * 3)).block, (ad.add (i.toNat * 3)).off + 1, none⟩ = some (.int .i64 (rd_T51 xs i).f1) ∧ w.cell? ⟨(ad.add (i.toNat * 3)).block, (ad.add (i.toNat * 3)).off + 2, none⟩ = some (.int .i64 (rd_T51 xs i).f2) := by
 obtain ⟨ad, c, e, _, hK, hc0⟩ := Kd.C_get h z51 i h0 h1
 have hc : ∀ j u, c[j]? = some u → w.cell? (ad.add (i.toNat * 3 + j)) = some u := hc0
 obtain rfl := k51_open hK
 exact ⟨ad, e, hc 0 _ rfl, by rw [← add_field _ _ 1 (by omega)]; exact hc 1 _ rfl, by rw [← add_field _ _ 2 (by omega)]; exact hc 2 _ rfl⟩

structure S60 where
 f0 : Int
 f1 : Int
 f2 : Int
def z60 : S60 := ⟨(0 : Int), (0 : Int), (0 : Int)⟩
def k60 : Kd S60 := Kd.iso (Kd.pair (Kd.int .i64) (Kd.pair (Kd.int .i64) (Kd.int .i64))) (fun x : S60 => (x.f0, x.f1, x.f2))
theorem k60_open {w : World} {x : S60} {cs : List Value} (h : k60.K w x cs) : cs = [.int .i64 x.f0, .int .i64 x.f1, .int .i64 x.f2] := by
 obtain ⟨_, _, rfl, rfl, ⟨_, _, rfl, rfl, rfl⟩⟩ := h
 exact rfl
theorem k60_mkM (w : World) (base : Nat) (ok : Nat → Prop) (x : S60)  : k60.M w base ok x [.int .i64 x.f0, .int .i64 x.f1, .int .i64 x.f2] := ⟨[.int .i64 x.f0], [.int .i64 x.f1, .int .i64 x.f2], rfl, rfl, ⟨[.int .i64 x.f1], [.int .i64 x.f2], rfl, rfl, rfl⟩⟩
def rd_T60 (xs : List S60) (i : Int) : S60 := xs.getD i.toNat z60
theorem at_T60 {w : World} {A : Option Addr} {n : Nat} {xs : List S60} (h : Kd.C k60 w A n xs) (i : Int) (h0 : 0 ≤ i) (h1 : i < n) : ∃ ad , A = some ad ∧ w.cell? (ad.add (i.toNat * 3)) = some (.int .i64 (rd_T60 xs i).f0) ∧ w.cell? ⟨(ad.add (i.toNat * 3)).block, (ad.add (i.toNat * 3)).off + 1, none⟩ = some (.int .i64 (rd_T60 xs i).f1) ∧ w.cell? ⟨(ad.add (i.toNat * 3)).block, (ad.add (i.toNat * 3)).off + 2, none⟩ = some (.int .i64 (rd_T60 xs i).f2) := by
 obtain ⟨ad, c, e, _, hK, hc0⟩ := Kd.C_get h z60 i h0 h1
 have hc : ∀ j u, c[j]? = some u → w.cell? (ad.add (i.toNat * 3 + j)) = some u := hc0
 obtain rfl := k60_open hK
 exact ⟨ad, e, hc 0 _ rfl, by rw [← add_field _ _ 1 (by omega)]; exact hc 1 _ rfl, by rw [← add_field _ _ 2 (by omega)]; exact hc 2 _ rfl⟩

structure S55 where
 f0 : ByteArray
 f1 : Int
 f2 : Int
def z55 : S55 := ⟨(⟨#[]⟩ : ByteArray), (0 : Int), (0 : Int)⟩
def k55 : Kd S55 := Kd.iso (Kd.pair Kd.string (Kd.pair (Kd.int .i64) (Kd.int .i64))) (fun x : S55 => (x.f0, x.f1, x.f2))
theorem k55_heap : Kd.Heap k55 := Kd.heap_iso _ (Kd.heap_pair Kd.heap_string (Kd.heap_pair (Kd.heap_int .i64) (Kd.heap_int .i64)))
theorem k55_open {w : World} {x : S55} {cs : List Value} (h : k55.K w x cs) : cs = [.string x.f0, .int .i64 x.f1, .int .i64 x.f2] := by
 obtain ⟨_, _, rfl, rfl, ⟨_, _, rfl, rfl, rfl⟩⟩ := h
 exact rfl
theorem k55_mk (w : World) (x : S55)  : k55.K w x [.string x.f0, .int .i64 x.f1, .int .i64 x.f2] := ⟨[.string x.f0], [.int .i64 x.f1, .int .i64 x.f2], rfl, rfl, ⟨[.int .i64 x.f1], [.int .i64 x.f2], rfl, rfl, rfl⟩⟩
def rd_T55 (xs : List S55) (i : Int) : S55 := xs.getD i.toNat z55
theorem at_T55 {w : World} {A : Option Addr} {n : Nat} {xs : List S55} (h : Kd.C k55 w A n xs) (i : Int) (h0 : 0 ≤ i) (h1 : i < n) : ∃ ad , A = some ad ∧ w.cell? (ad.add (i.toNat * 3)) = some (.string (rd_T55 xs i).f0) ∧ w.cell? ⟨(ad.add (i.toNat * 3)).block, (ad.add (i.toNat * 3)).off + 1, none⟩ = some (.int .i64 (rd_T55 xs i).f1) ∧ w.cell? ⟨(ad.add (i.toNat * 3)).block, (ad.add (i.toNat * 3)).off + 2, none⟩ = some (.int .i64 (rd_T55 xs i).f2) := by
 obtain ⟨ad, c, e, _, hK, hc0⟩ := Kd.C_get h z55 i h0 h1
 have hc : ∀ j u, c[j]? = some u → w.cell? (ad.add (i.toNat * 3 + j)) = some u := hc0
 obtain rfl := k55_open hK
 exact ⟨ad, e, hc 0 _ rfl, by rw [← add_field _ _ 1 (by omega)]; exact hc 1 _ rfl, by rw [← add_field _ _ 2 (by omega)]; exact hc 2 _ rfl⟩

structure S56 where
 f0 : ByteArray
 f1 : Int
 f2 : Int
def z56 : S56 := ⟨(⟨#[]⟩ : ByteArray), (0 : Int), (0 : Int)⟩
def k56 : Kd S56 := Kd.iso (Kd.pair Kd.string (Kd.pair (Kd.int .i64) (Kd.int .i64))) (fun x : S56 => (x.f0, x.f1, x.f2))
theorem k56_heap : Kd.Heap k56 := Kd.heap_iso _ (Kd.heap_pair Kd.heap_string (Kd.heap_pair (Kd.heap_int .i64) (Kd.heap_int .i64)))
theorem k56_open {w : World} {x : S56} {cs : List Value} (h : k56.K w x cs) : cs = [.string x.f0, .int .i64 x.f1, .int .i64 x.f2] := by
 obtain ⟨_, _, rfl, rfl, ⟨_, _, rfl, rfl, rfl⟩⟩ := h
 exact rfl
theorem k56_mk (w : World) (x : S56)  : k56.K w x [.string x.f0, .int .i64 x.f1, .int .i64 x.f2] := ⟨[.string x.f0], [.int .i64 x.f1, .int .i64 x.f2], rfl, rfl, ⟨[.int .i64 x.f1], [.int .i64 x.f2], rfl, rfl, rfl⟩⟩
def rd_T56 (xs : List S56) (i : Int) : S56 := xs.getD i.toNat z56
theorem at_T56 {w : World} {A : Option Addr} {n : Nat} {xs : List S56} (h : Kd.C k56 w A n xs) (i : Int) (h0 : 0 ≤ i) (h1 : i < n) : ∃ ad , A = some ad ∧ w.cell? (ad.add (i.toNat * 3)) = some (.string (rd_T56 xs i).f0) ∧ w.cell? ⟨(ad.add (i.toNat * 3)).block, (ad.add (i.toNat * 3)).off + 1, none⟩ = some (.int .i64 (rd_T56 xs i).f1) ∧ w.cell? ⟨(ad.add (i.toNat * 3)).block, (ad.add (i.toNat * 3)).off + 2, none⟩ = some (.int .i64 (rd_T56 xs i).f2) := by
 obtain ⟨ad, c, e, _, hK, hc0⟩ := Kd.C_get h z56 i h0 h1
 have hc : ∀ j u, c[j]? = some u → w.cell? (ad.add (i.toNat * 3 + j)) = some u := hc0
 obtain rfl := k56_open hK
 exact ⟨ad, e, hc 0 _ rfl, by rw [← add_field _ _ 1 (by omega)]; exact hc 1 _ rfl, by rw [← add_field _ _ 2 (by omega)]; exact hc 2 _ rfl⟩

structure S63 where
 f0 : Int
 f1 : Int
 f2 : Int
def z63 : S63 := ⟨(0 : Int), (0 : Int), (0 : Int)⟩
def k63 : Kd S63 := Kd.iso (Kd.pair (Kd.int .i64) (Kd.pair (Kd.int .i64) (Kd.int .i64))) (fun x : S63 => (x.f0, x.f1, x.f2))
theorem k63_open {w : World} {x : S63} {cs : List Value} (h : k63.K w x cs) : cs = [.int .i64 x.f0, .int .i64 x.f1, .int .i64 x.f2] := by
 obtain ⟨_, _, rfl, rfl, ⟨_, _, rfl, rfl, rfl⟩⟩ := h
 exact rfl
theorem k63_mk (w : World) (x : S63)  : k63.K w x [.int .i64 x.f0, .int .i64 x.f1, .int .i64 x.f2] := ⟨[.int .i64 x.f0], [.int .i64 x.f1, .int .i64 x.f2], rfl, rfl, ⟨[.int .i64 x.f1], [.int .i64 x.f2], rfl, rfl, rfl⟩⟩
def rd_T63 (xs : List S63) (i : Int) : S63 := xs.getD i.toNat z63
theorem at_T63 {w : World} {A : Option Addr} {n : Nat} {xs : List S63} (h : Kd.C k63 w A n xs) (i : Int) (h0 : 0 ≤ i) (h1 : i < n) : ∃ ad , A = some ad ∧ w.cell? (ad.add (i.toNat * 3)) = some (.int .i64 (rd_T63 xs i).f0) ∧ w.cell? ⟨(ad.add (i.toNat * 3)).block, (ad.add (i.toNat * 3)).off + 1, none⟩ = some (.int .i64 (rd_T63 xs i).f1) ∧ w.cell? ⟨(ad.add (i.toNat * 3)).block, (ad.add (i.toNat * 3)).off + 2, none⟩ = some (.int .i64 (rd_T63 xs i).f2) := by
 obtain ⟨ad, c, e, _, hK, hc0⟩ := Kd.C_get h z63 i h0 h1
 have hc : ∀ j u, c[j]? = some u → w.cell? (ad.add (i.toNat * 3 + j)) = some u := hc0
 obtain rfl := k63_open hK
 exact ⟨ad, e, hc 0 _ rfl, by rw [← add_field _ _ 1 (by omega)]; exact hc 1 _ rfl, by rw [← add_field _ _ 2 (by omega)]; exact hc 2 _ rfl⟩

end Go.Proofs.YtalhpnfapagamaaDoor.S
end
section
namespace Go.Proofs.YtalhpnfapagamaaDoor.S
open Go.RowKit Go.Proofs.YtalhpnfapagamaaDoorW.PrintWords Go.Proofs.YtalhpnfapagamaaDoorW.PrintLast Go.Proofs.YtalhpnfapagamaaDoorW.PrintMore
set_option linter.unusedVariables false
set_option linter.unusedSimpArgs false

def idxF {α : Type} (q : α → Bool) (l : List α) : Int := match l.findIdx? q with
 | some i => (i : Int)
 | none => -1
theorem wrap_i (i : Nat) (h : i ≤ 100000) : wrap64 ((i : Int) + 1) = ((i + 1 : Nat) : Int) := by unfold wrap64; omega
theorem idxF_none {α : Type} (q : α → Bool) (d : α) (l : List α) (h : ∀ i, i < l.length → q (l.getD i d) = false) : idxF q l = -1 := by
 unfold idxF
 rw [List.findIdx?_eq_none_iff.2 (fun x hx => by
  obtain ⟨i, hi, rfl⟩ := List.getElem_of_mem hx
  have := h i hi
  rwa [List.getD_eq_getElem?_getD, List.getElem?_eq_getElem hi] at this)]
theorem idxF_some {α : Type} (q : α → Bool) (d : α) (l : List α) (n : Nat) (hn : n < l.length) (h : ∀ i, i < n → q (l.getD i d) = false) (hq : q (l.getD n d) = true) : idxF q l = (n : Int) := by
 unfold idxF
 have e : ∀ i, ∀ hi : i < l.length, l.getD i d = l[i] := fun i hi => by rw [List.getD_eq_getElem?_getD, List.getElem?_eq_getElem hi]; rfl
 rw [List.findIdx?_eq_some_iff_getElem.2 ⟨hn, by rw [← e n hn]; exact hq, fun j hj => by rw [← e j (by omega), h j hj]; simp⟩]
theorem idxF_any {α : Type} (q : α → Bool) (l : List α) : decide (0 ≤ idxF q l) = l.any q := by
 unfold idxF
 cases h : l.findIdx? q with
 | none =>
  have := List.findIdx?_eq_none_iff.1 h
  rw [show l.any q = false by rw [List.any_eq_false]; intro x hx; simp [this x hx]]
  rfl
 | some i =>
  obtain ⟨hi, hq, _⟩ := List.findIdx?_eq_some_iff_getElem.1 h
  rw [List.any_eq_true.2 ⟨l[i], List.getElem_mem hi, hq⟩]
  exact decide_eq_true (Int.natCast_nonneg i)
set_option maxHeartbeats 2000000 in
set_option maxRecDepth 100000 in
theorem sided_lit.calls (x : S51) (g : Nat) (side : Int) (W : World) (hg : g < W.heap.size) (hc_0 : W.cell? ⟨g, 0, none⟩ = some (.int .i64 side)) (r : Bool) (hr : (x.f1 == side) = r) :
  Calls Tryd.prog 41 #[.agg #[.string x.f0, .int .i64 x.f1, .int .i64 x.f2], .pointer (some ⟨g, 0, none⟩)] W fun e w' => e = .returned (.bool r) ∧ Below W.heap.size W w' := by
 have hu := Tryd.underlying51
 subst hr
 go_enter Tryd.func41, Tryd.ntmps41
 go_wp2
 go_ret
 exact ⟨rfl, (Below.refl _ _).alloc (Nat.le_refl _) _⟩
theorem sided_lit.eg : ∀ args w, (callFunc 41 args).run Tryd.prog w = .ok (.enter 41 args) w := enters_of Tryd.func41 (by kernel_rfl) rfl
set_option maxHeartbeats 4000000 in
set_option maxRecDepth 100000 in
theorem sided_idx.calls (A0 : Option Addr) (c0 : Nat) (l0 : List S51) (g : Nat) (side : Int) (r : Int) (w : World) (hr0 : Kd.C k51 w A0 l0.length l0) (hc0 : l0.length ≤ c0) (hlen : l0.length ≤ 100000) (hg : g < w.heap.size) (hc_0 : w.cell? ⟨g, 0, none⟩ = some (.int .i64 side)) (h : idxF (fun x : S51 => x.f1 == side) l0 = r) :
  Calls Tryd.prog 45 #[.slice A0 l0.length c0, .func (.func 41) #[] #[.pointer (some ⟨g, 0, none⟩)]] w fun e w' => e = .returned (.int .i64 r) ∧ Below w.heap.size w w' := by
 have hu := Tryd.underlying51
 have eg := sided_lit.eg
 have HR0 := Aside0.mk hr0
 have HG := Aside0.mk hg
 have HC_0 := Aside0.mk hc_0
 have HB := Aside0.mk (Below.refl w.heap.size w)
 have HL := Aside0.mk hlen
 have HC0 := Aside0.mk hc0
 have H := Aside0.mk h
 clear hr0 hc0 hg hc_0 hlen h
 go_enter Tryd.func45, Tryd.ntmps45
 go_wp2
 go_loopg [8] l0.length (fun kq v8 w' => ∃ i : Nat, v8 = .int .i64 (i : Int) ∧ Aside0 (i + kq = l0.length) ∧ Aside0 (∀ j, j < i → (fun x : S51 => x.f1 == side) (l0.getD j z51) = false) ∧ Aside0 (Below w.heap.size w w'))
 case atStart => exact ⟨0, rfl, ⟨by omega⟩, ⟨fun _ h => absurd h (by omega)⟩, HB⟩
 case round =>
  clear HB
  obtain ⟨i, rfl, HI, HN, HB⟩ := hrel
  cases gk with
  | zero =>
   have hi : i = l0.length := by have := HI.out; omega
   have c1 : decide ((i : Int) < (l0.length : Int)) = false := decide_eq_false (by omega)
   have c2 : decide (i < l0.length) = false := decide_eq_false (by omega)
   obtain rfl : r = -1 := H.out.symm.trans (idxF_none _ z51 _ (fun j hj => HN.out j (by omega)))
   clear hi
   go_wp2
   go_ret
   exact ⟨rfl, HB.out⟩
  | succ k1 =>
   have hi : i < l0.length := by have := HI.out; omega
   have c1 : decide ((i : Int) < (l0.length : Int)) = true := decide_eq_true (by omega)
   have c2 : decide (i < l0.length) = true := decide_eq_true hi
   have c3 : ((i : Int) < (l0.length : Int)) = True := eq_true (by omega)
   have c4 : (0 ≤ (i : Int)) = True := eq_true (by omega)
   obtain ⟨ad, e1, hx0, hx1, hx2⟩ := at_T51 HR0.out (i : Int) (by omega) (by omega)
   cases e1
   rw [Int.toNat_natCast] at hx0 hx1 hx2
   replace hx0 := (HB.out.cell (World.block_lt_of_cell? w _ hx0)).trans hx0
   replace hx1 := (HB.out.cell (World.block_lt_of_cell? w _ hx1)).trans hx1
   replace hx2 := (HB.out.cell (World.block_lt_of_cell? w _ hx2)).trans hx2
   have HX : Aside0 (rd_T51 l0 (i : Int) = l0.getD i z51) := ⟨by unfold rd_T51; rw [Int.toNat_natCast]⟩
   have HGW := Aside0.mk (Nat.lt_of_lt_of_le HG.out HB.out.size)
   have HCW_0 := Aside0.mk ((HB.out.cell (p := ⟨g, 0, none⟩) HG.out).trans HC_0.out)
   have HW := Aside0.mk (wrap_i i (by have := HL.out; omega))
   have HII := Aside0.mk hi
   clear hi
   generalize hX : rd_T51 l0 (i : Int) = X at hx0 hx1 hx2 HX
   clear hX
   cases hq : (fun x : S51 => x.f1 == side) X with
   | true =>
    obtain rfl : r = (i : Int) := H.out.symm.trans (idxF_some _ z51 _ i HII.out HN.out (by rw [← HX.out]; exact hq))
    have HQ := Aside0.mk hq
    clear hq
    go_wp2_with (go_at_fn 41; refine (sided_lit.calls X g side _ HGW.out HCW_0.out true HQ.out).mono ?_; rintro e w1 ⟨rfl, hb⟩; have HB2 := Aside0.mk (HB.out.trans (hb.mono HB.out.size)); clear hb)
    go_ret
    exact ⟨rfl, HB2.out⟩
   | false =>
    have HQ := Aside0.mk hq
    clear hq
    go_wp2_with (go_at_fn 41; refine (sided_lit.calls X g side _ HGW.out HCW_0.out false HQ.out).mono ?_; rintro e w1 ⟨rfl, hb⟩; have HB2 := Aside0.mk (HB.out.trans (hb.mono HB.out.size)); clear hb)
    go_roundg k1
    case measure => omega
    case rel => exact ⟨i + 1, congrArg (Value.int .i64) HW.out, ⟨by have := HI.out; omega⟩, ⟨fun j hj => by
     by_cases hji : j < i
     ·
      exact HN.out j hji
     ·
      obtain rfl : j = i := by omega
      rw [← HX.out]; exact HQ.out⟩, HB2⟩
set_option maxHeartbeats 2000000 in
set_option maxRecDepth 100000 in
theorem sided_has.calls (A0 : Option Addr) (c0 : Nat) (l0 : List S51) (g : Nat) (side : Int) (r : Bool) (w : World) (hr0 : Kd.C k51 w A0 l0.length l0) (hc0 : l0.length ≤ c0) (hlen : l0.length ≤ 100000) (hg : g < w.heap.size) (hc_0 : w.cell? ⟨g, 0, none⟩ = some (.int .i64 side)) (h : l0.any (fun x : S51 => x.f1 == side) = r) :
  Calls Tryd.prog 34 #[.slice A0 l0.length c0, .func (.func 41) #[] #[.pointer (some ⟨g, 0, none⟩)]] w fun e w' => e = .returned (.bool r) ∧ Below w.heap.size w w' := by
 obtain ⟨n, hn⟩ : ∃ n, idxF (fun x : S51 => x.f1 == side) l0 = n := ⟨_, rfl⟩
 have hr : decide (0 ≤ n) = r := by rw [← hn, idxF_any]; exact h
 have HN := Aside0.mk hn
 have HG := Aside0.mk hg
 have HC_0 := Aside0.mk hc_0
 have HR0 := Aside0.mk hr0
 have HC0 := Aside0.mk hc0
 have HL := Aside0.mk hlen
 clear hn hg hc_0 hr0 hc0 hlen h
 go_enter Tryd.func34, Tryd.ntmps34
 go_wp2_with (go_at_call 45; refine (sided_idx.calls A0 c0 l0 g side n _ HR0.out HC0.out HL.out HG.out HC_0.out HN.out).mono ?_; rintro e w1 ⟨rfl, hb⟩; have HB := Aside0.mk hb; clear hb)
 go_ret
 exact ⟨rfl, HB.out⟩
def steps_Plan_sided.f (a0_0 : List S49) (a0_1 : List S51) (a0_2 : Int) (a0_3 : Int) (a1 : Int) : Option Bool := if a0_1.length ≤ 100000 then some (a0_1.any (fun x : S51 => x.f1 == a1)) else none
set_option maxHeartbeats 2000000 in
set_option maxRecDepth 100000 in
theorem steps_Plan_sided.calls (A0_0 : Option Addr) (c0_0 : Nat) (l0_0 : List S49) (A0_1 : Option Addr) (c0_1 : Nat) (l0_1 : List S51) (a0_2 : Int) (a0_3 : Int) (a1 : Int) (r : Bool) (w : World) (hr0_0 : Kd.C k49 w A0_0 l0_0.length l0_0) (hc0_0 : l0_0.length ≤ c0_0) (hr0_1 : Kd.C k51 w A0_1 l0_1.length l0_1) (hc0_1 : l0_1.length ≤ c0_1) (h : steps_Plan_sided.f l0_0 l0_1 a0_2 a0_3 a1 = some r) :
  Calls Tryd.prog 29 #[.agg #[.slice A0_0 l0_0.length c0_0, .slice A0_1 l0_1.length c0_1, .int .i64 a0_2, .int .i64 a0_3], .int .i64 a1] w fun e w' => e = .returned (.bool r) ∧ Below w.heap.size w w' := by
 unfold steps_Plan_sided.f at h
 by_cases hlen : l0_1.length ≤ 100000
 ·
  rw [if_pos hlen] at h
  have H := Aside0.mk (Option.some.inj h)
  have hu59 := Tryd.underlying35
  have hmf : ∀ (fn : Fn) (first cap : Array Value) (w : World), (Instr.makeFunc fn first cap).run Tryd.prog w = .ok (.func fn first cap) w := fun _ _ _ _ => rfl
  have HR1 := Aside0.mk hr0_1
  have HC1 := Aside0.mk hc0_1
  have HL := Aside0.mk hlen
  clear hr0_0 hc0_0 hr0_1 hc0_1 hlen h
  go_enter Tryd.func29, Tryd.ntmps29
  go_wp2_with (go_at_call 34; refine (sided_has.calls A0_1 c0_1 l0_1 (w.heap.size + 1) a1 r _ (Kd.C_alloc (Kd.C_alloc HR1.out _) _) HC1.out HL.out (by simp) (by simp [go_sem]) H.out).mono ?_; rintro e w1 ⟨rfl, hb⟩; have HB := Aside0.mk (((((Below.refl w.heap.size w).alloc (Nat.le_refl _) _).alloc (by simp) _)).trans (hb.mono (by simp; omega))); clear hb)
  go_ret
  exact ⟨rfl, HB.out⟩
 ·
  rw [if_neg hlen] at h
  exact absurd h (by simp)

end Go.Proofs.YtalhpnfapagamaaDoor.S
end
section
namespace Go.Proofs.YtalhpnfapagamaaDoor.S
open Go.RowKit Go.Proofs.YtalhpnfapagamaaDoorW.PrintWords Go.Proofs.YtalhpnfapagamaaDoorW.PrintLast Go.Proofs.YtalhpnfapagamaaDoorW.PrintMore
set_option linter.unusedVariables false
set_option linter.unusedSimpArgs false

def steps_in.f (a0 : Int) (a1 : Int) (a2 : Int) : Option (Bool) := if a0 ≥ a1 then (some (decide (a0 ≤ a2))) else (some false)
set_option maxHeartbeats 8000000 in
set_option maxRecDepth 100000 in
theorem steps_in.calls (a0 : Int) (a1 : Int) (a2 : Int) (r : Bool) (w : World) (h : steps_in.f a0 a1 a2 = some r) :
  Calls Tryd.prog 30 #[.int .i64 a0, .int .i64 a1, .int .i64 a2] w fun e w' => e = .returned (.bool r) ∧ Drawn0 w w' := by
 have H : (if a0 ≥ a1 then (some (decide (a0 ≤ a2))) else (some false)) = some r := h
 clear h
 by_cases c4 : a0 ≥ a1
 ·
  rw [if_pos c4] at H
  have c4b0 : decide (a1 ≤ a0) = true := decide_eq_true c4
  clear c4
  obtain rfl := Option.some.inj H
  go_enter Tryd.func30, Tryd.ntmps30
  go_wp2
  go_ret
  exact ⟨by first | rfl | (simp; done) | (simp [*]; done), by repeat (first | exact Drawn0.refl _ | apply Drawn0.step)⟩
 ·
  rw [if_neg c4] at H
  have c4b0 : decide (a1 ≤ a0) = false := decide_eq_false c4
  clear c4
  obtain rfl := Option.some.inj H
  go_enter Tryd.func30, Tryd.ntmps30
  go_wp2
  go_ret
  exact ⟨by first | rfl | (simp; done) | (simp [*]; done), by repeat (first | exact Drawn0.refl _ | apply Drawn0.step)⟩

end Go.Proofs.YtalhpnfapagamaaDoor.S
end
section
namespace Go.Proofs.YtalhpnfapagamaaDoor.S
open Go.RowKit Go.Proofs.YtalhpnfapagamaaDoorW.PrintWords Go.Proofs.YtalhpnfapagamaaDoorW.PrintLast Go.Proofs.YtalhpnfapagamaaDoorW.PrintMore
set_option linter.unusedVariables false
set_option linter.unusedSimpArgs false

def lexer_letter.f (a0 : Int) : Option (Bool) := if a0 ≥ 97 then (if a0 ≤ 122 then (some true) else (if a0 ≥ 65 then (some (decide (a0 ≤ 90))) else (some false))) else (if a0 ≥ 65 then (some (decide (a0 ≤ 90))) else (some false))
set_option maxHeartbeats 8000000 in
set_option maxRecDepth 100000 in
theorem lexer_letter.calls (a0 : Int) (r : Bool) (w : World) (h : lexer_letter.f a0 = some r) :
  Calls Tryd.prog 49 #[.int .u8 a0] w fun e w' => e = .returned (.bool r) ∧ Drawn0 w w' := by
 have H : (if a0 ≥ 97 then (if a0 ≤ 122 then (some true) else (if a0 ≥ 65 then (some (decide (a0 ≤ 90))) else (some false))) else (if a0 ≥ 65 then (some (decide (a0 ≤ 90))) else (some false))) = some r := h
 clear h
 by_cases c2 : a0 ≥ 97
 ·
  rw [if_pos c2] at H
  have c2b0 : decide (97 ≤ a0) = true := decide_eq_true c2
  clear c2
  by_cases c3 : a0 ≤ 122
  ·
   rw [if_pos c3] at H
   have c3b0 : decide (a0 ≤ 122) = true := decide_eq_true c3
   clear c3
   obtain rfl := Option.some.inj H
   go_enter Tryd.func49, Tryd.ntmps49
   go_wp2
   go_ret
   exact ⟨by first | rfl | (simp; done) | (simp [*]; done), by repeat (first | exact Drawn0.refl _ | apply Drawn0.step)⟩
  ·
   rw [if_neg c3] at H
   have c3b0 : decide (a0 ≤ 122) = false := decide_eq_false c3
   clear c3
   by_cases c4 : a0 ≥ 65
   ·
    rw [if_pos c4] at H
    have c4b0 : decide (65 ≤ a0) = true := decide_eq_true c4
    clear c4
    obtain rfl := Option.some.inj H
    go_enter Tryd.func49, Tryd.ntmps49
    go_wp2
    go_ret
    exact ⟨by first | rfl | (simp; done) | (simp [*]; done), by repeat (first | exact Drawn0.refl _ | apply Drawn0.step)⟩
   ·
    rw [if_neg c4] at H
    have c4b0 : decide (65 ≤ a0) = false := decide_eq_false c4
    clear c4
    obtain rfl := Option.some.inj H
    go_enter Tryd.func49, Tryd.ntmps49
    go_wp2
    go_ret
    exact ⟨by first | rfl | (simp; done) | (simp [*]; done), by repeat (first | exact Drawn0.refl _ | apply Drawn0.step)⟩
 ·
  rw [if_neg c2] at H
  have c2b0 : decide (97 ≤ a0) = false := decide_eq_false c2
  clear c2
  by_cases c5 : a0 ≥ 65
  ·
   rw [if_pos c5] at H
   have c5b0 : decide (65 ≤ a0) = true := decide_eq_true c5
   clear c5
   obtain rfl := Option.some.inj H
   go_enter Tryd.func49, Tryd.ntmps49
   go_wp2
   go_ret
   exact ⟨by first | rfl | (simp; done) | (simp [*]; done), by repeat (first | exact Drawn0.refl _ | apply Drawn0.step)⟩
  ·
   rw [if_neg c5] at H
   have c5b0 : decide (65 ≤ a0) = false := decide_eq_false c5
   clear c5
   obtain rfl := Option.some.inj H
   go_enter Tryd.func49, Tryd.ntmps49
   go_wp2
   go_ret
   exact ⟨by first | rfl | (simp; done) | (simp [*]; done), by repeat (first | exact Drawn0.refl _ | apply Drawn0.step)⟩

end Go.Proofs.YtalhpnfapagamaaDoor.S
end
section
namespace Go.Proofs.YtalhpnfapagamaaDoor.S
open Go.RowKit Go.Proofs.YtalhpnfapagamaaDoorW.PrintWords Go.Proofs.YtalhpnfapagamaaDoorW.PrintLast Go.Proofs.YtalhpnfapagamaaDoorW.PrintMore
set_option linter.unusedVariables false
set_option linter.unusedSimpArgs false

def lexer_digit.f (a0 : Int) : Option (Bool) := if a0 ≥ 48 then (some (decide (a0 ≤ 57))) else (some false)
set_option maxHeartbeats 8000000 in
set_option maxRecDepth 100000 in
theorem lexer_digit.calls (a0 : Int) (r : Bool) (w : World) (h : lexer_digit.f a0 = some r) :
  Calls Tryd.prog 52 #[.int .u8 a0] w fun e w' => e = .returned (.bool r) ∧ Drawn0 w w' := by
 have H : (if a0 ≥ 48 then (some (decide (a0 ≤ 57))) else (some false)) = some r := h
 clear h
 by_cases c2 : a0 ≥ 48
 ·
  rw [if_pos c2] at H
  have c2b0 : decide (48 ≤ a0) = true := decide_eq_true c2
  clear c2
  obtain rfl := Option.some.inj H
  go_enter Tryd.func52, Tryd.ntmps52
  go_wp2
  go_ret
  exact ⟨by first | rfl | (simp; done) | (simp [*]; done), by repeat (first | exact Drawn0.refl _ | apply Drawn0.step)⟩
 ·
  rw [if_neg c2] at H
  have c2b0 : decide (48 ≤ a0) = false := decide_eq_false c2
  clear c2
  obtain rfl := Option.some.inj H
  go_enter Tryd.func52, Tryd.ntmps52
  go_wp2
  go_ret
  exact ⟨by first | rfl | (simp; done) | (simp [*]; done), by repeat (first | exact Drawn0.refl _ | apply Drawn0.step)⟩
def lexer_wordc.f (a0 : Int) : Option (Bool) := (lexer_letter.f a0).bind fun t => if t = true then some true else ((lexer_digit.f a0).bind fun t => if t = true then some true else (if a0 = 45 then some true else some (a0 == 95)))
set_option maxHeartbeats 8000000 in
theorem lexer_wordc.calls (a0 : Int) (r : Bool) (w : World) (h : lexer_wordc.f a0 = some r) :
  Calls Tryd.prog 51 #[.int .u8 a0] w fun e w' => e = .returned (.bool r) ∧ Drawn0 w w' := by
 unfold lexer_wordc.f at h
 obtain ⟨t1, A1, h⟩ := Option.bind_eq_some_iff.mp h
 cases t1 with
 | true =>
  rw [if_pos rfl] at h
  obtain rfl := Option.some.inj h
  have A1' := Aside0.mk A1
  clear A1 h
  go_enter Tryd.func51, Tryd.ntmps51
  go_wp2_with (go_at_call 49; refine (lexer_letter.calls a0 true _ A1'.out).mono ?_; rintro e w' ⟨rfl, ⟨nd, rfl⟩⟩)
  go_ret
  exact ⟨rfl, by repeat (first | exact Drawn0.refl _ | apply Drawn0.step)⟩
 | false =>
  rw [if_neg (by decide)] at h
  obtain ⟨t2, A2, h⟩ := Option.bind_eq_some_iff.mp h
  have A1' := Aside0.mk A1
  have A2' := Aside0.mk A2
  clear A1 A2
  cases t2 with
  | true =>
   rw [if_pos rfl] at h
   obtain rfl := Option.some.inj h
   clear h
   go_enter Tryd.func51, Tryd.ntmps51
   go_wp2_with (first | (go_at_call 49; refine (lexer_letter.calls a0 false _ A1'.out).mono ?_; rintro e w' ⟨rfl, ⟨nd, rfl⟩⟩) | (go_at_call 52; refine (lexer_digit.calls a0 true _ A2'.out).mono ?_; rintro e w' ⟨rfl, ⟨nd2, rfl⟩⟩))
   go_ret
   exact ⟨rfl, by repeat (first | exact Drawn0.refl _ | apply Drawn0.step)⟩
  | false =>
   rw [if_neg (by decide)] at h
   by_cases c : a0 = 45
   ·
    rw [if_pos c] at h
    obtain rfl := Option.some.inj h
    clear h
    have cb : (a0 == 45) = true := beq_iff_eq.mpr c
    clear c
    go_enter Tryd.func51, Tryd.ntmps51
    go_wp2_with (first | (go_at_call 49; refine (lexer_letter.calls a0 false _ A1'.out).mono ?_; rintro e w' ⟨rfl, ⟨nd, rfl⟩⟩) | (go_at_call 52; refine (lexer_digit.calls a0 false _ A2'.out).mono ?_; rintro e w' ⟨rfl, ⟨nd2, rfl⟩⟩))
    go_ret
    exact ⟨rfl, by repeat (first | exact Drawn0.refl _ | apply Drawn0.step)⟩
   ·
    rw [if_neg c] at h
    obtain rfl := Option.some.inj h
    clear h
    have cb : (a0 == 45) = false := beq_eq_false_iff_ne.mpr c
    clear c
    go_enter Tryd.func51, Tryd.ntmps51
    go_wp2_with (first | (go_at_call 49; refine (lexer_letter.calls a0 false _ A1'.out).mono ?_; rintro e w' ⟨rfl, ⟨nd, rfl⟩⟩) | (go_at_call 52; refine (lexer_digit.calls a0 false _ A2'.out).mono ?_; rintro e w' ⟨rfl, ⟨nd2, rfl⟩⟩))
    go_ret
    exact ⟨rfl, by repeat (first | exact Drawn0.refl _ | apply Drawn0.step)⟩
theorem lexer_run_word.eg : ∀ args w, (callFunc 51 args).run Tryd.prog w = .ok (.enter 51 args) w := enters_of Tryd.func51 (by kernel_rfl) rfl
def lexer_run_word.l0 : Nat → ByteArray → Int → Option Int
 | 0, _, _ => none
 | k + 1, s, n => if n < (s.size : Int) then (if 0 ≤ n then ((lexer_wordc.f (bt s n)).bind fun t => (if t = true then lexer_run_word.l0 k s (wrap64 (n + 1)) else some n)) else none) else some n
def lexer_run_word.f (k : Nat) (a0 : ByteArray) : Option Int := lexer_run_word.l0 k a0 0
theorem lexer_run_word.mono_l : ∀ k, (∀ y0 y1, LeO (lexer_run_word.l0 k y0 y1) (lexer_run_word.l0 (k + 1) y0 y1))
 | 0 => fun _ _ r h => by simp [lexer_run_word.l0] at h
 | k + 1 => by
  have ih0 := lexer_run_word.mono_l k
  ·
   intro y0 y1
   unfold lexer_run_word.l0
   repeat' first
   | (with_reducible exact ih0 _ _)
   | (with_reducible exact LeO.refl _)
   | (with_reducible exact LeO.none _)
   | (with_reducible refine LeO.ite ?_ ?_)
   | (with_reducible refine LeO.bind ?_ (fun _ => ?_))
theorem lexer_run_word.mono : ∀ a0 k, LeO (lexer_run_word.f k a0) (lexer_run_word.f (k + 1) a0) := fun a0 k => lexer_run_word.mono_l k a0 0
set_option maxHeartbeats 8000000 in
set_option maxRecDepth 100000 in
theorem lexer_run_word.calls (k : Nat) (a0 : ByteArray) (r : Int) (w : World) (h : lexer_run_word.f k a0 = some r) :
  Calls Tryd.prog 50 #[.string a0, .func (.func 51) #[] #[]] w fun e w' => e = .returned (.int .i64 r) ∧ Drawn0 w w' := by
 have H : (lexer_run_word.l0 k a0 0) = some r := h
 clear h
 have H' := Aside0.mk H
 clear H
 have eg := lexer_run_word.eg
 go_enter Tryd.func50, Tryd.ntmps50
 go_wp2
 go_loopg [5] k (fun kq v3 w' => ∃ (x3_1 : Int), v3 = .int .i64 x3_1 ∧ Aside0 (lexer_run_word.l0 kq a0 x3_1 = some r) ∧ Aside0 (kq ≤ k) ∧ Drawn0 w w')
 case atStart => exact ⟨(0), (by first | rfl | (simp; done) | (simp [*]; done)), H', ⟨Nat.le_refl _⟩, by repeat (first | exact Drawn0.refl _ | apply Drawn0.step)⟩
 case round =>
  clear H'
  obtain ⟨x3_1, rfl, HA, HK1, ⟨m1, rfl⟩⟩ := hrel
  cases gk with
  | zero => exact absurd HA.out (by simp [lexer_run_word.l0])
  | succ k1 =>
   have H := HA.out
   clear HA
   simp only [lexer_run_word.l0] at H
   by_cases c2 : x3_1 < (a0.size : Int)
   ·
    rw [if_pos c2] at H
    have c2b0 : decide (x3_1 < (a0.size : Int)) = true := decide_eq_true c2
    by_cases c3 : 0 ≤ x3_1
    ·
     rw [if_pos c3] at H
     have c3b0 : decide (0 ≤ x3_1) = true := decide_eq_true c3
     replace H := Option.bind_eq_some_iff.mp H
     obtain ⟨t144, A50, H⟩ := H
     have A5 := Aside0.mk A50
     clear A50
     have hx4 := bt_at a0 x3_1
     replace c2 := eq_true c2
     replace c3 := eq_true c3
     by_cases c6 : t144 = true
     ·
      subst c6
      rw [if_pos rfl] at H
      have H' := Aside0.mk H
      clear H
      go_wp2_with (go_at_fn 51; refine (lexer_wordc.calls (bt a0 x3_1) true _ A5.out).mono ?_; rintro e w' ⟨rfl, ⟨nd, rfl⟩⟩)
      go_roundg k1
      case measure => have := HK1.out; omega
      case rel => exact ⟨(wrap64 (x3_1 + 1)), (by first | rfl | (simp; done) | (simp [*]; done)), H', ⟨by have := HK1.out; omega⟩, by repeat (first | exact Drawn0.refl _ | apply Drawn0.step)⟩
     ·
      replace c6 := Bool.eq_false_iff.mpr c6
      subst c6
      rw [if_neg (show ¬ (false = true) by decide)] at H
      obtain rfl := Option.some.inj H
      go_wp2_with (go_at_fn 51; refine (lexer_wordc.calls (bt a0 x3_1) false _ A5.out).mono ?_; rintro e w' ⟨rfl, ⟨nd, rfl⟩⟩)
      go_ret
      exact ⟨by first | rfl | (simp; done) | (simp [*]; done), by repeat (first | exact Drawn0.refl _ | apply Drawn0.step)⟩
    ·
     rw [if_neg c3] at H
     exact absurd H (by simp)
   ·
    rw [if_neg c2] at H
    have c2b0 : decide (x3_1 < (a0.size : Int)) = false := decide_eq_false c2
    obtain rfl := Option.some.inj H
    go_wp2
    go_ret
    exact ⟨by first | rfl | (simp; done) | (simp [*]; done), by repeat (first | exact Drawn0.refl _ | apply Drawn0.step)⟩

end Go.Proofs.YtalhpnfapagamaaDoor.S
end
section
namespace Go.Proofs.YtalhpnfapagamaaDoor.S
open Go.RowKit Go.Proofs.YtalhpnfapagamaaDoorW.PrintWords Go.Proofs.YtalhpnfapagamaaDoorW.PrintLast Go.Proofs.YtalhpnfapagamaaDoorW.PrintMore
set_option linter.unusedVariables false
set_option linter.unusedSimpArgs false

def lexer_word.f (k : Nat) (a0 : ByteArray) : Option (Int) := if a0.toList = ([] : List UInt8) then (some 0) else (if 0 < (a0.size : Int) then ((lexer_letter.f (bt a0 0)).bind fun t101 => (if t101 = true then ((lexer_run_word.f k a0).bind fun t102 => (some t102)) else (some 0))) else (none))
theorem lexer_word.mono : ∀ a0 k, LeO (lexer_word.f k a0) (lexer_word.f (k + 1) a0) := by
 intro a0 k
 unfold lexer_word.f
 repeat' first
   | (with_reducible exact lexer_run_word.mono _ _)
   | (with_reducible exact LeO.refl _)
   | (with_reducible exact LeO.none _)
   | (with_reducible refine LeO.ite ?_ ?_)
   | (with_reducible refine LeO.bind ?_ (fun _ => ?_))
   | exact lexer_run_word.mono _ _
   | exact LeO.none _
   | refine LeO.ite ?_ ?_
   | refine LeO.bind ?_ (fun _ => ?_)
set_option maxHeartbeats 8000000 in
set_option maxRecDepth 100000 in
theorem lexer_word.calls (k : Nat) (a0 : ByteArray) (r : Int) (w : World) (h : lexer_word.f k a0 = some r) :
  Calls Tryd.prog 43 #[.string a0] w fun e w' => e = .returned (.int .i64 r) ∧ Drawn0 w w' := by
 have H : (if a0.toList = ([] : List UInt8) then (some 0) else (if 0 < (a0.size : Int) then ((lexer_letter.f (bt a0 0)).bind fun t101 => (if t101 = true then ((lexer_run_word.f k a0).bind fun t102 => (some t102)) else (some 0))) else (none))) = some r := h
 clear h
 by_cases c2 : a0.toList = ([] : List UInt8)
 ·
  rw [if_pos c2] at H
  have c2b0 : (a0.toList == ([] : List UInt8)) = true := beq_iff_eq.mpr c2
  have c2b1 : (a0.toList != ([] : List UInt8)) = false := bne_eq_false_iff_eq.mpr c2
  clear c2
  obtain rfl := Option.some.inj H
  go_enter Tryd.func43, Tryd.ntmps43
  go_wp2
  go_ret
  exact ⟨by first | rfl | (simp; done) | (simp [*]; done), by repeat (first | exact Drawn0.refl _ | apply Drawn0.step)⟩
 ·
  rw [if_neg c2] at H
  have c2b0 : (a0.toList == ([] : List UInt8)) = false := beq_eq_false_iff_ne.mpr c2
  have c2b1 : (a0.toList != ([] : List UInt8)) = true := bne_iff_ne.mpr c2
  by_cases c3 : 0 < (a0.size : Int)
  ·
   rw [if_pos c3] at H
   have c3b0 : decide (0 < (a0.size : Int)) = true := decide_eq_true c3
   have c3b1 : decide (0 < a0.size) = true := decide_eq_true (by omega)
   clear c3
   replace H := Option.bind_eq_some_iff.mp H
   obtain ⟨t101, A50, H⟩ := H
   replace H : (if t101 = true then ((lexer_run_word.f k a0).bind fun t102 => (some t102)) else (some 0)) = some r := H
   have A5 := Aside0.mk A50
   clear A50
   by_cases c6 : t101 = true
   ·
    subst c6
    have H1 : ((lexer_run_word.f k a0).bind fun t102 => (some t102)) = some r := by rw [if_pos rfl] at H; exact H
    clear H
    have H := H1
    clear H1
    replace H := Option.bind_eq_some_iff.mp H
    obtain ⟨t102, A70, H⟩ := H
    replace H : (some t102) = some r := H
    have A7 := Aside0.mk A70
    clear A70
    obtain rfl := Option.some.inj H
    have p4 : 0 ≤ (0 : Int) := (by omega)
    have q4 : 0 < a0.size := (by have : (0 : Int) < (a0.size : Int) := of_decide_eq_true (by first | (with_reducible assumption) | assumption); omega)
    have hx4 : ∀ h : 0 < a0.size, ((a0[0]'h).toNat : Int) = bt a0 0 := bt_at a0 0
    clear p4
    have qi4 : (0 < (a0.size : Int)) = True := eq_true (of_decide_eq_true (by first | (with_reducible assumption) | assumption))
    replace q4 := eq_true q4
    go_enter Tryd.func43, Tryd.ntmps43
    go_wp2_with (first | (go_at_call 49; (with_reducible refine (lexer_letter.calls (bt a0 0) true _ A5.out).mono ?_); rintro e w' ⟨rfl, ⟨nd, rfl⟩⟩) | ((with_reducible refine gate_callee (f := 50) rfl ?_); refine goesL_ (some 12) rfl rfl Tryd.func50 (by kernel_rfl) rfl #[.string a0, .func (.func 51) #[] #[]] rfl (by (try simp only [List.map_toArray, List.map_cons, List.map_nil]); first | done | rfl | (simp only [List.length_drop, List.length_take]; rfl)) ?_; (with_reducible refine (lexer_run_word.calls k a0 t102 _ A7.out).mono ?_); rintro e w' ⟨rfl, ⟨nd, rfl⟩⟩; refine ⟨_, rfl, ?_⟩))
    go_ret
    exact ⟨by first | rfl | (simp; done) | (simp [*]; done), by repeat (first | exact Drawn0.refl _ | apply Drawn0.step)⟩
   ·
    replace c6 := Bool.eq_false_iff.mpr c6
    subst c6
    have H1 : (some 0) = some r := by rw [if_neg (show ¬ (false = true) by decide)] at H; exact H
    clear H
    have H := H1
    clear H1
    obtain rfl := Option.some.inj H
    have p4 : 0 ≤ (0 : Int) := (by omega)
    have q4 : 0 < a0.size := (by have : (0 : Int) < (a0.size : Int) := of_decide_eq_true (by first | (with_reducible assumption) | assumption); omega)
    have hx4 : ∀ h : 0 < a0.size, ((a0[0]'h).toNat : Int) = bt a0 0 := bt_at a0 0
    clear p4
    have qi4 : (0 < (a0.size : Int)) = True := eq_true (of_decide_eq_true (by first | (with_reducible assumption) | assumption))
    replace q4 := eq_true q4
    go_enter Tryd.func43, Tryd.ntmps43
    go_wp2_with (first | (go_at_call 49; (with_reducible refine (lexer_letter.calls (bt a0 0) false _ A5.out).mono ?_); rintro e w' ⟨rfl, ⟨nd, rfl⟩⟩))
    go_ret
    exact ⟨by first | rfl | (simp; done) | (simp [*]; done), by repeat (first | exact Drawn0.refl _ | apply Drawn0.step)⟩
  ·
   rw [if_neg c3] at H
   exact absurd H (by simp)

end Go.Proofs.YtalhpnfapagamaaDoor.S
end
section
namespace Go.Proofs.YtalhpnfapagamaaDoor.S
open Go.RowKit Go.Proofs.YtalhpnfapagamaaDoorW.PrintWords Go.Proofs.YtalhpnfapagamaaDoorW.PrintLast Go.Proofs.YtalhpnfapagamaaDoorW.PrintMore
set_option linter.unusedVariables false
set_option linter.unusedSimpArgs false

def lexer_Reserved.f (a0 : ByteArray) : Option (Bool) := if a0.toList = ([100, 101, 115, 105, 103, 110] : List UInt8) then (some true) else (if a0.toList = ([111, 114, 100, 101, 114] : List UInt8) then (some true) else (if a0.toList = ([109, 105, 114, 114, 111, 114] : List UInt8) then (some true) else (if a0.toList = ([116, 105, 101, 114] : List UInt8) then (some true) else (if a0.toList = ([97, 110, 103, 108, 101] : List UInt8) then (some true) else (if a0.toList = ([97, 116] : List UInt8) then (some true) else (if a0.toList = ([100, 101, 112, 116, 104] : List UInt8) then (some true) else (if a0.toList = ([109, 101, 101, 116] : List UInt8) then (some true) else (if a0.toList = ([101, 100, 103, 101] : List UInt8) then (some true) else (if a0.toList = ([104, 101, 105, 103, 104, 116] : List UInt8) then (some true) else (if a0.toList = ([116, 104, 114, 111, 117, 103, 104] : List UInt8) then (some true) else (some false)))))))))))
set_option maxHeartbeats 8000000 in
set_option maxRecDepth 100000 in
theorem lexer_Reserved.calls (a0 : ByteArray) (r : Bool) (w : World) (h : lexer_Reserved.f a0 = some r) :
  Calls Tryd.prog 44 #[.string a0] w fun e w' => e = .returned (.bool r) ∧ Drawn0 w w' := by
 have H : (if a0.toList = ([100, 101, 115, 105, 103, 110] : List UInt8) then (some true) else (if a0.toList = ([111, 114, 100, 101, 114] : List UInt8) then (some true) else (if a0.toList = ([109, 105, 114, 114, 111, 114] : List UInt8) then (some true) else (if a0.toList = ([116, 105, 101, 114] : List UInt8) then (some true) else (if a0.toList = ([97, 110, 103, 108, 101] : List UInt8) then (some true) else (if a0.toList = ([97, 116] : List UInt8) then (some true) else (if a0.toList = ([100, 101, 112, 116, 104] : List UInt8) then (some true) else (if a0.toList = ([109, 101, 101, 116] : List UInt8) then (some true) else (if a0.toList = ([101, 100, 103, 101] : List UInt8) then (some true) else (if a0.toList = ([104, 101, 105, 103, 104, 116] : List UInt8) then (some true) else (if a0.toList = ([116, 104, 114, 111, 117, 103, 104] : List UInt8) then (some true) else (some false)))))))))))) = some r := h
 clear h
 by_cases c2 : a0.toList = ([100, 101, 115, 105, 103, 110] : List UInt8)
 ·
  rw [if_pos c2] at H
  have c2b0 : (a0.toList == ([100, 101, 115, 105, 103, 110] : List UInt8)) = true := beq_iff_eq.mpr c2
  have c2b1 : (a0.toList != ([100, 101, 115, 105, 103, 110] : List UInt8)) = false := bne_eq_false_iff_eq.mpr c2
  clear c2
  obtain rfl := Option.some.inj H
  go_enter Tryd.func44, Tryd.ntmps44
  go_wp2
  go_ret
  exact ⟨by first | rfl | (simp; done) | (simp [*]; done), by repeat (first | exact Drawn0.refl _ | apply Drawn0.step)⟩
 ·
  rw [if_neg c2] at H
  have c2b0 : (a0.toList == ([100, 101, 115, 105, 103, 110] : List UInt8)) = false := beq_eq_false_iff_ne.mpr c2
  have c2b1 : (a0.toList != ([100, 101, 115, 105, 103, 110] : List UInt8)) = true := bne_iff_ne.mpr c2
  by_cases c3 : a0.toList = ([111, 114, 100, 101, 114] : List UInt8)
  ·
   rw [if_pos c3] at H
   have c3b0 : (a0.toList == ([111, 114, 100, 101, 114] : List UInt8)) = true := beq_iff_eq.mpr c3
   have c3b1 : (a0.toList != ([111, 114, 100, 101, 114] : List UInt8)) = false := bne_eq_false_iff_eq.mpr c3
   clear c3
   obtain rfl := Option.some.inj H
   go_enter Tryd.func44, Tryd.ntmps44
   go_wp2
   go_ret
   exact ⟨by first | rfl | (simp; done) | (simp [*]; done), by repeat (first | exact Drawn0.refl _ | apply Drawn0.step)⟩
  ·
   rw [if_neg c3] at H
   have c3b0 : (a0.toList == ([111, 114, 100, 101, 114] : List UInt8)) = false := beq_eq_false_iff_ne.mpr c3
   have c3b1 : (a0.toList != ([111, 114, 100, 101, 114] : List UInt8)) = true := bne_iff_ne.mpr c3
   by_cases c4 : a0.toList = ([109, 105, 114, 114, 111, 114] : List UInt8)
   ·
    rw [if_pos c4] at H
    have c4b0 : (a0.toList == ([109, 105, 114, 114, 111, 114] : List UInt8)) = true := beq_iff_eq.mpr c4
    have c4b1 : (a0.toList != ([109, 105, 114, 114, 111, 114] : List UInt8)) = false := bne_eq_false_iff_eq.mpr c4
    clear c4
    obtain rfl := Option.some.inj H
    go_enter Tryd.func44, Tryd.ntmps44
    go_wp2
    go_ret
    exact ⟨by first | rfl | (simp; done) | (simp [*]; done), by repeat (first | exact Drawn0.refl _ | apply Drawn0.step)⟩
   ·
    rw [if_neg c4] at H
    have c4b0 : (a0.toList == ([109, 105, 114, 114, 111, 114] : List UInt8)) = false := beq_eq_false_iff_ne.mpr c4
    have c4b1 : (a0.toList != ([109, 105, 114, 114, 111, 114] : List UInt8)) = true := bne_iff_ne.mpr c4
    by_cases c5 : a0.toList = ([116, 105, 101, 114] : List UInt8)
    ·
     rw [if_pos c5] at H
     have c5b0 : (a0.toList == ([116, 105, 101, 114] : List UInt8)) = true := beq_iff_eq.mpr c5
     have c5b1 : (a0.toList != ([116, 105, 101, 114] : List UInt8)) = false := bne_eq_false_iff_eq.mpr c5
     clear c5
     obtain rfl := Option.some.inj H
     go_enter Tryd.func44, Tryd.ntmps44
     go_wp2
     go_ret
     exact ⟨by first | rfl | (simp; done) | (simp [*]; done), by repeat (first | exact Drawn0.refl _ | apply Drawn0.step)⟩
    ·
     rw [if_neg c5] at H
     have c5b0 : (a0.toList == ([116, 105, 101, 114] : List UInt8)) = false := beq_eq_false_iff_ne.mpr c5
     have c5b1 : (a0.toList != ([116, 105, 101, 114] : List UInt8)) = true := bne_iff_ne.mpr c5
     by_cases c6 : a0.toList = ([97, 110, 103, 108, 101] : List UInt8)
     ·
      rw [if_pos c6] at H
      have c6b0 : (a0.toList == ([97, 110, 103, 108, 101] : List UInt8)) = true := beq_iff_eq.mpr c6
      have c6b1 : (a0.toList != ([97, 110, 103, 108, 101] : List UInt8)) = false := bne_eq_false_iff_eq.mpr c6
      clear c6
      obtain rfl := Option.some.inj H
      go_enter Tryd.func44, Tryd.ntmps44
      go_wp2
      go_ret
      exact ⟨by first | rfl | (simp; done) | (simp [*]; done), by repeat (first | exact Drawn0.refl _ | apply Drawn0.step)⟩
     ·
      rw [if_neg c6] at H
      have c6b0 : (a0.toList == ([97, 110, 103, 108, 101] : List UInt8)) = false := beq_eq_false_iff_ne.mpr c6
      have c6b1 : (a0.toList != ([97, 110, 103, 108, 101] : List UInt8)) = true := bne_iff_ne.mpr c6
      by_cases c7 : a0.toList = ([97, 116] : List UInt8)
      ·
       rw [if_pos c7] at H
       have c7b0 : (a0.toList == ([97, 116] : List UInt8)) = true := beq_iff_eq.mpr c7
       have c7b1 : (a0.toList != ([97, 116] : List UInt8)) = false := bne_eq_false_iff_eq.mpr c7
       clear c7
       obtain rfl := Option.some.inj H
       go_enter Tryd.func44, Tryd.ntmps44
       go_wp2
       go_ret
       exact ⟨by first | rfl | (simp; done) | (simp [*]; done), by repeat (first | exact Drawn0.refl _ | apply Drawn0.step)⟩
      ·
       rw [if_neg c7] at H
       have c7b0 : (a0.toList == ([97, 116] : List UInt8)) = false := beq_eq_false_iff_ne.mpr c7
       have c7b1 : (a0.toList != ([97, 116] : List UInt8)) = true := bne_iff_ne.mpr c7
       by_cases c8 : a0.toList = ([100, 101, 112, 116, 104] : List UInt8)
       ·
        rw [if_pos c8] at H
        have c8b0 : (a0.toList == ([100, 101, 112, 116, 104] : List UInt8)) = true := beq_iff_eq.mpr c8
        have c8b1 : (a0.toList != ([100, 101, 112, 116, 104] : List UInt8)) = false := bne_eq_false_iff_eq.mpr c8
        clear c8
        obtain rfl := Option.some.inj H
        go_enter Tryd.func44, Tryd.ntmps44
        go_wp2
        go_ret
        exact ⟨by first | rfl | (simp; done) | (simp [*]; done), by repeat (first | exact Drawn0.refl _ | apply Drawn0.step)⟩
       ·
        rw [if_neg c8] at H
        have c8b0 : (a0.toList == ([100, 101, 112, 116, 104] : List UInt8)) = false := beq_eq_false_iff_ne.mpr c8
        have c8b1 : (a0.toList != ([100, 101, 112, 116, 104] : List UInt8)) = true := bne_iff_ne.mpr c8
        by_cases c9 : a0.toList = ([109, 101, 101, 116] : List UInt8)
        ·
         rw [if_pos c9] at H
         have c9b0 : (a0.toList == ([109, 101, 101, 116] : List UInt8)) = true := beq_iff_eq.mpr c9
         have c9b1 : (a0.toList != ([109, 101, 101, 116] : List UInt8)) = false := bne_eq_false_iff_eq.mpr c9
         clear c9
         obtain rfl := Option.some.inj H
         go_enter Tryd.func44, Tryd.ntmps44
         go_wp2
         go_ret
         exact ⟨by first | rfl | (simp; done) | (simp [*]; done), by repeat (first | exact Drawn0.refl _ | apply Drawn0.step)⟩
        ·
         rw [if_neg c9] at H
         have c9b0 : (a0.toList == ([109, 101, 101, 116] : List UInt8)) = false := beq_eq_false_iff_ne.mpr c9
         have c9b1 : (a0.toList != ([109, 101, 101, 116] : List UInt8)) = true := bne_iff_ne.mpr c9
         by_cases c10 : a0.toList = ([101, 100, 103, 101] : List UInt8)
         ·
          rw [if_pos c10] at H
          have c10b0 : (a0.toList == ([101, 100, 103, 101] : List UInt8)) = true := beq_iff_eq.mpr c10
          have c10b1 : (a0.toList != ([101, 100, 103, 101] : List UInt8)) = false := bne_eq_false_iff_eq.mpr c10
          clear c10
          obtain rfl := Option.some.inj H
          go_enter Tryd.func44, Tryd.ntmps44
          go_wp2
          go_ret
          exact ⟨by first | rfl | (simp; done) | (simp [*]; done), by repeat (first | exact Drawn0.refl _ | apply Drawn0.step)⟩
         ·
          rw [if_neg c10] at H
          have c10b0 : (a0.toList == ([101, 100, 103, 101] : List UInt8)) = false := beq_eq_false_iff_ne.mpr c10
          have c10b1 : (a0.toList != ([101, 100, 103, 101] : List UInt8)) = true := bne_iff_ne.mpr c10
          by_cases c11 : a0.toList = ([104, 101, 105, 103, 104, 116] : List UInt8)
          ·
           rw [if_pos c11] at H
           have c11b0 : (a0.toList == ([104, 101, 105, 103, 104, 116] : List UInt8)) = true := beq_iff_eq.mpr c11
           have c11b1 : (a0.toList != ([104, 101, 105, 103, 104, 116] : List UInt8)) = false := bne_eq_false_iff_eq.mpr c11
           clear c11
           obtain rfl := Option.some.inj H
           go_enter Tryd.func44, Tryd.ntmps44
           go_wp2
           go_ret
           exact ⟨by first | rfl | (simp; done) | (simp [*]; done), by repeat (first | exact Drawn0.refl _ | apply Drawn0.step)⟩
          ·
           rw [if_neg c11] at H
           have c11b0 : (a0.toList == ([104, 101, 105, 103, 104, 116] : List UInt8)) = false := beq_eq_false_iff_ne.mpr c11
           have c11b1 : (a0.toList != ([104, 101, 105, 103, 104, 116] : List UInt8)) = true := bne_iff_ne.mpr c11
           by_cases c12 : a0.toList = ([116, 104, 114, 111, 117, 103, 104] : List UInt8)
           ·
            rw [if_pos c12] at H
            have c12b0 : (a0.toList == ([116, 104, 114, 111, 117, 103, 104] : List UInt8)) = true := beq_iff_eq.mpr c12
            have c12b1 : (a0.toList != ([116, 104, 114, 111, 117, 103, 104] : List UInt8)) = false := bne_eq_false_iff_eq.mpr c12
            clear c12
            obtain rfl := Option.some.inj H
            go_enter Tryd.func44, Tryd.ntmps44
            go_wp2
            go_ret
            exact ⟨by first | rfl | (simp; done) | (simp [*]; done), by repeat (first | exact Drawn0.refl _ | apply Drawn0.step)⟩
           ·
            rw [if_neg c12] at H
            have c12b0 : (a0.toList == ([116, 104, 114, 111, 117, 103, 104] : List UInt8)) = false := beq_eq_false_iff_ne.mpr c12
            have c12b1 : (a0.toList != ([116, 104, 114, 111, 117, 103, 104] : List UInt8)) = true := bne_iff_ne.mpr c12
            obtain rfl := Option.some.inj H
            go_enter Tryd.func44, Tryd.ntmps44
            go_wp2
            go_ret
            exact ⟨by first | rfl | (simp; done) | (simp [*]; done), by repeat (first | exact Drawn0.refl _ | apply Drawn0.step)⟩

end Go.Proofs.YtalhpnfapagamaaDoor.S
end
section
namespace Go.Proofs.YtalhpnfapagamaaDoor.S
open Go.RowKit Go.Proofs.YtalhpnfapagamaaDoorW.PrintWords Go.Proofs.YtalhpnfapagamaaDoorW.PrintLast Go.Proofs.YtalhpnfapagamaaDoorW.PrintMore
set_option linter.unusedVariables false
set_option linter.unusedSimpArgs false

def lexer_IsName.f (k : Nat) (a0 : ByteArray) : Option (Bool) := if a0.toList = ([] : List UInt8) then (some false) else (if (a0.size : Int) ≤ 30 then ((lexer_word.f k a0).bind fun t103 => (if t103 = (a0.size : Int) then ((lexer_Reserved.f a0).bind fun t104 => (some (!t104))) else (some false))) else (some false))
theorem lexer_IsName.mono : ∀ a0 k, LeO (lexer_IsName.f k a0) (lexer_IsName.f (k + 1) a0) := by
 intro a0 k
 unfold lexer_IsName.f
 repeat' first
   | (with_reducible exact lexer_word.mono _ _)
   | (with_reducible exact LeO.refl _)
   | (with_reducible exact LeO.none _)
   | (with_reducible refine LeO.ite ?_ ?_)
   | (with_reducible refine LeO.bind ?_ (fun _ => ?_))
   | exact lexer_word.mono _ _
   | exact LeO.none _
   | refine LeO.ite ?_ ?_
   | refine LeO.bind ?_ (fun _ => ?_)
set_option maxHeartbeats 8000000 in
set_option maxRecDepth 100000 in
theorem lexer_IsName.calls (k : Nat) (a0 : ByteArray) (r : Bool) (w : World) (h : lexer_IsName.f k a0 = some r) :
  Calls Tryd.prog 33 #[.string a0] w fun e w' => e = .returned (.bool r) ∧ Drawn0 w w' := by
 have H : (if a0.toList = ([] : List UInt8) then (some false) else (if (a0.size : Int) ≤ 30 then ((lexer_word.f k a0).bind fun t103 => (if t103 = (a0.size : Int) then ((lexer_Reserved.f a0).bind fun t104 => (some (!t104))) else (some false))) else (some false))) = some r := h
 clear h
 by_cases c2 : a0.toList = ([] : List UInt8)
 ·
  rw [if_pos c2] at H
  have c2b0 : (a0.toList == ([] : List UInt8)) = true := beq_iff_eq.mpr c2
  have c2b1 : (a0.toList != ([] : List UInt8)) = false := bne_eq_false_iff_eq.mpr c2
  clear c2
  obtain rfl := Option.some.inj H
  go_enter Tryd.func33, Tryd.ntmps33
  go_wp2
  go_ret
  exact ⟨by first | rfl | (simp; done) | (simp [*]; done), by repeat (first | exact Drawn0.refl _ | apply Drawn0.step)⟩
 ·
  rw [if_neg c2] at H
  have c2b0 : (a0.toList == ([] : List UInt8)) = false := beq_eq_false_iff_ne.mpr c2
  have c2b1 : (a0.toList != ([] : List UInt8)) = true := bne_iff_ne.mpr c2
  by_cases c3 : (a0.size : Int) ≤ 30
  ·
   rw [if_pos c3] at H
   have c3b0 : decide ((a0.size : Int) ≤ 30) = true := decide_eq_true c3
   have c3b1 : decide (a0.size ≤ 30) = true := decide_eq_true (by omega)
   clear c3
   replace H := Option.bind_eq_some_iff.mp H
   obtain ⟨t103, A40, H⟩ := H
   replace H : (if t103 = (a0.size : Int) then ((lexer_Reserved.f a0).bind fun t104 => (some (!t104))) else (some false)) = some r := H
   have A4 := Aside0.mk A40
   clear A40
   by_cases c5 : t103 = (a0.size : Int)
   ·
    rw [if_pos c5] at H
    have c5b0 : (t103 == (a0.size : Int)) = true := beq_iff_eq.mpr c5
    have c5b1 : (t103 != (a0.size : Int)) = false := bne_eq_false_iff_eq.mpr c5
    clear c5
    replace H := Option.bind_eq_some_iff.mp H
    obtain ⟨t104, A60, H⟩ := H
    replace H : (some (!t104)) = some r := H
    have A6 := Aside0.mk A60
    clear A60
    obtain rfl := Option.some.inj H
    go_enter Tryd.func33, Tryd.ntmps33
    go_wp2_with (first | (go_at_call 43; (with_reducible refine (lexer_word.calls k a0 t103 _ A4.out).mono ?_); rintro e w' ⟨rfl, ⟨nd, rfl⟩⟩) | (go_at_call 44; (with_reducible refine (lexer_Reserved.calls a0 t104 _ A6.out).mono ?_); rintro e w' ⟨rfl, ⟨nd, rfl⟩⟩))
    go_ret
    exact ⟨by first | rfl | (simp; done) | (simp [*]; done), by repeat (first | exact Drawn0.refl _ | apply Drawn0.step)⟩
   ·
    rw [if_neg c5] at H
    have c5b0 : (t103 == (a0.size : Int)) = false := beq_eq_false_iff_ne.mpr c5
    have c5b1 : (t103 != (a0.size : Int)) = true := bne_iff_ne.mpr c5
    obtain rfl := Option.some.inj H
    go_enter Tryd.func33, Tryd.ntmps33
    go_wp2_with (first | (go_at_call 43; (with_reducible refine (lexer_word.calls k a0 t103 _ A4.out).mono ?_); rintro e w' ⟨rfl, ⟨nd, rfl⟩⟩))
    go_ret
    exact ⟨by first | rfl | (simp; done) | (simp [*]; done), by repeat (first | exact Drawn0.refl _ | apply Drawn0.step)⟩
  ·
   rw [if_neg c3] at H
   have c3b0 : decide ((a0.size : Int) ≤ 30) = false := decide_eq_false c3
   have c3b1 : decide (a0.size ≤ 30) = false := decide_eq_false (by omega)
   clear c3
   obtain rfl := Option.some.inj H
   go_enter Tryd.func33, Tryd.ntmps33
   go_wp2
   go_ret
   exact ⟨by first | rfl | (simp; done) | (simp [*]; done), by repeat (first | exact Drawn0.refl _ | apply Drawn0.step)⟩

end Go.Proofs.YtalhpnfapagamaaDoor.S
end
section
namespace Go.Proofs.YtalhpnfapagamaaDoorD
open Go Go.RowKit Go.Proofs.YtalhpnfapagamaaDoorW.PrintWords Go.Proofs.YtalhpnfapagamaaDoorW.PrintLast Go.Proofs.YtalhpnfapagamaaDoorW.PrintMore
def dnB (o : List Nat) (n m : Nat) : Array Bool := ((List.range m).map (fun i => (o.take n).contains i)).toArray
theorem mk_ {p q : Prop} (h : p) (f : p → q := by intro h; (with_reducible repeat (first | refine blk_drewN ?_ _ | refine blk_drew ?_ | refine blk_alloc ?_ _)); exact h) : q := f h
theorem mr_ {p q : Prop} (h : p) (f : p → q := by intro h; (with_reducible repeat (first | apply Kd.R_alloc | apply Kd.R_drewN | apply Kd.R_drew)); exact h) : q := f h
theorem mc_ {p q : Prop} (h : p) (f : p → q := by intro h; repeat (first | exact h | (with_reducible refine Kd.C_alloc ?_ _) | (with_reducible refine Kd.C_drewN ?_ _) | (with_reducible refine Kd.C_drew ?_))) : q := f h
theorem mb_ {n : Nat} {w W W' : World} (h : Below n w W) (f : Below n w W → Below n w W' := by intro h; repeat (first | (with_reducible first | exact h | apply below_alloc | apply pw_below_drewN | apply below_drew1 | refine below_set ?_ (Aside0.out (by assumption))) | exact h)) : Below n w W' := f h
theorem mp_ {w W W' : World} {S : Nat → Prop} (h : Kept w W S) (f : Kept w W S → Kept w W' S := by intro h; repeat (first | (with_reducible first | exact h | apply Kept.alloc | apply Kept.drewN | apply Kept.drew | refine Kept.setCell ?_ (.inr (Aside0.out (by assumption))) _) | exact h)) : Kept w W' S := f h
theorem aI {p q : Prop} (a : p) (b : q) : p ∧ q := ⟨a, b⟩
theorem mf_ {p q : Prop} (h : p) (f : p → q := by intro h; repeat (first | (with_reducible first | exact h | refine blk_drewN ?_ _ | refine blk_drew ?_ | refine blk_alloc ?_ _) | refine blk_far ?_ (Aside0.out (by assumption)) _)) : q := f h
theorem mw_ {w : World} {p : Addr} {v : Value} {g : Nat} {q : Prop} (h : w.cell? p = some v) (hg : w.heap.size ≤ g) (f : w.cell? p = some v → w.heap.size ≤ g → q := by intro hw_ hg_; first | exact Nat.ne_of_lt (Nat.lt_of_lt_of_le (by have := World.block_lt_of_cell? _ _ hw_; first | rwa [add_block] at this | exact this) hg_) | (rw [add_block]; exact Nat.ne_of_lt (Nat.lt_of_lt_of_le (by have := World.block_lt_of_cell? _ _ hw_; first | rwa [add_block] at this | exact this) hg_)) | (show (Addr.add _ _).block ≠ _; rw [add_block]; exact Nat.ne_of_lt (Nat.lt_of_lt_of_le (by have := World.block_lt_of_cell? _ _ hw_; first | rwa [add_block] at this | exact this) hg_)) | (dsimp only; exact Nat.ne_of_lt (Nat.lt_of_lt_of_le (by have := World.block_lt_of_cell? _ _ hw_; first | rwa [add_block] at this | exact this) hg_))) : q := f h hg
theorem ma_ {p q : Prop} (h : p) (f : p → q := by intro hn_; first | (rw [add_block]; exact hn_) | (show (Addr.add _ _).block ≠ _; rw [add_block]; exact hn_) | exact hn_) : q := f h
theorem as_ {p : Prop} (h : p := by first | (with_reducible assumption) | assumption) : p := h
theorem ml_ {p : Prop} (h : p := by (try simp only [List.map_toArray, List.map_cons, List.map_nil]); first | done | rfl | (simp only [List.length_drop, List.length_take]; rfl)) : p := h
theorem rs_ {p : Prop} (h : p := by first | rfl | (simp; done) | (simp [*]; done)) : p := h
theorem am_ {p : Prop} (h : p) : Aside0 p := ⟨h⟩
theorem bz_ {w W : World} {g : Nat} (hg : g = W.heap.size) (h : Below w.heap.size w W) : w.heap.size ≤ g := hg ▸ below_size h
theorem nl_ {W : World} {g n : Nat} {o : Obj} (hg : n = W.heap.size) (h : W.heap[g]? = some o) : g ≠ n := hg ▸ Nat.ne_of_lt (blk_lt h)
theorem ng_ {W : World} {g n : Nat} {o : Obj} (hg : n = W.heap.size) (h : W.heap[g]? = some o) : n ≠ g := hg ▸ Nat.ne_of_gt (blk_lt h)
theorem bev {P : Program} {ops : Array Oper} {rest : List Oper} {o : Oper} {a : Act} {Q : Exit → Act → World → Prop} {W : World} {N : Tmp} {cs : Array Value} {t : TypeId}
  (h : ∀ g, g = W.heap.size → ∀ w1, w1.heap[g]? = some (.cells cs t (0, 0)) → Below W.heap.size W w1 → wpList P ops Q rest (a.put o.dst (.pointer (some ⟨g, 0, none⟩))) w1)
  (hgd : o.guard = none := by rfl) (hd : o.dst = some N := by rfl) (hrun : (execOp a.eval o).run P W = .ok (.value (.pointer (some ⟨W.heap.size, 0, none⟩))) (W.alloc (.cells cs t (0, 0))) := by first | (go_simp; done) | (go_simp; rfl)) : wpList P ops Q (o :: rest) a W := box_event hgd hd hrun h
theorem bst {P : Program} {ops : Array Oper} {o : Oper} {a : Act} {Q : Exit → Act → World → Prop} {Kc : Act → World → Prop} {W : World} {N : Tmp} {cs : Array Value} {t : TypeId}
  (h : ∀ g, g = W.heap.size → ∀ w1, w1.heap[g]? = some (.cells cs t (0, 0)) → Below W.heap.size W w1 → Kc (a.put o.dst (.pointer (some ⟨g, 0, none⟩))) w1)
  (hw : Region.wanted o (yielded ops a.tmps) = true := by rfl) (hd : o.dst = some N := by rfl) (hrun : (execOp a.eval o).run P W = .ok (.value (.pointer (some ⟨W.heap.size, 0, none⟩))) (W.alloc (.cells cs t (0, 0))) := by first | (go_simp; done) | (go_simp; rfl)) :
  if Region.wanted o (yielded ops a.tmps) = true then Oper.wp P o a W Kc Q else Kc (a.put o.dst undef) W := box_step hw hd hrun h
section
variable {P : Program} {md : Region.Mode} {ops : Array Oper} {Q : Exit → Act → World → Prop} {S : World → Prop} {ds : List Nat}
theorem ltd {o : List Nat} {n m fuel : Nat} {d : Array Bool} {a : Act} {w : World} (hd : d = dnB o n m) (h : wpAnyLast P md ops Q S ds fuel (dnB o n m) a w) : wpAnyLast P md ops Q S ds fuel d a w := hd ▸ h
theorem pnd {o : List Nat} {n m fuel : Nat} {oi : Oper} {v : Value} {N : Option Tmp} {a : Act} {w : World} (hi : ops[o.getD n 0]? = some oi) (hN : oi.dst = N) (hc : anyB md ops (dnB o n m) (dnB o (n + 1) m) (o.getD n 0) = true)
  (hQ : ∀ c a w, Q (.panic c) (a.put oi.dst v) w → Q (.panic c) a w) (hy : Yields P ops oi v a) {a' : Act} (ha : a.put N v = a') (h : wpAnyLast P md ops Q S ds fuel (dnB o (n + 1) m) a' w) :
  wpAnyLast P md ops Q S ds (fuel + 1) (dnB o n m) a w := pure_ (dnB o (n + 1) m) hi hN hc hQ hy ha h
theorem tnd {o : List Nat} {n m fuel : Nat} {oi : Oper} {v : Value} {N : Option Tmp} {a : Act} {w : World} (hi : ops[o.getD n 0]? = some oi) (hN : oi.dst = N) (hc : takeB md ops ds (dnB o n m) (dnB o (n + 1) m) (o.getD n 0) = true)
  (hQ : ∀ c a w, Q (.panic c) (a.put oi.dst v) w → Q (.panic c) a w) (hy : YieldsIf P ops S oi v a) (hS : S w) {a' : Act} (ha : a.put N v = a') (h : wpAnyLast P md ops Q S ds fuel (dnB o (n + 1) m) a' w) :
  wpAnyLast P md ops Q S ds (fuel + 1) (dnB o n m) a w := take_ (dnB o (n + 1) m) hi hN hc hQ hy hS ha h
end
section
variable {P : Program} {md : Region.Mode} {ops : Array Oper} {Q : Exit → Act → World → Prop} {S : World → Prop} {ds : List Nat}
theorem pne {o : List Nat} {n m fuel : Nat} {oi : Oper} {v : Value} {N : Option Tmp} {a : Act} {w : World} (hi : ops[o.getD n 0]? = some oi) (hN : oi.dst = N) (hc : anyB md ops (dnB o n m) (dnB o (n + 1) m) (o.getD n 0) = true)
 (hy : Yields P ops oi v a) {a' : Act} (h : wpAnyLast P md ops Q S ds fuel (dnB o (n + 1) m) a' w) (hQ : ∀ c a w, Q (.panic c) (a.put oi.dst v) w → Q (.panic c) a w := by exact fun _ _ _ h => h) (ha : a.put N v = a' := by show Act.put _ (some _) _ = _; simp only [Act.put, List.setIfInBounds_toArray, List.set_cons_zero, List.set_cons_succ, i64_w, i32_w]; rfl) :
 wpAnyLast P md ops Q S ds (fuel + 1) (dnB o n m) a w := pure_ (dnB o (n + 1) m) hi hN hc hQ hy ha h
theorem tne {o : List Nat} {n m fuel : Nat} {oi : Oper} {v : Value} {N : Option Tmp} {a : Act} {w : World} (hi : ops[o.getD n 0]? = some oi) (hN : oi.dst = N) (hc : takeB md ops ds (dnB o n m) (dnB o (n + 1) m) (o.getD n 0) = true)
 (hy : YieldsIf P ops S oi v a) (hS : S w) {a' : Act} (h : wpAnyLast P md ops Q S ds fuel (dnB o (n + 1) m) a' w) (hQ : ∀ c a w, Q (.panic c) (a.put oi.dst v) w → Q (.panic c) a w := by exact fun _ _ _ h => h) (ha : a.put N v = a' := by show Act.put _ (some _) _ = _; simp only [Act.put, List.setIfInBounds_toArray, List.set_cons_zero, List.set_cons_succ, i64_w, i32_w]; rfl) :
 wpAnyLast P md ops Q S ds (fuel + 1) (dnB o n m) a w := take_ (dnB o (n + 1) m) hi hN hc hQ hy hS ha h
end
end Go.Proofs.YtalhpnfapagamaaDoorD
end
