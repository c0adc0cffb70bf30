-- Written by this session's own programs; what the law does not lean on is left out. Lean checks it.
import Derived.Test.YtejgenhmhahgeaaDoorGS
section
namespace Go.Proofs.YtejgenhmhahgeaaDoor.T
open Go.RowKit Go.Proofs.YtejgenhmhahgeaaDoorW.PrintWords Go.Proofs.YtejgenhmhahgeaaDoorW.PrintLast Go.Proofs.YtejgenhmhahgeaaDoorW.PrintMore
set_option linter.unusedVariables false
set_option linter.unusedSimpArgs false

def strconv_Itoa.f (a0 : Int) : Option ByteArray := if -9223372036854775808 ≤ a0 ∧ a0 ≤ 9223372036854775807 then some ⟨(Lib.itoa a0).toArray⟩ else none
theorem strconv_Itoa.calls (a0 : Int) (r : ByteArray) (w : World) (hT : TW w) (h : strconv_Itoa.f a0 = some r) :
  Calls Tryd.prog 34 #[.int .i64 a0] w fun e w' => e = .returned (.string r) ∧ Below w.heap.size w w' := by
 unfold strconv_Itoa.f at h
 split at h
 ·
  next hh =>
  obtain rfl := Option.some.inj h
  exact (Tryd.strconv_Itoa a0 hh.1 hh.2 w hT.pow).mono fun e w' ⟨he, k, os, hw⟩ => ⟨he, by rw [hw]; exact Lib.below_grow _ _ (Nat.le_refl _) _ _⟩
 ·
  exact absurd h (by simp)

end Go.Proofs.YtejgenhmhahgeaaDoor.T
end
section
namespace Go.Proofs.YtejgenhmhahgeaaDoor.T
open Go.RowKit Go.Proofs.YtejgenhmhahgeaaDoorW.PrintWords Go.Proofs.YtejgenhmhahgeaaDoorW.PrintLast Go.Proofs.YtejgenhmhahgeaaDoorW.PrintMore
set_option linter.unusedVariables false
set_option linter.unusedSimpArgs false

def strings_Join.f (l0 : List ByteArray) (a1 : ByteArray) : Option ByteArray := if l0.length ≤ 140737488355328 ∧ (Lib.join (l0.map (·.data.toList)) a1.data.toList).length ≤ 140737488355328 then some ⟨(Lib.join (l0.map (·.data.toList)) a1.data.toList).toArray⟩ else none
theorem strings_Join.calls (A0 : Option Addr) (c0 : Nat) (l0 : List ByteArray) (a1 : ByteArray) (r : ByteArray) (w : World) (hr0 : Kd.C Kd.string w A0 l0.length l0) (hc0 : l0.length ≤ c0) (h : strings_Join.f l0 a1 = some r) :
  Calls Tryd.prog 35 #[.slice A0 l0.length c0, .string a1] w fun e w' => e = .returned (.string r) ∧ Below w.heap.size w w' := by
 unfold strings_Join.f at h
 split at h
 ·
  next hh =>
  obtain rfl := Option.some.inj h
  cases l0 with
  | nil => exact (Tryd.strings_Join_none A0 c0 a1 w).mono fun e w' ⟨he, hw⟩ => ⟨he, by rw [hw]; exact Below.refl _ _⟩
  | cons x l =>
   obtain ⟨ad, rfl, hc⟩ := hr0.2.2 (Nat.succ_pos _)
   have hcell : ∀ (j : Nat) y, (x :: l)[j]? = some y → w.cell? (ad.add j) = some (.string y) := by
    intro j y hj
    obtain ⟨c, hl, hk, hcc⟩ := hc j y hj
    have hk' : c = [.string y] := hk
    subst hk'
    have := hcc 0 (.string y) rfl
    rwa [show j * Kd.string.sz + 0 = j from Nat.mul_one j] at this
   have h0 := hcell 0 x rfl
   have hs : ad.spot = none := by
    cases hsp : ad.spot with
    | none => rfl
    | some q =>
     have h0' : w.cell? ad = some (.string x) := h0
     unfold World.cell? at h0'
     rw [hsp] at h0'
     split at h0' <;> simp at h0'
   obtain ⟨bk, o, sp⟩ := ad
   cases hs
   refine Tryd.strings_Join bk o c0 (x :: l) a1 w (fun j y hj => ?_) (World.block_lt_of_cell? w _ h0) hh.1 hc0 hh.2
   have := hcell j y hj
   rw [Addr.add] at this
   split at this
   ·
    next e => subst e; exact this
   ·
    exact this
 ·
  exact absurd h (by simp)

end Go.Proofs.YtejgenhmhahgeaaDoor.T
end
section
namespace Go.Proofs.YtejgenhmhahgeaaDoor.T
open Go.RowKit Go.Proofs.YtejgenhmhahgeaaDoorW.PrintWords Go.Proofs.YtejgenhmhahgeaaDoorW.PrintLast Go.Proofs.YtejgenhmhahgeaaDoorW.PrintMore
set_option linter.unusedVariables false
set_option linter.unusedSimpArgs false

def strings_Cut.f (a0 a1 : ByteArray) : Option (ByteArray × ByteArray × Bool) := if a0.size < 4294967281 then some (⟨(Lib.cut a0.data.toList a1.data.toList).1.toArray⟩, ⟨(Lib.cut a0.data.toList a1.data.toList).2.1.toArray⟩, (Lib.cut a0.data.toList a1.data.toList).2.2) else none
theorem strings_Cut.calls (a0 a1 : ByteArray) (r1 r2 : ByteArray) (r3 : Bool) (w : World) (hT : TW w) (h : strings_Cut.f a0 a1 = some (r1, r2, r3)) :
  Calls Tryd.prog 28 #[.string a0, .string a1] w fun e w' => e = .returned (.tuple #[.string r1, .string r2, .bool r3]) ∧ Drawn0 w w' := by
 unfold strings_Cut.f at h
 split at h
 ·
  next hh =>
  obtain ⟨m, hm⟩ := hT.len
  have h' := Option.some.inj h
  rw [Prod.mk.injEq, Prod.mk.injEq] at h'
  obtain ⟨rfl, rfl, rfl⟩ := h'
  exact (Tryd.strings_Cut a0 a1 m w hh hm).mono fun e w' ⟨he, n, hw⟩ => ⟨he, ⟨n, hw⟩⟩
 ·
  exact absurd h (by simp)

end Go.Proofs.YtejgenhmhahgeaaDoor.T
end
section
namespace Go.Proofs.YtejgenhmhahgeaaDoor.T
open Go.RowKit Go.Proofs.YtejgenhmhahgeaaDoorW.PrintWords Go.Proofs.YtejgenhmhahgeaaDoorW.PrintLast Go.Proofs.YtejgenhmhahgeaaDoorW.PrintMore
set_option linter.unusedVariables false
set_option linter.unusedSimpArgs false

def strings_Split.f (a0 a1 : ByteArray) : Option (List ByteArray) := if a0.size < 4294967281 ∧ 1 ≤ a1.size then some (Lib.splitB a1 0 (Lib.countB a0 a1) a0) else none
theorem reps_strings : ∀ (l : List ByteArray), Reps (fun (x : ByteArray) cs => cs = [Value.string x]) 1 l (l.map Value.string) := by
 intro l
 refine ⟨by rw [List.length_map, Nat.mul_one], fun j p hp => ?_⟩
 obtain ⟨hj, rfl⟩ := List.getElem?_eq_some_iff.1 hp
 rw [Nat.mul_one, List.drop_eq_getElem_cons (by rw [List.length_map]; exact hj), List.getElem_map]
 rfl
theorem strings_Split.calls (a0 a1 : ByteArray) (r : List ByteArray) (w : World) (hT : TW w) (h : strings_Split.f a0 a1 = some r) :
  Calls Tryd.prog 29 #[.string a0, .string a1] w fun e w' => ∃ v_ : Value, e = .returned v_ ∧ Kd.R Kd.string 9 w' w.heap.size (fun _ => True) v_ r ∧ Below w.heap.size w w' := by
 unfold strings_Split.f at h
 split at h
 ·
  next hh =>
  obtain ⟨m, hm⟩ := hT.len
  obtain rfl := Option.some.inj h
  have hl := Lib.splitB_all a1 hh.2 0 _ a0 rfl
  refine (Tryd.strings_Split a0 a1 m w hh.1 hm hh.2).mono fun e w' ⟨he, hw⟩ => ?_
  rw [← hl] at he
  refine ⟨_, he, ?_, by rw [hw]; exact (Below.refl _ _).alloc (Nat.le_refl _) _⟩
  rw [hw]
  refine ⟨fun _ _ => trivial, OwnRow.lit w w.heap.size (reps_strings _) (Nat.le_refl _) ?_⟩
  rw [hl]
  have := Lib.countB_le a1 hh.2 a0.size a0 (Nat.le_refl _)
  have := hh.1
  omega
 ·
  exact absurd h (by simp)

end Go.Proofs.YtejgenhmhahgeaaDoor.T
end
section
namespace Go.Proofs.YtejgenhmhahgeaaDoor.T
open Go.RowKit Go.Proofs.YtejgenhmhahgeaaDoorW.PrintWords Go.Proofs.YtejgenhmhahgeaaDoorW.PrintLast Go.Proofs.YtejgenhmhahgeaaDoorW.PrintMore
set_option linter.unusedVariables false
set_option linter.unusedSimpArgs false

def strings_TrimPrefix.f (a0 a1 : ByteArray) : Option ByteArray := some ⟨(Lib.trimPrefix a0.data.toList a1.data.toList).toArray⟩
theorem strings_TrimPrefix.calls (a0 a1 : ByteArray) (r : ByteArray) (w : World) (h : strings_TrimPrefix.f a0 a1 = some r) :
  Calls Tryd.prog 30 #[.string a0, .string a1] w fun e w' => e = .returned (.string r) ∧ Drawn0 w w' := by
 obtain rfl := Option.some.inj h
 exact (Tryd.strings_TrimPrefix a0 a1 w).mono fun e w' ⟨he, hw⟩ => ⟨he, by rw [hw]; exact Drawn0.refl _⟩

end Go.Proofs.YtejgenhmhahgeaaDoor.T
end
section
namespace Go.Proofs.YtejgenhmhahgeaaDoor.T
open Go.RowKit Go.Proofs.YtejgenhmhahgeaaDoorW.PrintWords Go.Proofs.YtejgenhmhahgeaaDoorW.PrintLast Go.Proofs.YtejgenhmhahgeaaDoorW.PrintMore
set_option linter.unusedVariables false
set_option linter.unusedSimpArgs false

def strconv_Atoi.f (a0 : ByteArray) : Option (Int × Bool) := if a0.size ≤ 281474976710656 then (match Lib.atoiAll a0.data.toList with | .ok v => some (v, true) | .range => some (Lib.atoiSat a0.data.toList, false) | _ => some (0, false)) else none
theorem strconv_Atoi.calls (a0 : ByteArray) (r1 : Int) (r2 : Bool) (w : World) (hT : TW w) (h : strconv_Atoi.f a0 = some (r1, r2)) :
  Calls Tryd.prog 31 #[.string a0] w fun e w' => ∃ ev_ : Value, e = .returned (.tuple #[.int .i64 r1, ev_]) ∧ Below w.heap.size w w' := by
 unfold strconv_Atoi.f at h
 split at h
 ·
  next hh =>
  cases hA : Lib.atoiAll a0.data.toList
  ·
   next v =>
   rw [hA] at h
   have h' := Option.some.inj h
   rw [Prod.mk.injEq] at h'
   obtain ⟨rfl, rfl⟩ := h'
   refine (Tryd.strconv_Atoi_ok a0 (Nat.le_trans hh (by decide)) v hA w).mono fun e w' ⟨he, hw⟩ => ⟨_, he, ?_⟩
   rcases hw with rfl | ⟨t, rfl⟩
   ·
    exact Below.refl _ _
   ·
    exact Go.Joins.below_bytesWorld _ _ _ _ (Nat.le_refl _)
  ·
   rw [hA] at h
   have h' := Option.some.inj h
   rw [Prod.mk.injEq] at h'
   obtain ⟨rfl, rfl⟩ := h'
   obtain ⟨tp, p, hv⟩ := hT.syn
   exact (Any.strconv_Atoi_syntax_var Tryd.laysC172 a0 hh hA tp p w hv).mono fun e w' ⟨N, he, _, _, hb⟩ => ⟨_, he, hb⟩
  ·
   rw [hA] at h
   have h' := Option.some.inj h
   rw [Prod.mk.injEq] at h'
   obtain ⟨rfl, rfl⟩ := h'
   obtain ⟨tp, p, hv⟩ := hT.rng
   exact (Any.strconv_Atoi_range_var Tryd.laysC172 a0 hh hA tp p w hv).mono fun e w' ⟨N, he, _, _, hb⟩ => ⟨_, he, hb⟩
 ·
  exact absurd h (by simp)

end Go.Proofs.YtejgenhmhahgeaaDoor.T
end
