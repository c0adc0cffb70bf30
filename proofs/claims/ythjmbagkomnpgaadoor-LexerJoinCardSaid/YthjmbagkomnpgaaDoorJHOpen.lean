-- Written by this session's own programs; what the law does not lean on is left out. Lean checks it.
import Derived.ProofKit
import Derived.OpenShut
import Derived.Deep.Slices
import Derived.Test.YthjmbagkomnpgaaDoorJWWords
import Derived.Test.YthjmbagkomnpgaaDoorJWMore
namespace Go.Proofs.YthjmbagkomnpgaaDoorH
set_option linter.unusedVariables false
open Go Go.ChangeShapes Go.WideShapes Go.Deep Go.Proofs.YthjmbagkomnpgaaDoorW.PrintWords
/-- Whatever reads as data at type t is a value of the kind, of which G holds. -/
def Opens {α : Type} (P : Program) (kd : Kd α) (G : α → Prop) (t : TypeId) : Prop :=
 ∀ (H : Type) (enc : TypeId × Value → H) (w : World) (base : Nat) (spare : Nat → Bool) (held : Bool) (fuel : Nat) (cs : List Value) (x : DataW H × List MemPlace),
  DataW.trod enc P w base spare held fuel t cs = some x → ∃ v : α, kd.K w v cs ∧ G v
theorem cells_get {w : World} {base : Nat} {a : Addr} {n : Nat} {cs : List Value} (h : w.cells? base a n = some cs) : cs.length = n ∧ ∀ i u, cs[i]? = some u → w.cell? (a.add i) = some u := by
 obtain ⟨_, hl, hc⟩ := World.cells?_some h
 refine ⟨hl, fun i u hu => ?_⟩
 have hi : i < n := by
  have := (List.getElem?_eq_some_iff.1 hu).1
  omega
 rw [hc i hi, hu]
theorem add_add_ (a : Addr) (m i : Nat) : (a.add m).add i = a.add (m + i) := by
 by_cases hm : m = 0
 ·
  subst hm; simp [Addr.add]
 ·
  by_cases hi : i = 0
  ·
   subst hi; simp [Addr.add, hm]
  ·
   have : m + i ≠ 0 := by omega
   simp [Addr.add, hm, hi, Nat.add_assoc]
theorem opens_slice {α : Type} {P : Program} {kd : Kd α} {G : α → Prop} {t e : TypeId} (e' : Nat) (ht : P.underlying t = some (.slice e)) (hc : P.cellsOf e = kd.sz) (he : Opens P kd G e) :
  Opens P (Kd.slice e' kd) (fun l => l.length ≤ 9223372036854775807 ∧ ∀ x ∈ l, G x) t := by
 intro H enc w base spare held fuel cs x h
 rcases open_slice ht h with ⟨rfl, _⟩ | ⟨a, len, cap, m, n, D, Pl, rfl, _, hl, hm, hmm, _, hx⟩
 ·
  exact ⟨[], ⟨none, 0, rfl, Nat.le_refl _, Kd.C_nil _ _⟩, Nat.zero_le _, fun _ h => by cases h⟩
 ·
  have hlm : len ≤ m := by rw [hmm]; split <;> omega
  have each : ∀ i, i < len → ∃ p : α × List Value, kd.K w p.1 p.2 ∧ G p.1 ∧ ∀ j u, p.2[j]? = some u → w.cell? (a.add (i * kd.sz + j)) = some u := by
   intro i hi
   obtain ⟨cs', h1, h2⟩ := hx i (by omega)
   obtain ⟨v, hk, hg⟩ := he H enc w base spare held n cs' _ h2
   rw [hc] at h1
   exact ⟨(v, cs'), hk, hg, fun j u hu => by rw [← add_add_]; exact (cells_get h1).2 j u hu⟩
  have each' : ∀ i : Fin len, ∃ p : α × List Value, kd.K w p.1 p.2 ∧ G p.1 ∧ ∀ j u, p.2[j]? = some u → w.cell? (a.add (i * kd.sz + j)) = some u := fun i => each i i.2
  let f := fun i => Classical.choose (each' i)
  have hf := fun i => Classical.choose_spec (each' i)
  have hlen : (List.ofFn fun i => (f i).1).length = len := by simp
  refine ⟨List.ofFn fun i => (f i).1, ⟨some a, cap, by rw [hlen], by rw [hlen]; exact hl, hlen.symm ▸ ⟨hlen, ?_, fun _ => ⟨a, rfl, fun j p hj => ?_⟩⟩⟩, ?_, fun y hy => ?_⟩
  ·
   simp only [maxLen] at hm; omega
  ·
   have hj' : j < len := by have := (List.getElem?_eq_some_iff.1 hj).1; omega
   have hp : p = (f ⟨j, hj'⟩).1 := by
    rw [List.getElem?_ofFn, dif_pos hj'] at hj
    exact (Option.some.inj hj).symm
   obtain ⟨hk, _, hcell⟩ := hf ⟨j, hj'⟩
   exact ⟨(f ⟨j, hj'⟩).2, kd.K_len hk, hp ▸ hk, hcell⟩
  ·
   rw [hlen]; simp only [maxLen] at hm; omega
  ·
   obtain ⟨i, hi, rfl⟩ := List.mem_iff_getElem.1 hy
   rw [List.getElem_ofFn]
   exact (hf _).2.1
theorem open_row {α : Type} {P : Program} {kd : Kd α} {G : List α → Prop} {t : TypeId} (e' : Nat) (ho : Opens P (Kd.slice e' kd) G t) {H : Type} {enc : TypeId × Value → H} {w : World} {base : Nat} {spare : Nat → Bool} {held : Bool} {a : Option Addr} {len cap : Nat} {d : DataW H} {ps : List MemPlace}
  (h : DataW.Trod enc P w base spare held t (.slice a len cap) d ps) : ∃ l : List α, l.length = len ∧ len ≤ cap ∧ kd.C w a l.length l ∧ G l := by
 obtain ⟨fuel, hf⟩ := h
 obtain ⟨l, ⟨A, c, hcs, hle, hC⟩, hG⟩ := ho H enc w base spare held fuel _ _ hf
 simp [Value.cells] at hcs
 obtain ⟨rfl, rfl, rfl⟩ := hcs
 exact ⟨l, rfl, hle, hC, hG⟩
end Go.Proofs.YthjmbagkomnpgaaDoorH
