-- Written by this session's own programs; what the law does not lean on is left out. Lean checks it.
import Derived.Test.YtalhpnfapagamaaQS
import Derived.DeepKeys5
import Derived.Maps.RangeRun
import Derived.Maps.Own
import Derived.Carry
import Derived.WideKeyEntry
namespace Go.Proofs.Ytalhpnfapagamaa.S
set_option linter.unusedSimpArgs false
set_option linter.unusedVariables false
open Go.RowKit Go.Proofs.YtalhpnfapagamaaW.PrintWords Go.Proofs.YtalhpnfapagamaaW.PrintLast Go.Proofs.YtalhpnfapagamaaW.PrintMore Go.Maps Go.ChangeMaps
/-- The entries of a map into which these keys were laid, one by one, each with the same element. -/
def ents {α : Type} (kf : α → Value) (v : Value) (s : List α) : Array MapEntry := (s.mapIdx fun i x => (⟨kf x, v, i⟩ : MapEntry)).toArray
theorem ents_push {α : Type} (kf : α → Value) (v : Value) (s : List α) (x : α) : ents kf v (s ++ [x]) = (ents kf v s).push ⟨kf x, v, s.length⟩ := by
 unfold ents
 rw [List.mapIdx_concat, List.push_toArray]
theorem ents_size {α : Type} (kf : α → Value) (v : Value) (s : List α) : (ents kf v s).size = s.length := by unfold ents; simp
theorem ents_len {α : Type} (kf : α → Value) (v : Value) (s : List α) : (ents kf v s).toList.length = s.length := by unfold ents; simp
theorem mem_ents {α : Type} {kf : α → Value} {v : Value} {s : List α} {e : MapEntry} (h : e ∈ (ents kf v s).toList) : ∃ x ∈ s, e.key = kf x ∧ e.val = v ∧ e.born < s.length := by
 unfold ents at h
 obtain ⟨i, hi, he⟩ := List.getElem_of_mem h
 simp only [List.getElem_mapIdx] at he
 have hi' : i < s.length := by simpa using hi
 subst he
 exact ⟨s[i], List.getElem_mem hi', rfl, rfl, hi'⟩
theorem ents_born {α : Type} (kf : α → Value) (v : Value) (s : List α) : ((ents kf v s).toList.map (·.born)) = List.range s.length := by
 unfold ents
 apply List.ext_getElem
 ·
  simp
 ·
  intro i h1 h2
  simp
theorem ents_nodup {α : Type} (kf : α → Value) (v : Value) (s : List α) : ((ents kf v s).toList.map (·.born)).Nodup := by rw [ents_born]; exact List.nodup_range
section
variable {P : Program} {t k e : TypeId} {α : Type} {kf : α → Value} {v z : Value} {s : List α} {W : World} {b : Nat} {x : α}
theorem keys_ents (hk : ∀ y ∈ s, ∃ l, keyOf P k (kf y) = some l) : ∀ q ∈ (ents kf v s).toList, ∃ l, keyOf P k q.key = some l := by
 intro q hq
 obtain ⟨y, hy, e1, _, _⟩ := mem_ents hq
 rw [e1]
 exact hk y hy
theorem find_new (K : Keyed P k) (inj : ∀ a c, kf a = kf c → a = c) (hk : ∀ y ∈ s, ∃ l, keyOf P k (kf y) = some l) (hx : ∃ l, keyOf P k (kf x) = some l) (hn : x ∉ s) (w : World) : (Instr.findKey k (kf x) (ents kf v s).toList).run P w = .ok none w := by
 obtain ⟨l, hl⟩ := hx
 rcases K.find w hl (ents kf v s).toList (keys_ents hk) with ⟨h1, _⟩ | ⟨j, q, _, h2, h3⟩
 ·
  exact h1
 ·
  obtain ⟨y, hy, e1, _, _⟩ := mem_ents (List.mem_of_getElem? h2)
  exact absurd (inj _ _ (e1.symm.trans h3) ▸ hy) hn
theorem update_new (K : Keyed P k) (ht : P.underlying t = some (.map k e)) (inj : ∀ a c, kf a = kf c → a = c) (hk : ∀ y ∈ s, ∃ l, keyOf P k (kf y) = some l) (hx : ∃ l, keyOf P k (kf x) = some l) (hn : x ∉ s)
  (hb : W.heap[b]? = some (.map (ents kf v s) s.length)) : (Instr.mapUpdate t (.map (some b)) (kf x) v).run P W = .ok () (setBlock W b (.map (ents kf v (s ++ [x])) (s ++ [x]).length)) := by
 have hf := find_new (v := v) K inj hk hx hn W
 obtain ⟨l, hl⟩ := hx
 rw [ents_push, List.length_append, List.length_singleton]
 simp [Instr.mapUpdate, run_underlying ht, MapKept.run_getObj_map hb, K.check W false hl, hf, MapKept.run_setObj_map _ hb, Result.andThen, setBlock]
theorem update_old (K : Keyed P k) (ht : P.underlying t = some (.map k e)) (hk : ∀ y ∈ s, ∃ l, keyOf P k (kf y) = some l) (hn : x ∈ s)
  (hb : W.heap[b]? = some (.map (ents kf v s) s.length)) : (Instr.mapUpdate t (.map (some b)) (kf x) v).run P W = .ok () (setBlock W b (.map (ents kf v s) s.length)) := by
 obtain ⟨l, hl⟩ := hk x hn
 rcases K.find W hl (ents kf v s).toList (keys_ents hk) with ⟨_, h2⟩ | ⟨j, q, h1, h2, h3⟩
 ·
  obtain ⟨i, hi, he⟩ := List.getElem_of_mem hn
  have hm : (⟨kf s[i], v, i⟩ : MapEntry) ∈ (ents kf v s).toList := by
   unfold ents
   refine List.mem_of_getElem? (i := i) ?_
   simp [hi]
  exact absurd (by rw [he]) (h2 _ hm)
 ·
  have hj : (ents kf v s)[j]? = some q := by simpa using h2
  obtain ⟨y, _, _, e2, _⟩ := mem_ents (List.mem_of_getElem? h2)
  have hsame : (ents kf v s).modify j (fun q => { q with key := kf x, val := v }) = ents kf v s := by
   apply Array.ext'
   rw [Array.toList_modify, modify_eq_set _ _ _ _ h2]
   have : ({ q with key := kf x, val := v } : MapEntry) = q := by rw [← h3, ← e2]
   rw [this]
   exact WideElems.set_self _ _ _ h2
  simp [Instr.mapUpdate, run_underlying ht, MapKept.run_getObj_map hb, K.check W false hl, h1, hj, h3, K.stays W hl, hsame, MapKept.run_setObj_map _ hb, Result.andThen, setBlock]
theorem entry_new (K : Keyed P k) (ht : P.underlying t = some (.map k e)) (inj : ∀ a c, kf a = kf c → a = c) (hk : ∀ y ∈ s, ∃ l, keyOf P k (kf y) = some l) (hx : ∃ l, keyOf P k (kf x) = some l) (hn : x ∉ s) (hz : (zeroValue e).run P W = .ok z W)
  (hb : W.heap[b]? = some (.map (ents kf v s) s.length)) : (Instr.mapEntry t (.map (some b)) (kf x)).run P W = .ok (.tuple #[z, goInt s.length]) (setBlock W b (.map ((ents kf v s).push ⟨kf x, z, s.length⟩) (s.length + 1))) := by
 have hf := find_new (v := v) K inj hk hx hn W
 obtain ⟨l, hl⟩ := hx
 simp [Instr.mapEntry, run_underlying ht, MapKept.run_getObj_map hb, K.check W false hl, hf, hz, MapKept.run_setObj_map _ hb, Result.andThen, setBlock]
theorem store_new (hb : W.heap[b]? = some (.map ((ents kf v s).push ⟨kf x, z, s.length⟩) (s.length + 1))) : (Instr.entryStore t (.map (some b)) (goInt s.length) v).run P W = .ok () (setBlock W b (.map (ents kf v (s ++ [x])) (s ++ [x]).length)) := by
 have hidx : ((ents kf v s).push ⟨kf x, z, s.length⟩).findIdx? (fun e => ((e.born : Nat) : Int) == ((s.length : Nat) : Int)) = some s.length := by
  rw [WideElems.findIdx_arr]
  have := WideElems.findIdx_born (l := ((ents kf v s).push ⟨kf x, z, s.length⟩).toList) (j := s.length) (e0 := ⟨kf x, z, s.length⟩) (by
   simp only [Array.toList_push, List.map_append, List.map_cons, List.map_nil]
   rw [ents_born, ← List.range_succ]
   exact List.nodup_range) (by
   rw [Array.toList_push, List.getElem?_append_right (Nat.le_of_eq (ents_len kf v s)), ents_len, Nat.sub_self]
   rfl)
  exact this
 have hmod : ((ents kf v s).push ⟨kf x, z, s.length⟩).modify s.length (fun e => { e with val := v }) = (ents kf v s).push ⟨kf x, v, s.length⟩ := by
  apply Array.ext'
  have := WideElems.modify_last (fun e : MapEntry => { e with val := v }) ⟨kf x, z, s.length⟩ (ents kf v s).toList
  rw [ents_len] at this
  rw [Array.toList_modify, Array.toList_push, Array.toList_push, this]
 rw [ents_push, List.length_append, List.length_singleton]
 simp [Instr.entryStore, MapKept.run_getObj_map hb, asInt, asIntOf, goInt, hidx, hmod, MapKept.run_setObj_map _ hb, Result.andThen, setBlock]
theorem look_new (K : Keyed P k) (ht : P.underlying t = some (.map k e)) (inj : ∀ a c, kf a = kf c → a = c) (hk : ∀ y ∈ s, ∃ l, keyOf P k (kf y) = some l) (hx : ∃ l, keyOf P k (kf x) = some l) (hn : x ∉ s) (hz : (zeroValue e).run P W = .ok z W)
  (hb : W.heap[b]? = some (.map (ents kf v s) s.length)) : (Instr.lookup t (.map (some b)) (kf x) false).run P W = .ok z W := by
 have hf := find_new (v := v) K inj hk hx hn W
 obtain ⟨l, hl⟩ := hx
 have he := K.check W (ents kf v s).isEmpty hl
 simp [Instr.lookup, run_underlying ht, MapKept.run_getObj_map hb, he, hf, hz, Result.andThen]
theorem look_zero (K : Keyed P k) (ht : P.underlying t = some (.map k e)) (inj : ∀ a c, kf a = kf c → a = c) (hk : ∀ y ∈ s, ∃ l, keyOf P k (kf y) = some l) (hx : ∃ l, keyOf P k (kf x) = some l) (hn : x ∉ s) (hz : (zeroValue e).run P W = .ok z W)
  (hb : W.heap[b]? = some (.map ((ents kf v s).push ⟨kf x, z, s.length⟩) (s.length + 1))) : (Instr.lookup t (.map (some b)) (kf x) false).run P W = .ok z W := by
 obtain ⟨l, hl⟩ := hx
 have hks : ∀ q ∈ ((ents kf v s).push ⟨kf x, z, s.length⟩).toList, ∃ l, keyOf P k q.key = some l := by
  intro q hq
  rw [Array.toList_push, List.mem_append, List.mem_singleton] at hq
  rcases hq with hq | rfl
  ·
   exact keys_ents hk q hq
  ·
   exact ⟨l, hl⟩
 have he := K.check W true hl
 have he' := K.check W false hl
 rcases K.find W hl ((ents kf v s).push ⟨kf x, z, s.length⟩).toList hks with ⟨_, h2⟩ | ⟨j, q, h1, h2, h3⟩
 ·
  exact absurd rfl (h2 ⟨kf x, z, s.length⟩ (by simp))
 ·
  have hq := List.mem_of_getElem? h2
  rw [Array.toList_push, List.mem_append, List.mem_singleton] at hq
  rcases hq with hq | rfl
  ·
   obtain ⟨y, hy, e1, _, _⟩ := mem_ents hq
   exact absurd (inj _ _ (e1.symm.trans h3) ▸ hy) hn
  ·
   have h1' : (Instr.findKey k (kf x) ((ents kf v s).toList ++ [⟨kf x, z, s.length⟩])).run P W = .ok (some (j, z)) W := by rw [← Array.toList_push]; exact h1
   simp [Instr.lookup, run_underlying ht, MapKept.run_getObj_map hb, he, he', h1', hz, Result.andThen]
end
end Go.Proofs.Ytalhpnfapagamaa.S
