-- Written by this session's own programs; what the law does not lean on is left out. Lean checks it.
import Derived.Test.YtalhpnfapagamaaQPureStepsMissing
import Derived.Test.YtalhpnfapagamaaQSc
namespace Go.Proofs.Ytalhpnfapagamaa.Pure
open Go Go.RowKit Go.Proofs.Ytalhpnfapagamaa.S Go.Proofs.YtalhpnfapagamaaW.PrintWords Go.Proofs.YtalhpnfapagamaaW.PrintLast Go.Proofs.Ytalhpnfapagamaa.Plain
set_option linter.unusedSimpArgs false
set_option linter.unusedVariables false
/-- The cuts of a list, as pairs. -/
def prs (l : List S62) : List (Int × Int) := (l.filter (fun s => decide (s.f0 = 3))).map (fun s => (s.f2, s.f1))
theorem prs_append (a b : List S62) : prs (a ++ b) = prs a ++ prs b := by unfold prs; rw [List.filter_append, List.map_append]
theorem prs_len (l : List S62) : (prs l).length = cntK l := by unfold prs cntK; rw [List.length_map]
theorem prs_cuts (l1 : List S93) (s l : Int) (m k : Nat) : prs (cutsL l1 s l m k) = ((List.range' k m).filter (fun j => decide (sd l1 j = s))).map (fun (j : Nat) => ((j : Int), l)) := by
 rw [cuts_eq]
 unfold prs
 rw [List.filter_eq_self.2 (fun x hx => by obtain ⟨j, _, rfl⟩ := List.mem_map.1 hx; rfl), List.map_map]
 rfl
theorem prs_change (c : Bool) (i : Int) : prs (if c = true then [(⟨1, i, 0⟩ : S62)] else []) = [] := by cases c <;> rfl
theorem mem_side (l1 : List S93) (s : Int) : ∀ m i p, ∀ x ∈ prs (sideL l1 s m i p), ∃ j l : Nat, x = ((j : Int), (l : Int)) ∧ sd l1 j = s ∧ j < l1.length ∧ i ≤ l ∧ l < i + m
 | 0, _, _, x, h => by simp [sideL, prs] at h
 | m + 1, i, p, x, h => by
  simp only [sideL] at h
  rw [prs_append, prs_append, prs_change, List.nil_append, prs_cuts] at h
  rcases List.mem_append.1 h with h | h
  ·
   obtain ⟨j, hj, rfl⟩ := List.mem_map.1 h
   obtain ⟨h1, h2⟩ := List.mem_filter.1 hj
   have := List.mem_range'_1.1 h1
   exact ⟨j, i, rfl, of_decide_eq_true h2, by omega, Nat.le_refl _, by omega⟩
  ·
   obtain ⟨j, l, e, h1, h2, h3, h4⟩ := mem_side l1 s m (i + 1) (i : Int) x h
   exact ⟨j, l, e, h1, h2, by omega, by omega⟩
theorem nodup_side (l1 : List S93) (s : Int) : ∀ m i p, (prs (sideL l1 s m i p)).Nodup
 | 0, _, _ => by simp [sideL, prs]
 | m + 1, i, p => by
  simp only [sideL]
  rw [prs_append, prs_append, prs_change, List.nil_append]
  refine List.nodup_append.2 ⟨?_, nodup_side l1 s m (i + 1) (i : Int), ?_⟩
  ·
   rw [prs_cuts]
   have h0 : ((List.range' 0 l1.length).filter (fun j => decide (sd l1 j = s))).Nodup := List.Nodup.sublist List.filter_sublist (List.nodup_range' (step := 1))
   refine List.Pairwise.map _ (fun a b h e => h ?_) h0
   have := congrArg Prod.fst e
   simp only [Int.natCast_inj] at this
   exact this
  ·
   intro a ha b hb e
   subst e
   rw [prs_cuts] at ha
   obtain ⟨j, _, rfl⟩ := List.mem_map.1 ha
   obtain ⟨j', l, e, _, _, h3, _⟩ := mem_side l1 s m (i + 1) (i : Int) _ hb
   have := congrArg Prod.snd e
   simp only [Int.natCast_inj] at this
   omega
theorem prs_of (n0 : Nat) (l1 : List S93) : (prs (ofL n0 l1)).Nodup ∧ ∀ x ∈ prs (ofL n0 l1), ∃ j l : Nat, x = ((j : Int), (l : Int)) ∧ j < l1.length ∧ l < n0 := by
 have g : ∀ s p x, x ∈ prs (sideL l1 s n0 0 p) → ∃ j l : Nat, x = ((j : Int), (l : Int)) ∧ j < l1.length ∧ l < n0 := fun s p x h => by
  obtain ⟨j, l, e, _, h2, _, h4⟩ := mem_side l1 s n0 0 p x h
  exact ⟨j, l, e, h2, by omega⟩
 have t2 : prs [(⟨2, 0, 0⟩ : S62)] = [] := rfl
 unfold ofL ofA
 cases e1 : sidB l1 1 <;> cases e2 : sidB l1 2
 all_goals (try simp only [if_true, if_false, Bool.false_eq_true, List.append_nil, List.nil_append, prs_append, t2])
 ·
  exact ⟨List.nodup_nil, fun x hx => by cases hx⟩
 ·
  exact ⟨nodup_side .., fun x hx => g _ _ x hx⟩
 ·
  exact ⟨nodup_side .., fun x hx => g _ _ x hx⟩
 ·
  refine ⟨List.nodup_append.2 ⟨nodup_side .., nodup_side .., ?_⟩, fun x hx => ?_⟩
  ·
   intro a ha b hb e
   subst e
   obtain ⟨j, l, e1, h1, _⟩ := mem_side l1 1 n0 0 _ _ ha
   obtain ⟨j', l', e2, h2, _⟩ := mem_side l1 2 n0 0 _ _ hb
   have := congrArg Prod.fst (e1.symm.trans e2)
   simp only [Int.natCast_inj] at this
   subst this
   rw [h1] at h2
   exact absurd h2 (by decide)
  ·
   rcases List.mem_append.1 hx with hx | hx
   ·
    exact g _ _ x hx
   ·
    exact g _ _ x hx
/-- The number of transfers. -/
def cntT (l : List S62) : Nat := (l.filter (fun s => decide (s.f0 = 2))).length
theorem cntT_cons (s : S62) (l : List S62) : cntT (s :: l) = (if s.f0 = 2 then 1 else 0) + cntT l := by
 unfold cntT
 by_cases h : s.f0 = 2
 ·
  rw [List.filter_cons_of_pos (by simp [h]), if_pos h, List.length_cons]; omega
 ·
  rw [List.filter_cons_of_neg (by simp [h]), if_neg h]; omega
theorem cntT_append (a b : List S62) : cntT (a ++ b) = cntT a + cntT b := by unfold cntT; rw [List.filter_append, List.length_append]
/-- Nothing but changes, transfers and cuts. -/
def kin (l : List S62) : Prop := ∀ x ∈ l, x.f0 = 1 ∨ x.f0 = 2 ∨ x.f0 = 3
theorem kin_len : ∀ l, kin l → l.length = cntK l + cntT l + cntC l
 | [], _ => rfl
 | s :: l, h => by
  have ih := kin_len l (fun x hx => h x (List.mem_cons_of_mem _ hx))
  rw [cntK_cons, cntT_cons, cntC_cons, List.length_cons]
  rcases h s List.mem_cons_self with h1 | h1 | h1 <;> rw [h1] <;> simp <;> omega
theorem kin_append {a b : List S62} (ha : kin a) (hb : kin b) : kin (a ++ b) := fun x hx => (List.mem_append.1 hx).elim (ha x) (hb x)
theorem kin_side (l1 : List S93) (s : Int) : ∀ m i p, kin (sideL l1 s m i p) ∧ cntT (sideL l1 s m i p) = 0
 | 0, _, _ => ⟨fun x hx => by simp [sideL] at hx, rfl⟩
 | m + 1, i, p => by
  simp only [sideL]
  obtain ⟨h1, h2⟩ := kin_side l1 s m (i + 1) (i : Int)
  have hc : ∀ x ∈ cutsL l1 s (i : Int) l1.length 0, x.f0 = 3 := fun x hx => by
   rw [cuts_eq] at hx
   obtain ⟨j, _, rfl⟩ := List.mem_map.1 hx
   rfl
  have hk : cntT (cutsL l1 s (i : Int) l1.length 0) = 0 := by
   unfold cntT
   rw [List.length_eq_zero_iff, List.filter_eq_nil_iff]
   intro x hx
   rw [hc x hx]
   decide
  have hch : kin (if ((i : Int) != p) = true then [(⟨1, (i : Int), 0⟩ : S62)] else []) ∧ cntT (if ((i : Int) != p) = true then [(⟨1, (i : Int), 0⟩ : S62)] else []) = 0 := by
   split
   ·
    exact ⟨fun x hx => by rw [List.mem_singleton.1 hx]; exact .inl rfl, rfl⟩
   ·
    exact ⟨(fun x hx => by cases hx), rfl⟩
  refine ⟨kin_append hch.1 (kin_append (fun x hx => .inr (.inr (hc x hx))) h1), ?_⟩
  rw [cntT_append, cntT_append, hch.2, hk, h2]
theorem kin_of (n0 : Nat) (l1 : List S93) : kin (ofL n0 l1) ∧ cntT (ofL n0 l1) = if sidB l1 1 = true ∧ sidB l1 2 = true then 1 else 0 := by
 have t2 : kin [(⟨2, 0, 0⟩ : S62)] ∧ cntT [(⟨2, 0, 0⟩ : S62)] = 1 := ⟨fun x hx => by rw [List.mem_singleton.1 hx]; exact .inr (.inl rfl), rfl⟩
 have g := fun s p => kin_side l1 s n0 0 p
 unfold ofL ofA
 cases e1 : sidB l1 1 <;> cases e2 : sidB l1 2
 all_goals (try simp only [if_true, if_false, Bool.false_eq_true, List.append_nil, List.nil_append, cntT_append, t2.2, (g _ _).2, and_true, and_false, true_and, false_and])
 ·
  exact ⟨(fun x hx => by cases hx), rfl⟩
 ·
  exact (g _ _).1
 ·
  exact (g _ _).1
 ·
  exact kin_append (kin_append (g _ _).1 t2.1) (g _ _).1
/-- All sides, each once. -/
def gath (m1 : List S68) : List Int := m1.foldl (fun s x => ins s x.f1) []
theorem ins_mem {s : List Int} {x y : Int} : y ∈ ins s x ↔ y ∈ s ∨ y = x := by
 unfold ins
 split
 ·
  rename_i h
  exact ⟨.inl, fun h1 => h1.elim id (fun e => e ▸ h)⟩
 ·
  simp
theorem ins_nodup {s : List Int} {x : Int} (h : s.Nodup) : (ins s x).Nodup := by
 unfold ins
 split
 ·
  exact h
 ·
  rename_i hx
  refine List.nodup_append.2 ⟨h, by simp, fun a ha b hb e => ?_⟩
  rw [List.mem_singleton.1 hb] at e
  exact hx (e ▸ ha)
theorem gath_spec : ∀ (m : List S68) (s : List Int), s.Nodup → (m.foldl (fun s x => ins s x.f1) s).Nodup ∧ ∀ y, y ∈ m.foldl (fun s x => ins s x.f1) s ↔ y ∈ s ∨ ∃ x ∈ m, x.f1 = y
 | [], s, h => ⟨h, by simp⟩
 | x :: m, s, h => by
  obtain ⟨h1, h2⟩ := gath_spec m (ins s x.f1) (ins_nodup h)
  refine ⟨h1, fun y => ?_⟩
  rw [List.foldl_cons, h2, ins_mem]
  simp only [List.mem_cons, exists_eq_or_imp]
  constructor
  ·
   rintro ((h | h) | h)
   ·
    exact .inl h
   ·
    exact .inr (.inl h.symm)
   ·
    exact .inr (.inr h)
  ·
   rintro (h | h | h)
   ·
    exact .inl (.inl h)
   ·
    exact .inl (.inr h.symm)
   ·
    exact .inr h
theorem two_len : ∀ {s : List Int}, s.Nodup → (∀ y ∈ s, y = 1 ∨ y = 2) → s.length = (if (1 : Int) ∈ s then 1 else 0) + (if (2 : Int) ∈ s then 1 else 0)
 | [], _, _ => rfl
 | [a], _, h => by rcases h a (by simp) with rfl | rfl <;> simp
 | [a, b], hn, h => by
  have hne : a ≠ b := fun e => by subst e; simp at hn
  rcases h a (by simp) with rfl | rfl <;> rcases h b (by simp) with rfl | rfl <;> first | exact absurd rfl hne | simp
 | a :: b :: c :: r, hn, h => by
  exfalso
  have h1 := h a (by simp)
  have h2 := h b (by simp)
  have h3 := h c (by simp)
  simp only [List.nodup_cons, List.mem_cons, not_or] at hn
  obtain ⟨⟨n1, n2, _⟩, ⟨n3, _⟩, _⟩ := hn
  rcases h1 with rfl | rfl <;> rcases h2 with rfl | rfl <;> rcases h3 with rfl | rfl <;> simp_all
theorem gath_len {m1 : List S68} (hs : sides (m1.map workOf)) : ((gath m1).length : Int) = (if sidB (m1.map workOf) 1 = true then 1 else 0) + (if sidB (m1.map workOf) 2 = true then 1 else 0) := by
 obtain ⟨h1, h2⟩ := gath_spec m1 [] List.nodup_nil
 have hm : ∀ y, y ∈ gath m1 ↔ ∃ x ∈ m1, x.f1 = y := fun y => by unfold gath; rw [h2]; simp
 have hb : ∀ s, sidB (m1.map workOf) s = true ↔ s ∈ gath m1 := fun s => by
  rw [hm]
  unfold sidB
  rw [List.any_map, List.any_eq_true]
  constructor
  ·
   rintro ⟨x, hx, h⟩
   exact ⟨x, hx, beq_iff_eq.1 h⟩
  ·
   rintro ⟨x, hx, h⟩
   exact ⟨x, hx, beq_iff_eq.2 h⟩
 have h12 : ∀ y ∈ gath m1, y = 1 ∨ y = 2 := fun y hy => by
  obtain ⟨x, hx, rfl⟩ := (hm y).1 hy
  obtain ⟨j, hj, rfl⟩ := List.getElem_of_mem hx
  have := hs j (by simpa using hj)
  unfold sd at this
  rw [List.getD_eq_getElem?_getD, List.getElem?_map, List.getElem?_eq_getElem hj] at this
  exact this
 have h1' : (gath m1).Nodup := h1
 rw [two_len h1' h12]
 have c1 := hb 1
 have c2 := hb 2
 by_cases a1 : (1 : Int) ∈ gath m1 <;> by_cases a2 : (2 : Int) ∈ gath m1
 ·
  rw [if_pos a1, if_pos a2, if_pos (c1.2 a1), if_pos (c2.2 a2)]; rfl
 ·
  rw [if_pos a1, if_neg a2, if_pos (c1.2 a1), if_neg (fun h => a2 (c2.1 h))]; rfl
 ·
  rw [if_neg a1, if_pos a2, if_neg (fun h => a1 (c1.1 h)), if_pos (c2.2 a2)]; rfl
 ·
  rw [if_neg a1, if_neg a2, if_neg (fun h => a1 (c1.1 h)), if_neg (fun h => a2 (c2.1 h))]; rfl
theorem l0_ev {m0 : List S94} {m1 : List S68} {L : List S62} (h1 : m1.length ≤ 22) (hs : ∀ x ∈ m1, 0 ≤ x.f1 ∧ x.f1 ≤ 1000) {R : Bool} (hr : Ev (fun k => culetlaw49_StepsCuts.l1 k (gath m1) [] L 0 0 m0 m1) R) :
  ∀ (d i : Nat), i + d = m1.length → Ev (fun k => culetlaw49_StepsCuts.l0 k (gath (m1.take i)) L i m0 m1) R
 | 0, i, h => by
  obtain rfl : i = m1.length := by omega
  refine Ev.step (fun k => ?_) hr
  simp only [culetlaw49_StepsCuts.l0]
  rw [if_neg (by omega), List.take_length]
 | d + 1, i, h => by
  have hi : i < m1.length := by omega
  have ih := l0_ev h1 hs hr d (i + 1) (by omega)
  refine Ev.step (fun k => ?_) ih
  simp only [culetlaw49_StepsCuts.l0]
  have e : (rd_T68 m1 (i : Int)).f1 = (m1[i]).f1 := by rw [rd68 hi]
  have hx := hs _ (List.getElem_mem hi)
  have z : wrap64 ((i : Int) + 1) = ((i + 1 : Nat) : Int) := by unfold wrap64; omega
  rw [if_pos (by omega), if_pos (by omega), if_pos (by omega), e, if_pos hx, z]
  have g : gath (m1.take (i + 1)) = ins (gath (m1.take i)) (m1[i]).f1 := by
   unfold gath
   rw [List.take_succ_eq_append_getElem hi, List.foldl_append]
   rfl
  rw [g]
theorem prs_one (s : S62) : prs [s] = if s.f0 = 3 then [(s.f2, s.f1)] else [] := by
 unfold prs
 by_cases h : s.f0 = 3
 ·
  rw [List.filter_cons_of_pos (by simp [h]), if_pos h]; rfl
 ·
  rw [List.filter_cons_of_neg (by simp [h]), if_neg h]; rfl
theorem cntT_one (s : S62) : cntT [s] = if s.f0 = 2 then 1 else 0 := by rw [cntT_cons]; rfl
theorem cntT_le (l : List S62) : cntT l ≤ l.length := List.length_filter_le _ _
theorem l1_ev {m0 : List S94} {m1 : List S68} {L : List S62} (g : List Int) (hL : L.length ≤ 1000) (hn : (prs L).Nodup) (hb : ∀ x ∈ prs L, (0 ≤ x.1 ∧ x.1 ≤ 1000) ∧ 0 ≤ x.2 ∧ x.2 ≤ 1000) {R : Bool}
  (hr : Ev (fun k => culetlaw49_StepsCuts.l1 k g (prs L) L ((cntT L : Nat) : Int) (L.length : Int) m0 m1) R) :
  ∀ (d i : Nat), i + d = L.length → Ev (fun k => culetlaw49_StepsCuts.l1 k g (prs (L.take i)) L ((cntT (L.take i) : Nat) : Int) i m0 m1) R
 | 0, i, h => by
  obtain rfl : i = L.length := by omega
  rw [List.take_length]
  exact hr
 | d + 1, i, h => by
  have hi : i < L.length := by omega
  have ih := l1_ev g hL hn hb hr d (i + 1) (by omega)
  have hs : L.take (i + 1) = L.take i ++ [L[i]] := List.take_succ_eq_append_getElem hi
  have hc : cntT (L.take i) ≤ 1000 := Nat.le_trans (cntT_le _) (by rw [List.length_take]; omega)
  rw [hs, prs_append, prs_one, cntT_append, cntT_one] at ih
  have z : wrap64 ((i : Int) + 1) = ((i + 1 : Nat) : Int) := by unfold wrap64; omega
  have zt : wrap64 (((cntT (L.take i) : Nat) : Int) + 1) = ((cntT (L.take i) + 1 : Nat) : Int) := by unfold wrap64; omega
  refine Ev.step (fun k => ?_) ih
  simp only [culetlaw49_StepsCuts.l1]
  have p0 : (i : Int) < (L.length : Int) := by clear z zt; omega
  have p1 : (0 : Int) ≤ (i : Int) := by clear z zt; omega
  rw [if_pos p0, if_pos p1, if_pos p0, rd62 hi, z]
  by_cases k3 : L[i].f0 = 3
  ·
   have hin : (L[i].f2, L[i].f1) ∈ prs L := by
    unfold prs
    exact List.mem_map.2 ⟨L[i], List.mem_filter.2 ⟨List.getElem_mem hi, by rw [k3]; rfl⟩, rfl⟩
   have hni : (L[i].f2, L[i].f1) ∉ prs (L.take i) := by
    have e : prs L = prs (L.take i) ++ ([(L[i].f2, L[i].f1)] ++ prs (L.drop (i + 1))) := by
     have e1 : prs [L[i]] = [(L[i].f2, L[i].f1)] := by rw [prs_one, if_pos k3]
     rw [← e1, ← prs_append, ← prs_append, List.singleton_append, List.getElem_cons_drop, List.take_append_drop]
    rw [e] at hn
    intro hm
    exact (List.nodup_append.1 hn).2.2 _ hm _ (by simp) rfl
   rw [if_pos k3, if_pos ⟨hb _ hin, hni⟩, if_pos k3, if_neg (by rw [k3]; decide)]
   rfl
  ·
   rw [if_neg k3, if_neg k3, List.append_nil]
   by_cases k2 : L[i].f0 = 2
   ·
    rw [if_pos k2, if_pos k2, zt]
   ·
    rw [if_neg k2, if_neg k2]
    rfl
theorem w_id (x : Int) (h0 : 0 ≤ x) (h : x ≤ 1000) : wrap64 x = x := by unfold wrap64; omega
theorem w_sum (N t c n : Nat) (h : n = N + t + c) (hn : n ≤ 1000) : wrap64 ((N : Int) + (t : Int) + (c : Int)) = (n : Int) ∧ wrap64 ((N : Int) + (t : Int)) = (N : Int) + (t : Int) ∧ wrap64 (N : Int) = (N : Int) ∧ wrap64 (t : Int) = (t : Int) :=
 ⟨(w_id _ (by omega) (by omega)).trans (by omega), w_id _ (by omega) (by omega), w_id _ (by omega) (by omega), w_id _ (by omega) (by omega)⟩
theorem StepsCuts (m0 : List S94) (m1 : List S68) (a2 a3 : Int) : ∃ k, culetlaw49_StepsCuts.f k m0 m1 a2 a3 = some true := by
 refine Ev.rounds ?_
 refine Ev.congr (fun k => by unfold culetlaw49_StepsCuts.f; rfl) (Ev.bind awake_ok ?_)
 refine Ev.congr (fun k => by rw [if_pos rfl]) (Ev.bind (few_ev m0 m1 a2 a3) ?_)
 cases hf : fewB m0 m1 with
 | false => exact Ev.congr (fun k => by unfold culetlaw49_StepsCuts.j0; rw [if_pos (by rfl)]) (Ev.bind awake_ok (Ev.now _))
 | true =>
  obtain ⟨h0, h1, s0, s1⟩ := few_bounds hf
  have own := own_ev m0 m1 a2 a3 h0 h1
  have e1 := of_ev (m0.map lapOf) (m1.map workOf) a2 a3 (mem_lapM s0) (mem_workM s1)
  refine Ev.congr (fun k => by unfold culetlaw49_StepsCuts.j0; rw [if_neg (by decide)]) (Ev.bind own (Ev.bind e1 ?_))
  cases hv : validB (m0.map lapOf) (m1.map workOf) a2 a3 with
  | false => exact Ev.congr (f := fun _ => some true) (fun k => rfl) (Ev.now _)
  | true =>
   obtain ⟨v0, v1, _, _, v2, _⟩ := valid_use hv
   refine Ev.congr (f := fun k => culetlaw49_StepsCuts.l0 k [] (ofL (m0.map lapOf).length (m1.map workOf)) 0 m0 m1) (fun k => rfl) ?_
   have hlen := of_len (m0.map lapOf).length (m1.map workOf) v0.2 v1.2
   have hcnt := cntK_of (m0.map lapOf).length (m1.map workOf) v2
   obtain ⟨k1, k2⟩ := kin_of (m0.map lapOf).length (m1.map workOf)
   have hk := kin_len _ k1
   obtain ⟨p1, p2⟩ := prs_of (m0.map lapOf).length (m1.map workOf)
   have hg := gath_len v2
   have hside := side_some v2 v1.1
   have hch := changes_ev (ofL (m0.map lapOf).length (m1.map workOf)) (Nat.le_trans hlen (by decide))
   generalize ofL (m0.map lapOf).length (m1.map workOf) = L at *
   have hpl := prs_len L
   have hs : ∀ x ∈ m1, 0 ≤ x.f1 ∧ x.f1 ≤ 1000 := fun x hx => by
    obtain ⟨j, hj, rfl⟩ := List.getElem_of_mem hx
    have := v2 j (by simpa using hj)
    unfold sd at this
    rw [List.getD_eq_getElem?_getD, List.getElem?_map, List.getElem?_eq_getElem hj] at this
    have h2 : m1[j].f1 = 1 ∨ m1[j].f1 = 2 := this
    omega
   have hb : ∀ x ∈ prs L, (0 ≤ x.1 ∧ x.1 ≤ 1000) ∧ 0 ≤ x.2 ∧ x.2 ≤ 1000 := fun x hx => by
    obtain ⟨j, l, rfl, hj, hl⟩ := p2 x hx
    simp only
    omega
   refine l0_ev h1 hs ?_ m1.length 0 (by omega)
   refine l1_ev (gath m1) (by omega) p1 hb ?_ L.length 0 (by omega)
   have hN : (m1.map workOf).length * (m0.map lapOf).length ≤ 120 := Nat.mul_le_mul v1.2 v0.2
   have hmul : (m1.length : Int) * (m0.length : Int) = (((m1.map workOf).length * (m0.map lapOf).length : Nat) : Int) := by rw [List.length_map, List.length_map]; push_cast; rfl
   generalize hNN : (m1.map workOf).length * (m0.map lapOf).length = N at *
   have htr : ((cntT L : Nat) : Int) = ((gath m1).length : Int) - 1 := by
    rw [hg, k2]
    generalize sidB (m1.map workOf) 1 = q1 at hside ⊢
    generalize sidB (m1.map workOf) 2 = q2 at hside ⊢
    cases q1 <;> cases q2 <;> simp at hside ⊢
   have hgl : ((gath m1).length : Int) ≤ 2 := by
    rw [hg]
    cases sidB (m1.map workOf) 1 <;> cases sidB (m1.map workOf) 2 <;> simp
   have hA : L.length = N + cntT L + cntC L := by omega
   have hB : L.length ≤ 1000 := by omega
   obtain ⟨hC, hT, hNw, hcw⟩ := w_sum N (cntT L) (cntC L) L.length hA hB
   rw [← hmul] at hNw
   rw [htr] at hcw
   refine Ev.step (f := fun k => (steps_Changes.f k L).bind fun t165 => some ((L.length : Int) == wrap64 ((N : Int) + ((cntT L : Nat) : Int) + t165))) (fun k => ?_) (Ev.bind hch ?_)
   ·
    simp only [culetlaw49_StepsCuts.l1]
    rw [if_neg (Int.lt_irrefl _), hNw, hcw, if_pos (by rw [hpl, hcnt, hmul]), if_pos htr, hmul, hT]
   ·
    rw [hC, beq_self_eq_true]
    exact Ev.now _
end Go.Proofs.Ytalhpnfapagamaa.Pure
