-- Written by this session's own programs; what the law does not lean on is left out. Lean checks it.
import Derived.Test.YtalhpnfapagamaaTP
import Derived.Test.YtalhpnfapagamaaTSm
namespace Go.Proofs.Ytalhpnfapagamaa.Pure
open Go Go.RowKit Go.Proofs.Ytalhpnfapagamaa.S Go.Proofs.YtalhpnfapagamaaW.PrintWords Go.Proofs.YtalhpnfapagamaaW.PrintLast Go.Proofs.Ytalhpnfapagamaa.Plain

theorem mem_lapM {m0 : List S94} (h : ∀ x ∈ m0, x.f0.size ≤ 40) : ∀ x ∈ m0.map lapOf, x.f0.size ≤ 40 := fun x hx => by
 obtain ⟨y, hy, rfl⟩ := List.mem_map.1 hx
 exact h y hy
theorem mem_workM {m1 : List S68} (h : ∀ x ∈ m1, x.f0.size ≤ 40) : ∀ x ∈ m1.map workOf, x.f0.size ≤ 40 := fun x hx => by
 obtain ⟨y, hy, rfl⟩ := List.mem_map.1 hx
 exact h y hy
/-- The number of cuts. -/
def cntK (l : List S62) : Nat := (l.filter (fun s => decide (s.f0 = 3))).length
theorem cntK_cons (s : S62) (l : List S62) : cntK (s :: l) = (if s.f0 = 3 then 1 else 0) + cntK l := by
 unfold cntK
 by_cases h : s.f0 = 3
 ·
  rw [List.filter_cons_of_pos (by simp [h]), if_pos h, List.length_cons]; omega
 ·
  rw [List.filter_cons_of_neg (by simp [h]), if_neg h]; omega
theorem cntK_append (a b : List S62) : cntK (a ++ b) = cntK a + cntK b := by unfold cntK; rw [List.filter_append, List.length_append]
/-- How often all works are cut. -/
def tot (done : List Int) : Nat → Int
 | 0 => 0
 | m + 1 => tot done m + done.getD m 0
theorem tot_set (done : List Int) (w : Nat) (v : Int) (hw : w < done.length) : ∀ m, tot (done.set w v) m = tot done m + if w < m then v - done.getD w 0 else 0
 | 0 => by simp [tot]
 | m + 1 => by
  have ih := tot_set done w v hw m
  simp only [tot]
  rw [ih, List.getD_eq_getElem?_getD (l := done.set w v), List.getElem?_set]
  by_cases h : w = m
  ·
   subst h
   rw [if_pos rfl, if_pos hw, if_neg (by omega), if_pos (by omega), Option.getD_some]; omega
  ·
   rw [if_neg h, ← List.getD_eq_getElem?_getD]
   by_cases h2 : w < m
   ·
    rw [if_pos h2, if_pos (by omega)]; omega
   ·
    rw [if_neg h2, if_neg (by omega)]; omega
theorem step_tot {n0 : Nat} {l1 : List S93} {q q1 : St} {s : S62} (hl : q.2.1.length = l1.length) (h : stepF n0 l1 q.1 q.2.1 q.2.2 s = some q1) : q1.2.1.length = l1.length ∧ tot q1.2.1 l1.length = tot q.2.1 l1.length + if s.f0 = 3 then 1 else 0 := by
 unfold stepF at h
 by_cases k1 : s.f0 = 1
 ·
  rw [if_pos k1] at h
  split at h
  ·
   obtain rfl := Option.some.inj h
   refine ⟨hl, ?_⟩
   rw [if_neg (by rw [k1]; decide)]; simp
  ·
   cases h
 ·
  rw [if_neg k1] at h
  by_cases k2 : s.f0 = 2
  ·
   rw [if_pos k2] at h
   split at h
   ·
    obtain rfl := Option.some.inj h
    refine ⟨hl, ?_⟩
    rw [if_neg (by rw [k2]; decide)]; simp
   ·
    cases h
  ·
   rw [if_neg k2] at h
   by_cases k3 : s.f0 = 3
   ·
    rw [if_pos k3] at h
    split at h
    case isFalse => cases h
    case isTrue hc =>
    obtain rfl := Option.some.inj h
    unfold cutB at hc
    simp only [Bool.and_eq_true, inB_iff] at hc
    obtain ⟨w, hw⟩ := Int.eq_ofNat_of_zero_le hc.1.1
    have hwn : w < l1.length := by omega
    refine ⟨by rw [List.length_set]; exact hl, ?_⟩
    dsimp only
    rw [hw, Int.toNat_natCast, tot_set _ _ _ (by omega), if_pos hwn, rd_nat_, if_pos k3]; omega
   ·
    rw [if_neg k3] at h; cases h
theorem run_tot {n0 : Nat} {l1 : List S93} : ∀ {l : List S62} {q q1 : St}, q.2.1.length = l1.length → runL n0 l1 l q = some q1 → tot q1.2.1 l1.length = tot q.2.1 l1.length + (cntK l : Int)
 | [], q, q1, _, h => by obtain rfl := Option.some.inj h; simp [cntK]
 | s :: l, q, q1, hl, h => by
  simp only [runL] at h
  obtain ⟨q2, h1, h2⟩ := Option.bind_eq_some_iff.mp h
  obtain ⟨a, b⟩ := step_tot hl h1
  rw [run_tot a h2, b, cntK_cons]
  split <;> (push_cast; omega)
theorem tot_zero (n : Nat) : ∀ m, tot (List.replicate n 0) m = 0
 | 0 => rfl
 | m + 1 => by
  simp only [tot]
  rw [tot_zero n m, show ((List.replicate n (0 : Int)).getD m 0) = 0 by rw [List.getD_eq_getElem?_getD, List.getElem?_replicate]; split <;> rfl]; rfl
theorem tot_ge (done : List Int) (n0 : Nat) : ∀ m, (∀ j, j < m → (n0 : Int) ≤ done.getD j 0) → ((m * n0 : Nat) : Int) ≤ tot done m
 | 0, _ => by simp [tot]
 | m + 1, h => by
  have a := tot_ge done n0 m (fun j hj => h j (by omega))
  have b := h m (by omega)
  simp only [tot]
  rw [Nat.add_mul, Nat.one_mul]
  push_cast at a ⊢
  omega
theorem cuts_ge {n0 : Nat} {l1 : List S93} {l : List S62} (hs : sides l1) (h : (chk n0 l1 l).2 = 0) : l1.length * n0 ≤ cntK l := by
 obtain ⟨q, hq, f1, f2, _⟩ := chk_ok h
 have a := run_tot (by simp [q0]) hq
 have b := tot_ge q.2.1 n0 l1.length (fun j hj => by
  have fd : ∀ s, finB n0 l1 q.2.1 s = true → sd l1 j = s → (n0 : Int) ≤ q.2.1.getD j 0 := fun s hf hsd => by
   unfold finB at hf
   rw [List.all_eq_true] at hf
   have := hf j (List.mem_range.2 hj)
   unfold finAt at this
   rw [show ((l1.getD j z93).f1 == s) = true from beq_iff_eq.2 hsd, Bool.true_and, Bool.not_eq_true', decide_eq_false_iff_not] at this
   omega
  rcases hs j hj with h | h
  ·
   exact fd 1 f1 h
  ·
   exact fd 2 f2 h)
 have c : tot (q0 l1).2.1 l1.length = 0 := tot_zero _ _
 rw [c] at a
 omega
theorem cntK_cuts (l1 : List S93) (s l : Int) : ∀ m k, cntK (cutsL l1 s l m k) = (cutsL l1 s l m k).length
 | 0, _ => rfl
 | m + 1, k => by
  simp only [cutsL]
  split
  ·
   rw [cntK_cons, cntK_cuts l1 s l m (k + 1), List.length_cons]; simp; omega
  ·
   exact cntK_cuts l1 s l m (k + 1)
theorem cuts_length (l1 : List S93) (s l : Int) : (cutsL l1 s l l1.length 0).length = (wk l1 s).length := by rw [cuts_eq]; unfold wk; rw [List.length_map]
theorem cntK_side (l1 : List S93) (s : Int) : ∀ m i p, cntK (sideL l1 s m i p) = m * (wk l1 s).length
 | 0, _, _ => by simp [sideL, cntK]
 | m + 1, i, p => by
  simp only [sideL]
  rw [cntK_append, cntK_append, cntK_cuts, cuts_length, cntK_side l1 s m (i + 1) (i : Int), Nat.add_mul, Nat.one_mul]
  have : cntK (if ((i : Int) != p) = true then [(⟨1, (i : Int), 0⟩ : S62)] else []) = 0 := by split <;> rfl
  omega
theorem cntK_of (n0 : Nat) (l1 : List S93) (hs : sides l1) : cntK (ofL n0 l1) = l1.length * n0 := by
 have hb := wk_both hs
 have h1 := wk_some l1 1
 have h2 := wk_some l1 2
 unfold ofL ofA
 rw [← hb, Nat.add_mul, Nat.mul_comm _ n0, Nat.mul_comm _ n0]
 cases e1 : sidB l1 1 with
 | false =>
  rw [e1] at h1
  have z1 : (wk l1 1).length = 0 := by have := of_decide_eq_false h1.symm; omega
  cases e2 : sidB l1 2 with
  | false =>
   rw [e2] at h2
   have z2 : (wk l1 2).length = 0 := by have := of_decide_eq_false h2.symm; omega
   rw [z1, z2]; rfl
  | true => rw [if_neg (show ¬ (false = true) by simp), if_pos rfl, List.nil_append, cntK_side, z1]; omega
 | true =>
  cases e2 : sidB l1 2 with
  | false =>
   rw [e2] at h2
   have z2 : (wk l1 2).length = 0 := by have := of_decide_eq_false h2.symm; omega
   rw [if_pos rfl, if_neg (show ¬ (false = true) by simp), if_neg (show ¬ (false = true) by simp), List.append_nil, List.append_nil, cntK_side, z2]; omega
  | true =>
   rw [if_pos rfl, if_pos rfl, if_pos rfl, cntK_append, cntK_append, cntK_side, cntK_side]
   have : cntK [(⟨2, 0, 0⟩ : S62)] = 0 := rfl
   omega
theorem missing_chk {n0 : Nat} {l1 : List S93} (hs : sides l1) {k : Nat} (hk : k < (ofL n0 l1).length) (k3 : ((ofL n0 l1)[k]).f0 = 3) : (chk n0 l1 ((ofL n0 l1).take k ++ (ofL n0 l1).drop (k + 1))).2 ≠ 0 := by
 intro h
 have a := cuts_ge hs h
 have b := cntK_of n0 l1 hs
 generalize ofL n0 l1 = L at *
 have e : L = L.take k ++ (L[k] :: L.drop (k + 1)) := by rw [← List.drop_eq_getElem_cons hk, List.take_append_drop]
 have c : cntK L = cntK (L.take k) + (1 + cntK (L.drop (k + 1))) := by
  conv => lhs; rw [e]
  rw [cntK_append, cntK_cons, if_pos k3]
 rw [cntK_append] at a
 omega
theorem StepsMissing (m0 : List S94) (m1 : List S68) (a2 a3 : Int) (a1 : Int) (w : (Lit.int .u16 a1).wf = true) : ∃ k, culetlaw49_StepsMissing.f k m0 m1 a2 a3 a1 = some true := by
 have hw : 0 ≤ a1 ∧ a1 ≤ 65535 := by
  have e0 : IntKind.u16.min = 0 := rfl
  have e1 : IntKind.u16.max = 65535 := rfl
  simp only [Lit.wf, e0, e1, Bool.and_eq_true, decide_eq_true_eq] at w
  exact w
 refine Ev.rounds ?_
 refine Ev.congr (fun k => by unfold culetlaw49_StepsMissing.f; rfl) (Ev.bind awake_ok ?_)
 refine Ev.congr (fun k => by rw [if_pos rfl]) (Ev.bind (few_ev m0 m1 a2 a3) ?_)
 cases hf : fewB m0 m1 with
 | false => exact Ev.congr (f := fun _ => some true) (fun k => by rw [if_neg (by simp)]) (Ev.now _)
 | true =>
  obtain ⟨h0, h1, s0, s1⟩ := few_bounds hf
  have own := own_ev m0 m1 a2 a3 h0 h1
  have t0 := mem_lapM s0
  have t1 := mem_workM s1
  have e1 := of_ev (m0.map lapOf) (m1.map workOf) a2 a3 t0 t1
  refine Ev.congr (fun k => by rw [if_pos rfl]) (Ev.bind own (Ev.bind e1 ?_))
  cases hv : validB (m0.map lapOf) (m1.map workOf) a2 a3 with
  | false => exact Ev.congr (f := fun _ => some true) (fun k => rfl) (Ev.now _)
  | true =>
   obtain ⟨v0, v1, _, _, v2, _⟩ := valid_use hv
   rw [if_pos rfl]
   have hlen := of_len (m0.map lapOf).length (m1.map workOf) v0.2 v1.2
   have hcnt := cntK_of (m0.map lapOf).length (m1.map workOf) v2
   have hmis := fun (k : Nat) (hk : k < (ofL (m0.map lapOf).length (m1.map workOf)).length) => missing_chk (n0 := (m0.map lapOf).length) v2 hk
   generalize ofL (m0.map lapOf).length (m1.map workOf) = L at *
   have hne : ¬ L.length = 0 := fun e => by
    rw [List.length_eq_zero_iff.1 e] at hcnt
    have : 1 ≤ (m1.map workOf).length * (m0.map lapOf).length := Nat.mul_le_mul v1.1 v0.1
    rw [show cntK [] = 0 from rfl] at hcnt
    omega
   obtain ⟨i, hi⟩ : ∃ i : Nat, Int.tmod a1 (L.length : Int) = (i : Int) ∧ i < L.length := by
    rw [Int.tmod_eq_emod_of_nonneg hw.1]
    have a := Int.emod_nonneg a1 (show (L.length : Int) ≠ 0 by omega)
    have b := Int.emod_lt_of_pos a1 (show 0 < (L.length : Int) by omega)
    exact ⟨(a1 % (L.length : Int)).toNat, by omega, by omega⟩
   have p0 : 0 ≤ (i : Int) := by omega
   have p1 : (i : Int) < (L.length : Int) := by omega
   have p2 : L.length ≤ 1000000 := Nat.le_trans hlen (by decide)
   have hc := check_ev (m0.map lapOf) (m1.map workOf) a2 a3 (L.take i ++ L.drop (i + 1)) t0 t1 (by rw [List.length_append, List.length_take, List.length_drop]; omega)
   rw [hv, if_pos rfl] at hc
   have z2 : wrap64 a1 = a1 := by unfold wrap64; omega
   have c2 := hi.2
   have hs : ∀ k, culetlaw49_StepsMissing.s k (m0.map lapOf) (m1.map workOf) a2 a3 a1 L 0 = if L[i].f0 = 3 then ((steps_Check.f k (m0.map lapOf) (m1.map workOf) a2 a3 (L.take i ++ L.drop (i + 1))).bind fun c => some (c.2 == 8 || c.2 == 9)) else some true := fun k => by
    unfold culetlaw49_StepsMissing.s culetlaw49_StepsMissing.t
    rw [if_pos rfl, if_neg hne, if_pos p2, z2, hi.1, if_pos p0, if_pos p1, rd62 c2, Int.toNat_natCast]
   refine Ev.congr hs ?_
   by_cases k3 : L[i].f0 = 3
   ·
    refine Ev.congr (fun k => by rw [if_pos k3]) (Ev.bind hc ?_)
    have := hmis i c2 k3
    rcases chk_cases (m0.map lapOf).length (m1.map workOf) (L.take i ++ L.drop (i + 1)) with h | h | h
    ·
     exact absurd h this
    ·
     rw [h]; exact Ev.now _
    ·
     rw [h]; exact Ev.now _
   ·
    exact Ev.congr (f := fun _ => some true) (fun k => by rw [if_neg k3]) (Ev.now _)
end Go.Proofs.Ytalhpnfapagamaa.Pure
