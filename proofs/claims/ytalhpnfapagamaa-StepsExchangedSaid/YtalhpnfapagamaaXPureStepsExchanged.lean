-- Written by this session's own programs; what the law does not lean on is left out. Lean checks it.
import Derived.Test.YtalhpnfapagamaaXP
import Derived.Test.YtalhpnfapagamaaXSe
namespace Go.Proofs.Ytalhpnfapagamaa.Pure
open Go Go.RowKit Go.Proofs.Ytalhpnfapagamaa.S Go.Proofs.YtalhpnfapagamaaW.PrintWords Go.Proofs.YtalhpnfapagamaaW.PrintLast Go.Proofs.Ytalhpnfapagamaa.Plain

theorem mem_lapE {m0 : List S94} (h : ∀ x ∈ m0, x.f0.size ≤ 40) : ∀ x ∈ m0.map lapOf, x.f0.size ≤ 40 := fun x hx => by
 obtain ⟨y, hy, rfl⟩ := List.mem_map.1 hx
 exact h y hy
theorem mem_workE {m1 : List S68} (h : ∀ x ∈ m1, x.f0.size ≤ 40) : ∀ x ∈ m1.map workOf, x.f0.size ≤ 40 := fun x hx => by
 obtain ⟨y, hy, rfl⟩ := List.mem_map.1 hx
 exact h y hy
theorem cut_says {n0 : Nat} {l1 : List S93} {lap : Int} {done : List Int} {mv : Bool} {s : S62} {q : St} (h3 : s.f0 = 3) (h : stepF n0 l1 lap done mv s = some q) :
  ∃ w : Nat, s.f2 = (w : Int) ∧ w < l1.length ∧ s.f1 = lap ∧ done.getD w 0 = lap ∧ (sidB l1 1 = true → sidB l1 2 = true → mv = (sd l1 w == 2)) ∧ (∀ i, i < w → sd l1 i = sd l1 w → lap < done.getD i 0) ∧ q = (lap, done.set w (lap + 1), mv) := by
 unfold stepF at h
 rw [if_neg (by rw [h3]; decide), if_neg (by rw [h3]; decide), if_pos h3] at h
 split at h
 case isFalse => cases h
 case isTrue hc =>
 obtain rfl := Option.some.inj h
 unfold cutB at hc
 simp only [Bool.and_eq_true, inB_iff, beq_iff_eq] at hc
 obtain ⟨hw, hl, hd, hb, hf⟩ := hc
 obtain ⟨w, hw'⟩ := Int.eq_ofNat_of_zero_le hw.1
 have hwn : w < l1.length := by omega
 rw [hw'] at hd hb hf
 rw [rd_nat_] at hd
 have hX : (rd_T93 l1 (w : Int)).f1 = sd l1 w := by unfold rd_T93; rw [Int.toNat_natCast]; rfl
 rw [hX] at hb hf
 rw [Int.toNat_natCast] at hf
 refine ⟨w, hw', hwn, hl, by rw [hd, hl], fun h1 h2 => ?_, fun i hi hs => ?_, ?_⟩
 ·
  rw [h1, h2] at hb
  simpa using hb
 ·
  unfold freeB at hf
  rw [List.all_eq_true] at hf
  have := hf i (List.mem_range.2 hi)
  unfold freeAt at this
  rw [show ((l1.getD i z93).f1 == sd l1 w) = true from beq_iff_eq.2 hs, Bool.true_and, Bool.not_eq_true', decide_eq_false_iff_not] at this
  omega
 ·
  rw [hw', Int.toNat_natCast, rd_nat_, hd, hl]
theorem exch {n0 : Nat} {l1 : List S93} (hs : sides l1) {q q1 q2 : St} (hlen : q.2.1.length = l1.length) {s1 s2 : S62} (k1 : s1.f0 = 3) (k2 : s2.f0 = 3) (h1 : stepF n0 l1 q.1 q.2.1 q.2.2 s1 = some q1) (h2 : stepF n0 l1 q1.1 q1.2.1 q1.2.2 s2 = some q2) : stepF n0 l1 q.1 q.2.1 q.2.2 s2 = none := by
 cases h : stepF n0 l1 q.1 q.2.1 q.2.2 s2 with
 | none => rfl
 | some q3 =>
  exfalso
  obtain ⟨w, ew, hw, _, dw, bw, fw, rfl⟩ := cut_says k1 h1
  obtain ⟨v, ev, hv, _, dv, bv, _, _⟩ := cut_says k2 h2
  obtain ⟨u, eu, hu, _, du, bu, fu, _⟩ := cut_says k2 h
  obtain rfl : u = v := by omega
  dsimp only at dv bv
  by_cases e : w = u
  ·
   subst e
   rw [List.getD_eq_getElem?_getD, List.getElem?_set, if_pos rfl] at dv
   split at dv
   ·
    simp only [Option.getD_some] at dv; omega
   ·
    omega
  ·
   by_cases es : sd l1 w = sd l1 u
   ·
    by_cases hlt : w < u
    ·
     have := fu w hlt es
     omega
    ·
     have := fw u (by omega) es.symm
     omega
   ·
    have ex : ∀ j, j < l1.length → sidB l1 (sd l1 j) = true := fun j hj => List.any_eq_true.2 ⟨_, getD_mem hj z93, beq_iff_eq.2 rfl⟩
    have a := ex w hw
    have b := ex u hu
    rcases hs w hw with h5 | h5 <;> rcases hs u hu with h6 | h6 <;> rw [h5] at a es <;> rw [h6] at b es
    ·
     exact es rfl
    ·
     have c := bw a b
     have d := bu a b
     rw [h5] at c
     rw [h6] at d
     rw [c] at d
     exact absurd d (by decide)
    ·
     have c := bw b a
     have d := bu b a
     rw [h5] at c
     rw [h6] at d
     rw [c] at d
     exact absurd d (by decide)
    ·
     exact es rfl
theorem step_len {n0 : Nat} {l1 : List S93} {q q1 : St} {s : S62} (h : stepF n0 l1 q.1 q.2.1 q.2.2 s = some q1) : q1.2.1.length = q.2.1.length := by
 unfold stepF at h
 repeat' split at h
 all_goals first | (cases h; done) | (obtain rfl := Option.some.inj h; simp)
theorem run_len {n0 : Nat} {l1 : List S93} : ∀ {l : List S62} {q q1 : St}, runL n0 l1 l q = some q1 → q1.2.1.length = q.2.1.length
 | [], q, q1, h => by obtain rfl := Option.some.inj h; rfl
 | s :: l, q, q1, h => by
  simp only [runL] at h
  obtain ⟨q2, h1, h2⟩ := Option.bind_eq_some_iff.mp h
  rw [run_len h2, step_len h1]
theorem exch_chk {n0 : Nat} {l1 : List S93} (hs : sides l1) {L : List S62} {q : St} (hr : runL n0 l1 L (q0 l1) = some q) {k : Nat} (hk : k + 1 < L.length) (k1 : (L[k]'(by omega)).f0 = 3) (k2 : (L[k + 1]'hk).f0 = 3) :
  (chk n0 l1 ((L.set k (L[k + 1]'hk)).set (k + 1) (L[k]'(by omega)))).2 = 8 := by
 have hk0 : k < L.length := by omega
 have e1 : L = L.take k ++ (L[k]'hk0 :: L[k + 1]'hk :: L.drop (k + 2)) := by
  rw [← List.drop_eq_getElem_cons hk, ← List.drop_eq_getElem_cons hk0, List.take_append_drop]
 have e2 : (L.set k (L[k + 1]'hk)).set (k + 1) (L[k]'hk0) = L.take k ++ (L[k + 1]'hk :: L[k]'hk0 :: L.drop (k + 2)) := by
  generalize L[k + 1]'hk = y at *
  generalize L[k]'hk0 = x at *
  have hl : (L.take k).length = k := by rw [List.length_take]; omega
  have e3 : L.set k y = L.take k ++ (y :: y :: L.drop (k + 2)) := by
   conv => lhs; rw [e1]
   rw [List.set_append_right _ _ (by omega), hl, Nat.sub_self, List.set_cons_zero]
  rw [e3, List.set_append_right _ _ (by omega), hl, show k + 1 - k = 1 by omega, List.set_cons_succ, List.set_cons_zero]
 generalize L[k + 1]'hk = y at *
 generalize L[k]'hk0 = x at *
 rw [e2]
 rw [e1, runL_append] at hr
 obtain ⟨qa, ha, hr⟩ := Option.bind_eq_some_iff.mp hr
 simp only [runL] at hr
 obtain ⟨qb, hb, hr⟩ := Option.bind_eq_some_iff.mp hr
 obtain ⟨qc, hc, _⟩ := Option.bind_eq_some_iff.mp hr
 refine chk_none ?_
 rw [runL_append, ha, Option.bind_some]
 simp only [runL]
 rw [exch hs (by rw [run_len ha]; simp [q0]) k1 k2 hb hc]; rfl
theorem StepsExchanged (m0 : List S94) (m1 : List S68) (a2 a3 : Int) (a1 : Int) (w : (Lit.int .u16 a1).wf = true) : ∃ k, culetlaw49_StepsExchanged.f k m0 m1 a2 a3 a1 = some true := by
 have hw : 0 ≤ a1 ∧ a1 ≤ 65535 := by
  have e0 : IntKind.u16.min = 0 := rfl
  have e1 : IntKind.u16.max = 65535 := rfl
  simp only [Lit.wf, e0, e1, Bool.and_eq_true, decide_eq_true_eq] at w
  exact w
 refine Ev.rounds ?_
 refine Ev.congr (fun k => by unfold culetlaw49_StepsExchanged.f; rfl) (Ev.bind awake_ok ?_)
 refine Ev.congr (fun k => by rw [if_pos rfl]) (Ev.bind (few_ev m0 m1 a2 a3) ?_)
 cases hf : fewB m0 m1 with
 | false => exact Ev.step (f := fun k => (culetlaw49_awake.f k).bind fun t => some t) (fun k => by simp only [culetlaw49_StepsExchanged.j0]; rfl) (Ev.bind awake_ok (Ev.now _))
 | true =>
  obtain ⟨h0, h1, s0, s1⟩ := few_bounds hf
  have own := own_ev m0 m1 a2 a3 h0 h1
  have t0 := mem_lapE s0
  have t1 := mem_workE s1
  have e1 := of_ev (m0.map lapOf) (m1.map workOf) a2 a3 t0 t1
  rw [List.length_map] at e1
  have yes : ∀ L, Ev (fun k => culetlaw49_StepsExchanged.j1 k a1 L true m0 m1 a2 a3) true := fun L => Ev.step (f := fun _ => some true) (fun k => by simp only [culetlaw49_StepsExchanged.j1]; rw [if_pos trivial]) (Ev.now _)
  refine Ev.step (fun k => by simp only [culetlaw49_StepsExchanged.j0]; rw [if_neg (by simp)]) (Ev.bind own (Ev.bind e1 ?_))
  cases hv : validB (m0.map lapOf) (m1.map workOf) a2 a3 with
  | false => exact Ev.congr (fun k => by rw [if_neg (by simp), if_neg (by simp)]) (yes _)
  | true =>
   obtain ⟨v0, v1, _, _, v2, _⟩ := valid_use hv
   rw [List.length_map] at v0
   rw [if_pos rfl]
   have hlen := of_len m0.length (m1.map workOf) v0.2 v1.2
   obtain ⟨q, hr, _⟩ := run_of m0.length (m1.map workOf) v2
   generalize ofL m0.length (m1.map workOf) = L at *
   by_cases hl : L.length < 2
   ·
    exact Ev.congr (f := fun k => culetlaw49_StepsExchanged.j1 k a1 L true m0 m1 a2 a3) (fun k => by
     rw [if_pos rfl]
     show culetlaw49_StepsExchanged.j1 k a1 L (decide ((L.length : Int) < 2)) m0 m1 a2 a3 = _
     rw [decide_eq_true (by omega)]) (yes _)
   ·
    refine Ev.congr (f := fun k => culetlaw49_StepsExchanged.j1 k a1 L false m0 m1 a2 a3) (fun k => by
     rw [if_pos rfl]
     show culetlaw49_StepsExchanged.j1 k a1 L (decide ((L.length : Int) < 2)) m0 m1 a2 a3 = _
     rw [decide_eq_false (by omega)]) ?_
    obtain ⟨i, hi⟩ : ∃ i : Nat, Int.tmod a1 ((L.length : Int) - 1) = (i : Int) ∧ i + 1 < L.length := by
     rw [Int.tmod_eq_emod_of_nonneg hw.1]
     have a := Int.emod_nonneg a1 (show ((L.length : Int) - 1) ≠ 0 by omega)
     have b := Int.emod_lt_of_pos a1 (show 0 < (L.length : Int) - 1 by omega)
     exact ⟨(a1 % ((L.length : Int) - 1)).toNat, by omega, by omega⟩
    have c3 := hi.2
    have c2 : i < L.length := by omega
    have p0 : 0 ≤ (i : Int) := by omega
    have p1 : (i : Int) < (L.length : Int) := by omega
    have p2 : 0 ≤ ((i + 1 : Nat) : Int) := by omega
    have p3 : ((i + 1 : Nat) : Int) < (L.length : Int) := by omega
    have p4 : ¬ ((L.length : Int) - 1 = 0) := by omega
    have p5 : ((L.set i L[i + 1]).set (i + 1) L[i]).length ≤ 1000000 := by rw [List.length_set, List.length_set]; omega
    have hc := check_ev (m0.map lapOf) (m1.map workOf) a2 a3 ((L.set i L[i + 1]).set (i + 1) L[i]) t0 t1 p5
    have z1 : wrap64 ((L.length : Int) - 1) = (L.length : Int) - 1 := by unfold wrap64; omega
    have z2 : wrap64 a1 = a1 := by unfold wrap64; omega
    have z3 : wrap64 ((i : Int) + 1) = ((i + 1 : Nat) : Int) := wrap_nat (by omega)
    have no : Ev (fun k => culetlaw49_StepsExchanged.j2 k L (i : Int) true m0 m1 a2 a3) true := Ev.step (f := fun _ => some true) (fun k => by simp only [culetlaw49_StepsExchanged.j2]; rw [if_pos trivial]) (Ev.now _)
    by_cases k1 : L[i].f0 = 3
    ·
     by_cases k2 : L[i + 1].f0 = 3
     ·
      refine Ev.step (f := fun k => culetlaw49_StepsExchanged.j2 k L (i : Int) false m0 m1 a2 a3) (fun k => by
       simp only [culetlaw49_StepsExchanged.j1]
       rw [if_neg (by simp), z1, z2, hi.1, if_neg p4, if_pos p0, if_pos p1, rd62 c2, if_pos k1, z3, if_pos p2, if_pos p3, rd62 c3, k2]; rfl) ?_
      rw [hv, if_pos rfl, List.length_map] at hc
      refine Ev.step (fun k => by
       simp only [culetlaw49_StepsExchanged.j2]
       rw [if_neg (by simp), z3, if_pos p2, if_pos p3, if_pos p0, if_pos p1, rd62 c2, rd62 c3, Int.toNat_natCast, Int.toNat_natCast]) (Ev.bind own (Ev.bind hc ?_))
      rw [exch_chk v2 hr c3 k1 k2]
      exact Ev.now _
     ·
      refine Ev.step (fun k => by
       simp only [culetlaw49_StepsExchanged.j1]
       rw [if_neg (by simp), z1, z2, hi.1, if_neg p4, if_pos p0, if_pos p1, rd62 c2, if_pos k1, z3, if_pos p2, if_pos p3, rd62 c3, show (L[i + 1].f0 != 3) = true from bne_iff_ne.2 k2]) no
    ·
     refine Ev.step (fun k => by
      simp only [culetlaw49_StepsExchanged.j1]
      rw [if_neg (by simp), z1, z2, hi.1, if_neg p4, if_pos p0, if_pos p1, rd62 c2, if_neg k1]) no
end Go.Proofs.Ytalhpnfapagamaa.Pure
