-- Written by this session's own programs; what the law does not lean on is left out. Lean checks it.
import Derived.Test.YtalhpnfapagamaaVP
import Derived.Test.YtalhpnfapagamaaVSy
namespace Go.Proofs.Ytalhpnfapagamaa.Pure
open Go Go.RowKit Go.Proofs.Ytalhpnfapagamaa.S Go.Proofs.YtalhpnfapagamaaW.PrintWords Go.Proofs.YtalhpnfapagamaaW.PrintLast Go.Proofs.Ytalhpnfapagamaa.Plain

theorem mem_lapR {m0 : List S94} (h : ∀ x ∈ m0, x.f0.size ≤ 40) : ∀ x ∈ m0.map lapOf, x.f0.size ≤ 40 := fun x hx => by
 obtain ⟨y, hy, rfl⟩ := List.mem_map.1 hx
 exact h y hy
theorem mem_workR {m1 : List S68} (h : ∀ x ∈ m1, x.f0.size ≤ 40) : ∀ x ∈ m1.map workOf, x.f0.size ≤ 40 := fun x hx => by
 obtain ⟨y, hy, rfl⟩ := List.mem_map.1 hx
 exact h y hy
def eq3 (a b : S62) : Bool := a.f0 == b.f0 && (a.f1 == b.f1 && a.f2 == b.f2)
theorem eq3_iff (a b : S62) : eq3 a b = true ↔ a = b := by
 unfold eq3
 simp only [Bool.and_eq_true, beq_iff_eq]
 constructor
 ·
  rintro ⟨h1, h2, h3⟩; cases a; cases b; simp_all
 ·
  rintro rfl; exact ⟨rfl, rfl, rfl⟩
def eqLB : List S62 → List S62 → Bool
 | [], [] => true
 | a :: s, b :: t => eq3 a b && eqLB s t
 | _, _ => false
theorem eqLB_iff : ∀ a b : List S62, eqLB a b = true ↔ a = b
 | [], [] => by simp [eqLB]
 | a :: s, b :: t => by simp only [eqLB, Bool.and_eq_true, eq3_iff, eqLB_iff s t, List.cons.injEq]
 | [], b :: t => by simp [eqLB]
 | a :: s, [] => by simp [eqLB]
theorem neq3 (a b : S62) : (!(a.f0 == b.f0) || (!(a.f1 == b.f1) || !(a.f2 == b.f2))) = !eq3 a b := by unfold eq3; cases (a.f0 == b.f0) <;> cases (a.f1 == b.f1) <;> cases (a.f2 == b.f2) <;> rfl
theorem stepEq_l (a b : List S62) (ha : a.length ≤ 1000000) (hab : a.length = b.length) : ∀ (d i : Nat), i + d = a.length → Ev (fun k => steps_Step.l0 k a b (a.length : Int) i) (eqLB (a.drop i) (b.drop i))
 | 0, i, h => by
  rw [List.drop_of_length_le (by omega), List.drop_of_length_le (by omega)]
  refine Ev.step (f := fun _ => some true) (fun k => ?_) (Ev.now _)
  simp only [steps_Step.l0]; rw [if_neg (by omega)]
 | d + 1, i, h => by
  have hi : i < a.length := by omega
  have hj : i < b.length := by omega
  rw [List.drop_eq_getElem_cons hi, List.drop_eq_getElem_cons hj]
  simp only [eqLB]
  have e : ∀ k, steps_Step.l0 (k + 1) a b (a.length : Int) i = if (!eq3 a[i] b[i]) = true then some false else steps_Step.l0 k a b (a.length : Int) ((i + 1 : Nat) : Int) := fun k => by
   simp only [steps_Step.l0]
   rw [if_pos (by omega), if_pos (by omega), if_pos (by omega), if_pos (by omega), rd62 hi, rd62 hj, neq3, wrap_nat (by omega)]
  cases h3 : eq3 a[i] b[i] with
  | false => exact Ev.step (f := fun _ => some false) (fun k => by rw [e, h3, if_pos (show (!false) = true from rfl)]) (Ev.now _)
  | true => exact Ev.step (fun k => by rw [e, h3, if_neg (by simp)]) (by simpa using stepEq_l a b ha hab d (i + 1) (by omega))
theorem stepEq_ev (a b : List S62) (ha : a.length ≤ 1000000) (hab : a.length = b.length) : Ev (fun k => steps_Step.f k a b) (eqLB a b) := by
 refine Ev.congr (fun k => by unfold steps_Step.f; rw [if_pos (by omega)]) ?_
 simpa using stepEq_l a b ha hab a.length 0 (by omega)
def restL (L l : List S62) : List S62 × Int := if (decide (l.length ≤ L.length) && eqLB (L.take l.length) l) = true then (L.drop l.length, 0) else ([], 8)
theorem rest_ev (l0 : List S92) (l1 : List S93) (a2 a3 : Int) (l : List S62) (h0 : ∀ x ∈ l0, x.f0.size ≤ 40) (hs : ∀ x ∈ l1, x.f0.size ≤ 40) : Ev (fun k => steps_Rest.f k l0 l1 a2 a3 l) (if validB l0 l1 a2 a3 = true then restL (ofL l0.length l1) l else ([], 1)) := by
 have e := of_ev l0 l1 a2 a3 h0 hs
 cases hv : validB l0 l1 a2 a3 with
 | false =>
  rw [hv, if_neg (by simp)] at e
  refine Ev.congr (fun k => by unfold steps_Rest.f; rfl) (Ev.bind e ?_)
  exact Ev.congr (f := fun _ => some ([], 1)) (fun k => rfl) (Ev.now _)
 | true =>
  obtain ⟨v0, v1, _⟩ := valid_use hv
  have hL := of_len l0.length l1 v0.2 v1.2
  rw [hv, if_pos rfl] at e
  rw [if_pos rfl]
  refine Ev.congr (fun k => by unfold steps_Rest.f; rfl) (Ev.bind e ?_)
  generalize ofL l0.length l1 = L at *
  unfold restL
  by_cases hl : l.length ≤ L.length
  ·
   refine Ev.congr (fun k => by rw [if_pos rfl, if_neg (show ¬ ((l.length : Int) > ((L, (0 : Int)).1.length : Int)) by dsimp only; omega), if_pos (by omega), if_pos (show ((l.length : Int) ≤ ((L, (0 : Int)).1.length : Int)) by dsimp only; omega), Int.toNat_natCast]) ?_
   refine Ev.bind (stepEq_ev (L.take l.length) l (by rw [List.length_take]; omega) (by rw [List.length_take]; omega)) ?_
   rw [decide_eq_true hl, Bool.true_and]
   cases eqLB (L.take l.length) l with
   | true => exact Ev.now _
   | false => exact Ev.now _
  ·
   rw [decide_eq_false hl, Bool.false_and, if_neg (by simp)]
   exact Ev.congr (f := fun _ => some ([], 8)) (fun k => by rw [if_pos rfl, if_pos (show ((l.length : Int) > ((L, (0 : Int)).1.length : Int)) by dsimp only; omega)]) (Ev.now _)
theorem ofR_at (x : List S101) {i : Nat} (hi : i < x.length) : (x.map ofR)[i]'(by simpa using hi) = ofR x[i] := by simp
def rsl (L : List S62) (n : Nat) (b : Bool) : List S101 × Int := if b = true then ((L.drop n).map toR, 0) else ([], 8)
theorem rrest_l (L : List S62) (x : List S101) (hL : L.length ≤ 300) (hx : x.length ≤ L.length) : ∀ (d i : Nat), i + d = x.length → Ev (fun k => culetref49_Rest.l0 k x (L.map toR) i) (rsl L x.length (eqLB ((x.map ofR).drop i) ((L.take x.length).drop i)))
 | 0, i, h => by
  obtain rfl : i = x.length := by omega
  rw [List.drop_of_length_le (by simp), List.drop_of_length_le (by rw [List.length_take]; omega)]
  refine Ev.step (f := fun _ => some ((L.drop x.length).map toR, 0)) (fun k => ?_) (Ev.now _)
  simp only [culetref49_Rest.l0]
  rw [if_neg (by omega)]
  simp only [Option.bind_some]
  rw [if_pos (by omega), if_pos (by rw [List.length_map]; omega), Int.toNat_natCast, if_pos (by simp; omega), List.nil_append, List.map_drop]
 | d + 1, i, h => by
  have hi : i < x.length := by omega
  have hj : i < (L.take x.length).length := by rw [List.length_take]; omega
  have hk : i < L.length := by omega
  have hm : i < (x.map ofR).length := by rw [List.length_map]; exact hi
  rw [List.drop_eq_getElem_cons hm, List.drop_eq_getElem_cons hj]
  simp only [eqLB]
  have e : ∀ k, culetref49_Rest.l0 (k + 1) x (L.map toR) i = if (!eq3 (x.map ofR)[i] (L.take x.length)[i]) = true then some ([], 8) else culetref49_Rest.l0 k x (L.map toR) ((i + 1 : Nat) : Int) := fun k => by
   simp only [culetref49_Rest.l0]
   have hr : rd_T101 (L.map toR) (i : Int) = toR L[i] := by rw [rd101 (by rw [List.length_map]; exact hk)]; simp
   rw [if_pos (by omega), if_pos (by omega), if_pos (by rw [List.length_map]; omega), rd101 hi, hr, wrap_nat (by omega), ← neq3, ofR_at x hi, List.getElem_take]
   rfl
  cases h3 : eq3 (x.map ofR)[i] (L.take x.length)[i] with
  | false => exact Ev.step (f := fun _ => some ([], 8)) (fun k => by rw [e, h3, if_pos (show (!false) = true from rfl)]) (Ev.now _)
  | true =>
   rw [Bool.true_and]
   exact Ev.step (fun k => by rw [e, h3, if_neg (by simp)]) (rrest_l L x hL hx d (i + 1) (by omega))
theorem rrest_ev (m0 : List S94) (m1 : List S68) (a2 a3 : Int) (x : List S101) (h0 : m0.length ≤ 8) (h1 : m1.length ≤ 22) (s0 : ∀ x ∈ m0, x.f0.size ≤ 40) (s1 : ∀ x ∈ m1, x.f0.size ≤ 40) : Ev (fun k => culetref49_Rest.f k m0 m1 a2 a3 x) (if validB (m0.map lapOf) (m1.map workOf) a2 a3 = true then ((restL (ofL m0.length (m1.map workOf)) (x.map ofR)).1.map toR, (restL (ofL m0.length (m1.map workOf)) (x.map ofR)).2) else ([], 1)) := by
 have e := rOf_ev m0 m1 a2 a3 h0 h1 s0 s1
 cases hv : validB (m0.map lapOf) (m1.map workOf) a2 a3 with
 | false =>
  rw [hv, if_neg (by simp)] at e
  refine Ev.congr (fun k => by unfold culetref49_Rest.f; rfl) (Ev.bind e ?_)
  exact Ev.congr (f := fun _ => some ([], 1)) (fun k => rfl) (Ev.now _)
 | true =>
  obtain ⟨v0, v1, _⟩ := valid_use hv
  rw [List.length_map] at v0
  have hL := of_len m0.length (m1.map workOf) v0.2 v1.2
  rw [hv, if_pos rfl] at e
  rw [if_pos rfl]
  refine Ev.congr (fun k => by unfold culetref49_Rest.f; rfl) (Ev.bind e ?_)
  generalize ofL m0.length (m1.map workOf) = L at *
  unfold restL
  rw [show (x.map ofR).length = x.length from List.length_map ..]
  by_cases hl : x.length ≤ L.length
  ·
   refine Ev.congr (f := fun k => culetref49_Rest.l0 k x (L.map toR) ((0 : Nat) : Int)) (fun k => by
    rw [if_pos rfl]
    dsimp only
    rw [show (L.map toR).length = L.length from List.length_map .., if_neg (by omega)]; rfl) ?_
   have := rrest_l L x hL hl x.length 0 (by omega)
   rw [List.drop_zero, List.drop_zero] at this
   have e9 : eqLB (x.map ofR) (L.take x.length) = eqLB (L.take x.length) (x.map ofR) := by
    rw [Bool.eq_iff_iff, eqLB_iff, eqLB_iff]; exact eq_comm
   rw [decide_eq_true hl, Bool.true_and, ← e9]
   cases h9 : eqLB (x.map ofR) (L.take x.length) with
   | true => rw [h9] at this; exact this
   | false => rw [h9] at this; exact this
  ·
   rw [decide_eq_false hl, Bool.false_and, if_neg (by simp)]
   exact Ev.congr (f := fun _ => some ([], 8)) (fun k => by
    rw [if_pos rfl]
    dsimp only
    rw [show (L.map toR).length = L.length from List.length_map .., if_pos (by omega)]) (Ev.now _)
theorem StepsRest (m0 : List S94) (m1 : List S68) (a2 a3 : Int) (x : List S101) (_ : x.length ≤ 9223372036854775807 ∧ ∀ y ∈ x, True) (a1 : Int) (w : (Lit.int .u16 a1).wf = true) : ∃ k, culetlaw49_StepsRest.f k m0 m1 a2 a3 x a1 = some true := by
 have hw : 0 ≤ a1 ∧ a1 ≤ 65535 := by
  have e0 : IntKind.u16.min = 0 := rfl
  have e1 : IntKind.u16.max = 65535 := rfl
  simp only [Lit.wf, e0, e1, Bool.and_eq_true, decide_eq_true_eq] at w
  exact w
 refine Ev.rounds ?_
 have awake : Ev (fun k => culetlaw49_StepsRest.j0 k x a1 true m0 m1 a2 a3) true :=
  Ev.step (f := fun k => (culetlaw49_awake.f k).bind fun t => some t) (fun k => by simp only [culetlaw49_StepsRest.j0]; rfl) (Ev.bind awake_ok (Ev.now _))
 refine Ev.congr (fun k => by unfold culetlaw49_StepsRest.f; rfl) (Ev.bind awake_ok ?_)
 refine Ev.congr (fun k => by rw [if_pos rfl]) (Ev.bind (few_ev m0 m1 a2 a3) ?_)
 cases hf : fewB m0 m1 with
 | false => exact Ev.congr (fun k => by rw [if_neg (by simp)]) awake
 | true =>
  by_cases hl : x.length ≤ 300
  ·
   refine Ev.congr (f := fun k => culetlaw49_StepsRest.j0 k x a1 false m0 m1 a2 a3) (fun k => by rw [if_pos rfl, decide_eq_false (by omega)]) ?_
   obtain ⟨h0, h1, s0, s1⟩ := few_bounds hf
   have own := own_ev m0 m1 a2 a3 h0 h1
   have t0 := mem_lapR s0
   have t1 := mem_workR s1
   have ol := ownL_ev x (by omega)
   have e1 := rest_ev (m0.map lapOf) (m1.map workOf) a2 a3 (x.map ofR) t0 t1
   have e2 := rrest_ev m0 m1 a2 a3 x h0 h1 s0 s1
   have e3 := of_ev (m0.map lapOf) (m1.map workOf) a2 a3 t0 t1
   rw [List.length_map] at e1 e3
   cases hv : validB (m0.map lapOf) (m1.map workOf) a2 a3 with
   | false =>
    rw [hv, if_neg (by simp)] at e1 e2 e3
    refine Ev.step (fun k => by simp only [culetlaw49_StepsRest.j0]; rw [if_neg (by simp)]) (Ev.bind own (Ev.bind ol (Ev.bind e1 (Ev.bind e2 (Ev.bind (theirs_ev [] (by simp)) (Ev.bind (same_ev [] (by simp)) ?_))))))
    refine Ev.congr (f := fun k => culetlaw49_StepsRest.j1 k a1 false m0 m1 a2 a3) (fun k => rfl) ?_
    refine Ev.step (fun k => by simp only [culetlaw49_StepsRest.j1]; rw [if_neg (by simp)]) (Ev.bind own (Ev.bind e3 ?_))
    exact Ev.congr (f := fun _ => some true) (fun k => rfl) (Ev.now _)
   | true =>
    obtain ⟨v0, v1, _⟩ := valid_use hv
    rw [List.length_map] at v0
    have hL := of_len m0.length (m1.map workOf) v0.2 v1.2
    have e4 := fun l => rest_ev (m0.map lapOf) (m1.map workOf) a2 a3 l t0 t1
    rw [hv, if_pos rfl] at e1 e2 e3
    simp only [hv, if_true] at e4
    rw [List.length_map] at e4
    generalize ofL m0.length (m1.map workOf) = L at *
    have hr : (restL L (x.map ofR)).1.length ≤ 1000000 := by
     unfold restL
     cases (decide ((x.map ofR).length ≤ L.length) && eqLB (L.take (x.map ofR).length) (x.map ofR)) with
     | true => rw [if_pos rfl]; simp; omega
     | false => rw [if_neg (by simp)]; simp
    refine Ev.step (fun k => by simp only [culetlaw49_StepsRest.j0]; rw [if_neg (by simp)]) (Ev.bind own (Ev.bind ol (Ev.bind e1 (Ev.bind e2 (Ev.bind (theirs_ev _ hr) (Ev.bind (same_ev ((restL L (x.map ofR)).1.map toR) (by rw [List.length_map]; exact hr)) ?_))))))
    refine Ev.congr (f := fun k => culetlaw49_StepsRest.j1 k a1 false m0 m1 a2 a3) (fun k => by rw [if_pos rfl]; simp) ?_
    refine Ev.step (fun k => by simp only [culetlaw49_StepsRest.j1]; rw [if_neg (by simp)]) (Ev.bind own (Ev.bind e3 ?_))
    obtain ⟨i, hi⟩ : ∃ i : Nat, Int.tmod a1 ((L.length : Int) + 1) = (i : Int) ∧ i ≤ L.length := by
     rw [Int.tmod_eq_emod_of_nonneg hw.1]
     have a := Int.emod_nonneg a1 (show ((L.length : Int) + 1) ≠ 0 by omega)
     have b := Int.emod_lt_of_pos a1 (show 0 < (L.length : Int) + 1 by omega)
     exact ⟨(a1 % ((L.length : Int) + 1)).toNat, by omega, by omega⟩
    have p0 : 0 ≤ (i : Int) := by omega
    have p1 : (i : Int) ≤ (L.length : Int) := by omega
    have p4 : ¬ ((L.length : Int) + 1 = 0) := by omega
    have p5 : ([] : List S62).length + (L.take i).length < 5864062014805 := by rw [List.length_take]; simp; omega
    have p6 : (([] : List S62) ++ L.take i).length + (L.drop i).length < 5864062014805 := by simp; omega
    have q6 := e4 (L.take i)
    have hre : restL L (L.take i) = (L.drop i, 0) := by
     unfold restL
     rw [List.length_take, Nat.min_eq_left hi.2, decide_eq_true hi.2, (eqLB_iff _ _).2 rfl]; rfl
    rw [hre] at q6
    have hfull : ([] : List S62) ++ L.take i ++ L.drop i = L := by rw [List.nil_append, List.take_append_drop]
    have z1 : wrap64 ((L.length : Int) + 1) = (L.length : Int) + 1 := by unfold wrap64; omega
    have z2 : wrap64 a1 = a1 := by unfold wrap64; omega
    refine Ev.congr (f := fun k => (culetlaw49_Own.f k m0 m1 a2 a3).bind fun bt => (steps_Rest.f k bt.1 bt.2.1 bt.2.2.1 bt.2.2.2 (L.take i)).bind fun bt472 => (if bt472.2 = 0 then (if ([] : List S62).length + (L.take i).length < 5864062014805 then (if (([] : List S62) ++ L.take i).length + bt472.1.length < 5864062014805 then ((culetlaw49_theirs.f k (([] : List S62) ++ L.take i ++ bt472.1)).bind fun t489 => ((culetlaw49_theirs.f k L).bind fun t492 => ((culetref49_Same.f k t489 t492).bind fun t495 => (some t495)))) else none) else none) else some false)) (fun k => by
     dsimp only
     rw [if_pos rfl, z1, z2, if_neg p4]
     simp only [Option.bind_some]
     congr 1
     funext bt
     rw [hi.1, if_pos p0, if_pos p1, Int.toNat_natCast]) ?_
    refine Ev.bind own (Ev.bind q6 ?_)
    have hL6 : L.length ≤ 1000000 := Nat.le_trans hL (by decide)
    refine Ev.congr (fun k => by rw [if_pos rfl, if_pos p5, if_pos p6, hfull]) (Ev.bind (theirs_ev L hL6) (Ev.bind (theirs_ev L hL6) (Ev.bind (same_ev (L.map toR) (by rw [List.length_map]; exact hL6)) (Ev.now _))))
  ·
   exact Ev.congr (fun k => by rw [if_pos rfl, decide_eq_true (by omega)]) awake
end Go.Proofs.Ytalhpnfapagamaa.Pure
