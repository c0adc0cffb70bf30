-- Written by this session's own programs; what the law does not lean on is left out. Lean checks it.
import Derived.Test.YtalhpnfapagamaaUP
import Derived.Test.YtalhpnfapagamaaUSx28
import Derived.Test.YtalhpnfapagamaaUSx35
namespace Go.Proofs.Ytalhpnfapagamaa.Pure
open Go Go.RowKit Go.Proofs.Ytalhpnfapagamaa.S Go.Proofs.YtalhpnfapagamaaW.PrintWords Go.Proofs.YtalhpnfapagamaaW.PrintLast Go.Proofs.Ytalhpnfapagamaa.Plain

theorem mem_lap_ {m0 : List S94} (h : ∀ x ∈ m0, x.f0.size ≤ 40) : ∀ x ∈ m0.map lapOf, x.f0.size ≤ 40 := fun x hx => by
 obtain ⟨y, hy, rfl⟩ := List.mem_map.1 hx
 exact h y hy
theorem mem_work_ {m1 : List S68} (h : ∀ x ∈ m1, x.f0.size ≤ 40) : ∀ x ∈ m1.map workOf, x.f0.size ≤ 40 := fun x hx => by
 obtain ⟨y, hy, rfl⟩ := List.mem_map.1 hx
 exact h y hy
theorem least_ev_ (l0 : List S92) (l1 : List S93) (a2 a3 : Int) (h0 : ∀ x ∈ l0, x.f0.size ≤ 40) (hs : ∀ x ∈ l1, x.f0.size ≤ 40) : Ev (fun k => steps_Least.f k l0 l1 a2 a3) (if validB l0 l1 a2 a3 = true then (((cntC (ofL l0.length l1) : Nat) : Int), 0) else (0, 1)) := by
 refine Ev.congr (fun k => by unfold steps_Least.f; rfl) (Ev.bind (of_ev l0 l1 a2 a3 h0 hs) ?_)
 cases hv : validB l0 l1 a2 a3 with
 | true =>
  obtain ⟨v0, v1, _⟩ := valid_use hv
  exact Ev.bind (changes_ev _ (Nat.le_trans (of_len l0.length l1 v0.2 v1.2) (by decide))) (Ev.now _)
 | false => exact Ev.bind (changes_ev [] (by simp)) (Ev.now _)
theorem StepsLeast (m0 : List S94) (m1 : List S68) (a2 a3 : Int) (l : List S101) (_ : l.length ≤ 9223372036854775807 ∧ ∀ x ∈ l, True) : ∃ k, culetlaw49_StepsLeast.f k m0 m1 a2 a3 l = some true := by
 refine Ev.rounds ?_
 have awake : Ev (fun k => culetlaw49_StepsLeast.j0 k l true m0 m1 a2 a3) true :=
  Ev.step (f := fun k => (culetlaw49_awake.f k).bind fun t => some t) (fun k => by simp only [culetlaw49_StepsLeast.j0]; rfl) (Ev.bind awake_ok (Ev.now _))
 refine Ev.congr (fun k => by unfold culetlaw49_StepsLeast.f; rfl) (Ev.bind awake_ok ?_)
 refine Ev.congr (fun k => by rw [if_pos rfl]) (Ev.bind (few_ev m0 m1 a2 a3) ?_)
 cases hf : fewB m0 m1 with
 | false => exact Ev.congr (fun k => by rw [if_neg (by simp)]) awake
 | true =>
  by_cases hl : l.length ≤ 300
  ·
   refine Ev.congr (f := fun k => culetlaw49_StepsLeast.j0 k l false m0 m1 a2 a3) (fun k => by rw [if_pos rfl, decide_eq_false (by omega)]) ?_
   obtain ⟨h0, h1, s0, s1⟩ := few_bounds hf
   have own := own_ev m0 m1 a2 a3 h0 h1
   have t0 := mem_lap_ s0
   have t1 := mem_work_ s1
   have ol := ownL_ev l (by omega)
   have e1 := time_ev (m0.map lapOf) (m1.map workOf) a2 a3 (l.map ofR) t0 t1 (by rw [List.length_map]; exact hl)
   refine Ev.step (fun k => by simp only [culetlaw49_StepsLeast.j0]; rw [if_neg (by simp)]) (Ev.bind own (Ev.bind ol ?_))
   cases hv : validB (m0.map lapOf) (m1.map workOf) a2 a3 with
   | false =>
    rw [hv, if_neg (by simp)] at e1
    exact Ev.bind e1 (Ev.congr (f := fun _ => some true) (fun k => rfl) (Ev.now _))
   | true =>
    rw [hv, if_pos rfl] at e1
    by_cases hz : (chk (m0.map lapOf).length (m1.map workOf) (l.map ofR)).2 = 0
    ·
     rw [if_pos hz] at e1
     obtain ⟨v0, v1, v2, v3, v4, v5⟩ := valid_use hv
     have hlen := of_len (m0.map lapOf).length (m1.map workOf) v0.2 v1.2
     have hk := chk_of (m0.map lapOf).length (m1.map workOf) v4
     have pa := permitted_chk (a2 := a2) (a3 := a3) v0.1 v4 v1.1 hz
     have pb := permitted_chk (l0 := m0.map lapOf) (a2 := a2) (a3 := a3) (l := ofL (m0.map lapOf).length (m1.map workOf)) v0.1 v4 v1.1 (by rw [hk])
     have e2 := least_ev_ (m0.map lapOf) (m1.map workOf) a2 a3 t0 t1
     have e3 := of_ev (m0.map lapOf) (m1.map workOf) a2 a3 t0 t1
     have e4 := time_ev (m0.map lapOf) (m1.map workOf) a2 a3 (ofL (m0.map lapOf).length (m1.map workOf)) t0 t1 hlen
     have e5 := changes_ev (l.map ofR) (by rw [List.length_map]; omega)
     rw [hv, if_pos rfl] at e2 e3 e4
     rw [if_pos (by rw [hk])] at e4
     have hc1 : cntC (l.map ofR) ≤ 300 := Nat.le_trans (cntC_le _) (by rw [List.length_map]; exact hl)
     have hc2 : cntC (ofL (m0.map lapOf).length (m1.map workOf)) ≤ 300 := Nat.le_trans (cntC_le _) hlen
     refine Ev.bind e1 (Ev.congr (fun k => by rw [if_pos rfl]) (Ev.bind own (Ev.bind e2 (Ev.bind own (Ev.bind e3 (Ev.bind own (Ev.bind e4 (Ev.bind ol (Ev.bind e5 ?_)))))))))
     obtain ⟨pa1, pa2, _⟩ := pa
     obtain ⟨pb1, _, _⟩ := pb
     have hu : 0 ≤ tmL (m0.map lapOf) (m1.map workOf) a2 a3 (ofL (m0.map lapOf).length (m1.map workOf)) ∧ tmL (m0.map lapOf) (m1.map workOf) a2 a3 (ofL (m0.map lapOf).length (m1.map workOf)) ≤ 300 * 4800 := by
      have : ∀ L : List S62, (∀ s ∈ L, good (m0.map lapOf) (m1.map workOf) s) → 0 ≤ tmL (m0.map lapOf) (m1.map workOf) a2 a3 L ∧ tmL (m0.map lapOf) (m1.map workOf) a2 a3 L ≤ L.length * 4800 := fun L => by
       induction L with
       | nil => intro _; simp [tmL]
       | cons s L ih =>
        intro g
        have a := ih (fun x hx => g x (List.mem_cons_of_mem _ hx))
        have b := tmS_le hv (g s List.mem_cons_self)
        simp only [tmL, List.length_cons]
        push_cast
        omega
      have p := this _ (permitted_chk (l0 := m0.map lapOf) (a2 := a2) (a3 := a3) (l := ofL (m0.map lapOf).length (m1.map workOf)) v0.1 v4 v1.1 (by rw [hk])).2.2
      omega
     generalize cntC (l.map ofR) = c at *
     generalize cntC (ofL (m0.map lapOf).length (m1.map workOf)) = n at *
     have w1 : wrap64 ((c : Int) - (n : Int)) = (c : Int) - (n : Int) := by unfold wrap64; omega
     have hm : 0 ≤ ((c : Int) - (n : Int)) * a2 ∧ ((c : Int) - (n : Int)) * a2 ≤ 300 * 1000 := by
      refine ⟨Int.mul_nonneg (by omega) v2.1, ?_⟩
      exact Int.mul_le_mul (by omega) v2.2 v2.1 (by omega)
     have w2 : wrap64 (((c : Int) - (n : Int)) * a2) = ((c : Int) - (n : Int)) * a2 := by unfold wrap64; omega
     have w3 : wrap64 (tmL (m0.map lapOf) (m1.map workOf) a2 a3 (ofL (m0.map lapOf).length (m1.map workOf)) + ((c : Int) - (n : Int)) * a2) = tmL (m0.map lapOf) (m1.map workOf) a2 a3 (ofL (m0.map lapOf).length (m1.map workOf)) + ((c : Int) - (n : Int)) * a2 := by unfold wrap64; omega
     refine Ev.congr (f := fun _ => some true) (fun k => ?_) (Ev.now _)
     rw [if_pos rfl, if_pos rfl, if_pos rfl, w1, if_pos (by omega), w2, w3, pa1, pb1, Int.sub_mul]
     congr 1
     rw [beq_iff_eq]
     omega
    ·
     rw [if_neg hz] at e1
     exact Ev.bind e1 (Ev.congr (f := fun _ => some true) (fun k => by rw [if_neg hz]) (Ev.now _))
  ·
   exact Ev.congr (fun k => by rw [if_pos rfl, decide_eq_true (by omega)]) awake
end Go.Proofs.Ytalhpnfapagamaa.Pure
