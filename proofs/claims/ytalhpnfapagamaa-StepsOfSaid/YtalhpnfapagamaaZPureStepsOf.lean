-- Written by this session's own programs; what the law does not lean on is left out. Lean checks it.
import Derived.Test.YtalhpnfapagamaaZP
import Derived.Test.YtalhpnfapagamaaZSx33
namespace Go.Proofs.Ytalhpnfapagamaa.Pure
open Go Go.RowKit Go.Proofs.Ytalhpnfapagamaa.S Go.Proofs.YtalhpnfapagamaaW.PrintWords Go.Proofs.YtalhpnfapagamaaW.PrintLast Go.Proofs.Ytalhpnfapagamaa.Plain

theorem mem_lap {m0 : List S94} (h : ∀ x ∈ m0, x.f0.size ≤ 40) : ∀ x ∈ m0.map lapOf, x.f0.size ≤ 40 := fun x hx => by
 obtain ⟨y, hy, rfl⟩ := List.mem_map.1 hx
 exact h y hy
theorem mem_work {m1 : List S68} (h : ∀ x ∈ m1, x.f0.size ≤ 40) : ∀ x ∈ m1.map workOf, x.f0.size ≤ 40 := fun x hx => by
 obtain ⟨y, hy, rfl⟩ := List.mem_map.1 hx
 exact h y hy
theorem least_ev (l0 : List S92) (l1 : List S93) (a2 a3 : Int) (h0 : ∀ x ∈ l0, x.f0.size ≤ 40) (hs : ∀ x ∈ l1, x.f0.size ≤ 40) : Ev (fun k => steps_Least.f k l0 l1 a2 a3) (if validB l0 l1 a2 a3 = true then (((cntC (ofL l0.length l1) : Nat) : Int), 0) else (0, 1)) := by
 refine Ev.congr (fun k => by unfold steps_Least.f; rfl) (Ev.bind (of_ev l0 l1 a2 a3 h0 hs) ?_)
 cases hv : validB l0 l1 a2 a3 with
 | true =>
  obtain ⟨v0, v1, _⟩ := valid_use hv
  exact Ev.bind (changes_ev _ (Nat.le_trans (of_len l0.length l1 v0.2 v1.2) (by decide))) (Ev.now _)
 | false => exact Ev.bind (changes_ev [] (by simp)) (Ev.now _)
theorem StepsOf (m0 : List S94) (m1 : List S68) (a2 a3 : Int) : ∃ k, culetlaw49_StepsOf.f k m0 m1 a2 a3 = some true := by
 refine Ev.rounds ?_
 refine Ev.congr (fun k => by unfold culetlaw49_StepsOf.f; rfl) (Ev.bind awake_ok ?_)
 refine Ev.congr (fun k => by rw [if_pos rfl]) (Ev.bind (few_ev m0 m1 a2 a3) ?_)
 cases hf : fewB m0 m1 with
 | false => exact Ev.step (f := fun k => (culetlaw49_awake.f k).bind fun t => some t) (fun k => by simp only [culetlaw49_StepsOf.j0]; rfl) (Ev.bind awake_ok (Ev.now _))
 | true =>
  obtain ⟨h0, h1, s0, s1⟩ := few_bounds hf
  have own := own_ev m0 m1 a2 a3 h0 h1
  have t0 := mem_lap s0
  have t1 := mem_work s1
  have e1 := of_ev (m0.map lapOf) (m1.map workOf) a2 a3 t0 t1
  have e2 := rOf_ev m0 m1 a2 a3 h0 h1 s0 s1
  have e3 := least_ev (m0.map lapOf) (m1.map workOf) a2 a3 t0 t1
  have e4 := rLeast_ev m0 m1 a2 a3 h1 s0 s1
  have e5 := valid_ev (m0.map lapOf) (m1.map workOf) a2 a3 t0 t1
  have e6 := rvalid_ev m0 m1 a2 a3 s0 s1
  rw [List.length_map] at e1 e3
  cases hv : validB (m0.map lapOf) (m1.map workOf) a2 a3 with
  | false =>
   rw [hv, if_neg (by simp)] at e1 e2 e3 e4
   rw [hv] at e5 e6
   refine Ev.step (fun k => by simp only [culetlaw49_StepsOf.j0]; rw [if_neg (by simp)]) (Ev.bind own (Ev.bind e1 (Ev.bind e2 (Ev.bind own (Ev.bind e3 (Ev.bind e4 (Ev.bind own (Ev.bind e5 (Ev.bind e6 ?_)))))))))
   refine Ev.congr (fun k => by rw [if_neg (by simp)]) (Ev.bind (theirs_ev [] (by simp)) (Ev.bind (same_ev [] (by simp)) ?_))
   refine Ev.congr (f := fun k => culetlaw49_StepsOf.j1 k [] 1 0 false m0 m1 a2 a3) (fun k => rfl) ?_
   exact Ev.step (f := fun _ => some true) (fun k => by simp only [culetlaw49_StepsOf.j1]; rfl) (Ev.now _)
  | true =>
   obtain ⟨v0, v1, _, _, v2, _⟩ := valid_use hv
   rw [List.length_map] at v0
   have hl : (ofL m0.length (m1.map workOf)).length ≤ 1000000 := Nat.le_trans (of_len _ _ v0.2 v1.2) (by decide)
   have hk := chk_of m0.length (m1.map workOf) v2
   rw [hv, if_pos rfl] at e1 e2 e3 e4
   rw [hv] at e5 e6
   generalize ofL m0.length (m1.map workOf) = L at *
   refine Ev.step (fun k => by simp only [culetlaw49_StepsOf.j0]; rw [if_neg (by simp)]) (Ev.bind own (Ev.bind e1 (Ev.bind e2 (Ev.bind own (Ev.bind e3 (Ev.bind e4 (Ev.bind own (Ev.bind e5 (Ev.bind e6 ?_)))))))))
   refine Ev.congr (fun k => by rw [if_neg (by simp)]) (Ev.bind (theirs_ev L hl) (Ev.bind (same_ev (L.map toR) (by rw [List.length_map]; exact hl)) ?_))
   refine Ev.congr (f := fun k => culetlaw49_StepsOf.j1 k L 0 ((cntC L : Nat) : Int) false m0 m1 a2 a3) (fun k => by rw [if_pos rfl, if_pos rfl, if_pos rfl]; rfl) ?_
   have hc := check_ev (m0.map lapOf) (m1.map workOf) a2 a3 L t0 t1 hl
   rw [hv, if_pos rfl, List.length_map, hk] at hc
   refine Ev.step (fun k => by simp only [culetlaw49_StepsOf.j1]; rw [if_neg (by simp), if_pos trivial]) (Ev.bind own (Ev.bind hc ?_))
   refine Ev.congr (fun k => by rw [if_pos rfl, if_pos rfl]) (Ev.bind (changes_ev L hl) ?_)
   rw [beq_self_eq_true]
   exact Ev.now _
end Go.Proofs.Ytalhpnfapagamaa.Pure
