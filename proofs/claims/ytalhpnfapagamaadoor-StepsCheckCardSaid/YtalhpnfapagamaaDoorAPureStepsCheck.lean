-- Written by this session's own programs; what the law does not lean on is left out. Lean checks it.
import Derived.Test.YtalhpnfapagamaaDoorAPlainCheck
namespace Go.Proofs.YtalhpnfapagamaaDoor.Pure
open Go Go.RowKit Go.Proofs.YtalhpnfapagamaaDoor.S Go.Proofs.YtalhpnfapagamaaDoorW.PrintWords Go.Proofs.YtalhpnfapagamaaDoorW.PrintLast Go.Proofs.YtalhpnfapagamaaDoor.Plain

theorem mem_lap_ {m0 : List S55} (h : ∀ x ∈ m0, x.f0.size ≤ 40) : ∀ x ∈ m0.map lapOf, x.f0.size ≤ 40 := fun x hx => by
 obtain ⟨y, hy, rfl⟩ := List.mem_map.1 hx
 exact h y hy
theorem mem_work_ {m1 : List S56} (h : ∀ x ∈ m1, x.f0.size ≤ 40) : ∀ x ∈ m1.map workOf, x.f0.size ≤ 40 := fun x hx => by
 obtain ⟨y, hy, rfl⟩ := List.mem_map.1 hx
 exact h y hy
theorem StepsCheck (m0 : List S55) (m1 : List S56) (a2 a3 : Int) (l : List S63) (_ : l.length ≤ 9223372036854775807 ∧ ∀ x ∈ l, True) : ∃ k, culetlaw49_StepsCheck.f k m0 m1 a2 a3 l = some true := by
 refine Ev.rounds ?_
 have awake : Ev (fun k => culetlaw49_StepsCheck.j0 k l true m0 m1 a2 a3) true :=
  Ev.step (f := fun k => (culetlaw49_awake.f k).bind fun t => some t) (fun k => by simp only [culetlaw49_StepsCheck.j0]; rfl) (Ev.bind awake_ok (Ev.now _))
 refine Ev.congr (fun k => by unfold culetlaw49_StepsCheck.f; rfl) (Ev.bind awake_ok ?_)
 refine Ev.congr (fun k => by rw [if_pos rfl]) (Ev.bind (few_ev m0 m1 a2 a3) ?_)
 cases hf : fewB m0 m1 with
 | false => exact Ev.congr (fun k => by rw [if_neg (by simp)]) awake
 | true =>
  by_cases hl : l.length ≤ 300
  ·
   refine Ev.congr (f := fun k => culetlaw49_StepsCheck.j0 k l false m0 m1 a2 a3) (fun k => by rw [if_pos rfl, decide_eq_false (by omega)]) ?_
   obtain ⟨h0, h1, s0, s1⟩ := few_bounds hf
   have own := own_ev m0 m1 a2 a3 h0 h1
   have t0 := mem_lap_ s0
   have t1 := mem_work_ s1
   have ol := ownL_ev l (by omega)
   have hm : (l.map ofR).length ≤ 300 := by rw [List.length_map]; exact hl
   have c1 := check_ev (m0.map lapOf) (m1.map workOf) a2 a3 (l.map ofR) t0 t1 (by omega)
   have c2 := rchk_ev m0 m1 a2 a3 h0 h1 s0 s1 l (by omega)
   have e1 := time_ev (m0.map lapOf) (m1.map workOf) a2 a3 (l.map ofR) t0 t1 hm
   have e2 := rtime_ev m0 m1 a2 a3 h0 h1 s0 s1 l hl
   have x1 := lines_ev a2 a3 (m0.map lapOf) (m1.map workOf) t0 t1 (l.map ofR) hm
   have x2 := rlines_ev m0 m1 a2 a3 h0 h1 s0 s1 t0 t1 l hl
   have n1 := changes_ev (l.map ofR) (by omega)
   have n2 := rchanges_ev l (by omega)
   have hx : ∀ R : List ByteArray × Int, R = (if validB (m0.map lapOf) (m1.map workOf) a2 a3 = true then (if (chk (m0.map lapOf).length (m1.map workOf) (l.map ofR)).2 = 0 then ((l.map ofR).map (lineOf (m0.map lapOf) (m1.map workOf)), 0) else ([], (chk (m0.map lapOf).length (m1.map workOf) (l.map ofR)).2)) else ([], 1)) → R.1.length ≤ 1000000 := fun R e => by
    rw [e]
    split
    ·
     split
     ·
      simp only [List.length_map]; omega
     ·
      simp
    ·
     simp
   generalize hC : (if validB (m0.map lapOf) (m1.map workOf) a2 a3 = true then chk (m0.map lapOf).length (m1.map workOf) (l.map ofR) else (0, 1)) = C at c1 c2
   generalize hT : (if validB (m0.map lapOf) (m1.map workOf) a2 a3 = true then (if (chk (m0.map lapOf).length (m1.map workOf) (l.map ofR)).2 = 0 then (tmL (m0.map lapOf) (m1.map workOf) a2 a3 (l.map ofR), 0) else (0, (chk (m0.map lapOf).length (m1.map workOf) (l.map ofR)).2)) else (0, 1)) = T at e1 e2
   generalize hX : (if validB (m0.map lapOf) (m1.map workOf) a2 a3 = true then (if (chk (m0.map lapOf).length (m1.map workOf) (l.map ofR)).2 = 0 then ((l.map ofR).map (lineOf (m0.map lapOf) (m1.map workOf)), 0) else ([], (chk (m0.map lapOf).length (m1.map workOf) (l.map ofR)).2)) else (([] : List ByteArray), 1)) = X at x1 x2 hx
   have ht := texts_ev X.1 (hx X rfl)
   refine Ev.step (fun k => by simp only [culetlaw49_StepsCheck.j0]; rw [if_neg (by simp)]) (Ev.bind own (Ev.bind ol (Ev.bind c1 (Ev.bind c2 (Ev.bind own (Ev.bind ol (Ev.bind e1 (Ev.bind e2 (Ev.bind own (Ev.bind ol (Ev.bind x1 (Ev.bind x2 ?_))))))))))))
   refine Ev.congr (fun k => by rw [if_pos rfl, if_pos rfl, if_pos rfl, if_pos rfl]) (Ev.bind ht ?_)
   refine Ev.congr (fun k => by rw [if_pos rfl, if_pos rfl]) (Ev.bind ol (Ev.bind n1 (Ev.bind n2 ?_)))
   rw [beq_self_eq_true]
   exact Ev.now _
  ·
   exact Ev.congr (fun k => by rw [if_pos rfl, decide_eq_true (by omega)]) awake
end Go.Proofs.YtalhpnfapagamaaDoor.Pure
