-- Written by this session's own programs; what the law does not lean on is left out. Lean checks it.
import Derived.Test.YtalhpnfapagamaaDoorAP
import Derived.Test.YtalhpnfapagamaaDoorASl
import Derived.Test.YtalhpnfapagamaaDoorASx32
namespace Go.Proofs.YtalhpnfapagamaaDoor.Plain
open Go Go.RowKit Go.Proofs.YtalhpnfapagamaaDoor.S Go.Proofs.YtalhpnfapagamaaDoorW.PrintWords Go.Proofs.YtalhpnfapagamaaDoorW.PrintLast

section
variable (m0 : List S55) (m1 : List S56) (a2 a3 : Int)

theorem rd_map {W : List Nat} {i : Nat} (hi : i < W.length) : rd (W.map (fun (j : Nat) => (j : Int))) (i : Int) = (W[i] : Int) := by
 rw [rd_nat_, List.getD_eq_getElem?_getD, List.getElem?_map, List.getElem?_eq_getElem hi]; rfl
theorem rfin_l (W : List Nat) (lap : Int) (tu : Bool) (done : List Int) (hW : W.length ≤ 22) (hd : ∀ w ∈ W, w < done.length) : ∀ (d i : Nat), i + d = W.length → Ev (fun k => culetref49_finished.l0 k (W.map (fun (j : Nat) => (j : Int))) (i : Int) m0 m1 a2 a3 lap tu done) ((W.drop i).all (fun w => decide ((m0.length : Int) ≤ done.getD w 0)))
 | 0, i, h => by
  obtain rfl : i = W.length := by omega
  refine Ev.step (f := fun _ => some true) (fun k => ?_) (by simpa using Ev.now _)
  simp only [culetref49_finished.l0, List.length_map]; rw [if_neg (by omega)]
 | d + 1, i, h => by
  have hi : i < W.length := by omega
  have hw := hd W[i] (List.getElem_mem hi)
  rw [List.drop_eq_getElem_cons hi, List.all_cons]
  by_cases hs : done.getD W[i] 0 < (m0.length : Int)
  ·
   rw [decide_eq_false (by omega), Bool.false_and]
   refine Ev.step (f := fun _ => some false) (fun k => ?_) (Ev.now _)
   simp only [culetref49_finished.l0, List.length_map]
   rw [if_pos (by omega), if_pos (by omega), rd_map hi, if_pos (by omega), if_pos (by omega), rd_nat_, if_pos hs]
  ·
   rw [decide_eq_true (by omega), Bool.true_and]
   refine Ev.step (f := fun k => culetref49_finished.l0 k (W.map (fun (j : Nat) => (j : Int))) ((i + 1 : Nat) : Int) m0 m1 a2 a3 lap tu done) (fun k => ?_) (rfin_l W lap tu done hW hd d (i + 1) (by omega))
   simp only [culetref49_finished.l0, List.length_map]
   rw [if_pos (by omega), if_pos (by omega), rd_map hi, if_pos (by omega), if_pos (by omega), rd_nat_, if_neg hs, wrap_nat (by omega)]
theorem fin_wk (n0 : Nat) (l1 : List S51) (done : List Int) (s : Int) : (wk l1 s).all (fun w => decide ((n0 : Int) ≤ done.getD w 0)) = finB n0 l1 done s := by
 unfold wk finB
 rw [List.all_filter, ← List.range_eq_range']
 congr 1
 funext j
 unfold finAt sd
 by_cases h : (l1.getD j z51).f1 = s
 ·
  by_cases h2 : done.getD j 0 < (n0 : Int)
  ·
   simp only [h, decide_true, Bool.not_true, Bool.false_or, beq_self_eq_true, Bool.true_and, decide_eq_true h2]
   exact decide_eq_false (by omega)
  ·
   simp only [h, decide_true, Bool.not_true, Bool.false_or, beq_self_eq_true, Bool.true_and, decide_eq_false h2, Bool.not_false]
   exact decide_eq_true (by omega)
 ·
  rw [decide_eq_false h, beq_eq_false_iff_ne.2 h]; rfl
theorem rfin_ev (h1 : m1.length ≤ 22) (lap : Int) (tu : Bool) (done : List Int) (hd : done.length = m1.length) (s : Int) : Ev (fun k => culetref49_finished.f k m0 m1 a2 a3 lap tu done s) (finB m0.length (m1.map workOf) done s) := by
 refine Ev.congr (fun k => by unfold culetref49_finished.f; rfl) (Ev.bind (works_ev m0 m1 a2 a3 s h1) ?_)
 have hl := wk_len (m1.map workOf) s
 rw [List.length_map] at hl
 have := rfin_l m0 m1 a2 a3 (wk (m1.map workOf) s) lap tu done (by omega) (fun w hw => by
  unfold wk at hw
  have := List.mem_range'.1 (List.mem_filter.1 hw).1
  obtain ⟨i, hi, rfl⟩ := this
  rw [List.length_map] at hi
  omega) (wk (m1.map workOf) s).length 0 (by omega)
 rw [List.drop_zero, fin_wk] at this
 exact this

/-- What the reference's step answers. -/
def nxt (lap : Int) (tu : Bool) (done : List Int) (q : Option St) : Int × Bool × List Int × Bool := match q with
 | some q => (q.1, q.2.2, q.2.1, true)
 | none => (lap, tu, done, false)

theorem next_l (side : Int) (lap : Int) (tu : Bool) (done : List Int) (hd : done.length = m1.length) (h1 : m1.length ≤ 22) (o l : Int) (w : Nat) (hw : w < m1.length) (hb : done.getD w 0 ≤ 1000) (h0 : 0 ≤ done.getD w 0) : ∀ (d i : Nat), i + d = w →
  Ev (fun k => culetref49_next.l0 k side (i : Int) m0 m1 a2 a3 lap tu done o l (w : Int) lap tu done) (nxt lap tu done (if (List.range' i d).all (freeAt (m1.map workOf) done side l) then some (lap, done.set w (done.getD w 0 + 1), tu) else none))
 | 0, i, h => by
  obtain rfl : i = w := by omega
  refine Ev.step (f := fun _ => some (lap, tu, done.set i (done.getD i 0 + 1), true)) (fun k => ?_) (by simpa [nxt] using Ev.now _)
  simp only [culetref49_next.l0]
  rw [if_neg (by omega), if_pos (by omega), if_pos (by omega), rd_nat_, Int.toNat_natCast, show wrap64 (done.getD i 0 + 1) = done.getD i 0 + 1 by unfold wrap64; omega]
 | d + 1, i, h => by
  have hi : i < m1.length := by omega
  rw [List.range'_succ, List.all_cons]
  by_cases hs : sd (m1.map workOf) i = side
  ·
   by_cases hg : done.getD i 0 ≤ l
   ·
    rw [show freeAt (m1.map workOf) done side l i = false by unfold freeAt; rw [show ((m1.map workOf).getD i z51).f1 = side from hs, decide_eq_true hg]; simp, Bool.false_and]
    refine Ev.step (f := fun _ => some (lap, tu, done, false)) (fun k => ?_) (Ev.now _)
    simp only [culetref49_next.l0]
    rw [if_pos (by omega), if_pos (by omega), if_pos (by omega), sd68 m1 hi, if_pos hs, if_pos (by omega), rd_nat_, if_pos hg]
   ·
    rw [show freeAt (m1.map workOf) done side l i = true by unfold freeAt; rw [decide_eq_false hg]; simp, Bool.true_and]
    refine Ev.step (f := fun k => culetref49_next.l0 k side ((i + 1 : Nat) : Int) m0 m1 a2 a3 lap tu done o l (w : Int) lap tu done) (fun k => ?_) (next_l side lap tu done hd h1 o l w hw hb h0 d (i + 1) (by omega))
    simp only [culetref49_next.l0]
    rw [if_pos (by omega), if_pos (by omega), if_pos (by omega), sd68 m1 hi, if_pos hs, if_pos (by omega), rd_nat_, if_neg hg, wrap_nat (by omega)]
  ·
   rw [show freeAt (m1.map workOf) done side l i = true by unfold freeAt; rw [show (((m1.map workOf).getD i z51).f1 == side) = false from beq_eq_false_iff_ne.2 hs]; simp, Bool.true_and]
   refine Ev.step (f := fun k => culetref49_next.l0 k side ((i + 1 : Nat) : Int) m0 m1 a2 a3 lap tu done o l (w : Int) lap tu done) (fun k => ?_) (next_l side lap tu done hd h1 o l w hw hb h0 d (i + 1) (by omega))
   simp only [culetref49_next.l0]
   rw [if_pos (by omega), if_pos (by omega), if_pos (by omega), sd68 m1 hi, if_neg hs, wrap_nat (by omega)]

theorem next_no (x : Bool) (hx : x = true) (lap : Int) (tu : Bool) (done : List Int) (o l w : Int) : Ev (fun k => culetref49_next.j0 k x m0 m1 a2 a3 lap tu done o l w lap tu done) (lap, tu, done, false) := by
 subst hx
 exact Ev.step (f := fun _ => some (lap, tu, done, false)) (fun k => by rw [culetref49_next.j0, if_pos rfl]) (Ev.now _)
theorem next_cut (lap : Int) (tu : Bool) (done : List Int) (hd : done.length = m1.length) (h1 : m1.length ≤ 22) (o l : Int) (w : Nat) (hw : w < m1.length) (hb : done.getD w 0 ≤ 1000) (h0 : 0 ≤ done.getD w 0) :
  Ev (fun k => culetref49_next.j0 k false m0 m1 a2 a3 lap tu done o l (w : Int) lap tu done) (nxt lap tu done (if !(sidB (m1.map workOf) 1 && sidB (m1.map workOf) 2 && (tu != (sd (m1.map workOf) w == 2))) && (List.range w).all (freeAt (m1.map workOf) done (sd (m1.map workOf) w) l) then some (lap, done.set w (done.getD w 0 + 1), tu) else none)) := by
 have hlast := next_l m0 m1 a2 a3 (sd (m1.map workOf) w) lap tu done hd h1 o l w hw hb h0 w 0 (by omega)
 rw [← List.range_eq_range'] at hlast
 have hgo : ∀ x : Bool, Ev (fun k => culetref49_next.j1 k (sd (m1.map workOf) w) x m0 m1 a2 a3 lap tu done o l (w : Int) lap tu done) (nxt lap tu done (if !x && (List.range w).all (freeAt (m1.map workOf) done (sd (m1.map workOf) w) l) then some (lap, done.set w (done.getD w 0 + 1), tu) else none)) := fun x => by
  cases x with
  | true => exact Ev.step (f := fun _ => some (lap, tu, done, false)) (fun k => by rw [culetref49_next.j1, if_pos rfl]) (Ev.now _)
  | false =>
   rw [Bool.not_false, Bool.true_and]
   exact Ev.step (f := fun k => culetref49_next.l0 k (sd (m1.map workOf) w) 0 m0 m1 a2 a3 lap tu done o l (w : Int) lap tu done) (fun k => by rw [culetref49_next.j1, if_neg Bool.false_ne_true]) hlast
 refine Ev.step (f := fun k => (culetref49_both.f k m0 m1 a2 a3).bind fun t => if t = true then culetref49_next.j1 k (sd (m1.map workOf) w) ((sd (m1.map workOf) w == 2) != tu) m0 m1 a2 a3 lap tu done o l (w : Int) lap tu done else culetref49_next.j1 k (sd (m1.map workOf) w) false m0 m1 a2 a3 lap tu done o l (w : Int) lap tu done) (fun k => ?_) (Ev.bind (both_ev m0 m1 a2 a3 h1) ?_)
 ·
  rw [culetref49_next.j0, if_neg Bool.false_ne_true, if_pos (by omega), if_pos (by omega), sd68 m1 hw]
 ·
  cases hs : (sidB (m1.map workOf) 1 && sidB (m1.map workOf) 2) with
  | true =>
   rw [Bool.true_and]
   have := hgo ((sd (m1.map workOf) w == 2) != tu)
   rw [show (tu != (sd (m1.map workOf) w == 2)) = ((sd (m1.map workOf) w == 2) != tu) by cases tu <;> cases (sd (m1.map workOf) w == 2) <;> rfl]
   exact Ev.congr (fun k => by rw [if_pos rfl]) this
  | false =>
   rw [Bool.false_and]
   exact Ev.congr (fun k => by rw [if_neg (by decide)]) (hgo false)
theorem next_ev (lap : Int) (tu : Bool) (done : List Int) (hd : done.length = m1.length) (h1 : m1.length ≤ 22) (hr : ∀ j, j < m1.length → 0 ≤ done.getD j 0 ∧ done.getD j 0 ≤ 1000) (s : S63) :
  Ev (fun k => culetref49_next.f k m0 m1 a2 a3 lap tu done s.f0 s.f1 s.f2) (nxt lap tu done (stepF m0.length (m1.map workOf) lap done tu (ofR s))) := by
 obtain ⟨kd, l, w⟩ := s
 unfold stepF ofR
 dsimp only
 have hno : ∀ {g : Nat → Option (Int × Bool × List Int × Bool)}, (∀ k, g k = some (lap, tu, done, false)) → Ev g (nxt lap tu done none) := fun h => Ev.congr (f := fun _ => some (lap, tu, done, false)) h (Ev.now _)
 have hf : ∀ k, culetref49_next.f k m0 m1 a2 a3 lap tu done kd l w = _ := fun k => by
  unfold culetref49_next.f
  simp only [Option.bind_some, List.nil_append, List.length_nil, Nat.zero_add]
  rw [if_pos (by omega)]
 refine Ev.congr hf ?_
 by_cases k1 : kd = 1
 ·
  rw [if_pos k1]
  refine Ev.congr (fun k => by rw [if_pos k1]) ?_
  by_cases c1 : w = 0
  ·
   refine Ev.congr (fun k => by rw [if_pos c1]) ?_
   rw [c1, beq_self_eq_true, Bool.true_and]
   by_cases c2 : l < 0
   ·
    rw [show inB l 0 ((m0.length : Int) - 1) = false by unfold inB; rw [decide_eq_false (by omega)]; rfl, Bool.false_and, if_neg Bool.false_ne_true]
    exact hno (fun k => by rw [if_pos c2])
   ·
    refine Ev.congr (fun k => by rw [if_neg c2]) ?_
    by_cases c3 : l ≥ (m0.length : Int)
    ·
     rw [show inB l 0 ((m0.length : Int) - 1) = false by unfold inB; rw [decide_eq_false (show ¬ l ≤ _ by omega), Bool.and_false], Bool.false_and, if_neg Bool.false_ne_true]
     exact hno (fun k => by rw [if_pos c3])
    ·
     refine Ev.congr (fun k => by rw [if_neg c3]) ?_
     rw [show inB l 0 ((m0.length : Int) - 1) = true by unfold inB; rw [decide_eq_true (by omega), decide_eq_true (by omega)]; rfl, Bool.true_and]
     by_cases c4 : l = lap
     ·
      rw [show (l == lap) = true from beq_iff_eq.2 c4, Bool.not_true, if_neg Bool.false_ne_true]
      exact hno (fun k => by rw [if_pos c4])
     ·
      rw [show (l == lap) = false from beq_eq_false_iff_ne.2 c4, Bool.not_false, if_pos (rfl : true = true)]
      exact Ev.congr (f := fun _ => some (l, tu, done, true)) (fun k => by rw [if_neg c4]) (Ev.now _)
  ·
   rw [show (w == 0) = false from beq_eq_false_iff_ne.2 c1, Bool.false_and, if_neg Bool.false_ne_true]
   exact hno (fun k => by rw [if_neg c1])
 ·
  rw [if_neg k1]
  refine Ev.congr (fun k => by rw [if_neg k1]) ?_
  by_cases k2 : kd = 2
  ·
   rw [if_pos k2]
   refine Ev.congr (fun k => by rw [if_pos k2]) ?_
   by_cases c1 : l = 0
   ·
    refine Ev.congr (fun k => by rw [if_pos c1]) ?_
    rw [c1, beq_self_eq_true, Bool.true_and]
    by_cases c2 : w = 0
    ·
     refine Ev.congr (fun k => by rw [if_pos c2]) ?_
     rw [c2, beq_self_eq_true, Bool.true_and]
     refine Ev.bind (both_ev m0 m1 a2 a3 h1) ?_
     rw [show (!tu && (sidB (m1.map workOf) 1 && (sidB (m1.map workOf) 2 && finB m0.length (m1.map workOf) done 1))) = ((sidB (m1.map workOf) 1 && sidB (m1.map workOf) 2) && (!tu && finB m0.length (m1.map workOf) done 1)) by
      cases tu <;> cases sidB (m1.map workOf) 1 <;> cases sidB (m1.map workOf) 2 <;> rfl]
     cases sidB (m1.map workOf) 1 && sidB (m1.map workOf) 2 with
     | false => exact hno (fun k => by rw [if_neg (by decide)])
     | true =>
      refine Ev.congr (fun k => by rw [if_pos rfl]) ?_
      rw [Bool.true_and]
      cases tu with
      | true => exact hno (fun k => by rw [if_pos rfl])
      | false =>
       refine Ev.congr (fun k => by rw [if_neg (by decide)]) (Ev.bind (rfin_ev m0 m1 a2 a3 h1 lap false done hd 1) ?_)
       rw [Bool.not_false, Bool.true_and]
       cases finB m0.length (m1.map workOf) done 1 with
       | true => exact Ev.congr (f := fun _ => some (lap, true, done, true)) (fun k => by rw [if_pos rfl]) (Ev.now _)
       | false => exact hno (fun k => by rw [if_neg (by decide)])
    ·
     rw [show (w == 0) = false from beq_eq_false_iff_ne.2 c2, Bool.false_and, if_neg Bool.false_ne_true]
     exact hno (fun k => by rw [if_neg c2])
   ·
    rw [show (l == 0) = false from beq_eq_false_iff_ne.2 c1, Bool.false_and, if_neg Bool.false_ne_true]
    exact hno (fun k => by rw [if_neg c1])
  ·
   rw [if_neg k2]
   refine Ev.congr (fun k => by rw [if_neg k2]) ?_
   by_cases k3 : kd = 3
   ·
    rw [if_pos k3]
    refine Ev.congr (fun k => by rw [if_pos k3]) ?_
    unfold cutB
    dsimp only
    rw [List.length_map]
    by_cases c1 : w < 0
    ·
     rw [show inB w 0 ((m1.length : Int) - 1) = false by unfold inB; rw [decide_eq_false (by omega)]; rfl, Bool.false_and, if_neg Bool.false_ne_true]
     exact Ev.congr (fun k => by rw [if_pos c1]) (next_no m0 m1 a2 a3 true rfl lap tu done kd l w)
    ·
     refine Ev.congr (fun k => by rw [if_neg c1]) ?_
     by_cases c2 : w ≥ (m1.length : Int)
     ·
      rw [show inB w 0 ((m1.length : Int) - 1) = false by unfold inB; rw [decide_eq_false (show ¬ w ≤ _ by omega), Bool.and_false], Bool.false_and, if_neg Bool.false_ne_true]
      exact Ev.congr (fun k => by rw [if_pos c2]) (next_no m0 m1 a2 a3 true rfl lap tu done kd l w)
     ·
      refine Ev.congr (fun k => by rw [if_neg c2]) ?_
      rw [show inB w 0 ((m1.length : Int) - 1) = true by unfold inB; rw [decide_eq_true (by omega), decide_eq_true (by omega)]; rfl, Bool.true_and]
      obtain ⟨j, rfl⟩ : ∃ j : Nat, w = (j : Int) := ⟨w.toNat, by omega⟩
      have hj : j < m1.length := by omega
      have hrj := hr j hj
      by_cases c3 : l = lap
      ·
       refine Ev.congr (fun k => by rw [if_pos c3]) ?_
       rw [show (l == lap) = true from beq_iff_eq.2 c3, Bool.true_and, rd_nat_]
       by_cases c4 : l < 0
       ·
        rw [show (done.getD j 0 == l) = false from beq_eq_false_iff_ne.2 (by omega), Bool.false_and, if_neg Bool.false_ne_true]
        exact Ev.congr (fun k => by rw [if_pos c4]) (next_no m0 m1 a2 a3 true rfl lap tu done kd l j)
       ·
        refine Ev.congr (fun k => by rw [if_neg c4, if_pos (by omega), if_pos (by omega)]) ?_
        by_cases c5 : done.getD j 0 = l
        ·
         rw [show (done.getD j 0 == l) = true from beq_iff_eq.2 c5, Bool.true_and]
         have := next_cut m0 m1 a2 a3 lap tu done hd h1 kd l j hj hrj.2 hrj.1
         exact Ev.congr (fun k => by rw [show (done.getD j 0 != l) = false from bne_eq_false_iff_eq.2 c5]) this
        ·
         rw [show (done.getD j 0 == l) = false from beq_eq_false_iff_ne.2 c5, Bool.false_and, if_neg Bool.false_ne_true]
         exact next_no m0 m1 a2 a3 _ (bne_iff_ne.2 c5) lap tu done kd l j
      ·
       rw [show (l == lap) = false from beq_eq_false_iff_ne.2 c3, Bool.false_and, if_neg Bool.false_ne_true]
       exact Ev.congr (fun k => by rw [if_neg c3]) (next_no m0 m1 a2 a3 true rfl lap tu done kd l j)
   ·
    rw [if_neg k3]
    exact hno (fun k => by rw [if_neg k3])

theorem mapR {l : List S63} {i : Nat} (hi : i < l.length) : (l.map ofR).getD i z60 = ofR l[i] := by
 rw [List.getD_eq_getElem?_getD, List.getElem?_map, List.getElem?_eq_getElem hi]; rfl
theorem rchk_l (h0 : m0.length ≤ 8) (h1 : m1.length ≤ 22) (l : List S63) (hl : l.length ≤ 1000) : ∀ (d i c : Nat) (t : Int) (q : St), i + d = l.length → Inv (m0.map lapOf) (m1.map workOf) a2 a3 c t q →
  Ev (fun k => culetref49_Check.l0 k l (i : Int) m0 m1 a2 a3 q.1 q.2.2 q.2.1) (runC m0.length (m1.map workOf) (l.map ofR) d i q.1 q.2.1 q.2.2)
 | 0, i, c, t, q, h, I => by
  have hd : q.2.1.length = m1.length := by rw [I.len, List.length_map]
  refine Ev.step (f := fun k => (culetref49_finished.f k m0 m1 a2 a3 q.1 q.2.2 q.2.1 1).bind fun t220 => (if t220 = true then ((culetref49_finished.f k m0 m1 a2 a3 q.1 q.2.2 q.2.1 2).bind fun t221 => (if t221 = true then (some ((l.length : Int), 0)) else (some ((l.length : Int), 9)))) else (some ((l.length : Int), 9)))) (fun k => ?_) (Ev.bind (rfin_ev m0 m1 a2 a3 h1 q.1 q.2.2 q.2.1 hd 1) ?_)
  ·
   rw [culetref49_Check.l0, if_neg (by omega)]
  ·
   unfold runC
   rw [List.length_map]
   cases finB m0.length (m1.map workOf) q.2.1 1 with
   | false => exact Ev.congr (f := fun _ => some ((l.length : Int), 9)) (fun k => rfl) (Ev.now _)
   | true =>
    refine Ev.congr (fun k => by rw [if_pos rfl]) (Ev.bind (rfin_ev m0 m1 a2 a3 h1 q.1 q.2.2 q.2.1 hd 2) ?_)
    cases finB m0.length (m1.map workOf) q.2.1 2 with
    | false => exact Ev.congr (f := fun _ => some ((l.length : Int), 9)) (fun k => rfl) (Ev.now _)
    | true => exact Ev.congr (f := fun _ => some ((l.length : Int), 0)) (fun k => rfl) (Ev.now _)
 | d + 1, i, c, t, q, h, I => by
  have hi : i < l.length := by omega
  have hd : q.2.1.length = m1.length := by rw [I.len, List.length_map]
  have hr : ∀ j, j < m1.length → 0 ≤ q.2.1.getD j 0 ∧ q.2.1.getD j 0 ≤ 1000 := fun j hj => by
   have := I.rng j (by rw [List.length_map]; exact hj)
   rw [List.length_map] at this
   unfold dAt at this
   omega
  have hn := next_ev m0 m1 a2 a3 q.1 q.2.2 q.2.1 hd h1 hr l[i]
  unfold runC
  rw [mapR hi]
  refine Ev.step (f := fun k => (culetref49_next.f k m0 m1 a2 a3 q.1 q.2.2 q.2.1 l[i].f0 l[i].f1 l[i].f2).bind fun bt213 => (if bt213.2.2.2 = true then (culetref49_Check.l0 k l ((i + 1 : Nat) : Int) m0 m1 a2 a3 bt213.1 bt213.2.1 bt213.2.2.1) else (some ((i : Int), 8)))) (fun k => ?_) (Ev.bind hn ?_)
  ·
   rw [culetref49_Check.l0, if_pos (by omega), if_pos (by omega), rd101 hi, wrap_nat (by omega)]
  ·
   cases hs : stepF m0.length (m1.map workOf) q.1 q.2.1 q.2.2 (ofR l[i]) with
   | none => exact Ev.congr (f := fun _ => some ((i : Int), 8)) (fun k => rfl) (Ev.now _)
   | some q' =>
    have I' := (inv_step I (by rw [List.length_map]; exact hs)).1
    exact Ev.congr (fun k => by unfold nxt; dsimp only; rw [if_pos rfl]) (rchk_l h0 h1 l hl d (i + 1) _ _ q' (by omega) I')
theorem rchk_ev (h0 : m0.length ≤ 8) (h1 : m1.length ≤ 22) (s0 : ∀ x ∈ m0, x.f0.size ≤ 40) (s1 : ∀ x ∈ m1, x.f0.size ≤ 40) (l : List S63) (hl : l.length ≤ 1000) :
  Ev (fun k => culetref49_Check.f k m0 m1 a2 a3 l) (if validB (m0.map lapOf) (m1.map workOf) a2 a3 = true then chk (m0.map lapOf).length (m1.map workOf) (l.map ofR) else (0, 1)) := by
 refine Ev.congr (fun k => by unfold culetref49_Check.f; rfl) (Ev.bind (rvalid_ev m0 m1 a2 a3 s0 s1) ?_)
 cases hv : validB (m0.map lapOf) (m1.map workOf) a2 a3 with
 | false => exact Ev.congr (f := fun _ => some (0, 1)) (fun k => rfl) (Ev.now _)
 | true =>
  rw [if_pos rfl]
  obtain ⟨v0, v1, _⟩ := valid_use hv
  have I := inv_start (m0.map lapOf) (m1.map workOf) a2 a3 v0.1
  have := rchk_l m0 m1 a2 a3 h0 h1 l hl l.length 0 0 0 (q0 (m1.map workOf)) (by omega) I
  unfold chk
  rw [List.length_map, List.length_map]
  unfold q0 at this
  rw [List.length_map] at this
  rw [List.length_map]
  refine Ev.congr (fun k => ?_) this
  rw [if_pos rfl]
  unfold culetref49_begin.f
  rw [if_pos (by omega), if_pos (by omega), Int.toNat_natCast]
  rfl
def bnd (i : Nat) : Int := i * 4800
theorem rtime_l {m0 : List S55} {m1 : List S56} {a2 a3 : Int} {l0 : List S49} {l1 : List S51} (e0 : l0 = m0.map lapOf) (e1 : l1 = m1.map workOf) (hv : validB l0 l1 a2 a3 = true) (l : List S63) (hl : l.length ≤ 300) (g : ∀ s ∈ l, good l0 l1 (ofR s)) : ∀ (d i : Nat) (t : Int), i + d = l.length → 0 ≤ t → t ≤ bnd i →
  Ev (fun k => culetref49_Time.l0 k l t i m0 m1 a2 a3) (t + tmL l0 l1 a2 a3 ((l.drop i).map ofR), 0) := by
 intro d
 induction d with
 | zero =>
  intro i t h h1 h2
  obtain rfl : i = l.length := by omega
  refine Ev.step (f := fun _ => some (t, 0)) (fun k => ?_) (by rw [List.drop_length]; simp only [List.map_nil, tmL, Int.add_zero]; exact Ev.now _)
  rw [culetref49_Time.l0, if_neg (by omega)]
 | succ d IH =>
  intro i t h h1 h2
  unfold bnd at h2
  have hi : i < l.length := by omega
  have gi := g l[i] (List.getElem_mem hi)
  have hle := tmS_le hv gi
  have ih := IH (i + 1) (t + tmS l0 l1 a2 a3 (ofR l[i])) (by omega) (by omega) (by unfold bnd; push_cast; omega)
  rw [List.drop_eq_getElem_cons hi, List.map_cons]
  simp only [tmL]
  rw [← Int.add_assoc]
  refine Ev.step (fun k => ?_) ih
  rw [culetref49_Time.l0, if_pos (by omega), if_pos (by omega), rd101 hi, wrap_nat (by omega)]
  have wr : ∀ x : Int, 0 ≤ x → x ≤ 2000000 → wrap64 x = x := fun x a b => by unfold wrap64; omega
  unfold tmS at hle ⊢
  by_cases k1 : l[i].f0 = 1
  ·
   rw [if_pos (show (ofR l[i]).f0 = 1 from k1)] at hle
   rw [if_pos k1, if_pos (show (ofR l[i]).f0 = 1 from k1), wr _ (by omega) (by omega)]
  ·
   rw [if_neg (show ¬ (ofR l[i]).f0 = 1 from k1)] at hle
   rw [if_neg k1, if_neg (show ¬ (ofR l[i]).f0 = 1 from k1)]
   by_cases k2 : l[i].f0 = 2
   ·
    rw [if_pos (show (ofR l[i]).f0 = 2 from k2)] at hle
    rw [if_pos k2, if_pos (show (ofR l[i]).f0 = 2 from k2), wr _ (by omega) (by omega)]
   ·
    rw [if_neg (show ¬ (ofR l[i]).f0 = 2 from k2)] at hle
    rw [if_neg k2, if_neg (show ¬ (ofR l[i]).f0 = 2 from k2)]
    rcases gi with gi | gi | gi
    ·
     exact absurd gi k1
    ·
     exact absurd gi k2
    ·
     have g1 : 0 ≤ l[i].f2 := gi.1.1
     have g2 : l[i].f2 < (m1.length : Int) := by have := gi.1.2; rw [e1, List.length_map] at this; exact this
     have g3 : 0 ≤ l[i].f1 := gi.2.1
     have g4 : l[i].f1 < (m0.length : Int) := by have := gi.2.2; rw [e0, List.length_map] at this; exact this
     have ew : (rd_T56 m1 l[i].f2).f2 = fac l1 (ofR l[i]).f2.toNat := by
      unfold fac; rw [e1, mapd68 m1 (show (ofR l[i]).f2.toNat < m1.length by show l[i].f2.toNat < _; omega)]; rfl
     have em : (rd_T55 m0 l[i].f1).f2 = mnt l0 (ofR l[i]).f1.toNat := by
      unfold mnt; rw [e0, mapd94 m0 (show (ofR l[i]).f1.toNat < m0.length by show l[i].f1.toNat < _; omega)]; rfl
     rw [if_pos g1, if_pos g2, if_pos g3, if_pos g4, ew, em, wr (fac _ _ * mnt _ _) (by omega) (by omega), wr _ (by omega) (by omega)]
theorem rtime_ev (h0 : m0.length ≤ 8) (h1 : m1.length ≤ 22) (s0 : ∀ x ∈ m0, x.f0.size ≤ 40) (s1 : ∀ x ∈ m1, x.f0.size ≤ 40) (l : List S63) (hl : l.length ≤ 300) :
  Ev (fun k => culetref49_Time.f k m0 m1 a2 a3 l) (if validB (m0.map lapOf) (m1.map workOf) a2 a3 = true then (if (chk (m0.map lapOf).length (m1.map workOf) (l.map ofR)).2 = 0 then (tmL (m0.map lapOf) (m1.map workOf) a2 a3 (l.map ofR), 0) else (0, (chk (m0.map lapOf).length (m1.map workOf) (l.map ofR)).2)) else (0, 1)) := by
 refine Ev.congr (fun k => by unfold culetref49_Time.f; rfl) (Ev.bind (rchk_ev m0 m1 a2 a3 h0 h1 s0 s1 l (by omega)) ?_)
 cases hv : validB (m0.map lapOf) (m1.map workOf) a2 a3 with
 | false => exact Ev.congr (f := fun _ => some (0, 1)) (fun k => rfl) (Ev.now _)
 | true =>
  rw [if_pos rfl, if_pos rfl]
  by_cases hz : (chk (m0.map lapOf).length (m1.map workOf) (l.map ofR)).2 = 0
  ·
   rw [if_pos hz]
   obtain ⟨v0, v1, _, _, v4, _⟩ := valid_use hv
   obtain ⟨_, _, g⟩ := permitted_chk (a2 := a2) (a3 := a3) v0.1 v4 v1.1 hz
   have := rtime_l rfl rfl hv l hl (fun s hs => g _ (List.mem_map.2 ⟨s, hs, rfl⟩)) l.length 0 0 (by omega) (by omega) (by decide)
   rw [List.drop_zero, Int.zero_add] at this
   exact Ev.congr (fun k => by rw [if_pos hz]; rfl) this
  ·
   rw [if_neg hz]
   exact Ev.congr (f := fun _ => some (0, (chk (m0.map lapOf).length (m1.map workOf) (l.map ofR)).2)) (fun k => by rw [if_neg hz]) (Ev.now _)
theorem rchanges_l (l : List S63) (hl : l.length ≤ 1000000) : ∀ (d i n : Nat), i + d = l.length → n ≤ i → Ev (fun k => culetref49_Changes.l0 k l (n : Int) i) ((n + cntC ((l.drop i).map ofR) : Nat) : Int)
 | 0, i, n, h, hn => by
  obtain rfl : i = l.length := by omega
  refine Ev.step (f := fun _ => some ((n : Nat) : Int)) (fun k => ?_) (by simpa [cntC] using Ev.now _)
  rw [culetref49_Changes.l0, if_neg (by omega)]
 | d + 1, i, n, h, hn => by
  have hi : i < l.length := by omega
  rw [List.drop_eq_getElem_cons hi, List.map_cons, cntC_cons]
  by_cases h1 : l[i].f0 = 1
  ·
   rw [if_pos (show (ofR l[i]).f0 = 1 from h1), show n + (1 + cntC ((l.drop (i + 1)).map ofR)) = n + 1 + cntC ((l.drop (i + 1)).map ofR) by omega]
   refine Ev.step (f := fun k => culetref49_Changes.l0 k l ((n + 1 : Nat) : Int) ((i + 1 : Nat) : Int)) (fun k => ?_) (rchanges_l l hl d (i + 1) (n + 1) (by omega) (by omega))
   rw [culetref49_Changes.l0, if_pos (by omega), if_pos (by omega), rd101 hi, if_pos h1, wrap_nat (by omega), wrap_nat (by omega)]
  ·
   rw [if_neg (show ¬ (ofR l[i]).f0 = 1 from h1), Nat.zero_add]
   refine Ev.step (f := fun k => culetref49_Changes.l0 k l (n : Int) ((i + 1 : Nat) : Int)) (fun k => ?_) (rchanges_l l hl d (i + 1) n (by omega) (by omega))
   rw [culetref49_Changes.l0, if_pos (by omega), if_pos (by omega), rd101 hi, if_neg h1, wrap_nat (by omega)]
theorem rchanges_ev (l : List S63) (hl : l.length ≤ 1000000) : Ev (fun k => culetref49_Changes.f k l) ((cntC (l.map ofR) : Nat) : Int) := by
 have := rchanges_l l hl l.length 0 0 (by omega) (by omega)
 rw [List.drop_zero, Nat.zero_add] at this
 exact Ev.congr (fun k => by unfold culetref49_Changes.f; rfl) this
theorem texts_l (x : List ByteArray) (hl : x.length ≤ 1000000) : ∀ (d i : Nat), i + d = x.length → Ev (fun k => culetref48_SameTexts.l0 k x x i) true
 | 0, i, h => by
  refine Ev.step (f := fun _ => some true) (fun k => ?_) (Ev.now _)
  rw [culetref48_SameTexts.l0, if_neg (by omega)]
 | d + 1, i, h => by
  refine Ev.step (f := fun k => culetref48_SameTexts.l0 k x x ((i + 1 : Nat) : Int)) (fun k => ?_) (texts_l x hl d (i + 1) (by omega))
  rw [culetref48_SameTexts.l0, if_pos (by omega), if_pos (by omega), if_pos (by omega), if_pos rfl, wrap_nat (by omega)]
theorem texts_ev (x : List ByteArray) (hl : x.length ≤ 1000000) : Ev (fun k => culetref48_SameTexts.f k x x) true :=
 Ev.congr (fun k => by unfold culetref48_SameTexts.f; rw [if_pos rfl]; rfl) (texts_l x hl x.length 0 (by omega))

def dgt (n : Int) : ByteArray := ⟨(Lib.decDigits n.toNat).toArray⟩
theorem itoa_f {n : Int} (h : 1 ≤ n ∧ n ≤ 48) : strconv_Itoa.f n = some (dgt n) := by
 unfold strconv_Itoa.f dgt; rw [if_pos (by omega)]
theorem ritoa_all : ∀ n : Fin 49, (culetref44_Itoa.f 6 (n : Nat)).map (fun b => b.data.toList) = some (Lib.decDigits n) := by decide +kernel
theorem ritoa_ev {n : Int} (h : 1 ≤ n ∧ n ≤ 48) : Ev (fun k => culetref44_Itoa.f k n) (dgt n) := by
 have e : n = ((n.toNat : Nat) : Int) := by omega
 refine Ev.of (fun k => culetref44_Itoa.mono n k) (k := 6) ?_
 have := ritoa_all ⟨n.toNat, by omega⟩
 simp only at this
 rw [← e] at this
 obtain ⟨b, hb, hd⟩ := Option.map_eq_some_iff.1 this
 rw [hb]
 congr 1
 unfold dgt
 rw [← hd]
theorem dgt_size {n : Int} (h : 1 ≤ n ∧ n ≤ 48) : (dgt n).size ≤ 2 := by
 have : ∀ n : Fin 49, (Lib.decDigits n).length ≤ 2 := by decide +kernel
 have := this ⟨n.toNat, by omega⟩
 unfold dgt
 simpa [ByteArray.size] using this
def lineOf (l0 : List S49) (l1 : List S51) (s : S60) : ByteArray :=
 if s.f0 = 1 then (⟨#[108, 97, 112, 32]⟩ : ByteArray) ++ (l0.getD s.f1.toNat z49).f0 else if s.f0 = 2 then ⟨#[116, 114, 97, 110, 115, 102, 101, 114]⟩
 else (((⟨#[99, 117, 116, 32]⟩ : ByteArray) ++ (l1.getD s.f2.toNat z51).f0) ++ (⟨#[32]⟩ : ByteArray)) ++ dgt (l1.getD s.f2.toNat z51).f2

theorem small_ {n : Nat} (h : n ≤ 1000) : n ≤ 9223372036854775807 := Nat.le_trans h (by decide)
theorem size_cut (x : ByteArray) : ((⟨#[99, 117, 116, 32]⟩ : ByteArray) ++ x).size = 4 + x.size := by rw [ByteArray.size_append]; rfl
theorem size_cut1 (x : ByteArray) : (((⟨#[99, 117, 116, 32]⟩ : ByteArray) ++ x) ++ (⟨#[32]⟩ : ByteArray)).size = 4 + x.size + 1 := by rw [ByteArray.size_append, size_cut]; rfl
theorem lines_l {l0 : List S49} {l1 : List S51} (s0 : ∀ x ∈ l0, x.f0.size ≤ 40) (s1 : ∀ x ∈ l1, x.f0.size ≤ 40) (hf : ∀ i, i < l1.length → 1 ≤ (l1.getD i z51).f2 ∧ (l1.getD i z51).f2 ≤ 48) (l : List S60) (hl : l.length ≤ 300) (g : ∀ s ∈ l, good l0 l1 s) (gl : ∀ s ∈ l, s.f0 = 1 → 0 ≤ s.f1 ∧ s.f1 < (l0.length : Int)) : ∀ (d i : Nat) (out : List ByteArray), i + d = l.length → out.length ≤ i →
  Ev (fun k => steps_Lines.l0 k out l (l.length : Int) i l0 l1 a2 a3) (out ++ (l.drop i).map (lineOf l0 l1), 0) := by
 intro d
 induction d with
 | zero =>
  intro i out h ho
  obtain rfl : i = l.length := by omega
  refine Ev.step (f := fun _ => some (out, 0)) (fun k => ?_) (by rw [List.drop_length, List.map_nil, List.append_nil]; exact Ev.now _)
  rw [steps_Lines.l0, if_neg (by omega)]
 | succ d IH =>
  intro i out h ho
  have hi : i < l.length := by omega
  have gi := g l[i] (List.getElem_mem hi)
  have ih := IH (i + 1) (out ++ [lineOf l0 l1 l[i]]) (by omega) (by simp; omega)
  rw [List.drop_eq_getElem_cons hi, List.map_cons, List.append_cons]
  refine Ev.step (fun k => ?_) ih
  have ho' : out.length < 8796093022208 := Nat.lt_of_le_of_lt (show out.length ≤ 300 by omega) (by decide)
  rw [steps_Lines.l0, if_pos (by omega), if_pos (by omega), if_pos (by omega), rd62 hi, wrap_nat (by omega)]
  unfold lineOf
  by_cases k1 : l[i].f0 = 1
  ·
   rw [if_pos k1, if_pos k1]
   have g1 := gl l[i] (List.getElem_mem hi) k1
   have hj : l[i].f1.toNat < l0.length := by omega
   have en : rd_T49 l0 l[i].f1 = l0.getD l[i].f1.toNat z49 := rfl
   have hn := s0 _ (getD_mem hj z49)
   rw [if_pos g1.1, if_pos g1.2, en, if_pos (small_ (by omega)), if_pos ho']
  ·
   rw [if_neg k1, if_neg k1]
   by_cases k2 : l[i].f0 = 2
   ·
    rw [if_pos k2, if_pos k2, if_pos ho']
   ·
    rw [if_neg k2, if_neg k2]
    rcases gi with gi | gi | gi
    ·
     contradiction
    ·
     contradiction
    ·
     have hj : l[i].f2.toNat < l1.length := by omega
     have en : rd_T51 l1 l[i].f2 = l1.getD l[i].f2.toNat z51 := rfl
     have hn := s1 _ (getD_mem hj z51)
     have hd := dgt_size (hf _ hj)
     rw [if_pos gi.1.1, if_pos gi.1.2, en, size_cut, size_cut1, if_pos (small_ (by omega)), if_pos (small_ (by omega)), itoa_f (hf _ hj), Option.bind_some, if_pos (small_ (by omega)), if_pos ho']

theorem rlines_l {m0 : List S55} {m1 : List S56} {l0 : List S49} {l1 : List S51} (e0 : l0 = m0.map lapOf) (e1 : l1 = m1.map workOf) (s0 : ∀ x ∈ l0, x.f0.size ≤ 40) (s1 : ∀ x ∈ l1, x.f0.size ≤ 40) (hf : ∀ i, i < l1.length → 1 ≤ (l1.getD i z51).f2 ∧ (l1.getD i z51).f2 ≤ 48) (l : List S63) (hl : l.length ≤ 300) (g : ∀ s ∈ l, good l0 l1 (ofR s)) (gl : ∀ s ∈ l, s.f0 = 1 → 0 ≤ s.f1 ∧ s.f1 < (l0.length : Int)) : ∀ (d i : Nat) (out : List ByteArray), i + d = l.length → out.length ≤ i →
  Ev (fun k => culetref49_Lines.l0 k l out i m0 m1 a2 a3) (out ++ ((l.drop i).map ofR).map (lineOf l0 l1), 0) := by
 have n0 : l0.length = m0.length := by rw [e0, List.length_map]
 have n1 : l1.length = m1.length := by rw [e1, List.length_map]
 intro d
 induction d with
 | zero =>
  intro i out h ho
  obtain rfl : i = l.length := by omega
  refine Ev.step (f := fun _ => some (out, 0)) (fun k => ?_) (by rw [List.drop_length, List.map_nil, List.map_nil, List.append_nil]; exact Ev.now _)
  rw [culetref49_Lines.l0, if_neg (by omega)]
 | succ d IH =>
  intro i out h ho
  have hi : i < l.length := by omega
  have gi := g l[i] (List.getElem_mem hi)
  have ih := IH (i + 1) (out ++ [lineOf l0 l1 (ofR l[i])]) (by omega) (by simp; omega)
  rw [List.drop_eq_getElem_cons hi, List.map_cons, List.map_cons, List.append_cons]
  have ho' : out.length < 8796093022208 := Nat.lt_of_le_of_lt (show out.length ≤ 300 by omega) (by decide)
  by_cases k1 : l[i].f0 = 1
  ·
   refine Ev.step (fun k => ?_) ih
   rw [culetref49_Lines.l0, if_pos (by omega), if_pos (by omega), rd101 hi, wrap_nat (by omega)]
   unfold lineOf
   rw [if_pos k1, if_pos (show (ofR l[i]).f0 = 1 from k1)]
   have g1 := gl l[i] (List.getElem_mem hi) k1
   have hj : l[i].f1.toNat < m0.length := by omega
   have en : (rd_T55 m0 l[i].f1).f0 = (l0.getD (ofR l[i]).f1.toNat z49).f0 := by
    rw [e0, mapd94 m0 (show (ofR l[i]).f1.toNat < m0.length from hj)]; rfl
   have hn := s0 _ (getD_mem (show (ofR l[i]).f1.toNat < l0.length by rw [n0]; exact hj) z49)
   rw [if_pos g1.1, if_pos (by omega), en, if_pos (small_ (by omega)), if_pos ho']
  ·
   by_cases k2 : l[i].f0 = 2
   ·
    refine Ev.step (fun k => ?_) ih
    rw [culetref49_Lines.l0, if_pos (by omega), if_pos (by omega), rd101 hi, wrap_nat (by omega)]
    unfold lineOf
    rw [if_neg k1, if_pos k2, if_pos ho', if_neg (show ¬ (ofR l[i]).f0 = 1 from k1), if_pos (show (ofR l[i]).f0 = 2 from k2)]
   ·
    rcases gi with gi | gi | gi
    ·
     exact absurd gi k1
    ·
     exact absurd gi k2
    ·
     have g1 : 0 ≤ l[i].f2 := gi.1.1
     have g2 : l[i].f2 < (m1.length : Int) := by have := gi.1.2; rw [n1] at this; exact this
     have hj : l[i].f2.toNat < m1.length := by omega
     have hj' : (ofR l[i]).f2.toNat < l1.length := by rw [n1]; exact hj
     have en : (rd_T56 m1 l[i].f2).f0 = (l1.getD (ofR l[i]).f2.toNat z51).f0 := by
      rw [e1, mapd68 m1 (show (ofR l[i]).f2.toNat < m1.length from hj)]; rfl
     have em : (rd_T56 m1 l[i].f2).f2 = (l1.getD (ofR l[i]).f2.toNat z51).f2 := by
      rw [e1, mapd68 m1 (show (ofR l[i]).f2.toNat < m1.length from hj)]; rfl
     have hn := s1 _ (getD_mem hj' z51)
     have hff := hf _ hj'
     have hd := dgt_size hff
     refine Ev.step (f := fun k => (culetref44_Itoa.f k ((rd_T56 m1 l[i].f2).f2)).bind fun t272 => (if (((⟨#[99, 117, 116, 32]⟩ : ByteArray) ++ ((rd_T56 m1 l[i].f2).f0)) ++ (⟨#[32]⟩ : ByteArray)).size + t272.size ≤ 9223372036854775807 then (if out.length < 8796093022208 then (culetref49_Lines.l0 k l (out ++ [(((⟨#[99, 117, 116, 32]⟩ : ByteArray) ++ ((rd_T56 m1 l[i].f2).f0)) ++ (⟨#[32]⟩ : ByteArray)) ++ t272]) ((i + 1 : Nat) : Int) m0 m1 a2 a3) else (none)) else (none))) (fun k => ?_) ?_
     ·
      rw [culetref49_Lines.l0, if_pos (by omega), if_pos (by omega), rd101 hi, wrap_nat (by omega), if_neg k1, if_neg k2, if_pos g1, if_pos g2, en, size_cut, if_pos (small_ (by omega)), if_pos (small_ (by omega))]
     ·
      rw [em, en]
      refine Ev.bind (ritoa_ev hff) ?_
      refine Ev.congr (fun k => ?_) ih
      rw [size_cut1, if_pos (small_ (by omega)), if_pos ho']
      unfold lineOf
      rw [if_neg (show ¬ (ofR l[i]).f0 = 1 from k1), if_neg (show ¬ (ofR l[i]).f0 = 2 from k2)]
theorem run_lap {n0 : Nat} {l1 : List S51} : ∀ {l : List S60} {q q' : St}, runL n0 l1 l q = some q' → ∀ s ∈ l, s.f0 = 1 → 0 ≤ s.f1 ∧ s.f1 < (n0 : Int)
 | [], _, _, _, s, hs, _ => by cases hs
 | x :: t, q, q', h, s, hs, h1 => by
  unfold runL at h
  obtain ⟨p, hp, hr⟩ := Option.bind_eq_some_iff.1 h
  rcases List.mem_cons.1 hs with rfl | hs
  ·
   unfold stepF at hp
   rw [if_pos h1] at hp
   split at hp
   ·
    next hc =>
    simp only [Bool.and_eq_true, inB_iff] at hc
    omega
   ·
    cases hp
  ·
   exact run_lap hr s hs h1
theorem lines_ev (l0 : List S49) (l1 : List S51) (s0 : ∀ x ∈ l0, x.f0.size ≤ 40) (s1 : ∀ x ∈ l1, x.f0.size ≤ 40) (l : List S60) (hl : l.length ≤ 300) :
  Ev (fun k => steps_Lines.f k l0 l1 a2 a3 l) (if validB l0 l1 a2 a3 = true then (if (chk l0.length l1 l).2 = 0 then (l.map (lineOf l0 l1), 0) else ([], (chk l0.length l1 l).2)) else ([], 1)) := by
 refine Ev.congr (fun k => by unfold steps_Lines.f; rfl) (Ev.bind (check_ev l0 l1 a2 a3 l s0 s1 (by omega)) ?_)
 cases hv : validB l0 l1 a2 a3 with
 | false => exact Ev.congr (f := fun _ => some ([], 1)) (fun k => rfl) (Ev.now _)
 | true =>
  rw [if_pos rfl, if_pos rfl]
  by_cases hz : (chk l0.length l1 l).2 = 0
  ·
   rw [if_pos hz]
   obtain ⟨v0, v1, _, _, v4, v5, _⟩ := valid_use hv
   obtain ⟨_, _, g⟩ := permitted_chk (a2 := a2) (a3 := a3) v0.1 v4 v1.1 hz
   obtain ⟨q, hq, _⟩ := chk_ok hz
   have := lines_l a2 a3 s0 s1 v5 l hl g (run_lap hq) l.length 0 [] (by omega) (by simp)
   rw [List.drop_zero, List.nil_append] at this
   exact Ev.congr (fun k => by rw [if_pos hz]; rfl) this
  ·
   rw [if_neg hz]
   exact Ev.congr (f := fun _ => some ([], (chk l0.length l1 l).2)) (fun k => by rw [if_neg hz]) (Ev.now _)
theorem rlines_ev (h0 : m0.length ≤ 8) (h1 : m1.length ≤ 22) (r0 : ∀ x ∈ m0, x.f0.size ≤ 40) (r1 : ∀ x ∈ m1, x.f0.size ≤ 40) (s0 : ∀ x ∈ m0.map lapOf, x.f0.size ≤ 40) (s1 : ∀ x ∈ m1.map workOf, x.f0.size ≤ 40) (l : List S63) (hl : l.length ≤ 300) :
  Ev (fun k => culetref49_Lines.f k m0 m1 a2 a3 l) (if validB (m0.map lapOf) (m1.map workOf) a2 a3 = true then (if (chk (m0.map lapOf).length (m1.map workOf) (l.map ofR)).2 = 0 then ((l.map ofR).map (lineOf (m0.map lapOf) (m1.map workOf)), 0) else ([], (chk (m0.map lapOf).length (m1.map workOf) (l.map ofR)).2)) else ([], 1)) := by
 refine Ev.congr (fun k => by unfold culetref49_Lines.f; rfl) (Ev.bind (rchk_ev m0 m1 a2 a3 h0 h1 r0 r1 l (by omega)) ?_)
 cases hv : validB (m0.map lapOf) (m1.map workOf) a2 a3 with
 | false => exact Ev.congr (f := fun _ => some ([], 1)) (fun k => rfl) (Ev.now _)
 | true =>
  rw [if_pos rfl, if_pos rfl]
  by_cases hz : (chk (m0.map lapOf).length (m1.map workOf) (l.map ofR)).2 = 0
  ·
   rw [if_pos hz]
   obtain ⟨v0, v1, _, _, v4, v5, _⟩ := valid_use hv
   obtain ⟨_, _, g⟩ := permitted_chk (a2 := a2) (a3 := a3) v0.1 v4 v1.1 hz
   obtain ⟨q, hq, _⟩ := chk_ok hz
   have hlap := run_lap hq
   have := rlines_l a2 a3 rfl rfl s0 s1 v5 l hl (fun s hs => g _ (List.mem_map.2 ⟨s, hs, rfl⟩)) (fun s hs k => hlap _ (List.mem_map.2 ⟨s, hs, rfl⟩) k) l.length 0 [] (by omega) (by simp)
   rw [List.drop_zero, List.nil_append] at this
   exact Ev.congr (fun k => by rw [if_pos hz]; rfl) this
  ·
   rw [if_neg hz]
   exact Ev.congr (f := fun _ => some ([], (chk (m0.map lapOf).length (m1.map workOf) (l.map ofR)).2)) (fun k => by rw [if_neg hz]) (Ev.now _)
end
end Go.Proofs.YtalhpnfapagamaaDoor.Plain
