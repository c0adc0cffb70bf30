/- ContrastOrder, on lists alone: Change does not depend on the order of both maps; Of does not depend on an exchange of rows and columns, nor on a turn upside down. -/
import Derived.Test.YtalhpnfapagamaaCo
import Derived.Test.YtalhpnfapagamaaSums
namespace Go.Proofs.Ytalhpnfapagamaa.Pure
open Go.RowKit Go.Proofs.Ytalhpnfapagamaa.C Go.Proofs.Ytalhpnfapagamaa.Plain Go.Proofs.YtalhpnfapagamaaW.PrintWords Go.Proofs.YtalhpnfapagamaaW.PrintLast

def idxUpto (c : Nat) : Nat → List (Nat × Nat)
  | 0 => []
  | i + 1 => idxUpto c i ++ (List.range c).map (fun j => (i, j))
theorem sqRow_idx (m : List (List Int)) (i : Nat) (hi : i < m.length) : ∀ (k : Nat) (h : k ≤ (rd_L1 m i).length), (sqRow m i hi k h).map (·.1) = (List.range k).map (fun j => (i, j))
  | 0, _ => rfl
  | k + 1, h => by simp only [sqRow, List.map_append]; rw [sqRow_idx m i hi k (by omega), List.range_succ, List.map_append]; rfl
theorem sqUpto_idx {m : List (List Int)} (hv : validB m = true) : ∀ (i : Nat) (h : i ≤ m.length), (sqUpto m i h).map (·.1) = idxUpto (rd_L1 m 0).length i
  | 0, _ => rfl
  | i + 1, h => by
    have := ((validB_rows hv).2.2.2.2 i (by omega)).1
    simp only [sqUpto, idxUpto, List.map_append]
    rw [sqUpto_idx hv i (by omega), sqRow_idx, this]
theorem addT_comm (p : Int × Int × Int) (a b : Int) : addT p a b = addT p b a := by
  unfold addT
  by_cases h : a = b
  · subst h; rfl
  · simp only [or_comm, if_neg h, if_neg (fun e => h (Eq.symm e))]
theorem ch_idx {a : List (List Int)} (b : List (List Int)) (ha : validB a = true) : (sqAll a).foldl (stepCh a b) (0, 0, 0) = (idxUpto (rd_L1 a 0).length a.length).foldl (fun p x => addT p (at2 a x.1 x.2) (at2 b x.1 x.2)) (0, 0, 0) := by
  rw [← sqUpto_idx ha a.length (Nat.le_refl _), List.foldl_map]
  rfl
theorem ch_comm {a b : List (List Int)} (ha : validB a = true) (hb : validB b = true) (h1 : a.length = b.length) (h2 : (rd_L1 a 0).length = (rd_L1 b 0).length) : (sqAll a).foldl (stepCh a b) (0, 0, 0) = (sqAll b).foldl (stepCh b a) (0, 0, 0) := by
  rw [ch_idx b ha, ch_idx a hb, h1, h2]
  congr 1
  funext p x
  exact addT_comm _ _ _

/-! ### turned -/
theorem tu_l2 (m : List (List Int)) (x4 : List (List Int)) (hm : m.length ≤ 16) : ∀ (d : Nat), d ≤ m.length → Ev (fun k => culetlaw36_turned.l2 k m x4 (m.drop d).reverse ((d : Int) - 1)) (x4, m.reverse)
  | 0, _ => by
    refine Ev.step (f := fun _ => some (x4, m.reverse)) (fun k => ?_) (Ev.now _)
    simp only [culetlaw36_turned.l2]; rw [if_neg (by omega), List.drop_zero]
  | d + 1, h => by
    have hd : d < m.length := by omega
    have e : m.drop d = m[d] :: m.drop (d + 1) := List.drop_eq_getElem_cons hd
    have e0 : ((d + 1 : Nat) : Int) - 1 = (d : Int) := by omega
    refine Ev.step (f := fun k => culetlaw36_turned.l2 k m x4 (m.drop d).reverse ((d : Int) - 1)) (fun k => ?_) (tu_l2 m x4 hm d (by omega))
    rw [e0]
    simp only [culetlaw36_turned.l2]
    rw [if_pos (by omega), if_pos (by omega), if_pos (by omega), if_pos (by simp; omega), row_at hd, e, List.reverse_cons, show wrap64 ((d : Int) - 1) = (d : Int) - 1 by unfold wrap64; omega]
theorem tu_l1 (m : List (List Int)) (x4 : List (List Int)) (hv : validB m = true) (h4 : x4.length ≤ 16) (j : Nat) (hj : j < (rd_L1 m 0).length) (r : List (List Int) × List (List Int))
    (hr : Ev (fun k => culetlaw36_turned.l0 k m (x4 ++ [(List.range m.length).map fun (i : Nat) => at2 m (i : Int) (j : Int)]) ((j + 1 : Nat) : Int)) r) :
    ∀ (d i : Nat), i + d = m.length → Ev (fun k => culetlaw36_turned.l1 k m x4 j ((List.range i).map fun (i : Nat) => at2 m (i : Int) (j : Int)) i) r
  | 0, i, h => by
    obtain rfl : i = m.length := by omega
    obtain ⟨_, _, _, h16, _⟩ := validB_rows hv
    refine Ev.step (f := fun k => culetlaw36_turned.l0 k m (x4 ++ [(List.range m.length).map fun (i : Nat) => at2 m (i : Int) (j : Int)]) ((j + 1 : Nat) : Int)) (fun k => ?_) hr
    simp only [culetlaw36_turned.l1]; rw [if_neg (by omega), if_pos (by omega), wrap_nat (by omega)]
  | d + 1, i, h => by
    obtain ⟨_, h2, _, _, h5⟩ := validB_rows hv
    have hi : i < m.length := by omega
    have hl := (h5 i hi).1
    refine Ev.step (f := fun k => culetlaw36_turned.l1 k m x4 j ((List.range (i + 1)).map fun (i : Nat) => at2 m (i : Int) (j : Int)) ((i + 1 : Nat) : Int)) (fun k => ?_) (tu_l1 m x4 hv h4 j hj r hr d (i + 1) (by omega))
    simp only [culetlaw36_turned.l1]
    rw [if_pos (by omega), if_pos (by omega), if_pos (by omega), if_pos (by omega), if_pos (by simp; omega), wrap_nat (by omega), List.range_succ, List.map_append]
    rfl
theorem tu_l0 {m : List (List Int)} (hv : validB m = true) : ∀ (d j : Nat), j + d = (rd_L1 m 0).length → Ev (fun k => culetlaw36_turned.l0 k m ((tr m).take j) j) (tr m, m.reverse)
  | 0, j, h => by
    obtain ⟨h1, h2, h3, h4, _⟩ := validB_rows hv
    obtain rfl : j = (rd_L1 m 0).length := by omega
    have h := tu_l2 m (tr m) h2 m.length (Nat.le_refl _)
    refine Ev.step (fun k => ?_) h
    simp only [culetlaw36_turned.l0]
    rw [if_pos (by omega), if_neg (by omega), show wrap64 ((m.length : Int) - 1) = (m.length : Int) - 1 by unfold wrap64; omega, List.take_of_length_le (by rw [tr_len]; exact Nat.le_refl _), List.drop_length]
    rfl
  | d + 1, j, h => by
    obtain ⟨h1, h2, h3, h4, _⟩ := validB_rows hv
    have hj : j < (rd_L1 m 0).length := by omega
    have ih := tu_l0 hv d (j + 1) (by omega)
    have e : (tr m).take (j + 1) = (tr m).take j ++ [(List.range m.length).map fun (i : Nat) => at2 m (i : Int) (j : Int)] := by
      rw [List.take_succ_eq_append_getElem (by rw [tr_len]; exact hj)]; simp [tr]
    rw [e] at ih
    have h := tu_l1 m ((tr m).take j) hv (by rw [List.length_take, tr_len]; omega) j hj _ ih m.length 0 (by omega)
    refine Ev.step (fun k => ?_) h
    simp only [culetlaw36_turned.l0]
    rw [if_pos (by omega), if_pos (by omega)]
    rfl
theorem turned_ev {m : List (List Int)} (hv : validB m = true) : Ev (fun k => culetlaw36_turned.f k m) (tr m, m.reverse) := by
  have := tu_l0 hv (rd_L1 m 0).length 0 (by omega)
  simpa [culetlaw36_turned.f] using this

theorem order_j0 (a : List (List Int)) : Ev (fun k => culetlaw36_ContrastOrder.j0 k a false) true := by
  refine Ev.step (fun k => by simp only [culetlaw36_ContrastOrder.j0, Bool.false_eq_true, if_false, culetlaw36_theirs.f, Option.bind_some]; rfl) (Ev.bind (ref_valid_ev a) ?_)
  cases hv : validB a with
  | false => simpa using Ev.now true
  | true =>
    simp only [if_true]
    refine Ev.bind (turned_ev hv) ?_
    refine Ev.bind (of_ev a) ?_
    refine Ev.bind (of_ev (tr a)) ?_
    refine Ev.bind (of_ev a.reverse) ?_
    rw [hv, tr_valid hv, rev_valid hv]
    simp only [if_true, of_cnt hv, of_cnt (tr_valid hv), of_cnt (rev_valid hv), cnt_tr hv, cnt_rev hv u1 u1_comm, cnt_rev hv u2 u2_comm, cnt_rev hv u3 u3_comm]
    simpa using Ev.now true

theorem ContrastOrder (a : List (List Int)) (ha : a.length ≤ 9223372036854775807 ∧ ∀ row ∈ a, row.length ≤ 9223372036854775807 ∧ ∀ x ∈ row, (Lit.int .i64 x).wf = true)
    (b : List (List Int)) (hb : b.length ≤ 9223372036854775807 ∧ ∀ row ∈ b, row.length ≤ 9223372036854775807 ∧ ∀ x ∈ row, (Lit.int .i64 x).wf = true) : ∃ k, culetlaw36_ContrastOrder.f k a b = some true := by
  apply Ev.rounds (g := fun k => culetlaw36_ContrastOrder.f k a b)
  refine Ev.congr (fun k => by unfold culetlaw36_ContrastOrder.f; rfl) (Ev.bind awake_ok ?_)
  simp only [if_true]
  refine Ev.bind (few_ev a b ha.1 hb.1) ?_
  cases fewB a && fewB b with
  | false => simpa using Ev.now true
  | true =>
    simp only [if_true]
    refine Ev.bind (change_ev a b) (Ev.bind (change_ev b a) ?_)
    have e : (if validB b = true then (if validB a = true then (if b.length = a.length ∧ (rd_L1 b 0).length = (rd_L1 a 0).length then (((sqAll b).foldl (stepCh b a) (0, 0, 0)).1, ((sqAll b).foldl (stepCh b a) (0, 0, 0)).2.1, ((sqAll b).foldl (stepCh b a) (0, 0, 0)).2.2, (0 : Int)) else (0, 0, 0, 1)) else (0, 0, 0, 1)) else (0, 0, 0, 1)) =
      (if validB a = true then (if validB b = true then (if a.length = b.length ∧ (rd_L1 a 0).length = (rd_L1 b 0).length then (((sqAll a).foldl (stepCh a b) (0, 0, 0)).1, ((sqAll a).foldl (stepCh a b) (0, 0, 0)).2.1, ((sqAll a).foldl (stepCh a b) (0, 0, 0)).2.2, (0 : Int)) else (0, 0, 0, 1)) else (0, 0, 0, 1)) else (0, 0, 0, 1)) := by
      cases hva : validB a with
      | false => cases hvb : validB b <;> simp
      | true =>
        cases hvb : validB b with
        | false => simp
        | true =>
          simp only [if_true]
          by_cases h : a.length = b.length ∧ (rd_L1 a 0).length = (rd_L1 b 0).length
          · rw [if_pos h, if_pos ⟨h.1.symm, h.2.symm⟩, ch_comm hva hvb h.1 h.2]
          · rw [if_neg h, if_neg (fun h' => h ⟨h'.1.symm, h'.2.symm⟩)]
    rw [e]
    generalize (if validB a = true then (if validB b = true then (if a.length = b.length ∧ (rd_L1 a 0).length = (rd_L1 b 0).length then (((sqAll a).foldl (stepCh a b) (0, 0, 0)).1, ((sqAll a).foldl (stepCh a b) (0, 0, 0)).2.1, ((sqAll a).foldl (stepCh a b) (0, 0, 0)).2.2, (0 : Int)) else (0, 0, 0, 1)) else (0, 0, 0, 1)) else (0, 0, 0, 1)) = q
    simp only [beq_self_eq_true, Bool.not_true, Bool.or_self, Bool.false_eq_true, if_false, bne_self_eq_false]
    exact order_j0 a

end Go.Proofs.Ytalhpnfapagamaa.Pure
