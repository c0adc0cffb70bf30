-- Written by this session's own programs; what the law does not lean on is left out. Lean checks it.
import Derived.Test.YtejgenhmhahgeaaDoorYP
import Derived.Test.YtejgenhmhahgeaaDoorYTx39
namespace Go.Proofs.YtejgenhmhahgeaaDoor.Plain
set_option linter.unusedVariables false
set_option linter.unusedSimpArgs false
open Go Go.RowKit Go.Proofs.YtejgenhmhahgeaaDoor.T Go.Proofs.YtejgenhmhahgeaaDoorW.PrintWords Go.Proofs.YtejgenhmhahgeaaDoorW.PrintLast Go.Proofs.YtejgenhmhahgeaaDoorW.PrintMore
theorem val_same {s : ByteArray} {l : List S63} (v : V s l) {x y : Int} (h0 : 0 ≤ x) (h : x ≤ y) (hc : cI l x = cI l y) : valN l x ≤ valN l y := by
 obtain ⟨a, _⟩ := class_spec v h0
 unfold valN
 rw [← hc]
 exact Int.ediv_le_ediv (by decide) (Int.mul_le_mul_of_nonneg_right h (v.p0 _ a))
theorem fair_at {l : List S63} (h : fairB l = true) {j : Nat} (h0 : 0 < j) (hj : j < l.length) : valN l (F l j - 1) ≤ valN l (F l j) := by
 unfold fairB at h
 rw [List.all_eq_true] at h
 exact of_decide_eq_true (h j (List.mem_range'_1.2 ⟨h0, by omega⟩))
theorem fair_mono {s : ByteArray} {l : List S63} (v : V s l) (hf : fairB l = true) : ∀ (n : Nat) (x y : Int), 0 ≤ x → x ≤ y → cI l y - cI l x ≤ n → valN l x ≤ valN l y := by
 intro n
 induction n with
 | zero =>
  intro x y h0 h hn
  have := cI_mono v h0 h
  exact val_same v h0 h (by omega)
 | succ n ih =>
  intro x y h0 h hn
  have hm := cI_mono v h0 h
  by_cases hc : cI l x = cI l y
  ·
   exact val_same v h0 h hc
  ·
   obtain ⟨a, _, b, c⟩ := class_spec v h0
   obtain ⟨a', _, b', c'⟩ := class_spec v (Int.le_trans h0 h)
   have hj : cI l x + 1 < l.length := by omega
   have lt := c (cI l x + 1) (by omega) hj
   have e1 : cI l (F l (cI l x + 1) - 1) = cI l x := cI_eq v a (by omega) (fun _ => by omega)
   have e2 : cI l (F l (cI l x + 1)) = cI l x + 1 := cI_eq v hj (Int.le_refl _) (fun h2 => v.up _ h2)
   have le : F l (cI l x + 1) ≤ y := by
    rcases Nat.lt_or_ge (cI l x + 1) (cI l y) with q | q
    ·
     have := v.lt q a'; omega
    ·
     have : cI l y = cI l x + 1 := by omega
     rw [this] at b'; exact b'
   have s1 : valN l x ≤ valN l (F l (cI l x + 1) - 1) := val_same v h0 (by omega) e1.symm
   have s2 := fair_at hf (Nat.succ_pos (cI l x)) hj
   have s3 : valN l (F l (cI l x + 1)) ≤ valN l y := ih _ y (v.nn hj) le (by rw [e2]; omega)
   exact Int.le_trans s1 (Int.le_trans s2 s3)
end Go.Proofs.YtejgenhmhahgeaaDoor.Plain
namespace Go.Proofs.YtejgenhmhahgeaaDoor.Pure
set_option linter.unusedVariables false
set_option linter.unusedSimpArgs false
open Go Go.RowKit Go.Proofs.YtejgenhmhahgeaaDoor.T Go.Proofs.YtejgenhmhahgeaaDoor.Plain Go.Proofs.YtejgenhmhahgeaaDoorW.PrintWords Go.Proofs.YtejgenhmhahgeaaDoorW.PrintLast Go.Proofs.YtejgenhmhahgeaaDoorW.PrintMore
/-- A weight's error. -/
def erR (s : ByteArray) (l : List S63) (x : Int) : Int := if vB s l = true then (if outB x = true then 2 else 0) else 1
theorem ans_bad {s : ByteArray} {l : List S63} {x : Int} (h : erR s l x ≠ 0) (p : Int) : ans s l x (p, 0) = (0, erR s l x) := by
 unfold ans erR at *
 cases hv : vB s l with
 | false => rw [hv] at h; simp
 | true =>
  rw [hv] at h
  cases ho : outB x with
  | false => rw [ho] at h; simp at h
  | true => simp
theorem ans_good {s : ByteArray} {l : List S63} {x : Int} (h : erR s l x = 0) (p : Int × Int) : ans s l x p = p ∧ vB s l = true ∧ 0 ≤ x ∧ x ≤ 1000000 := by
 unfold ans erR at *
 cases hv : vB s l with
 | false => rw [hv] at h; simp at h
 | true =>
  rw [hv] at h
  cases ho : outB x with
  | false => exact ⟨by simp, rfl, out_in ho⟩
  | true => rw [ho] at h; simp at h
theorem TariffSteps (s : ByteArray) (l : List S42) (x y : Int) : ∃ k, culetlaw44_TariffSteps.f k s l x y = some true := by
 have jt : Ev (fun k => culetlaw44_TariffSteps.j0 k true s l x y) true := Ev.step (f := fun k => (culetlaw44_awake.f k).bind fun t => some t) (fun k => by simp only [culetlaw44_TariffSteps.j0, if_true]) (Ev.bind (f := fun _ t => some t) awake_ev (Ev.now _))
 suffices h : Ev (fun k => culetlaw44_TariffSteps.f k s l x y) true from h.rounds
 unfold culetlaw44_TariffSteps.f
 refine Ev.bind awake_ev ?_
 simp only [if_true]
 rw [few_ev]
 simp only [Option.bind_some]
 cases hf : fewB s l with
 | false => simp only [Bool.false_eq_true, if_false]; exact jt
 | true =>
  simp only [if_true]
  unfold fewB at hf
  rw [Bool.and_eq_true, decide_eq_true_iff, decide_eq_true_iff] at hf
  by_cases hxy : x > y
  ·
   rw [decide_eq_true hxy]; exact jt
  ·
   rw [decide_eq_false hxy]
   have hs : s.size ≤ 1000 := by omega
   have ho : (own l).length ≤ 100000 := by rw [own_length]; omega
   refine Ev.step (f := fun k => (culetlaw44_Own.f k s l).bind fun bt252 => ((tariff_Value.f k bt252.1 bt252.2 x).bind fun bt257 => ((tariff_Value.f k bt252.1 bt252.2 y).bind fun bt259 => ((tariff_ClassOf.f k bt252.1 bt252.2 x).bind fun bt261 => ((tariff_ClassOf.f k bt252.1 bt252.2 y).bind fun bt263 => (if bt257.2 = 0 then (if bt259.2 = 0 then (if bt261.2 = 0 then (culetlaw44_TariffSteps.j1 k bt257.1 bt257.2 bt259.1 bt259.2 bt261.1 bt261.2 bt263.1 bt263.2 (bt263.2 != 0) x y bt252.1 bt252.2) else (culetlaw44_TariffSteps.j1 k bt257.1 bt257.2 bt259.1 bt259.2 bt261.1 bt261.2 bt263.1 bt263.2 true x y bt252.1 bt252.2)) else (culetlaw44_TariffSteps.j1 k bt257.1 bt257.2 bt259.1 bt259.2 bt261.1 bt261.2 bt263.1 bt263.2 true x y bt252.1 bt252.2)) else (culetlaw44_TariffSteps.j1 k bt257.1 bt257.2 bt259.1 bt259.2 bt261.1 bt261.2 bt263.1 bt263.2 true x y bt252.1 bt252.2))))))) (fun k => by simp only [culetlaw44_TariffSteps.j0, Bool.false_eq_true, if_false]) ?_
   refine Ev.bind (own_ev s l (by omega)) (Ev.bind (Value_ev s hs (own l) ho x) (Ev.bind (Value_ev s hs (own l) ho y) (Ev.bind (ClassOf_ev s hs (own l) ho x) (Ev.bind (ClassOf_ev s hs (own l) ho y) ?_))))
   have bad : ∀ a b c d p q : Int, Ev (fun k => culetlaw44_TariffSteps.j1 k a p b q c p d q true x y s (own l)) true := fun a b c d p q => Ev.step (f := fun _ => some true) (fun k => by simp only [culetlaw44_TariffSteps.j1, if_true, beq_self_eq_true]) (Ev.now _)
   by_cases e0 : erR s (own l) x = 0
   ·
    obtain ⟨_, hv, x0, x1⟩ := ans_good e0 (0, 0)
    rw [(ans_good e0 _).1, (ans_good e0 _).1]
    by_cases e1 : erR s (own l) y = 0
    ·
     obtain ⟨_, _, y0, y1⟩ := ans_good e1 (0, 0)
     rw [(ans_good e1 _).1, (ans_good e1 _).1]
     have v := V_of hv
     simp only [if_true, bne_self_eq_false]
     refine Ev.step (f := fun k => (tariff_Next.f k s (own l) x).bind fun bt265 => (if bt265.2 = 0 then (if ((decide (bt265.1 ≤ y)) == (((cI (own l) x : Nat) : Int) != ((cI (own l) y : Nat) : Int))) = true then (if ((cI (own l) x : Nat) : Int) = ((cI (own l) y : Nat) : Int) then (some (decide (valN (own l) x ≤ valN (own l) y))) else ((tariff_Fair.f k s (own l)).bind fun t267 => (if t267 = true then (some (decide (valN (own l) x ≤ valN (own l) y))) else (some true)))) else (some false)) else (if (false == (((cI (own l) x : Nat) : Int) != ((cI (own l) y : Nat) : Int))) = true then (if ((cI (own l) x : Nat) : Int) = ((cI (own l) y : Nat) : Int) then (some (decide (valN (own l) x ≤ valN (own l) y))) else ((tariff_Fair.f k s (own l)).bind fun t268 => (if t268 = true then (some (decide (valN (own l) x ≤ valN (own l) y))) else (some true)))) else (some false)))) (fun k => by simp only [culetlaw44_TariffSteps.j1, Bool.false_eq_true, if_false]) ?_
     refine Ev.bind (Next_ev s hs (own l) ho x) ?_
     rw [(ans_good e0 _).1]
     have hle : x ≤ y := Int.not_lt.1 hxy
     obtain ⟨a, _, b, c⟩ := class_spec v x0
     obtain ⟨a', _, b', c'⟩ := class_spec v y0
     have hm := cI_mono v x0 hle
     have fin : Ev (fun k => (if ((cI (own l) x : Nat) : Int) = ((cI (own l) y : Nat) : Int) then (some (decide (valN (own l) x ≤ valN (own l) y))) else ((tariff_Fair.f k s (own l)).bind fun t267 => (if t267 = true then (some (decide (valN (own l) x ≤ valN (own l) y))) else (some true))))) true := by
      by_cases hc : cI (own l) x = cI (own l) y
      ·
       have h1 : ((cI (own l) x : Nat) : Int) = ((cI (own l) y : Nat) : Int) := by rw [hc]
       have h2 := val_same v x0 hle hc
       simp only [h1, if_true, decide_eq_true h2]; exact Ev.now _
      ·
       have h1 : ¬ ((cI (own l) x : Nat) : Int) = ((cI (own l) y : Nat) : Int) := by omega
       simp only [h1, if_false]
       refine Ev.bind (Fair_ev s hs (own l) ho) ?_
       rw [hv, Bool.true_and]
       cases hq : fairB (own l) with
       | false => simp only [Bool.false_eq_true, if_false]; exact Ev.now _
       | true =>
        have h2 := fair_mono v hq _ x y x0 hle (Nat.le_refl _)
        simp only [if_true, decide_eq_true h2]; exact Ev.now _
     unfold nextR
     by_cases hn : cI (own l) x + 1 < (own l).length
     ·
      rw [if_pos hn]
      simp only [if_true]
      have h3 : (decide (F (own l) (cI (own l) x + 1) ≤ y) == (((cI (own l) x : Nat) : Int) != ((cI (own l) y : Nat) : Int))) = true := by
       by_cases hc : cI (own l) x = cI (own l) y
       ·
        have := c' (cI (own l) x + 1) (by omega) hn
        rw [decide_eq_false (by omega), hc]; simp
       ·
        have : F (own l) (cI (own l) x + 1) ≤ y := by
         rcases Nat.lt_or_ge (cI (own l) x + 1) (cI (own l) y) with q | q
         ·
          have := v.lt q a'; omega
         ·
          have e : cI (own l) y = cI (own l) x + 1 := by omega
          rw [e] at b'; exact b'
        rw [decide_eq_true this, show (((cI (own l) x : Nat) : Int) != ((cI (own l) y : Nat) : Int)) = true from bne_iff_ne.2 (by omega)]; rfl
      simp only [h3, if_true]
      exact fin
     ·
      rw [if_neg hn]
      have hc : cI (own l) x = cI (own l) y := by omega
      have h3 : (false == (((cI (own l) x : Nat) : Int) != ((cI (own l) y : Nat) : Int))) = true := by rw [hc]; simp
      simp only [show ((7 : Int) = 0) = False from eq_false (by decide), if_false, h3, if_true]
      exact fin
    ·
     rw [ans_bad e1, ans_bad e1]
     simp only [if_true, e1, if_false]
     exact bad _ _ _ _ _ _
   ·
    rw [ans_bad e0, ans_bad e0]
    simp only [e0, if_false]
    by_cases e1 : erR s (own l) y = 0
    ·
     rw [(ans_good e1 _).1, (ans_good e1 _).1]
     exact bad _ _ _ _ _ _
    ·
     rw [ans_bad e1, ans_bad e1]
     exact bad _ _ _ _ _ _
end Go.Proofs.YtejgenhmhahgeaaDoor.Pure
