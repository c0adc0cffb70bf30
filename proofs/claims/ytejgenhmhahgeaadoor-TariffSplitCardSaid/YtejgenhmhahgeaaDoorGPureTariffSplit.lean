-- Written by this session's own programs; what the law does not lean on is left out. Lean checks it.
import Derived.Test.YtejgenhmhahgeaaDoorGP
import Derived.Test.YtejgenhmhahgeaaDoorGTs
namespace Go.Proofs.YtejgenhmhahgeaaDoor.Plain
set_option linter.unusedVariables false
set_option linter.unusedSimpArgs false
open Go Go.RowKit Go.Proofs.YtejgenhmhahgeaaDoor.T Go.Proofs.YtejgenhmhahgeaaDoorW.PrintWords Go.Proofs.YtejgenhmhahgeaaDoorW.PrintLast Go.Proofs.YtejgenhmhahgeaaDoorW.PrintMore
theorem val_range {s : ByteArray} {l : List S63} (v : V s l) {x : Int} (h0 : 0 ≤ x) (h1 : x ≤ 1000000) : 0 ≤ valN l x ∧ valN l x ≤ 1000000000 := by
 obtain ⟨a, _⟩ := class_spec v h0
 obtain ⟨m0, m1⟩ := mul_range h0 h1 (v.p0 _ a) (v.p1 _ a)
 unfold valN
 omega
def sumV (l : List S63) : List Int → Int
 | [] => 0
 | x :: t => valN l x + sumV l t
def totR (s : ByteArray) (l : List S63) (ws : List Int) : Int × Int := if vB s l = true then (if ws.length > 1000 then (0, 3) else (if ws.any outB = true then (0, 2) else (sumV l ws, 0))) else (0, 1)
theorem total_l (s : ByteArray) {l : List S63} (v : V s l) (ws : List Int) (hw : ws.length ≤ 1000) (ha : ∀ x ∈ ws, outB x = false) : ∀ (d i : Nat) (acc : Int), i + d = ws.length → 0 ≤ acc → acc ≤ i * 1000000000 → Ev (fun k => tariff_Total.l0 k acc ws (ws.length : Int) (i : Int) s l) (acc + sumV l (ws.drop i), 0) := by
 intro d
 induction d with
 | zero =>
  intro i acc h a0 a1
  obtain rfl : i = ws.length := by omega
  rw [List.drop_length]
  refine Ev.step (f := fun _ => some (acc + 0, 0)) (fun k => ?_) (Ev.now _)
  simp only [tariff_Total.l0]; rw [if_neg (by omega), Int.add_zero]
 | succ d IH =>
  intro i acc h a0 a1
  have hi : i < ws.length := by omega
  obtain ⟨x0, x1⟩ := out_in (ha _ (List.getElem_mem hi))
  obtain ⟨v0, v1⟩ := val_range v x0 x1
  rw [List.drop_eq_getElem_cons hi]
  have ih := IH (i + 1) (acc + valN l ws[i]) (by omega) (by omega) (by omega)
  have e : acc + sumV l (ws[i] :: ws.drop (i + 1)) = acc + valN l ws[i] + sumV l (ws.drop (i + 1)) := by
   show acc + (valN l ws[i] + sumV l (ws.drop (i + 1))) = _
   omega
  rw [e]
  refine Ev.step (fun k => ?_) ih
  have w1 : wrap64 (acc + valN l ws[i]) = acc + valN l ws[i] := wrap_id (by omega) (by omega)
  simp only [tariff_Total.l0]
  rw [if_pos (by omega), if_pos (by omega), if_pos (by omega), rdI hi, value_ev v x0 x1, Option.bind_some, w1, wrap_nat (by omega)]
theorem Total_ev (s : ByteArray) (hs : s.size ≤ 1000) (l : List S63) (hl : l.length ≤ 100000) (ws : List Int) (hw : ws.length ≤ 1002) : Ev (fun k => tariff_Total.f k s l ws) (totR s l ws) := by
 unfold tariff_Total.f totR
 refine Ev.bind (right_ev s hs l hl ws (by omega)) ?_
 have j1e : ∀ e : Int, e ≠ 0 → Ev (fun k => tariff_Total.j1 k ws e s l) (0, e) := fun e he => Ev.step (f := fun _ => some (0, e)) (fun k => by simp only [tariff_Total.j1, if_neg he]) (Ev.now _)
 have j0f : ∀ e : Int, ∀ r, Ev (fun k => tariff_Total.j1 k ws e s l) r → Ev (fun k => tariff_Total.j0 k ws e false s l) r := fun e r h => Ev.step (fun k => by simp only [tariff_Total.j0, Bool.false_eq_true, if_false]) h
 have j0t : ∀ e : Int, Ev (fun k => tariff_Total.j0 k ws e true s l) (0, 3) := fun e => Ev.step (fun k => by simp only [tariff_Total.j0, if_true]) (j1e 3 (by decide))
 unfold rightR
 cases hv : vB s l with
 | false =>
  simp only [Bool.false_eq_true, if_false, if_true]
  exact j0f _ _ (j1e 1 (by decide))
 | true =>
  simp only [if_true]
  by_cases h3 : ws.length > 1000
  ·
   have hd : decide ((ws.length : Int) > 1000) = true := decide_eq_true (by omega)
   rw [if_pos h3, hd]
   cases ws.any outB with
   | true => simp only [if_true, show ((2 : Int) = 1) = False from eq_false (by decide), if_false]; exact j0t _
   | false => simp only [Bool.false_eq_true, show ((0 : Int) = 1) = False from eq_false (by decide), if_false]; exact j0t _
  ·
   have hd : decide ((ws.length : Int) > 1000) = false := decide_eq_false (by omega)
   rw [if_neg h3, hd]
   cases ha : ws.any outB with
   | true => simp only [if_true, show ((2 : Int) = 1) = False from eq_false (by decide), if_false]; exact j0f _ _ (j1e 2 (by decide))
   | false =>
    simp only [Bool.false_eq_true, show ((0 : Int) = 1) = False from eq_false (by decide), if_false]
    refine j0f _ _ ?_
    rw [List.any_eq_false] at ha
    have t := total_l s (V_of hv) ws (by omega) (fun x hx => Bool.eq_false_iff.2 (ha x hx)) ws.length 0 0 (by omega) (Int.le_refl _) (by omega)
    rw [List.drop_zero, Int.zero_add] at t
    exact Ev.step (fun k => by simp only [tariff_Total.j1, if_true]; rfl) t
theorem split_same {a b p : Int} : (a + b) * p / 1000 - (a * p / 1000 + b * p / 1000) ≥ 0 ∧ (a + b) * p / 1000 - (a * p / 1000 + b * p / 1000) ≤ 1 := by
 rw [Int.add_mul]
 generalize a * p = x
 generalize b * p = y
 omega
theorem P_up {l : List S63} (h : ∀ j, 1 ≤ j → j < l.length → P l (j - 1) ≤ P l j) : ∀ (d i : Nat), i + d < l.length → P l i ≤ P l (i + d)
 | 0, i, _ => Int.le_refl _
 | d + 1, i, hd => by
  have h1 := P_up h d i (by omega)
  have h2 := h (i + d + 1) (by omega) (by omega)
  rw [Nat.add_sub_cancel] at h2
  exact Int.le_trans h1 h2
theorem split_gain {s : ByteArray} {l : List S63} (v : V s l) {a b : Int} (a0 : 0 ≤ a) (b0 : 0 ≤ b) (h : ∀ j, 1 ≤ j → j < l.length → P l (j - 1) ≤ P l j) : valN l a + valN l b ≤ valN l (a + b) := by
 have ca := cI_mono v a0 (by omega : a ≤ a + b)
 have cb := cI_mono v b0 (by omega : b ≤ a + b)
 have cl := (class_spec v (by omega : 0 ≤ a + b)).1
 have pa := P_up h (cI l (a + b) - cI l a) (cI l a) (by omega)
 have pb := P_up h (cI l (a + b) - cI l b) (cI l b) (by omega)
 rw [show cI l a + (cI l (a + b) - cI l a) = cI l (a + b) by omega] at pa
 rw [show cI l b + (cI l (a + b) - cI l b) = cI l (a + b) by omega] at pb
 have ma := Int.mul_le_mul_of_nonneg_left pa a0
 have mb := Int.mul_le_mul_of_nonneg_left pb b0
 unfold valN
 rw [Int.add_mul]
 generalize a * P l (cI l a) = x at ma ⊢
 generalize b * P l (cI l b) = y at mb ⊢
 generalize a * P l (cI l (a + b)) = x' at ma ⊢
 generalize b * P l (cI l (a + b)) = y' at mb ⊢
 omega
theorem P_own (l : List S42) (i : Nat) : P (own l) i = (rd_T42 l (i : Int)).f1 := by unfold P; rw [own_rd]
theorem prices_l (s : ByteArray) {l : List S42} (hl : l.length ≤ 100000) (whole parts : Int) (hg : (∀ j, 1 ≤ j → j < l.length → P (own l) (j - 1) ≤ P (own l) j) → parts ≤ whole) : ∀ (d i : Nat), 1 ≤ i → i + d = l.length → (∀ j, 1 ≤ j → j < i → P (own l) (j - 1) ≤ P (own l) j) → Ev (fun k => culetlaw44_TariffSplit.l1 k whole parts (i : Int) s l) true
 | 0, i, h1, h, hp => by
  obtain rfl : i = l.length := by omega
  have := hg (fun j a b => hp j a b)
  refine Ev.step (f := fun _ => some true) (fun k => ?_) (Ev.now _)
  simp only [culetlaw44_TariffSplit.l1]; rw [if_neg (by omega), decide_eq_true this]
 | d + 1, i, h1, h, hp => by
  obtain ⟨j, rfl⟩ : ∃ j, i = j + 1 := ⟨i - 1, by omega⟩
  have w1 : wrap64 (((j + 1 : Nat) : Int) - 1) = (j : Int) := by unfold wrap64; omega
  have st : ∀ k, culetlaw44_TariffSplit.l1 (k + 1) whole parts ((j + 1 : Nat) : Int) s l = if P (own l) j > P (own l) (j + 1) then some true else culetlaw44_TariffSplit.l1 k whole parts ((j + 1 + 1 : Nat) : Int) s l := by
   intro k
   simp only [culetlaw44_TariffSplit.l1]
   rw [if_pos (by omega), w1, if_pos (by omega), if_pos (by omega), if_pos (by omega), wrap_nat (by omega), P_own, P_own]
  by_cases hc : P (own l) j > P (own l) (j + 1)
  ·
   exact Ev.step (f := fun _ => some true) (fun k => by rw [st, if_pos hc]) (Ev.now _)
  ·
   refine Ev.step (fun k => by rw [st, if_neg hc]) (prices_l s hl whole parts hg d (j + 1 + 1) (by omega) (by omega) (fun q a b => ?_))
   rcases Nat.lt_or_ge q (j + 1) with z | z
   ·
    exact hp q a z
   ·
    have : q = j + 1 := by omega
    rw [this, Nat.add_sub_cancel]; omega
end Go.Proofs.YtejgenhmhahgeaaDoor.Plain
namespace Go.Proofs.YtejgenhmhahgeaaDoor.Pure
set_option linter.unusedVariables false
set_option linter.unusedSimpArgs false
open Go Go.RowKit Go.Proofs.YtejgenhmhahgeaaDoor.T Go.Proofs.YtejgenhmhahgeaaDoor.Plain Go.Proofs.YtejgenhmhahgeaaDoorW.PrintWords Go.Proofs.YtejgenhmhahgeaaDoorW.PrintLast Go.Proofs.YtejgenhmhahgeaaDoorW.PrintMore
theorem TariffSplit (s : ByteArray) (l : List S42) (a b : Int) : ∃ k, culetlaw44_TariffSplit.f k s l a b = some true := by
 have jt : Ev (fun k => culetlaw44_TariffSplit.j0 k true s l a b) true := Ev.step (f := fun k => (culetlaw44_awake.f k).bind fun t => some t) (fun k => by simp only [culetlaw44_TariffSplit.j0, if_true]) (Ev.bind (f := fun _ t => some t) awake_ev (Ev.now _))
 suffices h : Ev (fun k => culetlaw44_TariffSplit.f k s l a b) true from h.rounds
 unfold culetlaw44_TariffSplit.f
 refine Ev.bind awake_ev ?_
 simp only [if_true]
 rw [few_ev]
 simp only [Option.bind_some]
 cases hf : fewB s l with
 | false => simp only [Bool.false_eq_true, if_false]; exact jt
 | true =>
  simp only [if_true]
  unfold fewB at hf
  rw [Bool.and_eq_true, decide_eq_true_iff, decide_eq_true_iff] at hf
  by_cases a0 : a < 0
  ·
   simp only [a0, if_true]; exact jt
  by_cases b0 : b < 0
  ·
   simp only [a0, b0, if_true, if_false]; exact jt
  by_cases a1 : a > 1000000
  ·
   simp only [a0, b0, a1, if_true, if_false]; exact jt
  by_cases b1 : b > 1000000
  ·
   simp only [a0, b0, a1, b1, if_true, if_false]; exact jt
  have wab : wrap64 (a + b) = a + b := wrap_id (by omega) (by omega)
  rw [wab]
  by_cases c1 : a + b > 1000000
  ·
   simp only [a0, b0, a1, b1, c1, if_true, if_false]; exact jt
  simp only [a0, b0, a1, b1, c1, if_false]
  have hs : s.size ≤ 1000 := by omega
  have hl : l.length ≤ 100000 := by omega
  have ho : (own l).length ≤ 100000 := by rw [own_length]; exact hl
  refine Ev.bind (rvalid_ev s hs l hl) ?_
  cases hv : vB s (own l) with
  | false => exact jt
  | true =>
   have v := V_of hv
   have oa := in_out (by omega : 0 ≤ a) (by omega)
   have ob := in_out (by omega : 0 ≤ b) (by omega)
   have oc := in_out (by omega : 0 ≤ a + b) (by omega)
   have ans_ok : ∀ x p, outB x = false → ans s (own l) x p = p := fun x p hx => by unfold ans; rw [if_pos hv, hx, if_neg (by simp)]
   have evw := Value_ev s hs (own l) ho (a + b)
   rw [ans_ok _ _ oc] at evw
   have evt : Ev (fun k => tariff_Total2.f k s (own l) a b) (valN (own l) a + valN (own l) b, 0) := by
    have := Total_ev s hs (own l) ho [a, b] (by simp only [List.length_cons, List.length_nil]; omega)
    have e : totR s (own l) [a, b] = (valN (own l) a + valN (own l) b, 0) := by
     unfold totR
     rw [if_pos hv, if_neg (by simp only [List.length_cons, List.length_nil]; omega), List.any_cons, List.any_cons, oa, ob]
     simp [sumV]
    rw [e] at this
    exact this
   have evc : ∀ x, outB x = false → Ev (fun k => tariff_ClassOf.f k s (own l) x) (((cI (own l) x : Nat) : Int), 0) := fun x hx => by
    have := ClassOf_ev s hs (own l) ho x
    rwa [ans_ok _ _ hx] at this
   obtain ⟨v0, v1⟩ := val_range v (by omega : 0 ≤ a) (by omega)
   obtain ⟨w0, w1⟩ := val_range v (by omega : 0 ≤ b) (by omega)
   obtain ⟨u0, u1⟩ := val_range v (by omega : 0 ≤ a + b) (by omega)
   have wd : wrap64 (valN (own l) (a + b) - (valN (own l) a + valN (own l) b)) = valN (own l) (a + b) - (valN (own l) a + valN (own l) b) := wrap_id (by omega) (by omega)
   -- the end: no price falls, or no gain
   have fin : Ev (fun k => culetlaw44_TariffSplit.j3 k (valN (own l) (a + b)) (valN (own l) a + valN (own l) b) false s l) true := by
    have h1 := v.len1
    rw [own_length] at h1
    have := prices_l s hl (valN (own l) (a + b)) (valN (own l) a + valN (own l) b) (fun hm => split_gain v (by omega) (by omega) (fun j x y => hm j x (by rw [own_length] at y; exact y))) (l.length - 1) 1 (Nat.le_refl _) (by omega) (fun j x y => by omega)
    exact Ev.step (fun k => by simp only [culetlaw44_TariffSplit.j3, Bool.false_eq_true, if_false]; rfl) this
   have st0 : ∀ k, culetlaw44_TariffSplit.j0 (k + 1) (!true) s l a b = ((culetlaw44_Own.f k s l).bind fun bt229 => ((tariff_Value.f k bt229.1 bt229.2 (a + b)).bind fun bt234 => ((tariff_Total2.f k bt229.1 bt229.2 a b).bind fun bt236 => (if bt234.2 = 0 then (culetlaw44_TariffSplit.j1 k bt234.1 bt236.1 (bt236.2 != 0) s l a b bt229.1 bt229.2) else (culetlaw44_TariffSplit.j1 k bt234.1 bt236.1 true s l a b bt229.1 bt229.2))))) := fun k => by simp only [culetlaw44_TariffSplit.j0, Bool.not_true, Bool.false_eq_true, if_false, wab]
   refine Ev.step st0 (Ev.bind (own_ev s l hl) (Ev.bind evw (Ev.bind evt ?_)))
   simp only [if_true, bne_self_eq_false]
   have st1 : ∀ k, culetlaw44_TariffSplit.j1 (k + 1) (valN (own l) (a + b)) (valN (own l) a + valN (own l) b) false s l a b s (own l) = culetlaw44_TariffSplit.l0 k (valN (own l) (a + b)) (valN (own l) a + valN (own l) b) [] [a, b, a + b] 3 0 s l s (own l) := fun k => by
    simp only [culetlaw44_TariffSplit.j1, Bool.false_eq_true, if_false, Option.bind_some, wab]; rfl
   refine Ev.step st1 ?_
   have rr : ∀ (ks : List Int) (i : Nat) (x : Int), i < 3 → rd [a, b, a + b] (i : Int) = x → outB x = false → ks.length ≤ 3 → ∀ res, Ev (fun k => culetlaw44_TariffSplit.l0 k (valN (own l) (a + b)) (valN (own l) a + valN (own l) b) (ks ++ [((cI (own l) x : Nat) : Int)]) [a, b, a + b] 3 ((i + 1 : Nat) : Int) s l s (own l)) res → Ev (fun k => culetlaw44_TariffSplit.l0 k (valN (own l) (a + b)) (valN (own l) a + valN (own l) b) ks [a, b, a + b] 3 (i : Int) s l s (own l)) res := by
    intro ks i x hi hx ox hk res hres
    refine Ev.step (f := fun k => (tariff_ClassOf.f k s (own l) x).bind fun bt242 => (if ks.length < 17592186044416 then (culetlaw44_TariffSplit.l0 k (valN (own l) (a + b)) (valN (own l) a + valN (own l) b) (ks ++ [bt242.1]) [a, b, a + b] 3 ((i + 1 : Nat) : Int) s l s (own l)) else none)) (fun k => ?_) (Ev.bind (evc x ox) ?_)
    ·
     simp only [culetlaw44_TariffSplit.l0]
     rw [if_pos (by omega), if_pos (by omega), if_pos (by simp only [List.length_cons, List.length_nil]; omega), hx, wrap_nat (by omega)]
    ·
     have hm : ks.length < 17592186044416 := by omega
     simp only [if_pos hm]; exact hres
   refine rr [] 0 a (by decide) rfl oa (by decide) _ (rr _ 1 b (by decide) rfl ob (by simp only [List.length_append, List.length_cons, List.length_nil]; omega) _ (rr _ 2 (a + b) (by decide) rfl oc (by simp only [List.length_append, List.length_cons, List.length_nil]; omega) _ ?_))
   simp only [List.nil_append, List.cons_append]
   have st3 : ∀ k, culetlaw44_TariffSplit.l0 (k + 1) (valN (own l) (a + b)) (valN (own l) a + valN (own l) b) [((cI (own l) a : Nat) : Int), ((cI (own l) b : Nat) : Int), ((cI (own l) (a + b) : Nat) : Int)] [a, b, a + b] 3 ((2 + 1 : Nat) : Int) s l s (own l) = if ((cI (own l) a : Nat) : Int) = ((cI (own l) (a + b) : Nat) : Int) then (if ((cI (own l) b : Nat) : Int) = ((cI (own l) (a + b) : Nat) : Int) then (if valN (own l) (a + b) - (valN (own l) a + valN (own l) b) < 0 then (culetlaw44_TariffSplit.j3 k (valN (own l) (a + b)) (valN (own l) a + valN (own l) b) true s l) else (culetlaw44_TariffSplit.j3 k (valN (own l) (a + b)) (valN (own l) a + valN (own l) b) (decide (valN (own l) (a + b) - (valN (own l) a + valN (own l) b) > 1)) s l)) else (culetlaw44_TariffSplit.j3 k (valN (own l) (a + b)) (valN (own l) a + valN (own l) b) false s l)) else (culetlaw44_TariffSplit.j3 k (valN (own l) (a + b)) (valN (own l) a + valN (own l) b) false s l) := by
    intro k
    simp only [culetlaw44_TariffSplit.l0]
    rw [if_neg (by decide), if_pos (by simp only [List.length_cons, List.length_nil]; decide), if_pos (by simp only [List.length_cons, List.length_nil]; decide), wd]
    rfl
   refine Ev.step st3 ?_
   by_cases k0 : ((cI (own l) a : Nat) : Int) = ((cI (own l) (a + b) : Nat) : Int)
   ·
    by_cases k1 : ((cI (own l) b : Nat) : Int) = ((cI (own l) (a + b) : Nat) : Int)
    ·
     have e0 : cI (own l) a = cI (own l) (a + b) := by omega
     have e1 : cI (own l) b = cI (own l) (a + b) := by omega
     have sp := split_same (a := a) (b := b) (p := P (own l) (cI (own l) (a + b)))
     have va : valN (own l) a = a * P (own l) (cI (own l) (a + b)) / 1000 := by unfold valN; rw [e0]
     have vb : valN (own l) b = b * P (own l) (cI (own l) (a + b)) / 1000 := by unfold valN; rw [e1]
     have vc : valN (own l) (a + b) = (a + b) * P (own l) (cI (own l) (a + b)) / 1000 := rfl
     have n0 : ¬ valN (own l) (a + b) - (valN (own l) a + valN (own l) b) < 0 := by rw [va, vb, vc]; omega
     have n1 : ¬ valN (own l) (a + b) - (valN (own l) a + valN (own l) b) > 1 := by rw [va, vb, vc]; omega
     simp only [k0, k1, if_true, n0, if_false]
     rw [decide_eq_false n1]
     exact fin
    ·
     simp only [k0, k1, if_true, if_false]; exact fin
   ·
    simp only [k0, if_false]; exact fin
end Go.Proofs.YtejgenhmhahgeaaDoor.Pure
