-- Written by this session's own programs; what the law does not lean on is left out. Lean checks it.
import Derived.Test.YtejgenhmhahgeaaDoorLP
import Derived.Test.YtejgenhmhahgeaaDoorLTx43
namespace Go.Proofs.YtejgenhmhahgeaaDoor.Plain
set_option linter.unusedVariables false
set_option linter.unusedSimpArgs false
open Go Go.RowKit Go.Proofs.YtejgenhmhahgeaaDoor.T Go.Proofs.YtejgenhmhahgeaaDoorW.PrintWords Go.Proofs.YtejgenhmhahgeaaDoorW.PrintLast Go.Proofs.YtejgenhmhahgeaaDoorW.PrintMore

/-- The first weight behind a class. -/
def lim (l : List S63) (i : Nat) : Int := if i < l.length then F l i else 1000001
/-- A least weight with a value, or none. -/
def LeastOK (l : List S63) (q : Int) (r : Int × Int) : Prop := (r.2 = 0 ∧ 0 ≤ r.1 ∧ r.1 ≤ 1000000 ∧ q ≤ valN l r.1 ∧ ∀ x, 0 ≤ x → x < r.1 → valN l x < q) ∨ (r = (0, 7) ∧ ∀ x, 0 ≤ x → x ≤ 1000000 → valN l x < q)
theorem lim_in {s : ByteArray} {l : List S63} (v : V s l) {i : Nat} (hi : i < l.length) {x : Int} (h0 : F l i ≤ x) (h1 : x < lim l (i + 1)) : cI l x = i :=
 cI_eq v hi h0 (fun h => by unfold lim at h1; rwa [if_pos h] at h1)
theorem lim_le {s : ByteArray} {l : List S63} (v : V s l) (i : Nat) : lim l i ≤ 1000001 := by
 unfold lim
 split
 ·
  have := v.hi i (by assumption); omega
 ·
  exact Int.le_refl _
theorem lim_up {s : ByteArray} {l : List S63} (v : V s l) {i : Nat} (hi : i < l.length) : F l i < lim l (i + 1) := by
 unfold lim
 split
 ·
  exact v.up i (by assumption)
 ·
  have := v.hi i hi; omega
theorem ceil_le {W p x : Int} (hp : 0 < p) : (W + p - 1) / p ≤ x ↔ W ≤ x * p := by
 have h : (W + p - 1) / p < x + 1 ↔ W + p - 1 < (x + 1) * p := Int.ediv_lt_iff_lt_mul hp
 rw [Int.add_mul, Int.one_mul] at h
 omega
theorem val_ge {q x p : Int} : q ≤ x * p / 1000 ↔ q * 1000 ≤ x * p := Int.le_ediv_iff_mul_le (by decide)
theorem least_l {s : ByteArray} {l : List S63} (v : V s l) (q : Int) (q0 : 0 < q) (q1 : q ≤ 1000000000) : ∀ (d i : Nat), i + d = l.length → (∀ x, 0 ≤ x → x < lim l i → valN l x < q) → ∃ r, Ev (fun k => tariff_Least.l0 k q l (l.length : Int) (i : Int) s l) r ∧ LeastOK l q r
 | 0, i, h, hx => by
  obtain rfl : i = l.length := by omega
  refine ⟨(0, 7), Ev.step (f := fun _ => some (0, 7)) (fun k => ?_) (Ev.now _), .inr ⟨rfl, fun x h0 h1 => hx x h0 ?_⟩⟩
  ·
   simp only [tariff_Least.l0]; rw [if_neg (by omega)]
  ·
   unfold lim; rw [if_neg (by omega)]; omega
 | d + 1, i, h, hx => by
  have hi : i < l.length := by omega
  have h20 := v.len20
  have f0 := v.nn hi
  have f1 := v.hi i hi
  have p0 := v.p0 i hi
  have p1 := v.p1 i hi
  have l1 := lim_le v (i + 1)
  have l0 := lim_up v hi
  have ex : lim l i = F l i := by unfold lim; rw [if_pos hi]
  have st : ∀ k, tariff_Least.l0 (k + 1) q l (l.length : Int) (i : Int) s l = tariff_Least.j1 k q (lim l (i + 1) - 1) l (l.length : Int) (i : Int) s l (F l i) (P l i) := by
   intro k
   simp only [tariff_Least.l0]
   rw [if_pos (by omega), if_pos (by omega), if_pos (by omega), wrap_nat (by omega)]
   unfold lim
   by_cases hn : i + 1 < l.length
   ·
    have a := v.nn hn
    have b := v.hi _ hn
    unfold F at a b
    rw [if_pos (by omega), if_pos (by omega), if_pos hn, wrap_id (by omega) (by omega)]
   ·
    rw [if_neg (by omega), if_neg hn]; rfl
  by_cases hp : P l i = 0
  ·
   -- no value in this class
   obtain ⟨r, e, ok⟩ := least_l v q q0 q1 d (i + 1) (by omega) (fun x h0 h1 => by
    by_cases hb : x < lim l i
    ·
     exact hx x h0 hb
    ·
     have : cI l x = i := lim_in v hi (by omega) h1
     unfold valN
     rw [this, hp, Int.mul_zero]
     omega)
   refine ⟨r, ?_, ok⟩
   refine Ev.step (fun k => st k) (Ev.step (f := fun k => tariff_Least.l0 k q l (l.length : Int) ((i + 1 : Nat) : Int) s l) (fun k => ?_) e)
   simp only [tariff_Least.j1]
   rw [if_pos hp, wrap_nat (by omega)]
  ·
   have hp' : 0 < P l i := by omega
   have W : wrap64 (Int.tdiv (wrap64 ((wrap64 ((wrap64 (q * 1000)) + P l i)) - 1)) (P l i)) = (q * 1000 + P l i - 1) / P l i := by
    have a1 : wrap64 (q * 1000) = q * 1000 := wrap_id (by omega) (by omega)
    have a2 : wrap64 (q * 1000 + P l i) = q * 1000 + P l i := wrap_id (by omega) (by omega)
    have a3 : wrap64 (q * 1000 + P l i - 1) = q * 1000 + P l i - 1 := wrap_id (by omega) (by omega)
    rw [a1, a2, a3, Int.tdiv_eq_ediv_of_nonneg (by omega)]
    have b0 : 0 ≤ (q * 1000 + P l i - 1) / P l i := Int.ediv_nonneg (by omega) (by omega)
    have b1 : (q * 1000 + P l i - 1) / P l i ≤ q * 1000 + P l i - 1 := Int.ediv_le_self _ (by omega)
    exact wrap_id (by omega) (by omega)
   obtain ⟨c, hc⟩ : ∃ c, (q * 1000 + P l i - 1) / P l i = c := ⟨_, rfl⟩
   rw [hc] at W
   have key : ∀ x, c ≤ x ↔ q ≤ x * P l i / 1000 := fun x => by rw [← hc, ceil_le hp', val_ge]
   obtain ⟨m, hm⟩ : ∃ m, mx (F l i) c = m := ⟨_, rfl⟩
   have hm1 : F l i ≤ m := by rw [← hm]; unfold mx; split <;> omega
   have hm2 : c ≤ m := by rw [← hm]; unfold mx; split <;> omega
   have hm3 : ∀ x, F l i ≤ x → c ≤ x → m ≤ x := by intro x h1 h2; rw [← hm]; unfold mx; split <;> omega
   have st2 : ∀ k, tariff_Least.j1 (k + 1) q (lim l (i + 1) - 1) l (l.length : Int) (i : Int) s l (F l i) (P l i) = if m ≤ lim l (i + 1) - 1 then some (m, 0) else tariff_Least.l0 k q l (l.length : Int) ((i + 1 : Nat) : Int) s l := by
    intro k
    simp only [tariff_Least.j1]
    rw [if_neg hp, W, hm, wrap_nat (by omega)]
   by_cases hml : m ≤ lim l (i + 1) - 1
   ·
    refine ⟨(m, 0), Ev.step (fun k => st k) (Ev.step (f := fun _ => some (m, 0)) (fun k => by rw [st2, if_pos hml]) (Ev.now _)), .inl ⟨rfl, by dsimp only; omega, by dsimp only; omega, ?_, fun x h0 h1 => ?_⟩⟩
    ·
     dsimp only
     unfold valN
     rw [lim_in v hi hm1 (by omega)]
     exact (key m).1 hm2
    ·
     dsimp only at h1
     by_cases hb : x < lim l i
     ·
      exact hx x h0 hb
     ·
      unfold valN
      rw [lim_in v hi (by omega) (by omega)]
      have : ¬ c ≤ x := fun hcx => by have := hm3 x (by omega) hcx; omega
      rw [key x] at this
      omega
   ·
    obtain ⟨r, e, ok⟩ := least_l v q q0 q1 d (i + 1) (by omega) (fun x h0 h1 => by
     by_cases hb : x < lim l i
     ·
      exact hx x h0 hb
     ·
      unfold valN
      rw [lim_in v hi (by omega) h1]
      have : ¬ c ≤ x := fun hcx => by have := hm3 x (by omega) hcx; omega
      rw [key x] at this
      omega)
    exact ⟨r, Ev.step (fun k => st k) (Ev.step (fun k => by rw [st2, if_neg hml]) e), ok⟩
theorem val_range {s : ByteArray} {l : List S63} (v : V s l) {x : Int} (h0 : 0 ≤ x) (h1 : x ≤ 1000000) : 0 ≤ valN l x ∧ valN l x ≤ 1000000000 := by
 obtain ⟨a, _⟩ := class_spec v h0
 obtain ⟨m0, m1⟩ := mul_range h0 h1 (v.p0 _ a) (v.p1 _ a)
 unfold valN
 omega
theorem Least_ev (s : ByteArray) (hs : s.size ≤ 1000) (l : List S63) (hl : l.length ≤ 100000) (q : Int) : ∃ r, Ev (fun k => tariff_Least.f k s l q) (if vB s l = true then r else (0, 1)) ∧ (vB s l = true → LeastOK l q r) := by
 unfold tariff_Least.f
 cases hv : vB s l with
 | false =>
  refine ⟨(0, 0), Ev.bind (valid_ev s hs l hl) ?_, fun h => by cases h⟩
  rw [hv]
  simp only [Bool.false_eq_true, if_false]; exact Ev.now _
 | true =>
  have v := V_of hv
  have go : ∃ r, Ev (fun k => if q ≤ 0 then some (0, 0) else (if q > 1000000000 then some (0, 7) else tariff_Least.l0 k q l (l.length : Int) 0 s l)) r ∧ LeastOK l q r := by
   by_cases h0 : q ≤ 0
   ·
    refine ⟨(0, 0), ?_, .inl ⟨rfl, Int.le_refl _, by decide, Int.le_trans h0 (val_range v (Int.le_refl _) (by decide)).1, fun x a b => by dsimp only at b; omega⟩⟩
    simp only [h0, if_true]; exact Ev.now _
   ·
    by_cases h1 : q > 1000000000
    ·
     refine ⟨(0, 7), ?_, .inr ⟨rfl, fun x a b => by have := (val_range v a b).2; omega⟩⟩
     simp only [h0, h1, if_true, if_false]; exact Ev.now _
    ·
     obtain ⟨r, e, ok⟩ := least_l v q (by omega) (by omega) l.length 0 (by omega) (fun x a b => by
      unfold lim at b
      rw [if_pos (by have := v.len1; omega), v.z] at b
      omega)
     refine ⟨r, ?_, ok⟩
     simp only [h0, h1, if_false]; exact e
  obtain ⟨r, e, ok⟩ := go
  refine ⟨r, Ev.bind (valid_ev s hs l hl) ?_, fun _ => ok⟩
  rw [hv]
  simp only [if_true]
  exact e
end Go.Proofs.YtejgenhmhahgeaaDoor.Plain
