-- Written by this session's own programs; what the law does not lean on is left out. Lean checks it.
import Derived.Test.YthjmbagkomnpgaaDoorJP
import Derived.Test.YthjmbagkomnpgaaDoorJLx27
import Derived.Test.YthjmbagkomnpgaaDoorJLx28
import Derived.Test.YthjmbagkomnpgaaDoorJLx35
import Derived.Test.YthjmbagkomnpgaaDoorJLx29
import Derived.Test.YthjmbagkomnpgaaDoorJLx37
section
namespace Go.Proofs.YthjmbagkomnpgaaDoor.Plain
open Go Go.RowKit Go.Proofs.YthjmbagkomnpgaaDoor.L Go.Proofs.YthjmbagkomnpgaaDoorW.PrintWords Go.Proofs.YthjmbagkomnpgaaDoorW.PrintLast

theorem rletter_ev (c : UInt8) : culetref13_letter.f (c.toNat : Int) = some (isL c) := letter_ev c
theorem rdigit_ev (c : UInt8) : culetref13_digit.f (c.toNat : Int) = some (isD c) := digit_ev c

def RES : List Bs := [[100, 101, 115, 105, 103, 110], [111, 114, 100, 101, 114], [109, 105, 114, 114, 111, 114], [116, 105, 101, 114], [97, 110, 103, 108, 101], [97, 116], [100, 101, 112, 116, 104], [109, 101, 101, 116], [101, 100, 103, 101], [104, 101, 105, 103, 104, 116], [116, 104, 114, 111, 117, 103, 104]]
theorem rres_l (l : Bs) (R : List Bs) (hR : R.length ≤ 100) : ∀ (d i : Nat), i + d = R.length → Ev (fun k => culetref13_Reserved.l0 k (mk l) (R.map mk) (i : Int)) ((R.drop i).any (fun x => decide (l = x)))
 | 0, i, h => by
  obtain rfl : i = R.length := by omega
  refine Ev.step (f := fun _ => some false) (fun k => ?_) (by simpa using Ev.now false)
  simp only [culetref13_Reserved.l0]; rw [if_neg (by rw [List.length_map]; omega)]
 | d + 1, i, h => by
  have hi : i < R.length := by omega
  have ih := rres_l l R hR d (i + 1) (by omega)
  have hrd : rdOf ByteArray.empty (R.map mk) (i : Int) = mk R[i] := by
   unfold rdOf; rw [Int.toNat_natCast, List.getD_eq_getElem?_getD, List.getElem?_map, List.getElem?_eq_getElem hi]; rfl
  rw [List.drop_eq_getElem_cons hi, List.any_cons]
  by_cases he : l = R[i]
  ·
   refine Ev.step (f := fun _ => some true) (fun k => ?_) (by rw [decide_eq_true he]; exact Ev.now _)
   simp only [culetref13_Reserved.l0]; rw [if_pos (by rw [List.length_map]; omega), if_pos (by omega), hrd, mk_toList, mk_toList, if_pos he.symm]
  ·
   refine Ev.step (fun k => ?_) (by rw [decide_eq_false he, Bool.false_or]; exact ih)
   simp only [culetref13_Reserved.l0]; rw [if_pos (by rw [List.length_map]; omega), if_pos (by omega), hrd, mk_toList, mk_toList, if_neg (fun h => he h.symm), wrap_nat (by omega)]
theorem rres_ev (l : Bs) : Ev (fun k => culetref13_Reserved.f k (mk l)) (resB l) := rres_l l RES (by decide) RES.length 0 (by decide)

theorem rword_l (l : Bs) (hl : l.length ≤ 140737488351232) (h0 : 0 < l.length) : ∀ (d i : Nat), i + d = l.length → 1 ≤ i → Ev (fun k => culetref13_word.l0 k (mk l) (i : Int)) ((l.drop i).all isW)
 | 0, i, h, h1 => by
  obtain rfl : i = l.length := by omega
  refine Ev.step (f := fun _ => some true) (fun k => ?_) (by simpa using Ev.now true)
  simp only [culetref13_word.l0]; rw [if_neg (by rw [mk_size]; omega), decide_eq_true (by rw [mk_size]; omega)]
 | d + 1, i, h, h1 => by
  have hi : i < l.length := by omega
  have ih := rword_l l hl h0 d (i + 1) (by omega) (by omega)
  have hb := bt_mk l i hi
  have g0 : (0 : Int) ≤ (i : Int) := by omega
  have g1 : (i : Int) < ((mk l).size : Int) := by rw [mk_size]; omega
  have n0 : ¬ (i : Int) = 0 := by omega
  have hw : wrap64 ((i : Int) + 1) = ((i + 1 : Nat) : Int) := wrap_nat (by omega)
  rw [List.drop_eq_getElem_cons hi, List.all_cons]
  generalize l[i] = c at hb ⊢
  cases hL : isL c with
  | true =>
   rw [isW_of_L hL, Bool.true_and]
   refine Ev.step (fun k => ?_) ih
   simp only [culetref13_word.l0]; rw [if_pos g1, if_pos g0, hb, rletter_ev, hL, hw]; rfl
  | false =>
   cases hD : isD c with
   | true =>
    rw [show isW c = true by simp [isW, hD], Bool.true_and]
    refine Ev.step (fun k => ?_) ih
    simp only [culetref13_word.l0]; rw [if_pos g1, if_pos g0, hb, rletter_ev, hL, Option.bind_some, if_neg (by simp), if_neg n0, rdigit_ev, hD, hw]; rfl
   | false =>
    by_cases a : c.toNat = 45
    ·
     rw [show isW c = true by simp [isW, a], Bool.true_and]
     refine Ev.step (fun k => ?_) ih
     simp only [culetref13_word.l0]; rw [if_pos g1, if_pos g0, hb, rletter_ev, hL, Option.bind_some, if_neg (by simp), if_neg n0, rdigit_ev, hD, Option.bind_some, if_neg (by simp), if_pos (by omega), hw]
    ·
     by_cases b : c.toNat = 95
     ·
      rw [show isW c = true by simp [isW, b], Bool.true_and]
      refine Ev.step (fun k => ?_) ih
      simp only [culetref13_word.l0]; rw [if_pos g1, if_pos g0, hb, rletter_ev, hL, Option.bind_some, if_neg (by simp), if_neg n0, rdigit_ev, hD, Option.bind_some, if_neg (by simp), if_neg (by omega), if_pos (by omega), hw]
     ·
      rw [show isW c = false by simp [isW, hL, hD, a, b], Bool.false_and]
      refine Ev.step (f := fun _ => some false) (fun k => ?_) (Ev.now _)
      simp only [culetref13_word.l0]; rw [if_pos g1, if_pos g0, hb, rletter_ev, hL, Option.bind_some, if_neg (by simp), if_neg n0, rdigit_ev, hD, Option.bind_some, if_neg (by simp), if_neg (by omega), if_neg (by omega)]
theorem rword_ev (l : Bs) (hl : l.length ≤ 140737488351232) : Ev (fun k => culetref13_word.f k (mk l)) (wordB l) := by
 cases l with
 | nil =>
  refine Ev.step (f := fun _ => some false) (fun k => ?_) (Ev.now _)
  show culetref13_word.l0 (k + 1) (mk []) 0 = _
  simp only [culetref13_word.l0]; rw [if_neg (by rw [mk_size]; simp), decide_eq_false (by rw [mk_size]; simp)]
 | cons c t =>
  have ih := rword_l (c :: t) hl (by simp) t.length 1 (by rw [List.length_cons]; omega) (Nat.le_refl _)
  have g1 : (0 : Int) < ((mk (c :: t)).size : Int) := by rw [mk_size, List.length_cons]; omega
  have hw : wrap64 ((0 : Int) + 1) = ((1 : Nat) : Int) := by rw [wrap_id (by decide) (by decide)]; rfl
  rw [wordB]
  cases hL : isL c with
  | true =>
   rw [Bool.true_and]
   refine Ev.step (fun k => ?_) ih
   show culetref13_word.l0 (k + 1) (mk (c :: t)) 0 = _
   simp only [culetref13_word.l0]; rw [if_pos g1, if_pos (by omega), bt_head, rletter_ev, hL, hw]; rfl
  | false =>
   rw [Bool.false_and]
   refine Ev.step (f := fun _ => some false) (fun k => ?_) (Ev.now _)
   show culetref13_word.l0 (k + 1) (mk (c :: t)) 0 = _
   simp only [culetref13_word.l0]; rw [if_pos g1, if_pos (by omega), bt_head, rletter_ev, hL, Option.bind_some, if_neg (by simp), if_pos trivial]
theorem rname_ev (l : Bs) (hl : l.length ≤ 140737488351232) : Ev (fun k => culetref13_IsName.f k (mk l)) (nameB l) := by
 refine Ev.congr (fun k => by unfold culetref13_IsName.f; rfl) (Ev.bind (rword_ev l hl) ?_)
 unfold nameB
 cases wordB l with
 | false => simpa using Ev.now false
 | true =>
  by_cases h30 : l.length ≤ 30
  ·
   rw [decide_eq_true h30]
   refine Ev.congr (fun k => by rw [if_pos rfl, if_pos (by rw [mk_size]; omega)]) (Ev.bind (rres_ev l) ?_)
   simpa using Ev.now _
  ·
   rw [decide_eq_false h30]
   refine Ev.congr (f := fun _ => some false) (fun k => by rw [if_pos rfl, if_neg (by rw [mk_size]; omega)]) (by simpa using Ev.now false)

def valR (fr : Nat) (acc : Int) (d : Bs) : Int × Bool := if d.all isD = true then (if fr = 1 then (- decV acc d, true) else (decV acc d, true)) else (0, false)
theorem rval_l (l : Bs) (hl : l.length ≤ 100000) (fr : Nat) (hfr : fr ≤ 1) : ∀ (d i : Nat) (acc : Int), i + d = l.length → d ≤ 7 → 0 ≤ acc → acc < ((10 ^ (7 - d) : Nat) : Int) →
  Ev (fun k => culetref13_Value.l0 k (mk l) (fr : Int) acc (i : Int)) (valR fr acc (l.drop i))
 | 0, i, acc, h, hd, h0, h1 => by
  obtain rfl : i = l.length := by omega
  have hb : ((10 ^ (7 - 0) : Nat) : Int) = 10000000 := by decide
  rw [hb] at h1
  refine Ev.step (f := fun _ => some (if fr = 1 then (-acc, true) else (acc, true))) (fun k => ?_) (by simpa [valR, decV] using Ev.now _)
  simp only [culetref13_Value.l0]; rw [if_neg (by rw [mk_size]; omega)]
  by_cases hf : fr = 1
  ·
   rw [if_pos (by omega), if_pos hf, wrap_id (by omega) (by omega)]
  ·
   rw [if_neg (by omega), if_neg hf]
 | d + 1, i, acc, h, hd, h0, h1 => by
  have hi : i < l.length := by omega
  have hb := bt_mk l i hi
  have hpow : (10 ^ (7 - d) : Nat) = 10 * 10 ^ (7 - (d + 1)) := by rw [show 7 - d = (7 - (d + 1)) + 1 by omega, Nat.pow_succ]; omega
  have htop : (10 ^ (7 - (d + 1)) : Nat) ≤ 10 ^ 7 := Nat.pow_le_pow_right (by decide) (by omega)
  have e7 : (10 ^ 7 : Nat) = 10000000 := by decide
  have ih := rval_l l hl fr hfr d (i + 1)
  rw [List.drop_eq_getElem_cons hi]
  generalize l[i] = c at hb ⊢
  generalize (10 ^ (7 - (d + 1)) : Nat) = P at *
  rw [hpow] at ih
  rw [e7] at htop
  have g0 : (0 : Int) ≤ (i : Int) := by omega
  have g1 : (i : Int) < ((mk l).size : Int) := by rw [mk_size]; omega
  cases hD : isD c with
  | true =>
   have hc := of_decide_eq_true hD
   have w0 : wrap64 (10 * acc) = 10 * acc := wrap_id (by omega) (by omega)
   have w1 : wrap64 (10 * acc + ((c.toNat : Int) - 48) % 256) = 10 * acc + ((c.toNat : Int) - 48) := by rw [wrap_id (by omega) (by omega)]; omega
   have w2 : wrap64 ((i : Int) + 1) = ((i + 1 : Nat) : Int) := wrap_nat (by omega)
   have ihh := ih (10 * acc + ((c.toNat : Int) - 48)) (by omega) (by omega) (by omega) (by omega)
   have hv : valR fr acc (c :: l.drop (i + 1)) = valR fr (10 * acc + ((c.toNat : Int) - 48)) (l.drop (i + 1)) := by
    unfold valR; rw [List.all_cons, hD, Bool.true_and]; rfl
   rw [hv]
   refine Ev.step (fun k => ?_) ihh
   simp only [culetref13_Value.l0]; rw [if_pos g1, if_pos g0, hb, rdigit_ev, hD, w0, w1, w2]; rfl
  | false =>
   have hv : valR fr acc (c :: l.drop (i + 1)) = (0, false) := by unfold valR; rw [List.all_cons, hD]; rfl
   rw [hv]
   refine Ev.step (f := fun _ => some (0, false)) (fun k => ?_) (Ev.now _)
   simp only [culetref13_Value.l0]; rw [if_pos g1, if_pos g0, hb, rdigit_ev, hD]; rfl
def valOut (l : Bs) : Int × Bool := if okV l = true then (valV l, true) else (0, false)
theorem rval_j1 (l : Bs) (hl : l.length ≤ 100000) (fr : Nat) (hfr : fr ≤ 1) (hd : digL l = l.drop fr) (hf1 : fr = 1 ↔ l.head? = some 45) (hlen : fr + (digL l).length = l.length) :
  Ev (fun k => culetref13_Value.j1 k (mk l) (fr : Int)) (valOut l) := by
 have w : wrap64 (((mk l).size : Int) - (fr : Int)) = ((digL l).length : Int) := by rw [mk_size, wrap_id (by omega) (by omega)]; omega
 have bad : okV l = false → Ev (fun k => culetref13_Value.j2 k (mk l) (fr : Int) true) (valOut l) := fun h => by
  unfold valOut; rw [h]
  exact Ev.step (f := fun _ => some (0, false)) (fun k => by simp only [culetref13_Value.j2]; rw [if_pos trivial]) (Ev.now _)
 by_cases h1 : (digL l).length < 1
 ·
  refine Ev.step (fun k => ?_) (bad (by unfold okV; rw [decide_eq_false (show ¬ 1 ≤ (digL l).length by omega)]; rfl))
  simp only [culetref13_Value.j1]; rw [w, if_pos (by omega)]
 ·
  by_cases h2 : (digL l).length > 6
  ·
   refine Ev.step (fun k => ?_) (bad (by unfold okV; rw [decide_eq_false (show ¬ (digL l).length ≤ 6 by omega)]; simp))
   simp only [culetref13_Value.j1]; rw [w, if_neg (by omega), if_pos (by omega)]
  ·
   obtain ⟨c, t, e⟩ : ∃ c t, digL l = c :: t := by
    cases e : digL l with
    | nil => rw [e] at h1; simp at h1
    | cons c t => exact ⟨c, t, rfl⟩
   have hfl : fr < l.length := by omega
   have hb : bt (mk l) (fr : Int) = (c.toNat : Int) := by
    rw [bt_mk l fr hfl]
    have : l.drop fr = l[fr] :: l.drop (fr + 1) := List.drop_eq_getElem_cons hfl
    rw [← hd, e] at this
    rw [(List.cons.inj this).1]
   have hz : (c.toNat : Int) = 48 ↔ (digL l).head? = some 48 := by
    rw [e, List.head?_cons, Option.some.injEq, ← UInt8.toNat_inj]
    show (c.toNat : Int) = 48 ↔ c.toNat = 48
    omega
   have go : (decide ((digL l).head? = some 48) && decide (l ≠ [48])) = false → Ev (fun k => culetref13_Value.j2 k (mk l) (fr : Int) false) (valOut l) := fun hno => by
    have hok : okV l = (digL l).all isD := by
     unfold okV; rw [decide_eq_true (show 1 ≤ (digL l).length by omega), decide_eq_true (show (digL l).length ≤ 6 by omega), hno]; simp
    have hlast := rval_l l hl fr hfr (digL l).length fr 0 hlen (by omega) (by omega) (by have := Nat.pow_pos (n := 7 - (digL l).length) (show 0 < 10 by decide); omega)
    have hv : valR fr 0 (l.drop fr) = valOut l := by
     unfold valR valOut
     rw [← hd, hok]
     cases (digL l).all isD with
     | false => rfl
     | true =>
      unfold valV
      by_cases hf : fr = 1
      ·
       rw [if_pos rfl, if_pos hf, if_pos rfl, if_pos (hf1.1 hf)]
      ·
       rw [if_pos rfl, if_neg hf, if_pos rfl, if_neg (fun h => hf (hf1.2 h))]
    rw [hv] at hlast
    exact Ev.step (fun k => by simp only [culetref13_Value.j2]; rw [if_neg (by simp)]) hlast
   have step : ∀ b : Bool, (∀ k, culetref13_Value.j1 (k + 1) (mk l) (fr : Int) = culetref13_Value.j2 k (mk l) (fr : Int) b) → (b = (decide ((digL l).head? = some 48) && decide (l ≠ [48]))) → Ev (fun k => culetref13_Value.j1 k (mk l) (fr : Int)) (valOut l) := fun b hk hb' => by
    cases b with
    | true => exact Ev.step hk (bad (by unfold okV; rw [← hb']; simp))
    | false => exact Ev.step hk (go hb'.symm)
   have g0 : (0 : Int) ≤ (fr : Int) := by omega
   have g1 : (fr : Int) < ((mk l).size : Int) := by rw [mk_size]; omega
   by_cases h48 : (c.toNat : Int) = 48
   ·
    by_cases hn : (digL l).length > 1
    ·
     refine step true (fun k => ?_) ?_
     ·
      simp only [culetref13_Value.j1]; rw [w, if_neg (by omega), if_neg (by omega), if_pos g0, if_pos g1, hb, if_pos h48, if_pos (by omega)]
     ·
      have : l ≠ [48] := by rintro rfl; simp [digL] at hn
      rw [decide_eq_true (hz.1 h48), decide_eq_true this]; rfl
    ·
     refine step (decide (fr = 1)) (fun k => ?_) ?_
     ·
      simp only [culetref13_Value.j1]; rw [w, if_neg (by omega), if_neg (by omega), if_pos g0, if_pos g1, hb, if_pos h48, if_neg (by omega)]
      congr 1
      rw [Bool.eq_iff_iff, beq_iff_eq, decide_eq_true_eq]; omega
     ·
      rw [decide_eq_true (hz.1 h48), Bool.true_and]
      apply decide_eq_decide.2
      constructor
      ·
       intro hf hl48
       have := hf1.1 hf
       rw [hl48] at this
       exact absurd this (by decide)
      ·
       intro hne
       by_cases hf : fr = 1
       ·
        exact hf
       ·
        exfalso
        have hf0 : fr = 0 := by omega
        rw [hf0, List.drop_zero] at hd
        rw [hd] at e hn hz
        rw [e] at hn
        have ht : t = [] := by cases t with
         | nil => rfl
         | cons _ _ => simp at hn
        rw [ht] at e
        have h0 := hz.1 h48
        rw [e, List.head?_cons] at h0
        rw [Option.some.inj h0] at e
        exact hne e
   ·
    refine step false (fun k => ?_) ?_
    ·
     simp only [culetref13_Value.j1]; rw [w, if_neg (by omega), if_neg (by omega), if_pos g0, if_pos g1, hb, if_neg h48]
    ·
     rw [decide_eq_false (fun h => h48 (hz.2 h))]; rfl
theorem rval_ev (l : Bs) (hl : l.length ≤ 100000) : Ev (fun k => culetref13_Value.f k (mk l)) (valOut l) := by
 by_cases h : l.head? = some 45
 ·
  have hd : digL l = l.drop 1 := by unfold digL; rw [if_pos h]; simp
  have hlen : 1 ≤ l.length := by cases l with
   | nil => simp at h
   | cons => simp
  obtain ⟨t, e⟩ : ∃ t, l = 45 :: t := by
   cases l with
   | nil => simp at h
   | cons c t => simp at h; exact ⟨t, by rw [h]⟩
  refine Ev.congr (f := fun k => culetref13_Value.j0 k (mk l) 0 true) (fun k => ?_) (Ev.step (fun k => ?_) (rval_j1 l hl 1 (Nat.le_refl _) hd ⟨fun _ => h, fun _ => rfl⟩ (by rw [hd, List.length_drop]; omega)))
  ·
   unfold culetref13_Value.f
   rw [if_pos (by rw [mk_size]; omega), if_pos (by rw [mk_size]; omega), e, bt_head]; rfl
  ·
   simp only [culetref13_Value.j0]; rw [if_pos trivial]; rfl
 ·
  have hd : digL l = l.drop 0 := by unfold digL; rw [if_neg h]; simp
  refine Ev.congr (f := fun k => culetref13_Value.j0 k (mk l) 0 false) (fun k => ?_) (Ev.step (fun k => ?_) (rval_j1 l hl 0 (by decide) hd ⟨(fun h' => by cases h'), fun h' => absurd h' h⟩ (by rw [hd, List.length_drop]; omega)))
  ·
   unfold culetref13_Value.f
   cases l with
   | nil => rw [if_neg (by rw [mk_size]; simp)]
   | cons c t =>
    have hc : ¬ c.toNat = 45 := fun hc => h (by rw [List.head?_cons]; congr 1; exact UInt8.toNat_inj.1 hc)
    rw [if_pos (by rw [mk_size, List.length_cons]; omega), if_pos (by rw [mk_size, List.length_cons]; omega), bt_head, show ((c.toNat : Int) == 45) = false by rw [beq_eq_false_iff_ne]; omega]
  ·
   simp only [culetref13_Value.j0]; rw [if_neg (by simp)]; rfl
end Go.Proofs.YthjmbagkomnpgaaDoor.Plain
end
section
namespace Go.Proofs.YthjmbagkomnpgaaDoor.Plain
open Go Go.RowKit Go.Proofs.YthjmbagkomnpgaaDoor.L Go.Proofs.YthjmbagkomnpgaaDoorW.PrintWords Go.Proofs.YthjmbagkomnpgaaDoorW.PrintLast

theorem len_l0 (s : Bs) (hs : s.length ≤ 100000) (p : Nat) (r : Int × Int) : ∀ (d i : Nat), i + d = s.length → Ev (fun k => culetref13_length.j1 k (mk s) (p : Int) ((i + runB isW (s.drop i) : Nat) : Int)) r → Ev (fun k => culetref13_length.l0 k (mk s) (p : Int) (i : Int)) r
 | 0, i, h, hr => by
  obtain rfl : i = s.length := by omega
  rw [List.drop_length] at hr
  refine Ev.step (fun k => ?_) hr
  simp only [culetref13_length.l0]; rw [if_neg (by rw [mk_size]; omega)]; rfl
 | d + 1, i, h, hr => by
  have hi : i < s.length := by omega
  have hb := bt_mk s i hi
  have g0 : (0 : Int) ≤ (i : Int) := by omega
  have g1 : (i : Int) < ((mk s).size : Int) := by rw [mk_size]; omega
  have ih := len_l0 s hs p r d (i + 1) (by omega)
  rw [List.drop_eq_getElem_cons hi, runB_cons] at hr
  have hw : wrap64 ((i : Int) + 1) = ((i + 1 : Nat) : Int) := wrap_nat (by omega)
  generalize s[i] = c at hb hr
  have next : isW c = true → Ev (fun k => culetref13_length.l0 k (mk s) (p : Int) ((i + 1 : Nat) : Int)) r := fun hW => by
   rw [if_pos hW, show i + (runB isW (s.drop (i + 1)) + 1) = i + 1 + runB isW (s.drop (i + 1)) by rw [Nat.add_assoc i 1, Nat.add_comm 1]] at hr
   exact ih hr
  cases hL : isL c with
  | true =>
   refine Ev.step (fun k => ?_) (next (isW_of_L hL))
   simp only [culetref13_length.l0]; rw [if_pos g1, if_pos g0, hb, rletter_ev, hL, hw]; rfl
  | false =>
   cases hD : isD c with
   | true =>
    refine Ev.step (fun k => ?_) (next (by simp [isW, hD]))
    simp only [culetref13_length.l0]; rw [if_pos g1, if_pos g0, hb, rletter_ev, hL, Option.bind_some, if_neg (by simp), rdigit_ev, hD, hw]; rfl
   | false =>
    by_cases a : (c.toNat : Int) = 45
    ·
     refine Ev.step (fun k => ?_) (next (by (have a' : c.toNat = 45 := Int.ofNat.inj a); simp [isW, a']))
     simp only [culetref13_length.l0]; rw [if_pos g1, if_pos g0, hb, rletter_ev, hL, Option.bind_some, if_neg (by simp), rdigit_ev, hD, Option.bind_some, if_neg (by simp), if_pos a, hw]
    ·
     by_cases b : (c.toNat : Int) = 95
     ·
      refine Ev.step (fun k => ?_) (next (by (have b' : c.toNat = 95 := Int.ofNat.inj b); simp [isW, b']))
      simp only [culetref13_length.l0]; rw [if_pos g1, if_pos g0, hb, rletter_ev, hL, Option.bind_some, if_neg (by simp), rdigit_ev, hD, Option.bind_some, if_neg (by simp), if_neg a, if_pos b, hw]
     ·
      have hW : isW c = false := by
       have a' : ¬ c.toNat = 45 := fun h => a (by rw [h]; rfl)
       have b' : ¬ c.toNat = 95 := fun h => b (by rw [h]; rfl)
       simp [isW, hL, hD, a', b']
      rw [hW, if_neg (by simp), Nat.add_zero] at hr
      refine Ev.step (fun k => ?_) hr
      simp only [culetref13_length.l0]; rw [if_pos g1, if_pos g0, hb, rletter_ev, hL, Option.bind_some, if_neg (by simp), rdigit_ev, hD, Option.bind_some, if_neg (by simp), if_neg a, if_neg b]
def numR (s : Bs) (p e : Nat) : Int × Int := if okV ((s.drop p).take (e - p)) = true then (3, ((e - p : Nat) : Int)) else (0, 0)
theorem num_end (s : Bs) (hs : s.length ≤ 100000) (p e : Nat) (hp : p ≤ e) (he : e ≤ s.length) : Ev (fun k => (culetref13_Value.f k ((mk s).extract ((p : Int)).toNat ((e : Int)).toNat)).bind fun bt159 => (if bt159.2 = true then (some ((3 : Int), wrap64 ((e : Int) - (p : Int)))) else (some (0, 0)))) (numR s p e) := by
 have w : wrap64 ((e : Int) - (p : Int)) = ((e - p : Nat) : Int) := by rw [wrap_id (by omega) (by omega)]; omega
 have hx : (mk s).extract ((p : Int)).toNat ((e : Int)).toNat = mk ((s.drop p).take (e - p)) := by rw [Int.toNat_natCast, Int.toNat_natCast, mk_extract]
 rw [hx, w]
 refine Ev.bind (rval_ev ((s.drop p).take (e - p)) (by rw [List.length_take, List.length_drop]; omega)) ?_
 unfold valOut numR
 cases okV ((s.drop p).take (e - p)) with
 | true => exact Ev.now _
 | false => exact Ev.now _
theorem len_l1 (s : Bs) (hs : s.length ≤ 100000) (p : Nat) : ∀ (d i : Nat), i + d = s.length → p ≤ i → Ev (fun k => culetref13_length.l1 k (mk s) (p : Int) (i : Int)) (numR s p (i + runB isD (s.drop i)))
 | 0, i, h, hpi => by
  obtain rfl : i = s.length := by omega
  rw [List.drop_length]
  refine Ev.step (fun k => ?_) (num_end s hs p s.length hpi (Nat.le_refl _))
  simp only [culetref13_length.l1]; rw [if_neg (by rw [mk_size]; omega), if_pos (by omega), if_pos (by omega), if_pos (by rw [mk_size]; omega)]
 | d + 1, i, h, hpi => by
  have hi : i < s.length := by omega
  have hb := bt_mk s i hi
  have g0 : (0 : Int) ≤ (i : Int) := by omega
  have g1 : (i : Int) < ((mk s).size : Int) := by rw [mk_size]; omega
  have g2 : (0 : Int) ≤ (p : Int) := by omega
  have g3 : (p : Int) ≤ (i : Int) := by omega
  have g4 : (i : Int) ≤ ((mk s).size : Int) := by omega
  have ih := len_l1 s hs p d (i + 1) (by omega) (by omega)
  have ne := num_end s hs p i hpi (by omega)
  have hw : wrap64 ((i : Int) + 1) = ((i + 1 : Nat) : Int) := wrap_nat (by omega)
  rw [List.drop_eq_getElem_cons hi, runB_cons]
  generalize s[i] = c at hb ⊢
  cases hD : isD c with
  | true =>
   rw [if_pos rfl, show i + (runB isD (s.drop (i + 1)) + 1) = i + 1 + runB isD (s.drop (i + 1)) by rw [Nat.add_assoc i 1, Nat.add_comm 1]]
   refine Ev.step (fun k => ?_) ih
   simp only [culetref13_length.l1]; rw [if_pos g1, if_pos g0, hb, rdigit_ev, hD, hw]; rfl
  | false =>
   rw [if_neg (by simp), Nat.add_zero]
   refine Ev.step (fun k => ?_) ne
   simp only [culetref13_length.l1]; rw [if_pos g1, if_pos g0, hb, rdigit_ev, hD, Option.bind_some, if_neg (by simp), if_pos g2, if_pos g3, if_pos g4]
def quoR (s : Bs) (p e : Nat) : Int × Int := if (s.drop e).head? = some 34 ∧ e ≤ p + 2001 then (4, ((e + 1 - p : Nat) : Int)) else (0, 0)
theorem len_l2 (s : Bs) (hs : s.length ≤ 100000) (p : Nat) : ∀ (d i : Nat), i + d = s.length → p < i → Ev (fun k => culetref13_length.l2 k (mk s) (p : Int) (i : Int)) (quoR s p (i + runB notQ (s.drop i)))
 | 0, i, h, hpi => by
  obtain rfl : i = s.length := by omega
  rw [List.drop_length]
  refine Ev.step (f := fun _ => some (0, 0)) (fun k => ?_) (by
   have e0 : quoR s p (s.length + runB notQ []) = (0, 0) := by
    unfold quoR; rw [if_neg]; intro hh; rw [show s.length + runB notQ [] = s.length from rfl, List.drop_length] at hh; simp at hh
   rw [e0]; exact Ev.now _)
  simp only [culetref13_length.l2]; rw [if_neg (by rw [mk_size]; omega)]
 | d + 1, i, h, hpi => by
  have hi : i < s.length := by omega
  have hb := bt_mk s i hi
  have g0 : (0 : Int) ≤ (i : Int) := by omega
  have g1 : (i : Int) < ((mk s).size : Int) := by rw [mk_size]; omega
  have ih := len_l2 s hs p d (i + 1) (by omega) (by omega)
  have hdrop := List.drop_eq_getElem_cons hi
  have ha : wrap64 (wrap64 ((i : Int) - (p : Int)) - 1) = ((i - p - 1 : Nat) : Int) := by rw [wrap_id (i := (i : Int) - (p : Int)) (by omega) (by omega), wrap_id (by omega) (by omega)]; omega
  have hb2 : wrap64 (wrap64 ((i : Int) + 1) - (p : Int)) = ((i + 1 - p : Nat) : Int) := by rw [wrap_id (i := (i : Int) + 1) (by omega) (by omega), wrap_id (by omega) (by omega)]; omega
  have le1 : (((i - p - 1 : Nat) : Int) ≤ 2000) ↔ i ≤ p + 2001 := by omega
  have hw : wrap64 ((i : Int) + 1) = ((i + 1 : Nat) : Int) := wrap_nat (by omega)
  rw [hdrop, runB_cons]
  generalize s[i] = c at hb hdrop ⊢
  cases hq : notQ c with
  | true =>
   rw [if_pos rfl, show i + (runB notQ (s.drop (i + 1)) + 1) = i + 1 + runB notQ (s.drop (i + 1)) by rw [Nat.add_assoc i 1, Nat.add_comm 1]]
   simp only [notQ, Bool.and_eq_true, decide_eq_true_eq] at hq
   have n1 : ¬ (c.toNat : Int) = 34 := fun h => hq.1 (Int.ofNat.inj h)
   have n2 : ¬ (c.toNat : Int) = 10 := fun h => hq.2 (Int.ofNat.inj h)
   refine Ev.step (fun k => ?_) ih
   simp only [culetref13_length.l2]; rw [if_pos g1, if_pos g0, hb, if_neg n1, if_neg n2, hw]
  | false =>
   rw [if_neg (by simp), Nat.add_zero]
   refine Ev.step (f := fun _ => some (quoR s p i)) (fun k => ?_) (Ev.now _)
   simp only [culetref13_length.l2]; rw [if_pos g1, if_pos g0, hb]
   unfold quoR
   rw [hdrop, List.head?_cons]
   by_cases h34 : c = 34
   ·
    rw [if_pos (by rw [h34]; rfl), ha, hb2]
    by_cases hle : i ≤ p + 2001
    ·
     rw [if_pos (le1.2 hle), if_pos ⟨by rw [h34], hle⟩]
    ·
     rw [if_neg (fun h => hle (le1.1 h)), if_neg (fun h => hle h.2)]
   ·
    have n1 : ¬ (c.toNat : Int) = 34 := fun h => h34 (UInt8.toNat_inj.1 (Int.ofNat.inj h))
    have n2 : (c.toNat : Int) = 10 := by
     simp only [notQ, Bool.and_eq_false_iff, decide_eq_false_iff_not, Decidable.not_not] at hq
     rcases hq with h | h
     ·
      exact absurd (by rw [h]; rfl) n1
     ·
      rw [h]; rfl
    rw [if_neg n1, if_pos n2, if_neg (fun h => h34 (Option.some.inj h.1))]
theorem tokI_word (c : UInt8) (t : Bs) (h1 : isL c = true) : tokI (c :: t) = if resB ((c :: t).take (runB isW t + 1)) = true then (2, ((runB isW t + 1 : Nat) : Int)) else if runB isW t + 1 ≤ 30 then (1, ((runB isW t + 1 : Nat) : Int)) else (0, 0) := by
 unfold tokI
 simp only [tokL]
 rw [if_pos h1]
 cases resB ((c :: t).take (runB isW t + 1)) with
 | true => rfl
 | false =>
  rw [if_neg (show ¬ (false = true) by simp), if_neg (show ¬ (false = true) by simp)]
  by_cases h30 : runB isW t + 1 ≤ 30
  ·
   rw [if_pos h30, if_pos h30]; rfl
  ·
   rw [if_neg h30, if_neg h30]; rfl
theorem tokI_num (c : UInt8) (t : Bs) (h1 : isL c = false) (h4 : c.toNat = 45 ∨ isD c = true) : tokI (c :: t) = if okV ((c :: t).take (runB isD t + 1)) = true then (3, ((runB isD t + 1 : Nat) : Int)) else (0, 0) := by
 have h2 : ¬ (c.toNat = 47 ∨ c.toNat = 44 ∨ c.toNat = 58) := by
  rcases h4 with h | h
  ·
   omega
  ·
   have := of_decide_eq_true h; omega
 have h3 : ¬ c.toNat = 34 := by
  rcases h4 with h | h
  ·
   omega
  ·
   have := of_decide_eq_true h; omega
 unfold tokI
 simp only [tokL]
 rw [if_neg (by simp [h1]), if_neg h2, if_neg h3, if_pos h4]
 cases okV ((c :: t).take (runB isD t + 1)) <;> rfl
theorem tokI_sym (c : UInt8) (t : Bs) (h2 : c.toNat = 47 ∨ c.toNat = 44 ∨ c.toNat = 58) : tokI (c :: t) = (5, 1) := by
 have h1 : isL c = false := by
  unfold isL; rw [Bool.or_eq_false_iff, decide_eq_false_iff_not, decide_eq_false_iff_not]; omega
 unfold tokI
 simp only [tokL]
 rw [if_neg (by simp [h1]), if_pos h2]; rfl
theorem tokI_none (c : UInt8) (t : Bs) (h1 : isL c = false) (h2 : ¬ (c.toNat = 47 ∨ c.toNat = 44 ∨ c.toNat = 58)) (h3 : ¬ c.toNat = 34) (h4 : ¬ (c.toNat = 45 ∨ isD c = true)) : tokI (c :: t) = (0, 0) := by
 unfold tokI
 simp only [tokL]
 rw [if_neg (by simp [h1]), if_neg h2, if_neg h3, if_neg h4]; rfl
theorem len_ev (s : Bs) (hs : s.length ≤ 100000) (p : Nat) (c : UInt8) (t : Bs) (hl : s.drop p = c :: t) : Ev (fun k => culetref13_length.f k (mk s) (p : Int)) (tokI (c :: t)) := by
 obtain ⟨h1, h2, h3⟩ := drop_facts hl rfl
 have hd : s.drop (p + 1) = t := by rw [← List.drop_drop, hl]; rfl
 have g0 : (0 : Int) ≤ (p : Int) := by omega
 have g1 : (p : Int) < ((mk s).size : Int) := by rw [mk_size]; omega
 have hw : wrap64 ((p : Int) + 1) = ((p + 1 : Nat) : Int) := wrap_nat (by omega)
 have hf : ∀ k, culetref13_length.f k (mk s) (p : Int) = if isL c = true then (culetref13_length.l0 k (mk s) (p : Int) ((p + 1 : Nat) : Int)) else (if (c.toNat : Int) = 45 then (culetref13_length.j2 k (mk s) (p : Int) (c.toNat : Int) ((p + 1 : Nat) : Int) true) else (culetref13_length.j2 k (mk s) (p : Int) (c.toNat : Int) ((p + 1 : Nat) : Int) (isD c))) := fun k => by
  unfold culetref13_length.f
  rw [if_pos g0, if_pos g1, h3, rletter_ev, rdigit_ev, hw]; rfl
 refine Ev.congr hf ?_
 clear hf hw
 cases hL : isL c with
 | true =>
  have hr := runB_le isW t
  refine Ev.congr (fun k => by rw [if_pos rfl]) (len_l0 s hs p _ (s.length - (p + 1)) (p + 1) (by omega) ?_)
  rw [hd, tokI_word c t hL]
  obtain ⟨n, hn⟩ : ∃ n, runB isW t = n := ⟨_, rfl⟩
  have hnm := nameB_take c t hL
  rw [hn] at hr hnm ⊢
  have hx : (mk s).extract ((p : Int)).toNat (((p + 1 + n : Nat) : Int)).toNat = mk ((c :: t).take (n + 1)) := by
   rw [Int.toNat_natCast, Int.toNat_natCast, mk_extract, hl, show p + 1 + n - p = n + 1 by omega]
  have w : wrap64 (((p + 1 + n : Nat) : Int) - (p : Int)) = ((n + 1 : Nat) : Int) := by rw [wrap_id (by omega) (by omega)]; omega
  have q1 : (p : Int) ≤ ((p + 1 + n : Nat) : Int) := by omega
  have q2 : ((p + 1 + n : Nat) : Int) ≤ ((mk s).size : Int) := by rw [mk_size]; omega
  have hlen : ((c :: t).take (n + 1)).length ≤ 140737488351232 := by rw [List.length_take, List.length_cons]; omega
  refine Ev.step (f := fun k => (culetref13_Reserved.f k (mk ((c :: t).take (n + 1)))).bind fun t155 => (if t155 = true then (some (2, ((n + 1 : Nat) : Int))) else ((culetref13_IsName.f k (mk ((c :: t).take (n + 1)))).bind fun t156 => (if t156 = true then (some (1, ((n + 1 : Nat) : Int))) else (some (0, 0)))))) (fun k => ?_) (Ev.bind (rres_ev _) ?_)
  ·
   simp only [culetref13_length.j1]
   rw [if_pos g0, if_pos q1, if_pos q2, hx, w]
  ·
   cases hres : resB ((c :: t).take (n + 1)) with
   | true => exact Ev.now _
   | false =>
    rw [hres] at hnm
    refine Ev.congr (fun k => by rw [if_neg (by simp)]) (Ev.bind (rname_ev _ hlen) ?_)
    rw [hnm]
    by_cases h30 : n + 1 ≤ 30
    ·
     rw [if_pos h30, decide_eq_true h30]; exact Ev.now _
    ·
     rw [if_neg h30, decide_eq_false h30]; exact Ev.now _
 | false =>
  have num : (c.toNat = 45 ∨ isD c = true) → Ev (fun k => culetref13_length.j2 k (mk s) (p : Int) (c.toNat : Int) ((p + 1 : Nat) : Int) true) (tokI (c :: t)) := fun h4 => by
   have := len_l1 s hs p (s.length - (p + 1)) (p + 1) (by omega) (by omega)
   rw [hd] at this
   have e : numR s p (p + 1 + runB isD t) = tokI (c :: t) := by
    rw [tokI_num c t hL h4]
    unfold numR
    rw [hl, show p + 1 + runB isD t - p = runB isD t + 1 by omega]
   rw [e] at this
   exact Ev.step (fun k => by simp only [culetref13_length.j2]; rw [if_pos trivial]) this
  by_cases a : c.toNat = 45
  ·
   exact Ev.congr (fun k => by rw [if_neg (by simp), if_pos (by omega)]) (num (.inl a))
  ·
   refine Ev.congr (fun k => by rw [if_neg (by simp), if_neg (by omega)]) ?_
   cases hD : isD c with
   | true => exact num (.inr hD)
   | false =>
    by_cases a4 : c.toNat = 34
    ·
     have := len_l2 s hs p (s.length - (p + 1)) (p + 1) (by omega) (by omega)
     rw [hd] at this
     obtain rfl : c = 34 := UInt8.toNat_inj.1 a4
     have e : quoR s p (p + 1 + runB notQ t) = tokI (34 :: t) := by
      rw [quote_tk t]
      unfold quoR
      rw [← List.drop_drop, hd, show p + 1 + runB notQ t + 1 - p = runB notQ t + 2 by omega]
      by_cases hh : (t.drop (runB notQ t)).head? = some 34 ∧ runB notQ t ≤ 2000
      ·
       rw [if_pos hh, if_pos ⟨hh.1, by omega⟩]
      ·
       rw [if_neg hh, if_neg (fun h => hh ⟨h.1, by omega⟩)]
     rw [e] at this
     refine Ev.step (fun k => ?_) this
     simp only [culetref13_length.j2]; rw [if_neg (by simp), if_pos (by decide)]
    ·
     have n4 : ¬ (c.toNat : Int) = 34 := by omega
     by_cases h2' : c.toNat = 47 ∨ c.toNat = 44 ∨ c.toNat = 58
     ·
      rw [tokI_sym c t h2']
      refine Ev.step (f := fun _ => some (5, 1)) (fun k => ?_) (Ev.now _)
      simp only [culetref13_length.j2]; rw [if_neg (by simp), if_neg n4]
      by_cases b1 : c.toNat = 47
      ·
       rw [if_pos (by omega)]
      ·
       by_cases b2 : c.toNat = 44
       ·
        rw [if_neg (by omega), if_pos (by omega)]
       ·
        rw [if_neg (by omega), if_neg (by omega), if_pos (by omega)]
     ·
      rw [tokI_none c t hL h2' a4 (fun h => h.elim a (fun h => by rw [hD] at h; cases h))]
      refine Ev.step (f := fun _ => some (0, 0)) (fun k => ?_) (Ev.now _)
      simp only [culetref13_length.j2]; rw [if_neg (by simp), if_neg n4, if_neg (by omega), if_neg (by omega), if_neg (by omega)]
end Go.Proofs.YthjmbagkomnpgaaDoor.Plain
end
section
namespace Go.Proofs.YthjmbagkomnpgaaDoor.Plain
open Go Go.RowKit Go.Proofs.YthjmbagkomnpgaaDoor.L Go.Proofs.YthjmbagkomnpgaaDoorW.PrintWords Go.Proofs.YthjmbagkomnpgaaDoorW.PrintLast

def ref1 (t : Tk) : S40 := ⟨(t.kind : Int), mk t.text, (t.line : Int), (t.pos : Int)⟩
def refR (acc : List S40) : Except Nat (List Tk) → List S40 × Int × Int
 | .error n => ([], (n : Int), 4)
 | .ok l => (acc ++ l.map ref1, 0, 0)
theorem tokL_zero (l : Bs) : (tokL resB okV l).1 = 0 → (tokL resB okV l).2 = 0 := by
 cases l with
 | nil => intro _; rfl
 | cons c t =>
  simp only [tokL]
  by_cases a1 : isL c = true
  ·
   rw [if_pos a1]
   by_cases a2 : resB ((c :: t).take (runB isW t + 1)) = true
   ·
    rw [if_pos a2]; intro h; exact absurd h (by simp)
   ·
    rw [if_neg a2]
    by_cases a3 : runB isW t + 1 ≤ 30
    ·
     rw [if_pos a3]; intro h; exact absurd h (by simp)
    ·
     rw [if_neg a3]; intro _; rfl
  ·
   rw [if_neg a1]
   by_cases a2 : c.toNat = 47 ∨ c.toNat = 44 ∨ c.toNat = 58
   ·
    rw [if_pos a2]; intro h; exact absurd h (by simp)
   ·
    rw [if_neg a2]
    by_cases a3 : c.toNat = 34
    ·
     rw [if_pos a3]
     by_cases a4 : (t.drop (runB notQ t)).head? = some 34 ∧ runB notQ t ≤ 2000
     ·
      rw [if_pos a4]; intro h; exact absurd h (by simp)
     ·
      rw [if_neg a4]; intro _; rfl
    ·
     rw [if_neg a3]
     by_cases a4 : c.toNat = 45 ∨ isD c = true
     ·
      rw [if_pos a4]
      by_cases a5 : okV ((c :: t).take (runB isD t + 1)) = true
      ·
       rw [if_pos a5]; intro h; exact absurd h (by simp)
      ·
       rw [if_neg a5]; intro _; rfl
     ·
      rw [if_neg a4]; intro _; rfl
/-- What the reference's Lex does with a token. -/
def afterRef (k : Nat) (x0 : ByteArray) (x2 : List S40) (x5 x6 : Int) (bt163 : Int × Int) : Option (List S40 × Int × Int) := if bt163.2 = 0 then (some (([] : List (S40)), x6, 4)) else (if 0 ≤ x6 then (if x6 ≤ (wrap64 (x6 + bt163.2)) then (if (wrap64 (x6 + bt163.2)) ≤ (x0.size : Int) then (if bt163.1 = 4 then (if 0 ≤ (wrap64 (x6 + 1)) then (if (wrap64 (x6 + 1)) ≤ (wrap64 ((wrap64 (x6 + bt163.2)) - 1)) then (if (wrap64 ((wrap64 (x6 + bt163.2)) - 1)) ≤ (x0.size : Int) then (if x2.length < 3518437208883 then (culetref13_Lex.l0 k x0 (x2 ++ [(⟨bt163.1, x0.extract ((wrap64 (x6 + 1)) : Int).toNat ((wrap64 ((wrap64 (x6 + bt163.2)) - 1)) : Int).toNat, x5, x6⟩ : S40)]) x5 (wrap64 (x6 + bt163.2))) else (none)) else (none)) else (none)) else (none)) else (if x2.length < 3518437208883 then (culetref13_Lex.l0 k x0 (x2 ++ [(⟨bt163.1, x0.extract (x6 : Int).toNat ((wrap64 (x6 + bt163.2)) : Int).toNat, x5, x6⟩ : S40)]) x5 (wrap64 (x6 + bt163.2))) else (none))) else (none)) else (none)) else (none))
theorem afterRef_ok (k : Nat) (s : Bs) (acc : List S40) (p n kd m : Nat) (hp : p + m ≤ s.length) (hs : s.length ≤ 100000) (ha : acc.length ≤ 100000) (h0 : m ≠ 0) (hm : kd = 4 → 2 ≤ m) :
  afterRef k (mk s) acc (n : Int) (p : Int) ((kd : Int), (m : Int)) = culetref13_Lex.l0 k (mk s) (acc ++ [⟨(kd : Int), if kd = 4 then mk ((((s.drop p).take m).drop 1).take (m - 2)) else mk ((s.drop p).take m), (n : Int), (p : Int)⟩]) (n : Int) ((p + m : Nat) : Int) := by
 have w1 : wrap64 ((p : Int) + (m : Int)) = ((p + m : Nat) : Int) := by rw [wrap_id (by omega) (by omega)]; omega
 have wp : wrap64 ((p : Int) + 1) = ((p + 1 : Nat) : Int) := wrap_nat (by omega)
 have hx' : (mk s).extract ((p : Int)).toNat (((p + m : Nat) : Int)).toNat = mk ((s.drop p).take m) := by rw [Int.toNat_natCast, Int.toNat_natCast, mk_extract, show p + m - p = m by omega]
 have c0 : ¬ (m : Int) = 0 := by clear w1 wp; omega
 have cp : (0 : Int) ≤ (p : Int) := by clear w1 wp; omega
 have c1 : (p : Int) ≤ ((p + m : Nat) : Int) := by clear w1 wp; omega
 have c2 : ((p + m : Nat) : Int) ≤ ((mk s).size : Int) := by clear w1 wp; rw [mk_size]; omega
 have c3 : acc.length < 3518437208883 := Nat.lt_of_le_of_lt ha (by decide)
 unfold afterRef
 simp only [w1, wp, hx']
 rw [if_neg c0, if_pos cp, if_pos c1, if_pos c2]
 by_cases h4 : kd = 4
 ·
  have hm2 := hm h4
  have w2 : wrap64 (((p + m : Nat) : Int) - 1) = ((p + m - 1 : Nat) : Int) := by clear w1 wp; rw [wrap_id (by omega) (by omega)]; omega
  have c4 : (kd : Int) = 4 := by clear w1 wp w2; omega
  have c5 : (0 : Int) ≤ ((p + 1 : Nat) : Int) := by clear w1 wp w2; omega
  have c6 : ((p + 1 : Nat) : Int) ≤ ((p + m - 1 : Nat) : Int) := by clear w1 wp w2; omega
  have c7 : ((p + m - 1 : Nat) : Int) ≤ ((mk s).size : Int) := by clear w1 wp w2; rw [mk_size]; omega
  have hy : (mk s).extract (((p + 1 : Nat) : Int)).toNat (((p + m - 1 : Nat) : Int)).toNat = mk ((((s.drop p).take m).drop 1).take (m - 2)) := by
   clear w1 wp w2
   rw [Int.toNat_natCast, Int.toNat_natCast, mk_extract, List.drop_take, List.drop_drop, List.take_take, show p + m - 1 - (p + 1) = m - 2 by omega, show min (m - 2) (m - 1) = m - 2 by omega]
  rw [if_pos c4, w2, if_pos c5, if_pos c6, if_pos c7, if_pos c3, hy, if_pos h4]
 ·
  have c4 : ¬ (kd : Int) = 4 := by clear w1 wp; omega
  rw [if_neg c4, if_pos c3, if_neg h4]
theorem note_l1 (s : Bs) (hs : s.length ≤ 100000) (acc : List S40) (n : Int) (r : List S40 × Int × Int) : ∀ (d i : Nat), i + d = s.length → Ev (fun k => culetref13_Lex.l0 k (mk s) acc n ((i + runB notN (s.drop i) : Nat) : Int)) r → Ev (fun k => culetref13_Lex.l1 k (mk s) acc n (i : Int)) r
 | 0, i, h, hr => by
  obtain rfl : i = s.length := by omega
  rw [List.drop_length] at hr
  refine Ev.step (fun k => ?_) hr
  simp only [culetref13_Lex.l1]; rw [if_neg (by rw [mk_size]; omega)]; rfl
 | d + 1, i, h, hr => by
  have hi : i < s.length := by omega
  have hb := bt_mk s i hi
  have g0 : (0 : Int) ≤ (i : Int) := by omega
  have g1 : (i : Int) < ((mk s).size : Int) := by rw [mk_size]; omega
  have ih := note_l1 s hs acc n r d (i + 1) (by omega)
  rw [List.drop_eq_getElem_cons hi, runB_cons] at hr
  have hw : wrap64 ((i : Int) + 1) = ((i + 1 : Nat) : Int) := wrap_nat (by omega)
  generalize s[i] = c at hb hr
  by_cases h10 : c.toNat = 10
  ·
   rw [if_neg (by simp [notN, h10]), Nat.add_zero] at hr
   refine Ev.step (fun k => ?_) hr
   simp only [culetref13_Lex.l1]; rw [if_pos g1, if_pos g0, hb, if_pos (by rw [h10]; rfl)]
  ·
   rw [if_pos (by simp [notN, h10]), show i + (runB notN (s.drop (i + 1)) + 1) = i + 1 + runB notN (s.drop (i + 1)) by rw [Nat.add_assoc i 1, Nat.add_comm 1]] at hr
   refine Ev.step (fun k => ?_) (ih hr)
   simp only [culetref13_Lex.l1]; rw [if_pos g1, if_pos g0, hb, if_neg (show ¬ (c.toNat : Int) = 10 from fun h => h10 (Int.ofNat.inj h)), hw]
set_option maxHeartbeats 4000000 in
theorem rlex_l (s : Bs) (hs : s.length ≤ 100000) (l : Bs) (p n : Nat) : ∀ acc : List S40, s.drop p = l → p ≤ s.length → n ≤ p + 1 → acc.length ≤ p →
  Ev (fun k => culetref13_Lex.l0 k (mk s) acc (n : Int) (p : Int)) (refR acc (plex resB okV l p n)) := by
 refine plex_ind resB okV (P := fun l p n => ∀ acc : List S40, s.drop p = l → p ≤ s.length → n ≤ p + 1 → acc.length ≤ p →
  Ev (fun k => culetref13_Lex.l0 k (mk s) acc (n : Int) (p : Int)) (refR acc (plex resB okV l p n))) ?_ ?_ ?_ ?_ ?_ ?_ l.length l p n (Nat.le_refl _)
 ·
  intro p n acc hl hp hn ha
  have : p = s.length := by have := congrArg List.length hl; simp at this; omega
  refine Ev.step (f := fun _ => some (acc, 0, 0)) (fun k => ?_) (by simpa [plex_nil, refR] using Ev.now _)
  simp only [culetref13_Lex.l0]; rw [if_neg (by rw [mk_size]; omega)]
 ·
  intro t c p n hc ih acc hl hp hn ha
  obtain ⟨h1, h2, h3⟩ := drop_facts hl rfl
  rw [plex_lf _ _ _ _ hc]
  refine Ev.step (f := fun k => culetref13_Lex.l0 k (mk s) acc ((n + 1 : Nat) : Int) ((p + 1 : Nat) : Int)) (fun k => ?_) (ih acc (by rw [← List.drop_drop, hl]; rfl) (by omega) (by omega) (by omega))
  simp only [culetref13_Lex.l0]; rw [if_pos (by rw [mk_size]; omega), if_pos (by omega), h3, if_pos (by omega), wrap_nat (by omega), wrap_nat (by omega)]
 ·
  intro t c p n hc ih acc hl hp hn ha
  obtain ⟨h1, h2, h3⟩ := drop_facts hl rfl
  rw [plex_blank _ _ _ _ hc]
  have hi := ih acc (by rw [← List.drop_drop, hl]; rfl) (by omega) (by omega) (by omega)
  have hj : Ev (fun k => culetref13_Lex.j1 k (mk s) acc (n : Int) (p : Int) (c.toNat : Int) true) (refR acc (plex resB okV t (p + 1) n)) :=
   Ev.step (f := fun k => culetref13_Lex.l0 k (mk s) acc (n : Int) ((p + 1 : Nat) : Int)) (fun k => by simp only [culetref13_Lex.j1]; rw [if_pos trivial, wrap_nat (by omega)]) hi
  refine Ev.step (fun k => ?_) hj
  simp only [culetref13_Lex.l0]; rw [if_pos (by rw [mk_size]; omega), if_pos (by omega), h3, if_neg (by omega)]
  by_cases h32 : c.toNat = 32
  ·
   rw [if_pos (by omega)]
  ·
   rw [if_neg (by omega), show ((c.toNat : Int) == 9) = true by rw [beq_iff_eq]; omega]
 ·
  intro t c p n hc ih acc hl hp hn ha
  obtain ⟨h1, h2, h3⟩ := drop_facts hl rfl
  rw [plex_note _ _ _ _ hc]
  have hr := runB_le notN t
  have hi := ih acc (by rw [← List.drop_drop, hl, List.drop_succ_cons]) (by omega) (by omega) (by omega)
  have hn35 : notN c = true := by unfold notN; rw [decide_eq_true_eq]; omega
  have hj : Ev (fun k => culetref13_Lex.j1 k (mk s) acc (n : Int) (p : Int) (c.toNat : Int) false) (refR acc (plex resB okV (t.drop (runB notN t)) (p + (runB notN t + 1)) n)) := by
   refine Ev.step (f := fun k => culetref13_Lex.l1 k (mk s) acc (n : Int) (p : Int)) (fun k => ?_) (note_l1 s hs acc (n : Int) _ (s.length - p) p (by omega) ?_)
   ·
    simp only [culetref13_Lex.j1]; rw [if_neg (by simp), if_pos (by omega)]
   ·
    rw [hl, runB_cons, if_pos hn35]; exact hi
  refine Ev.step (fun k => ?_) hj
  simp only [culetref13_Lex.l0]; rw [if_pos (by rw [mk_size]; omega), if_pos (by omega), h3, if_neg (by omega), if_neg (by omega), show ((c.toNat : Int) == 9) = false by rw [beq_eq_false_iff_ne]; omega]
 ·
  intro t c p n hc hk acc hl hp hn ha
  obtain ⟨h1, h2, h3⟩ := drop_facts hl rfl
  rw [plex_bad _ _ _ _ hc hk]
  have hj : Ev (fun k => culetref13_Lex.j1 k (mk s) acc (n : Int) (p : Int) (c.toNat : Int) false) ([], (p : Int), 4) := by
   refine Ev.step (f := fun k => (culetref13_length.f k (mk s) (p : Int)).bind (afterRef k (mk s) acc (n : Int) (p : Int))) (fun k => ?_) (Ev.bind (len_ev s hs p c t hl) ?_)
   ·
    simp only [culetref13_Lex.j1]; rw [if_neg (by simp), if_neg (by have := hc.2.2; omega)]; rfl
   ·
    refine Ev.congr (f := fun _ => some ([], (p : Int), 4)) (fun k => ?_) (Ev.now _)
    unfold afterRef; rw [if_pos (by show (((tokL resB okV (c :: t)).2 : Nat) : Int) = 0; rw [tokL_zero _ hk]; rfl)]
  refine Ev.step (fun k => ?_) hj
  have := hc.1; have := hc.2.1
  simp only [culetref13_Lex.l0]; rw [if_pos (by rw [mk_size]; omega), if_pos (by omega), h3, if_neg (by omega), if_neg (by omega), show ((c.toNat : Int) == 9) = false by rw [beq_eq_false_iff_ne]; omega]
 ·
  intro t c p n hc hk ih acc hl hp hn ha
  obtain ⟨h1, h2, h3⟩ := drop_facts hl rfl
  have hle := tokL_le resB okV (c :: t) hk
  rw [List.length_cons] at hle
  rw [plex_tok _ _ _ _ hc hk]
  have hi := ih (acc ++ [ref1 (mkTk resB okV (c :: t) p n)]) (by rw [← List.drop_drop, hl]) (by omega) (by omega) (by rw [List.length_append]; simp; omega)
  have hR : refR (acc ++ [ref1 (mkTk resB okV (c :: t) p n)]) (plex resB okV ((c :: t).drop (tokL resB okV (c :: t)).2) (p + (tokL resB okV (c :: t)).2) n) = refR acc (match plex resB okV ((c :: t).drop (tokL resB okV (c :: t)).2) (p + (tokL resB okV (c :: t)).2) n with
   | .error m => .error m
   | .ok l => .ok (mkTk resB okV (c :: t) p n :: l)) := by
   cases plex resB okV ((c :: t).drop (tokL resB okV (c :: t)).2) (p + (tokL resB okV (c :: t)).2) n with
   | error m => rfl
   | ok l => simp [refR]
  rw [hR] at hi
  generalize refR acc (match plex resB okV ((c :: t).drop (tokL resB okV (c :: t)).2) (p + (tokL resB okV (c :: t)).2) n with
   | .error m => .error m
   | .ok l => .ok (mkTk resB okV (c :: t) p n :: l)) = R at hi ⊢
  have hj : Ev (fun k => culetref13_Lex.j1 k (mk s) acc (n : Int) (p : Int) (c.toNat : Int) false) R := by
   refine Ev.step (f := fun k => (culetref13_length.f k (mk s) (p : Int)).bind (afterRef k (mk s) acc (n : Int) (p : Int))) (fun k => ?_) (Ev.bind (len_ev s hs p c t hl) ?_)
   ·
    simp only [culetref13_Lex.j1]; rw [if_neg (by simp), if_neg (by have := hc.2.2; omega)]; rfl
   ·
    have hown : ref1 (mkTk resB okV (c :: t) p n) = ⟨(((tokL resB okV (c :: t)).1 : Nat) : Int), if (tokL resB okV (c :: t)).1 = 4 then mk ((((s.drop p).take (tokL resB okV (c :: t)).2).drop 1).take ((tokL resB okV (c :: t)).2 - 2)) else mk ((s.drop p).take (tokL resB okV (c :: t)).2), (n : Int), (p : Int)⟩ := by
     unfold ref1 mkTk
     rw [hl]
     by_cases h4 : (tokL resB okV (c :: t)).1 = 4
     ·
      obtain ⟨_, _, h42⟩ := tokL_four resB okV c t h4
      rw [if_pos h4, if_pos h4, h42, List.take_succ_cons, List.drop_succ_cons, List.drop_zero, List.tail_cons, List.take_take, show min (runB notQ t + 2 - 2) (runB notQ t + 1) = runB notQ t + 2 - 2 by omega]
     ·
      rw [if_neg h4, if_neg h4]
    have hm4 : (tokL resB okV (c :: t)).1 = 4 → 2 ≤ (tokL resB okV (c :: t)).2 := fun h4 => by
     obtain ⟨_, _, h42⟩ := tokL_four resB okV c t h4
     rw [h42]; exact Nat.le_add_left _ _
    have hpm : p + (tokL resB okV (c :: t)).2 ≤ s.length := by omega
    have hne : (tokL resB okV (c :: t)).2 ≠ 0 := by omega
    rw [hown] at hi
    have ha' : acc.length ≤ 100000 := by omega
    clear hR hown
    exact Ev.congr (fun k => afterRef_ok k s acc p n _ _ hpm hs ha' hne hm4) hi
  refine Ev.step (fun k => ?_) hj
  have := hc.1; have := hc.2.1
  simp only [culetref13_Lex.l0]; rw [if_pos (by rw [mk_size]; omega), if_pos (by omega), h3, if_neg (by omega), if_neg (by omega), show ((c.toNat : Int) == 9) = false by rw [beq_eq_false_iff_ne]; omega]
theorem rlex_ev (s : Bs) (hs : s.length ≤ 20000) : Ev (fun k => culetref13_Lex.f k (mk s)) (refR [] (plex resB okV s 0 1)) := by
 have := rlex_l s (by omega) s 0 1 [] (by simp) (by omega) (by omega) (by simp)
 refine Ev.congr (fun k => ?_) this
 unfold culetref13_Lex.f; rw [if_neg (by rw [mk_size]; omega)]; rfl
end Go.Proofs.YthjmbagkomnpgaaDoor.Plain
end
section
namespace Go.Proofs.YthjmbagkomnpgaaDoor.Plain
set_option linter.unusedSimpArgs false
variable (res : Bs → Bool) (val : Bs → Bool)
/-- What stands behind a token of some kind does not lengthen it. -/
def stopK (k : Nat) (o : Option UInt8) : Prop := (k = 1 ∨ k = 2 → ∀ x, o = some x → isW x = false) ∧ (k = 3 → ∀ x, o = some x → isD x = false)
theorem runB_swap (p : UInt8 → Bool) (r r' : Bs) (hs : ∀ x, r'.head? = some x → p x = false) : ∀ w : Bs, runB p (w ++ r) = w.length → runB p (w ++ r') = w.length
 | [], _ => by
  cases r' with
  | nil => rfl
  | cons x t => simp [runB, hs x rfl]
 | c :: w, h => by
  simp only [List.cons_append, runB, List.length_cons] at h ⊢
  by_cases hc : p c = true
  ·
   rw [if_pos hc] at h ⊢
   rw [runB_swap p r r' hs w (by omega)]
  ·
   rw [if_neg hc] at h; exact absurd h (by omega)
theorem take_cons_len (c : UInt8) (t r : Bs) : (c :: (t ++ r)).take (t.length + 1) = c :: t := by
 rw [List.take_succ_cons, List.take_left']; rfl
theorem quote_form (t r : Bs) (h : runB notQ (t ++ r) + 2 = t.length + 1) (h34 : ((t ++ r).drop (runB notQ (t ++ r))).head? = some 34) : ∃ u, t = u ++ [34] ∧ runB notQ u = u.length := by
 have h1 : runB notQ (t ++ r) < t.length := by omega
 have ht : t = t.take (runB notQ (t ++ r)) ++ [34] := by
  have hd : t.drop (runB notQ (t ++ r)) = [34] := by
   rw [List.drop_append_of_le_length (by omega)] at h34
   rw [List.drop_eq_getElem_cons h1] at h34 ⊢
   rw [List.cons_append, List.head?_cons] at h34
   rw [Option.some.inj h34, List.drop_of_length_le (by omega)]
  conv => lhs; rw [← List.take_append_drop (runB notQ (t ++ r)) t]
  rw [hd]
 refine ⟨t.take (runB notQ (t ++ r)), ht, ?_⟩
 have hl : (t.take (runB notQ (t ++ r))).length = runB notQ (t ++ r) := by rw [List.length_take]; omega
 have := runB_app notQ 34 (by decide) r (t.take (runB notQ (t ++ r)))
 have e : t.take (runB notQ (t ++ r)) ++ 34 :: r = t ++ r := by
  have h2 := congrArg (· ++ r) ht
  simp only [List.append_assoc] at h2
  exact h2.symm
 rw [← this, hl, e]
theorem tokL_swap (c : UInt8) (t r r' : Bs) (hk : (tokL res val (c :: (t ++ r))).1 ≠ 0) (hn : (tokL res val (c :: (t ++ r))).2 = t.length + 1) (hs : stopK (tokL res val (c :: (t ++ r))).1 r'.head?) :
  tokL res val (c :: (t ++ r')) = tokL res val (c :: (t ++ r)) := by
 simp only [tokL] at hk hn hs ⊢
 by_cases a1 : isL c = true
 ·
  rw [if_pos a1] at hk hn hs
  rw [if_pos a1, if_pos a1]
  have hw : runB isW (t ++ r) = t.length ∧ ∀ x, r'.head? = some x → isW x = false := by
   by_cases a2 : res ((c :: (t ++ r)).take (runB isW (t ++ r) + 1)) = true
   ·
    rw [if_pos a2] at hn hs; exact ⟨by simpa using hn, hs.1 (Or.inr rfl)⟩
   ·
    rw [if_neg a2] at hn hs hk
    by_cases a3 : runB isW (t ++ r) + 1 ≤ 30
    ·
     rw [if_pos a3] at hn hs; exact ⟨by simpa using hn, hs.1 (Or.inl rfl)⟩
    ·
     rw [if_neg a3] at hk; exact absurd rfl hk
  rw [hw.1, runB_swap isW r r' hw.2 t hw.1, take_cons_len, take_cons_len]
 ·
  rw [if_neg a1] at hk hn hs
  rw [if_neg a1, if_neg a1]
  by_cases a2 : c.toNat = 47 ∨ c.toNat = 44 ∨ c.toNat = 58
  ·
   rw [if_pos a2, if_pos a2]
  ·
   rw [if_neg a2] at hk hn hs
   rw [if_neg a2, if_neg a2]
   by_cases a3 : c.toNat = 34
   ·
    rw [if_pos a3] at hk hn hs
    rw [if_pos a3, if_pos a3]
    by_cases a4 : ((t ++ r).drop (runB notQ (t ++ r))).head? = some 34 ∧ runB notQ (t ++ r) ≤ 2000
    ·
     rw [if_pos a4] at hn
     obtain ⟨u, rfl, hu⟩ := quote_form t r (by simpa using hn) a4.1
     have e : ∀ q : Bs, u ++ [34] ++ q = u ++ 34 :: q := fun q => by rw [List.append_assoc]; rfl
     rw [e, e, runB_app notQ 34 (by decide), runB_app notQ 34 (by decide), hu, List.drop_left', List.drop_left']
     ·
      rfl
     ·
      rfl
     ·
      rfl
    ·
     rw [if_neg a4] at hk; exact absurd rfl hk
   ·
    rw [if_neg a3] at hk hn hs
    rw [if_neg a3, if_neg a3]
    by_cases a4 : c.toNat = 45 ∨ isD c = true
    ·
     rw [if_pos a4] at hk hn hs
     rw [if_pos a4, if_pos a4]
     by_cases a5 : val ((c :: (t ++ r)).take (runB isD (t ++ r) + 1)) = true
     ·
      rw [if_pos a5] at hn hs
      have hw : runB isD (t ++ r) = t.length := by simpa using hn
      rw [hw, runB_swap isD r r' (hs.2 rfl) t hw, take_cons_len, take_cons_len]
     ·
      rw [if_neg a5] at hk; exact absurd rfl hk
    ·
     rw [if_neg a4] at hk; exact absurd rfl hk
theorem plainC_of (c : UInt8) (t : Bs) (hk : (tokL res val (c :: t)).1 ≠ 0) : plainC c := by
 refine ⟨fun h => hk ?_, fun h => hk ?_, fun h => hk ?_⟩
 ·
  simp [tokL, isL, isD, h]
 ·
  rcases h with h | h <;> simp [tokL, isL, isD, h]
 ·
  simp [tokL, isL, isD, h]
def kt (t : Tk) : Nat × Bs := (t.kind, t.text)
def apartL (a b : Tk) : Bool := match plex res val (srcL a ++ srcL b) 0 1 with
 | .ok [x, y] => !(decide (kt x = kt a) && decide (kt y = kt b))
 | _ => true
def joinT : Tk → List Tk → Bs
 | _, [] => []
 | a, b :: l => (if apartL res val a b = true then [32] else []) ++ (srcL b ++ joinT b l)
def joinL : List Tk → Bs
 | [] => []
 | a :: l => srcL a ++ joinT res val a l
/-- A token as it stands somewhere in a text. -/
def good (t : Tk) : Prop := ∃ c u p n, t = mkTk res val (c :: u) p n ∧ (tokL res val (c :: u)).1 ≠ 0
theorem good_split (t : Tk) (h : good res val t) : ∃ c w r, srcL t = c :: w ∧ tokL res val (c :: (w ++ r)) = (t.kind, w.length + 1) ∧ t.kind ≠ 0 ∧ plainC c := by
 obtain ⟨c, u, p, n, rfl, hk⟩ := h
 have hle := tokL_le res val (c :: u) hk
 have hs := srcL_mk res val c u p n
 obtain ⟨m, hm⟩ : ∃ m, (tokL res val (c :: u)).2 = m + 1 := ⟨(tokL res val (c :: u)).2 - 1, by omega⟩
 rw [hm, List.take_succ_cons] at hs
 rw [hm, List.length_cons] at hle
 refine ⟨c, u.take m, u.drop m, hs, ?_, hk, plainC_of res val c u hk⟩
 rw [List.take_append_drop, List.length_take, show min m u.length = m by omega, ← hm]; rfl
theorem kt_mk (t : Tk) (r : Bs) (p n : Nat) (h : tokL res val (srcL t ++ r) = (t.kind, (srcL t).length)) : kt (mkTk res val (srcL t ++ r) p n) = kt t := by
 unfold kt mkTk
 rw [h]
 by_cases h4 : t.kind = 4
 ·
  simp only [srcL, h4, if_true]
  simp
 ·
  simp only [srcL, if_neg h4]
  simp
theorem stop_next (a b : Tk) (ha : good res val a) (h : apartL res val a b = false) : stopK a.kind (srcL b).head? := by
 obtain ⟨c, w, r, hw, htok, h0, hc⟩ := good_split res val a ha
 have key : a.kind ≠ 4 → ∀ z, (srcL b).head? = some z → (tokL res val (c :: (w ++ srcL b))).1 = a.kind ∧ ((c :: (w ++ srcL b)).drop (tokL res val (c :: (w ++ srcL b))).2).head? = some z := by
  intro h4 z hz
  unfold apartL at h
  rw [hw, List.cons_append] at h
  by_cases hk : (tokL res val (c :: (w ++ srcL b))).1 = 0
  ·
   rw [plex_bad res val _ c hc hk] at h; exact absurd h (by simp)
  ·
   rw [plex_tok res val _ c hc hk] at h
   have hle := tokL_le res val _ hk
   cases hy : plex res val ((c :: (w ++ srcL b)).drop (tokL res val (c :: (w ++ srcL b))).2) (0 + (tokL res val (c :: (w ++ srcL b))).2) 1 with
   | error m => rw [hy] at h; exact absurd h (by simp)
   | ok l =>
    rw [hy] at h
    cases l with
    | nil => exact absurd h (by simp)
    | cons y l =>
     cases l with
     | cons y' l => exact absurd h (by simp)
     | nil =>
      have hx : kt (mkTk res val (c :: (w ++ srcL b)) 0 1) = kt a := by
       by_cases e : kt (mkTk res val (c :: (w ++ srcL b)) 0 1) = kt a
       ·
        exact e
       ·
        simp [e] at h
      have hkind : (tokL res val (c :: (w ++ srcL b))).1 = a.kind := congrArg Prod.fst hx
      have htext : (mkTk res val (c :: (w ++ srcL b)) 0 1).text = a.text := congrArg Prod.snd hx
      have hsrc : a.text = c :: w := by rw [← hw]; unfold srcL; rw [if_neg h4]
      unfold mkTk at htext
      simp only [] at htext
      rw [if_neg (by rw [hkind]; exact h4), hsrc] at htext
      have hlen := congrArg List.length htext
      rw [List.length_take] at hlen
      have hn : (tokL res val (c :: (w ++ srcL b))).2 = w.length + 1 := by
       simp only [List.length_cons] at hlen hle; omega
      refine ⟨hkind, ?_⟩
      rw [hn, List.drop_succ_cons, List.drop_left']
      ·
       exact hz
      ·
       rfl
 refine ⟨fun h12 z hz => ?_, fun h3 z hz => ?_⟩
 ·
  obtain ⟨k1, k2⟩ := key (by omega) z hz
  exact (longest res val _ z k2).1 (by rw [k1]; exact h12)
 ·
  obtain ⟨k1, k2⟩ := key (by omega) z hz
  exact (longest res val _ z k2).2 (by rw [k1]; exact h3)
theorem join_ok : ∀ (l : List Tk) (a : Tk) (p n : Nat), (∀ t ∈ a :: l, good res val t) → ∃ T, plex res val (srcL a ++ joinT res val a l) p n = .ok T ∧ T.map kt = (a :: l).map kt
 | l, a, p, n, hg => by
  have ha := hg a (List.mem_cons_self ..)
  obtain ⟨c, w, r, hw, htok, h0, hc⟩ := good_split res val a ha
  have hstop : stopK a.kind (joinT res val a l).head? := by
   cases l with
   | nil => exact ⟨fun _ x hx => by simp [joinT] at hx, fun _ x hx => by simp [joinT] at hx⟩
   | cons b l =>
    have hb := hg b (List.mem_cons_of_mem _ (List.mem_cons_self ..))
    unfold joinT
    by_cases hap : apartL res val a b = true
    ·
     rw [if_pos hap]
     exact ⟨fun _ x hx => by rw [← Option.some.inj hx]; decide, fun _ x hx => by rw [← Option.some.inj hx]; decide⟩
    ·
     rw [if_neg hap, List.nil_append]
     have := stop_next res val a b ha (by simpa using hap)
     obtain ⟨c', w', _, hw', _⟩ := good_split res val b hb
     rw [hw'] at this ⊢
     exact this
  have ht : tokL res val (srcL a ++ joinT res val a l) = (a.kind, (srcL a).length) := by
   rw [hw, List.cons_append, tokL_swap res val c w r _ (by rw [htok]; exact h0) (by rw [htok]) (by rw [htok]; exact hstop), htok]; rfl
  have hkt := kt_mk res val a (joinT res val a l) p n ht
  have hlen : (srcL a).length = w.length + 1 := by rw [hw]; rfl
  rw [hlen] at ht
  rw [hw, List.cons_append] at ht hkt
  have hrest : ∃ T, plex res val (joinT res val a l) (p + (w.length + 1)) n = .ok T ∧ T.map kt = l.map kt := by
   cases l with
   | nil => exact ⟨[], rfl, rfl⟩
   | cons b l =>
    unfold joinT
    have hg' : ∀ t ∈ b :: l, good res val t := fun t h => hg t (List.mem_cons_of_mem _ h)
    by_cases hap : apartL res val a b = true
    ·
     rw [if_pos hap, List.cons_append, List.nil_append, plex_blank res val _ 32 (Or.inl rfl)]
     exact join_ok l b _ n hg'
    ·
     rw [if_neg hap, List.nil_append]
     exact join_ok l b _ n hg'
  obtain ⟨T, h1, h2⟩ := hrest
  refine ⟨mkTk res val (c :: (w ++ joinT res val a l)) p n :: T, ?_, ?_⟩
  ·
   rw [hw, List.cons_append, plex_tok res val _ c hc (by rw [ht]; exact h0), ht]
   show (match plex res val ((c :: (w ++ joinT res val a l)).drop (w.length + 1)) (p + (w.length + 1)) n with
    | .error m => (Except.error m : Except Nat (List Tk))
    | .ok l' => Except.ok (mkTk res val (c :: (w ++ joinT res val a l)) p n :: l')) = _
   rw [List.drop_succ_cons, List.drop_left' rfl, h1]
  ·
   rw [List.map_cons, List.map_cons, hkt, h2]
 termination_by l => l.length
def srcs (l : List Tk) : Nat := (l.map (fun t => (srcL t).length)).sum
theorem plex_srcs (l : Bs) (p n : Nat) : ∀ toks, plex res val l p n = .ok toks → srcs toks ≤ l.length := by
 refine plex_ind res val (P := fun l p n => ∀ toks, plex res val l p n = .ok toks → srcs toks ≤ l.length) ?_ ?_ ?_ ?_ ?_ ?_ l.length l p n (Nat.le_refl _)
 ·
  intro p n toks hx
  obtain rfl := Except.ok.inj hx
  exact Nat.le_refl _
 ·
  intro t c p n hc ih toks hx
  rw [plex_lf _ _ _ _ hc] at hx
  have := ih toks hx; simp only [List.length_cons]; omega
 ·
  intro t c p n hc ih toks hx
  rw [plex_blank _ _ _ _ hc] at hx
  have := ih toks hx; simp only [List.length_cons]; omega
 ·
  intro t c p n hc ih toks hx
  rw [plex_note _ _ _ _ hc] at hx
  have := ih toks hx; rw [List.length_drop] at this; simp only [List.length_cons]; omega
 ·
  intro t c p n hc hk toks hx
  rw [plex_bad _ _ _ _ hc hk] at hx
  cases hx
 ·
  intro t c p n hc hk ih toks hx
  have hle := tokL_le res val (c :: t) hk
  have hs := srcL_mk res val c t p n
  rw [plex_tok _ _ _ _ hc hk] at hx
  generalize hy : plex res val ((c :: t).drop (tokL res val (c :: t)).2) (p + (tokL res val (c :: t)).2) n = y at hx
  cases y with
  | error m => cases hx
  | ok l' =>
   obtain rfl := Except.ok.inj hx
   have := ih l' hy
   unfold srcs at this ⊢
   rw [List.map_cons, List.sum_cons, hs, List.length_take]
   rw [List.length_drop] at this
   omega
theorem joinT_len : ∀ (l : List Tk) (a : Tk), (joinT res val a l).length ≤ srcs l + l.length
 | [], _ => Nat.zero_le _
 | b :: l, a => by
  have := joinT_len l b
  unfold srcs at this ⊢
  unfold joinT
  rw [List.length_append, List.length_append, List.map_cons, List.sum_cons, List.length_cons]
  have : (if apartL res val a b = true then [32] else [] : Bs).length ≤ 1 := by split <;> simp
  omega
theorem joinL_len (l : List Tk) : (joinL res val l).length ≤ srcs l + l.length := by
 cases l with
 | nil => exact Nat.zero_le _
 | cons a l =>
  have := joinT_len res val l a
  unfold srcs at this ⊢
  unfold joinL
  rw [List.length_append, List.map_cons, List.sum_cons, List.length_cons]
  omega
theorem plex_good (s : Bs) (T : List Tk) (h : plex res val s 0 1 = .ok T) : ∀ t ∈ T, good res val t := by
 intro t ht
 obtain ⟨h1, h2, h3⟩ := toks_from res val s s 0 1 T rfl (Nat.zero_le _) h t ht
 rw [List.drop_eq_getElem_cons h1] at h2 h3
 exact ⟨_, _, _, _, h2, h3⟩
theorem relex (s : Bs) (T : List Tk) (h : plex res val s 0 1 = .ok T) : (joinL res val T).length ≤ 2 * s.length ∧ ∃ T', plex res val (joinL res val T) 0 1 = .ok T' ∧ T'.map kt = T.map kt := by
 have h1 := plex_srcs res val s 0 1 T h
 have h2 := plex_len res val s 0 1 T h
 have h3 := joinL_len res val T
 refine ⟨by omega, ?_⟩
 have hg := plex_good res val s T h
 cases T with
 | nil => exact ⟨[], rfl, rfl⟩
 | cons a l => exact join_ok res val l a 0 1 hg
end Go.Proofs.YthjmbagkomnpgaaDoor.Plain
end
section
namespace Go.Proofs.YthjmbagkomnpgaaDoor.Plain
open Go Go.RowKit Go.Proofs.YthjmbagkomnpgaaDoor.L Go.Proofs.YthjmbagkomnpgaaDoorW.PrintWords Go.Proofs.YthjmbagkomnpgaaDoorW.PrintLast
set_option linter.unusedSimpArgs false
set_option linter.unusedVariables false
/-- A token's kind and text. -/
abbrev KT := Int × Bs
def srcI (a : KT) : Bs := if a.1 = 4 then 34 :: (a.2 ++ [34]) else a.2
def okI (a b : KT) (T : List Tk) : Bool := match T with
 | [x, y] => decide ((x.kind : Int) = a.1) && decide (x.text = a.2) && decide ((y.kind : Int) = b.1) && decide (y.text = b.2)
 | _ => false
def apartI (a b : KT) : Bool := match plex resB okV (srcI a ++ srcI b) 0 1 with
 | .ok T => !(okI a b T)
 | .error _ => true
def restI : Option KT → List KT → Bs
 | _, [] => []
 | none, b :: l => srcI b ++ restI (some b) l
 | some a, b :: l => (if apartI a b = true then [32] else []) ++ (srcI b ++ restI (some b) l)
def prevI (l : List KT) (i : Nat) : Option KT := if i = 0 then none else l[i - 1]?
theorem prevI_succ (l : List KT) (i : Nat) (h : i < l.length) : prevI l (i + 1) = some l[i] := by unfold prevI; rw [if_neg (by omega), Nat.add_sub_cancel, List.getElem?_eq_getElem h]
def kt38 (s : S38) : KT := (s.f0, s.f1.data.toList)
def kt40 (s : S40) : KT := (s.f0, s.f1.data.toList)
theorem mk34 : (⟨#[34]⟩ : ByteArray) = mk [34] := rfl
theorem mk32 : (⟨#[32]⟩ : ByteArray) = mk [32] := rfl
theorem big63 {n : Nat} (h : n ≤ 100000) : n ≤ 9223372036854775807 := Nat.le_trans h (by decide)
theorem big47 {n : Nat} (h : n ≤ 100000) : n ≤ 140737488355328 := Nat.le_trans h (by decide)

theorem restI_nil (o : Option KT) : restI o [] = [] := by cases o <;> rfl

theorem rd_38 (l : List S38) (i : Nat) (h : i < l.length) : rd_T38 l (i : Int) = l[i] := by
 unfold rd_T38; rw [Int.toNat_natCast, List.getD_eq_getElem?_getD, List.getElem?_eq_getElem h]; rfl
theorem source_38 (a b c : Int) (t : ByteArray) (h : t.size ≤ 50000) : lexer_Source.f a t b c = some (mk (srcI (a, t.data.toList))) := by
 unfold lexer_Source.f srcI
 by_cases h4 : a = 4
 ·
  have s1 : 1 + t.size ≤ 9223372036854775807 := big63 (by omega)
  have s2 : ((⟨#[34]⟩ : ByteArray) ++ t).size + 1 ≤ 9223372036854775807 := by rw [ByteArray.size_append]; exact big63 (show 1 + t.size + 1 ≤ 100000 by omega)
  rw [if_pos h4, if_pos s1, if_pos s2, if_pos h4, mk34]
  conv => lhs; rw [mk_of t]
  rw [mk_append, mk_append]; rfl
 ·
  rw [if_neg h4, if_neg h4, ← mk_of]
theorem apart_38 (x y : S38) (hx : (srcI (kt38 x)).length ≤ 5000) (hy : (srcI (kt38 y)).length ≤ 5000) (hx' : x.f1.size ≤ 50000) (hy' : y.f1.size ≤ 50000) :
  Ev (fun k => lexer_Apart.f k x.f0 x.f1 x.f2 x.f3 y.f0 y.f1 y.f2 y.f3) (apartI (kt38 x) (kt38 y)) := by
 have e1 := source_38 x.f0 x.f2 x.f3 x.f1 hx'
 have e2 := source_38 y.f0 y.f2 y.f3 y.f1 hy'
 change (srcI (x.f0, x.f1.data.toList)).length ≤ 5000 at hx
 change (srcI (y.f0, y.f1.data.toList)).length ≤ 5000 at hy
 show Ev _ (apartI (x.f0, x.f1.data.toList) (y.f0, y.f1.data.toList))
 have hs : (mk (srcI (x.f0, x.f1.data.toList))).size + (mk (srcI (y.f0, y.f1.data.toList))).size ≤ 9223372036854775807 := by
  rw [mk_size, mk_size]; exact big63 (by omega)
 have hlex := lex_ev (srcI (x.f0, x.f1.data.toList) ++ srcI (y.f0, y.f1.data.toList)) (by rw [List.length_append]; omega)
 refine Ev.congr (fun k => by unfold lexer_Apart.f; rw [e1, Option.bind_some, e2, Option.bind_some, if_pos hs, mk_append]) (Ev.bind hlex ?_)
 unfold apartI
 cases plex resB okV (srcI (x.f0, x.f1.data.toList) ++ srcI (y.f0, y.f1.data.toList)) 0 1 with
 | error m =>
  refine Ev.congr (fun k => ?_) (Ev.now true)
  exact if_neg (show ¬ ((4 : Int) = 0) by decide)
 | ok T =>
  have hR : ownR [] (.ok T) = (T.map own1, 0, 0) := rfl
  rw [hR]
  match T with
  | [] => exact Ev.congr (fun k => by rw [if_pos rfl, if_neg (by simp)]) (Ev.now true)
  | [p] => exact Ev.congr (fun k => by rw [if_pos rfl, if_neg (by simp)]) (Ev.now true)
  | p :: q :: u :: v =>
   refine Ev.congr (fun k => ?_) (Ev.now true)
   rw [if_pos rfl, if_neg (by simp only [List.map_cons, List.length_cons]; omega)]
  | [p, q] =>
   have r0 : rd_T38 ([p, q].map own1) 0 = own1 p := rd_38 ([p, q].map own1) 0 (by simp)
   have r1 : rd_T38 ([p, q].map own1) 1 = own1 q := rd_38 ([p, q].map own1) 1 (by simp)
   have l2 : ((([p, q].map own1).length : Nat) : Int) = 2 := rfl
   have o0 : (own1 p).f0 = (p.kind : Int) := rfl
   have o1 : (own1 p).f1 = mk p.text := rfl
   have o2 : (own1 q).f0 = (q.kind : Int) := rfl
   have o3 : (own1 q).f1 = mk q.text := rfl
   refine Ev.congr (f := fun _ => some (!(okI (x.f0, x.f1.data.toList) (y.f0, y.f1.data.toList) [p, q]))) (fun k => ?_) (Ev.now _)
   simp only [r0, r1, l2, o0, o1, o2, o3, ByteArray.toList_eq, mk_data]
   rw [if_pos trivial, if_pos trivial, if_pos (by decide)]
   unfold okI
   simp only []
   by_cases c1 : (p.kind : Int) = x.f0
   ·
    rw [if_pos c1, decide_eq_true c1]
    by_cases c2 : p.text = x.f1.data.toList
    ·
     rw [if_pos c2, decide_eq_true c2, if_pos (by decide)]
     by_cases c3 : (q.kind : Int) = y.f0
     ·
      rw [if_pos c3, decide_eq_true c3]
      by_cases c4 : q.text = y.f1.data.toList
      ·
       rw [decide_eq_true c4, c4]; simp
      ·
       rw [decide_eq_false c4]; simp [c4]
     ·
      rw [if_neg c3, decide_eq_false c3]; simp
    ·
     rw [if_neg c2, decide_eq_false c2]; simp
   ·
    rw [if_neg c1, decide_eq_false c1]; simp

theorem join_38 (l : List S38) (hl : l.length ≤ 100000) (hs : ∀ s ∈ l, (srcI (kt38 s)).length ≤ 5000 ∧ s.f1.size ≤ 50000) : ∀ (d i : Nat) (A : Bs), i + d = l.length → A.length + (restI (prevI (l.map kt38) i) ((l.map kt38).drop i)).length ≤ 90000 →
  Ev (fun k => lexer_Join.l0 k l (mk A) l (l.length : Int) (i : Int)) (mk (A ++ restI (prevI (l.map kt38) i) ((l.map kt38).drop i)))
 | 0, i, A, h, hA => by
  obtain rfl : i = l.length := by omega
  rw [List.drop_of_length_le (by rw [List.length_map]; exact Nat.le_refl _), restI_nil, List.append_nil]
  refine Ev.step (f := fun _ => some (mk A)) (fun k => ?_) (Ev.now _)
  simp only [lexer_Join.l0]; rw [if_neg (by omega)]
 | d + 1, i, A, h, hA => by
  have hi : i < l.length := by omega
  have him : i < (l.map kt38).length := by rw [List.length_map]; exact hi
  have hdrop : (l.map kt38).drop i = kt38 l[i] :: (l.map kt38).drop (i + 1) := by rw [List.drop_eq_getElem_cons him, List.getElem_map]
  have hprev : prevI (l.map kt38) (i + 1) = some (kt38 l[i]) := by rw [prevI_succ _ _ him, List.getElem_map]
  have ih := fun A' hA' => join_38 l hl hs d (i + 1) A' (by omega) hA'
  rw [hprev] at ih
  rw [hdrop] at hA ⊢
  obtain ⟨hsi, hszi⟩ := hs _ (List.getElem_mem hi)
  have hrd := rd_38 l i hi
  have hsrc : lexer_Source.f (l[i]).f0 (l[i]).f1 (l[i]).f2 (l[i]).f3 = some (mk (srcI (kt38 l[i]))) := source_38 (l[i]).f0 (l[i]).f2 (l[i]).f3 (l[i]).f1 hszi
  generalize hrest : restI (some (kt38 l[i])) ((l.map kt38).drop (i + 1)) = rest at ih
  have g0 : (0 : Int) ≤ (i : Int) := by omega
  have g1 : (i : Int) < (l.length : Int) := by omega
  have hw3 : wrap64 ((i : Int) + 1) = ((i + 1 : Nat) : Int) := wrap_nat (by omega)
  have b1 : (mk A).size + 1 ≤ 140737488355328 := by rw [mk_size]; exact big47 (by omega)
  have b2 : (mk A).size + (mk (srcI (kt38 l[i]))).size ≤ 140737488355328 := by rw [mk_size, mk_size]; exact big47 (by omega)
  have b3 : ((mk A) ++ (⟨#[32]⟩ : ByteArray)).size + (mk (srcI (kt38 l[i]))).size ≤ 140737488355328 := by rw [mk32, mk_append, mk_size, mk_size, List.length_append]; exact big47 (show A.length + 1 + (srcI (kt38 l[i])).length ≤ 100000 by omega)
  by_cases h0 : i = 0
  ·
   have hp : prevI (l.map kt38) i = none := by unfold prevI; rw [if_pos h0]
   rw [hp] at hA ⊢
   have hr : restI none (kt38 l[i] :: (l.map kt38).drop (i + 1)) = srcI (kt38 l[i]) ++ rest := by rw [← hrest]; rfl
   rw [hr] at hA ⊢
   rw [List.length_append] at hA
   have ih1 := ih (A ++ srcI (kt38 l[i])) (by rw [List.length_append]; omega)
   rw [List.append_assoc] at ih1
   refine Ev.step (fun k => ?_) ih1
   simp only [lexer_Join.l0]
   rw [if_pos g1, if_pos g0, if_pos g1, if_neg (show ¬ ((i : Int) > 0) by omega), hrd, hsrc, Option.bind_some, if_pos b2, mk_append, hw3]
  ·
   have hj : i - 1 < l.length := by omega
   have hp : prevI (l.map kt38) i = some (kt38 l[i - 1]) := by unfold prevI; rw [if_neg h0, List.getElem?_eq_getElem (by rw [List.length_map]; omega), List.getElem_map]
   rw [hp] at hA ⊢
   have hr : restI (some (kt38 l[i - 1])) (kt38 l[i] :: (l.map kt38).drop (i + 1)) = (if apartI (kt38 l[i - 1]) (kt38 l[i]) = true then [32] else []) ++ (srcI (kt38 l[i]) ++ rest) := by rw [← hrest]; rfl
   rw [hr] at hA ⊢
   rw [List.length_append, List.length_append] at hA
   obtain ⟨hsj, hszj⟩ := hs _ (List.getElem_mem hj)
   have hw : wrap64 ((i : Int) - 1) = ((i - 1 : Nat) : Int) := by rw [wrap_id (by omega) (by omega)]; omega
   have hrd1 := rd_38 l (i - 1) hj
   have hap := apart_38 l[i - 1] l[i] hsj hsi hszj hszi
   have g2 : (0 : Int) ≤ ((i - 1 : Nat) : Int) := by clear hw hw3; omega
   have g3 : ((i - 1 : Nat) : Int) < (l.length : Int) := by clear hw hw3; omega
   have g4 : (i : Int) > 0 := by clear hw hw3; omega
   refine Ev.step (f := fun k => (lexer_Apart.f k (l[i - 1]).f0 (l[i - 1]).f1 (l[i - 1]).f2 (l[i - 1]).f3 (l[i]).f0 (l[i]).f1 (l[i]).f2 (l[i]).f3).bind fun t => (if t = true then (if (mk A).size + 1 ≤ 140737488355328 then ((some (mk (srcI (kt38 l[i])))).bind fun u => if ((mk A) ++ (⟨#[32]⟩ : ByteArray)).size + u.size ≤ 140737488355328 then lexer_Join.l0 k l (((mk A) ++ (⟨#[32]⟩ : ByteArray)) ++ u) l (l.length : Int) ((i + 1 : Nat) : Int) else none) else none) else ((some (mk (srcI (kt38 l[i])))).bind fun u => if (mk A).size + u.size ≤ 140737488355328 then lexer_Join.l0 k l (mk A ++ u) l (l.length : Int) ((i + 1 : Nat) : Int) else none))) (fun k => ?_) (Ev.bind hap ?_)
   ·
    simp only [lexer_Join.l0]
    rw [if_pos g1, if_pos g0, if_pos g1, if_pos g4, hw, if_pos g2, if_pos g3, hrd, hrd1, hsrc, hw3]
   ·
    by_cases hc : apartI (kt38 l[i - 1]) (kt38 l[i]) = true
    ·
     rw [if_pos hc] at hA ⊢
     have ih1 := ih ((A ++ [32]) ++ srcI (kt38 l[i])) (by rw [List.length_append, List.length_append]; have : ([32] : Bs).length = 1 := rfl; omega)
     rw [List.append_assoc, List.append_assoc] at ih1
     refine Ev.congr (fun k => ?_) ih1
     rw [if_pos hc, if_pos b1, Option.bind_some, if_pos b3, mk32, mk_append, mk_append, List.append_assoc]
    ·
     rw [if_neg hc] at hA ⊢
     have ih1 := ih (A ++ srcI (kt38 l[i])) (by rw [List.length_append]; omega)
     rw [List.append_assoc] at ih1
     rw [List.nil_append]
     refine Ev.congr (fun k => ?_) ih1
     rw [if_neg hc, Option.bind_some, if_pos b2, mk_append]
def joinI (l : List KT) : Bs := restI none l
theorem join_ev_38 (l : List S38) (hl : l.length ≤ 100000) (hs : ∀ s ∈ l, (srcI (kt38 s)).length ≤ 5000 ∧ s.f1.size ≤ 50000) (hb : (joinI (l.map kt38)).length ≤ 90000) : Ev (fun k => lexer_Join.f k l) (mk (joinI (l.map kt38))) := by
 have := join_38 l hl hs l.length 0 [] (by omega) (by simpa [prevI, joinI] using hb)
 refine Ev.congr (fun k => ?_) (by simpa [prevI, joinI] using this)
 rfl

theorem rd_40 (l : List S40) (i : Nat) (h : i < l.length) : rd_T40 l (i : Int) = l[i] := by
 unfold rd_T40; rw [Int.toNat_natCast, List.getD_eq_getElem?_getD, List.getElem?_eq_getElem h]; rfl
theorem source_40 (a b c : Int) (t : ByteArray) (h : t.size ≤ 50000) : culetref13_Source.f a t b c = some (mk (srcI (a, t.data.toList))) := by
 unfold culetref13_Source.f srcI
 by_cases h4 : a = 4
 ·
  have s1 : 1 + t.size ≤ 9223372036854775807 := big63 (by omega)
  have s2 : ((⟨#[34]⟩ : ByteArray) ++ t).size + 1 ≤ 9223372036854775807 := by rw [ByteArray.size_append]; exact big63 (show 1 + t.size + 1 ≤ 100000 by omega)
  rw [if_pos h4, if_pos s1, if_pos s2, if_pos h4, mk34]
  conv => lhs; rw [mk_of t]
  rw [mk_append, mk_append]; rfl
 ·
  rw [if_neg h4, if_neg h4, ← mk_of]
theorem apart_40 (x y : S40) (hx : (srcI (kt40 x)).length ≤ 5000) (hy : (srcI (kt40 y)).length ≤ 5000) (hx' : x.f1.size ≤ 50000) (hy' : y.f1.size ≤ 50000) :
  Ev (fun k => culetref13_Apart.f k x.f0 x.f1 x.f2 x.f3 y.f0 y.f1 y.f2 y.f3) (apartI (kt40 x) (kt40 y)) := by
 have e1 := source_40 x.f0 x.f2 x.f3 x.f1 hx'
 have e2 := source_40 y.f0 y.f2 y.f3 y.f1 hy'
 change (srcI (x.f0, x.f1.data.toList)).length ≤ 5000 at hx
 change (srcI (y.f0, y.f1.data.toList)).length ≤ 5000 at hy
 show Ev _ (apartI (x.f0, x.f1.data.toList) (y.f0, y.f1.data.toList))
 have hs : (mk (srcI (x.f0, x.f1.data.toList))).size + (mk (srcI (y.f0, y.f1.data.toList))).size ≤ 9223372036854775807 := by
  rw [mk_size, mk_size]; exact big63 (by omega)
 have hlex := rlex_ev (srcI (x.f0, x.f1.data.toList) ++ srcI (y.f0, y.f1.data.toList)) (by rw [List.length_append]; omega)
 refine Ev.congr (fun k => by unfold culetref13_Apart.f; rw [e1, Option.bind_some, e2, Option.bind_some, if_pos hs, mk_append]) (Ev.bind hlex ?_)
 unfold apartI
 cases plex resB okV (srcI (x.f0, x.f1.data.toList) ++ srcI (y.f0, y.f1.data.toList)) 0 1 with
 | error m =>
  refine Ev.congr (fun k => ?_) (Ev.now true)
  exact if_neg (show ¬ ((4 : Int) = 0) by decide)
 | ok T =>
  have hR : refR [] (.ok T) = (T.map ref1, 0, 0) := rfl
  rw [hR]
  match T with
  | [] => exact Ev.congr (fun k => by rw [if_pos rfl, if_neg (by simp)]) (Ev.now true)
  | [p] => exact Ev.congr (fun k => by rw [if_pos rfl, if_neg (by simp)]) (Ev.now true)
  | p :: q :: u :: v =>
   refine Ev.congr (fun k => ?_) (Ev.now true)
   rw [if_pos rfl, if_neg (by simp only [List.map_cons, List.length_cons]; omega)]
  | [p, q] =>
   have r0 : rd_T40 ([p, q].map ref1) 0 = ref1 p := rd_40 ([p, q].map ref1) 0 (by simp)
   have r1 : rd_T40 ([p, q].map ref1) 1 = ref1 q := rd_40 ([p, q].map ref1) 1 (by simp)
   have l2 : ((([p, q].map ref1).length : Nat) : Int) = 2 := rfl
   have o0 : (ref1 p).f0 = (p.kind : Int) := rfl
   have o1 : (ref1 p).f1 = mk p.text := rfl
   have o2 : (ref1 q).f0 = (q.kind : Int) := rfl
   have o3 : (ref1 q).f1 = mk q.text := rfl
   refine Ev.congr (f := fun _ => some (!(okI (x.f0, x.f1.data.toList) (y.f0, y.f1.data.toList) [p, q]))) (fun k => ?_) (Ev.now _)
   simp only [r0, r1, l2, o0, o1, o2, o3, ByteArray.toList_eq, mk_data]
   rw [if_pos trivial, if_pos trivial, if_pos (by decide)]
   unfold okI
   simp only []
   by_cases c1 : (p.kind : Int) = x.f0
   ·
    rw [if_pos c1, decide_eq_true c1]
    by_cases c2 : p.text = x.f1.data.toList
    ·
     rw [if_pos c2, decide_eq_true c2, if_pos (by decide)]
     by_cases c3 : (q.kind : Int) = y.f0
     ·
      rw [if_pos c3, decide_eq_true c3]
      by_cases c4 : q.text = y.f1.data.toList
      ·
       rw [decide_eq_true c4, c4]; simp
      ·
       rw [decide_eq_false c4]; simp [c4]
     ·
      rw [if_neg c3, decide_eq_false c3]; simp
    ·
     rw [if_neg c2, decide_eq_false c2]; simp
   ·
    rw [if_neg c1, decide_eq_false c1]; simp

theorem join_40 (l : List S40) (hl : l.length ≤ 100000) (hs : ∀ s ∈ l, (srcI (kt40 s)).length ≤ 5000 ∧ s.f1.size ≤ 50000) : ∀ (d i : Nat) (A : Bs), i + d = l.length → A.length + (restI (prevI (l.map kt40) i) ((l.map kt40).drop i)).length ≤ 90000 →
  Ev (fun k => culetref13_Join.l0 k l (mk A) (i : Int)) (mk (A ++ restI (prevI (l.map kt40) i) ((l.map kt40).drop i)))
 | 0, i, A, h, hA => by
  obtain rfl : i = l.length := by omega
  rw [List.drop_of_length_le (by rw [List.length_map]; exact Nat.le_refl _), restI_nil, List.append_nil]
  refine Ev.step (f := fun _ => some (mk A)) (fun k => ?_) (Ev.now _)
  simp only [culetref13_Join.l0]; rw [if_neg (by omega)]
 | d + 1, i, A, h, hA => by
  have hi : i < l.length := by omega
  have him : i < (l.map kt40).length := by rw [List.length_map]; exact hi
  have hdrop : (l.map kt40).drop i = kt40 l[i] :: (l.map kt40).drop (i + 1) := by rw [List.drop_eq_getElem_cons him, List.getElem_map]
  have hprev : prevI (l.map kt40) (i + 1) = some (kt40 l[i]) := by rw [prevI_succ _ _ him, List.getElem_map]
  have ih := fun A' hA' => join_40 l hl hs d (i + 1) A' (by omega) hA'
  rw [hprev] at ih
  rw [hdrop] at hA ⊢
  obtain ⟨hsi, hszi⟩ := hs _ (List.getElem_mem hi)
  have hrd := rd_40 l i hi
  have hsrc : culetref13_Source.f (l[i]).f0 (l[i]).f1 (l[i]).f2 (l[i]).f3 = some (mk (srcI (kt40 l[i]))) := source_40 (l[i]).f0 (l[i]).f2 (l[i]).f3 (l[i]).f1 hszi
  generalize hrest : restI (some (kt40 l[i])) ((l.map kt40).drop (i + 1)) = rest at ih
  have g0 : (0 : Int) ≤ (i : Int) := by omega
  have g1 : (i : Int) < (l.length : Int) := by omega
  have hw3 : wrap64 ((i : Int) + 1) = ((i + 1 : Nat) : Int) := wrap_nat (by omega)
  have b1 : (mk A).size + 1 ≤ 9223372036854775807 := by rw [mk_size]; exact big63 (by omega)
  have b2 : (mk A).size + (mk (srcI (kt40 l[i]))).size ≤ 9223372036854775807 := by rw [mk_size, mk_size]; exact big63 (by omega)
  have b3 : ((mk A) ++ (⟨#[32]⟩ : ByteArray)).size + (mk (srcI (kt40 l[i]))).size ≤ 9223372036854775807 := by rw [mk32, mk_append, mk_size, mk_size, List.length_append]; exact big63 (show A.length + 1 + (srcI (kt40 l[i])).length ≤ 100000 by omega)
  by_cases h0 : i = 0
  ·
   have hp : prevI (l.map kt40) i = none := by unfold prevI; rw [if_pos h0]
   rw [hp] at hA ⊢
   have hr : restI none (kt40 l[i] :: (l.map kt40).drop (i + 1)) = srcI (kt40 l[i]) ++ rest := by rw [← hrest]; rfl
   rw [hr] at hA ⊢
   rw [List.length_append] at hA
   have ih1 := ih (A ++ srcI (kt40 l[i])) (by rw [List.length_append]; omega)
   rw [List.append_assoc] at ih1
   refine Ev.step (fun k => ?_) ih1
   simp only [culetref13_Join.l0]
   rw [if_pos g1, if_neg (show ¬ ((i : Int) > 0) by omega), if_pos g0, hrd, hsrc, Option.bind_some, if_pos b2, mk_append, hw3]
  ·
   have hj : i - 1 < l.length := by omega
   have hp : prevI (l.map kt40) i = some (kt40 l[i - 1]) := by unfold prevI; rw [if_neg h0, List.getElem?_eq_getElem (by rw [List.length_map]; omega), List.getElem_map]
   rw [hp] at hA ⊢
   have hr : restI (some (kt40 l[i - 1])) (kt40 l[i] :: (l.map kt40).drop (i + 1)) = (if apartI (kt40 l[i - 1]) (kt40 l[i]) = true then [32] else []) ++ (srcI (kt40 l[i]) ++ rest) := by rw [← hrest]; rfl
   rw [hr] at hA ⊢
   rw [List.length_append, List.length_append] at hA
   obtain ⟨hsj, hszj⟩ := hs _ (List.getElem_mem hj)
   have hw : wrap64 ((i : Int) - 1) = ((i - 1 : Nat) : Int) := by rw [wrap_id (by omega) (by omega)]; omega
   have hrd1 := rd_40 l (i - 1) hj
   have hap := apart_40 l[i - 1] l[i] hsj hsi hszj hszi
   have g2 : (0 : Int) ≤ ((i - 1 : Nat) : Int) := by clear hw hw3; omega
   have g3 : ((i - 1 : Nat) : Int) < (l.length : Int) := by clear hw hw3; omega
   have g4 : (i : Int) > 0 := by clear hw hw3; omega
   refine Ev.step (f := fun k => (culetref13_Apart.f k (l[i - 1]).f0 (l[i - 1]).f1 (l[i - 1]).f2 (l[i - 1]).f3 (l[i]).f0 (l[i]).f1 (l[i]).f2 (l[i]).f3).bind fun t => (if t = true then (if (mk A).size + 1 ≤ 9223372036854775807 then ((some (mk (srcI (kt40 l[i])))).bind fun u => if ((mk A) ++ (⟨#[32]⟩ : ByteArray)).size + u.size ≤ 9223372036854775807 then culetref13_Join.l0 k l (((mk A) ++ (⟨#[32]⟩ : ByteArray)) ++ u) ((i + 1 : Nat) : Int) else none) else none) else ((some (mk (srcI (kt40 l[i])))).bind fun u => if (mk A).size + u.size ≤ 9223372036854775807 then culetref13_Join.l0 k l (mk A ++ u) ((i + 1 : Nat) : Int) else none))) (fun k => ?_) (Ev.bind hap ?_)
   ·
    simp only [culetref13_Join.l0]
    rw [if_pos g1, if_pos g4, hw, if_pos g2, if_pos g3, if_pos g0, hrd, hrd1, hsrc, hw3]
   ·
    by_cases hc : apartI (kt40 l[i - 1]) (kt40 l[i]) = true
    ·
     rw [if_pos hc] at hA ⊢
     have ih1 := ih ((A ++ [32]) ++ srcI (kt40 l[i])) (by rw [List.length_append, List.length_append]; have : ([32] : Bs).length = 1 := rfl; omega)
     rw [List.append_assoc, List.append_assoc] at ih1
     refine Ev.congr (fun k => ?_) ih1
     rw [if_pos hc, if_pos b1, Option.bind_some, if_pos b3, mk32, mk_append, mk_append, List.append_assoc]
    ·
     rw [if_neg hc] at hA ⊢
     have ih1 := ih (A ++ srcI (kt40 l[i])) (by rw [List.length_append]; omega)
     rw [List.append_assoc] at ih1
     rw [List.nil_append]
     refine Ev.congr (fun k => ?_) ih1
     rw [if_neg hc, Option.bind_some, if_pos b2, mk_append]
theorem join_ev_40 (l : List S40) (hl : l.length ≤ 100000) (hs : ∀ s ∈ l, (srcI (kt40 s)).length ≤ 5000 ∧ s.f1.size ≤ 50000) (hb : (joinI (l.map kt40)).length ≤ 90000) : Ev (fun k => culetref13_Join.f k l) (mk (joinI (l.map kt40))) := by
 have := join_40 l hl hs l.length 0 [] (by omega) (by simpa [prevI, joinI] using hb)
 refine Ev.congr (fun k => ?_) (by simpa [prevI, joinI] using this)
 rfl
end Go.Proofs.YthjmbagkomnpgaaDoor.Plain
end
