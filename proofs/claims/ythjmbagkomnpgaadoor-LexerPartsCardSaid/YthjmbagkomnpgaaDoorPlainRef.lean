/- The plain side of the laws on the lexer: what the reference's functions come to, on lists of bytes. -/
import Derived.Test.YthjmbagkomnpgaaDoorPlainOwn
import Derived.Test.YthjmbagkomnpgaaDoorLx25
namespace Go.Proofs.YthjmbagkomnpgaaDoor.Plain
open Go Go.RowKit Go.Proofs.YthjmbagkomnpgaaDoor.L Go.Proofs.YthjmbagkomnpgaaDoorW.PrintWords Go.Proofs.YthjmbagkomnpgaaDoorW.PrintLast

theorem rletter_ev (c : UInt8) : culetref13_letter.f (c.toNat : Int) = some (isL c) := letter_ev c
theorem rdigit_ev (c : UInt8) : culetref13_digit.f (c.toNat : Int) = some (isD c) := digit_ev c

/-! ### reserved words -/
def RES : List Bs := [[100, 101, 115, 105, 103, 110], [111, 114, 100, 101, 114], [109, 105, 114, 114, 111, 114], [116, 105, 101, 114], [97, 110, 103, 108, 101], [97, 116], [100, 101, 112, 116, 104], [109, 101, 101, 116], [101, 100, 103, 101], [104, 101, 105, 103, 104, 116], [116, 104, 114, 111, 117, 103, 104]]
theorem rres_l (l : Bs) (R : List Bs) (hR : R.length ≤ 100) : ∀ (d i : Nat), i + d = R.length → Ev (fun k => culetref13_Reserved.l0 k (mk l) (R.map mk) (i : Int)) ((R.drop i).any (fun x => decide (l = x)))
  | 0, i, h => by
    obtain rfl : i = R.length := by omega
    refine Ev.step (f := fun _ => some false) (fun k => ?_) (by simpa using Ev.now false)
    simp only [culetref13_Reserved.l0]; rw [if_neg (by rw [List.length_map]; omega)]
  | d + 1, i, h => by
    have hi : i < R.length := by omega
    have ih := rres_l l R hR d (i + 1) (by omega)
    have hrd : rdOf ByteArray.empty (R.map mk) (i : Int) = mk R[i] := by
      unfold rdOf; rw [Int.toNat_natCast, List.getD_eq_getElem?_getD, List.getElem?_map, List.getElem?_eq_getElem hi]; rfl
    rw [List.drop_eq_getElem_cons hi, List.any_cons]
    by_cases he : l = R[i]
    · refine Ev.step (f := fun _ => some true) (fun k => ?_) (by rw [decide_eq_true he]; exact Ev.now _)
      simp only [culetref13_Reserved.l0]; rw [if_pos (by rw [List.length_map]; omega), if_pos (by omega), hrd, mk_toList, mk_toList, if_pos he.symm]
    · refine Ev.step (fun k => ?_) (by rw [decide_eq_false he, Bool.false_or]; exact ih)
      simp only [culetref13_Reserved.l0]; rw [if_pos (by rw [List.length_map]; omega), if_pos (by omega), hrd, mk_toList, mk_toList, if_neg (fun h => he h.symm), wrap_nat (by omega)]
theorem rres_ev (l : Bs) : Ev (fun k => culetref13_Reserved.f k (mk l)) (resB l) := rres_l l RES (by decide) RES.length 0 (by decide)

/-! ### words and names -/
theorem rword_l (l : Bs) (hl : l.length ≤ 140737488351232) (h0 : 0 < l.length) : ∀ (d i : Nat), i + d = l.length → 1 ≤ i → Ev (fun k => culetref13_word.l0 k (mk l) (i : Int)) ((l.drop i).all isW)
  | 0, i, h, h1 => by
    obtain rfl : i = l.length := by omega
    refine Ev.step (f := fun _ => some true) (fun k => ?_) (by simpa using Ev.now true)
    simp only [culetref13_word.l0]; rw [if_neg (by rw [mk_size]; omega), decide_eq_true (by rw [mk_size]; omega)]
  | d + 1, i, h, h1 => by
    have hi : i < l.length := by omega
    have ih := rword_l l hl h0 d (i + 1) (by omega) (by omega)
    have hb := bt_mk l i hi
    have g0 : (0 : Int) ≤ (i : Int) := by omega
    have g1 : (i : Int) < ((mk l).size : Int) := by rw [mk_size]; omega
    have n0 : ¬ (i : Int) = 0 := by omega
    have hw : wrap64 ((i : Int) + 1) = ((i + 1 : Nat) : Int) := wrap_nat (by omega)
    rw [List.drop_eq_getElem_cons hi, List.all_cons]
    generalize l[i] = c at hb ⊢
    cases hL : isL c with
    | true =>
      rw [isW_of_L hL, Bool.true_and]
      refine Ev.step (fun k => ?_) ih
      simp only [culetref13_word.l0]; rw [if_pos g1, if_pos g0, hb, rletter_ev, hL, hw]; rfl
    | false =>
      cases hD : isD c with
      | true =>
        rw [show isW c = true by simp [isW, hD], Bool.true_and]
        refine Ev.step (fun k => ?_) ih
        simp only [culetref13_word.l0]; rw [if_pos g1, if_pos g0, hb, rletter_ev, hL, Option.bind_some, if_neg (by simp), if_neg n0, rdigit_ev, hD, hw]; rfl
      | false =>
        by_cases a : c.toNat = 45
        · rw [show isW c = true by simp [isW, a], Bool.true_and]
          refine Ev.step (fun k => ?_) ih
          simp only [culetref13_word.l0]; rw [if_pos g1, if_pos g0, hb, rletter_ev, hL, Option.bind_some, if_neg (by simp), if_neg n0, rdigit_ev, hD, Option.bind_some, if_neg (by simp), if_pos (by omega), hw]
        · by_cases b : c.toNat = 95
          · rw [show isW c = true by simp [isW, b], Bool.true_and]
            refine Ev.step (fun k => ?_) ih
            simp only [culetref13_word.l0]; rw [if_pos g1, if_pos g0, hb, rletter_ev, hL, Option.bind_some, if_neg (by simp), if_neg n0, rdigit_ev, hD, Option.bind_some, if_neg (by simp), if_neg (by omega), if_pos (by omega), hw]
          · rw [show isW c = false by simp [isW, hL, hD, a, b], Bool.false_and]
            refine Ev.step (f := fun _ => some false) (fun k => ?_) (Ev.now _)
            simp only [culetref13_word.l0]; rw [if_pos g1, if_pos g0, hb, rletter_ev, hL, Option.bind_some, if_neg (by simp), if_neg n0, rdigit_ev, hD, Option.bind_some, if_neg (by simp), if_neg (by omega), if_neg (by omega)]
theorem rword_ev (l : Bs) (hl : l.length ≤ 140737488351232) : Ev (fun k => culetref13_word.f k (mk l)) (wordB l) := by
  cases l with
  | nil =>
    refine Ev.step (f := fun _ => some false) (fun k => ?_) (Ev.now _)
    show culetref13_word.l0 (k + 1) (mk []) 0 = _
    simp only [culetref13_word.l0]; rw [if_neg (by rw [mk_size]; simp), decide_eq_false (by rw [mk_size]; simp)]
  | cons c t =>
    have ih := rword_l (c :: t) hl (by simp) t.length 1 (by rw [List.length_cons]; omega) (Nat.le_refl _)
    have g1 : (0 : Int) < ((mk (c :: t)).size : Int) := by rw [mk_size, List.length_cons]; omega
    have hw : wrap64 ((0 : Int) + 1) = ((1 : Nat) : Int) := by rw [wrap_id (by decide) (by decide)]; rfl
    rw [wordB]
    cases hL : isL c with
    | true =>
      rw [Bool.true_and]
      refine Ev.step (fun k => ?_) ih
      show culetref13_word.l0 (k + 1) (mk (c :: t)) 0 = _
      simp only [culetref13_word.l0]; rw [if_pos g1, if_pos (by omega), bt_head, rletter_ev, hL, hw]; rfl
    | false =>
      rw [Bool.false_and]
      refine Ev.step (f := fun _ => some false) (fun k => ?_) (Ev.now _)
      show culetref13_word.l0 (k + 1) (mk (c :: t)) 0 = _
      simp only [culetref13_word.l0]; rw [if_pos g1, if_pos (by omega), bt_head, rletter_ev, hL, Option.bind_some, if_neg (by simp), if_pos trivial]
theorem rname_ev (l : Bs) (hl : l.length ≤ 140737488351232) : Ev (fun k => culetref13_IsName.f k (mk l)) (nameB l) := by
  refine Ev.congr (fun k => by unfold culetref13_IsName.f; rfl) (Ev.bind (rword_ev l hl) ?_)
  unfold nameB
  cases wordB l with
  | false => simpa using Ev.now false
  | true =>
    by_cases h30 : l.length ≤ 30
    · rw [decide_eq_true h30]
      refine Ev.congr (fun k => by rw [if_pos rfl, if_pos (by rw [mk_size]; omega)]) (Ev.bind (rres_ev l) ?_)
      simpa using Ev.now _
    · rw [decide_eq_false h30]
      refine Ev.congr (f := fun _ => some false) (fun k => by rw [if_pos rfl, if_neg (by rw [mk_size]; omega)]) (by simpa using Ev.now false)

/-! ### values -/
def valR (fr : Nat) (acc : Int) (d : Bs) : Int × Bool := if d.all isD = true then (if fr = 1 then (- decV acc d, true) else (decV acc d, true)) else (0, false)
theorem rval_l (l : Bs) (hl : l.length ≤ 100000) (fr : Nat) (hfr : fr ≤ 1) : ∀ (d i : Nat) (acc : Int), i + d = l.length → d ≤ 7 → 0 ≤ acc → acc < ((10 ^ (7 - d) : Nat) : Int) →
    Ev (fun k => culetref13_Value.l0 k (mk l) (fr : Int) acc (i : Int)) (valR fr acc (l.drop i))
  | 0, i, acc, h, hd, h0, h1 => by
    obtain rfl : i = l.length := by omega
    have hb : ((10 ^ (7 - 0) : Nat) : Int) = 10000000 := by decide
    rw [hb] at h1
    refine Ev.step (f := fun _ => some (if fr = 1 then (-acc, true) else (acc, true))) (fun k => ?_) (by simpa [valR, decV] using Ev.now _)
    simp only [culetref13_Value.l0]; rw [if_neg (by rw [mk_size]; omega)]
    by_cases hf : fr = 1
    · rw [if_pos (by omega), if_pos hf, wrap_id (by omega) (by omega)]
    · rw [if_neg (by omega), if_neg hf]
  | d + 1, i, acc, h, hd, h0, h1 => by
    have hi : i < l.length := by omega
    have hb := bt_mk l i hi
    have hpow : (10 ^ (7 - d) : Nat) = 10 * 10 ^ (7 - (d + 1)) := by rw [show 7 - d = (7 - (d + 1)) + 1 by omega, Nat.pow_succ]; omega
    have htop : (10 ^ (7 - (d + 1)) : Nat) ≤ 10 ^ 7 := Nat.pow_le_pow_right (by decide) (by omega)
    have e7 : (10 ^ 7 : Nat) = 10000000 := by decide
    have ih := rval_l l hl fr hfr d (i + 1)
    rw [List.drop_eq_getElem_cons hi]
    generalize l[i] = c at hb ⊢
    generalize (10 ^ (7 - (d + 1)) : Nat) = P at *
    rw [hpow] at ih
    rw [e7] at htop
    have g0 : (0 : Int) ≤ (i : Int) := by omega
    have g1 : (i : Int) < ((mk l).size : Int) := by rw [mk_size]; omega
    cases hD : isD c with
    | true =>
      have hc := of_decide_eq_true hD
      have w0 : wrap64 (10 * acc) = 10 * acc := wrap_id (by omega) (by omega)
      have w1 : wrap64 (10 * acc + ((c.toNat : Int) - 48) % 256) = 10 * acc + ((c.toNat : Int) - 48) := by rw [wrap_id (by omega) (by omega)]; omega
      have w2 : wrap64 ((i : Int) + 1) = ((i + 1 : Nat) : Int) := wrap_nat (by omega)
      have ihh := ih (10 * acc + ((c.toNat : Int) - 48)) (by omega) (by omega) (by omega) (by omega)
      have hv : valR fr acc (c :: l.drop (i + 1)) = valR fr (10 * acc + ((c.toNat : Int) - 48)) (l.drop (i + 1)) := by
        unfold valR; rw [List.all_cons, hD, Bool.true_and]; rfl
      rw [hv]
      refine Ev.step (fun k => ?_) ihh
      simp only [culetref13_Value.l0]; rw [if_pos g1, if_pos g0, hb, rdigit_ev, hD, w0, w1, w2]; rfl
    | false =>
      have hv : valR fr acc (c :: l.drop (i + 1)) = (0, false) := by unfold valR; rw [List.all_cons, hD]; rfl
      rw [hv]
      refine Ev.step (f := fun _ => some (0, false)) (fun k => ?_) (Ev.now _)
      simp only [culetref13_Value.l0]; rw [if_pos g1, if_pos g0, hb, rdigit_ev, hD]; rfl
def valOut (l : Bs) : Int × Bool := if okV l = true then (valV l, true) else (0, false)
theorem rval_j1 (l : Bs) (hl : l.length ≤ 100000) (fr : Nat) (hfr : fr ≤ 1) (hd : digL l = l.drop fr) (hf1 : fr = 1 ↔ l.head? = some 45) (hlen : fr + (digL l).length = l.length) :
    Ev (fun k => culetref13_Value.j1 k (mk l) (fr : Int)) (valOut l) := by
  have w : wrap64 (((mk l).size : Int) - (fr : Int)) = ((digL l).length : Int) := by rw [mk_size, wrap_id (by omega) (by omega)]; omega
  have bad : okV l = false → Ev (fun k => culetref13_Value.j2 k (mk l) (fr : Int) true) (valOut l) := fun h => by
    unfold valOut; rw [h]
    exact Ev.step (f := fun _ => some (0, false)) (fun k => by simp only [culetref13_Value.j2]; rw [if_pos trivial]) (Ev.now _)
  by_cases h1 : (digL l).length < 1
  · refine Ev.step (fun k => ?_) (bad (by unfold okV; rw [decide_eq_false (show ¬ 1 ≤ (digL l).length by omega)]; rfl))
    simp only [culetref13_Value.j1]; rw [w, if_pos (by omega)]
  · by_cases h2 : (digL l).length > 6
    · refine Ev.step (fun k => ?_) (bad (by unfold okV; rw [decide_eq_false (show ¬ (digL l).length ≤ 6 by omega)]; simp))
      simp only [culetref13_Value.j1]; rw [w, if_neg (by omega), if_pos (by omega)]
    · obtain ⟨c, t, e⟩ : ∃ c t, digL l = c :: t := by
        cases e : digL l with
        | nil => rw [e] at h1; simp at h1
        | cons c t => exact ⟨c, t, rfl⟩
      have hfl : fr < l.length := by omega
      have hb : bt (mk l) (fr : Int) = (c.toNat : Int) := by
        rw [bt_mk l fr hfl]
        have : l.drop fr = l[fr] :: l.drop (fr + 1) := List.drop_eq_getElem_cons hfl
        rw [← hd, e] at this
        rw [(List.cons.inj this).1]
      have hz : (c.toNat : Int) = 48 ↔ (digL l).head? = some 48 := by
        rw [e, List.head?_cons, Option.some.injEq, ← UInt8.toNat_inj]
        show (c.toNat : Int) = 48 ↔ c.toNat = 48
        omega
      have go : (decide ((digL l).head? = some 48) && decide (l ≠ [48])) = false → Ev (fun k => culetref13_Value.j2 k (mk l) (fr : Int) false) (valOut l) := fun hno => by
        have hok : okV l = (digL l).all isD := by
          unfold okV; rw [decide_eq_true (show 1 ≤ (digL l).length by omega), decide_eq_true (show (digL l).length ≤ 6 by omega), hno]; simp
        have hlast := rval_l l hl fr hfr (digL l).length fr 0 hlen (by omega) (by omega) (by have := Nat.pow_pos (n := 7 - (digL l).length) (show 0 < 10 by decide); omega)
        have hv : valR fr 0 (l.drop fr) = valOut l := by
          unfold valR valOut
          rw [← hd, hok]
          cases (digL l).all isD with
          | false => rfl
          | true =>
            unfold valV
            by_cases hf : fr = 1
            · rw [if_pos rfl, if_pos hf, if_pos rfl, if_pos (hf1.1 hf)]
            · rw [if_pos rfl, if_neg hf, if_pos rfl, if_neg (fun h => hf (hf1.2 h))]
        rw [hv] at hlast
        exact Ev.step (fun k => by simp only [culetref13_Value.j2]; rw [if_neg (by simp)]) hlast
      have step : ∀ b : Bool, (∀ k, culetref13_Value.j1 (k + 1) (mk l) (fr : Int) = culetref13_Value.j2 k (mk l) (fr : Int) b) → (b = (decide ((digL l).head? = some 48) && decide (l ≠ [48]))) → Ev (fun k => culetref13_Value.j1 k (mk l) (fr : Int)) (valOut l) := fun b hk hb' => by
        cases b with
        | true => exact Ev.step hk (bad (by unfold okV; rw [← hb']; simp))
        | false => exact Ev.step hk (go hb'.symm)
      have g0 : (0 : Int) ≤ (fr : Int) := by omega
      have g1 : (fr : Int) < ((mk l).size : Int) := by rw [mk_size]; omega
      by_cases h48 : (c.toNat : Int) = 48
      · by_cases hn : (digL l).length > 1
        · refine step true (fun k => ?_) ?_
          · simp only [culetref13_Value.j1]; rw [w, if_neg (by omega), if_neg (by omega), if_pos g0, if_pos g1, hb, if_pos h48, if_pos (by omega)]
          · have : l ≠ [48] := by rintro rfl; simp [digL] at hn
            rw [decide_eq_true (hz.1 h48), decide_eq_true this]; rfl
        · refine step (decide (fr = 1)) (fun k => ?_) ?_
          · simp only [culetref13_Value.j1]; rw [w, if_neg (by omega), if_neg (by omega), if_pos g0, if_pos g1, hb, if_pos h48, if_neg (by omega)]
            congr 1
            rw [Bool.eq_iff_iff, beq_iff_eq, decide_eq_true_eq]; omega
          · rw [decide_eq_true (hz.1 h48), Bool.true_and]
            apply decide_eq_decide.2
            constructor
            · intro hf hl48
              have := hf1.1 hf
              rw [hl48] at this
              exact absurd this (by decide)
            · intro hne
              by_cases hf : fr = 1
              · exact hf
              · exfalso
                have hf0 : fr = 0 := by omega
                rw [hf0, List.drop_zero] at hd
                rw [hd] at e hn hz
                rw [e] at hn
                have ht : t = [] := by cases t with
                  | nil => rfl
                  | cons _ _ => simp at hn
                rw [ht] at e
                have h0 := hz.1 h48
                rw [e, List.head?_cons] at h0
                rw [Option.some.inj h0] at e
                exact hne e
      · refine step false (fun k => ?_) ?_
        · simp only [culetref13_Value.j1]; rw [w, if_neg (by omega), if_neg (by omega), if_pos g0, if_pos g1, hb, if_neg h48]
        · rw [decide_eq_false (fun h => h48 (hz.2 h))]; rfl
theorem rval_ev (l : Bs) (hl : l.length ≤ 100000) : Ev (fun k => culetref13_Value.f k (mk l)) (valOut l) := by
  by_cases h : l.head? = some 45
  · have hd : digL l = l.drop 1 := by unfold digL; rw [if_pos h]; simp
    have hlen : 1 ≤ l.length := by cases l with
      | nil => simp at h
      | cons => simp
    obtain ⟨t, e⟩ : ∃ t, l = 45 :: t := by
      cases l with
      | nil => simp at h
      | cons c t => simp at h; exact ⟨t, by rw [h]⟩
    refine Ev.congr (f := fun k => culetref13_Value.j0 k (mk l) 0 true) (fun k => ?_) (Ev.step (fun k => ?_) (rval_j1 l hl 1 (Nat.le_refl _) hd ⟨fun _ => h, fun _ => rfl⟩ (by rw [hd, List.length_drop]; omega)))
    · unfold culetref13_Value.f
      rw [if_pos (by rw [mk_size]; omega), if_pos (by rw [mk_size]; omega), e, bt_head]; rfl
    · simp only [culetref13_Value.j0]; rw [if_pos trivial]; rfl
  · have hd : digL l = l.drop 0 := by unfold digL; rw [if_neg h]; simp
    refine Ev.congr (f := fun k => culetref13_Value.j0 k (mk l) 0 false) (fun k => ?_) (Ev.step (fun k => ?_) (rval_j1 l hl 0 (by decide) hd ⟨(fun h' => by cases h'), fun h' => absurd h' h⟩ (by rw [hd, List.length_drop]; omega)))
    · unfold culetref13_Value.f
      cases l with
      | nil => rw [if_neg (by rw [mk_size]; simp)]
      | cons c t =>
        have hc : ¬ c.toNat = 45 := fun hc => h (by rw [List.head?_cons]; congr 1; exact UInt8.toNat_inj.1 hc)
        rw [if_pos (by rw [mk_size, List.length_cons]; omega), if_pos (by rw [mk_size, List.length_cons]; omega), bt_head, show ((c.toNat : Int) == 45) = false by rw [beq_eq_false_iff_ne]; omega]
    · simp only [culetref13_Value.j0]; rw [if_neg (by simp)]; rfl
end Go.Proofs.YthjmbagkomnpgaaDoor.Plain
