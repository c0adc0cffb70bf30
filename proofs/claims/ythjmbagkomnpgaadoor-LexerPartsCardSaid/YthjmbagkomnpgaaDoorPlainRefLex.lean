/- The plain side of the laws on the lexer: the reference's Lex, on lists of bytes. -/
import Derived.Test.YthjmbagkomnpgaaDoorPlainRef
import Derived.Test.YthjmbagkomnpgaaDoorPlainLexer
import Derived.Test.YthjmbagkomnpgaaDoorLx26
import Derived.Test.YthjmbagkomnpgaaDoorMc
namespace Go.Proofs.YthjmbagkomnpgaaDoor.Plain
open Go Go.RowKit Go.Proofs.YthjmbagkomnpgaaDoor.L Go.Proofs.YthjmbagkomnpgaaDoorW.PrintWords Go.Proofs.YthjmbagkomnpgaaDoorW.PrintLast

/-! ### the reference's tokens -/
theorem len_l0 (s : Bs) (hs : s.length ≤ 100000) (p : Nat) (r : Int × Int) : ∀ (d i : Nat), i + d = s.length → Ev (fun k => culetref13_length.j1 k (mk s) (p : Int) ((i + runB isW (s.drop i) : Nat) : Int)) r → Ev (fun k => culetref13_length.l0 k (mk s) (p : Int) (i : Int)) r
  | 0, i, h, hr => by
    obtain rfl : i = s.length := by omega
    rw [List.drop_length] at hr
    refine Ev.step (fun k => ?_) hr
    simp only [culetref13_length.l0]; rw [if_neg (by rw [mk_size]; omega)]; rfl
  | d + 1, i, h, hr => by
    have hi : i < s.length := by omega
    have hb := bt_mk s i hi
    have g0 : (0 : Int) ≤ (i : Int) := by omega
    have g1 : (i : Int) < ((mk s).size : Int) := by rw [mk_size]; omega
    have ih := len_l0 s hs p r d (i + 1) (by omega)
    rw [List.drop_eq_getElem_cons hi, runB_cons] at hr
    have hw : wrap64 ((i : Int) + 1) = ((i + 1 : Nat) : Int) := wrap_nat (by omega)
    generalize s[i] = c at hb hr
    have next : isW c = true → Ev (fun k => culetref13_length.l0 k (mk s) (p : Int) ((i + 1 : Nat) : Int)) r := fun hW => by
      rw [if_pos hW, show i + (runB isW (s.drop (i + 1)) + 1) = i + 1 + runB isW (s.drop (i + 1)) by rw [Nat.add_assoc i 1, Nat.add_comm 1]] at hr
      exact ih hr
    cases hL : isL c with
    | true =>
      refine Ev.step (fun k => ?_) (next (isW_of_L hL))
      simp only [culetref13_length.l0]; rw [if_pos g1, if_pos g0, hb, rletter_ev, hL, hw]; rfl
    | false =>
      cases hD : isD c with
      | true =>
        refine Ev.step (fun k => ?_) (next (by simp [isW, hD]))
        simp only [culetref13_length.l0]; rw [if_pos g1, if_pos g0, hb, rletter_ev, hL, Option.bind_some, if_neg (by simp), rdigit_ev, hD, hw]; rfl
      | false =>
        by_cases a : (c.toNat : Int) = 45
        · refine Ev.step (fun k => ?_) (next (by have a' : c.toNat = 45 := Int.ofNat.inj a
                                                 simp [isW, a']))
          simp only [culetref13_length.l0]; rw [if_pos g1, if_pos g0, hb, rletter_ev, hL, Option.bind_some, if_neg (by simp), rdigit_ev, hD, Option.bind_some, if_neg (by simp), if_pos a, hw]
        · by_cases b : (c.toNat : Int) = 95
          · refine Ev.step (fun k => ?_) (next (by have b' : c.toNat = 95 := Int.ofNat.inj b
                                                   simp [isW, b']))
            simp only [culetref13_length.l0]; rw [if_pos g1, if_pos g0, hb, rletter_ev, hL, Option.bind_some, if_neg (by simp), rdigit_ev, hD, Option.bind_some, if_neg (by simp), if_neg a, if_pos b, hw]
          · have hW : isW c = false := by
              have a' : ¬ c.toNat = 45 := fun h => a (by rw [h]; rfl)
              have b' : ¬ c.toNat = 95 := fun h => b (by rw [h]; rfl)
              simp [isW, hL, hD, a', b']
            rw [hW, if_neg (by simp), Nat.add_zero] at hr
            refine Ev.step (fun k => ?_) hr
            simp only [culetref13_length.l0]; rw [if_pos g1, if_pos g0, hb, rletter_ev, hL, Option.bind_some, if_neg (by simp), rdigit_ev, hD, Option.bind_some, if_neg (by simp), if_neg a, if_neg b]
def numR (s : Bs) (p e : Nat) : Int × Int := if okV ((s.drop p).take (e - p)) = true then (3, ((e - p : Nat) : Int)) else (0, 0)
theorem num_end (s : Bs) (hs : s.length ≤ 100000) (p e : Nat) (hp : p ≤ e) (he : e ≤ s.length) : Ev (fun k => (culetref13_Value.f k ((mk s).extract ((p : Int)).toNat ((e : Int)).toNat)).bind fun bt159 => (if bt159.2 = true then (some ((3 : Int), wrap64 ((e : Int) - (p : Int)))) else (some (0, 0)))) (numR s p e) := by
  have w : wrap64 ((e : Int) - (p : Int)) = ((e - p : Nat) : Int) := by rw [wrap_id (by omega) (by omega)]; omega
  have hx : (mk s).extract ((p : Int)).toNat ((e : Int)).toNat = mk ((s.drop p).take (e - p)) := by rw [Int.toNat_natCast, Int.toNat_natCast, mk_extract]
  rw [hx, w]
  refine Ev.bind (rval_ev ((s.drop p).take (e - p)) (by rw [List.length_take, List.length_drop]; omega)) ?_
  unfold valOut numR
  cases okV ((s.drop p).take (e - p)) with
  | true => exact Ev.now _
  | false => exact Ev.now _
theorem len_l1 (s : Bs) (hs : s.length ≤ 100000) (p : Nat) : ∀ (d i : Nat), i + d = s.length → p ≤ i → Ev (fun k => culetref13_length.l1 k (mk s) (p : Int) (i : Int)) (numR s p (i + runB isD (s.drop i)))
  | 0, i, h, hpi => by
    obtain rfl : i = s.length := by omega
    rw [List.drop_length]
    refine Ev.step (fun k => ?_) (num_end s hs p s.length hpi (Nat.le_refl _))
    simp only [culetref13_length.l1]; rw [if_neg (by rw [mk_size]; omega), if_pos (by omega), if_pos (by omega), if_pos (by rw [mk_size]; omega)]
  | d + 1, i, h, hpi => by
    have hi : i < s.length := by omega
    have hb := bt_mk s i hi
    have g0 : (0 : Int) ≤ (i : Int) := by omega
    have g1 : (i : Int) < ((mk s).size : Int) := by rw [mk_size]; omega
    have g2 : (0 : Int) ≤ (p : Int) := by omega
    have g3 : (p : Int) ≤ (i : Int) := by omega
    have g4 : (i : Int) ≤ ((mk s).size : Int) := by omega
    have ih := len_l1 s hs p d (i + 1) (by omega) (by omega)
    have ne := num_end s hs p i hpi (by omega)
    have hw : wrap64 ((i : Int) + 1) = ((i + 1 : Nat) : Int) := wrap_nat (by omega)
    rw [List.drop_eq_getElem_cons hi, runB_cons]
    generalize s[i] = c at hb ⊢
    cases hD : isD c with
    | true =>
      rw [if_pos rfl, show i + (runB isD (s.drop (i + 1)) + 1) = i + 1 + runB isD (s.drop (i + 1)) by rw [Nat.add_assoc i 1, Nat.add_comm 1]]
      refine Ev.step (fun k => ?_) ih
      simp only [culetref13_length.l1]; rw [if_pos g1, if_pos g0, hb, rdigit_ev, hD, hw]; rfl
    | false =>
      rw [if_neg (by simp), Nat.add_zero]
      refine Ev.step (fun k => ?_) ne
      simp only [culetref13_length.l1]; rw [if_pos g1, if_pos g0, hb, rdigit_ev, hD, Option.bind_some, if_neg (by simp), if_pos g2, if_pos g3, if_pos g4]
def quoR (s : Bs) (p e : Nat) : Int × Int := if (s.drop e).head? = some 34 ∧ e ≤ p + 2001 then (4, ((e + 1 - p : Nat) : Int)) else (0, 0)
theorem len_l2 (s : Bs) (hs : s.length ≤ 100000) (p : Nat) : ∀ (d i : Nat), i + d = s.length → p < i → Ev (fun k => culetref13_length.l2 k (mk s) (p : Int) (i : Int)) (quoR s p (i + runB notQ (s.drop i)))
  | 0, i, h, hpi => by
    obtain rfl : i = s.length := by omega
    rw [List.drop_length]
    refine Ev.step (f := fun _ => some (0, 0)) (fun k => ?_) (by
      have e0 : quoR s p (s.length + runB notQ []) = (0, 0) := by
        unfold quoR; rw [if_neg]; intro hh; rw [show s.length + runB notQ [] = s.length from rfl, List.drop_length] at hh; simp at hh
      rw [e0]; exact Ev.now _)
    simp only [culetref13_length.l2]; rw [if_neg (by rw [mk_size]; omega)]
  | d + 1, i, h, hpi => by
    have hi : i < s.length := by omega
    have hb := bt_mk s i hi
    have g0 : (0 : Int) ≤ (i : Int) := by omega
    have g1 : (i : Int) < ((mk s).size : Int) := by rw [mk_size]; omega
    have ih := len_l2 s hs p d (i + 1) (by omega) (by omega)
    have hdrop := List.drop_eq_getElem_cons hi
    have ha : wrap64 (wrap64 ((i : Int) - (p : Int)) - 1) = ((i - p - 1 : Nat) : Int) := by rw [wrap_id (i := (i : Int) - (p : Int)) (by omega) (by omega), wrap_id (by omega) (by omega)]; omega
    have hb2 : wrap64 (wrap64 ((i : Int) + 1) - (p : Int)) = ((i + 1 - p : Nat) : Int) := by rw [wrap_id (i := (i : Int) + 1) (by omega) (by omega), wrap_id (by omega) (by omega)]; omega
    have le1 : (((i - p - 1 : Nat) : Int) ≤ 2000) ↔ i ≤ p + 2001 := by omega
    have hw : wrap64 ((i : Int) + 1) = ((i + 1 : Nat) : Int) := wrap_nat (by omega)
    rw [hdrop, runB_cons]
    generalize s[i] = c at hb hdrop ⊢
    cases hq : notQ c with
    | true =>
      rw [if_pos rfl, show i + (runB notQ (s.drop (i + 1)) + 1) = i + 1 + runB notQ (s.drop (i + 1)) by rw [Nat.add_assoc i 1, Nat.add_comm 1]]
      simp only [notQ, Bool.and_eq_true, decide_eq_true_eq] at hq
      have n1 : ¬ (c.toNat : Int) = 34 := fun h => hq.1 (Int.ofNat.inj h)
      have n2 : ¬ (c.toNat : Int) = 10 := fun h => hq.2 (Int.ofNat.inj h)
      refine Ev.step (fun k => ?_) ih
      simp only [culetref13_length.l2]; rw [if_pos g1, if_pos g0, hb, if_neg n1, if_neg n2, hw]
    | false =>
      rw [if_neg (by simp), Nat.add_zero]
      refine Ev.step (f := fun _ => some (quoR s p i)) (fun k => ?_) (Ev.now _)
      simp only [culetref13_length.l2]; rw [if_pos g1, if_pos g0, hb]
      unfold quoR
      rw [hdrop, List.head?_cons]
      by_cases h34 : c = 34
      · rw [if_pos (by rw [h34]; rfl), ha, hb2]
        by_cases hle : i ≤ p + 2001
        · rw [if_pos (le1.2 hle), if_pos ⟨by rw [h34], hle⟩]
        · rw [if_neg (fun h => hle (le1.1 h)), if_neg (fun h => hle h.2)]
      · have n1 : ¬ (c.toNat : Int) = 34 := fun h => h34 (UInt8.toNat_inj.1 (Int.ofNat.inj h))
        have n2 : (c.toNat : Int) = 10 := by
          simp only [notQ, Bool.and_eq_false_iff, decide_eq_false_iff_not, Decidable.not_not] at hq
          rcases hq with h | h
          · exact absurd (by rw [h]; rfl) n1
          · rw [h]; rfl
        rw [if_neg n1, if_pos n2, if_neg (fun h => h34 (Option.some.inj h.1))]
theorem tokI_word (c : UInt8) (t : Bs) (h1 : isL c = true) : tokI (c :: t) = if resB ((c :: t).take (runB isW t + 1)) = true then (2, ((runB isW t + 1 : Nat) : Int)) else if runB isW t + 1 ≤ 30 then (1, ((runB isW t + 1 : Nat) : Int)) else (0, 0) := by
  unfold tokI
  simp only [tokL]
  rw [if_pos h1]
  cases resB ((c :: t).take (runB isW t + 1)) with
  | true => rfl
  | false =>
    rw [if_neg (show ¬ (false = true) by simp), if_neg (show ¬ (false = true) by simp)]
    by_cases h30 : runB isW t + 1 ≤ 30
    · rw [if_pos h30, if_pos h30]; rfl
    · rw [if_neg h30, if_neg h30]; rfl
theorem tokI_num (c : UInt8) (t : Bs) (h1 : isL c = false) (h4 : c.toNat = 45 ∨ isD c = true) : tokI (c :: t) = if okV ((c :: t).take (runB isD t + 1)) = true then (3, ((runB isD t + 1 : Nat) : Int)) else (0, 0) := by
  have h2 : ¬ (c.toNat = 47 ∨ c.toNat = 44 ∨ c.toNat = 58) := by
    rcases h4 with h | h
    · omega
    · have := of_decide_eq_true h; omega
  have h3 : ¬ c.toNat = 34 := by
    rcases h4 with h | h
    · omega
    · have := of_decide_eq_true h; omega
  unfold tokI
  simp only [tokL]
  rw [if_neg (by simp [h1]), if_neg h2, if_neg h3, if_pos h4]
  cases okV ((c :: t).take (runB isD t + 1)) <;> rfl
theorem tokI_sym (c : UInt8) (t : Bs) (h2 : c.toNat = 47 ∨ c.toNat = 44 ∨ c.toNat = 58) : tokI (c :: t) = (5, 1) := by
  have h1 : isL c = false := by
    unfold isL; rw [Bool.or_eq_false_iff, decide_eq_false_iff_not, decide_eq_false_iff_not]; omega
  unfold tokI
  simp only [tokL]
  rw [if_neg (by simp [h1]), if_pos h2]; rfl
theorem tokI_none (c : UInt8) (t : Bs) (h1 : isL c = false) (h2 : ¬ (c.toNat = 47 ∨ c.toNat = 44 ∨ c.toNat = 58)) (h3 : ¬ c.toNat = 34) (h4 : ¬ (c.toNat = 45 ∨ isD c = true)) : tokI (c :: t) = (0, 0) := by
  unfold tokI
  simp only [tokL]
  rw [if_neg (by simp [h1]), if_neg h2, if_neg h3, if_neg h4]; rfl
theorem len_ev (s : Bs) (hs : s.length ≤ 100000) (p : Nat) (c : UInt8) (t : Bs) (hl : s.drop p = c :: t) : Ev (fun k => culetref13_length.f k (mk s) (p : Int)) (tokI (c :: t)) := by
  obtain ⟨h1, h2, h3⟩ := drop_facts hl rfl
  have hd : s.drop (p + 1) = t := by rw [← List.drop_drop, hl]; rfl
  have g0 : (0 : Int) ≤ (p : Int) := by omega
  have g1 : (p : Int) < ((mk s).size : Int) := by rw [mk_size]; omega
  have hw : wrap64 ((p : Int) + 1) = ((p + 1 : Nat) : Int) := wrap_nat (by omega)
  have hf : ∀ k, culetref13_length.f k (mk s) (p : Int) = if isL c = true then (culetref13_length.l0 k (mk s) (p : Int) ((p + 1 : Nat) : Int)) else (if (c.toNat : Int) = 45 then (culetref13_length.j2 k (mk s) (p : Int) (c.toNat : Int) ((p + 1 : Nat) : Int) true) else (culetref13_length.j2 k (mk s) (p : Int) (c.toNat : Int) ((p + 1 : Nat) : Int) (isD c))) := fun k => by
    unfold culetref13_length.f
    rw [if_pos g0, if_pos g1, h3, rletter_ev, rdigit_ev, hw]; rfl
  refine Ev.congr hf ?_
  clear hf hw
  cases hL : isL c with
  | true =>
    have hr := runB_le isW t
    refine Ev.congr (fun k => by rw [if_pos rfl]) (len_l0 s hs p _ (s.length - (p + 1)) (p + 1) (by omega) ?_)
    rw [hd, tokI_word c t hL]
    obtain ⟨n, hn⟩ : ∃ n, runB isW t = n := ⟨_, rfl⟩
    have hnm := nameB_take c t hL
    rw [hn] at hr hnm ⊢
    have hx : (mk s).extract ((p : Int)).toNat (((p + 1 + n : Nat) : Int)).toNat = mk ((c :: t).take (n + 1)) := by
      rw [Int.toNat_natCast, Int.toNat_natCast, mk_extract, hl, show p + 1 + n - p = n + 1 by omega]
    have w : wrap64 (((p + 1 + n : Nat) : Int) - (p : Int)) = ((n + 1 : Nat) : Int) := by rw [wrap_id (by omega) (by omega)]; omega
    have q1 : (p : Int) ≤ ((p + 1 + n : Nat) : Int) := by omega
    have q2 : ((p + 1 + n : Nat) : Int) ≤ ((mk s).size : Int) := by rw [mk_size]; omega
    have hlen : ((c :: t).take (n + 1)).length ≤ 140737488351232 := by rw [List.length_take, List.length_cons]; omega
    refine Ev.step (f := fun k => (culetref13_Reserved.f k (mk ((c :: t).take (n + 1)))).bind fun t155 => (if t155 = true then (some (2, ((n + 1 : Nat) : Int))) else ((culetref13_IsName.f k (mk ((c :: t).take (n + 1)))).bind fun t156 => (if t156 = true then (some (1, ((n + 1 : Nat) : Int))) else (some (0, 0)))))) (fun k => ?_) (Ev.bind (rres_ev _) ?_)
    · simp only [culetref13_length.j1]
      rw [if_pos g0, if_pos q1, if_pos q2, hx, w]
    · cases hres : resB ((c :: t).take (n + 1)) with
      | true => exact Ev.now _
      | false =>
        rw [hres] at hnm
        refine Ev.congr (fun k => by rw [if_neg (by simp)]) (Ev.bind (rname_ev _ hlen) ?_)
        rw [hnm]
        by_cases h30 : n + 1 ≤ 30
        · rw [if_pos h30, decide_eq_true h30]; exact Ev.now _
        · rw [if_neg h30, decide_eq_false h30]; exact Ev.now _
  | false =>
    have num : (c.toNat = 45 ∨ isD c = true) → Ev (fun k => culetref13_length.j2 k (mk s) (p : Int) (c.toNat : Int) ((p + 1 : Nat) : Int) true) (tokI (c :: t)) := fun h4 => by
      have := len_l1 s hs p (s.length - (p + 1)) (p + 1) (by omega) (by omega)
      rw [hd] at this
      have e : numR s p (p + 1 + runB isD t) = tokI (c :: t) := by
        rw [tokI_num c t hL h4]
        unfold numR
        rw [hl, show p + 1 + runB isD t - p = runB isD t + 1 by omega]
      rw [e] at this
      exact Ev.step (fun k => by simp only [culetref13_length.j2]; rw [if_pos trivial]) this
    by_cases a : c.toNat = 45
    · exact Ev.congr (fun k => by rw [if_neg (by simp), if_pos (by omega)]) (num (.inl a))
    · refine Ev.congr (fun k => by rw [if_neg (by simp), if_neg (by omega)]) ?_
      cases hD : isD c with
      | true => exact num (.inr hD)
      | false =>
        by_cases a4 : c.toNat = 34
        · have := len_l2 s hs p (s.length - (p + 1)) (p + 1) (by omega) (by omega)
          rw [hd] at this
          obtain rfl : c = 34 := UInt8.toNat_inj.1 a4
          have e : quoR s p (p + 1 + runB notQ t) = tokI (34 :: t) := by
            rw [quote_tk t]
            unfold quoR
            rw [← List.drop_drop, hd, show p + 1 + runB notQ t + 1 - p = runB notQ t + 2 by omega]
            by_cases hh : (t.drop (runB notQ t)).head? = some 34 ∧ runB notQ t ≤ 2000
            · rw [if_pos hh, if_pos ⟨hh.1, by omega⟩]
            · rw [if_neg hh, if_neg (fun h => hh ⟨h.1, by omega⟩)]
          rw [e] at this
          refine Ev.step (fun k => ?_) this
          simp only [culetref13_length.j2]; rw [if_neg (by simp), if_pos (by decide)]
        · have n4 : ¬ (c.toNat : Int) = 34 := by omega
          by_cases h2' : c.toNat = 47 ∨ c.toNat = 44 ∨ c.toNat = 58
          · rw [tokI_sym c t h2']
            refine Ev.step (f := fun _ => some (5, 1)) (fun k => ?_) (Ev.now _)
            simp only [culetref13_length.j2]; rw [if_neg (by simp), if_neg n4]
            by_cases b1 : c.toNat = 47
            · rw [if_pos (by omega)]
            · by_cases b2 : c.toNat = 44
              · rw [if_neg (by omega), if_pos (by omega)]
              · rw [if_neg (by omega), if_neg (by omega), if_pos (by omega)]
          · rw [tokI_none c t hL h2' a4 (fun h => h.elim a (fun h => by rw [hD] at h; cases h))]
            refine Ev.step (f := fun _ => some (0, 0)) (fun k => ?_) (Ev.now _)
            simp only [culetref13_length.j2]; rw [if_neg (by simp), if_neg n4, if_neg (by omega), if_neg (by omega), if_neg (by omega)]
end Go.Proofs.YthjmbagkomnpgaaDoor.Plain
