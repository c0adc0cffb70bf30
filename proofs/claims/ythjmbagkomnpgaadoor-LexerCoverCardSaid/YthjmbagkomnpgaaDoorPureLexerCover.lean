/- The sources of the tokens of a text stand in it, in order, with their lines; between them there are only blanks and comments: the plain law. -/
import Derived.Test.YthjmbagkomnpgaaDoorPlainAwake
import Derived.Test.YthjmbagkomnpgaaDoorLx34
namespace Go.Proofs.YthjmbagkomnpgaaDoor.Pure
open Go Go.RowKit Go.Proofs.YthjmbagkomnpgaaDoor.L Go.Proofs.YthjmbagkomnpgaaDoorW.PrintWords Go.Proofs.YthjmbagkomnpgaaDoorW.PrintLast Go.Proofs.YthjmbagkomnpgaaDoor.Plain

/-! ### blank -/
def endB : Option Bool → Bool → Bool
  | none, _ => false
  | some b, e => !b || e
theorem fold_none : ∀ l : Bs, l.foldl stepC none = none
  | [] => rfl
  | _ :: t => by rw [List.foldl_cons]; exact fold_none t
theorem blank_l (s : Bs) (hs : s.length ≤ 100000) (e : Bool) : ∀ (d i : Nat), i + d = s.length →
    Ev (fun k => culetlaw13_blank.l0 k (mk s) e (i : Int)) (endB ((s.drop i).foldl stepC (some false)) e) ∧
    Ev (fun k => culetlaw13_blank.l1 k (mk s) e (i : Int)) (endB ((s.drop i).foldl stepC (some true)) e)
  | 0, i, h => by
    obtain rfl : i = s.length := by omega
    have n0 : ¬ ((s.length : Int) < ((mk s).size : Int)) := by rw [mk_size]; omega
    have n1 : ¬ (((s.length + 1 : Nat) : Int) < ((mk s).size : Int)) := by rw [mk_size]; omega
    have e0 : (s.length : Int) = ((mk s).size : Int) := by rw [mk_size]
    rw [List.drop_length]
    refine ⟨Ev.step (f := fun _ => some true) (fun k => ?_) (Ev.now _), ?_⟩
    · simp only [culetlaw13_blank.l0]; rw [if_neg n0]
    · cases e with
      | false =>
        refine Ev.step (f := fun _ => some false) (fun k => ?_) (Ev.now _)
        simp only [culetlaw13_blank.l1]; rw [if_neg n0, if_pos e0, if_neg (by simp)]
      | true =>
        refine Ev.step (f := fun k => culetlaw13_blank.l0 k (mk s) true ((s.length + 1 : Nat) : Int)) (fun k => ?_) (Ev.step (f := fun _ => some true) (fun k => ?_) (Ev.now _))
        · simp only [culetlaw13_blank.l1]; rw [if_neg n0, if_pos e0, wrap_nat (by omega)]; rfl
        · simp only [culetlaw13_blank.l0]; rw [if_neg n1]
  | d + 1, i, h => by
    have hi : i < s.length := by omega
    obtain ⟨ih0, ih1⟩ := blank_l s hs e d (i + 1) (by omega)
    have g0 : (0 : Int) ≤ (i : Int) := by omega
    have g1 : (i : Int) < ((mk s).size : Int) := by rw [mk_size]; omega
    have ne0 : ¬ (i : Int) = ((mk s).size : Int) := by rw [mk_size]; omega
    have hw : wrap64 ((i : Int) + 1) = ((i + 1 : Nat) : Int) := wrap_nat (by omega)
    have hb := bt_mk s i hi
    rw [List.drop_eq_getElem_cons hi]
    generalize s[i] = c at hb ⊢
    have l1 : Ev (fun k => culetlaw13_blank.l1 k (mk s) e (i : Int)) (endB ((c :: s.drop (i + 1)).foldl stepC (some true)) e) := by
      rw [List.foldl_cons]
      by_cases h10 : c.toNat = 10
      · rw [show stepC (some true) c = some false by simp [stepC, notN, h10]]
        refine Ev.step (fun k => ?_) ih0
        simp only [culetlaw13_blank.l1]; rw [if_pos g1, if_pos g0, hb, if_pos (by omega), if_neg ne0, hw]
      · rw [show stepC (some true) c = some true by simp [stepC, notN, h10]]
        refine Ev.step (fun k => ?_) ih1
        simp only [culetlaw13_blank.l1]; rw [if_pos g1, if_pos g0, hb, if_neg (by omega), hw]
    refine ⟨?_, l1⟩
    rw [List.foldl_cons]
    by_cases h35 : c.toNat = 35
    · rw [show stepC (some false) c = some true by simp [stepC, h35]]
      have hn : stepC (some true) c = some true := by simp [stepC, notN, h35]
      rw [List.foldl_cons, hn] at l1
      refine Ev.step (fun k => ?_) l1
      simp only [culetlaw13_blank.l0]; rw [if_pos g1, if_pos g0, hb, if_pos (by omega)]
    · by_cases hbl : c.toNat = 10 ∨ (c.toNat = 32 ∨ c.toNat = 9)
      · rw [show stepC (some false) c = some false by simp only [stepC]; rw [if_neg h35, if_pos hbl]]
        refine Ev.step (fun k => ?_) ih0
        simp only [culetlaw13_blank.l0]; rw [if_pos g1, if_pos g0, hb, if_neg (by omega)]
        by_cases a : c.toNat = 32
        · rw [if_pos (by omega), hw]
        · by_cases a2 : c.toNat = 9
          · rw [if_neg (by omega), if_pos (by omega), hw]
          · rw [if_neg (by omega), if_neg (by omega), if_pos (by omega), hw]
      · rw [show stepC (some false) c = none by simp only [stepC]; rw [if_neg h35, if_neg hbl], fold_none]
        refine Ev.step (f := fun _ => some false) (fun k => ?_) (Ev.now _)
        simp only [culetlaw13_blank.l0]; rw [if_pos g1, if_pos g0, hb, if_neg (by omega), if_neg (by omega), if_neg (by omega), if_neg (by omega)]
theorem blank_ev (s : Bs) (hs : s.length ≤ 100000) (e : Bool) : Ev (fun k => culetlaw13_blank.f k (mk s) e) (endB (blankS s) e) := by
  have := (blank_l s hs e s.length 0 (by omega)).1
  simpa [culetlaw13_blank.f, blankS] using this

/-! ### the law's loops -/
theorem source_mk (t : Tk) (ht : t.text.length ≤ 100000) : culetref13_Source.f (own1 t).f0 (own1 t).f1 (own1 t).f2 (own1 t).f3 = some (mk (srcL t)) := by
  have h34 : (⟨#[34]⟩ : ByteArray) = mk [34] := rfl
  show culetref13_Source.f (t.kind : Int) (mk t.text) (t.line : Int) (t.pos : Int) = _
  unfold culetref13_Source.f srcL
  by_cases h4 : t.kind = 4
  · have k4 : (t.kind : Int) = 4 := by omega
    have b1 : 1 + (mk t.text).size ≤ 9223372036854775807 := by rw [mk_size]; exact Nat.le_trans (Nat.add_le_add_left ht 1) (by decide)
    have b2 : (mk [34] ++ mk t.text).size + 1 ≤ 9223372036854775807 := by rw [mk_append, mk_size]; exact Nat.le_trans (Nat.add_le_add_right (show ([34] ++ t.text).length ≤ 100001 by simp only [List.length_append, List.length_cons, List.length_nil]; omega) 1) (by decide)
    rw [if_pos k4, if_pos h4, h34, if_pos b1, if_pos b2, mk_append, mk_append]
    simp
  · rw [if_neg (by omega), if_neg h4]
theorem rd_own (T : List Tk) (i : Nat) (hi : i < T.length) : rd_T38 (T.map own1) (i : Int) = own1 T[i] := by
  unfold rd_T38; rw [Int.toNat_natCast, List.getD_eq_getElem?_getD, List.getElem?_map, List.getElem?_eq_getElem hi]; rfl
/-- The count of line feeds up to the token. -/
theorem lines_l (s : Bs) (hs : s.length ≤ 400) (L : List S38) (n i : Int) (src : ByteArray) (t : Tk) (tp : t.pos ≤ s.length) (r : Bool) (hsrc : src.size ≤ 400) : ∀ (d a line : Nat), a + d = t.pos → line ≤ a + 1 →
    t.line = line + ((s.drop a).take (t.pos - a)).count 10 →
    Ev (fun k => culetlaw13_LexerCover.l0 k (mk s) ((t.pos + src.size : Nat) : Int) (t.line : Int) L n (wrap64 (i + 1))) r →
    Ev (fun k => culetlaw13_LexerCover.l1 k (mk s) (line : Int) src (a : Int) L n i (own1 t).f0 (own1 t).f1 (own1 t).f2 (own1 t).f3) r
  | 0, a, line, h, hl, hc, hr => by
    have e3 : (own1 t).f3 = (t.pos : Int) := rfl
    have e2 : (own1 t).f2 = (t.line : Int) := rfl
    rw [show t.pos - a = 0 by omega, List.take_zero, List.count_nil, Nat.add_zero] at hc
    refine Ev.step (fun k => ?_) hr
    simp only [culetlaw13_LexerCover.l1]
    rw [e3, e2, if_neg (by omega), if_pos (by omega), hc, wrap_id (by omega) (by omega), show (t.pos : Int) + (src.size : Int) = ((t.pos + src.size : Nat) : Int) by omega]
  | d + 1, a, line, h, hl, hc, hr => by
    have e3 : (own1 t).f3 = (t.pos : Int) := rfl
    have ha : a < s.length := by omega
    have hb := bt_mk s a ha
    have hseg : (s.drop a).take (t.pos - a) = s[a] :: (s.drop (a + 1)).take (t.pos - (a + 1)) := by
      rw [List.drop_eq_getElem_cons ha, show t.pos - a = (t.pos - (a + 1)) + 1 by omega, List.take_succ_cons]
    rw [hseg] at hc
    generalize s[a] = c at hb hc
    by_cases h10 : c.toNat = 10
    · obtain rfl : c = 10 := UInt8.toNat_inj.1 h10
      rw [List.count_cons_self] at hc
      refine Ev.step (fun k => ?_) (lines_l s hs L n i src t tp r hsrc d (a + 1) (line + 1) (by omega) (by omega) (by omega) hr)
      simp only [culetlaw13_LexerCover.l1]
      rw [e3, if_pos (by omega), if_pos (by omega), if_pos (by rw [mk_size]; omega), hb, if_pos (by rfl), wrap_nat (by omega), wrap_nat (by omega)]
    · have hne : c ≠ 10 := fun h => h10 (by rw [h]; rfl)
      rw [List.count_cons_of_ne (by simpa using hne)] at hc
      refine Ev.step (fun k => ?_) (lines_l s hs L n i src t tp r hsrc d (a + 1) line (by omega) (by omega) (by omega) hr)
      simp only [culetlaw13_LexerCover.l1]
      rw [e3, if_pos (by omega), if_pos (by omega), if_pos (by rw [mk_size]; omega), hb, if_neg (by omega), wrap_nat (by omega)]
set_option maxHeartbeats 1000000 in
theorem cover_l (s : Bs) (hs : s.length ≤ 400) (T : List Tk) (hlen : T.length ≤ 100000) : ∀ (d i a line : Nat), i + d = T.length → a ≤ s.length → line ≤ a + 1 → coverOK s a line (T.drop i) →
    Ev (fun k => culetlaw13_LexerCover.l0 k (mk s) (a : Int) (line : Int) (T.map own1) ((T.map own1).length : Int) (i : Int)) true
  | 0, i, a, line, h, ha, hl, hc => by
    obtain rfl : i = T.length := by omega
    rw [List.drop_length] at hc
    obtain ⟨_, hb⟩ := hc
    have hbe := blank_ev (s.drop a) (by rw [List.length_drop]; omega) true
    have : endB (blankS (s.drop a)) true = true := by
      cases hx : blankS (s.drop a) with
      | none => exact absurd hx hb
      | some b => simp [endB]
    rw [this] at hbe
    refine Ev.step (f := fun k => (culetlaw13_blank.f k (mk (s.drop a)) true).bind fun t225 => some t225) (fun k => ?_) (Ev.bind hbe (Ev.now _))
    simp only [culetlaw13_LexerCover.l0]
    rw [if_neg (by rw [List.length_map]; omega), if_pos (by omega), if_pos (by rw [mk_size]; omega), Int.toNat_natCast, mk_from]
  | d + 1, i, a, line, h, ha, hl, hc => by
    have hi : i < T.length := by omega
    rw [List.drop_eq_getElem_cons hi] at hc
    have hrd := rd_own T i hi
    have ih := cover_l s hs T hlen d (i + 1)
    generalize T[i] = t at hc hrd
    obtain ⟨c1, c2, c3, c4, c5, c6, c7⟩ := hc
    have hcnt := List.count_le_length (a := (10 : UInt8)) (l := (s.drop a).take (t.pos - a))
    rw [List.length_take, List.length_drop] at hcnt
    obtain ⟨m, hm⟩ : ∃ m, (srcL t).length = m := ⟨_, rfl⟩
    have htl : t.text.length ≤ 100000 := by
      have : t.text.length ≤ (srcL t).length := by unfold srcL; split <;> simp <;> omega
      omega
    have hsrc := source_mk t htl
    have ihh := ih (t.pos + m) t.line (by omega) (by omega) (by omega) (by rw [← hm]; exact c7)
    rw [hm] at c3 c4
    have hsz : (mk (srcL t)).size = m := by rw [mk_size, hm]
    have HW1 := Aside0.mk (show wrap64 ((t.pos : Int) + ((mk (srcL t)).size : Int)) = ((t.pos + m : Nat) : Int) by rw [hsz, wrap_id (by omega) (by omega)]; omega)
    have hne : ¬ (mk (srcL t)).toList = ([] : List UInt8) := by rw [mk_toList]; exact c2
    have hx : (mk s).extract t.pos (t.pos + m) = mk (srcL t) := by rw [mk_extract, show t.pos + m - t.pos = m by omega, c4]
    have hseg : (mk s).extract a t.pos = mk ((s.drop a).take (t.pos - a)) := mk_extract s a t.pos
    have hbl := blank_ev ((s.drop a).take (t.pos - a)) (by rw [List.length_take, List.length_drop]; omega) false
    rw [c5] at hbl
    have e3 : (own1 t).f3 = (t.pos : Int) := rfl
    have tp : t.pos ≤ s.length := by omega
    have hs4 : (mk (srcL t)).size ≤ 400 := by rw [hsz]; omega
    have had : a + (t.pos - a) = t.pos := by omega
    have ihh' : Ev (fun k => culetlaw13_LexerCover.l0 k (mk s) ((t.pos + (mk (srcL t)).size : Nat) : Int) (t.line : Int) (T.map own1) ((T.map own1).length : Int) (wrap64 ((i : Int) + 1))) true := by
      have hwi : wrap64 ((i : Int) + 1) = ((i + 1 : Nat) : Int) := wrap_nat (by omega)
      rw [hsz, hwi]; exact ihh
    have hL := lines_l s hs (T.map own1) ((T.map own1).length : Int) (i : Int) (mk (srcL t)) t tp true hs4 (t.pos - a) a line had hl c6 ihh'
    have hj : Ev (fun k => culetlaw13_LexerCover.j1 k (mk s) (a : Int) (line : Int) (mk (srcL t)) (T.map own1) ((T.map own1).length : Int) (i : Int) false (own1 t).f0 (own1 t).f1 (own1 t).f2 (own1 t).f3) true :=
      Ev.step (fun k => by simp only [culetlaw13_LexerCover.j1]; rw [if_neg (by simp)]) hL
    have g1 : (i : Int) < ((T.map own1).length : Int) := by rw [List.length_map]; omega
    have g0 : (0 : Int) ≤ (i : Int) := by omega
    have q1 : ¬ (t.pos : Int) < (a : Int) := by omega
    have q2 : ¬ ((t.pos + m : Nat) : Int) > ((mk s).size : Int) := by rw [mk_size]; omega
    have q3 : (0 : Int) ≤ (t.pos : Int) := by omega
    have q4 : (t.pos : Int) ≤ ((t.pos + m : Nat) : Int) := by omega
    have q5 : ((t.pos + m : Nat) : Int) ≤ ((mk s).size : Int) := by rw [mk_size]; omega
    have q6 : (0 : Int) ≤ (a : Int) := by omega
    have q7 : (a : Int) ≤ (t.pos : Int) := by omega
    have q8 : (t.pos : Int) ≤ ((mk s).size : Int) := by rw [mk_size]; omega
    have w1 : wrap64 ((t.pos : Int) + ((mk (srcL t)).size : Int)) = ((t.pos + m : Nat) : Int) := by exact HW1.out
    clear ih ihh hL c7
    refine Ev.step (f := fun k => (culetlaw13_blank.f k (mk ((s.drop a).take (t.pos - a))) false).bind fun t229 => culetlaw13_LexerCover.j1 k (mk s) (a : Int) (line : Int) (mk (srcL t)) (T.map own1) ((T.map own1).length : Int) (i : Int) (!t229) (own1 t).f0 (own1 t).f1 (own1 t).f2 (own1 t).f3) (fun k => ?_) (Ev.bind hbl hj)
    simp only [culetlaw13_LexerCover.l0]
    rw [if_pos g1, if_pos g0, if_pos g1, hrd, hsrc, Option.bind_some, e3, if_neg q1, if_neg hne, w1, if_neg q2, if_pos q3, if_pos q4, if_pos q5, Int.toNat_natCast, Int.toNat_natCast, hx, if_pos rfl, if_pos q6, if_pos q7, if_pos q8, Int.toNat_natCast, hseg]

theorem LexerCover : culetlaw13_LexerCover.Pure := by
  intro a0 _
  refine Ev.rounds ?_
  rw [mk_of a0]
  generalize a0.data.toList = s
  refine Ev.congr (fun k => by unfold culetlaw13_LexerCover.f; rfl) (Ev.bind awake_ev ?_)
  by_cases h4 : s.length ≤ 400
  · refine Ev.congr (fun k => by rw [if_pos rfl, if_neg (by rw [mk_size]; omega)]) (Ev.bind (lex_ev s (by omega)) ?_)
    cases hx : plex resB okV s 0 1 with
    | error m => exact Ev.congr (fun k => by rw [if_neg (by simp [ownR])]) (Ev.now _)
    | ok T =>
      have hT := cover_ok resB okV s s 0 1 0 1 T (by simp) (by omega) (by omega) (by simp) ⟨false, by simp [blankS], fun h => by cases h⟩ hx
      have hlen : T.length ≤ 100000 := by
        have := plex_len resB okV s 0 1 T hx; omega
      have := cover_l s h4 T hlen T.length 0 0 1 (by omega) (by omega) (by omega) (by simpa using hT)
      refine Ev.congr (fun k => ?_) this
      rw [if_pos (by simp [ownR])]
      simp only [ownR, List.nil_append]; rfl
  · exact Ev.congr (fun k => by rw [if_pos rfl, if_pos (by rw [mk_size]; omega)]) (Ev.now _)

end Go.Proofs.YthjmbagkomnpgaaDoor.Pure
