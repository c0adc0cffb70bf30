/- The plain side of the laws on the lexer: what the program's functions come to, on lists of bytes. -/
import Derived.Test.YthjmbagkomnpgaaDoorPlainLex
import Derived.Test.YthjmbagkomnpgaaDoorMa
import Derived.Test.YthjmbagkomnpgaaDoorLx15
namespace Go.Proofs.YthjmbagkomnpgaaDoor.Plain
open Go Go.RowKit Go.Proofs.YthjmbagkomnpgaaDoor.L Go.Proofs.YthjmbagkomnpgaaDoorW.PrintWords Go.Proofs.YthjmbagkomnpgaaDoorW.PrintLast

/-! ### strings as lists -/
def mk (l : Bs) : ByteArray := ⟨l.toArray⟩
theorem mk_of (s : ByteArray) : s = mk s.data.toList := by cases s; simp [mk]
theorem mk_size (l : Bs) : (mk l).size = l.length := by simp [mk, ByteArray.size]
theorem mk_data (l : Bs) : (mk l).data.toList = l := by simp [mk]
theorem mk_toList (l : Bs) : (mk l).toList = l := by rw [ByteArray.toList_eq, mk_data]
theorem mk_inj {a b : Bs} (h : mk a = mk b) : a = b := by rw [← mk_data a, h, mk_data]
theorem ext_mk (s t : ByteArray) (h : s.data.toList = t.data.toList) : s = t := by rw [mk_of s, mk_of t, h]
theorem mk_extract (l : Bs) (a b : Nat) : (mk l).extract a b = mk ((l.drop a).take (b - a)) := by
  apply ext_mk
  rw [mk_data, ByteArray.data_extract, Array.toList_extract]
  simp [mk, List.extract]
theorem mk_from (l : Bs) (a : Nat) : (mk l).extract a (mk l).size = mk (l.drop a) := by
  rw [mk_extract, mk_size, List.take_of_length_le (by simp)]
theorem mk_upto (l : Bs) (b : Nat) : (mk l).extract 0 b = mk (l.take b) := by rw [mk_extract]; simp
theorem mk_append (a b : Bs) : mk a ++ mk b = mk (a ++ b) := by
  apply ext_mk
  rw [mk_data, ByteArray.data_append]; simp [mk]
theorem bt_mk (l : Bs) (i : Nat) (h : i < l.length) : bt (mk l) (i : Int) = ((l[i]'h).toNat : Int) := by
  unfold bt
  rw [dif_pos (by rw [mk_size]; simpa using h)]
  rfl
theorem bt_head (c : UInt8) (t : Bs) : bt (mk (c :: t)) 0 = (c.toNat : Int) := bt_mk (c :: t) 0 (by simp)
theorem wrap_nat {i : Nat} (h : i ≤ 9223372036854775806) : wrap64 ((i : Int) + 1) = ((i + 1 : Nat) : Int) := by unfold wrap64; omega
theorem wrap_id {i : Int} (h0 : -9223372036854775808 ≤ i) (h : i ≤ 9223372036854775807) : wrap64 i = i := by unfold wrap64; omega

/-! ### bytes -/
theorem letter_ev (c : UInt8) : lexer_letter.f (c.toNat : Int) = some (isL c) := by
  unfold lexer_letter.f isL
  repeat' split
  all_goals (congr 1; rw [Bool.eq_iff_iff]; simp only [Bool.or_eq_true, decide_eq_true_eq, true_iff, Bool.false_eq_true, false_iff]; omega)
theorem digit_ev (c : UInt8) : lexer_digit.f (c.toNat : Int) = some (isD c) := by
  unfold lexer_digit.f isD
  repeat' split
  all_goals (congr 1; rw [Bool.eq_iff_iff]; simp only [decide_eq_true_eq, Bool.false_eq_true, false_iff]; omega)
theorem wordc_ev (c : UInt8) : lexer_wordc.f (c.toNat : Int) = some (isW c) := by
  unfold lexer_wordc.f isW
  rw [letter_ev, digit_ev]
  cases isL c with
  | true => rfl
  | false =>
    cases isD c with
    | true => rfl
    | false =>
      simp only [Option.bind_some, Bool.false_or, Bool.false_eq_true, if_false]
      by_cases h : c.toNat = 45
      · rw [if_pos (by omega)]; simp [h]
      · rw [if_neg (by omega)]; congr 1
        rw [Bool.eq_iff_iff, beq_iff_eq, Bool.or_eq_true, decide_eq_true_eq, decide_eq_true_eq]; omega
theorem notec_ev (c : UInt8) : lexer_notec.f (c.toNat : Int) = some (notN c) := by
  unfold lexer_notec.f notN
  congr 1
  rw [Bool.eq_iff_iff, bne_iff_ne, decide_eq_true_eq]; omega
theorem runB_cons (p : UInt8 → Bool) (c : UInt8) (t : Bs) : runB p (c :: t) = if p c = true then runB p t + 1 else 0 := rfl

/-! ### runs -/
theorem runw_l (l : Bs) (hl : l.length ≤ 140737488351232) : ∀ (d i : Nat), i + d = l.length → Ev (fun k => lexer_run_word.l0 k (mk l) (i : Int)) ((i + runB isW (l.drop i) : Nat) : Int)
  | 0, i, h => by
    obtain rfl : i = l.length := by omega
    refine Ev.step (f := fun _ => some ((l.length : Nat) : Int)) (fun k => ?_) (by simpa [runB] using Ev.now _)
    simp only [lexer_run_word.l0]; rw [if_neg (by rw [mk_size]; omega)]
  | d + 1, i, h => by
    have hi : i < l.length := by omega
    rw [List.drop_eq_getElem_cons hi, runB_cons]
    cases hp : isW l[i] with
    | true =>
      refine Ev.step (f := fun k => lexer_run_word.l0 k (mk l) ((i + 1 : Nat) : Int)) (fun k => ?_) (by have := runw_l l hl d (i + 1) (by omega); rw [if_pos rfl, show i + (runB isW (l.drop (i + 1)) + 1) = i + 1 + runB isW (l.drop (i + 1)) by omega]; exact this)
      simp only [lexer_run_word.l0]; rw [if_pos (by rw [mk_size]; omega), if_pos (by omega), bt_mk l i hi, wordc_ev, hp, wrap_nat (by omega)]; rfl
    | false =>
      refine Ev.step (f := fun _ => some (i : Int)) (fun k => ?_) (by rw [if_neg (by simp)]; exact Ev.now _)
      simp only [lexer_run_word.l0]; rw [if_pos (by rw [mk_size]; omega), if_pos (by omega), bt_mk l i hi, wordc_ev, hp]; rfl
theorem runw_ev (l : Bs) (hl : l.length ≤ 140737488351232) : Ev (fun k => lexer_run_word.f k (mk l)) ((runB isW l : Nat) : Int) := by
  have := runw_l l hl l.length 0 (by omega)
  simpa [lexer_run_word.f] using this
theorem rund_l (l : Bs) (hl : l.length ≤ 140737488351232) : ∀ (d i : Nat), i + d = l.length → Ev (fun k => lexer_run_digit.l0 k (mk l) (i : Int)) ((i + runB isD (l.drop i) : Nat) : Int)
  | 0, i, h => by
    obtain rfl : i = l.length := by omega
    refine Ev.step (f := fun _ => some ((l.length : Nat) : Int)) (fun k => ?_) (by simpa [runB] using Ev.now _)
    simp only [lexer_run_digit.l0]; rw [if_neg (by rw [mk_size]; omega)]
  | d + 1, i, h => by
    have hi : i < l.length := by omega
    rw [List.drop_eq_getElem_cons hi, runB_cons]
    cases hp : isD l[i] with
    | true =>
      refine Ev.step (f := fun k => lexer_run_digit.l0 k (mk l) ((i + 1 : Nat) : Int)) (fun k => ?_) (by have := rund_l l hl d (i + 1) (by omega); rw [if_pos rfl, show i + (runB isD (l.drop (i + 1)) + 1) = i + 1 + runB isD (l.drop (i + 1)) by omega]; exact this)
      simp only [lexer_run_digit.l0]; rw [if_pos (by rw [mk_size]; omega), if_pos (by omega), bt_mk l i hi, digit_ev, hp, wrap_nat (by omega)]; rfl
    | false =>
      refine Ev.step (f := fun _ => some (i : Int)) (fun k => ?_) (by rw [if_neg (by simp)]; exact Ev.now _)
      simp only [lexer_run_digit.l0]; rw [if_pos (by rw [mk_size]; omega), if_pos (by omega), bt_mk l i hi, digit_ev, hp]; rfl
theorem rund_ev (l : Bs) (hl : l.length ≤ 140737488351232) : Ev (fun k => lexer_run_digit.f k (mk l)) ((runB isD l : Nat) : Int) := by
  have := rund_l l hl l.length 0 (by omega)
  simpa [lexer_run_digit.f] using this
theorem runn_l (l : Bs) (hl : l.length ≤ 140737488351232) : ∀ (d i : Nat), i + d = l.length → Ev (fun k => lexer_run_note.l0 k (mk l) (i : Int)) ((i + runB notN (l.drop i) : Nat) : Int)
  | 0, i, h => by
    obtain rfl : i = l.length := by omega
    refine Ev.step (f := fun _ => some ((l.length : Nat) : Int)) (fun k => ?_) (by simpa [runB] using Ev.now _)
    simp only [lexer_run_note.l0]; rw [if_neg (by rw [mk_size]; omega)]
  | d + 1, i, h => by
    have hi : i < l.length := by omega
    rw [List.drop_eq_getElem_cons hi, runB_cons]
    cases hp : notN l[i] with
    | true =>
      refine Ev.step (f := fun k => lexer_run_note.l0 k (mk l) ((i + 1 : Nat) : Int)) (fun k => ?_) (by have := runn_l l hl d (i + 1) (by omega); rw [if_pos rfl, show i + (runB notN (l.drop (i + 1)) + 1) = i + 1 + runB notN (l.drop (i + 1)) by omega]; exact this)
      simp only [lexer_run_note.l0]; rw [if_pos (by rw [mk_size]; omega), if_pos (by omega), bt_mk l i hi, notec_ev, hp, wrap_nat (by omega)]; rfl
    | false =>
      refine Ev.step (f := fun _ => some (i : Int)) (fun k => ?_) (by rw [if_neg (by simp)]; exact Ev.now _)
      simp only [lexer_run_note.l0]; rw [if_pos (by rw [mk_size]; omega), if_pos (by omega), bt_mk l i hi, notec_ev, hp]; rfl
theorem runn_ev (l : Bs) (hl : l.length ≤ 140737488351232) : Ev (fun k => lexer_run_note.f k (mk l)) ((runB notN l : Nat) : Int) := by
  have := runn_l l hl l.length 0 (by omega)
  simpa [lexer_run_note.f] using this
theorem runB_eq_length (p : UInt8 → Bool) : ∀ l : Bs, runB p l = l.length ↔ l.all p = true
  | [] => by simp [runB]
  | c :: t => by
    rw [runB_cons, List.all_cons, Bool.and_eq_true, ← runB_eq_length p t, List.length_cons]
    split
    · rename_i h; simp [h]
    · rename_i h; simp [h]

/-! ### reserved words, names and values -/
def resB (l : Bs) : Bool := ([[100, 101, 115, 105, 103, 110], [111, 114, 100, 101, 114], [109, 105, 114, 114, 111, 114], [116, 105, 101, 114], [97, 110, 103, 108, 101], [97, 116], [100, 101, 112, 116, 104], [109, 101, 101, 116], [101, 100, 103, 101], [104, 101, 105, 103, 104, 116], [116, 104, 114, 111, 117, 103, 104]] : List Bs).any (fun x => decide (l = x))
theorem res_ev (l : Bs) : lexer_Reserved.f (mk l) = some (resB l) := by
  unfold lexer_Reserved.f resB
  simp only [mk_toList, List.any_cons, List.any_nil, Bool.or_false]
  repeat' split
  all_goals simp_all
def nameB (l : Bs) : Bool := wordB l && decide (l.length ≤ 30) && !resB l
theorem isW_of_L {c : UInt8} (h : isL c = true) : isW c = true := by unfold isW; rw [h]; rfl
def wl : Bs → Int
  | [] => 0
  | c :: t => if isL c = true then ((runB isW t + 1 : Nat) : Int) else 0
theorem wl_cons (c : UInt8) (t : Bs) : wl (c :: t) = if isL c = true then ((runB isW t + 1 : Nat) : Int) else 0 := rfl
theorem word_ev (l : Bs) (hl : l.length ≤ 140737488351232) : Ev (fun k => lexer_word.f k (mk l)) (wl l) := by
  cases l with
  | nil => exact Ev.congr (fun k => by unfold lexer_word.f; rw [mk_toList, if_pos rfl]) (Ev.now 0)
  | cons c t =>
    have hs : ∀ k, lexer_word.f k (mk (c :: t)) = (if isL c = true then ((lexer_run_word.f k (mk (c :: t))).bind fun t110 => some t110) else some 0) := fun k => by
      unfold lexer_word.f
      rw [mk_toList, if_neg (by simp), if_pos (by rw [mk_size]; simp), bt_head, letter_ev]; rfl
    refine Ev.congr hs ?_
    rw [wl_cons]
    cases h : isL c with
    | true =>
      have := Ev.bind (f := fun _ t => some t) (runw_ev (c :: t) hl) (Ev.now _)
      rw [runB_cons, if_pos (isW_of_L h)] at this
      simpa using this
    | false => simpa using Ev.now (0 : Int)
theorem wordB_eq (c : UInt8) (t : Bs) : wordB (c :: t) = (isL c && decide (runB isW t + 1 = (c :: t).length)) := by
  have h : t.all isW = decide (runB isW t + 1 = (c :: t).length) := by
    rw [Bool.eq_iff_iff, decide_eq_true_eq, List.length_cons, ← runB_eq_length]; omega
  rw [wordB, h]
theorem name_ev (l : Bs) (hl : l.length ≤ 140737488351232) : Ev (fun k => lexer_IsName.f k (mk l)) (nameB l) := by
  cases l with
  | nil => exact Ev.congr (f := fun _ => some false) (fun k => by unfold lexer_IsName.f; rw [mk_toList, if_pos rfl]) (Ev.now _)
  | cons c t =>
    unfold nameB
    by_cases h30 : (c :: t).length ≤ 30
    · refine Ev.congr (fun k => by unfold lexer_IsName.f; rw [mk_toList, if_neg (by simp), if_pos (by rw [mk_size]; omega), mk_size, res_ev]) (Ev.bind (word_ev (c :: t) hl) ?_)
      rw [decide_eq_true h30, wordB_eq, Bool.and_true, wl_cons]
      cases h : isL c with
      | false =>
        rw [if_neg (show ¬ (false = true) by simp), if_neg (by rw [List.length_cons]; omega), Bool.false_and]
        exact Ev.now _
      | true =>
        simp only [if_true, Bool.true_and]
        by_cases hr : runB isW t + 1 = (c :: t).length
        · refine Ev.congr (f := fun _ => some (!resB (c :: t))) (fun k => ?_) (by rw [decide_eq_true hr, Bool.true_and]; exact Ev.now _)
          rw [if_pos (by omega)]; rfl
        · refine Ev.congr (f := fun _ => some false) (fun k => ?_) (by rw [decide_eq_false hr, Bool.false_and]; exact Ev.now _)
          rw [if_neg (by omega)]
    · refine Ev.congr (f := fun _ => some false) (fun k => by unfold lexer_IsName.f; rw [mk_toList, if_neg (by simp), if_neg (by rw [mk_size]; omega)]) ?_
      rw [decide_eq_false h30]; simpa using Ev.now false
theorem trim_ev (l : Bs) : strings_TrimPrefix.f (mk l) (⟨#[45]⟩ : ByteArray) = some (mk (digL l)) := by
  have h1 : (⟨#[45]⟩ : ByteArray) = mk [45] := rfl
  have hp : stringslite_HasPrefix.f (mk l) (mk [45]) = some (decide (l.head? = some 45)) := by
    unfold stringslite_HasPrefix.f
    rw [mk_size, mk_size]
    cases l with
    | nil => simp
    | cons c t =>
      rw [if_pos (by simp only [List.length_cons, List.length_nil]; omega), if_pos (by simp), if_pos (by simp only [List.length_cons, List.length_nil]; omega), mk_upto, mk_toList, mk_toList]
      congr 1
      rw [Bool.eq_iff_iff, beq_iff_eq, decide_eq_true_eq]; simp
  unfold strings_TrimPrefix.f stringslite_TrimPrefix.f
  rw [h1, hp]
  unfold digL
  simp only [Option.bind_some]
  by_cases h : l.head? = some 45
  · have hlen : 1 ≤ l.length := by cases l with
      | nil => simp at h
      | cons => simp
    rw [decide_eq_true h, if_pos rfl, if_pos (by omega), if_pos (by rw [mk_size, mk_size]; simp; omega), if_pos h, mk_from]
    simp [mk_size]
  · rw [decide_eq_false h, if_neg (by simp), if_neg h]; rfl
theorem value_ev (l : Bs) (hl : l.length ≤ 140737488351232) : Ev (fun k => lexer_Value.f k (mk l)) (if okV l = true then (valV l, true) else (0, false)) := by
  have hd : (digL l).length ≤ l.length := by unfold digL; split <;> simp
  by_cases h1 : digL l = []
  · refine Ev.congr (f := fun _ => some (0, false)) (fun k => ?_) (by simpa [okV, h1] using Ev.now _)
    unfold lexer_Value.f; rw [trim_ev, Option.bind_some, mk_toList, if_pos h1]
  · have hlen : 1 ≤ (digL l).length := by rw [Nat.one_le_iff_ne_zero]; simpa using h1
    by_cases h2 : (digL l).length > 6
    · refine Ev.congr (f := fun _ => some (0, false)) (fun k => ?_) (by
        have h6 : ¬ (digL l).length ≤ 6 := by omega
        simpa [okV, h6] using Ev.now ((0 : Int), false))
      unfold lexer_Value.f; rw [trim_ev, Option.bind_some, mk_toList, if_neg h1, if_pos (by rw [mk_size]; omega)]
    · refine Ev.congr (fun k => by unfold lexer_Value.f; rw [trim_ev, Option.bind_some, mk_toList, if_neg h1, if_neg (by rw [mk_size]; omega), mk_size, mk_toList]) (Ev.bind (rund_ev (digL l) (by omega)) ?_)
      by_cases h3 : runB isD (digL l) = (digL l).length
      · rw [if_pos (by omega), if_pos (by omega)]
        have h3' := (runB_eq_length isD (digL l)).1 h3
        have hat : okV l = true → strconv_Atoi.f (mk l) = some (valV l, none) := fun h => by
          have hl6 : l.length ≤ 7 := by unfold digL at h2; split at h2 <;> simp at h2 <;> omega
          unfold strconv_Atoi.f
          rw [if_pos (by rw [mk_size]; omega), mk_data, atoi_ok l h]; rfl
        have h48 : bt (mk (digL l)) 0 = 48 ↔ (digL l).head? = some 48 := by
          obtain ⟨c, t, e⟩ : ∃ c t, digL l = c :: t := by
            cases e : digL l with
            | nil => exact absurd e h1
            | cons c t => exact ⟨c, t, rfl⟩
          rw [e, bt_head]
          simp only [List.head?_cons, Option.some.injEq]
          rw [← UInt8.toNat_inj]
          show (c.toNat : Int) = 48 ↔ c.toNat = 48
          omega
        have hok : okV l = !(decide ((digL l).head? = some 48) && decide (l ≠ [48])) := by
          unfold okV
          rw [decide_eq_true hlen, decide_eq_true (show (digL l).length ≤ 6 by omega), h3']; rfl
        by_cases h4 : (digL l).head? = some 48
        · rw [if_pos (h48.2 h4)]
          by_cases h5 : l = [48]
          · have ho : okV l = true := by rw [hok, decide_eq_false (show ¬ l ≠ [48] by simpa using h5), Bool.and_false]; rfl
            rw [if_pos h5, hat ho, if_pos ho]; exact Ev.now _
          · have ho : okV l = false := by rw [hok, decide_eq_true h4, decide_eq_true h5]; rfl
            rw [if_neg h5, if_neg (by simp [ho])]; exact Ev.now _
        · have ho : okV l = true := by rw [hok, decide_eq_false h4]; rfl
          rw [if_neg (fun h => h4 (h48.1 h)), hat ho, if_pos ho]; exact Ev.now _
      · have ho : okV l = false := by
          unfold okV
          rw [show (digL l).all isD = false by rw [Bool.eq_false_iff]; exact fun h => h3 ((runB_eq_length isD (digL l)).2 h)]
          simp
        rw [if_neg (by omega), if_neg (by simp [ho])]; exact Ev.now _

/-! ### tokens -/
def tokI (l : Bs) : Int × Int := (((tokL resB okV l).1 : Int), ((tokL resB okV l).2 : Int))
theorem nameB_take (c : UInt8) (t : Bs) (h : isL c = true) : nameB ((c :: t).take (runB isW t + 1)) = (decide (runB isW t + 1 ≤ 30) && !resB ((c :: t).take (runB isW t + 1))) := by
  have hw : wordB ((c :: t).take (runB isW t + 1)) = true := by
    rw [List.take_succ_cons, wordB, h, Bool.true_and, List.all_eq_true]
    exact fun x hx => runB_all isW t x hx
  have hlen : ((c :: t).take (runB isW t + 1)).length = runB isW t + 1 := by
    have := runB_le isW t
    rw [List.length_take, List.length_cons]; omega
  unfold nameB
  rw [hw, hlen, Bool.true_and]
theorem token_num (c : UInt8) (t : Bs) (hl : (c :: t).length ≤ 100000) (h1 : isL c = false) (h2 : ¬ (c.toNat = 47 ∨ c.toNat = 44 ∨ c.toNat = 58)) (h3 : ¬ c.toNat = 34) (b : Bool) (hb : b = false) :
    Ev (fun k => lexer_token.j0 k (mk (c :: t)) (c.toNat : Int) b) (tokI (c :: t)) := by
  subst hb
  have hlc : (c :: t).length = t.length + 1 := List.length_cons
  have hr := runB_le isD t
  have key : ∀ sg r : Nat, digL (c :: t) = (c :: t).drop sg → sg + (digL (c :: t)).length = (c :: t).length → runB isD (digL (c :: t)) = r → sg + r ≤ (c :: t).length →
      (if okV ((c :: t).take (sg + r)) = true then ((3 : Int), ((sg + r : Nat) : Int)) else (0, 0)) = tokI (c :: t) → Ev (fun k => lexer_token.j0 k (mk (c :: t)) (c.toNat : Int) false) (tokI (c :: t)) := by
    intro sg r e1 e2 e3 e4 e5
    have w1 : wrap64 (((c :: t).length : Int) - ((digL (c :: t)).length : Int)) = (sg : Int) := by rw [wrap_id (by omega) (by omega)]; omega
    have w2 : wrap64 ((sg : Int) + (r : Int)) = ((sg + r : Nat) : Int) := by rw [wrap_id (by omega) (by omega)]; omega
    refine Ev.step (f := fun k => (lexer_run_digit.f k (mk (digL (c :: t)))).bind fun t118 => (if 0 ≤ (wrap64 ((sg : Int) + t118)) then (if (wrap64 ((sg : Int) + t118)) ≤ ((c :: t).length : Int) then ((lexer_Value.f k ((mk (c :: t)).extract 0 ((wrap64 ((sg : Int) + t118)) : Int).toNat)).bind fun bt119 => (if bt119.2 = true then (some ((3 : Int), wrap64 ((sg : Int) + t118))) else (some (0, 0)))) else (none)) else (none))) (fun k => ?_) ?_
    · simp only [lexer_token.j0]
      rw [if_neg (by simp), if_neg (by omega), trim_ev]
      simp only [Option.bind_some, mk_size, w1]
      rw [if_pos (by omega), if_pos (by omega), Int.toNat_natCast, mk_extract, List.take_of_length_le (by simp), ← e1]
    · refine Ev.bind (rund_ev _ (by omega)) ?_
      rw [e3, w2]
      refine Ev.congr (fun k => by rw [if_pos (by omega), if_pos (by omega), Int.toNat_natCast, mk_upto]) (Ev.bind (value_ev _ (by rw [List.length_take]; omega)) ?_)
      rw [← e5]
      cases okV ((c :: t).take (sg + r)) with
      | true => exact Ev.now _
      | false => exact Ev.now _
  have tk : tokI (c :: t) = if c.toNat = 45 ∨ isD c = true then (if okV ((c :: t).take (runB isD t + 1)) = true then (3, ((runB isD t + 1 : Nat) : Int)) else (0, 0)) else (0, 0) := by
    unfold tokI
    simp only [tokL]
    rw [if_neg (by simp [h1]), if_neg h2, if_neg h3]
    by_cases h4 : c.toNat = 45 ∨ isD c = true
    · rw [if_pos h4, if_pos h4]
      cases okV ((c :: t).take (runB isD t + 1)) <;> rfl
    · rw [if_neg h4, if_neg h4]; rfl
  by_cases h45 : c = 45
  · subst h45
    have ed : digL ((45 : UInt8) :: t) = t := by simp [digL]
    refine key 1 (runB isD t) (by rw [ed]; rfl) (by rw [ed]; omega) (by rw [ed]) (by omega) ?_
    rw [tk, if_pos (show (45 : UInt8).toNat = 45 ∨ isD 45 = true from .inl (by decide)), Nat.add_comm 1]
  · have ed : digL (c :: t) = c :: t := by simp [digL, h45]
    have n45 : ¬ c.toNat = 45 := fun h => h45 (UInt8.toNat_inj.1 h)
    by_cases hD : isD c = true
    · refine key 0 (runB isD t + 1) (by rw [ed]; rfl) (by rw [ed]; omega) (by rw [ed, runB_cons, if_pos hD]) (by omega) ?_
      rw [tk, if_pos (show c.toNat = 45 ∨ isD c = true from .inr hD), Nat.zero_add]
    · refine key 0 0 (by rw [ed]; rfl) (by rw [ed]; omega) (by rw [ed, runB_cons, if_neg hD]) (by omega) ?_
      rw [tk, if_neg (show ¬ (c.toNat = 45 ∨ isD c = true) from fun h => h.elim n45 hD)]; rfl
theorem quote_ix (t : Bs) (hb : (mk t).size < 4294967281) : strings_IndexAny.f ((mk (34 :: t)).extract 1 (mk (34 :: t)).size) (⟨#[34, 10]⟩ : ByteArray) = some (if runB notQ t < t.length then (runB notQ t : Int) else -1) := by
  rw [mk_from, List.drop_succ_cons, List.drop_zero]
  unfold strings_IndexAny.f
  rw [if_pos (And.intro rfl hb), mk_data, indexAny_run]
theorem quote_tk (t : Bs) : tokI (34 :: t) = if (t.drop (runB notQ t)).head? = some 34 ∧ runB notQ t ≤ 2000 then (4, ((runB notQ t + 2 : Nat) : Int)) else (0, 0) := by
  unfold tokI
  simp only [tokL]
  rw [if_neg (show ¬ isL 34 = true by decide), if_neg (show ¬ ((34 : UInt8).toNat = 47 ∨ (34 : UInt8).toNat = 44 ∨ (34 : UInt8).toNat = 58) by decide), if_pos (show (34 : UInt8).toNat = 34 from rfl)]
  by_cases h4 : (t.drop (runB notQ t)).head? = some 34 ∧ runB notQ t ≤ 2000
  · rw [if_pos h4, if_pos h4]; rfl
  · rw [if_neg h4, if_neg h4]; rfl
theorem quote_bt (t : Bs) (n : Nat) (hn : n < t.length) : bt (mk (34 :: t)) ((n + 1 : Nat) : Int) = ((t[n]'hn).toNat : Int) := by rw [bt_mk _ _ (by rw [List.length_cons]; omega)]; rfl
theorem quote_hit (t : Bs) (k n : Nat) (hn : n < t.length) (hlt : t.length ≤ 100000) (hix : strings_IndexAny.f ((mk (34 :: t)).extract 1 (mk (34 :: t)).size) (⟨#[34, 10]⟩ : ByteArray) = some (n : Int)) :
    lexer_token.j0 (k + 1) (mk (34 :: t)) ((34 : UInt8).toNat : Int) false = if ((t[n]'hn).toNat : Int) = 34 then (if (n : Int) > 2000 then some (0, 0) else some (4, ((n + 2 : Nat) : Int))) else some (0, 0) := by
  have hb := quote_bt t n hn
  have hs : (mk (34 :: t)).size = t.length + 1 := by rw [mk_size]; rfl
  have h1 : wrap64 (1 + (n : Int)) = ((n + 1 : Nat) : Int) := by rw [wrap_id (by omega) (by omega)]; omega
  have h2 : wrap64 ((n : Int) + 2) = ((n + 2 : Nat) : Int) := by rw [wrap_id (by omega) (by omega)]; omega
  simp only [lexer_token.j0]
  rw [if_neg (by simp), if_pos (by decide), if_pos (by omega)]
  rw [hix]
  rw [Option.bind_some, if_neg (by omega), h1, if_pos (by omega), if_pos (by omega), hb, h2]
theorem token_quote (c : UInt8) (t : Bs) (hl : (c :: t).length ≤ 100000) (h3 : c.toNat = 34) (b : Bool) (hb : b = false) :
    Ev (fun k => lexer_token.j0 k (mk (c :: t)) (c.toNat : Int) b) (tokI (c :: t)) := by
  subst hb
  obtain rfl : c = 34 := UInt8.toNat_inj.1 h3
  have hlc : ((34 : UInt8) :: t).length = t.length + 1 := List.length_cons
  have hr := runB_le notQ t
  have tk := quote_tk t
  have hix := quote_ix t (by rw [mk_size]; omega)
  by_cases hn : runB notQ t < t.length
  · have hh : (t.drop (runB notQ t)).head? = some (t[runB notQ t]'hn) := by rw [List.drop_eq_getElem_cons hn]; rfl
    rw [if_pos hn] at hix
    refine Ev.step (f := fun _ => some (tokI (34 :: t))) (fun k => ?_) (Ev.now _)
    rw [quote_hit t k _ hn (by omega) hix, tk, hh]
    by_cases h34 : t[runB notQ t]'hn = 34
    · have e34 : ((t[runB notQ t]'hn).toNat : Int) = 34 := by rw [h34]; decide
      rw [if_pos e34]
      by_cases h2 : runB notQ t ≤ 2000
      · rw [if_neg (by omega), if_pos ⟨by rw [h34], h2⟩]
      · rw [if_pos (by omega), if_neg (fun h => h2 h.2)]
    · have : ¬ ((t[runB notQ t]'hn).toNat : Int) = 34 := fun h => h34 (UInt8.toNat_inj.1 (Int.ofNat.inj h))
      rw [if_neg this, if_neg (fun h => h34 (Option.some.inj h.1))]
  · rw [if_neg hn] at hix
    refine Ev.step (f := fun _ => some (tokI (34 :: t))) (fun k => ?_) (Ev.now _)
    simp only [lexer_token.j0]
    rw [if_neg (by simp), if_pos (by decide), if_pos (by rw [mk_size]; omega), hix]
    rw [Option.bind_some, if_pos (by omega), tk, List.drop_of_length_le (by omega), if_neg (by simp)]
theorem token_ev (c : UInt8) (t : Bs) (hl : (c :: t).length ≤ 100000) : Ev (fun k => lexer_token.f k (mk (c :: t))) (tokI (c :: t)) := by
  have hlc : (c :: t).length = t.length + 1 := List.length_cons
  refine Ev.congr (fun k => by unfold lexer_token.f; rfl) (Ev.bind (word_ev (c :: t) (by omega)) ?_)
  rw [wl_cons]
  by_cases h1 : isL c = true
  · rw [if_pos h1]
    have hr := runB_le isW t
    have tk : tokI (c :: t) = if resB ((c :: t).take (runB isW t + 1)) = true then (2, ((runB isW t + 1 : Nat) : Int)) else if runB isW t + 1 ≤ 30 then (1, ((runB isW t + 1 : Nat) : Int)) else (0, 0) := by
      unfold tokI
      simp only [tokL]
      rw [if_pos h1]
      cases resB ((c :: t).take (runB isW t + 1)) with
      | true => rfl
      | false =>
        rw [if_neg (show ¬ (false = true) by simp), if_neg (show ¬ (false = true) by simp)]
        by_cases h30 : runB isW t + 1 ≤ 30
        · rw [if_pos h30, if_pos h30]; rfl
        · rw [if_neg h30, if_neg h30]; rfl
    rw [tk]
    refine Ev.congr (fun k => by rw [if_pos (by omega), if_pos (by omega), if_pos (by rw [mk_size]; omega), Int.toNat_natCast, mk_upto, res_ev, Option.bind_some]) ?_
    cases hres : resB ((c :: t).take (runB isW t + 1)) with
    | true => exact Ev.now _
    | false =>
      rw [if_neg (show ¬ (false = true) by simp)]
      have hnm := nameB_take c t h1
      rw [hres] at hnm
      refine Ev.congr (fun k => by rw [if_neg (show ¬ (false = true) by simp)]) (Ev.bind (name_ev _ (by rw [List.length_take]; omega)) ?_)
      rw [hnm]
      by_cases h30 : runB isW t + 1 ≤ 30
      · rw [if_pos h30, decide_eq_true h30]; exact Ev.now _
      · rw [if_neg h30, decide_eq_false h30]; exact Ev.now _
  · have h1f : isL c = false := by simpa using h1
    have hz : (0 : Int) < ((mk (c :: t)).size : Int) := by rw [mk_size]; omega
    have five : (c.toNat = 47 ∨ c.toNat = 44 ∨ c.toNat = 58) → Ev (fun k => lexer_token.j0 k (mk (c :: t)) (c.toNat : Int) true) (tokI (c :: t)) := fun h2 => by
      have tk : tokI (c :: t) = (5, 1) := by
        unfold tokI
        simp only [tokL]
        rw [if_neg h1, if_pos h2]; rfl
      rw [tk]
      exact Ev.step (f := fun _ => some (5, 1)) (fun k => by simp only [lexer_token.j0, if_true]) (Ev.now _)
    rw [if_neg h1]
    by_cases a : c.toNat = 47
    · exact Ev.congr (fun k => by rw [if_neg (by omega), if_pos hz, bt_head, if_pos (by omega)]) (five (.inl a))
    · by_cases a2 : c.toNat = 44
      · exact Ev.congr (fun k => by rw [if_neg (by omega), if_pos hz, bt_head, if_neg (by omega), if_pos (by omega)]) (five (.inr (.inl a2)))
      · refine Ev.congr (fun k => by rw [if_neg (by omega), if_pos hz, bt_head, if_neg (by omega), if_neg (by omega)]) ?_
        by_cases a3 : c.toNat = 58
        · rw [show ((c.toNat : Int) == 58) = true by rw [beq_iff_eq]; omega]; exact five (.inr (.inr a3))
        · have hb : ((c.toNat : Int) == 58) = false := by rw [beq_eq_false_iff_ne]; omega
          by_cases a4 : c.toNat = 34
          · exact token_quote c t hl a4 _ hb
          · exact token_num c t hl h1f (by omega) a4 _ hb
end Go.Proofs.YthjmbagkomnpgaaDoor.Plain
