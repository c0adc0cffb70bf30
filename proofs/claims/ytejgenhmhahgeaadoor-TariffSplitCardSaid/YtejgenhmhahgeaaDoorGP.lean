-- Written by this session's own programs; what the law does not lean on is left out. Lean checks it.
import Derived.Test.YtejgenhmhahgeaaDoorGS
import Derived.Test.YtejgenhmhahgeaaDoorGJ
import Derived.Test.YtejgenhmhahgeaaDoorGTx26
import Derived.Test.YtejgenhmhahgeaaDoorGTx27
import Derived.Test.YtejgenhmhahgeaaDoorGTx28
import Derived.Test.YtejgenhmhahgeaaDoorGTx38
import Derived.Test.YtejgenhmhahgeaaDoorGTx36
section
namespace Go.Proofs.YtejgenhmhahgeaaDoor.Plain
set_option linter.unusedVariables false
set_option linter.unusedSimpArgs false
open Go Go.RowKit Go.Proofs.YtejgenhmhahgeaaDoor.T Go.Proofs.YtejgenhmhahgeaaDoorW.PrintWords Go.Proofs.YtejgenhmhahgeaaDoorW.PrintLast
abbrev Bs := List UInt8
def isL (c : UInt8) : Bool := decide (97 ≤ c.toNat ∧ c.toNat ≤ 122) || decide (65 ≤ c.toNat ∧ c.toNat ≤ 90)
def isD (c : UInt8) : Bool := decide (48 ≤ c.toNat ∧ c.toNat ≤ 57)
def isW (c : UInt8) : Bool := isL c || isD c || decide (c.toNat = 45) || decide (c.toNat = 95)
def runB (p : UInt8 → Bool) : Bs → Nat
 | [] => 0
 | c :: t => if p c then runB p t + 1 else 0
def wordB : Bs → Bool
 | [] => false
 | c :: t => isL c && t.all isW
def mk (l : Bs) : ByteArray := ⟨l.toArray⟩
theorem mk_of (s : ByteArray) : s = mk s.data.toList := by cases s; simp [mk]
theorem mk_size (l : Bs) : (mk l).size = l.length := by simp [mk, ByteArray.size]
theorem mk_data (l : Bs) : (mk l).data.toList = l := by simp [mk]
theorem mk_toList (l : Bs) : (mk l).toList = l := by rw [ByteArray.toList_eq, mk_data]
theorem ext_mk (s t : ByteArray) (h : s.data.toList = t.data.toList) : s = t := by rw [mk_of s, mk_of t, h]
theorem mk_append (a b : Bs) : mk a ++ mk b = mk (a ++ b) := by
 apply ext_mk
 rw [mk_data, ByteArray.data_append]; simp [mk]
theorem bt_mk (l : Bs) (i : Nat) (h : i < l.length) : bt (mk l) (i : Int) = ((l[i]'h).toNat : Int) := by
 unfold bt
 rw [dif_pos (by rw [mk_size]; simpa using h)]
 rfl
theorem bt_head (c : UInt8) (t : Bs) : bt (mk (c :: t)) 0 = (c.toNat : Int) := bt_mk (c :: t) 0 (by simp)
theorem wrap_nat {i : Nat} (h : i ≤ 9223372036854775806) : wrap64 ((i : Int) + 1) = ((i + 1 : Nat) : Int) := by unfold wrap64; omega
theorem wrap_id {i : Int} (h0 : -9223372036854775808 ≤ i) (h : i ≤ 9223372036854775807) : wrap64 i = i := by unfold wrap64; omega

theorem letter_ev (c : UInt8) : lexer_letter.f (c.toNat : Int) = some (isL c) := by
 unfold lexer_letter.f isL
 repeat' split
 all_goals (congr 1; rw [Bool.eq_iff_iff]; simp only [Bool.or_eq_true, decide_eq_true_eq, true_iff, Bool.false_eq_true, false_iff]; omega)
theorem digit_ev (c : UInt8) : lexer_digit.f (c.toNat : Int) = some (isD c) := by
 unfold lexer_digit.f isD
 repeat' split
 all_goals (congr 1; rw [Bool.eq_iff_iff]; simp only [decide_eq_true_eq, Bool.false_eq_true, false_iff]; omega)
theorem wordc_ev (c : UInt8) : lexer_wordc.f (c.toNat : Int) = some (isW c) := by
 unfold lexer_wordc.f isW
 rw [letter_ev, digit_ev]
 cases isL c with
 | true => rfl
 | false =>
  cases isD c with
  | true => rfl
  | false =>
   simp only [Option.bind_some, Bool.false_or, Bool.false_eq_true, if_false]
   by_cases h : c.toNat = 45
   ·
    rw [if_pos (by omega)]; simp [h]
   ·
    rw [if_neg (by omega)]; congr 1
    rw [Bool.eq_iff_iff, beq_iff_eq, Bool.or_eq_true, decide_eq_true_eq, decide_eq_true_eq]; omega
theorem runB_cons (p : UInt8 → Bool) (c : UInt8) (t : Bs) : runB p (c :: t) = if p c = true then runB p t + 1 else 0 := rfl

theorem runw_l (l : Bs) (hl : l.length ≤ 140737488351232) : ∀ (d i : Nat), i + d = l.length → Ev (fun k => lexer_run_word.l0 k (mk l) (i : Int)) ((i + runB isW (l.drop i) : Nat) : Int)
 | 0, i, h => by
  obtain rfl : i = l.length := by omega
  refine Ev.step (f := fun _ => some ((l.length : Nat) : Int)) (fun k => ?_) (by simpa [runB] using Ev.now _)
  simp only [lexer_run_word.l0]; rw [if_neg (by rw [mk_size]; omega)]
 | d + 1, i, h => by
  have hi : i < l.length := by omega
  rw [List.drop_eq_getElem_cons hi, runB_cons]
  cases hp : isW l[i] with
  | true =>
   refine Ev.step (f := fun k => lexer_run_word.l0 k (mk l) ((i + 1 : Nat) : Int)) (fun k => ?_) (by have := runw_l l hl d (i + 1) (by omega); rw [if_pos rfl, show i + (runB isW (l.drop (i + 1)) + 1) = i + 1 + runB isW (l.drop (i + 1)) by omega]; exact this)
   simp only [lexer_run_word.l0]; rw [if_pos (by rw [mk_size]; omega), if_pos (by omega), bt_mk l i hi, wordc_ev, hp, wrap_nat (by omega)]; rfl
  | false =>
   refine Ev.step (f := fun _ => some (i : Int)) (fun k => ?_) (by rw [if_neg (by simp)]; exact Ev.now _)
   simp only [lexer_run_word.l0]; rw [if_pos (by rw [mk_size]; omega), if_pos (by omega), bt_mk l i hi, wordc_ev, hp]; rfl
theorem runw_ev (l : Bs) (hl : l.length ≤ 140737488351232) : Ev (fun k => lexer_run_word.f k (mk l)) ((runB isW l : Nat) : Int) := by
 have := runw_l l hl l.length 0 (by omega)
 simpa [lexer_run_word.f] using this
theorem runB_eq_length (p : UInt8 → Bool) : ∀ l : Bs, runB p l = l.length ↔ l.all p = true
 | [] => by simp [runB]
 | c :: t => by
  rw [runB_cons, List.all_cons, Bool.and_eq_true, ← runB_eq_length p t, List.length_cons]
  split
  ·
   rename_i h; simp [h]
  ·
   rename_i h; simp [h]

def resB (l : Bs) : Bool := ([[100, 101, 115, 105, 103, 110], [111, 114, 100, 101, 114], [109, 105, 114, 114, 111, 114], [116, 105, 101, 114], [97, 110, 103, 108, 101], [97, 116], [100, 101, 112, 116, 104], [109, 101, 101, 116], [101, 100, 103, 101], [104, 101, 105, 103, 104, 116], [116, 104, 114, 111, 117, 103, 104]] : List Bs).any (fun x => decide (l = x))
theorem res_ev (l : Bs) : lexer_Reserved.f (mk l) = some (resB l) := by
 unfold lexer_Reserved.f resB
 simp only [mk_toList, List.any_cons, List.any_nil, Bool.or_false]
 repeat' split
 all_goals simp_all
def nameB (l : Bs) : Bool := wordB l && decide (l.length ≤ 30) && !resB l
theorem isW_of_L {c : UInt8} (h : isL c = true) : isW c = true := by unfold isW; rw [h]; rfl
def wl : Bs → Int
 | [] => 0
 | c :: t => if isL c = true then ((runB isW t + 1 : Nat) : Int) else 0
theorem wl_cons (c : UInt8) (t : Bs) : wl (c :: t) = if isL c = true then ((runB isW t + 1 : Nat) : Int) else 0 := rfl
theorem word_ev (l : Bs) (hl : l.length ≤ 140737488351232) : Ev (fun k => lexer_word.f k (mk l)) (wl l) := by
 cases l with
 | nil => exact Ev.congr (fun k => by unfold lexer_word.f; rw [mk_toList, if_pos rfl]) (Ev.now 0)
 | cons c t =>
  have hs : ∀ k, lexer_word.f k (mk (c :: t)) = (if isL c = true then ((lexer_run_word.f k (mk (c :: t))).bind fun t110 => some t110) else some 0) := fun k => by
   unfold lexer_word.f
   rw [mk_toList, if_neg (by simp), if_pos (by rw [mk_size]; simp), bt_head, letter_ev]; rfl
  refine Ev.congr hs ?_
  rw [wl_cons]
  cases h : isL c with
  | true =>
   have := Ev.bind (f := fun _ t => some t) (runw_ev (c :: t) hl) (Ev.now _)
   rw [runB_cons, if_pos (isW_of_L h)] at this
   simpa using this
  | false => simpa using Ev.now (0 : Int)
theorem wordB_eq (c : UInt8) (t : Bs) : wordB (c :: t) = (isL c && decide (runB isW t + 1 = (c :: t).length)) := by
 have h : t.all isW = decide (runB isW t + 1 = (c :: t).length) := by
  rw [Bool.eq_iff_iff, decide_eq_true_eq, List.length_cons, ← runB_eq_length]; omega
 rw [wordB, h]
theorem name_ev (l : Bs) (hl : l.length ≤ 140737488351232) : Ev (fun k => lexer_IsName.f k (mk l)) (nameB l) := by
 cases l with
 | nil => exact Ev.congr (f := fun _ => some false) (fun k => by unfold lexer_IsName.f; rw [mk_toList, if_pos rfl]) (Ev.now _)
 | cons c t =>
  unfold nameB
  by_cases h30 : (c :: t).length ≤ 30
  ·
   refine Ev.congr (fun k => by unfold lexer_IsName.f; rw [mk_toList, if_neg (by simp), if_pos (by rw [mk_size]; omega), mk_size, res_ev]) (Ev.bind (word_ev (c :: t) hl) ?_)
   rw [decide_eq_true h30, wordB_eq, Bool.and_true, wl_cons]
   cases h : isL c with
   | false =>
    rw [if_neg (show ¬ (false = true) by simp), if_neg (by rw [List.length_cons]; omega), Bool.false_and]
    exact Ev.now _
   | true =>
    simp only [if_true, Bool.true_and]
    by_cases hr : runB isW t + 1 = (c :: t).length
    ·
     refine Ev.congr (f := fun _ => some (!resB (c :: t))) (fun k => ?_) (by rw [decide_eq_true hr, Bool.true_and]; exact Ev.now _)
     rw [if_pos (by omega)]; rfl
    ·
     refine Ev.congr (f := fun _ => some false) (fun k => ?_) (by rw [decide_eq_false hr, Bool.false_and]; exact Ev.now _)
     rw [if_neg (by omega)]
  ·
   refine Ev.congr (f := fun _ => some false) (fun k => by unfold lexer_IsName.f; rw [mk_toList, if_neg (by simp), if_neg (by rw [mk_size]; omega)]) ?_
   rw [decide_eq_false h30]; simpa using Ev.now false
theorem rletter_ev (c : UInt8) : culetref13_letter.f (c.toNat : Int) = some (isL c) := letter_ev c
theorem rdigit_ev (c : UInt8) : culetref13_digit.f (c.toNat : Int) = some (isD c) := digit_ev c

def RES : List Bs := [[100, 101, 115, 105, 103, 110], [111, 114, 100, 101, 114], [109, 105, 114, 114, 111, 114], [116, 105, 101, 114], [97, 110, 103, 108, 101], [97, 116], [100, 101, 112, 116, 104], [109, 101, 101, 116], [101, 100, 103, 101], [104, 101, 105, 103, 104, 116], [116, 104, 114, 111, 117, 103, 104]]
theorem rres_l (l : Bs) (R : List Bs) (hR : R.length ≤ 100) : ∀ (d i : Nat), i + d = R.length → Ev (fun k => culetref13_Reserved.l0 k (mk l) (R.map mk) (i : Int)) ((R.drop i).any (fun x => decide (l = x)))
 | 0, i, h => by
  obtain rfl : i = R.length := by omega
  refine Ev.step (f := fun _ => some false) (fun k => ?_) (by simpa using Ev.now false)
  simp only [culetref13_Reserved.l0]; rw [if_neg (by rw [List.length_map]; omega)]
 | d + 1, i, h => by
  have hi : i < R.length := by omega
  have ih := rres_l l R hR d (i + 1) (by omega)
  have hrd : rdOf ByteArray.empty (R.map mk) (i : Int) = mk R[i] := by
   unfold rdOf; rw [Int.toNat_natCast, List.getD_eq_getElem?_getD, List.getElem?_map, List.getElem?_eq_getElem hi]; rfl
  rw [List.drop_eq_getElem_cons hi, List.any_cons]
  by_cases he : l = R[i]
  ·
   refine Ev.step (f := fun _ => some true) (fun k => ?_) (by rw [decide_eq_true he]; exact Ev.now _)
   simp only [culetref13_Reserved.l0]; rw [if_pos (by rw [List.length_map]; omega), if_pos (by omega), hrd, mk_toList, mk_toList, if_pos he.symm]
  ·
   refine Ev.step (fun k => ?_) (by rw [decide_eq_false he, Bool.false_or]; exact ih)
   simp only [culetref13_Reserved.l0]; rw [if_pos (by rw [List.length_map]; omega), if_pos (by omega), hrd, mk_toList, mk_toList, if_neg (fun h => he h.symm), wrap_nat (by omega)]
theorem rres_ev (l : Bs) : Ev (fun k => culetref13_Reserved.f k (mk l)) (resB l) := rres_l l RES (by decide) RES.length 0 (by decide)

theorem rword_l (l : Bs) (hl : l.length ≤ 140737488351232) (h0 : 0 < l.length) : ∀ (d i : Nat), i + d = l.length → 1 ≤ i → Ev (fun k => culetref13_word.l0 k (mk l) (i : Int)) ((l.drop i).all isW)
 | 0, i, h, h1 => by
  obtain rfl : i = l.length := by omega
  refine Ev.step (f := fun _ => some true) (fun k => ?_) (by simpa using Ev.now true)
  simp only [culetref13_word.l0]; rw [if_neg (by rw [mk_size]; omega), decide_eq_true (by rw [mk_size]; omega)]
 | d + 1, i, h, h1 => by
  have hi : i < l.length := by omega
  have ih := rword_l l hl h0 d (i + 1) (by omega) (by omega)
  have hb := bt_mk l i hi
  have g0 : (0 : Int) ≤ (i : Int) := by omega
  have g1 : (i : Int) < ((mk l).size : Int) := by rw [mk_size]; omega
  have n0 : ¬ (i : Int) = 0 := by omega
  have hw : wrap64 ((i : Int) + 1) = ((i + 1 : Nat) : Int) := wrap_nat (by omega)
  rw [List.drop_eq_getElem_cons hi, List.all_cons]
  generalize l[i] = c at hb ⊢
  cases hL : isL c with
  | true =>
   rw [isW_of_L hL, Bool.true_and]
   refine Ev.step (fun k => ?_) ih
   simp only [culetref13_word.l0]; rw [if_pos g1, if_pos g0, hb, rletter_ev, hL, hw]; rfl
  | false =>
   cases hD : isD c with
   | true =>
    rw [show isW c = true by simp [isW, hD], Bool.true_and]
    refine Ev.step (fun k => ?_) ih
    simp only [culetref13_word.l0]; rw [if_pos g1, if_pos g0, hb, rletter_ev, hL, Option.bind_some, if_neg (by simp), if_neg n0, rdigit_ev, hD, hw]; rfl
   | false =>
    by_cases a : c.toNat = 45
    ·
     rw [show isW c = true by simp [isW, a], Bool.true_and]
     refine Ev.step (fun k => ?_) ih
     simp only [culetref13_word.l0]; rw [if_pos g1, if_pos g0, hb, rletter_ev, hL, Option.bind_some, if_neg (by simp), if_neg n0, rdigit_ev, hD, Option.bind_some, if_neg (by simp), if_pos (by omega), hw]
    ·
     by_cases b : c.toNat = 95
     ·
      rw [show isW c = true by simp [isW, b], Bool.true_and]
      refine Ev.step (fun k => ?_) ih
      simp only [culetref13_word.l0]; rw [if_pos g1, if_pos g0, hb, rletter_ev, hL, Option.bind_some, if_neg (by simp), if_neg n0, rdigit_ev, hD, Option.bind_some, if_neg (by simp), if_neg (by omega), if_pos (by omega), hw]
     ·
      rw [show isW c = false by simp [isW, hL, hD, a, b], Bool.false_and]
      refine Ev.step (f := fun _ => some false) (fun k => ?_) (Ev.now _)
      simp only [culetref13_word.l0]; rw [if_pos g1, if_pos g0, hb, rletter_ev, hL, Option.bind_some, if_neg (by simp), if_neg n0, rdigit_ev, hD, Option.bind_some, if_neg (by simp), if_neg (by omega), if_neg (by omega)]
theorem rword_ev (l : Bs) (hl : l.length ≤ 140737488351232) : Ev (fun k => culetref13_word.f k (mk l)) (wordB l) := by
 cases l with
 | nil =>
  refine Ev.step (f := fun _ => some false) (fun k => ?_) (Ev.now _)
  show culetref13_word.l0 (k + 1) (mk []) 0 = _
  simp only [culetref13_word.l0]; rw [if_neg (by rw [mk_size]; simp), decide_eq_false (by rw [mk_size]; simp)]
 | cons c t =>
  have ih := rword_l (c :: t) hl (by simp) t.length 1 (by rw [List.length_cons]; omega) (Nat.le_refl _)
  have g1 : (0 : Int) < ((mk (c :: t)).size : Int) := by rw [mk_size, List.length_cons]; omega
  have hw : wrap64 ((0 : Int) + 1) = ((1 : Nat) : Int) := by rw [wrap_id (by decide) (by decide)]; rfl
  rw [wordB]
  cases hL : isL c with
  | true =>
   rw [Bool.true_and]
   refine Ev.step (fun k => ?_) ih
   show culetref13_word.l0 (k + 1) (mk (c :: t)) 0 = _
   simp only [culetref13_word.l0]; rw [if_pos g1, if_pos (by omega), bt_head, rletter_ev, hL, hw]; rfl
  | false =>
   rw [Bool.false_and]
   refine Ev.step (f := fun _ => some false) (fun k => ?_) (Ev.now _)
   show culetref13_word.l0 (k + 1) (mk (c :: t)) 0 = _
   simp only [culetref13_word.l0]; rw [if_pos g1, if_pos (by omega), bt_head, rletter_ev, hL, Option.bind_some, if_neg (by simp), if_pos trivial]
theorem rname_ev (l : Bs) (hl : l.length ≤ 140737488351232) : Ev (fun k => culetref13_IsName.f k (mk l)) (nameB l) := by
 refine Ev.congr (fun k => by unfold culetref13_IsName.f; rfl) (Ev.bind (rword_ev l hl) ?_)
 unfold nameB
 cases wordB l with
 | false => simpa using Ev.now false
 | true =>
  by_cases h30 : l.length ≤ 30
  ·
   rw [decide_eq_true h30]
   refine Ev.congr (fun k => by rw [if_pos rfl, if_pos (by rw [mk_size]; omega)]) (Ev.bind (rres_ev l) ?_)
   simpa using Ev.now _
  ·
   rw [decide_eq_false h30]
   refine Ev.congr (f := fun _ => some false) (fun k => by rw [if_pos rfl, if_neg (by rw [mk_size]; omega)]) (by simpa using Ev.now false)

end Go.Proofs.YtejgenhmhahgeaaDoor.Plain
end
section
namespace Go.Proofs.YtejgenhmhahgeaaDoor.Plain
set_option linter.unusedVariables false
set_option linter.unusedSimpArgs false
open Go Go.RowKit Go.Proofs.YtejgenhmhahgeaaDoor.T Go.Proofs.YtejgenhmhahgeaaDoorW.PrintWords Go.Proofs.YtejgenhmhahgeaaDoorW.PrintLast Go.Proofs.YtejgenhmhahgeaaDoorW.PrintMore

theorem rd63 {l : List S63} {i : Nat} (hi : i < l.length) : rd_T63 l (i : Int) = l[i] := by unfold rd_T63; rw [Int.toNat_natCast, List.getD_eq_getElem?_getD, List.getElem?_eq_getElem hi]; rfl
theorem rd42 {l : List S42} {i : Nat} (hi : i < l.length) : rd_T42 l (i : Int) = l[i] := by unfold rd_T42; rw [Int.toNat_natCast, List.getD_eq_getElem?_getD, List.getElem?_eq_getElem hi]; rfl
theorem rdI {l : List Int} {i : Nat} (hi : i < l.length) : rd l (i : Int) = l[i] := by unfold rd; rw [Int.toNat_natCast, List.getD_eq_getElem?_getD, List.getElem?_eq_getElem hi]; rfl

def own (l : List S42) : List S63 := l.map (fun c => ⟨c.f0, c.f1⟩)
theorem own_length (l : List S42) : (own l).length = l.length := List.length_map _
theorem own_l (s : ByteArray) (l : List S42) (hl : l.length ≤ 100000) : ∀ (d i : Nat), i + d = l.length → Ev (fun k => culetlaw44_Own.l0 k l (l.length : Int) (i : Int) s (own (l.take i))) (s, own l)
 | 0, i, h => by
  obtain rfl : i = l.length := by omega
  refine Ev.step (f := fun _ => some (s, own l)) (fun k => ?_) (Ev.now _)
  simp only [culetlaw44_Own.l0]; rw [if_neg (by omega), List.take_length]
 | d + 1, i, h => by
  have hi : i < l.length := by omega
  refine Ev.step (f := fun k => culetlaw44_Own.l0 k l (l.length : Int) ((i + 1 : Nat) : Int) s (own (l.take (i + 1)))) (fun k => ?_) (own_l s l hl d (i + 1) (by omega))
  have e : own (l.take (i + 1)) = own (l.take i) ++ [⟨l[i].f0, l[i].f1⟩] := by unfold own; rw [List.take_succ_eq_append_getElem hi, List.map_append]; rfl
  have hn : (own (l.take i)).length < 8796093022208 := by rw [own_length, List.length_take]; omega
  simp only [culetlaw44_Own.l0]
  rw [if_pos (by omega), if_pos (by omega), if_pos (by omega), if_pos hn, wrap_nat (by omega), rd42 hi, e]
theorem own_ev (s : ByteArray) (l : List S42) (hl : l.length ≤ 100000) : Ev (fun k => culetlaw44_Own.f k s l) (s, own l) := own_l s l hl l.length 0 (by omega)

abbrev F (l : List S63) (i : Nat) : Int := (rd_T63 l (i : Int)).f0
abbrev P (l : List S63) (i : Nat) : Int := (rd_T63 l (i : Int)).f1
def clsB (l : List S63) (i : Nat) : Bool := decide (¬ F l i > 1000000) && (decide (¬ P l i < 0) && (decide (¬ P l i > 1000000) && (if i = 0 then decide (F l i = 0) else decide (¬ F l (i - 1) ≥ F l i))))
def tailB (s : ByteArray) (n : Nat) : Bool := nameB s.data.toList && (decide (1 ≤ n) && decide (n ≤ 20))
theorem valid_step (s : ByteArray) (l : List S63) (hl : l.length ≤ 100000) (k i : Nat) (hi : i < l.length) : tariff_Valid.l0 (k + 1) l (l.length : Int) (i : Int) s l = if clsB l i = true then tariff_Valid.l0 k l (l.length : Int) ((i + 1 : Nat) : Int) s l else some false := by
 have hp : wrap64 ((i : Int) + 1) = ((i + 1 : Nat) : Int) := wrap_nat (by omega)
 simp only [tariff_Valid.l0]
 rw [if_pos (by omega), if_pos (by omega), if_pos (by omega), hp]
 unfold clsB
 cases i with
 | zero =>
  simp only [Int.natCast_zero, F, P]
  by_cases a : (rd_T63 l 0).f0 > 1000000 <;> by_cases b : (rd_T63 l 0).f1 < 0 <;> by_cases c : (rd_T63 l 0).f1 > 1000000 <;> by_cases d : (rd_T63 l 0).f0 = 0 <;> simp [a, b, c, d]
 | succ j =>
  have h1 : wrap64 (((j + 1 : Nat) : Int) - 1) = (j : Int) := by unfold wrap64; omega
  rw [h1]
  have h2 : (((j + 1 : Nat) : Int) = 0) = False := eq_false (by omega)
  have h3 : (((j + 1 : Nat) : Int) > 0) = True := eq_true (by omega)
  have h4 : (0 ≤ (j : Int)) = True := eq_true (by omega)
  have h5 : ((j : Int) < (l.length : Int)) = True := eq_true (by omega)
  simp only [h2, h3, h4, h5, if_true, if_false, F, P, Nat.succ_ne_zero, Nat.add_sub_cancel]
  by_cases a : (rd_T63 l ((j + 1 : Nat) : Int)).f0 > 1000000
  ·
   simp only [a, if_true, not_true, decide_false, Bool.false_and, Bool.false_eq_true, if_false]
  by_cases b : (rd_T63 l ((j + 1 : Nat) : Int)).f1 < 0
  ·
   simp only [a, b, if_true, not_true, decide_false, Bool.false_and, Bool.and_false, Bool.false_eq_true, if_false]
  by_cases c : (rd_T63 l ((j + 1 : Nat) : Int)).f1 > 1000000
  ·
   simp only [a, b, c, if_true, not_true, decide_false, Bool.false_and, Bool.and_false, Bool.false_eq_true, if_false]
  by_cases d : (rd_T63 l (j : Int)).f0 ≥ (rd_T63 l ((j + 1 : Nat) : Int)).f0
  ·
   simp only [a, b, c, d, if_true, not_true, decide_false, Bool.false_and, Bool.and_false, Bool.false_eq_true, if_false]
  ·
   simp only [a, b, c, d, if_true, not_false_eq_true, decide_true, Bool.true_and, if_false]
theorem tail_ev (s : ByteArray) (hs : s.size ≤ 1000) (n : Nat) : Ev (fun k => (lexer_IsName.f k s).bind fun t => (if t = true then (if (n : Int) ≥ 1 then (some (decide ((n : Int) ≤ 20))) else (some false)) else (some false))) (tailB s n) := by
 have hn : s.data.toList.length = s.size := by rw [Array.length_toList]; rfl
 refine Ev.bind (a := nameB s.data.toList) ?_ ?_
 ·
  have := name_ev s.data.toList (by omega)
  rwa [← mk_of s] at this
 ·
  unfold tailB
  cases nameB s.data.toList with
  | false => rw [if_neg (by simp), Bool.false_and]; exact Ev.now _
  | true =>
   rw [if_pos rfl, Bool.true_and]
   by_cases h : 1 ≤ n
   ·
    rw [if_pos (by omega), decide_eq_true h, Bool.true_and, show decide ((n : Int) ≤ 20) = decide (n ≤ 20) from decide_eq_decide.2 (by omega)]; exact Ev.now _
   ·
    rw [if_neg (by omega), decide_eq_false h, Bool.false_and]; exact Ev.now _
theorem valid_l (s : ByteArray) (hs : s.size ≤ 1000) (l : List S63) (hl : l.length ≤ 100000) : ∀ (d i : Nat), i + d = l.length → Ev (fun k => tariff_Valid.l0 k l (l.length : Int) (i : Int) s l) ((List.range' i d).all (clsB l) && tailB s l.length)
 | 0, i, h => by
  obtain rfl : i = l.length := by omega
  refine Ev.step (f := fun k => (lexer_IsName.f k s).bind fun t => (if t = true then (if (l.length : Int) ≥ 1 then (some (decide ((l.length : Int) ≤ 20))) else (some false)) else (some false))) (fun k => ?_) (by simpa using tail_ev s hs l.length)
  simp only [tariff_Valid.l0]; rw [if_neg (by omega)]
 | d + 1, i, h => by
  have hi : i < l.length := by omega
  rw [List.range'_succ, List.all_cons]
  cases hc : clsB l i with
  | true =>
   rw [Bool.true_and]
   exact Ev.step (f := fun k => tariff_Valid.l0 k l (l.length : Int) ((i + 1 : Nat) : Int) s l) (fun k => by rw [valid_step s l hl k i hi, if_pos hc]) (valid_l s hs l hl d (i + 1) (by omega))
  | false =>
   rw [Bool.false_and, Bool.false_and]
   exact Ev.step (f := fun _ => some false) (fun k => by rw [valid_step s l hl k i hi, hc]; rfl) (Ev.now _)
def vB (s : ByteArray) (l : List S63) : Bool := (List.range' 0 l.length).all (clsB l) && tailB s l.length
theorem valid_ev (s : ByteArray) (hs : s.size ≤ 1000) (l : List S63) (hl : l.length ≤ 100000) : Ev (fun k => tariff_Valid.f k s l) (vB s l) := valid_l s hs l hl l.length 0 (by omega)
/-- A valid tariff. -/
structure V (s : ByteArray) (l : List S63) : Prop where
 name : nameB s.data.toList = true
 len1 : 1 ≤ l.length
 len20 : l.length ≤ 20
 hi : ∀ i, i < l.length → F l i ≤ 1000000
 p0 : ∀ i, i < l.length → 0 ≤ P l i
 p1 : ∀ i, i < l.length → P l i ≤ 1000000
 z : F l 0 = 0
 up : ∀ i, i + 1 < l.length → F l i < F l (i + 1)
theorem V_of {s : ByteArray} {l : List S63} (h : vB s l = true) : V s l := by
 unfold vB tailB at h
 rw [Bool.and_eq_true, List.all_eq_true, Bool.and_eq_true, Bool.and_eq_true, decide_eq_true_iff, decide_eq_true_iff] at h
 obtain ⟨ha, hn, h1, h2⟩ := h
 have c : ∀ i, i < l.length → F l i ≤ 1000000 ∧ 0 ≤ P l i ∧ P l i ≤ 1000000 ∧ (if i = 0 then decide (F l i = 0) else decide (¬ F l (i - 1) ≥ F l i)) = true := by
  intro i hi
  have := ha i (List.mem_range'_1.2 ⟨Nat.zero_le _, by omega⟩)
  unfold clsB at this
  rw [Bool.and_eq_true, Bool.and_eq_true, Bool.and_eq_true, decide_eq_true_iff, decide_eq_true_iff, decide_eq_true_iff] at this
  exact ⟨by omega, by omega, by omega, this.2.2.2⟩
 refine ⟨hn, h1, h2, fun i hi => (c i hi).1, fun i hi => (c i hi).2.1, fun i hi => (c i hi).2.2.1, ?_, fun i hi => ?_⟩
 ·
  have := (c 0 h1).2.2.2
  rw [if_pos rfl] at this
  exact of_decide_eq_true this
 ·
  have := (c (i + 1) hi).2.2.2
  rw [if_neg (by omega), decide_eq_true_iff, Nat.add_sub_cancel] at this
  omega
theorem V.mono {s : ByteArray} {l : List S63} (v : V s l) : ∀ (d i : Nat), i + (d + 1) < l.length → F l i < F l (i + (d + 1))
 | 0, i, h => v.up i h
 | d + 1, i, h => Int.lt_trans (V.mono v d i (by omega)) (v.up (i + (d + 1)) h)
theorem V.lt {s : ByteArray} {l : List S63} (v : V s l) {i j : Nat} (h : i < j) (hj : j < l.length) : F l i < F l j := by
 have := V.mono v (j - i - 1) i (by omega)
 rwa [show i + (j - i - 1 + 1) = j by omega] at this
theorem V.nn {s : ByteArray} {l : List S63} (v : V s l) {i : Nat} (hi : i < l.length) : 0 ≤ F l i := by
 rcases Nat.eq_zero_or_pos i with rfl | h
 ·
  rw [v.z]; exact Int.le_refl _
 ·
  have := v.lt h hi
  rw [v.z] at this
  omega
theorem V.pos {s : ByteArray} {l : List S63} (v : V s l) {i : Nat} (h : 0 < i) (hi : i < l.length) : 1 ≤ F l i := by
 have := v.lt h hi
 rw [v.z] at this
 omega

def cI (l : List S63) (w : Int) : Nat := (if idxF (fun x : S63 => decide (w < x.f0)) l < 0 then (l.length : Int) - 1 else idxF (fun x : S63 => decide (w < x.f0)) l - 1).toNat
theorem class_spec {s : ByteArray} {l : List S63} (v : V s l) {w : Int} (h0 : 0 ≤ w) : cI l w < l.length ∧ tariff_class.f s l w = some (cI l w : Int) ∧ F l (cI l w) ≤ w ∧ ∀ j, cI l w < j → j < l.length → w < F l j := by
 have hlen := v.len20
 have hl1 := v.len1
 have hl5 : l.length ≤ 100000 := by omega
 unfold cI tariff_class.f
 rw [if_pos hl5]
 have e : ∀ i, ∀ hi : i < l.length, l[i] = rd_T63 l (i : Int) := fun i hi => (rd63 hi).symm
 unfold idxF
 cases hq : l.findIdx? (fun x : S63 => decide (w < x.f0)) with
 | none =>
  have ha := List.findIdx?_eq_none_iff.1 hq
  rw [if_pos (by decide), if_pos (by decide)]
  have hc : ((l.length : Int) - 1).toNat = l.length - 1 := by omega
  rw [hc]
  refine ⟨by omega, by rw [show ((l.length - 1 : Nat) : Int) = (l.length : Int) - 1 by omega], ?_, fun j hj hj' => absurd hj (by omega)⟩
  have := ha (l[l.length - 1]'(by omega)) (List.getElem_mem _)
  rw [e, decide_eq_false_iff_not] at this
  exact Int.not_lt.1 this
 | some n =>
  obtain ⟨hn, hw, hb⟩ := List.findIdx?_eq_some_iff_getElem.1 hq
  rw [e, decide_eq_true_iff] at hw
  dsimp only
  rw [if_neg (by omega), if_neg (by omega)]
  have n0 : n ≠ 0 := by
   rintro rfl
   have : F l 0 = 0 := v.z
   have hw' : w < F l 0 := hw
   omega
  have hc : ((n : Int) - 1).toNat = n - 1 := by omega
  rw [hc]
  refine ⟨by omega, by rw [show ((n - 1 : Nat) : Int) = (n : Int) - 1 by omega], ?_, fun j hj hj' => ?_⟩
  ·
   have := hb (n - 1) (by omega)
   rw [e, decide_eq_true_iff] at this
   exact Int.not_lt.1 this
  ·
   have hw' : w < F l n := hw
   rcases Nat.lt_or_ge n j with h | h
   ·
    exact Int.lt_trans hw' (v.lt h hj')
   ·
    obtain rfl : j = n := by omega
    exact hw'
theorem cI_mono {s : ByteArray} {l : List S63} (v : V s l) {w x : Int} (h0 : 0 ≤ w) (h : w ≤ x) : cI l w ≤ cI l x := by
 obtain ⟨a, _, b, _⟩ := class_spec v h0
 obtain ⟨_, _, _, d⟩ := class_spec v (Int.le_trans h0 h)
 rcases Nat.lt_or_ge (cI l x) (cI l w) with y | y
 ·
  have := d _ y a; omega
 ·
  exact y

def valN (l : List S63) (w : Int) : Int := w * P l (cI l w) / 1000
theorem mul_range {a b : Int} (ha : 0 ≤ a) (ha1 : a ≤ 1000000) (hb : 0 ≤ b) (hb1 : b ≤ 1000000) : 0 ≤ a * b ∧ a * b ≤ 1000000000000 := by
 refine ⟨Int.mul_nonneg ha hb, ?_⟩
 have h1 : a * b ≤ 1000000 * b := Int.mul_le_mul_of_nonneg_right ha1 hb
 have h2 : 1000000 * b ≤ 1000000 * 1000000 := Int.mul_le_mul_of_nonneg_left hb1 (by decide)
 omega
theorem value_ev {s : ByteArray} {l : List S63} (v : V s l) {w : Int} (h0 : 0 ≤ w) (h1 : w ≤ 1000000) : tariff_value.f s l w = some (valN l w) := by
 obtain ⟨a, b, _, _⟩ := class_spec v h0
 have hlen := v.len20
 unfold tariff_value.f
 rw [b, Option.bind_some, if_pos (by omega), if_pos (by omega)]
 obtain ⟨m0, m1⟩ := mul_range h0 h1 (v.p0 _ a) (v.p1 _ a)
 unfold valN
 unfold P at m0 m1 ⊢
 generalize w * (rd_T63 l ((cI l w : Nat) : Int)).f1 = m at m0 m1 ⊢
 have e1 : wrap64 m = m := wrap_id (by omega) (by omega)
 rw [e1, Int.tdiv_eq_ediv_of_nonneg m0]
 have e2 : wrap64 (m / 1000) = m / 1000 := wrap_id (by omega) (by omega)
 rw [e2]

def outB (w : Int) : Bool := decide (w < 0) || decide (w > 1000000)
theorem out_ev (w : Int) : tariff_right_c1.f w = some (outB w) := by
 unfold tariff_right_c1.f outB
 by_cases h : w < 0
 ·
  rw [if_pos h, decide_eq_true h, Bool.true_or]
 ·
  rw [if_neg h, decide_eq_false h, Bool.false_or]
def fI : List Int → Nat → Int
 | [], _ => -1
 | x :: t, i => if outB x = true then (i : Int) else fI t (i + 1)
theorem fI_any : ∀ (l : List Int) (i : Nat), decide (fI l i ≥ 0) = l.any outB
 | [], _ => rfl
 | x :: t, i => by
  rw [List.any_cons]
  unfold fI
  cases outB x with
  | true => rw [if_pos rfl, Bool.true_or]; exact decide_eq_true (by omega)
  | false => rw [if_neg (by simp), Bool.false_or]; exact fI_any t (i + 1)
theorem idxw_l (l : List Int) (hl : l.length ≤ 100000) : ∀ (d i : Nat), i + d = l.length → Ev (fun k => slices_IndexFunc_w.l0 k l (l.length : Int) (i : Int)) (fI (l.drop i) i)
 | 0, i, h => by
  obtain rfl : i = l.length := by omega
  refine Ev.step (f := fun _ => some (-1)) (fun k => ?_) (by rw [List.drop_length]; exact Ev.now _)
  simp only [slices_IndexFunc_w.l0]; rw [if_neg (by omega)]
 | d + 1, i, h => by
  have hi : i < l.length := by omega
  rw [List.drop_eq_getElem_cons hi]
  have st : ∀ k, slices_IndexFunc_w.l0 (k + 1) l (l.length : Int) (i : Int) = if outB l[i] = true then some (i : Int) else slices_IndexFunc_w.l0 k l (l.length : Int) ((i + 1 : Nat) : Int) := by
   intro k
   simp only [slices_IndexFunc_w.l0]
   rw [if_pos (by omega), if_pos (by omega), if_pos (by omega), rdI hi, out_ev, wrap_nat (by omega)]
   rfl
  unfold fI
  cases hq : outB l[i] with
  | true => rw [if_pos rfl]; exact Ev.step (f := fun _ => some (i : Int)) (fun k => by rw [st, hq, if_pos rfl]) (Ev.now _)
  | false => rw [if_neg (by simp)]; exact Ev.step (f := fun k => slices_IndexFunc_w.l0 k l (l.length : Int) ((i + 1 : Nat) : Int)) (fun k => by rw [st, hq, if_neg (by simp)]) (idxw_l l hl d (i + 1) (by omega))
def rightR (s : ByteArray) (l : List S63) (ws : List Int) : Int := if vB s l = true then (if ws.any outB = true then 2 else 0) else 1
theorem right_ev (s : ByteArray) (hs : s.size ≤ 1000) (l : List S63) (hl : l.length ≤ 100000) (ws : List Int) (hw : ws.length ≤ 100000) : Ev (fun k => tariff_right.f k s l ws) (rightR s l ws) := by
 unfold tariff_right.f rightR
 refine Ev.bind (valid_ev s hs l hl) ?_
 cases vB s l with
 | false => simp only [Bool.false_eq_true, if_false]; exact Ev.now _
 | true =>
  simp only [if_true]
  refine Ev.bind (a := ws.any outB) ?_ ?_
  ·
   unfold slices_ContainsFunc_w.f
   refine Ev.bind (f := fun _ t => some (decide (t ≥ 0))) (idxw_l ws hw ws.length 0 (by omega)) ?_
   rw [List.drop_zero, fI_any]; exact Ev.now _
  ·
   cases ws.any outB with
   | false => simp only [Bool.false_eq_true, if_false]; exact Ev.now _
   | true => simp only [if_true]; exact Ev.now _
theorem one_any (w : Int) : [w].any outB = outB w := by rw [List.any_cons, List.any_nil, Bool.or_false]
theorem out_in {w : Int} (h : outB w = false) : 0 ≤ w ∧ w ≤ 1000000 := by
 unfold outB at h
 rw [Bool.or_eq_false_iff, decide_eq_false_iff_not, decide_eq_false_iff_not] at h
 omega
theorem in_out {w : Int} (h0 : 0 ≤ w) (h1 : w ≤ 1000000) : outB w = false := by
 unfold outB
 rw [decide_eq_false (by omega), decide_eq_false (by omega)]; rfl
/-- What Value, ClassOf and Next return: the error of right, or the answer of a weight that is permitted. -/
def ans (s : ByteArray) (l : List S63) (w : Int) (x : Int × Int) : Int × Int := if vB s l = true then (if outB w = true then (0, 2) else x) else (0, 1)
theorem ans_ev (s : ByteArray) (hs : s.size ≤ 1000) (l : List S63) (hl : l.length ≤ 100000) (w : Int) (g : Option (Int × Int)) (x : Int × Int) (hx : V s l → 0 ≤ w → w ≤ 1000000 → g = some x) : Ev (fun k => (tariff_right.f k s l [w]).bind fun t => (if t = 0 then g else some (0, t))) (ans s l w x) := by
 refine Ev.bind (right_ev s hs l hl [w] (by simp)) ?_
 unfold rightR ans
 rw [one_any]
 cases hv : vB s l with
 | false => simp only [Bool.false_eq_true, if_false]; rw [if_neg (by decide)]; exact Ev.now _
 | true =>
  simp only [if_true]
  cases hq : outB w with
  | true => simp only [if_true]; rw [if_neg (by decide)]; exact Ev.now _
  | false =>
   simp only [Bool.false_eq_true, if_false, if_true]
   rw [hx (V_of hv) (out_in hq).1 (out_in hq).2]; exact Ev.now _
theorem Value_ev (s : ByteArray) (hs : s.size ≤ 1000) (l : List S63) (hl : l.length ≤ 100000) (w : Int) : Ev (fun k => tariff_Value.f k s l w) (ans s l w (valN l w, 0)) := by
 unfold tariff_Value.f
 exact ans_ev s hs l hl w _ _ (fun v h0 h1 => by rw [value_ev v h0 h1]; rfl)
theorem ClassOf_ev (s : ByteArray) (hs : s.size ≤ 1000) (l : List S63) (hl : l.length ≤ 100000) (w : Int) : Ev (fun k => tariff_ClassOf.f k s l w) (ans s l w ((cI l w : Int), 0)) := by
 unfold tariff_ClassOf.f
 exact ans_ev s hs l hl w _ _ (fun v h0 h1 => by rw [(class_spec v h0).2.1]; rfl)
def nextR (l : List S63) (w : Int) : Int × Int := if cI l w + 1 < l.length then (F l (cI l w + 1), 0) else (0, 7)
theorem Next_ev (s : ByteArray) (hs : s.size ≤ 1000) (l : List S63) (hl : l.length ≤ 100000) (w : Int) : Ev (fun k => tariff_Next.f k s l w) (ans s l w (nextR l w)) := by
 unfold tariff_Next.f
 exact ans_ev s hs l hl w _ _ (fun v h0 h1 => by
  have a := (class_spec v h0).1
  rw [(class_spec v h0).2.1, Option.bind_some, wrap_nat (by omega)]
  unfold nextR
  by_cases h : cI l w + 1 < l.length
  ·
   rw [if_pos (by omega), if_pos (by omega), if_pos h]
  ·
   rw [if_neg (by omega), if_neg h])

def fairB (l : List S63) : Bool := (List.range' 1 (l.length - 1)).all (fun i => decide (valN l (F l i - 1) ≤ valN l (F l i)))
theorem fc_ev {s : ByteArray} {l : List S63} (v : V s l) {i : Nat} (h : 0 < i) (hi : i < l.length) : tariff_Fair_c1.f l[i].f0 l[i].f1 s l = some (!decide (valN l (F l i - 1) ≤ valN l (F l i))) := by
 have a := v.pos h hi
 have b := v.hi i hi
 unfold tariff_Fair_c1.f
 rw [show l[i].f0 = F l i by unfold F; rw [rd63 hi], wrap_id (by omega) (by omega), value_ev v (by omega) (by omega), value_ev v (by omega) b]
 show some (decide (valN l (F l i - 1) > valN l (F l i))) = _
 rw [← decide_not]
 exact congrArg some (decide_eq_decide.2 Int.not_le.symm)
theorem findO_all {p : S63 → Option Bool} {l : List S63} {b : Nat → Bool} (hp : ∀ i, 0 < i → ∀ hi : i < l.length, p l[i] = some (!b i)) : ∀ (d i : Nat) (n : Int), 0 < i → i + d = l.length → 0 ≤ n → ∃ r, findO p (l.drop i) n = some r ∧ decide (0 ≤ r) = !(List.range' i d).all b
 | 0, i, n, h0, h, hn => by
  obtain rfl : i = l.length := by omega
  rw [List.drop_length]
  exact ⟨-1, rfl, rfl⟩
 | d + 1, i, n, h0, h, hn => by
  have hi : i < l.length := by omega
  rw [List.drop_eq_getElem_cons hi, List.range'_succ, List.all_cons]
  unfold findO
  rw [hp i h0 hi]
  simp only [Option.bind_some]
  cases b i with
  | true =>
   rw [if_neg (show ¬ (!true) = true by decide), Bool.true_and]
   exact findO_all hp d (i + 1) (n + 1) (by omega) (by omega) (by omega)
  | false =>
   rw [if_pos (show (!false) = true from rfl), Bool.false_and]
   exact ⟨n, rfl, decide_eq_true hn⟩
theorem has_ev {s : ByteArray} {l : List S63} (v : V s l) : fair_has.f (l.drop 1) s l = some (!fairB l) := by
 have h20 := v.len20
 have h1 := v.len1
 unfold fair_has.f
 rw [if_pos (by rw [List.length_drop]; omega)]
 obtain ⟨r, e, f⟩ := findO_all (p := fun x => tariff_Fair_c1.f x.f0 x.f1 s l) (l := l) (b := fun i => decide (valN l (F l i - 1) ≤ valN l (F l i))) (fun i h hi => fc_ev v h hi) (l.length - 1) 1 0 (by decide) (by omega) (Int.le_refl _)
 rw [e, Option.bind_some, f]; rfl
theorem Fair_ev (s : ByteArray) (hs : s.size ≤ 1000) (l : List S63) (hl : l.length ≤ 100000) : Ev (fun k => tariff_Fair.f k s l) (vB s l && fairB l) := by
 unfold tariff_Fair.f
 refine Ev.bind (valid_ev s hs l hl) ?_
 cases hv : vB s l with
 | false => rw [if_neg (by simp), Bool.false_and]; exact Ev.now _
 | true =>
  have v := V_of hv
  have h1 := v.len1
  rw [if_pos rfl, if_pos (by omega), has_ev v, Bool.true_and, Option.bind_some, Bool.not_not]
  exact Ev.now _
end Go.Proofs.YtejgenhmhahgeaaDoor.Plain
end
section
namespace Go.Proofs.YtejgenhmhahgeaaDoor.Plain
set_option linter.unusedVariables false
set_option linter.unusedSimpArgs false
open Go Go.RowKit Go.Proofs.YtejgenhmhahgeaaDoor.T Go.Proofs.YtejgenhmhahgeaaDoorW.PrintWords Go.Proofs.YtejgenhmhahgeaaDoorW.PrintLast Go.Proofs.YtejgenhmhahgeaaDoorW.PrintMore

theorem own_rd (l : List S42) (i : Int) : rd_T63 (own l) i = ⟨(rd_T42 l i).f0, (rd_T42 l i).f1⟩ := by
 unfold rd_T63 rd_T42 own
 rw [List.getD_eq_getElem?_getD, List.getD_eq_getElem?_getD, List.getElem?_map]
 cases l[i.toNat]? <;> rfl
def rclsB (l : List S63) (i : Nat) : Bool := decide (¬ F l i > 1000000) && (decide (¬ P l i < 0) && (decide (¬ P l i > 1000000) && (if i = 0 then true else decide (¬ F l (i - 1) ≥ F l i))))
theorem rvalid_step (s : ByteArray) (l : List S42) (hl : l.length ≤ 100000) (k i : Nat) (hi : i < l.length) : culetref44_Valid.l0 (k + 1) (i : Int) s l = if rclsB (own l) i = true then culetref44_Valid.l0 k ((i + 1 : Nat) : Int) s l else some false := by
 have hp : wrap64 ((i : Int) + 1) = ((i + 1 : Nat) : Int) := wrap_nat (by omega)
 simp only [culetref44_Valid.l0]
 rw [if_pos (by omega), if_pos (by omega), hp]
 unfold rclsB F P
 simp only [own_rd]
 cases i with
 | zero =>
  simp only [Int.natCast_zero]
  by_cases a : (rd_T42 l 0).f0 > 1000000 <;> by_cases b : (rd_T42 l 0).f1 < 0 <;> by_cases c : (rd_T42 l 0).f1 > 1000000 <;> simp [a, b, c]
 | succ j =>
  have h1 : wrap64 (((j + 1 : Nat) : Int) - 1) = (j : Int) := by unfold wrap64; omega
  rw [h1]
  have h3 : (((j + 1 : Nat) : Int) > 0) = True := eq_true (by omega)
  have h4 : (0 ≤ (j : Int)) = True := eq_true (by omega)
  have h5 : ((j : Int) < (l.length : Int)) = True := eq_true (by omega)
  simp only [h3, h4, h5, if_true, Nat.succ_ne_zero, Nat.add_sub_cancel]
  by_cases a : (rd_T42 l ((j + 1 : Nat) : Int)).f0 > 1000000
  ·
   simp only [a, if_true, not_true, decide_false, Bool.false_and, Bool.false_eq_true, if_false]
  by_cases b : (rd_T42 l ((j + 1 : Nat) : Int)).f1 < 0
  ·
   simp only [a, b, if_true, not_true, decide_false, Bool.false_and, Bool.and_false, Bool.false_eq_true, if_false]
  by_cases c : (rd_T42 l ((j + 1 : Nat) : Int)).f1 > 1000000
  ·
   simp only [a, b, c, if_true, not_true, decide_false, Bool.false_and, Bool.and_false, Bool.false_eq_true, if_false]
  by_cases d : (rd_T42 l (j : Int)).f0 ≥ (rd_T42 l ((j + 1 : Nat) : Int)).f0
  ·
   simp only [a, b, c, d, if_true, not_true, decide_false, Bool.false_and, Bool.and_false, Bool.false_eq_true, if_false]
  ·
   simp only [a, b, c, d, if_true, not_false_eq_true, decide_true, Bool.true_and, if_false]
theorem rvalid_l (s : ByteArray) (l : List S42) (hl : l.length ≤ 100000) : ∀ (d i : Nat), i + d = l.length → Ev (fun k => culetref44_Valid.l0 k (i : Int) s l) ((List.range' i d).all (rclsB (own l)))
 | 0, i, h => by
  obtain rfl : i = l.length := by omega
  refine Ev.step (f := fun _ => some true) (fun k => ?_) (Ev.now _)
  simp only [culetref44_Valid.l0]; rw [if_neg (by omega)]
 | d + 1, i, h => by
  have hi : i < l.length := by omega
  rw [List.range'_succ, List.all_cons]
  cases hc : rclsB (own l) i with
  | true =>
   rw [Bool.true_and]
   exact Ev.step (f := fun k => culetref44_Valid.l0 k ((i + 1 : Nat) : Int) s l) (fun k => by rw [rvalid_step s l hl k i hi, if_pos hc]) (rvalid_l s l hl d (i + 1) (by omega))
  | false =>
   rw [Bool.false_and]
   exact Ev.step (f := fun _ => some false) (fun k => by rw [rvalid_step s l hl k i hi, hc]; rfl) (Ev.now _)
theorem all_cls (l : List S63) (n : Nat) : (List.range' 0 (n + 1)).all (clsB l) = (decide (F l 0 = 0) && (List.range' 0 (n + 1)).all (rclsB l)) := by
 rw [List.range'_succ, List.all_cons, List.all_cons]
 have e : (List.range' (0 + 1) n).all (clsB l) = (List.range' (0 + 1) n).all (rclsB l) := by
  refine Bool.eq_iff_iff.2 ?_
  rw [List.all_eq_true, List.all_eq_true]
  refine forall_congr' fun x => forall_congr' fun hx => ?_
  have : x ≠ 0 := by have := (List.mem_range'_1.1 hx).1; omega
  unfold clsB rclsB
  rw [if_neg this, if_neg this]
 rw [e]
 unfold clsB rclsB
 simp only [if_true, Bool.and_true]
 generalize (List.range' (0 + 1) n).all _ = q
 by_cases h : F l 0 = 0
 ·
  simp [h]
 ·
  simp [h]
theorem rvalid_ev (s : ByteArray) (hs : s.size ≤ 1000) (l : List S42) (hl : l.length ≤ 100000) : Ev (fun k => culetref44_Valid.f k s l) (vB s (own l)) := by
 have hn : s.data.toList.length = s.size := by rw [Array.length_toList]; rfl
 unfold culetref44_Valid.f
 have jt : Ev (fun k => culetref44_Valid.j0 k true s l) false := Ev.step (f := fun _ => some false) (fun k => by simp only [culetref44_Valid.j0, if_true]) (Ev.now _)
 refine Ev.bind (a := nameB s.data.toList) ?_ ?_
 ·
  have := rname_ev s.data.toList (by omega)
  rwa [← mk_of s] at this
 ·
  unfold vB tailB
  rw [own_length]
  cases nameB s.data.toList with
  | false => simp only [Bool.false_eq_true, if_false, Bool.false_and, Bool.and_false]; exact jt
  | true =>
   simp only [if_true, Bool.true_and]
   by_cases h1 : 1 ≤ l.length
   ·
    by_cases h2 : l.length ≤ 20
    ·
     have e1 : ¬ (l.length : Int) < 1 := by omega
     have e2 : ¬ (l.length : Int) > 20 := by omega
     have e3 : 0 < (l.length : Int) := by omega
     simp only [e1, e2, e3, if_true, if_false, decide_eq_true h1, decide_eq_true h2, Bool.and_true]
     obtain ⟨n, hn⟩ : ∃ n, l.length = n + 1 := ⟨l.length - 1, by omega⟩
     rw [hn, all_cls]
     have hz : F (own l) 0 = (rd_T42 l 0).f0 := by unfold F; rw [own_rd]; rfl
     rw [hz]
     by_cases h0 : (rd_T42 l 0).f0 = 0
     ·
      rw [h0, decide_eq_true rfl, Bool.true_and, ← hn]
      refine Ev.step (f := fun k => culetref44_Valid.l0 k ((0 : Nat) : Int) s l) (fun k => ?_) (rvalid_l s l hl l.length 0 (by omega))
      simp only [culetref44_Valid.j0]; rfl
     ·
      rw [decide_eq_false h0, Bool.false_and, show ((rd_T42 l 0).f0 != 0) = true from bne_iff_ne.2 h0]
      exact jt
    ·
     have e1 : ¬ (l.length : Int) < 1 := by omega
     have e2 : (l.length : Int) > 20 := by omega
     simp only [e1, e2, if_true, if_false, decide_eq_false h2, Bool.and_false]
     exact jt
   ·
    have e1 : (l.length : Int) < 1 := by omega
    simp only [e1, if_true, decide_eq_false h1, Bool.false_and, Bool.and_false]
    exact jt
def fewB (s : ByteArray) (l : List S42) : Bool := decide (l.length ≤ 22) && decide (s.size ≤ 40)
theorem few_ev (s : ByteArray) (l : List S42) : culetref44_Few.f s l = some (fewB s l) := by
 unfold culetref44_Few.f fewB
 by_cases h : l.length ≤ 22
 ·
  rw [if_pos (by omega), decide_eq_true h, Bool.true_and]; exact congrArg some (decide_eq_decide.2 (by omega))
 ·
  rw [if_neg (by omega), decide_eq_false h, Bool.false_and]

theorem digits_le : ∀ (u : Nat), (Lib.decDigits u).length ≤ u + 1 := by
 intro u
 induction u using Nat.strongRecOn with
 | ind u ih =>
  rw [Lib.decDigits]
  split
  ·
   simp
  ·
   have := ih (u / 10) (by omega)
   rw [List.length_append, List.length_singleton]
   omega
theorem itoa_le {n : Int} (h0 : 0 ≤ n) (h1 : n ≤ 1000000) : (Lib.itoa n).length ≤ 1000001 := by
 unfold Lib.itoa
 rw [if_neg (by omega)]
 have := digits_le n.toNat
 omega
theorem itoa_ev {n : Int} (h0 : 0 ≤ n) (h1 : n ≤ 1000000) : strconv_Itoa.f n = some (mk (Lib.itoa n)) := by
 unfold strconv_Itoa.f
 rw [if_pos ⟨by omega, by omega⟩]; rfl
def partB (x : S63) : Bs := [32] ++ Lib.itoa x.f0 ++ [64] ++ Lib.itoa x.f1
def printB (s : ByteArray) (l : List S63) : Bs := s.data.toList ++ [58] ++ Lib.join (l.map partB) [44]
theorem part_le {s : ByteArray} {l : List S63} (v : V s l) {i : Nat} (hi : i < l.length) : (partB l[i]).length ≤ 2000004 := by
 have a := itoa_le (v.nn hi) (v.hi i hi)
 have b := itoa_le (v.p0 i hi) (v.p1 i hi)
 unfold F at a
 unfold P at b
 rw [rd63 hi] at a b
 unfold partB
 simp only [List.length_append, List.length_singleton]
 omega
theorem join_le (sep : Bs) (hs : sep.length = 1) (B : Nat) : ∀ (l : List Bs), (∀ x ∈ l, x.length ≤ B) → (Lib.join l sep).length ≤ l.length * (B + 1) := by
 have tl : ∀ (l : List Bs), (∀ x ∈ l, x.length ≤ B) → (Lib.joinTail sep l).length ≤ l.length * (B + 1) := by
  intro l
  unfold Lib.joinTail
  induction l with
  | nil => intro _; simp
  | cons x r ih =>
   intro h
   have h1 := ih (fun y hy => h y (List.mem_cons_of_mem _ hy))
   have h2 := h x List.mem_cons_self
   rw [List.map_cons, List.flatten_cons, List.length_append, List.length_append, hs, List.length_cons, Nat.add_mul]
   omega
 intro l h
 cases l with
 | nil => rw [Lib.join_nil]; simp
 | cons x r =>
  have h1 := tl r (fun y hy => h y (List.mem_cons_of_mem _ hy))
  have h2 := h x List.mem_cons_self
  rw [Lib.join_cons, List.length_append, List.length_cons, Nat.add_mul]
  omega
theorem print_l (s : ByteArray) (hs : s.size ≤ 1000) {l : List S63} (v : V s l) : ∀ (d i : Nat), i + d = l.length → Ev (fun k => tariff_Print.l0 k ((l.take i).map fun x => mk (partB x)) l (l.length : Int) (i : Int) s l) (mk (printB s l), 0)
 | 0, i, h => by
  obtain rfl : i = l.length := by omega
  have h20 := v.len20
  refine Ev.step (f := fun _ => some (mk (printB s l), 0)) (fun k => ?_) (Ev.now _)
  have hj : (Lib.join (l.map partB) [44]).length ≤ 20 * 2000005 := by
   refine Nat.le_trans (join_le [44] rfl 2000004 _ (fun x hx => ?_)) (by rw [List.length_map]; exact Nat.mul_le_mul_right _ h20)
   obtain ⟨y, hy, rfl⟩ := List.mem_map.1 hx
   obtain ⟨i, hi, rfl⟩ := List.getElem_of_mem hy
   exact part_le v hi
  have hm : ((l.map fun x => mk (partB x)).map (·.data.toList)) = l.map partB := by
   rw [List.map_map]; exact List.map_congr_left (fun x _ => mk_data _)
  have e1 : strings_Join.f (l.map fun x => mk (partB x)) (⟨#[44]⟩ : ByteArray) = some (mk (Lib.join (l.map partB) [44])) := by
   unfold strings_Join.f
   have hc : (l.map fun x => mk (partB x)).length ≤ 140737488355328 ∧ (Lib.join ((l.map fun x => mk (partB x)).map (·.data.toList)) (⟨#[44]⟩ : ByteArray).data.toList).length ≤ 140737488355328 := by
    rw [hm]
    exact ⟨by rw [List.length_map]; omega, Nat.le_trans hj (by decide)⟩
   rw [if_pos hc, hm]; rfl
  simp only [tariff_Print.l0]
  have c1 : s.size + 1 ≤ 9223372036854775807 := by omega
  have c2 : (s ++ (⟨#[58]⟩ : ByteArray)).size + (mk (Lib.join (l.map partB) [44])).size ≤ 9223372036854775807 := by
   rw [ByteArray.size_append, mk_size, show (⟨#[58]⟩ : ByteArray).size = 1 from rfl]; omega
  rw [if_neg (by omega), if_pos c1, List.take_length, e1, Option.bind_some, if_pos c2]
  have hz : (s ++ (⟨#[58]⟩ : ByteArray)) ++ mk (Lib.join (l.map partB) [44]) = mk (printB s l) := by
   have e0 : s ++ (⟨#[58]⟩ : ByteArray) = mk (s.data.toList ++ [58]) := by
    conv => lhs; rw [mk_of s]
    rw [show (⟨#[58]⟩ : ByteArray) = mk [58] from rfl, mk_append]
   rw [e0, mk_append]; rfl
  rw [hz]
 | d + 1, i, h => by
  have hi : i < l.length := by omega
  have h20 := v.len20
  refine Ev.step (f := fun k => tariff_Print.l0 k ((l.take (i + 1)).map fun x => mk (partB x)) l (l.length : Int) ((i + 1 : Nat) : Int) s l) (fun k => ?_) (print_l s hs v d (i + 1) (by omega))
  have e : (l.take (i + 1)).map (fun x => mk (partB x)) = (l.take i).map (fun x => mk (partB x)) ++ [mk (partB l[i])] := by rw [List.take_succ_eq_append_getElem hi, List.map_append]; rfl
  have hn : ((l.take i).map (fun x => mk (partB x))).length < 8796093022208 := by rw [List.length_map, List.length_take]; omega
  have a := itoa_le (v.nn hi) (v.hi i hi)
  have b := itoa_le (v.p0 i hi) (v.p1 i hi)
  have a2 := itoa_ev (v.nn hi) (v.hi i hi)
  have b2 := itoa_ev (v.p0 i hi) (v.p1 i hi)
  unfold F at a a2
  unfold P at b b2
  have c1 : 1 + (mk (Lib.itoa (rd_T63 l (i : Int)).f0)).size ≤ 9223372036854775807 := by rw [mk_size]; omega
  have c2 : ((⟨#[32]⟩ : ByteArray) ++ mk (Lib.itoa (rd_T63 l (i : Int)).f0)).size + 1 ≤ 9223372036854775807 := by rw [ByteArray.size_append, mk_size, show (⟨#[32]⟩ : ByteArray).size = 1 from rfl]; omega
  have c3 : (((⟨#[32]⟩ : ByteArray) ++ mk (Lib.itoa (rd_T63 l (i : Int)).f0)) ++ (⟨#[64]⟩ : ByteArray)).size + (mk (Lib.itoa (rd_T63 l (i : Int)).f1)).size ≤ 9223372036854775807 := by rw [ByteArray.size_append, ByteArray.size_append, mk_size, mk_size, show (⟨#[32]⟩ : ByteArray).size = 1 from rfl, show (⟨#[64]⟩ : ByteArray).size = 1 from rfl]; omega
  have ep : (((⟨#[32]⟩ : ByteArray) ++ mk (Lib.itoa (rd_T63 l (i : Int)).f0)) ++ (⟨#[64]⟩ : ByteArray)) ++ mk (Lib.itoa (rd_T63 l (i : Int)).f1) = mk (partB l[i]) := by
   rw [show (⟨#[32]⟩ : ByteArray) = mk [32] from rfl, show (⟨#[64]⟩ : ByteArray) = mk [64] from rfl, mk_append, mk_append, mk_append, rd63 hi]; rfl
  simp only [tariff_Print.l0]
  rw [if_pos (by omega), if_pos (by omega), if_pos (by omega), a2, Option.bind_some, if_pos c1, if_pos c2, b2, Option.bind_some, if_pos c3, if_pos hn, wrap_nat (by omega), ep, e]
theorem Print_ev (s : ByteArray) (hs : s.size ≤ 1000) (l : List S63) (hl : l.length ≤ 100000) : Ev (fun k => tariff_Print.f k s l) (if vB s l = true then (mk (printB s l), 0) else ((⟨#[]⟩ : ByteArray), 1)) := by
 unfold tariff_Print.f
 refine Ev.bind (valid_ev s hs l hl) ?_
 cases hv : vB s l with
 | false => simp only [Bool.false_eq_true, if_false]; exact Ev.now _
 | true => simp only [if_true]; exact print_l s hs (V_of hv) l.length 0 (by omega)
end Go.Proofs.YtejgenhmhahgeaaDoor.Plain
end
section
namespace Go.Proofs.YtejgenhmhahgeaaDoor.Plain
set_option linter.unusedVariables false
set_option linter.unusedSimpArgs false
open Go Go.RowKit Go.Proofs.YtejgenhmhahgeaaDoor.T Go.Proofs.YtejgenhmhahgeaaDoorW.PrintWords Go.Proofs.YtejgenhmhahgeaaDoorW.PrintLast Go.Proofs.YtejgenhmhahgeaaDoorW.PrintMore

def atoiV (b : Bs) : Int := match Lib.atoiAll b with | .ok v => v | .range => Lib.atoiSat b | _ => 0
theorem atoi_ev (b : Bs) (h : b.length ≤ 1000) : ∃ q, strconv_Atoi.f (mk b) = some (atoiV b, q) := by
 have hc : (mk b).size ≤ 281474976710656 := by rw [mk_size]; omega
 unfold strconv_Atoi.f atoiV
 rw [if_pos hc, mk_data]
 cases Lib.atoiAll b
 ·
  exact ⟨true, rfl⟩
 ·
  exact ⟨false, rfl⟩
 ·
  exact ⟨false, rfl⟩
theorem cut_le (s sep : Bs) : (Lib.cut s sep).1.length ≤ s.length ∧ (Lib.cut s sep).2.1.length ≤ s.length := by
 unfold Lib.cut
 split
 ·
  exact ⟨by rw [List.length_take]; exact Nat.min_le_right _ _, by rw [List.length_drop]; exact Nat.sub_le _ _⟩
 ·
  exact ⟨Nat.le_refl _, Nat.zero_le _⟩
theorem trim_le (s p : Bs) : (Lib.trimPrefix s p).length ≤ s.length := by
 unfold Lib.trimPrefix
 split
 ·
  rw [List.length_drop]; exact Nat.sub_le _ _
 ·
  exact Nat.le_refl _
def parseC (x : Bs) : S63 := ⟨atoiV (Lib.cut (Lib.trimPrefix x [32]) [64]).1, atoiV (Lib.cut (Lib.trimPrefix x [32]) [64]).2.1⟩
theorem cut_ev (s sep : Bs) (h : s.length ≤ 100000) : strings_Cut.f (mk s) (mk sep) = some (mk (Lib.cut s sep).1, mk (Lib.cut s sep).2.1, (Lib.cut s sep).2.2) := by
 have hc : (mk s).size < 4294967281 := by rw [mk_size]; omega
 unfold strings_Cut.f
 rw [if_pos hc, mk_data, mk_data]; rfl
theorem trim_ev (s p : Bs) : strings_TrimPrefix.f (mk s) (mk p) = some (mk (Lib.trimPrefix s p)) := by
 unfold strings_TrimPrefix.f
 rw [mk_data, mk_data]; rfl
def fin (a0 name : Bs) (l : List S63) : ByteArray × List S63 × Int := if vB (mk name) l = true ∧ printB (mk name) l = a0 then (mk name, l, 0) else ((⟨#[]⟩ : ByteArray), [], 4)
theorem parse_l (a0 name : Bs) (hn : name.length ≤ 1000) (xs : List Bs) (hx : ∀ x ∈ xs, x.length ≤ 1000) (hl : xs.length ≤ 1000) : ∀ (d i : Nat), i + d = xs.length → Ev (fun k => tariff_Parse.l0 k (mk a0) (xs.map mk) ((xs.map mk).length : Int) (i : Int) (mk name) ((xs.take i).map parseC)) (fin a0 name (xs.map parseC))
 | 0, i, h => by
  obtain rfl : i = xs.length := by omega
  refine Ev.step (f := fun k => (tariff_Print.f k (mk name) (xs.map parseC)).bind fun bt => (if bt.2 = 0 then (if bt.1.toList = (mk a0).toList then (some (mk name, xs.map parseC, 0)) else (some ((⟨#[]⟩ : ByteArray), ([] : List (S63)), 4))) else (some ((⟨#[]⟩ : ByteArray), ([] : List (S63)), 4)))) (fun k => ?_) ?_
  ·
   simp only [tariff_Parse.l0]; rw [if_neg (by rw [List.length_map]; omega), List.take_length]
  ·
   refine Ev.bind (Print_ev (mk name) (by rw [mk_size]; exact hn) _ (by rw [List.length_map]; omega)) ?_
   unfold fin
   cases hv : vB (mk name) (xs.map parseC) with
   | false => simp only [Bool.false_eq_true, if_false, false_and]; exact Ev.now _
   | true =>
    simp only [if_true, true_and, mk_toList]
    by_cases hp : printB (mk name) (xs.map parseC) = a0
    ·
     rw [if_pos hp, if_pos hp]; exact Ev.now _
    ·
     rw [if_neg hp, if_neg hp]; exact Ev.now _
 | d + 1, i, h => by
  have hi : i < xs.length := by omega
  have hxi := hx xs[i] (List.getElem_mem hi)
  refine Ev.step (f := fun k => tariff_Parse.l0 k (mk a0) (xs.map mk) ((xs.map mk).length : Int) ((i + 1 : Nat) : Int) (mk name) ((xs.take (i + 1)).map parseC)) (fun k => ?_) (parse_l a0 name hn xs hx hl d (i + 1) (by omega))
  have e : (xs.take (i + 1)).map parseC = (xs.take i).map parseC ++ [parseC xs[i]] := by rw [List.take_succ_eq_append_getElem hi, List.map_append]; rfl
  have hm : ((xs.take i).map parseC).length < 8796093022208 := by rw [List.length_map, List.length_take]; omega
  have er : rdOf ByteArray.empty (xs.map mk) (i : Int) = mk xs[i] := by
   unfold rdOf
   rw [Int.toNat_natCast, List.getD_eq_getElem?_getD, List.getElem?_map, List.getElem?_eq_getElem hi]; rfl
  have t1 := trim_le xs[i] [32]
  obtain ⟨c1, c2⟩ := cut_le (Lib.trimPrefix xs[i] [32]) [64]
  obtain ⟨q1, e1⟩ := atoi_ev (Lib.cut (Lib.trimPrefix xs[i] [32]) [64]).1 (by omega)
  obtain ⟨q2, e2⟩ := atoi_ev (Lib.cut (Lib.trimPrefix xs[i] [32]) [64]).2.1 (by omega)
  have hlen : (xs.map mk).length = xs.length := List.length_map _
  simp only [tariff_Parse.l0]
  rw [if_pos (by omega), if_pos (by omega), if_pos (by omega), er, show (⟨#[32]⟩ : ByteArray) = mk [32] from rfl, show (⟨#[64]⟩ : ByteArray) = mk [64] from rfl, trim_ev, Option.bind_some, cut_ev _ _ (by omega), Option.bind_some]
  rw [e1, Option.bind_some, e2, Option.bind_some, if_pos hm, wrap_nat (by omega), e]; rfl
theorem splitB_size (sep : ByteArray) : ∀ (k : Nat) (s x : ByteArray), x ∈ Lib.splitB sep 0 k s → x.size ≤ s.size
 | 0, s, x, h => by
  unfold Lib.splitB at h
  rw [List.mem_singleton.1 h]; exact Nat.le_refl _
 | k + 1, s, x, h => by
  unfold Lib.splitB at h
  split at h
  ·
   rw [List.mem_singleton.1 h]; exact Nat.le_refl _
  ·
   rcases List.mem_cons.1 h with rfl | h
   ·
    rw [ByteArray.size_extract]; omega
   ·
    have := splitB_size sep k _ x h
    rw [ByteArray.size_extract] at this
    omega
/-- The parts between commas. -/
def commas (s : Bs) : List Bs := (Lib.splitB (mk [44]) 0 (Lib.countB (mk s) (mk [44])) (mk s)).map (·.data.toList)
theorem commas_mk (s : Bs) : (commas s).map mk = Lib.splitB (mk [44]) 0 (Lib.countB (mk s) (mk [44])) (mk s) := by
 unfold commas
 rw [List.map_map]
 conv => rhs; rw [← List.map_id (Lib.splitB (mk [44]) 0 (Lib.countB (mk s) (mk [44])) (mk s))]
 exact List.map_congr_left (fun x _ => (mk_of x).symm)
theorem commas_len (s : Bs) (x : Bs) (h : x ∈ commas s) : x.length ≤ s.length := by
 unfold commas at h
 obtain ⟨y, hy, rfl⟩ := List.mem_map.1 h
 have := splitB_size _ _ _ _ hy
 rw [mk_size] at this
 rw [Array.length_toList]; exact this
theorem commas_count (s : Bs) : (commas s).length ≤ s.length + 1 := by
 unfold commas
 rw [List.length_map, Lib.splitB_all (mk [44]) (by decide) 0 _ (mk s) rfl]
 have := Lib.countB_le (mk [44]) (by decide) (mk s).size (mk s) (Nat.le_refl _)
 rw [mk_size] at this
 omega
def parseR (a0 : Bs) : ByteArray × List S63 × Int := if (Lib.cut a0 [58]).2.2 = true ∧ a0.length ≤ 400 then fin a0 (Lib.cut a0 [58]).1 ((commas (Lib.cut a0 [58]).2.1).map parseC) else ((⟨#[]⟩ : ByteArray), [], 4)
theorem Parse_ev (a0 : Bs) (h0 : a0.length ≤ 100000) : Ev (fun k => tariff_Parse.f k (mk a0)) (parseR a0) := by
 obtain ⟨c1, c2⟩ := cut_le a0 [58]
 unfold tariff_Parse.f parseR
 rw [show (⟨#[58]⟩ : ByteArray) = mk [58] from rfl, cut_ev _ _ h0]
 simp only [Option.bind_some, mk_size]
 have bad : Ev (fun k => tariff_Parse.j0 k (mk a0) (mk (Lib.cut a0 [58]).1) (mk (Lib.cut a0 [58]).2.1) true) ((⟨#[]⟩ : ByteArray), ([] : List S63), 4) := Ev.step (f := fun _ => some ((⟨#[]⟩ : ByteArray), ([] : List S63), 4)) (fun k => by simp only [tariff_Parse.j0, if_true]) (Ev.now _)
 cases hc : (Lib.cut a0 [58]).2.2 with
 | false => simp only [Bool.false_eq_true, if_false, false_and]; exact bad
 | true =>
  simp only [if_true, true_and]
  by_cases h4 : a0.length ≤ 400
  ·
   rw [if_pos h4, decide_eq_false (by omega)]
   refine Ev.step (f := fun k => tariff_Parse.l0 k (mk a0) ((commas (Lib.cut a0 [58]).2.1).map mk) (((commas (Lib.cut a0 [58]).2.1).map mk).length : Int) ((0 : Nat) : Int) (mk (Lib.cut a0 [58]).1) (((commas (Lib.cut a0 [58]).2.1).take 0).map parseC)) (fun k => ?_) (parse_l a0 _ (by omega) _ (fun x hx => ?_) ?_ (commas (Lib.cut a0 [58]).2.1).length 0 (by omega))
   ·
    have hs : strings_Split.f (mk (Lib.cut a0 [58]).2.1) (mk [44]) = some ((commas (Lib.cut a0 [58]).2.1).map mk) := by
     unfold strings_Split.f
     have hh : (mk (Lib.cut a0 [58]).2.1).size < 4294967281 ∧ 1 ≤ (mk [44]).size := ⟨by rw [mk_size]; omega, by decide⟩
     rw [if_pos hh, commas_mk]
    simp only [tariff_Parse.j0]
    rw [if_neg (by simp), show (⟨#[44]⟩ : ByteArray) = mk [44] from rfl, hs]; rfl
   ·
    have := commas_len _ x hx; omega
   ·
    have := commas_count (Lib.cut a0 [58]).2.1; omega
  ·
   rw [if_neg h4, decide_eq_true (by omega)]; exact bad

def EX : Bs := [114, 117, 98, 121, 58, 32, 48, 64, 49, 48, 48, 44, 32, 53, 48, 48, 64, 51, 48, 48]
def RUBY : List S63 := [⟨0, 100⟩, ⟨500, 300⟩]
theorem itoa_ex : Lib.itoa 0 = [48] ∧ Lib.itoa 100 = [49, 48, 48] ∧ Lib.itoa 500 = [53, 48, 48] ∧ Lib.itoa 300 = [51, 48, 48] := by
 have e : ∀ n : Nat, Lib.decDigits n = if n < 10 then [UInt8.ofNat (48 + n)] else Lib.decDigits (n / 10) ++ [UInt8.ofNat (48 + n % 10)] := by
  intro n
  rw [Lib.decDigits]
  split <;> rfl
 unfold Lib.itoa
 refine ⟨?_, ?_, ?_, ?_⟩
 ·
  rw [if_neg (by decide), e]; rfl
 ·
  rw [if_neg (by decide), e, if_neg (by decide), e, if_neg (by decide), e]; rfl
 ·
  rw [if_neg (by decide), e, if_neg (by decide), e, if_neg (by decide), e]; rfl
 ·
  rw [if_neg (by decide), e, if_neg (by decide), e, if_neg (by decide), e]; rfl
theorem vB_ex : vB (mk [114, 117, 98, 121]) RUBY = true := by decide +kernel
theorem parse_ex : parseR EX = (mk [114, 117, 98, 121], RUBY, 0) := by
 have h1 : Lib.cut EX [58] = ([114, 117, 98, 121], [32, 48, 64, 49, 48, 48, 44, 32, 53, 48, 48, 64, 51, 48, 48], true) := by decide +kernel
 have h2 : (commas [32, 48, 64, 49, 48, 48, 44, 32, 53, 48, 48, 64, 51, 48, 48]) = [[32, 48, 64, 49, 48, 48], [32, 53, 48, 48, 64, 51, 48, 48]] := by decide +kernel
 have h3 : parseC [32, 48, 64, 49, 48, 48] = ⟨0, 100⟩ := by rfl
 have h4 : parseC [32, 53, 48, 48, 64, 51, 48, 48] = ⟨500, 300⟩ := by rfl
 unfold parseR
 rw [h1]
 dsimp only
 rw [if_pos ⟨rfl, by decide⟩, h2]
 unfold fin
 have h5 : printB (mk [114, 117, 98, 121]) [⟨0, 100⟩, ⟨500, 300⟩] = EX := by
  unfold printB
  rw [mk_data, List.map_cons, List.map_cons, List.map_nil]
  unfold partB
  dsimp only
  rw [itoa_ex.1, itoa_ex.2.1, itoa_ex.2.2.1, itoa_ex.2.2.2]
  decide +kernel
 rw [List.map_cons, List.map_cons, List.map_nil, h3, h4, if_pos ⟨vB_ex, h5⟩]; rfl
theorem awake_ev : Ev (fun k => culetlaw44_awake.f k) true := by
 unfold culetlaw44_awake.f
 refine Ev.bind (a := (mk [114, 117, 98, 121], RUBY, 0)) ?_ ?_
 ·
  have := Parse_ev EX (by decide)
  rw [parse_ex] at this
  exact this
 have hs : (mk [114, 117, 98, 121]).size ≤ 1000 := by decide
 have hl : RUBY.length ≤ 100000 := by decide
 refine Ev.bind (a := (40, 0)) ?_ ?_
 ·
  have := Value_ev _ hs RUBY hl 400
  rwa [show ans (mk [114, 117, 98, 121]) RUBY 400 (valN RUBY 400, 0) = (40, 0) by decide +kernel] at this
 refine Ev.bind (a := (150, 0)) ?_ ?_
 ·
  have := Value_ev _ hs RUBY hl 500
  rwa [show ans (mk [114, 117, 98, 121]) RUBY 500 (valN RUBY 500, 0) = (150, 0) by decide +kernel] at this
 refine Ev.bind (a := (500, 0)) ?_ ?_
 ·
  have := Next_ev _ hs RUBY hl 0
  rwa [show ans (mk [114, 117, 98, 121]) RUBY 0 (nextR RUBY 0) = (500, 0) by decide +kernel] at this
 simp only [if_true]
 refine Ev.bind (a := true) ?_ ?_
 ·
  have := Fair_ev _ hs RUBY hl
  rwa [show (vB (mk [114, 117, 98, 121]) RUBY && fairB RUBY) = true by decide +kernel] at this
 simp only [if_true]
 refine Ev.bind (f := fun _ t => some t) (a := true) ?_ (Ev.now _)
 have := valid_ev _ hs RUBY hl
 rwa [vB_ex] at this
end Go.Proofs.YtejgenhmhahgeaaDoor.Plain
end
