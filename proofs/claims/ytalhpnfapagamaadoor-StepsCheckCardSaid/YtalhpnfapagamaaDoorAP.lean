-- Written by this session's own programs; what the law does not lean on is left out. Lean checks it.
import Derived.Test.YtalhpnfapagamaaDoorAS
import Derived.Test.YtalhpnfapagamaaDoorAR
import Derived.Test.YtalhpnfapagamaaDoorASa
import Derived.Test.YtalhpnfapagamaaDoorASx12
import Derived.Test.YtalhpnfapagamaaDoorASx22
import Derived.Test.YtalhpnfapagamaaDoorASx11
import Derived.Test.YtalhpnfapagamaaDoorASx26
import Derived.Test.YtalhpnfapagamaaDoorASx10
section
namespace Go.Proofs.YtalhpnfapagamaaDoor.Plain
open Go Go.RowKit Go.Proofs.YtalhpnfapagamaaDoor.S Go.Proofs.YtalhpnfapagamaaDoorW.PrintWords Go.Proofs.YtalhpnfapagamaaDoorW.PrintLast
abbrev Bs := List UInt8
def isL (c : UInt8) : Bool := decide (97 ≤ c.toNat ∧ c.toNat ≤ 122) || decide (65 ≤ c.toNat ∧ c.toNat ≤ 90)
def isD (c : UInt8) : Bool := decide (48 ≤ c.toNat ∧ c.toNat ≤ 57)
def isW (c : UInt8) : Bool := isL c || isD c || decide (c.toNat = 45) || decide (c.toNat = 95)
def runB (p : UInt8 → Bool) : Bs → Nat
 | [] => 0
 | c :: t => if p c then runB p t + 1 else 0
def wordB : Bs → Bool
 | [] => false
 | c :: t => isL c && t.all isW
def mk (l : Bs) : ByteArray := ⟨l.toArray⟩
theorem mk_of (s : ByteArray) : s = mk s.data.toList := by cases s; simp [mk]
theorem mk_size (l : Bs) : (mk l).size = l.length := by simp [mk, ByteArray.size]
theorem mk_data (l : Bs) : (mk l).data.toList = l := by simp [mk]
theorem mk_toList (l : Bs) : (mk l).toList = l := by rw [ByteArray.toList_eq, mk_data]
theorem bt_mk (l : Bs) (i : Nat) (h : i < l.length) : bt (mk l) (i : Int) = ((l[i]'h).toNat : Int) := by
 unfold bt
 rw [dif_pos (by rw [mk_size]; simpa using h)]
 rfl
theorem bt_head (c : UInt8) (t : Bs) : bt (mk (c :: t)) 0 = (c.toNat : Int) := bt_mk (c :: t) 0 (by simp)
theorem wrap_nat {i : Nat} (h : i ≤ 9223372036854775806) : wrap64 ((i : Int) + 1) = ((i + 1 : Nat) : Int) := by unfold wrap64; omega
theorem wrap_id {i : Int} (h0 : -9223372036854775808 ≤ i) (h : i ≤ 9223372036854775807) : wrap64 i = i := by unfold wrap64; omega

theorem letter_ev (c : UInt8) : lexer_letter.f (c.toNat : Int) = some (isL c) := by
 unfold lexer_letter.f isL
 repeat' split
 all_goals (congr 1; rw [Bool.eq_iff_iff]; simp only [Bool.or_eq_true, decide_eq_true_eq, true_iff, Bool.false_eq_true, false_iff]; omega)
theorem digit_ev (c : UInt8) : lexer_digit.f (c.toNat : Int) = some (isD c) := by
 unfold lexer_digit.f isD
 repeat' split
 all_goals (congr 1; rw [Bool.eq_iff_iff]; simp only [decide_eq_true_eq, Bool.false_eq_true, false_iff]; omega)
theorem wordc_ev (c : UInt8) : lexer_wordc.f (c.toNat : Int) = some (isW c) := by
 unfold lexer_wordc.f isW
 rw [letter_ev, digit_ev]
 cases isL c with
 | true => rfl
 | false =>
  cases isD c with
  | true => rfl
  | false =>
   simp only [Option.bind_some, Bool.false_or, Bool.false_eq_true, if_false]
   by_cases h : c.toNat = 45
   ·
    rw [if_pos (by omega)]; simp [h]
   ·
    rw [if_neg (by omega)]; congr 1
    rw [Bool.eq_iff_iff, beq_iff_eq, Bool.or_eq_true, decide_eq_true_eq, decide_eq_true_eq]; omega
theorem runB_cons (p : UInt8 → Bool) (c : UInt8) (t : Bs) : runB p (c :: t) = if p c = true then runB p t + 1 else 0 := rfl

theorem runw_l (l : Bs) (hl : l.length ≤ 140737488351232) : ∀ (d i : Nat), i + d = l.length → Ev (fun k => lexer_run_word.l0 k (mk l) (i : Int)) ((i + runB isW (l.drop i) : Nat) : Int)
 | 0, i, h => by
  obtain rfl : i = l.length := by omega
  refine Ev.step (f := fun _ => some ((l.length : Nat) : Int)) (fun k => ?_) (by simpa [runB] using Ev.now _)
  simp only [lexer_run_word.l0]; rw [if_neg (by rw [mk_size]; omega)]
 | d + 1, i, h => by
  have hi : i < l.length := by omega
  rw [List.drop_eq_getElem_cons hi, runB_cons]
  cases hp : isW l[i] with
  | true =>
   refine Ev.step (f := fun k => lexer_run_word.l0 k (mk l) ((i + 1 : Nat) : Int)) (fun k => ?_) (by have := runw_l l hl d (i + 1) (by omega); rw [if_pos rfl, show i + (runB isW (l.drop (i + 1)) + 1) = i + 1 + runB isW (l.drop (i + 1)) by omega]; exact this)
   simp only [lexer_run_word.l0]; rw [if_pos (by rw [mk_size]; omega), if_pos (by omega), bt_mk l i hi, wordc_ev, hp, wrap_nat (by omega)]; rfl
  | false =>
   refine Ev.step (f := fun _ => some (i : Int)) (fun k => ?_) (by rw [if_neg (by simp)]; exact Ev.now _)
   simp only [lexer_run_word.l0]; rw [if_pos (by rw [mk_size]; omega), if_pos (by omega), bt_mk l i hi, wordc_ev, hp]; rfl
theorem runw_ev (l : Bs) (hl : l.length ≤ 140737488351232) : Ev (fun k => lexer_run_word.f k (mk l)) ((runB isW l : Nat) : Int) := by
 have := runw_l l hl l.length 0 (by omega)
 simpa [lexer_run_word.f] using this
theorem runB_eq_length (p : UInt8 → Bool) : ∀ l : Bs, runB p l = l.length ↔ l.all p = true
 | [] => by simp [runB]
 | c :: t => by
  rw [runB_cons, List.all_cons, Bool.and_eq_true, ← runB_eq_length p t, List.length_cons]
  split
  ·
   rename_i h; simp [h]
  ·
   rename_i h; simp [h]

def resB (l : Bs) : Bool := ([[100, 101, 115, 105, 103, 110], [111, 114, 100, 101, 114], [109, 105, 114, 114, 111, 114], [116, 105, 101, 114], [97, 110, 103, 108, 101], [97, 116], [100, 101, 112, 116, 104], [109, 101, 101, 116], [101, 100, 103, 101], [104, 101, 105, 103, 104, 116], [116, 104, 114, 111, 117, 103, 104]] : List Bs).any (fun x => decide (l = x))
theorem res_ev (l : Bs) : lexer_Reserved.f (mk l) = some (resB l) := by
 unfold lexer_Reserved.f resB
 simp only [mk_toList, List.any_cons, List.any_nil, Bool.or_false]
 repeat' split
 all_goals simp_all
def nameB (l : Bs) : Bool := wordB l && decide (l.length ≤ 30) && !resB l
theorem isW_of_L {c : UInt8} (h : isL c = true) : isW c = true := by unfold isW; rw [h]; rfl
def wl : Bs → Int
 | [] => 0
 | c :: t => if isL c = true then ((runB isW t + 1 : Nat) : Int) else 0
theorem wl_cons (c : UInt8) (t : Bs) : wl (c :: t) = if isL c = true then ((runB isW t + 1 : Nat) : Int) else 0 := rfl
theorem word_ev (l : Bs) (hl : l.length ≤ 140737488351232) : Ev (fun k => lexer_word.f k (mk l)) (wl l) := by
 cases l with
 | nil => exact Ev.congr (fun k => by unfold lexer_word.f; rw [mk_toList, if_pos rfl]) (Ev.now 0)
 | cons c t =>
  have hs : ∀ k, lexer_word.f k (mk (c :: t)) = (if isL c = true then ((lexer_run_word.f k (mk (c :: t))).bind fun t110 => some t110) else some 0) := fun k => by
   unfold lexer_word.f
   rw [mk_toList, if_neg (by simp), if_pos (by rw [mk_size]; simp), bt_head, letter_ev]; rfl
  refine Ev.congr hs ?_
  rw [wl_cons]
  cases h : isL c with
  | true =>
   have := Ev.bind (f := fun _ t => some t) (runw_ev (c :: t) hl) (Ev.now _)
   rw [runB_cons, if_pos (isW_of_L h)] at this
   simpa using this
  | false => simpa using Ev.now (0 : Int)
theorem wordB_eq (c : UInt8) (t : Bs) : wordB (c :: t) = (isL c && decide (runB isW t + 1 = (c :: t).length)) := by
 have h : t.all isW = decide (runB isW t + 1 = (c :: t).length) := by
  rw [Bool.eq_iff_iff, decide_eq_true_eq, List.length_cons, ← runB_eq_length]; omega
 rw [wordB, h]
theorem name_ev (l : Bs) (hl : l.length ≤ 140737488351232) : Ev (fun k => lexer_IsName.f k (mk l)) (nameB l) := by
 cases l with
 | nil => exact Ev.congr (f := fun _ => some false) (fun k => by unfold lexer_IsName.f; rw [mk_toList, if_pos rfl]) (Ev.now _)
 | cons c t =>
  unfold nameB
  by_cases h30 : (c :: t).length ≤ 30
  ·
   refine Ev.congr (fun k => by unfold lexer_IsName.f; rw [mk_toList, if_neg (by simp), if_pos (by rw [mk_size]; omega), mk_size, res_ev]) (Ev.bind (word_ev (c :: t) hl) ?_)
   rw [decide_eq_true h30, wordB_eq, Bool.and_true, wl_cons]
   cases h : isL c with
   | false =>
    rw [if_neg (show ¬ (false = true) by simp), if_neg (by rw [List.length_cons]; omega), Bool.false_and]
    exact Ev.now _
   | true =>
    simp only [if_true, Bool.true_and]
    by_cases hr : runB isW t + 1 = (c :: t).length
    ·
     refine Ev.congr (f := fun _ => some (!resB (c :: t))) (fun k => ?_) (by rw [decide_eq_true hr, Bool.true_and]; exact Ev.now _)
     rw [if_pos (by omega)]; rfl
    ·
     refine Ev.congr (f := fun _ => some false) (fun k => ?_) (by rw [decide_eq_false hr, Bool.false_and]; exact Ev.now _)
     rw [if_neg (by omega)]
  ·
   refine Ev.congr (f := fun _ => some false) (fun k => by unfold lexer_IsName.f; rw [mk_toList, if_neg (by simp), if_neg (by rw [mk_size]; omega)]) ?_
   rw [decide_eq_false h30]; simpa using Ev.now false
theorem rletter_ev (c : UInt8) : culetref13_letter.f (c.toNat : Int) = some (isL c) := letter_ev c
theorem rdigit_ev (c : UInt8) : culetref13_digit.f (c.toNat : Int) = some (isD c) := digit_ev c

def RES : List Bs := [[100, 101, 115, 105, 103, 110], [111, 114, 100, 101, 114], [109, 105, 114, 114, 111, 114], [116, 105, 101, 114], [97, 110, 103, 108, 101], [97, 116], [100, 101, 112, 116, 104], [109, 101, 101, 116], [101, 100, 103, 101], [104, 101, 105, 103, 104, 116], [116, 104, 114, 111, 117, 103, 104]]
theorem rres_l (l : Bs) (R : List Bs) (hR : R.length ≤ 100) : ∀ (d i : Nat), i + d = R.length → Ev (fun k => culetref13_Reserved.l0 k (mk l) (R.map mk) (i : Int)) ((R.drop i).any (fun x => decide (l = x)))
 | 0, i, h => by
  obtain rfl : i = R.length := by omega
  refine Ev.step (f := fun _ => some false) (fun k => ?_) (by simpa using Ev.now false)
  simp only [culetref13_Reserved.l0]; rw [if_neg (by rw [List.length_map]; omega)]
 | d + 1, i, h => by
  have hi : i < R.length := by omega
  have ih := rres_l l R hR d (i + 1) (by omega)
  have hrd : rdOf ByteArray.empty (R.map mk) (i : Int) = mk R[i] := by
   unfold rdOf; rw [Int.toNat_natCast, List.getD_eq_getElem?_getD, List.getElem?_map, List.getElem?_eq_getElem hi]; rfl
  rw [List.drop_eq_getElem_cons hi, List.any_cons]
  by_cases he : l = R[i]
  ·
   refine Ev.step (f := fun _ => some true) (fun k => ?_) (by rw [decide_eq_true he]; exact Ev.now _)
   simp only [culetref13_Reserved.l0]; rw [if_pos (by rw [List.length_map]; omega), if_pos (by omega), hrd, mk_toList, mk_toList, if_pos he.symm]
  ·
   refine Ev.step (fun k => ?_) (by rw [decide_eq_false he, Bool.false_or]; exact ih)
   simp only [culetref13_Reserved.l0]; rw [if_pos (by rw [List.length_map]; omega), if_pos (by omega), hrd, mk_toList, mk_toList, if_neg (fun h => he h.symm), wrap_nat (by omega)]
theorem rres_ev (l : Bs) : Ev (fun k => culetref13_Reserved.f k (mk l)) (resB l) := rres_l l RES (by decide) RES.length 0 (by decide)

theorem rword_l (l : Bs) (hl : l.length ≤ 140737488351232) (h0 : 0 < l.length) : ∀ (d i : Nat), i + d = l.length → 1 ≤ i → Ev (fun k => culetref13_word.l0 k (mk l) (i : Int)) ((l.drop i).all isW)
 | 0, i, h, h1 => by
  obtain rfl : i = l.length := by omega
  refine Ev.step (f := fun _ => some true) (fun k => ?_) (by simpa using Ev.now true)
  simp only [culetref13_word.l0]; rw [if_neg (by rw [mk_size]; omega), decide_eq_true (by rw [mk_size]; omega)]
 | d + 1, i, h, h1 => by
  have hi : i < l.length := by omega
  have ih := rword_l l hl h0 d (i + 1) (by omega) (by omega)
  have hb := bt_mk l i hi
  have g0 : (0 : Int) ≤ (i : Int) := by omega
  have g1 : (i : Int) < ((mk l).size : Int) := by rw [mk_size]; omega
  have n0 : ¬ (i : Int) = 0 := by omega
  have hw : wrap64 ((i : Int) + 1) = ((i + 1 : Nat) : Int) := wrap_nat (by omega)
  rw [List.drop_eq_getElem_cons hi, List.all_cons]
  generalize l[i] = c at hb ⊢
  cases hL : isL c with
  | true =>
   rw [isW_of_L hL, Bool.true_and]
   refine Ev.step (fun k => ?_) ih
   simp only [culetref13_word.l0]; rw [if_pos g1, if_pos g0, hb, rletter_ev, hL, hw]; rfl
  | false =>
   cases hD : isD c with
   | true =>
    rw [show isW c = true by simp [isW, hD], Bool.true_and]
    refine Ev.step (fun k => ?_) ih
    simp only [culetref13_word.l0]; rw [if_pos g1, if_pos g0, hb, rletter_ev, hL, Option.bind_some, if_neg (by simp), if_neg n0, rdigit_ev, hD, hw]; rfl
   | false =>
    by_cases a : c.toNat = 45
    ·
     rw [show isW c = true by simp [isW, a], Bool.true_and]
     refine Ev.step (fun k => ?_) ih
     simp only [culetref13_word.l0]; rw [if_pos g1, if_pos g0, hb, rletter_ev, hL, Option.bind_some, if_neg (by simp), if_neg n0, rdigit_ev, hD, Option.bind_some, if_neg (by simp), if_pos (by omega), hw]
    ·
     by_cases b : c.toNat = 95
     ·
      rw [show isW c = true by simp [isW, b], Bool.true_and]
      refine Ev.step (fun k => ?_) ih
      simp only [culetref13_word.l0]; rw [if_pos g1, if_pos g0, hb, rletter_ev, hL, Option.bind_some, if_neg (by simp), if_neg n0, rdigit_ev, hD, Option.bind_some, if_neg (by simp), if_neg (by omega), if_pos (by omega), hw]
     ·
      rw [show isW c = false by simp [isW, hL, hD, a, b], Bool.false_and]
      refine Ev.step (f := fun _ => some false) (fun k => ?_) (Ev.now _)
      simp only [culetref13_word.l0]; rw [if_pos g1, if_pos g0, hb, rletter_ev, hL, Option.bind_some, if_neg (by simp), if_neg n0, rdigit_ev, hD, Option.bind_some, if_neg (by simp), if_neg (by omega), if_neg (by omega)]
theorem rword_ev (l : Bs) (hl : l.length ≤ 140737488351232) : Ev (fun k => culetref13_word.f k (mk l)) (wordB l) := by
 cases l with
 | nil =>
  refine Ev.step (f := fun _ => some false) (fun k => ?_) (Ev.now _)
  show culetref13_word.l0 (k + 1) (mk []) 0 = _
  simp only [culetref13_word.l0]; rw [if_neg (by rw [mk_size]; simp), decide_eq_false (by rw [mk_size]; simp)]
 | cons c t =>
  have ih := rword_l (c :: t) hl (by simp) t.length 1 (by rw [List.length_cons]; omega) (Nat.le_refl _)
  have g1 : (0 : Int) < ((mk (c :: t)).size : Int) := by rw [mk_size, List.length_cons]; omega
  have hw : wrap64 ((0 : Int) + 1) = ((1 : Nat) : Int) := by rw [wrap_id (by decide) (by decide)]; rfl
  rw [wordB]
  cases hL : isL c with
  | true =>
   rw [Bool.true_and]
   refine Ev.step (fun k => ?_) ih
   show culetref13_word.l0 (k + 1) (mk (c :: t)) 0 = _
   simp only [culetref13_word.l0]; rw [if_pos g1, if_pos (by omega), bt_head, rletter_ev, hL, hw]; rfl
  | false =>
   rw [Bool.false_and]
   refine Ev.step (f := fun _ => some false) (fun k => ?_) (Ev.now _)
   show culetref13_word.l0 (k + 1) (mk (c :: t)) 0 = _
   simp only [culetref13_word.l0]; rw [if_pos g1, if_pos (by omega), bt_head, rletter_ev, hL, Option.bind_some, if_neg (by simp), if_pos trivial]
theorem rname_ev (l : Bs) (hl : l.length ≤ 140737488351232) : Ev (fun k => culetref13_IsName.f k (mk l)) (nameB l) := by
 refine Ev.congr (fun k => by unfold culetref13_IsName.f; rfl) (Ev.bind (rword_ev l hl) ?_)
 unfold nameB
 cases wordB l with
 | false => simpa using Ev.now false
 | true =>
  by_cases h30 : l.length ≤ 30
  ·
   rw [decide_eq_true h30]
   refine Ev.congr (fun k => by rw [if_pos rfl, if_pos (by rw [mk_size]; omega)]) (Ev.bind (rres_ev l) ?_)
   simpa using Ev.now _
  ·
   rw [decide_eq_false h30]
   refine Ev.congr (f := fun _ => some false) (fun k => by rw [if_pos rfl, if_neg (by rw [mk_size]; omega)]) (by simpa using Ev.now false)

end Go.Proofs.YtalhpnfapagamaaDoor.Plain
end
section
namespace Go.Proofs.YtalhpnfapagamaaDoor.Plain
open Go Go.RowKit Go.Proofs.YtalhpnfapagamaaDoor.S Go.Proofs.YtalhpnfapagamaaDoorW.PrintWords Go.Proofs.YtalhpnfapagamaaDoorW.PrintLast

theorem awake_ok : Ev (fun k => culetlaw49_awake.f k) true := Ev.of (fun k => culetlaw49_awake.mono k) (k := 60) (by decide +kernel)

theorem rd94 {l : List S55} {i : Nat} (hi : i < l.length) : rd_T55 l (i : Int) = l[i] := by unfold rd_T55; rw [Int.toNat_natCast, List.getD_eq_getElem?_getD, List.getElem?_eq_getElem hi]; rfl
theorem rd68 {l : List S56} {i : Nat} (hi : i < l.length) : rd_T56 l (i : Int) = l[i] := by unfold rd_T56; rw [Int.toNat_natCast, List.getD_eq_getElem?_getD, List.getElem?_eq_getElem hi]; rfl
theorem rd62 {l : List S60} {i : Nat} (hi : i < l.length) : rd_T60 l (i : Int) = l[i] := by unfold rd_T60; rw [Int.toNat_natCast, List.getD_eq_getElem?_getD, List.getElem?_eq_getElem hi]; rfl
def fewB (l0 : List S55) (l1 : List S56) : Bool := decide (l0.length ≤ 8) && (decide (l1.length ≤ 22) && (l0.all (fun x => decide (x.f0.size ≤ 40)) && l1.all (fun x => decide (x.f0.size ≤ 40))))
theorem few_l1 (l0 : List S55) (l1 : List S56) (a2 a3 : Int) (h1 : l1.length ≤ 22) : ∀ (d i : Nat), i + d = l1.length → Ev (fun k => culetref49_Few.l1 k i l0 l1 a2 a3) ((l1.drop i).all (fun x => decide (x.f0.size ≤ 40)))
 | 0, i, h => by
  obtain rfl : i = l1.length := by omega
  refine Ev.step (f := fun _ => some true) (fun k => ?_) (by simpa using Ev.now _)
  simp only [culetref49_Few.l1]; rw [if_neg (by omega)]
 | d + 1, i, h => by
  have hi : i < l1.length := by omega
  rw [List.drop_eq_getElem_cons hi, List.all_cons]
  by_cases h4 : l1[i].f0.size ≤ 40
  ·
   rw [decide_eq_true h4, Bool.true_and]
   refine Ev.step (f := fun k => culetref49_Few.l1 k ((i + 1 : Nat) : Int) l0 l1 a2 a3) (fun k => ?_) (few_l1 l0 l1 a2 a3 h1 d (i + 1) (by omega))
   simp only [culetref49_Few.l1]; rw [if_pos (by omega), if_pos (by omega), rd68 hi, if_neg (by omega), wrap_nat (by omega)]
  ·
   rw [decide_eq_false h4, Bool.false_and]
   refine Ev.step (f := fun _ => some false) (fun k => ?_) (Ev.now _)
   simp only [culetref49_Few.l1]; rw [if_pos (by omega), if_pos (by omega), rd68 hi, if_pos (by omega)]
theorem few_l0 (l0 : List S55) (l1 : List S56) (a2 a3 : Int) (h0 : l0.length ≤ 8) (h1 : l1.length ≤ 22) : ∀ (d i : Nat), i + d = l0.length → Ev (fun k => culetref49_Few.l0 k i l0 l1 a2 a3) ((l0.drop i).all (fun x => decide (x.f0.size ≤ 40)) && l1.all (fun x => decide (x.f0.size ≤ 40)))
 | 0, i, h => by
  obtain rfl : i = l0.length := by omega
  refine Ev.step (f := fun k => culetref49_Few.l1 k ((0 : Nat) : Int) l0 l1 a2 a3) (fun k => ?_) (by simpa using few_l1 l0 l1 a2 a3 h1 l1.length 0 (by omega))
  simp only [culetref49_Few.l0]; rw [if_neg (by omega)]; rfl
 | d + 1, i, h => by
  have hi : i < l0.length := by omega
  rw [List.drop_eq_getElem_cons hi, List.all_cons]
  by_cases h4 : l0[i].f0.size ≤ 40
  ·
   rw [decide_eq_true h4, Bool.true_and]
   refine Ev.step (f := fun k => culetref49_Few.l0 k ((i + 1 : Nat) : Int) l0 l1 a2 a3) (fun k => ?_) (few_l0 l0 l1 a2 a3 h0 h1 d (i + 1) (by omega))
   simp only [culetref49_Few.l0]; rw [if_pos (by omega), if_pos (by omega), rd94 hi, if_neg (by omega), wrap_nat (by omega)]
  ·
   rw [decide_eq_false h4, Bool.false_and, Bool.false_and]
   refine Ev.step (f := fun _ => some false) (fun k => ?_) (Ev.now _)
   simp only [culetref49_Few.l0]; rw [if_pos (by omega), if_pos (by omega), rd94 hi, if_pos (by omega)]
theorem few_ev (l0 : List S55) (l1 : List S56) (a2 a3 : Int) : Ev (fun k => culetref49_Few.f k l0 l1 a2 a3) (fewB l0 l1) := by
 unfold fewB
 by_cases h0 : l0.length ≤ 8
 ·
  rw [decide_eq_true h0, Bool.true_and]
  by_cases h1 : l1.length ≤ 22
  ·
   rw [decide_eq_true h1, Bool.true_and]
   refine Ev.congr (f := fun k => culetref49_Few.j0 k false l0 l1 a2 a3) (fun k => by unfold culetref49_Few.f; rw [if_neg (by omega), decide_eq_false (by omega)]) ?_
   refine Ev.step (f := fun k => culetref49_Few.l0 k ((0 : Nat) : Int) l0 l1 a2 a3) (fun k => by simp only [culetref49_Few.j0]; rw [if_neg (by simp)]; rfl) ?_
   simpa using few_l0 l0 l1 a2 a3 h0 h1 l0.length 0 (by omega)
  ·
   rw [decide_eq_false h1, Bool.false_and]
   refine Ev.congr (f := fun k => culetref49_Few.j0 k true l0 l1 a2 a3) (fun k => by unfold culetref49_Few.f; rw [if_neg (by omega), decide_eq_true (by omega)]) ?_
   exact Ev.step (f := fun _ => some false) (fun k => by simp only [culetref49_Few.j0]; rw [if_pos trivial]) (Ev.now _)
 ·
  rw [decide_eq_false h0, Bool.false_and]
  refine Ev.congr (f := fun k => culetref49_Few.j0 k true l0 l1 a2 a3) (fun k => by unfold culetref49_Few.f; rw [if_pos (by omega)]) ?_
  exact Ev.step (f := fun _ => some false) (fun k => by simp only [culetref49_Few.j0]; rw [if_pos trivial]) (Ev.now _)
theorem few_bounds {l0 : List S55} {l1 : List S56} (h : fewB l0 l1 = true) : l0.length ≤ 8 ∧ l1.length ≤ 22 ∧ (∀ x ∈ l0, x.f0.size ≤ 40) ∧ (∀ x ∈ l1, x.f0.size ≤ 40) := by
 simp only [fewB, Bool.and_eq_true, List.all_eq_true, decide_eq_true_eq] at h
 exact ⟨h.1, h.2.1, h.2.2.1, h.2.2.2⟩

def lapOf (x : S55) : S49 := ⟨x.f0, x.f1, x.f2⟩
def workOf (x : S56) : S51 := ⟨x.f0, x.f1, x.f2⟩
theorem own_l1 (l1 : List S56) (m0 : List S49) (a2 a3 : Int) (h1 : l1.length ≤ 22) : ∀ (d i : Nat), i + d = l1.length → Ev (fun k => culetlaw49_Own.l1 k l1 (l1.length : Int) i m0 ((l1.take i).map workOf) a2 a3) (m0, l1.map workOf, a2, a3)
 | 0, i, h => by
  obtain rfl : i = l1.length := by omega
  refine Ev.step (f := fun _ => some (m0, l1.map workOf, a2, a3)) (fun k => ?_) (Ev.now _)
  simp only [culetlaw49_Own.l1]; rw [if_neg (by omega), List.take_length]
 | d + 1, i, h => by
  have hi : i < l1.length := by omega
  have ih := own_l1 l1 m0 a2 a3 h1 d (i + 1) (by omega)
  refine Ev.step (f := fun k => culetlaw49_Own.l1 k l1 (l1.length : Int) ((i + 1 : Nat) : Int) m0 ((l1.take (i + 1)).map workOf) a2 a3) (fun k => ?_) ih
  simp only [culetlaw49_Own.l1]
  rw [if_pos (by omega), if_pos (by omega), if_pos (by omega), if_pos (by simp; omega), rd68 hi, wrap_nat (by omega)]
  congr 1
  rw [List.take_succ_eq_append_getElem hi, List.map_append]; rfl
theorem own_l0 (l0 : List S55) (l1 : List S56) (a2 a3 : Int) (h0 : l0.length ≤ 8) (h1 : l1.length ≤ 22) : ∀ (d i : Nat), i + d = l0.length → Ev (fun k => culetlaw49_Own.l0 k l0 (l0.length : Int) i l0 l1 a2 a3 ((l0.take i).map lapOf) a2 a3) (l0.map lapOf, l1.map workOf, a2, a3)
 | 0, i, h => by
  obtain rfl : i = l0.length := by omega
  refine Ev.step (f := fun k => culetlaw49_Own.l1 k l1 (l1.length : Int) ((0 : Nat) : Int) (l0.map lapOf) ((l1.take 0).map workOf) a2 a3) (fun k => ?_) (own_l1 l1 (l0.map lapOf) a2 a3 h1 l1.length 0 (by omega))
  simp only [culetlaw49_Own.l0]; rw [if_neg (by omega), List.take_length]; rfl
 | d + 1, i, h => by
  have hi : i < l0.length := by omega
  have ih := own_l0 l0 l1 a2 a3 h0 h1 d (i + 1) (by omega)
  refine Ev.step (f := fun k => culetlaw49_Own.l0 k l0 (l0.length : Int) ((i + 1 : Nat) : Int) l0 l1 a2 a3 ((l0.take (i + 1)).map lapOf) a2 a3) (fun k => ?_) ih
  simp only [culetlaw49_Own.l0]
  rw [if_pos (by omega), if_pos (by omega), if_pos (by omega), if_pos (by simp; omega), rd94 hi, wrap_nat (by omega)]
  congr 1
  rw [List.take_succ_eq_append_getElem hi, List.map_append]; rfl
theorem own_ev (l0 : List S55) (l1 : List S56) (a2 a3 : Int) (h0 : l0.length ≤ 8) (h1 : l1.length ≤ 22) : Ev (fun k => culetlaw49_Own.f k l0 l1 a2 a3) (l0.map lapOf, l1.map workOf, a2, a3) :=
 Ev.congr (fun k => by unfold culetlaw49_Own.f; rfl) (own_l0 l0 l1 a2 a3 h0 h1 l0.length 0 (by omega))
end Go.Proofs.YtalhpnfapagamaaDoor.Plain
end
section
namespace Go.Proofs.YtalhpnfapagamaaDoor.Plain
open Go Go.RowKit Go.Proofs.YtalhpnfapagamaaDoor.S Go.Proofs.YtalhpnfapagamaaDoorW.PrintWords Go.Proofs.YtalhpnfapagamaaDoorW.PrintLast

abbrev St := Int × List Int × Bool
def runL (n0 : Nat) (l1 : List S51) : List S60 → St → Option St
 | [], q => some q
 | s :: t, q => (stepF n0 l1 q.1 q.2.1 q.2.2 s).bind (runL n0 l1 t)
def endC (n0 : Nat) (l1 : List S51) (n : Int) (done : List Int) : Int × Int := if finB n0 l1 done 1 && finB n0 l1 done 2 then (n, 0) else (n, 9)
theorem runC_some (n0 : Nat) (l1 : List S51) (l : List S60) : ∀ (m i : Nat) (q q' : St), i + m = l.length → runL n0 l1 (l.drop i) q = some q' → runC n0 l1 l m i q.1 q.2.1 q.2.2 = endC n0 l1 (l.length : Int) q'.2.1
 | 0, i, q, q', h, hr => by
  rw [List.drop_of_length_le (by omega)] at hr
  obtain rfl := Option.some.inj hr
  rfl
 | m + 1, i, q, q', h, hr => by
  have hi : i < l.length := by omega
  rw [List.drop_eq_getElem_cons hi] at hr
  simp only [runL] at hr
  have e : l.getD i z60 = l[i] := by rw [List.getD_eq_getElem?_getD, List.getElem?_eq_getElem hi]; rfl
  simp only [runC, e]
  cases hs : stepF n0 l1 q.1 q.2.1 q.2.2 l[i] with
  | none => rw [hs] at hr; cases hr
  | some q1 => rw [hs] at hr; exact runC_some n0 l1 l m (i + 1) q1 q' (by omega) hr
theorem runC_none (n0 : Nat) (l1 : List S51) (l : List S60) : ∀ (m i : Nat) (q : St), i + m = l.length → runL n0 l1 (l.drop i) q = none → (runC n0 l1 l m i q.1 q.2.1 q.2.2).2 = 8
 | 0, i, q, h, hr => by
  rw [List.drop_of_length_le (by omega)] at hr
  cases hr
 | m + 1, i, q, h, hr => by
  have hi : i < l.length := by omega
  rw [List.drop_eq_getElem_cons hi] at hr
  simp only [runL] at hr
  have e : l.getD i z60 = l[i] := by rw [List.getD_eq_getElem?_getD, List.getElem?_eq_getElem hi]; rfl
  simp only [runC, e]
  cases hs : stepF n0 l1 q.1 q.2.1 q.2.2 l[i] with
  | none => rfl
  | some q1 => rw [hs] at hr; exact runC_none n0 l1 l m (i + 1) q1 (by omega) hr
def q0 (l1 : List S51) : St := (-1, List.replicate l1.length 0, false)
def chk (n0 : Nat) (l1 : List S51) (l : List S60) : Int × Int := runC n0 l1 l l.length 0 (-1) (List.replicate l1.length 0) false
theorem chk_some {n0 : Nat} {l1 : List S51} {l : List S60} {q : St} (h : runL n0 l1 l (q0 l1) = some q) : chk n0 l1 l = endC n0 l1 (l.length : Int) q.2.1 := runC_some n0 l1 l l.length 0 (q0 l1) q (by omega) h
theorem chk_none {n0 : Nat} {l1 : List S51} {l : List S60} (h : runL n0 l1 l (q0 l1) = none) : (chk n0 l1 l).2 = 8 := runC_none n0 l1 l l.length 0 (q0 l1) (by omega) h
theorem chk_ok {n0 : Nat} {l1 : List S51} {l : List S60} (h : (chk n0 l1 l).2 = 0) : ∃ q, runL n0 l1 l (q0 l1) = some q ∧ finB n0 l1 q.2.1 1 = true ∧ finB n0 l1 q.2.1 2 = true ∧ chk n0 l1 l = ((l.length : Int), 0) := by
 cases hr : runL n0 l1 l (q0 l1) with
 | none => rw [chk_none hr] at h; cases h
 | some q =>
  rw [chk_some hr] at h
  unfold endC at h
  cases h1 : finB n0 l1 q.2.1 1 <;> cases h2 : finB n0 l1 q.2.1 2 <;> rw [h1, h2] at h <;> first | (cases h; done) | skip
  exact ⟨q, rfl, h1, h2, by rw [chk_some hr]; unfold endC; rw [h1, h2]; rfl⟩
def sd (l1 : List S51) (j : Nat) : Int := (l1.getD j z51).f1
theorem rd_nat_ (l : List Int) (i : Nat) : rd l (i : Int) = l.getD i 0 := by unfold rd; rw [Int.toNat_natCast]
theorem inB_iff (x a b : Int) : inB x a b = true ↔ a ≤ x ∧ x ≤ b := by unfold inB; simp
def sides (l1 : List S51) : Prop := ∀ j, j < l1.length → sd l1 j = 1 ∨ sd l1 j = 2
end Go.Proofs.YtalhpnfapagamaaDoor.Plain
end
section
namespace Go.Proofs.YtalhpnfapagamaaDoor.Plain
open Go Go.RowKit Go.Proofs.YtalhpnfapagamaaDoor.S Go.Proofs.YtalhpnfapagamaaDoorW.PrintWords Go.Proofs.YtalhpnfapagamaaDoorW.PrintLast

def nmB (s : ByteArray) : Bool := nameB s.data.toList
theorem nm_ev (s : ByteArray) (h : s.size ≤ 40) : Ev (fun k => lexer_IsName.f k s) (nmB s) := by
 have e := mk_of s
 have hl : s.data.toList.length ≤ 140737488351232 := by
  rw [Array.length_toList]
  exact Nat.le_trans h (by decide)
 have := name_ev s.data.toList hl
 rw [← e] at this
 exact this
theorem rnm_ev (s : ByteArray) (h : s.size ≤ 40) : Ev (fun k => culetref13_IsName.f k s) (nmB s) := by
 have e := mk_of s
 have hl : s.data.toList.length ≤ 140737488351232 := by
  rw [Array.length_toList]
  exact Nat.le_trans h (by decide)
 have := rname_ev s.data.toList hl
 rw [← e] at this
 exact this
def okW (l1 : List S51) (i : Nat) : Bool := !(l1.take i).any (fun y => y.f0.toList == (l1.getD i z51).f0.toList) && (nmB (l1.getD i z51).f0 && (inB (l1.getD i z51).f1 1 2 && inB (l1.getD i z51).f2 1 48))
def okL (l0 : List S49) (i : Nat) : Bool := !(l0.take i).any (againB (l0.getD i z49)) && (nmB (l0.getD i z49).f0 && (inB (l0.getD i z49).f1 1 200000 && inB (l0.getD i z49).f2 1 100))
def validB (l0 : List S49) (l1 : List S51) (a2 a3 : Int) : Bool :=
 inB l0.length 1 6 && (inB l1.length 1 20 && (inB a2 0 1000 && (inB a3 0 1000 && ((List.range' 0 l0.length).all (okL l0) && (List.range' 0 l1.length).all (okW l1)))))
theorem getD_mem {α : Type} {l : List α} {i : Nat} (hi : i < l.length) (d : α) : l.getD i d ∈ l := by rw [List.getD_eq_getElem?_getD, List.getElem?_eq_getElem hi]; exact List.getElem_mem hi
theorem valid_l1 (l1 : List S51) (hs : ∀ x ∈ l1, x.f0.size ≤ 40) : ∀ (d i : Nat), i + d = l1.length → Ev (fun k => steps_Valid.l1 k l1 i) ((List.range' i d).all (okW l1))
 | 0, i, h => by
  refine Ev.step (f := fun _ => some true) (fun k => ?_) (by simpa using Ev.now _)
  simp only [steps_Valid.l1]; rw [if_neg (by omega)]
 | d + 1, i, h => by
  have hi : i < l1.length := by omega
  rw [List.range'_succ, List.all_cons]
  unfold okW
  cases h1 : (l1.take i).any (fun y => y.f0.toList == (l1.getD i z51).f0.toList) with
  | true =>
   refine Ev.step (f := fun _ => some false) (fun k => ?_) (by simpa using Ev.now _)
   simp only [steps_Valid.l1]; rw [if_pos hi, h1, if_pos rfl]
  | false =>
   refine Ev.step (f := fun k => (lexer_IsName.f k (l1.getD i z51).f0).bind fun nm => if nm = true then (if inB (l1.getD i z51).f1 1 2 = true then (if inB (l1.getD i z51).f2 1 48 = true then steps_Valid.l1 k l1 (i + 1) else some false) else some false) else some false) (fun k => by
    simp only [steps_Valid.l1]; rw [if_pos hi, h1, if_neg (by simp)]) ?_
   refine Ev.bind (nm_ev _ (hs _ (getD_mem hi _))) ?_
   cases nmB (l1.getD i z51).f0 with
   | false => simpa using Ev.now false
   | true =>
    cases inB (l1.getD i z51).f1 1 2 with
    | false => simpa using Ev.now false
    | true =>
     cases inB (l1.getD i z51).f2 1 48 with
     | false => simpa using Ev.now false
     | true =>
      have ih := valid_l1 l1 hs d (i + 1) (by omega)
      unfold okW at ih
      simpa using ih
theorem valid_l0 (l0 : List S49) (l1 : List S51) (h0 : ∀ x ∈ l0, x.f0.size ≤ 40) (hs : ∀ x ∈ l1, x.f0.size ≤ 40) : ∀ (d i : Nat), i + d = l0.length → Ev (fun k => steps_Valid.l0 k l0 l1 i) ((List.range' i d).all (okL l0) && (List.range' 0 l1.length).all (okW l1))
 | 0, i, h => by
  refine Ev.step (f := fun k => steps_Valid.l1 k l1 0) (fun k => ?_) (by simpa using valid_l1 l1 hs l1.length 0 (by omega))
  simp only [steps_Valid.l0]; rw [if_neg (by omega)]
 | d + 1, i, h => by
  have hi : i < l0.length := by omega
  rw [List.range'_succ, List.all_cons]
  unfold okL
  cases h1 : (l0.take i).any (againB (l0.getD i z49)) with
  | true =>
   refine Ev.step (f := fun _ => some false) (fun k => ?_) (by simpa using Ev.now _)
   simp only [steps_Valid.l0]; rw [if_pos hi, h1, if_pos rfl]
  | false =>
   refine Ev.step (f := fun k => (lexer_IsName.f k (l0.getD i z49).f0).bind fun nm => if nm = true then (if inB (l0.getD i z49).f1 1 200000 = true then (if inB (l0.getD i z49).f2 1 100 = true then steps_Valid.l0 k l0 l1 (i + 1) else some false) else some false) else some false) (fun k => by
    simp only [steps_Valid.l0]; rw [if_pos hi, h1, if_neg (by simp)]) ?_
   refine Ev.bind (nm_ev _ (h0 _ (getD_mem hi _))) ?_
   cases nmB (l0.getD i z49).f0 with
   | false => simpa using Ev.now false
   | true =>
    cases inB (l0.getD i z49).f1 1 200000 with
    | false => simpa using Ev.now false
    | true =>
     cases inB (l0.getD i z49).f2 1 100 with
     | false => simpa using Ev.now false
     | true =>
      have ih := valid_l0 l0 l1 h0 hs d (i + 1) (by omega)
      unfold okL at ih
      simpa using ih
theorem valid_ev (l0 : List S49) (l1 : List S51) (a2 a3 : Int) (h0 : ∀ x ∈ l0, x.f0.size ≤ 40) (hs : ∀ x ∈ l1, x.f0.size ≤ 40) : Ev (fun k => steps_Valid.f k l0 l1 a2 a3) (validB l0 l1 a2 a3) := by
 refine Ev.congr (fun k => by unfold steps_Valid.f; rfl) ?_
 unfold validB
 cases inB l0.length 1 6 with
 | false => simpa using Ev.now false
 | true =>
  cases inB l1.length 1 20 with
  | false => simpa using Ev.now false
  | true =>
   cases inB a2 0 1000 with
   | false => simpa using Ev.now false
   | true =>
    cases inB a3 0 1000 with
    | false => simpa using Ev.now false
    | true => simpa using valid_l0 l0 l1 h0 hs l0.length 0 (by omega)
theorem valid_use {l0 : List S49} {l1 : List S51} {a2 a3 : Int} (h : validB l0 l1 a2 a3 = true) : (1 ≤ l0.length ∧ l0.length ≤ 6) ∧ (1 ≤ l1.length ∧ l1.length ≤ 20) ∧ (0 ≤ a2 ∧ a2 ≤ 1000) ∧ (0 ≤ a3 ∧ a3 ≤ 1000) ∧ sides l1 ∧ (∀ i, i < l1.length → 1 ≤ (l1.getD i z51).f2 ∧ (l1.getD i z51).f2 ≤ 48) ∧ (∀ i, i < l0.length → 1 ≤ (l0.getD i z49).f2 ∧ (l0.getD i z49).f2 ≤ 100) := by
 unfold validB at h
 simp only [Bool.and_eq_true, inB_iff, List.all_eq_true, List.mem_range'_1] at h
 obtain ⟨h1, h2, h3, h4, h5, h6⟩ := h
 have w : ∀ i, i < l1.length → okW l1 i = true := fun i hi => h6 i ⟨by omega, by omega⟩
 have l : ∀ i, i < l0.length → okL l0 i = true := fun i hi => h5 i ⟨by omega, by omega⟩
 refine ⟨⟨by omega, by omega⟩, ⟨by omega, by omega⟩, h3, h4, fun i hi => ?_, fun i hi => ?_, fun i hi => ?_⟩
 ·
  have := w i hi
  unfold okW at this
  simp only [Bool.and_eq_true, inB_iff] at this
  unfold sd
  omega
 ·
  have := w i hi
  unfold okW at this
  simp only [Bool.and_eq_true, inB_iff] at this
  exact this.2.2.2
 ·
  have := l i hi
  unfold okL at this
  simp only [Bool.and_eq_true, inB_iff] at this
  exact this.2.2.2
theorem check_ev (l0 : List S49) (l1 : List S51) (a2 a3 : Int) (l : List S60) (h0 : ∀ x ∈ l0, x.f0.size ≤ 40) (hs : ∀ x ∈ l1, x.f0.size ≤ 40) (hl : l.length ≤ 1000000) : Ev (fun k => steps_Check.f k l0 l1 a2 a3 l) (if validB l0 l1 a2 a3 = true then chk l0.length l1 l else (0, 1)) := by
 refine Ev.congr (fun k => by unfold steps_Check.f; rfl) (Ev.bind (valid_ev l0 l1 a2 a3 h0 hs) ?_)
 cases validB l0 l1 a2 a3 with
 | true => simpa [hl, chk] using Ev.now _
 | false => exact Ev.now _

theorem mapd94 (l0 : List S55) {i : Nat} (hi : i < l0.length) : (l0.map lapOf).getD i z49 = lapOf (l0.getD i z55) := by
 rw [List.getD_eq_getElem?_getD, List.getD_eq_getElem?_getD, List.getElem?_map, List.getElem?_eq_getElem hi]; rfl
theorem mapd68 (l1 : List S56) {i : Nat} (hi : i < l1.length) : (l1.map workOf).getD i z51 = workOf (l1.getD i z56) := by
 rw [List.getD_eq_getElem?_getD, List.getD_eq_getElem?_getD, List.getElem?_map, List.getElem?_eq_getElem hi]; rfl
theorem any68 (l1 : List S56) (i : Nat) (s : List UInt8) : ((l1.map workOf).take i).any (fun y => y.f0.toList == s) = (l1.take i).any (fun y => y.f0.toList == s) := by
 rw [← List.map_take, List.any_map]; rfl
theorem rvalid_l1 (l1 : List S56) (hs : ∀ x ∈ l1, x.f0.size ≤ 40) : ∀ (d i : Nat), i + d = l1.length → Ev (fun k => refV.l1 k l1 i) ((List.range' i d).all (okW (l1.map workOf)))
 | 0, i, h => by
  refine Ev.step (f := fun _ => some true) (fun k => ?_) (by simpa using Ev.now _)
  simp only [refV.l1]; rw [if_neg (by omega)]
 | d + 1, i, h => by
  have hi : i < l1.length := by omega
  rw [List.range'_succ, List.all_cons]
  have e : okW (l1.map workOf) i = (nmB (l1.getD i z56).f0 && (inB (l1.getD i z56).f1 1 2 && (inB (l1.getD i z56).f2 1 48 && !(l1.take i).any (fun y => y.f0.toList == (l1.getD i z56).f0.toList)))) := by
   unfold okW
   rw [mapd68 l1 hi, any68]
   simp only [workOf]
   cases nmB (l1.getD i z56).f0 <;> cases inB (l1.getD i z56).f1 1 2 <;> cases inB (l1.getD i z56).f2 1 48 <;> simp
  rw [e]
  refine Ev.step (f := fun k => (culetref13_IsName.f k (l1.getD i z56).f0).bind fun nm => if nm = true then (if inB (l1.getD i z56).f1 1 2 = true then (if inB (l1.getD i z56).f2 1 48 = true then (if (l1.take i).any (fun y => y.f0.toList == (l1.getD i z56).f0.toList) = true then some false else refV.l1 k l1 (i + 1)) else some false) else some false) else some false) (fun k => by
   simp only [refV.l1]; rw [if_pos hi]) ?_
  refine Ev.bind (rnm_ev _ (hs _ (getD_mem hi _))) ?_
  cases nmB (l1.getD i z56).f0 with
  | false => simpa using Ev.now false
  | true =>
   cases inB (l1.getD i z56).f1 1 2 with
   | false => simpa using Ev.now false
   | true =>
    cases inB (l1.getD i z56).f2 1 48 with
    | false => simpa using Ev.now false
    | true =>
     cases (l1.take i).any (fun y => y.f0.toList == (l1.getD i z56).f0.toList) with
     | true => simpa using Ev.now false
     | false =>
      have ih := rvalid_l1 l1 hs d (i + 1) (by omega)
      simpa using ih
def okR (l0 : List S55) (i : Nat) : Bool := nmB (l0.getD i z55).f0 && (inB (l0.getD i z55).f1 1 200000 && (inB (l0.getD i z55).f2 1 100 && (refV.up l0 i && !(l0.take i).any (fun y => y.f0.toList == (l0.getD i z55).f0.toList))))
theorem rvalid_l0 (l0 : List S55) (l1 : List S56) (h0 : ∀ x ∈ l0, x.f0.size ≤ 40) (hs : ∀ x ∈ l1, x.f0.size ≤ 40) : ∀ (d i : Nat), i + d = l0.length → Ev (fun k => refV.l0 k l0 l1 i) ((List.range' i d).all (okR l0) && (List.range' 0 l1.length).all (okW (l1.map workOf)))
 | 0, i, h => by
  refine Ev.step (f := fun k => refV.l1 k l1 0) (fun k => ?_) (by simpa using rvalid_l1 l1 hs l1.length 0 (by omega))
  simp only [refV.l0]; rw [if_neg (by omega)]
 | d + 1, i, h => by
  have hi : i < l0.length := by omega
  rw [List.range'_succ, List.all_cons]
  unfold okR
  refine Ev.step (f := fun k => (culetref13_IsName.f k (l0.getD i z55).f0).bind fun nm => if nm = true then (if inB (l0.getD i z55).f1 1 200000 = true then (if inB (l0.getD i z55).f2 1 100 = true then (if refV.up l0 i = true then (if (l0.take i).any (fun y => y.f0.toList == (l0.getD i z55).f0.toList) = true then some false else refV.l0 k l0 l1 (i + 1)) else some false) else some false) else some false) else some false) (fun k => by
   simp only [refV.l0]; rw [if_pos hi]) ?_
  refine Ev.bind (rnm_ev _ (h0 _ (getD_mem hi _))) ?_
  cases nmB (l0.getD i z55).f0 with
  | false => simpa using Ev.now false
  | true =>
   cases inB (l0.getD i z55).f1 1 200000 with
   | false => simpa using Ev.now false
   | true =>
    cases inB (l0.getD i z55).f2 1 100 with
    | false => simpa using Ev.now false
    | true =>
     cases refV.up l0 i with
     | false => simpa using Ev.now false
     | true =>
      cases (l0.take i).any (fun y => y.f0.toList == (l0.getD i z55).f0.toList) with
      | true => simpa using Ev.now false
      | false =>
       have ih := rvalid_l0 l0 l1 h0 hs d (i + 1) (by omega)
       unfold okR at ih
       simpa using ih
theorem ups (l0 : List S55) (h : ∀ i, i < l0.length → refV.up l0 i = true) : ∀ i, i < l0.length → ∀ j, j < i → (l0.getD j z55).f1 < (l0.getD i z55).f1
 | 0, _, j, hj => absurd hj (by omega)
 | i + 1, hi, j, hj => by
  have h1 := h (i + 1) hi
  unfold refV.up at h1
  rw [show (i + 1 == 0) = false from rfl, Bool.false_or, decide_eq_true_eq, Nat.add_sub_cancel] at h1
  by_cases e : j = i
  ·
   subst e; exact h1
  ·
   have := ups l0 h i (by omega) j (by omega)
   omega
theorem ok_same (l0 : List S55) : (List.range' 0 l0.length).all (okR l0) = (List.range' 0 l0.length).all (okL (l0.map lapOf)) := by
 rw [Bool.eq_iff_iff, List.all_eq_true, List.all_eq_true]
 have hm : ∀ i, i ∈ List.range' 0 l0.length ↔ i < l0.length := fun i => by rw [List.mem_range'_1]; omega
 have ha : ∀ i, i < l0.length → (((l0.map lapOf).take i).any (againB ((l0.map lapOf).getD i z49)) = false ↔ (l0.take i).any (fun y => y.f0.toList == (l0.getD i z55).f0.toList) = false ∧ ∀ j, j < i → (l0.getD j z55).f1 < (l0.getD i z55).f1) := fun i hi => by
  rw [← List.map_take, List.any_map, List.any_eq_false, List.any_eq_false, mapd94 l0 hi]
  constructor
  ·
   intro h
   refine ⟨fun x hx => ?_, fun j hj => ?_⟩
   ·
    have := h x hx
    simp only [Function.comp, againB, lapOf, Bool.or_eq_true, not_or] at this
    exact this.1
   ·
    have hj' : j < l0.length := by omega
    have := h (l0[j]) (by rw [List.mem_take_iff_getElem]; exact ⟨j, by omega, rfl⟩)
    simp only [Function.comp, againB, lapOf, Bool.or_eq_true, not_or] at this
    rw [List.getD_eq_getElem?_getD (i := j), List.getElem?_eq_getElem hj']
    have h9 : ¬ ((l0.getD i z55).f1 ≤ l0[j].f1) := by simpa using this.2
    simp only [Option.getD_some]
    omega
  ·
   rintro ⟨h1, h2⟩ x hx
   obtain ⟨j, hj, rfl⟩ := List.mem_take_iff_getElem.1 hx
   have a := h1 _ hx
   have b := h2 j (by omega)
   rw [List.getD_eq_getElem?_getD (i := j), List.getElem?_eq_getElem (by omega)] at b
   simp only [Option.getD_some] at b
   simp only [Function.comp, againB, lapOf, Bool.or_eq_true, not_or]
   exact ⟨a, by simpa using b⟩
 constructor
 ·
  intro h i hi
  have hi' := (hm i).1 hi
  have h1 := h i hi
  have hu := ups l0 (fun j hj => by
   have := h j ((hm j).2 hj)
   unfold okR at this
   simp only [Bool.and_eq_true] at this
   exact this.2.2.2.1) i hi'
  unfold okR at h1
  simp only [Bool.and_eq_true, Bool.not_eq_true'] at h1
  unfold okL
  rw [(ha i hi').2 ⟨h1.2.2.2.2, hu⟩, mapd94 l0 hi']
  simp only [lapOf, Bool.and_eq_true]
  exact ⟨rfl, h1.1, h1.2.1, h1.2.2.1⟩
 ·
  intro h i hi
  have hi' := (hm i).1 hi
  have h1 := h i hi
  unfold okL at h1
  simp only [Bool.and_eq_true, Bool.not_eq_true'] at h1
  obtain ⟨h2, h3⟩ := (ha i hi').1 h1.1
  have h4 := h1.2
  rw [mapd94 l0 hi'] at h4
  unfold okR
  rw [h2]
  simp only [lapOf] at h4
  simp only [Bool.and_eq_true]
  refine ⟨h4.1, h4.2.1, h4.2.2, ?_, rfl⟩
  unfold refV.up
  by_cases e : i = 0
  ·
   subst e; rfl
  ·
   rw [decide_eq_true (h3 (i - 1) (by omega)), Bool.or_true]
theorem rvalid_ev (l0 : List S55) (l1 : List S56) (a2 a3 : Int) (h0 : ∀ x ∈ l0, x.f0.size ≤ 40) (hs : ∀ x ∈ l1, x.f0.size ≤ 40) : Ev (fun k => culetref49_Valid.f k l0 l1 a2 a3) (validB (l0.map lapOf) (l1.map workOf) a2 a3) := by
 refine Ev.congr (fun k => by unfold culetref49_Valid.f; rfl) ?_
 unfold validB
 rw [List.length_map, List.length_map, ← ok_same]
 cases inB l0.length 1 6 with
 | false => simpa using Ev.now false
 | true =>
  cases inB l1.length 1 20 with
  | false => simpa using Ev.now false
  | true =>
   cases inB a2 0 1000 with
   | false => simpa using Ev.now false
   | true =>
    cases inB a3 0 1000 with
    | false => simpa using Ev.now false
    | true => simpa using rvalid_l0 l0 l1 h0 hs l0.length 0 (by omega)
end Go.Proofs.YtalhpnfapagamaaDoor.Plain
end
section
namespace Go.Proofs.YtalhpnfapagamaaDoor.Plain
open Go Go.RowKit Go.Proofs.YtalhpnfapagamaaDoor.S Go.Proofs.YtalhpnfapagamaaDoorW.PrintWords Go.Proofs.YtalhpnfapagamaaDoorW.PrintLast

def cntC (l : List S60) : Nat := (l.filter (fun s => decide (s.f0 = 1))).length
theorem cntC_nil : cntC [] = 0 := rfl
theorem cntC_cons (s : S60) (l : List S60) : cntC (s :: l) = (if s.f0 = 1 then 1 else 0) + cntC l := by
 unfold cntC
 by_cases h : s.f0 = 1
 ·
  rw [List.filter_cons_of_pos (by simp [h]), if_pos h, List.length_cons]; omega
 ·
  rw [List.filter_cons_of_neg (by simp [h]), if_neg h]; omega
theorem cntC_append (a b : List S60) : cntC (a ++ b) = cntC a + cntC b := by unfold cntC; rw [List.filter_append, List.length_append]
theorem changes_l (l : List S60) (hl : l.length ≤ 1000000) : ∀ (d i n : Nat), i + d = l.length → n ≤ i → Ev (fun k => steps_Changes.l0 k (n : Int) l (l.length : Int) i) ((n + cntC (l.drop i) : Nat) : Int)
 | 0, i, n, h, hn => by
  obtain rfl : i = l.length := by omega
  refine Ev.step (f := fun _ => some ((n : Nat) : Int)) (fun k => ?_) (by simpa [cntC] using Ev.now _)
  simp only [steps_Changes.l0]; rw [if_neg (by omega)]
 | d + 1, i, n, h, hn => by
  have hi : i < l.length := by omega
  rw [List.drop_eq_getElem_cons hi, cntC_cons]
  by_cases h1 : l[i].f0 = 1
  ·
   rw [if_pos h1, show n + (1 + cntC (l.drop (i + 1))) = n + 1 + cntC (l.drop (i + 1)) by omega]
   refine Ev.step (f := fun k => steps_Changes.l0 k ((n + 1 : Nat) : Int) l (l.length : Int) ((i + 1 : Nat) : Int)) (fun k => ?_) (changes_l l hl d (i + 1) (n + 1) (by omega) (by omega))
   simp only [steps_Changes.l0]; rw [if_pos (by omega), if_pos (by omega), if_pos (by omega), rd62 hi, if_pos h1, wrap_nat (by omega), wrap_nat (by omega)]
  ·
   rw [if_neg h1, Nat.zero_add]
   refine Ev.step (f := fun k => steps_Changes.l0 k (n : Int) l (l.length : Int) ((i + 1 : Nat) : Int)) (fun k => ?_) (changes_l l hl d (i + 1) n (by omega) (by omega))
   simp only [steps_Changes.l0]; rw [if_pos (by omega), if_pos (by omega), if_pos (by omega), rd62 hi, if_neg h1, wrap_nat (by omega)]
theorem changes_ev (l : List S60) (hl : l.length ≤ 1000000) : Ev (fun k => steps_Changes.f k l) ((cntC l : Nat) : Int) := by
 have := changes_l l hl l.length 0 0 (by omega) (by omega)
 rw [List.drop_zero, Nat.zero_add] at this
 exact this
theorem cnt_cuts (l1 : List S51) (s l : Int) : ∀ m k, cntC (cutsL l1 s l m k) = 0
 | 0, _ => rfl
 | m + 1, k => by
  simp only [cutsL]
  split
  ·
   rw [cntC_cons, cnt_cuts l1 s l m (k + 1)]; rfl
  ·
   exact cnt_cuts l1 s l m (k + 1)
theorem cnt_side (l1 : List S51) (s : Int) : ∀ m i p, cntC (sideL l1 s m i p) = if (i : Int) = p then m - 1 else m
 | 0, i, p => by simp [sideL, cntC]
 | m + 1, i, p => by
  have ih := cnt_side l1 s m (i + 1) (i : Int)
  simp only [sideL]
  rw [cntC_append, cntC_append, cnt_cuts, ih, if_neg (show ¬ ((i + 1 : Nat) : Int) = (i : Int) by omega)]
  by_cases h : (i : Int) = p
  ·
   rw [if_neg (by simpa using h), if_pos h, cntC_nil]; omega
  ·
   rw [if_pos (by simpa using h), if_neg h, cntC_cons, cntC_nil, if_pos rfl]; omega
theorem cnt_of (n0 : Nat) (l1 : List S51) (hn : 1 ≤ n0) (hs : sidB l1 1 = true ∨ sidB l1 2 = true) : cntC (ofL n0 l1) = if (sidB l1 1 && sidB l1 2) = true ∧ 1 < n0 then 2 * n0 else n0 := by
 unfold ofL ofA
 cases h1 : sidB l1 1 with
 | false =>
  have h2 : sidB l1 2 = true := by rcases hs with h | h <;> simp_all
  rw [h2, if_neg (show ¬ (false = true) by simp), if_neg (show ¬ (false = true) by simp), if_pos rfl, List.nil_append, cnt_side, if_neg (by omega), if_neg (by simp)]
 | true =>
  cases h2 : sidB l1 2 with
  | false => rw [if_pos rfl, if_neg (show ¬ (false = true) by simp), if_neg (show ¬ (false = true) by simp), List.append_nil, List.append_nil, cnt_side, if_neg (by omega), if_neg (by simp)]
  | true =>
   rw [if_pos rfl, if_pos rfl, if_pos rfl, if_pos rfl, cntC_append, cntC_append, cnt_side, cnt_side, if_neg (by omega), cntC_cons, cntC_nil, if_neg (by decide)]
   unfold endP
   rw [if_neg (show ¬ n0 = 0 by omega)]
   by_cases h : 1 < n0
   ·
    rw [if_neg (by omega), if_pos ⟨rfl, h⟩]; omega
   ·
    rw [if_pos (by omega), if_neg (fun x => h x.2)]; omega
theorem side_some {l1 : List S51} (hs : sides l1) (hn : 1 ≤ l1.length) : sidB l1 1 = true ∨ sidB l1 2 = true := by
 have e : (l1.getD 0 z51) ∈ l1 := getD_mem (by omega) _
 rcases hs 0 (by omega) with h | h
 ·
  exact .inl (List.any_eq_true.2 ⟨_, e, beq_iff_eq.2 h⟩)
 ·
  exact .inr (List.any_eq_true.2 ⟨_, e, beq_iff_eq.2 h⟩)

theorem rd101 {l : List S63} {i : Nat} (hi : i < l.length) : rd_T63 l (i : Int) = l[i] := by unfold rd_T63; rw [Int.toNat_natCast, List.getD_eq_getElem?_getD, List.getElem?_eq_getElem hi]; rfl
def wk (l1 : List S51) (s : Int) : List Nat := (List.range' 0 l1.length).filter (fun j => decide (sd l1 j = s))
def wkI (l1 : List S51) (s : Int) : List Int := (wk l1 s).map (fun (j : Nat) => (j : Int))
theorem wk_len (l1 : List S51) (s : Int) : (wk l1 s).length ≤ l1.length := Nat.le_trans (List.length_filter_le _ _) (by simp)
theorem wk_some (l1 : List S51) (s : Int) : sidB l1 s = decide (0 < (wk l1 s).length) := by
 rw [Bool.eq_iff_iff, decide_eq_true_eq]
 unfold sidB
 rw [List.any_eq_true]
 constructor
 ·
  rintro ⟨x, hx, h⟩
  obtain ⟨j, hj, rfl⟩ := List.getElem_of_mem hx
  refine List.length_pos_of_mem (a := j) (List.mem_filter.2 ⟨by rw [List.mem_range'_1]; omega, ?_⟩)
  rw [decide_eq_true_eq]; unfold sd; rw [List.getD_eq_getElem?_getD, List.getElem?_eq_getElem hj]; exact beq_iff_eq.1 h
 ·
  intro h
  obtain ⟨j, hj⟩ := List.exists_mem_of_length_pos h
  obtain ⟨h1, h2⟩ := List.mem_filter.1 hj
  rw [List.mem_range'_1] at h1
  exact ⟨_, getD_mem (by omega) z51, beq_iff_eq.2 (of_decide_eq_true h2)⟩
variable (m0 : List S55) (m1 : List S56) (a2 a3 : Int)
theorem sd68 {i : Nat} (hi : i < m1.length) : (rd_T56 m1 (i : Int)).f1 = sd (m1.map workOf) i := by
 unfold sd
 rw [mapd68 m1 hi, rd68 hi, List.getD_eq_getElem?_getD, List.getElem?_eq_getElem hi]; rfl
theorem works_l (s : Int) (h1 : m1.length ≤ 22) : ∀ (d i : Nat) (p : List Int), i + d = m1.length → p.length ≤ i → Ev (fun k => culetref49_works.l0 k s p i m0 m1 a2 a3) (p ++ ((List.range' i d).filter (fun j => decide (sd (m1.map workOf) j = s))).map (fun (j : Nat) => (j : Int)))
 | 0, i, p, h, hp => by
  refine Ev.step (f := fun _ => some p) (fun k => ?_) (by simpa using Ev.now _)
  simp only [culetref49_works.l0]; rw [if_neg (by omega)]
 | d + 1, i, p, h, hp => by
  have hi : i < m1.length := by omega
  rw [List.range'_succ]
  by_cases hs : sd (m1.map workOf) i = s
  ·
   rw [List.filter_cons_of_pos (by simp [hs]), List.map_cons, List.append_cons]
   refine Ev.step (f := fun k => culetref49_works.l0 k s (p ++ [(i : Int)]) ((i + 1 : Nat) : Int) m0 m1 a2 a3) (fun k => ?_) (works_l s h1 d (i + 1) (p ++ [(i : Int)]) (by omega) (by simp; omega))
   simp only [culetref49_works.l0]
   rw [if_pos (by omega), if_pos (by omega), sd68 m1 hi, if_pos hs, if_pos (by omega), wrap_nat (by omega)]
  ·
   rw [List.filter_cons_of_neg (by simp [hs])]
   refine Ev.step (f := fun k => culetref49_works.l0 k s p ((i + 1 : Nat) : Int) m0 m1 a2 a3) (fun k => ?_) (works_l s h1 d (i + 1) p (by omega) (by omega))
   simp only [culetref49_works.l0]
   rw [if_pos (by omega), if_pos (by omega), sd68 m1 hi, if_neg hs, wrap_nat (by omega)]
theorem works_ev (s : Int) (h1 : m1.length ≤ 22) : Ev (fun k => culetref49_works.f k m0 m1 a2 a3 s) (wkI (m1.map workOf) s) := by
 have := works_l m0 m1 a2 a3 s h1 m1.length 0 [] (by omega) (by simp)
 unfold wkI wk
 rw [List.length_map]
 exact Ev.congr (fun k => by unfold culetref49_works.f; rfl) this
theorem both_ev (h1 : m1.length ≤ 22) : Ev (fun k => culetref49_both.f k m0 m1 a2 a3) (sidB (m1.map workOf) 1 && sidB (m1.map workOf) 2) := by
 refine Ev.congr (fun k => by unfold culetref49_both.f; rfl) (Ev.bind (works_ev m0 m1 a2 a3 1 h1) ?_)
 rw [wk_some _ 1, wk_some _ 2]
 have e : ∀ s, (wkI (m1.map workOf) s).length = (wk (m1.map workOf) s).length := fun s => by simp [wkI]
 rw [e 1]
 by_cases h : 0 < (wk (m1.map workOf) 1).length
 ·
  rw [decide_eq_true h, Bool.true_and]
  refine Ev.congr (fun k => by rw [if_pos (by omega)]) (Ev.bind (works_ev m0 m1 a2 a3 2 h1) ?_)
  rw [e 2]
  refine Ev.congr (f := fun _ => some (decide (0 < (wk (m1.map workOf) 2).length))) (fun k => ?_) (Ev.now _)
  congr 1; exact decide_eq_decide.2 (by omega)
 ·
  rw [decide_eq_false h, Bool.false_and]
  exact Ev.congr (f := fun _ => some false) (fun k => by rw [if_neg (by omega)]) (Ev.now _)
set_option linter.unusedSectionVars false
end Go.Proofs.YtalhpnfapagamaaDoor.Plain
end
section
namespace Go.Proofs.YtalhpnfapagamaaDoor.Plain
open Go Go.RowKit Go.Proofs.YtalhpnfapagamaaDoor.S Go.Proofs.YtalhpnfapagamaaDoorW.PrintWords Go.Proofs.YtalhpnfapagamaaDoorW.PrintLast

def ofR (s : S63) : S60 := ⟨s.f0, s.f1, s.f2⟩
theorem own_l (l : List S63) (hl : l.length ≤ 1000000) : ∀ (d i : Nat), i + d = l.length → Ev (fun k => culetlaw49_own.l0 k ((l.take i).map ofR) l (l.length : Int) i) (l.map ofR)
 | 0, i, h => by
  obtain rfl : i = l.length := by omega
  refine Ev.step (f := fun _ => some (l.map ofR)) (fun k => ?_) (Ev.now _)
  simp only [culetlaw49_own.l0]; rw [if_neg (by omega), List.take_length]
 | d + 1, i, h => by
  have hi : i < l.length := by omega
  refine Ev.step (f := fun k => culetlaw49_own.l0 k ((l.take (i + 1)).map ofR) l (l.length : Int) ((i + 1 : Nat) : Int)) (fun k => ?_) (own_l l hl d (i + 1) (by omega))
  simp only [culetlaw49_own.l0]
  rw [if_pos (by omega), if_pos (by omega), if_pos (by omega), if_pos (by simp; omega), rd101 hi, wrap_nat (by omega)]
  congr 1
  rw [List.take_succ_eq_append_getElem hi, List.map_append]; rfl
theorem ownL_ev (l : List S63) (hl : l.length ≤ 1000000) : Ev (fun k => culetlaw49_own.f k l) (l.map ofR) :=
 Ev.congr (fun k => by unfold culetlaw49_own.f; rfl) (own_l l hl l.length 0 (by omega))

section
variable (l0 : List S49) (l1 : List S51) (a2 a3 : Int)
def fac (w : Nat) : Int := (l1.getD w z51).f2
def mnt (l : Nat) : Int := (l0.getD l z49).f2
def tmS (s : S60) : Int := if s.f0 = 1 then a2 else if s.f0 = 2 then a3 else fac l1 s.f2.toNat * mnt l0 s.f1.toNat
def tmL : List S60 → Int
 | [] => 0
 | s :: t => tmS l0 l1 a2 a3 s + tmL t
def ms : Nat → Int
 | 0 => 0
 | n + 1 => ms n + mnt l0 n
def ws (done : List Int) : Nat → Int
 | 0 => 0
 | m + 1 => ws done m + fac l1 m * ms l0 (done.getD m 0).toNat
def good (s : S60) : Prop := s.f0 = 1 ∨ s.f0 = 2 ∨ ((0 ≤ s.f2 ∧ s.f2 < (l1.length : Int)) ∧ (0 ≤ s.f1 ∧ s.f1 < (l0.length : Int)))
end
theorem ws_set (l0 : List S49) (l1 : List S51) (done : List Int) (w : Nat) (v : Int) (hw : w < done.length) : ∀ m, ws l0 l1 (done.set w v) m = ws l0 l1 done m + if w < m then fac l1 w * (ms l0 v.toNat - ms l0 (done.getD w 0).toNat) else 0
 | 0 => by simp [ws]
 | m + 1 => by
  have ih := ws_set l0 l1 done w v hw m
  simp only [ws]
  rw [ih, List.getD_eq_getElem?_getD (l := done.set w v), List.getElem?_set]
  by_cases h : w = m
  ·
   subst h
   rw [if_pos rfl, if_pos hw, if_neg (by omega), if_pos (by omega), Option.getD_some, Int.mul_sub]; omega
  ·
   rw [if_neg h, ← List.getD_eq_getElem?_getD]
   by_cases h2 : w < m
   ·
    rw [if_pos h2, if_pos (by omega)]; omega
   ·
    rw [if_neg h2, if_neg (by omega)]; omega
theorem ws_zero (l0 : List S49) (l1 : List S51) (n : Nat) : ∀ m, ws l0 l1 (List.replicate n 0) m = 0
 | 0 => rfl
 | m + 1 => by
  simp only [ws]
  rw [ws_zero l0 l1 n m, show ((List.replicate n (0 : Int)).getD m 0) = 0 by rw [List.getD_eq_getElem?_getD, List.getElem?_replicate]; split <;> rfl]
  simp [ms]
theorem ws_full (l0 : List S49) (l1 : List S51) (a b : List Int) : ∀ m, (∀ j, j < m → a.getD j 0 = b.getD j 0) → ws l0 l1 a m = ws l0 l1 b m
 | 0, _ => rfl
 | m + 1, h => by
  simp only [ws]
  rw [ws_full l0 l1 a b m (fun j hj => h j (by omega)), h m (by omega)]

def dAt (q : St) (j : Nat) : Int := q.2.1.getD j 0
/-- What holds of the machine behind c changes and the time t. -/
structure Inv (l0 : List S49) (l1 : List S51) (a2 a3 : Int) (c : Nat) (t : Int) (q : St) : Prop where
 len : q.2.1.length = l1.length
 rng : ∀ j, j < l1.length → 0 ≤ dAt q j ∧ dAt q j ≤ (l0.length : Int)
 lap : -1 ≤ q.1 ∧ q.1 < (l0.length : Int)
 mv : q.2.2 = true → sidB l1 1 = true ∧ sidB l1 2 = true
 cr : sidB l1 1 = true → sidB l1 2 = true → ∀ j, j < l1.length → sd l1 j = 2 → 0 < dAt q j → q.2.2 = true
 tm : t = c * a2 + (if q.2.2 = true then a3 else 0) + ws l0 l1 q.2.1 l1.length
 p1 : ∀ j, j < l1.length → dAt q j + (if q.1 = dAt q j then 1 else 0) ≤ c
 p1' : ∀ j, j < l1.length → dAt q j = (l0.length : Int) → (l0.length : Int) + (if q.1 = (l0.length : Int) - 1 then 0 else 1) ≤ c
 p2 : q.2.2 = true → 1 < l0.length → ∀ j, j < l1.length → sd l1 j = 2 → (l0.length : Int) + (dAt q j + (if q.1 = dAt q j then 1 else 0)) ≤ c
theorem inv_start (l0 : List S49) (l1 : List S51) (a2 a3 : Int) (h0 : 1 ≤ l0.length) : Inv l0 l1 a2 a3 0 0 (q0 l1) := by
 have e : ∀ j, dAt (q0 l1) j = 0 := fun j => by
  unfold dAt q0
  rw [List.getD_eq_getElem?_getD, List.getElem?_replicate]; split <;> rfl
 refine ⟨by simp [q0], fun j _ => by rw [e]; omega, by simp only [q0]; omega, fun h => by simp [q0] at h, fun _ _ j _ _ h => by rw [e] at h; omega, ?_, fun j _ => ?_, fun j _ h => ?_, fun h => by simp [q0] at h⟩
 ·
  simp only [q0]; rw [ws_zero]; simp
 ·
  rw [e, if_neg (by simp only [q0]; omega)]; omega
 ·
  rw [e] at h; omega
theorem fin_done {n0 : Nat} {l1 : List S51} {done : List Int} {side : Int} (h : finB n0 l1 done side = true) {j : Nat} (hj : j < l1.length) (hs : sd l1 j = side) : (n0 : Int) ≤ done.getD j 0 := by
 unfold finB at h
 rw [List.all_eq_true] at h
 have := h j (List.mem_range.2 hj)
 unfold finAt at this
 rw [show ((l1.getD j z51).f1 == side) = true from beq_iff_eq.2 hs, Bool.true_and, Bool.not_eq_true', decide_eq_false_iff_not] at this
 omega
theorem sid_ex {l1 : List S51} {q : Int} (h : sidB l1 q = true) : ∃ j, j < l1.length ∧ sd l1 j = q := by
 unfold sidB at h
 rw [List.any_eq_true] at h
 obtain ⟨x, hx, h⟩ := h
 obtain ⟨j, hj, rfl⟩ := List.getElem_of_mem hx
 exact ⟨j, hj, by unfold sd; rw [List.getD_eq_getElem?_getD, List.getElem?_eq_getElem hj]; exact beq_iff_eq.1 h⟩
theorem inv_step {l0 : List S49} {l1 : List S51} {a2 a3 : Int} {c : Nat} {t : Int} {q q' : St} {s : S60} (I : Inv l0 l1 a2 a3 c t q) (h : stepF l0.length l1 q.1 q.2.1 q.2.2 s = some q') :
  Inv l0 l1 a2 a3 (c + if s.f0 = 1 then 1 else 0) (t + tmS l0 l1 a2 a3 s) q' ∧ good l0 l1 s := by
 obtain ⟨lap, done, mv⟩ := q
 unfold stepF at h
 dsimp only at h
 by_cases k1 : s.f0 = 1
 ·
  -- a change
  rw [if_pos k1] at h
  split at h
  case isFalse => cases h
  case isTrue hc =>
  obtain rfl := Option.some.inj h
  simp only [Bool.and_eq_true, inB_iff, Bool.not_eq_true', beq_eq_false_iff_ne] at hc
  obtain ⟨_, hr, hne⟩ := hc
  refine ⟨?_, .inl k1⟩
  rw [if_pos k1]
  unfold tmS
  rw [if_pos k1]
  have p0 : ∀ j, j < l1.length → dAt (lap, done, mv) j ≤ (c : Int) := fun j hj => by have := I.p1 j hj; split at this <;> omega
  refine ⟨I.len, I.rng, by dsimp only; omega, I.mv, I.cr, ?_, fun j hj => ?_, fun j hj hd => ?_, fun hm hn j hj hs => ?_⟩
  ·
   have := I.tm
   dsimp only at this ⊢
   rw [this]; push_cast; rw [Int.add_mul, Int.one_mul]; omega
  ·
   have := p0 j hj
   change dAt (lap, done, mv) j + _ ≤ _
   split <;> (push_cast; omega)
  ·
   have := p0 j hj
   change dAt (lap, done, mv) j = _ at hd
   rw [hd] at this
   split <;> (push_cast; omega)
  ·
   have := I.p2 hm hn j hj hs
   change (l0.length : Int) + (dAt (lap, done, mv) j + _) ≤ _
   have h9 : (l0.length : Int) + dAt (lap, done, mv) j ≤ c := by split at this <;> omega
   split <;> (push_cast; omega)
 ·
  rw [if_neg k1] at h
  by_cases k2 : s.f0 = 2
  ·
   -- a transfer
   rw [if_pos k2] at h
   split at h
   case isFalse => cases h
   case isTrue hc =>
   obtain rfl := Option.some.inj h
   simp only [Bool.and_eq_true, Bool.not_eq_true'] at hc
   obtain ⟨_, _, hm0, h1, h2, hf⟩ := hc
   refine ⟨?_, .inr (.inl k2)⟩
   rw [if_neg k1]
   unfold tmS
   rw [if_neg k1, if_pos k2]
   refine ⟨I.len, I.rng, I.lap, fun _ => ⟨h1, h2⟩, fun _ _ _ _ _ _ => rfl, ?_, I.p1, I.p1', fun _ hn j hj hs => ?_⟩
   ·
    have := I.tm
    dsimp only at this ⊢
    rw [hm0, if_neg (by simp)] at this
    rw [this, if_pos rfl]
    simp only [Nat.add_zero]
    omega
   ·
    obtain ⟨w, hw, hws⟩ := sid_ex h1
    have hd := fin_done hf hw hws
    have hr := (I.rng w hw).2
    have h9 := I.p1' w hw (by unfold dAt at hr ⊢; dsimp only at hr ⊢; omega)
    have h0 : dAt (lap, done, mv) j = 0 := by
     have a := (I.rng j hj).1
     have b := I.cr h1 h2 j hj hs
     dsimp only at b
     rw [hm0] at b
     by_cases h : 0 < dAt (lap, done, mv) j
     ·
      exact absurd (b h) (by simp)
     ·
      omega
    change (l0.length : Int) + (dAt (lap, done, mv) j + (if lap = dAt (lap, done, mv) j then 1 else 0)) ≤ _
    rw [h0]
    dsimp only at h9
    simp only [Nat.add_zero]
    by_cases hl : lap = 0
    ·
     rw [if_pos hl]; rw [if_neg (by omega)] at h9; omega
    ·
     rw [if_neg hl]; split at h9 <;> omega
  ·
   rw [if_neg k2] at h
   by_cases k3 : s.f0 = 3
   ·
    -- a cut
    rw [if_pos k3] at h
    split at h
    case isFalse => cases h
    case isTrue hc =>
    obtain rfl := Option.some.inj h
    unfold cutB at hc
    simp only [Bool.and_eq_true, inB_iff, beq_iff_eq] at hc
    obtain ⟨hw, hl, hd, hb, _⟩ := hc
    obtain ⟨w, hw'⟩ := Int.eq_ofNat_of_zero_le hw.1
    have hwn : w < l1.length := by omega
    rw [hw'] at hd hb
    rw [rd_nat_] at hd
    have hX : (rd_T51 l1 (w : Int)).f1 = sd l1 w := by unfold rd_T51; rw [Int.toNat_natCast]; rfl
    rw [hX] at hb
    have hda : dAt (lap, done, mv) w = lap := by unfold dAt; dsimp only; rw [hd, hl]
    have hrw := I.rng w hwn
    rw [hda] at hrw
    have hlap := I.lap
    dsimp only at hlap
    have hwl : w < done.length := by have := I.len; dsimp only at this; omega
    have hset : ∀ j, (done.set w (lap + 1)).getD j 0 = if j = w then lap + 1 else done.getD j 0 := fun j => by
     rw [List.getD_eq_getElem?_getD, List.getElem?_set]
     by_cases h : w = j
     ·
      subst h; rw [if_pos rfl, if_pos hwl, if_pos rfl]; rfl
     ·
      rw [if_neg h, if_neg (fun e => h e.symm), ← List.getD_eq_getElem?_getD]
    have hdn : done.set s.f2.toNat (rd done s.f2 + 1) = done.set w (lap + 1) := by rw [hw', Int.toNat_natCast, rd_nat_, hd, hl]
    refine ⟨?_, .inr (.inr ⟨by rw [hw']; omega, by rw [hl]; omega⟩)⟩
    rw [if_neg k1]
    unfold tmS
    rw [if_neg k1, if_neg k2, hdn]
    have hp := I.p1 w hwn
    rw [hda, if_pos rfl] at hp
    have dA : ∀ j, dAt (lap, done.set w (lap + 1), mv) j = if j = w then lap + 1 else dAt (lap, done, mv) j := fun j => hset j
    refine ⟨by rw [List.length_set]; exact I.len, fun j hj => ?_, I.lap, I.mv, fun h1 h2 j hj hs hpos => ?_, ?_, fun j hj => ?_, fun j hj hdj => ?_, fun hm hn j hj hs => ?_⟩
    ·
     rw [dA]; split
     ·
      omega
     ·
      exact I.rng j hj
    ·
     rw [dA] at hpos
     by_cases e : j = w
     ·
      subst e
      rw [h1, h2, hs] at hb
      simpa using hb
     ·
      rw [if_neg e] at hpos
      exact I.cr h1 h2 j hj hs hpos
    ·
     have := I.tm
     dsimp only at this ⊢
     rw [this, ws_set l0 l1 done w (lap + 1) hwl, if_pos hwn, hd, hl, hw', Int.toNat_natCast]
     obtain ⟨n, hn⟩ := Int.eq_ofNat_of_zero_le hrw.1
     rw [hn, show ((n : Int) + 1).toNat = n + 1 by omega, Int.toNat_natCast]
     simp only [ms, Nat.add_zero]
     rw [show ms l0 n + mnt l0 n - ms l0 n = mnt l0 n by omega]
     omega
    ·
     rw [dA]
     by_cases e : j = w
     ·
      rw [if_pos e, if_neg (by omega)]; simp only [Nat.add_zero]; omega
     ·
      rw [if_neg e]; exact I.p1 j hj
    ·
     rw [dA] at hdj
     by_cases e : j = w
     ·
      rw [if_pos e] at hdj
      rw [if_pos (by dsimp only; omega)]; simp only [Nat.add_zero]; omega
     ·
      rw [if_neg e] at hdj; exact I.p1' j hj hdj
    ·
     rw [dA]
     by_cases e : j = w
     ·
      subst e
      have := I.p2 hm hn j hj hs
      rw [hda, if_pos rfl] at this
      rw [if_pos rfl, if_neg (by omega)]; simp only [Nat.add_zero]; omega
     ·
      rw [if_neg e]; exact I.p2 hm hn j hj hs
   ·
    rw [if_neg k3] at h; cases h
theorem inv_run {l0 : List S49} {l1 : List S51} {a2 a3 : Int} : ∀ {l : List S60} {c : Nat} {t : Int} {q q' : St}, Inv l0 l1 a2 a3 c t q → runL l0.length l1 l q = some q' → Inv l0 l1 a2 a3 (c + cntC l) (t + tmL l0 l1 a2 a3 l) q' ∧ ∀ s ∈ l, good l0 l1 s
 | [], c, t, q, q', I, h => by
  obtain rfl := Option.some.inj h
  simp only [tmL, cntC_nil, Nat.add_zero, Int.add_zero]
  exact ⟨I, fun _ h => by cases h⟩
 | s :: l, c, t, q, q', I, h => by
  simp only [runL] at h
  obtain ⟨q1, h1, h2⟩ := Option.bind_eq_some_iff.mp h
  obtain ⟨I1, g⟩ := inv_step I h1
  obtain ⟨I2, gs⟩ := inv_run I1 h2
  refine ⟨?_, fun x hx => ?_⟩
  ·
   rw [cntC_cons]
   simp only [tmL]
   rw [← Nat.add_assoc, ← Int.add_assoc]
   exact I2
  ·
   rcases List.mem_cons.1 hx with rfl | hx
   ·
    exact g
   ·
    exact gs x hx
theorem permitted {l0 : List S49} {l1 : List S51} {a2 a3 : Int} {l : List S60} {q : St} (h0 : 1 ≤ l0.length) (hs : sides l1) (hn : 1 ≤ l1.length) (h : runL l0.length l1 l (q0 l1) = some q) (f1 : finB l0.length l1 q.2.1 1 = true) (f2 : finB l0.length l1 q.2.1 2 = true) :
  tmL l0 l1 a2 a3 l = (cntC l : Int) * a2 + (if (sidB l1 1 && sidB l1 2) = true then a3 else 0) + ws l0 l1 (List.replicate l1.length (l0.length : Int)) l1.length ∧ cntC (ofL l0.length l1) ≤ cntC l ∧ ∀ s ∈ l, good l0 l1 s := by
 obtain ⟨I, g⟩ := inv_run (inv_start l0 l1 a2 a3 h0) h
 rw [Nat.zero_add, Int.zero_add] at I
 have full : ∀ j, j < l1.length → dAt q j = (l0.length : Int) := fun j hj => by
  have a := (I.rng j hj).2
  have b : (l0.length : Int) ≤ q.2.1.getD j 0 := by
   rcases hs j hj with h | h
   ·
    exact fin_done f1 hj h
   ·
    exact fin_done f2 hj h
  unfold dAt at a ⊢; omega
 have hw : ws l0 l1 q.2.1 l1.length = ws l0 l1 (List.replicate l1.length (l0.length : Int)) l1.length := ws_full l0 l1 _ _ _ (fun j hj => by
  rw [show q.2.1.getD j 0 = (l0.length : Int) from full j hj, List.getD_eq_getElem?_getD, List.getElem?_replicate, if_pos hj]; rfl)
 have hmv : q.2.2 = (sidB l1 1 && sidB l1 2) := by
  rw [Bool.eq_iff_iff, Bool.and_eq_true]
  refine ⟨I.mv, fun hb => ?_⟩
  obtain ⟨j, hj, hsj⟩ := sid_ex hb.2
  exact I.cr hb.1 hb.2 j hj hsj (by rw [full j hj]; omega)
 refine ⟨by rw [I.tm, hw, hmv], ?_, g⟩
 rw [cnt_of _ _ h0 (side_some hs hn)]
 split
 case isTrue hb =>
  obtain ⟨j, hj, hsj⟩ := sid_ex (Bool.and_eq_true_iff.1 hb.1).2
  have := I.p2 (by rw [hmv]; exact hb.1) hb.2 j hj hsj
  rw [full j hj] at this
  split at this <;> omega
 case isFalse =>
  have := I.p1 0 (by omega)
  rw [full 0 (by omega)] at this
  split at this <;> omega
theorem permitted_chk {l0 : List S49} {l1 : List S51} {a2 a3 : Int} {l : List S60} (h0 : 1 ≤ l0.length) (hs : sides l1) (hn : 1 ≤ l1.length) (h : (chk l0.length l1 l).2 = 0) :
  tmL l0 l1 a2 a3 l = (cntC l : Int) * a2 + (if (sidB l1 1 && sidB l1 2) = true then a3 else 0) + ws l0 l1 (List.replicate l1.length (l0.length : Int)) l1.length ∧ cntC (ofL l0.length l1) ≤ cntC l ∧ ∀ s ∈ l, good l0 l1 s := by
 obtain ⟨q, hq, f1, f2, _⟩ := chk_ok h
 exact permitted h0 hs hn hq f1 f2

theorem tmS_le {l0 : List S49} {l1 : List S51} {a2 a3 : Int} (hv : validB l0 l1 a2 a3 = true) {s : S60} (g : good l0 l1 s) : 0 ≤ tmS l0 l1 a2 a3 s ∧ tmS l0 l1 a2 a3 s ≤ 4800 := by
 obtain ⟨_, _, v2, v3, _, v5, v6⟩ := valid_use hv
 unfold tmS
 split
 ·
  omega
 ·
  split
  ·
   omega
  ·
   rcases g with g | g | g
   ·
    contradiction
   ·
    contradiction
   ·
    have a := v5 s.f2.toNat (by omega)
    have b := v6 s.f1.toNat (by omega)
    unfold fac mnt
    refine ⟨Int.mul_nonneg (by omega) (by omega), ?_⟩
    have := Int.mul_le_mul a.2 b.2 (by omega) (by omega : (0 : Int) ≤ 48)
    omega
set_option maxRecDepth 100000 in
theorem time_l {l0 : List S49} {l1 : List S51} {a2 a3 : Int} (hv : validB l0 l1 a2 a3 = true) (l : List S60) (hl : l.length ≤ 300) (g : ∀ s ∈ l, good l0 l1 s) : ∀ (d i : Nat) (t : Int), i + d = l.length → 0 ≤ t → t ≤ i * 4800 →
  Ev (fun k => steps_Time.l0 k t l (l.length : Int) i l0 l1 a2 a3) (t + tmL l0 l1 a2 a3 (l.drop i), 0)
 | 0, i, t, h, h1, h2 => by
  obtain rfl : i = l.length := by omega
  refine Ev.step (f := fun _ => some (t, 0)) (fun k => ?_) (by simpa [tmL] using Ev.now _)
  simp only [steps_Time.l0]; rw [if_neg (by omega)]
 | d + 1, i, t, h, h1, h2 => by
  have hi : i < l.length := by omega
  have gi := g l[i] (List.getElem_mem hi)
  have hle := tmS_le hv gi
  have ih := time_l hv l hl g d (i + 1) (t + tmS l0 l1 a2 a3 l[i]) (by omega) (by omega) (by push_cast; omega)
  rw [List.drop_eq_getElem_cons hi]
  simp only [tmL]
  rw [← Int.add_assoc]
  refine Ev.step (fun k => ?_) ih
  simp only [steps_Time.l0]
  rw [if_pos (by omega), if_pos (by omega), if_pos (by omega), rd62 hi, wrap_nat (by omega)]
  have wr : ∀ x : Int, 0 ≤ x → x ≤ 2000000 → wrap64 x = x := fun x a b => by unfold wrap64; omega
  unfold tmS at hle ⊢
  by_cases k1 : l[i].f0 = 1
  ·
   rw [if_pos k1] at hle
   rw [if_pos k1, if_pos k1, wr _ (by omega) (by omega)]
  ·
   rw [if_neg k1] at hle
   rw [if_neg k1, if_neg k1]
   by_cases k2 : l[i].f0 = 2
   ·
    rw [if_pos k2] at hle
    rw [if_pos k2, if_pos k2, wr _ (by omega) (by omega)]
   ·
    rw [if_neg k2] at hle
    rw [if_neg k2, if_neg k2]
    rcases gi with gi | gi | gi
    ·
     contradiction
    ·
     contradiction
    ·
     have ew : (rd_T51 l1 l[i].f2).f2 = fac l1 l[i].f2.toNat := rfl
     have em : (rd_T49 l0 l[i].f1).f2 = mnt l0 l[i].f1.toNat := rfl
     rw [if_pos gi.1.1, if_pos gi.1.2, if_pos gi.2.1, if_pos gi.2.2, ew, em, wr (fac l1 _ * mnt l0 _) (by omega) (by omega), wr _ (by omega) (by omega)]
theorem time_ev (l0 : List S49) (l1 : List S51) (a2 a3 : Int) (l : List S60) (h0 : ∀ x ∈ l0, x.f0.size ≤ 40) (hs : ∀ x ∈ l1, x.f0.size ≤ 40) (hl : l.length ≤ 300) : Ev (fun k => steps_Time.f k l0 l1 a2 a3 l) (if validB l0 l1 a2 a3 = true then (if (chk l0.length l1 l).2 = 0 then (tmL l0 l1 a2 a3 l, 0) else (0, (chk l0.length l1 l).2)) else (0, 1)) := by
 have hc := check_ev l0 l1 a2 a3 l h0 hs (by omega)
 refine Ev.congr (fun k => by unfold steps_Time.f; rfl) (Ev.bind hc ?_)
 cases hv : validB l0 l1 a2 a3 with
 | false => exact Ev.congr (f := fun _ => some (0, 1)) (fun k => rfl) (Ev.now _)
 | true =>
  rw [if_pos rfl, if_pos rfl]
  by_cases hz : (chk l0.length l1 l).2 = 0
  ·
   rw [if_pos hz]
   obtain ⟨v0, v1, _, _, v4, _⟩ := valid_use hv
   obtain ⟨_, _, g⟩ := permitted_chk (a2 := a2) (a3 := a3) v0.1 v4 v1.1 hz
   have := time_l hv l hl g l.length 0 0 (by omega) (by omega) (by omega)
   rw [List.drop_zero, Int.zero_add] at this
   exact Ev.congr (fun k => by rw [if_pos hz]; rfl) this
  ·
   rw [if_neg hz]
   exact Ev.congr (f := fun _ => some (0, (chk l0.length l1 l).2)) (fun k => by rw [if_neg hz]) (Ev.now _)
end Go.Proofs.YtalhpnfapagamaaDoor.Plain
end
