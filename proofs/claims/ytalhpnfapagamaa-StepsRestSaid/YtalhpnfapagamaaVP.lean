-- Written by this session's own programs; what the law does not lean on is left out. Lean checks it.
import Derived.Test.YtalhpnfapagamaaVN
import Derived.Test.YtalhpnfapagamaaVSx12
import Derived.Test.YtalhpnfapagamaaVSx15
import Derived.Test.YtalhpnfapagamaaVSx17
import Derived.Test.YtalhpnfapagamaaVSx25
import Derived.Test.YtalhpnfapagamaaVSx27
import Derived.Test.YtalhpnfapagamaaVSx30
import Derived.Test.YtalhpnfapagamaaVSx14
section
namespace Go.Proofs.Ytalhpnfapagamaa.Plain
open Go Go.RowKit Go.Proofs.Ytalhpnfapagamaa.S Go.Proofs.YtalhpnfapagamaaW.PrintWords Go.Proofs.YtalhpnfapagamaaW.PrintLast
abbrev Bs := List UInt8
def isL (c : UInt8) : Bool := decide (97 ≤ c.toNat ∧ c.toNat ≤ 122) || decide (65 ≤ c.toNat ∧ c.toNat ≤ 90)
def isD (c : UInt8) : Bool := decide (48 ≤ c.toNat ∧ c.toNat ≤ 57)
def isW (c : UInt8) : Bool := isL c || isD c || decide (c.toNat = 45) || decide (c.toNat = 95)
def runB (p : UInt8 → Bool) : Bs → Nat
 | [] => 0
 | c :: t => if p c then runB p t + 1 else 0
def wordB : Bs → Bool
 | [] => false
 | c :: t => isL c && t.all isW
def mk (l : Bs) : ByteArray := ⟨l.toArray⟩
theorem mk_of (s : ByteArray) : s = mk s.data.toList := by cases s; simp [mk]
theorem mk_size (l : Bs) : (mk l).size = l.length := by simp [mk, ByteArray.size]
theorem mk_data (l : Bs) : (mk l).data.toList = l := by simp [mk]
theorem mk_toList (l : Bs) : (mk l).toList = l := by rw [ByteArray.toList_eq, mk_data]
theorem bt_mk (l : Bs) (i : Nat) (h : i < l.length) : bt (mk l) (i : Int) = ((l[i]'h).toNat : Int) := by
 unfold bt
 rw [dif_pos (by rw [mk_size]; simpa using h)]
 rfl
theorem bt_head (c : UInt8) (t : Bs) : bt (mk (c :: t)) 0 = (c.toNat : Int) := bt_mk (c :: t) 0 (by simp)
theorem wrap_nat {i : Nat} (h : i ≤ 9223372036854775806) : wrap64 ((i : Int) + 1) = ((i + 1 : Nat) : Int) := by unfold wrap64; omega
theorem wrap_id {i : Int} (h0 : -9223372036854775808 ≤ i) (h : i ≤ 9223372036854775807) : wrap64 i = i := by unfold wrap64; omega

theorem letter_ev (c : UInt8) : lexer_letter.f (c.toNat : Int) = some (isL c) := by
 unfold lexer_letter.f isL
 repeat' split
 all_goals (congr 1; rw [Bool.eq_iff_iff]; simp only [Bool.or_eq_true, decide_eq_true_eq, true_iff, Bool.false_eq_true, false_iff]; omega)
theorem digit_ev (c : UInt8) : lexer_digit.f (c.toNat : Int) = some (isD c) := by
 unfold lexer_digit.f isD
 repeat' split
 all_goals (congr 1; rw [Bool.eq_iff_iff]; simp only [decide_eq_true_eq, Bool.false_eq_true, false_iff]; omega)
theorem wordc_ev (c : UInt8) : lexer_wordc.f (c.toNat : Int) = some (isW c) := by
 unfold lexer_wordc.f isW
 rw [letter_ev, digit_ev]
 cases isL c with
 | true => rfl
 | false =>
  cases isD c with
  | true => rfl
  | false =>
   simp only [Option.bind_some, Bool.false_or, Bool.false_eq_true, if_false]
   by_cases h : c.toNat = 45
   ·
    rw [if_pos (by omega)]; simp [h]
   ·
    rw [if_neg (by omega)]; congr 1
    rw [Bool.eq_iff_iff, beq_iff_eq, Bool.or_eq_true, decide_eq_true_eq, decide_eq_true_eq]; omega
theorem runB_cons (p : UInt8 → Bool) (c : UInt8) (t : Bs) : runB p (c :: t) = if p c = true then runB p t + 1 else 0 := rfl

theorem runw_l (l : Bs) (hl : l.length ≤ 140737488351232) : ∀ (d i : Nat), i + d = l.length → Ev (fun k => lexer_run_word.l0 k (mk l) (i : Int)) ((i + runB isW (l.drop i) : Nat) : Int)
 | 0, i, h => by
  obtain rfl : i = l.length := by omega
  refine Ev.step (f := fun _ => some ((l.length : Nat) : Int)) (fun k => ?_) (by simpa [runB] using Ev.now _)
  simp only [lexer_run_word.l0]; rw [if_neg (by rw [mk_size]; omega)]
 | d + 1, i, h => by
  have hi : i < l.length := by omega
  rw [List.drop_eq_getElem_cons hi, runB_cons]
  cases hp : isW l[i] with
  | true =>
   refine Ev.step (f := fun k => lexer_run_word.l0 k (mk l) ((i + 1 : Nat) : Int)) (fun k => ?_) (by have := runw_l l hl d (i + 1) (by omega); rw [if_pos rfl, show i + (runB isW (l.drop (i + 1)) + 1) = i + 1 + runB isW (l.drop (i + 1)) by omega]; exact this)
   simp only [lexer_run_word.l0]; rw [if_pos (by rw [mk_size]; omega), if_pos (by omega), bt_mk l i hi, wordc_ev, hp, wrap_nat (by omega)]; rfl
  | false =>
   refine Ev.step (f := fun _ => some (i : Int)) (fun k => ?_) (by rw [if_neg (by simp)]; exact Ev.now _)
   simp only [lexer_run_word.l0]; rw [if_pos (by rw [mk_size]; omega), if_pos (by omega), bt_mk l i hi, wordc_ev, hp]; rfl
theorem runw_ev (l : Bs) (hl : l.length ≤ 140737488351232) : Ev (fun k => lexer_run_word.f k (mk l)) ((runB isW l : Nat) : Int) := by
 have := runw_l l hl l.length 0 (by omega)
 simpa [lexer_run_word.f] using this
theorem runB_eq_length (p : UInt8 → Bool) : ∀ l : Bs, runB p l = l.length ↔ l.all p = true
 | [] => by simp [runB]
 | c :: t => by
  rw [runB_cons, List.all_cons, Bool.and_eq_true, ← runB_eq_length p t, List.length_cons]
  split
  ·
   rename_i h; simp [h]
  ·
   rename_i h; simp [h]

def resB (l : Bs) : Bool := ([[100, 101, 115, 105, 103, 110], [111, 114, 100, 101, 114], [109, 105, 114, 114, 111, 114], [116, 105, 101, 114], [97, 110, 103, 108, 101], [97, 116], [100, 101, 112, 116, 104], [109, 101, 101, 116], [101, 100, 103, 101], [104, 101, 105, 103, 104, 116], [116, 104, 114, 111, 117, 103, 104]] : List Bs).any (fun x => decide (l = x))
theorem res_ev (l : Bs) : lexer_Reserved.f (mk l) = some (resB l) := by
 unfold lexer_Reserved.f resB
 simp only [mk_toList, List.any_cons, List.any_nil, Bool.or_false]
 repeat' split
 all_goals simp_all
def nameB (l : Bs) : Bool := wordB l && decide (l.length ≤ 30) && !resB l
theorem isW_of_L {c : UInt8} (h : isL c = true) : isW c = true := by unfold isW; rw [h]; rfl
def wl : Bs → Int
 | [] => 0
 | c :: t => if isL c = true then ((runB isW t + 1 : Nat) : Int) else 0
theorem wl_cons (c : UInt8) (t : Bs) : wl (c :: t) = if isL c = true then ((runB isW t + 1 : Nat) : Int) else 0 := rfl
theorem word_ev (l : Bs) (hl : l.length ≤ 140737488351232) : Ev (fun k => lexer_word.f k (mk l)) (wl l) := by
 cases l with
 | nil => exact Ev.congr (fun k => by unfold lexer_word.f; rw [mk_toList, if_pos rfl]) (Ev.now 0)
 | cons c t =>
  have hs : ∀ k, lexer_word.f k (mk (c :: t)) = (if isL c = true then ((lexer_run_word.f k (mk (c :: t))).bind fun t110 => some t110) else some 0) := fun k => by
   unfold lexer_word.f
   rw [mk_toList, if_neg (by simp), if_pos (by rw [mk_size]; simp), bt_head, letter_ev]; rfl
  refine Ev.congr hs ?_
  rw [wl_cons]
  cases h : isL c with
  | true =>
   have := Ev.bind (f := fun _ t => some t) (runw_ev (c :: t) hl) (Ev.now _)
   rw [runB_cons, if_pos (isW_of_L h)] at this
   simpa using this
  | false => simpa using Ev.now (0 : Int)
theorem wordB_eq (c : UInt8) (t : Bs) : wordB (c :: t) = (isL c && decide (runB isW t + 1 = (c :: t).length)) := by
 have h : t.all isW = decide (runB isW t + 1 = (c :: t).length) := by
  rw [Bool.eq_iff_iff, decide_eq_true_eq, List.length_cons, ← runB_eq_length]; omega
 rw [wordB, h]
theorem name_ev (l : Bs) (hl : l.length ≤ 140737488351232) : Ev (fun k => lexer_IsName.f k (mk l)) (nameB l) := by
 cases l with
 | nil => exact Ev.congr (f := fun _ => some false) (fun k => by unfold lexer_IsName.f; rw [mk_toList, if_pos rfl]) (Ev.now _)
 | cons c t =>
  unfold nameB
  by_cases h30 : (c :: t).length ≤ 30
  ·
   refine Ev.congr (fun k => by unfold lexer_IsName.f; rw [mk_toList, if_neg (by simp), if_pos (by rw [mk_size]; omega), mk_size, res_ev]) (Ev.bind (word_ev (c :: t) hl) ?_)
   rw [decide_eq_true h30, wordB_eq, Bool.and_true, wl_cons]
   cases h : isL c with
   | false =>
    rw [if_neg (show ¬ (false = true) by simp), if_neg (by rw [List.length_cons]; omega), Bool.false_and]
    exact Ev.now _
   | true =>
    simp only [if_true, Bool.true_and]
    by_cases hr : runB isW t + 1 = (c :: t).length
    ·
     refine Ev.congr (f := fun _ => some (!resB (c :: t))) (fun k => ?_) (by rw [decide_eq_true hr, Bool.true_and]; exact Ev.now _)
     rw [if_pos (by omega)]; rfl
    ·
     refine Ev.congr (f := fun _ => some false) (fun k => ?_) (by rw [decide_eq_false hr, Bool.false_and]; exact Ev.now _)
     rw [if_neg (by omega)]
  ·
   refine Ev.congr (f := fun _ => some false) (fun k => by unfold lexer_IsName.f; rw [mk_toList, if_neg (by simp), if_neg (by rw [mk_size]; omega)]) ?_
   rw [decide_eq_false h30]; simpa using Ev.now false
theorem rletter_ev (c : UInt8) : culetref13_letter.f (c.toNat : Int) = some (isL c) := letter_ev c
theorem rdigit_ev (c : UInt8) : culetref13_digit.f (c.toNat : Int) = some (isD c) := digit_ev c

def RES : List Bs := [[100, 101, 115, 105, 103, 110], [111, 114, 100, 101, 114], [109, 105, 114, 114, 111, 114], [116, 105, 101, 114], [97, 110, 103, 108, 101], [97, 116], [100, 101, 112, 116, 104], [109, 101, 101, 116], [101, 100, 103, 101], [104, 101, 105, 103, 104, 116], [116, 104, 114, 111, 117, 103, 104]]
theorem rres_l (l : Bs) (R : List Bs) (hR : R.length ≤ 100) : ∀ (d i : Nat), i + d = R.length → Ev (fun k => culetref13_Reserved.l0 k (mk l) (R.map mk) (i : Int)) ((R.drop i).any (fun x => decide (l = x)))
 | 0, i, h => by
  obtain rfl : i = R.length := by omega
  refine Ev.step (f := fun _ => some false) (fun k => ?_) (by simpa using Ev.now false)
  simp only [culetref13_Reserved.l0]; rw [if_neg (by rw [List.length_map]; omega)]
 | d + 1, i, h => by
  have hi : i < R.length := by omega
  have ih := rres_l l R hR d (i + 1) (by omega)
  have hrd : rdOf ByteArray.empty (R.map mk) (i : Int) = mk R[i] := by
   unfold rdOf; rw [Int.toNat_natCast, List.getD_eq_getElem?_getD, List.getElem?_map, List.getElem?_eq_getElem hi]; rfl
  rw [List.drop_eq_getElem_cons hi, List.any_cons]
  by_cases he : l = R[i]
  ·
   refine Ev.step (f := fun _ => some true) (fun k => ?_) (by rw [decide_eq_true he]; exact Ev.now _)
   simp only [culetref13_Reserved.l0]; rw [if_pos (by rw [List.length_map]; omega), if_pos (by omega), hrd, mk_toList, mk_toList, if_pos he.symm]
  ·
   refine Ev.step (fun k => ?_) (by rw [decide_eq_false he, Bool.false_or]; exact ih)
   simp only [culetref13_Reserved.l0]; rw [if_pos (by rw [List.length_map]; omega), if_pos (by omega), hrd, mk_toList, mk_toList, if_neg (fun h => he h.symm), wrap_nat (by omega)]
theorem rres_ev (l : Bs) : Ev (fun k => culetref13_Reserved.f k (mk l)) (resB l) := rres_l l RES (by decide) RES.length 0 (by decide)

theorem rword_l (l : Bs) (hl : l.length ≤ 140737488351232) (h0 : 0 < l.length) : ∀ (d i : Nat), i + d = l.length → 1 ≤ i → Ev (fun k => culetref13_word.l0 k (mk l) (i : Int)) ((l.drop i).all isW)
 | 0, i, h, h1 => by
  obtain rfl : i = l.length := by omega
  refine Ev.step (f := fun _ => some true) (fun k => ?_) (by simpa using Ev.now true)
  simp only [culetref13_word.l0]; rw [if_neg (by rw [mk_size]; omega), decide_eq_true (by rw [mk_size]; omega)]
 | d + 1, i, h, h1 => by
  have hi : i < l.length := by omega
  have ih := rword_l l hl h0 d (i + 1) (by omega) (by omega)
  have hb := bt_mk l i hi
  have g0 : (0 : Int) ≤ (i : Int) := by omega
  have g1 : (i : Int) < ((mk l).size : Int) := by rw [mk_size]; omega
  have n0 : ¬ (i : Int) = 0 := by omega
  have hw : wrap64 ((i : Int) + 1) = ((i + 1 : Nat) : Int) := wrap_nat (by omega)
  rw [List.drop_eq_getElem_cons hi, List.all_cons]
  generalize l[i] = c at hb ⊢
  cases hL : isL c with
  | true =>
   rw [isW_of_L hL, Bool.true_and]
   refine Ev.step (fun k => ?_) ih
   simp only [culetref13_word.l0]; rw [if_pos g1, if_pos g0, hb, rletter_ev, hL, hw]; rfl
  | false =>
   cases hD : isD c with
   | true =>
    rw [show isW c = true by simp [isW, hD], Bool.true_and]
    refine Ev.step (fun k => ?_) ih
    simp only [culetref13_word.l0]; rw [if_pos g1, if_pos g0, hb, rletter_ev, hL, Option.bind_some, if_neg (by simp), if_neg n0, rdigit_ev, hD, hw]; rfl
   | false =>
    by_cases a : c.toNat = 45
    ·
     rw [show isW c = true by simp [isW, a], Bool.true_and]
     refine Ev.step (fun k => ?_) ih
     simp only [culetref13_word.l0]; rw [if_pos g1, if_pos g0, hb, rletter_ev, hL, Option.bind_some, if_neg (by simp), if_neg n0, rdigit_ev, hD, Option.bind_some, if_neg (by simp), if_pos (by omega), hw]
    ·
     by_cases b : c.toNat = 95
     ·
      rw [show isW c = true by simp [isW, b], Bool.true_and]
      refine Ev.step (fun k => ?_) ih
      simp only [culetref13_word.l0]; rw [if_pos g1, if_pos g0, hb, rletter_ev, hL, Option.bind_some, if_neg (by simp), if_neg n0, rdigit_ev, hD, Option.bind_some, if_neg (by simp), if_neg (by omega), if_pos (by omega), hw]
     ·
      rw [show isW c = false by simp [isW, hL, hD, a, b], Bool.false_and]
      refine Ev.step (f := fun _ => some false) (fun k => ?_) (Ev.now _)
      simp only [culetref13_word.l0]; rw [if_pos g1, if_pos g0, hb, rletter_ev, hL, Option.bind_some, if_neg (by simp), if_neg n0, rdigit_ev, hD, Option.bind_some, if_neg (by simp), if_neg (by omega), if_neg (by omega)]
theorem rword_ev (l : Bs) (hl : l.length ≤ 140737488351232) : Ev (fun k => culetref13_word.f k (mk l)) (wordB l) := by
 cases l with
 | nil =>
  refine Ev.step (f := fun _ => some false) (fun k => ?_) (Ev.now _)
  show culetref13_word.l0 (k + 1) (mk []) 0 = _
  simp only [culetref13_word.l0]; rw [if_neg (by rw [mk_size]; simp), decide_eq_false (by rw [mk_size]; simp)]
 | cons c t =>
  have ih := rword_l (c :: t) hl (by simp) t.length 1 (by rw [List.length_cons]; omega) (Nat.le_refl _)
  have g1 : (0 : Int) < ((mk (c :: t)).size : Int) := by rw [mk_size, List.length_cons]; omega
  have hw : wrap64 ((0 : Int) + 1) = ((1 : Nat) : Int) := by rw [wrap_id (by decide) (by decide)]; rfl
  rw [wordB]
  cases hL : isL c with
  | true =>
   rw [Bool.true_and]
   refine Ev.step (fun k => ?_) ih
   show culetref13_word.l0 (k + 1) (mk (c :: t)) 0 = _
   simp only [culetref13_word.l0]; rw [if_pos g1, if_pos (by omega), bt_head, rletter_ev, hL, hw]; rfl
  | false =>
   rw [Bool.false_and]
   refine Ev.step (f := fun _ => some false) (fun k => ?_) (Ev.now _)
   show culetref13_word.l0 (k + 1) (mk (c :: t)) 0 = _
   simp only [culetref13_word.l0]; rw [if_pos g1, if_pos (by omega), bt_head, rletter_ev, hL, Option.bind_some, if_neg (by simp), if_pos trivial]
theorem rname_ev (l : Bs) (hl : l.length ≤ 140737488351232) : Ev (fun k => culetref13_IsName.f k (mk l)) (nameB l) := by
 refine Ev.congr (fun k => by unfold culetref13_IsName.f; rfl) (Ev.bind (rword_ev l hl) ?_)
 unfold nameB
 cases wordB l with
 | false => simpa using Ev.now false
 | true =>
  by_cases h30 : l.length ≤ 30
  ·
   rw [decide_eq_true h30]
   refine Ev.congr (fun k => by rw [if_pos rfl, if_pos (by rw [mk_size]; omega)]) (Ev.bind (rres_ev l) ?_)
   simpa using Ev.now _
  ·
   rw [decide_eq_false h30]
   refine Ev.congr (f := fun _ => some false) (fun k => by rw [if_pos rfl, if_neg (by rw [mk_size]; omega)]) (by simpa using Ev.now false)

end Go.Proofs.Ytalhpnfapagamaa.Plain
end
section
namespace Go.Proofs.Ytalhpnfapagamaa.Plain
open Go Go.RowKit Go.Proofs.Ytalhpnfapagamaa.S Go.Proofs.YtalhpnfapagamaaW.PrintWords Go.Proofs.YtalhpnfapagamaaW.PrintLast

theorem awake_ok : Ev (fun k => culetlaw49_awake.f k) true := Ev.of (fun k => culetlaw49_awake.mono k) (k := 60) (by decide +kernel)

theorem rd94 {l : List S94} {i : Nat} (hi : i < l.length) : rd_T94 l (i : Int) = l[i] := by unfold rd_T94; rw [Int.toNat_natCast, List.getD_eq_getElem?_getD, List.getElem?_eq_getElem hi]; rfl
theorem rd68 {l : List S68} {i : Nat} (hi : i < l.length) : rd_T68 l (i : Int) = l[i] := by unfold rd_T68; rw [Int.toNat_natCast, List.getD_eq_getElem?_getD, List.getElem?_eq_getElem hi]; rfl
theorem rd62 {l : List S62} {i : Nat} (hi : i < l.length) : rd_T62 l (i : Int) = l[i] := by unfold rd_T62; rw [Int.toNat_natCast, List.getD_eq_getElem?_getD, List.getElem?_eq_getElem hi]; rfl
def fewB (l0 : List S94) (l1 : List S68) : Bool := decide (l0.length ≤ 8) && (decide (l1.length ≤ 22) && (l0.all (fun x => decide (x.f0.size ≤ 40)) && l1.all (fun x => decide (x.f0.size ≤ 40))))
theorem few_l1 (l0 : List S94) (l1 : List S68) (a2 a3 : Int) (h1 : l1.length ≤ 22) : ∀ (d i : Nat), i + d = l1.length → Ev (fun k => culetref49_Few.l1 k i l0 l1 a2 a3) ((l1.drop i).all (fun x => decide (x.f0.size ≤ 40)))
 | 0, i, h => by
  obtain rfl : i = l1.length := by omega
  refine Ev.step (f := fun _ => some true) (fun k => ?_) (by simpa using Ev.now _)
  simp only [culetref49_Few.l1]; rw [if_neg (by omega)]
 | d + 1, i, h => by
  have hi : i < l1.length := by omega
  rw [List.drop_eq_getElem_cons hi, List.all_cons]
  by_cases h4 : l1[i].f0.size ≤ 40
  ·
   rw [decide_eq_true h4, Bool.true_and]
   refine Ev.step (f := fun k => culetref49_Few.l1 k ((i + 1 : Nat) : Int) l0 l1 a2 a3) (fun k => ?_) (few_l1 l0 l1 a2 a3 h1 d (i + 1) (by omega))
   simp only [culetref49_Few.l1]; rw [if_pos (by omega), if_pos (by omega), rd68 hi, if_neg (by omega), wrap_nat (by omega)]
  ·
   rw [decide_eq_false h4, Bool.false_and]
   refine Ev.step (f := fun _ => some false) (fun k => ?_) (Ev.now _)
   simp only [culetref49_Few.l1]; rw [if_pos (by omega), if_pos (by omega), rd68 hi, if_pos (by omega)]
theorem few_l0 (l0 : List S94) (l1 : List S68) (a2 a3 : Int) (h0 : l0.length ≤ 8) (h1 : l1.length ≤ 22) : ∀ (d i : Nat), i + d = l0.length → Ev (fun k => culetref49_Few.l0 k i l0 l1 a2 a3) ((l0.drop i).all (fun x => decide (x.f0.size ≤ 40)) && l1.all (fun x => decide (x.f0.size ≤ 40)))
 | 0, i, h => by
  obtain rfl : i = l0.length := by omega
  refine Ev.step (f := fun k => culetref49_Few.l1 k ((0 : Nat) : Int) l0 l1 a2 a3) (fun k => ?_) (by simpa using few_l1 l0 l1 a2 a3 h1 l1.length 0 (by omega))
  simp only [culetref49_Few.l0]; rw [if_neg (by omega)]; rfl
 | d + 1, i, h => by
  have hi : i < l0.length := by omega
  rw [List.drop_eq_getElem_cons hi, List.all_cons]
  by_cases h4 : l0[i].f0.size ≤ 40
  ·
   rw [decide_eq_true h4, Bool.true_and]
   refine Ev.step (f := fun k => culetref49_Few.l0 k ((i + 1 : Nat) : Int) l0 l1 a2 a3) (fun k => ?_) (few_l0 l0 l1 a2 a3 h0 h1 d (i + 1) (by omega))
   simp only [culetref49_Few.l0]; rw [if_pos (by omega), if_pos (by omega), rd94 hi, if_neg (by omega), wrap_nat (by omega)]
  ·
   rw [decide_eq_false h4, Bool.false_and, Bool.false_and]
   refine Ev.step (f := fun _ => some false) (fun k => ?_) (Ev.now _)
   simp only [culetref49_Few.l0]; rw [if_pos (by omega), if_pos (by omega), rd94 hi, if_pos (by omega)]
theorem few_ev (l0 : List S94) (l1 : List S68) (a2 a3 : Int) : Ev (fun k => culetref49_Few.f k l0 l1 a2 a3) (fewB l0 l1) := by
 unfold fewB
 by_cases h0 : l0.length ≤ 8
 ·
  rw [decide_eq_true h0, Bool.true_and]
  by_cases h1 : l1.length ≤ 22
  ·
   rw [decide_eq_true h1, Bool.true_and]
   refine Ev.congr (f := fun k => culetref49_Few.j0 k false l0 l1 a2 a3) (fun k => by unfold culetref49_Few.f; rw [if_neg (by omega), decide_eq_false (by omega)]) ?_
   refine Ev.step (f := fun k => culetref49_Few.l0 k ((0 : Nat) : Int) l0 l1 a2 a3) (fun k => by simp only [culetref49_Few.j0]; rw [if_neg (by simp)]; rfl) ?_
   simpa using few_l0 l0 l1 a2 a3 h0 h1 l0.length 0 (by omega)
  ·
   rw [decide_eq_false h1, Bool.false_and]
   refine Ev.congr (f := fun k => culetref49_Few.j0 k true l0 l1 a2 a3) (fun k => by unfold culetref49_Few.f; rw [if_neg (by omega), decide_eq_true (by omega)]) ?_
   exact Ev.step (f := fun _ => some false) (fun k => by simp only [culetref49_Few.j0]; rw [if_pos trivial]) (Ev.now _)
 ·
  rw [decide_eq_false h0, Bool.false_and]
  refine Ev.congr (f := fun k => culetref49_Few.j0 k true l0 l1 a2 a3) (fun k => by unfold culetref49_Few.f; rw [if_pos (by omega)]) ?_
  exact Ev.step (f := fun _ => some false) (fun k => by simp only [culetref49_Few.j0]; rw [if_pos trivial]) (Ev.now _)
theorem few_bounds {l0 : List S94} {l1 : List S68} (h : fewB l0 l1 = true) : l0.length ≤ 8 ∧ l1.length ≤ 22 ∧ (∀ x ∈ l0, x.f0.size ≤ 40) ∧ (∀ x ∈ l1, x.f0.size ≤ 40) := by
 simp only [fewB, Bool.and_eq_true, List.all_eq_true, decide_eq_true_eq] at h
 exact ⟨h.1, h.2.1, h.2.2.1, h.2.2.2⟩

def lapOf (x : S94) : S92 := ⟨x.f0, x.f1, x.f2⟩
def workOf (x : S68) : S93 := ⟨x.f0, x.f1, x.f2⟩
theorem own_l1 (l1 : List S68) (m0 : List S92) (a2 a3 : Int) (h1 : l1.length ≤ 22) : ∀ (d i : Nat), i + d = l1.length → Ev (fun k => culetlaw49_Own.l1 k l1 (l1.length : Int) i m0 ((l1.take i).map workOf) a2 a3) (m0, l1.map workOf, a2, a3)
 | 0, i, h => by
  obtain rfl : i = l1.length := by omega
  refine Ev.step (f := fun _ => some (m0, l1.map workOf, a2, a3)) (fun k => ?_) (Ev.now _)
  simp only [culetlaw49_Own.l1]; rw [if_neg (by omega), List.take_length]
 | d + 1, i, h => by
  have hi : i < l1.length := by omega
  have ih := own_l1 l1 m0 a2 a3 h1 d (i + 1) (by omega)
  refine Ev.step (f := fun k => culetlaw49_Own.l1 k l1 (l1.length : Int) ((i + 1 : Nat) : Int) m0 ((l1.take (i + 1)).map workOf) a2 a3) (fun k => ?_) ih
  simp only [culetlaw49_Own.l1]
  rw [if_pos (by omega), if_pos (by omega), if_pos (by omega), if_pos (by simp; omega), rd68 hi, wrap_nat (by omega)]
  congr 1
  rw [List.take_succ_eq_append_getElem hi, List.map_append]; rfl
theorem own_l0 (l0 : List S94) (l1 : List S68) (a2 a3 : Int) (h0 : l0.length ≤ 8) (h1 : l1.length ≤ 22) : ∀ (d i : Nat), i + d = l0.length → Ev (fun k => culetlaw49_Own.l0 k l0 (l0.length : Int) i l0 l1 a2 a3 ((l0.take i).map lapOf) a2 a3) (l0.map lapOf, l1.map workOf, a2, a3)
 | 0, i, h => by
  obtain rfl : i = l0.length := by omega
  refine Ev.step (f := fun k => culetlaw49_Own.l1 k l1 (l1.length : Int) ((0 : Nat) : Int) (l0.map lapOf) ((l1.take 0).map workOf) a2 a3) (fun k => ?_) (own_l1 l1 (l0.map lapOf) a2 a3 h1 l1.length 0 (by omega))
  simp only [culetlaw49_Own.l0]; rw [if_neg (by omega), List.take_length]; rfl
 | d + 1, i, h => by
  have hi : i < l0.length := by omega
  have ih := own_l0 l0 l1 a2 a3 h0 h1 d (i + 1) (by omega)
  refine Ev.step (f := fun k => culetlaw49_Own.l0 k l0 (l0.length : Int) ((i + 1 : Nat) : Int) l0 l1 a2 a3 ((l0.take (i + 1)).map lapOf) a2 a3) (fun k => ?_) ih
  simp only [culetlaw49_Own.l0]
  rw [if_pos (by omega), if_pos (by omega), if_pos (by omega), if_pos (by simp; omega), rd94 hi, wrap_nat (by omega)]
  congr 1
  rw [List.take_succ_eq_append_getElem hi, List.map_append]; rfl
theorem own_ev (l0 : List S94) (l1 : List S68) (a2 a3 : Int) (h0 : l0.length ≤ 8) (h1 : l1.length ≤ 22) : Ev (fun k => culetlaw49_Own.f k l0 l1 a2 a3) (l0.map lapOf, l1.map workOf, a2, a3) :=
 Ev.congr (fun k => by unfold culetlaw49_Own.f; rfl) (own_l0 l0 l1 a2 a3 h0 h1 l0.length 0 (by omega))
end Go.Proofs.Ytalhpnfapagamaa.Plain
end
section
namespace Go.Proofs.Ytalhpnfapagamaa.Plain
open Go Go.RowKit Go.Proofs.Ytalhpnfapagamaa.S Go.Proofs.YtalhpnfapagamaaW.PrintWords Go.Proofs.YtalhpnfapagamaaW.PrintLast

abbrev St := Int × List Int × Bool
def sd (l1 : List S93) (j : Nat) : Int := (l1.getD j z93).f1
theorem rd_nat_ (l : List Int) (i : Nat) : rd l (i : Int) = l.getD i 0 := by unfold rd; rw [Int.toNat_natCast]
theorem inB_iff (x a b : Int) : inB x a b = true ↔ a ≤ x ∧ x ≤ b := by unfold inB; simp
def sides (l1 : List S93) : Prop := ∀ j, j < l1.length → sd l1 j = 1 ∨ sd l1 j = 2
end Go.Proofs.Ytalhpnfapagamaa.Plain
end
section
namespace Go.Proofs.Ytalhpnfapagamaa.Plain
open Go Go.RowKit Go.Proofs.Ytalhpnfapagamaa.S Go.Proofs.YtalhpnfapagamaaW.PrintWords Go.Proofs.YtalhpnfapagamaaW.PrintLast

def nmB (s : ByteArray) : Bool := nameB s.data.toList
theorem nm_ev (s : ByteArray) (h : s.size ≤ 40) : Ev (fun k => lexer_IsName.f k s) (nmB s) := by
 have e := mk_of s
 have hl : s.data.toList.length ≤ 140737488351232 := by
  rw [Array.length_toList]
  exact Nat.le_trans h (by decide)
 have := name_ev s.data.toList hl
 rw [← e] at this
 exact this
theorem rnm_ev (s : ByteArray) (h : s.size ≤ 40) : Ev (fun k => culetref13_IsName.f k s) (nmB s) := by
 have e := mk_of s
 have hl : s.data.toList.length ≤ 140737488351232 := by
  rw [Array.length_toList]
  exact Nat.le_trans h (by decide)
 have := rname_ev s.data.toList hl
 rw [← e] at this
 exact this
def okW (l1 : List S93) (i : Nat) : Bool := !(l1.take i).any (fun y => y.f0.toList == (l1.getD i z93).f0.toList) && (nmB (l1.getD i z93).f0 && (inB (l1.getD i z93).f1 1 2 && inB (l1.getD i z93).f2 1 48))
def okL (l0 : List S92) (i : Nat) : Bool := !(l0.take i).any (againB (l0.getD i z92)) && (nmB (l0.getD i z92).f0 && (inB (l0.getD i z92).f1 1 200000 && inB (l0.getD i z92).f2 1 100))
def validB (l0 : List S92) (l1 : List S93) (a2 a3 : Int) : Bool :=
 inB l0.length 1 6 && (inB l1.length 1 20 && (inB a2 0 1000 && (inB a3 0 1000 && ((List.range' 0 l0.length).all (okL l0) && (List.range' 0 l1.length).all (okW l1)))))
theorem getD_mem {α : Type} {l : List α} {i : Nat} (hi : i < l.length) (d : α) : l.getD i d ∈ l := by rw [List.getD_eq_getElem?_getD, List.getElem?_eq_getElem hi]; exact List.getElem_mem hi
theorem valid_l1 (l1 : List S93) (hs : ∀ x ∈ l1, x.f0.size ≤ 40) : ∀ (d i : Nat), i + d = l1.length → Ev (fun k => steps_Valid.l1 k l1 i) ((List.range' i d).all (okW l1))
 | 0, i, h => by
  refine Ev.step (f := fun _ => some true) (fun k => ?_) (by simpa using Ev.now _)
  simp only [steps_Valid.l1]; rw [if_neg (by omega)]
 | d + 1, i, h => by
  have hi : i < l1.length := by omega
  rw [List.range'_succ, List.all_cons]
  unfold okW
  cases h1 : (l1.take i).any (fun y => y.f0.toList == (l1.getD i z93).f0.toList) with
  | true =>
   refine Ev.step (f := fun _ => some false) (fun k => ?_) (by simpa using Ev.now _)
   simp only [steps_Valid.l1]; rw [if_pos hi, h1, if_pos rfl]
  | false =>
   refine Ev.step (f := fun k => (lexer_IsName.f k (l1.getD i z93).f0).bind fun nm => if nm = true then (if inB (l1.getD i z93).f1 1 2 = true then (if inB (l1.getD i z93).f2 1 48 = true then steps_Valid.l1 k l1 (i + 1) else some false) else some false) else some false) (fun k => by
    simp only [steps_Valid.l1]; rw [if_pos hi, h1, if_neg (by simp)]) ?_
   refine Ev.bind (nm_ev _ (hs _ (getD_mem hi _))) ?_
   cases nmB (l1.getD i z93).f0 with
   | false => simpa using Ev.now false
   | true =>
    cases inB (l1.getD i z93).f1 1 2 with
    | false => simpa using Ev.now false
    | true =>
     cases inB (l1.getD i z93).f2 1 48 with
     | false => simpa using Ev.now false
     | true =>
      have ih := valid_l1 l1 hs d (i + 1) (by omega)
      unfold okW at ih
      simpa using ih
theorem valid_l0 (l0 : List S92) (l1 : List S93) (h0 : ∀ x ∈ l0, x.f0.size ≤ 40) (hs : ∀ x ∈ l1, x.f0.size ≤ 40) : ∀ (d i : Nat), i + d = l0.length → Ev (fun k => steps_Valid.l0 k l0 l1 i) ((List.range' i d).all (okL l0) && (List.range' 0 l1.length).all (okW l1))
 | 0, i, h => by
  refine Ev.step (f := fun k => steps_Valid.l1 k l1 0) (fun k => ?_) (by simpa using valid_l1 l1 hs l1.length 0 (by omega))
  simp only [steps_Valid.l0]; rw [if_neg (by omega)]
 | d + 1, i, h => by
  have hi : i < l0.length := by omega
  rw [List.range'_succ, List.all_cons]
  unfold okL
  cases h1 : (l0.take i).any (againB (l0.getD i z92)) with
  | true =>
   refine Ev.step (f := fun _ => some false) (fun k => ?_) (by simpa using Ev.now _)
   simp only [steps_Valid.l0]; rw [if_pos hi, h1, if_pos rfl]
  | false =>
   refine Ev.step (f := fun k => (lexer_IsName.f k (l0.getD i z92).f0).bind fun nm => if nm = true then (if inB (l0.getD i z92).f1 1 200000 = true then (if inB (l0.getD i z92).f2 1 100 = true then steps_Valid.l0 k l0 l1 (i + 1) else some false) else some false) else some false) (fun k => by
    simp only [steps_Valid.l0]; rw [if_pos hi, h1, if_neg (by simp)]) ?_
   refine Ev.bind (nm_ev _ (h0 _ (getD_mem hi _))) ?_
   cases nmB (l0.getD i z92).f0 with
   | false => simpa using Ev.now false
   | true =>
    cases inB (l0.getD i z92).f1 1 200000 with
    | false => simpa using Ev.now false
    | true =>
     cases inB (l0.getD i z92).f2 1 100 with
     | false => simpa using Ev.now false
     | true =>
      have ih := valid_l0 l0 l1 h0 hs d (i + 1) (by omega)
      unfold okL at ih
      simpa using ih
theorem valid_ev (l0 : List S92) (l1 : List S93) (a2 a3 : Int) (h0 : ∀ x ∈ l0, x.f0.size ≤ 40) (hs : ∀ x ∈ l1, x.f0.size ≤ 40) : Ev (fun k => steps_Valid.f k l0 l1 a2 a3) (validB l0 l1 a2 a3) := by
 refine Ev.congr (fun k => by unfold steps_Valid.f; rfl) ?_
 unfold validB
 cases inB l0.length 1 6 with
 | false => simpa using Ev.now false
 | true =>
  cases inB l1.length 1 20 with
  | false => simpa using Ev.now false
  | true =>
   cases inB a2 0 1000 with
   | false => simpa using Ev.now false
   | true =>
    cases inB a3 0 1000 with
    | false => simpa using Ev.now false
    | true => simpa using valid_l0 l0 l1 h0 hs l0.length 0 (by omega)
theorem valid_use {l0 : List S92} {l1 : List S93} {a2 a3 : Int} (h : validB l0 l1 a2 a3 = true) : (1 ≤ l0.length ∧ l0.length ≤ 6) ∧ (1 ≤ l1.length ∧ l1.length ≤ 20) ∧ (0 ≤ a2 ∧ a2 ≤ 1000) ∧ (0 ≤ a3 ∧ a3 ≤ 1000) ∧ sides l1 ∧ (∀ i, i < l1.length → 1 ≤ (l1.getD i z93).f2 ∧ (l1.getD i z93).f2 ≤ 48) ∧ (∀ i, i < l0.length → 1 ≤ (l0.getD i z92).f2 ∧ (l0.getD i z92).f2 ≤ 100) := by
 unfold validB at h
 simp only [Bool.and_eq_true, inB_iff, List.all_eq_true, List.mem_range'_1] at h
 obtain ⟨h1, h2, h3, h4, h5, h6⟩ := h
 have w : ∀ i, i < l1.length → okW l1 i = true := fun i hi => h6 i ⟨by omega, by omega⟩
 have l : ∀ i, i < l0.length → okL l0 i = true := fun i hi => h5 i ⟨by omega, by omega⟩
 refine ⟨⟨by omega, by omega⟩, ⟨by omega, by omega⟩, h3, h4, fun i hi => ?_, fun i hi => ?_, fun i hi => ?_⟩
 ·
  have := w i hi
  unfold okW at this
  simp only [Bool.and_eq_true, inB_iff] at this
  unfold sd
  omega
 ·
  have := w i hi
  unfold okW at this
  simp only [Bool.and_eq_true, inB_iff] at this
  exact this.2.2.2
 ·
  have := l i hi
  unfold okL at this
  simp only [Bool.and_eq_true, inB_iff] at this
  exact this.2.2.2
theorem of_ev (l0 : List S92) (l1 : List S93) (a2 a3 : Int) (h0 : ∀ x ∈ l0, x.f0.size ≤ 40) (hs : ∀ x ∈ l1, x.f0.size ≤ 40) : Ev (fun k => steps_Of.f k l0 l1 a2 a3) (if validB l0 l1 a2 a3 = true then (ofL l0.length l1, 0) else ([], 1)) := by
 refine Ev.congr (fun k => by unfold steps_Of.f; rfl) (Ev.bind (valid_ev l0 l1 a2 a3 h0 hs) ?_)
 cases validB l0 l1 a2 a3 with
 | true => exact Ev.now _
 | false => exact Ev.now _
theorem mapd94 (l0 : List S94) {i : Nat} (hi : i < l0.length) : (l0.map lapOf).getD i z92 = lapOf (l0.getD i z94) := by
 rw [List.getD_eq_getElem?_getD, List.getD_eq_getElem?_getD, List.getElem?_map, List.getElem?_eq_getElem hi]; rfl
theorem mapd68 (l1 : List S68) {i : Nat} (hi : i < l1.length) : (l1.map workOf).getD i z93 = workOf (l1.getD i z68) := by
 rw [List.getD_eq_getElem?_getD, List.getD_eq_getElem?_getD, List.getElem?_map, List.getElem?_eq_getElem hi]; rfl
theorem any68 (l1 : List S68) (i : Nat) (s : List UInt8) : ((l1.map workOf).take i).any (fun y => y.f0.toList == s) = (l1.take i).any (fun y => y.f0.toList == s) := by
 rw [← List.map_take, List.any_map]; rfl
theorem rvalid_l1 (l1 : List S68) (hs : ∀ x ∈ l1, x.f0.size ≤ 40) : ∀ (d i : Nat), i + d = l1.length → Ev (fun k => refV.l1 k l1 i) ((List.range' i d).all (okW (l1.map workOf)))
 | 0, i, h => by
  refine Ev.step (f := fun _ => some true) (fun k => ?_) (by simpa using Ev.now _)
  simp only [refV.l1]; rw [if_neg (by omega)]
 | d + 1, i, h => by
  have hi : i < l1.length := by omega
  rw [List.range'_succ, List.all_cons]
  have e : okW (l1.map workOf) i = (nmB (l1.getD i z68).f0 && (inB (l1.getD i z68).f1 1 2 && (inB (l1.getD i z68).f2 1 48 && !(l1.take i).any (fun y => y.f0.toList == (l1.getD i z68).f0.toList)))) := by
   unfold okW
   rw [mapd68 l1 hi, any68]
   simp only [workOf]
   cases nmB (l1.getD i z68).f0 <;> cases inB (l1.getD i z68).f1 1 2 <;> cases inB (l1.getD i z68).f2 1 48 <;> simp
  rw [e]
  refine Ev.step (f := fun k => (culetref13_IsName.f k (l1.getD i z68).f0).bind fun nm => if nm = true then (if inB (l1.getD i z68).f1 1 2 = true then (if inB (l1.getD i z68).f2 1 48 = true then (if (l1.take i).any (fun y => y.f0.toList == (l1.getD i z68).f0.toList) = true then some false else refV.l1 k l1 (i + 1)) else some false) else some false) else some false) (fun k => by
   simp only [refV.l1]; rw [if_pos hi]) ?_
  refine Ev.bind (rnm_ev _ (hs _ (getD_mem hi _))) ?_
  cases nmB (l1.getD i z68).f0 with
  | false => simpa using Ev.now false
  | true =>
   cases inB (l1.getD i z68).f1 1 2 with
   | false => simpa using Ev.now false
   | true =>
    cases inB (l1.getD i z68).f2 1 48 with
    | false => simpa using Ev.now false
    | true =>
     cases (l1.take i).any (fun y => y.f0.toList == (l1.getD i z68).f0.toList) with
     | true => simpa using Ev.now false
     | false =>
      have ih := rvalid_l1 l1 hs d (i + 1) (by omega)
      simpa using ih
def okR (l0 : List S94) (i : Nat) : Bool := nmB (l0.getD i z94).f0 && (inB (l0.getD i z94).f1 1 200000 && (inB (l0.getD i z94).f2 1 100 && (refV.up l0 i && !(l0.take i).any (fun y => y.f0.toList == (l0.getD i z94).f0.toList))))
theorem rvalid_l0 (l0 : List S94) (l1 : List S68) (h0 : ∀ x ∈ l0, x.f0.size ≤ 40) (hs : ∀ x ∈ l1, x.f0.size ≤ 40) : ∀ (d i : Nat), i + d = l0.length → Ev (fun k => refV.l0 k l0 l1 i) ((List.range' i d).all (okR l0) && (List.range' 0 l1.length).all (okW (l1.map workOf)))
 | 0, i, h => by
  refine Ev.step (f := fun k => refV.l1 k l1 0) (fun k => ?_) (by simpa using rvalid_l1 l1 hs l1.length 0 (by omega))
  simp only [refV.l0]; rw [if_neg (by omega)]
 | d + 1, i, h => by
  have hi : i < l0.length := by omega
  rw [List.range'_succ, List.all_cons]
  unfold okR
  refine Ev.step (f := fun k => (culetref13_IsName.f k (l0.getD i z94).f0).bind fun nm => if nm = true then (if inB (l0.getD i z94).f1 1 200000 = true then (if inB (l0.getD i z94).f2 1 100 = true then (if refV.up l0 i = true then (if (l0.take i).any (fun y => y.f0.toList == (l0.getD i z94).f0.toList) = true then some false else refV.l0 k l0 l1 (i + 1)) else some false) else some false) else some false) else some false) (fun k => by
   simp only [refV.l0]; rw [if_pos hi]) ?_
  refine Ev.bind (rnm_ev _ (h0 _ (getD_mem hi _))) ?_
  cases nmB (l0.getD i z94).f0 with
  | false => simpa using Ev.now false
  | true =>
   cases inB (l0.getD i z94).f1 1 200000 with
   | false => simpa using Ev.now false
   | true =>
    cases inB (l0.getD i z94).f2 1 100 with
    | false => simpa using Ev.now false
    | true =>
     cases refV.up l0 i with
     | false => simpa using Ev.now false
     | true =>
      cases (l0.take i).any (fun y => y.f0.toList == (l0.getD i z94).f0.toList) with
      | true => simpa using Ev.now false
      | false =>
       have ih := rvalid_l0 l0 l1 h0 hs d (i + 1) (by omega)
       unfold okR at ih
       simpa using ih
theorem ups (l0 : List S94) (h : ∀ i, i < l0.length → refV.up l0 i = true) : ∀ i, i < l0.length → ∀ j, j < i → (l0.getD j z94).f1 < (l0.getD i z94).f1
 | 0, _, j, hj => absurd hj (by omega)
 | i + 1, hi, j, hj => by
  have h1 := h (i + 1) hi
  unfold refV.up at h1
  rw [show (i + 1 == 0) = false from rfl, Bool.false_or, decide_eq_true_eq, Nat.add_sub_cancel] at h1
  by_cases e : j = i
  ·
   subst e; exact h1
  ·
   have := ups l0 h i (by omega) j (by omega)
   omega
theorem ok_same (l0 : List S94) : (List.range' 0 l0.length).all (okR l0) = (List.range' 0 l0.length).all (okL (l0.map lapOf)) := by
 rw [Bool.eq_iff_iff, List.all_eq_true, List.all_eq_true]
 have hm : ∀ i, i ∈ List.range' 0 l0.length ↔ i < l0.length := fun i => by rw [List.mem_range'_1]; omega
 have ha : ∀ i, i < l0.length → (((l0.map lapOf).take i).any (againB ((l0.map lapOf).getD i z92)) = false ↔ (l0.take i).any (fun y => y.f0.toList == (l0.getD i z94).f0.toList) = false ∧ ∀ j, j < i → (l0.getD j z94).f1 < (l0.getD i z94).f1) := fun i hi => by
  rw [← List.map_take, List.any_map, List.any_eq_false, List.any_eq_false, mapd94 l0 hi]
  constructor
  ·
   intro h
   refine ⟨fun x hx => ?_, fun j hj => ?_⟩
   ·
    have := h x hx
    simp only [Function.comp, againB, lapOf, Bool.or_eq_true, not_or] at this
    exact this.1
   ·
    have hj' : j < l0.length := by omega
    have := h (l0[j]) (by rw [List.mem_take_iff_getElem]; exact ⟨j, by omega, rfl⟩)
    simp only [Function.comp, againB, lapOf, Bool.or_eq_true, not_or] at this
    rw [List.getD_eq_getElem?_getD (i := j), List.getElem?_eq_getElem hj']
    have h9 : ¬ ((l0.getD i z94).f1 ≤ l0[j].f1) := by simpa using this.2
    simp only [Option.getD_some]
    omega
  ·
   rintro ⟨h1, h2⟩ x hx
   obtain ⟨j, hj, rfl⟩ := List.mem_take_iff_getElem.1 hx
   have a := h1 _ hx
   have b := h2 j (by omega)
   rw [List.getD_eq_getElem?_getD (i := j), List.getElem?_eq_getElem (by omega)] at b
   simp only [Option.getD_some] at b
   simp only [Function.comp, againB, lapOf, Bool.or_eq_true, not_or]
   exact ⟨a, by simpa using b⟩
 constructor
 ·
  intro h i hi
  have hi' := (hm i).1 hi
  have h1 := h i hi
  have hu := ups l0 (fun j hj => by
   have := h j ((hm j).2 hj)
   unfold okR at this
   simp only [Bool.and_eq_true] at this
   exact this.2.2.2.1) i hi'
  unfold okR at h1
  simp only [Bool.and_eq_true, Bool.not_eq_true'] at h1
  unfold okL
  rw [(ha i hi').2 ⟨h1.2.2.2.2, hu⟩, mapd94 l0 hi']
  simp only [lapOf, Bool.and_eq_true]
  exact ⟨rfl, h1.1, h1.2.1, h1.2.2.1⟩
 ·
  intro h i hi
  have hi' := (hm i).1 hi
  have h1 := h i hi
  unfold okL at h1
  simp only [Bool.and_eq_true, Bool.not_eq_true'] at h1
  obtain ⟨h2, h3⟩ := (ha i hi').1 h1.1
  have h4 := h1.2
  rw [mapd94 l0 hi'] at h4
  unfold okR
  rw [h2]
  simp only [lapOf] at h4
  simp only [Bool.and_eq_true]
  refine ⟨h4.1, h4.2.1, h4.2.2, ?_, rfl⟩
  unfold refV.up
  by_cases e : i = 0
  ·
   subst e; rfl
  ·
   rw [decide_eq_true (h3 (i - 1) (by omega)), Bool.or_true]
theorem rvalid_ev (l0 : List S94) (l1 : List S68) (a2 a3 : Int) (h0 : ∀ x ∈ l0, x.f0.size ≤ 40) (hs : ∀ x ∈ l1, x.f0.size ≤ 40) : Ev (fun k => culetref49_Valid.f k l0 l1 a2 a3) (validB (l0.map lapOf) (l1.map workOf) a2 a3) := by
 refine Ev.congr (fun k => by unfold culetref49_Valid.f; rfl) ?_
 unfold validB
 rw [List.length_map, List.length_map, ← ok_same]
 cases inB l0.length 1 6 with
 | false => simpa using Ev.now false
 | true =>
  cases inB l1.length 1 20 with
  | false => simpa using Ev.now false
  | true =>
   cases inB a2 0 1000 with
   | false => simpa using Ev.now false
   | true =>
    cases inB a3 0 1000 with
    | false => simpa using Ev.now false
    | true => simpa using rvalid_l0 l0 l1 h0 hs l0.length 0 (by omega)
end Go.Proofs.Ytalhpnfapagamaa.Plain
end
section
namespace Go.Proofs.Ytalhpnfapagamaa.Plain
open Go Go.RowKit Go.Proofs.Ytalhpnfapagamaa.S Go.Proofs.YtalhpnfapagamaaW.PrintWords Go.Proofs.YtalhpnfapagamaaW.PrintLast

def cntC (l : List S62) : Nat := (l.filter (fun s => decide (s.f0 = 1))).length
theorem cntC_cons (s : S62) (l : List S62) : cntC (s :: l) = (if s.f0 = 1 then 1 else 0) + cntC l := by
 unfold cntC
 by_cases h : s.f0 = 1
 ·
  rw [List.filter_cons_of_pos (by simp [h]), if_pos h, List.length_cons]; omega
 ·
  rw [List.filter_cons_of_neg (by simp [h]), if_neg h]; omega
theorem changes_l (l : List S62) (hl : l.length ≤ 1000000) : ∀ (d i n : Nat), i + d = l.length → n ≤ i → Ev (fun k => steps_Changes.l0 k (n : Int) l (l.length : Int) i) ((n + cntC (l.drop i) : Nat) : Int)
 | 0, i, n, h, hn => by
  obtain rfl : i = l.length := by omega
  refine Ev.step (f := fun _ => some ((n : Nat) : Int)) (fun k => ?_) (by simpa [cntC] using Ev.now _)
  simp only [steps_Changes.l0]; rw [if_neg (by omega)]
 | d + 1, i, n, h, hn => by
  have hi : i < l.length := by omega
  rw [List.drop_eq_getElem_cons hi, cntC_cons]
  by_cases h1 : l[i].f0 = 1
  ·
   rw [if_pos h1, show n + (1 + cntC (l.drop (i + 1))) = n + 1 + cntC (l.drop (i + 1)) by omega]
   refine Ev.step (f := fun k => steps_Changes.l0 k ((n + 1 : Nat) : Int) l (l.length : Int) ((i + 1 : Nat) : Int)) (fun k => ?_) (changes_l l hl d (i + 1) (n + 1) (by omega) (by omega))
   simp only [steps_Changes.l0]; rw [if_pos (by omega), if_pos (by omega), if_pos (by omega), rd62 hi, if_pos h1, wrap_nat (by omega), wrap_nat (by omega)]
  ·
   rw [if_neg h1, Nat.zero_add]
   refine Ev.step (f := fun k => steps_Changes.l0 k (n : Int) l (l.length : Int) ((i + 1 : Nat) : Int)) (fun k => ?_) (changes_l l hl d (i + 1) n (by omega) (by omega))
   simp only [steps_Changes.l0]; rw [if_pos (by omega), if_pos (by omega), if_pos (by omega), rd62 hi, if_neg h1, wrap_nat (by omega)]
theorem changes_ev (l : List S62) (hl : l.length ≤ 1000000) : Ev (fun k => steps_Changes.f k l) ((cntC l : Nat) : Int) := by
 have := changes_l l hl l.length 0 0 (by omega) (by omega)
 rw [List.drop_zero, Nat.zero_add] at this
 exact this
theorem cnt_cuts (l1 : List S93) (s l : Int) : ∀ m k, cntC (cutsL l1 s l m k) = 0
 | 0, _ => rfl
 | m + 1, k => by
  simp only [cutsL]
  split
  ·
   rw [cntC_cons, cnt_cuts l1 s l m (k + 1)]; rfl
  ·
   exact cnt_cuts l1 s l m (k + 1)
theorem of_len (n0 : Nat) (l1 : List S93) (h0 : n0 ≤ 6) (h1 : l1.length ≤ 20) : (ofL n0 l1).length ≤ 300 := by
 have a := sideL_len l1 1 h1 n0 0 (-1)
 have b := sideL_len l1 2 h1 n0 0 (endP n0 (-1))
 have c := sideL_len l1 2 h1 n0 0 (-1)
 unfold ofL ofA
 cases sidB l1 1 <;> cases sidB l1 2 <;> simp <;> omega
def toR (s : S62) : S101 := ⟨s.f0, s.f1, s.f2⟩
theorem theirs_l (l : List S62) (hl : l.length ≤ 1000000) : ∀ (d i : Nat), i + d = l.length → Ev (fun k => culetlaw49_theirs.l0 k ((l.take i).map toR) l (l.length : Int) i) (l.map toR)
 | 0, i, h => by
  obtain rfl : i = l.length := by omega
  refine Ev.step (f := fun _ => some (l.map toR)) (fun k => ?_) (Ev.now _)
  simp only [culetlaw49_theirs.l0]; rw [if_neg (by omega), List.take_length]
 | d + 1, i, h => by
  have hi : i < l.length := by omega
  refine Ev.step (f := fun k => culetlaw49_theirs.l0 k ((l.take (i + 1)).map toR) l (l.length : Int) ((i + 1 : Nat) : Int)) (fun k => ?_) (theirs_l l hl d (i + 1) (by omega))
  simp only [culetlaw49_theirs.l0]
  rw [if_pos (by omega), if_pos (by omega), if_pos (by omega), if_pos (by simp; omega), rd62 hi, wrap_nat (by omega)]
  congr 1
  rw [List.take_succ_eq_append_getElem hi, List.map_append]; rfl
theorem theirs_ev (l : List S62) (hl : l.length ≤ 1000000) : Ev (fun k => culetlaw49_theirs.f k l) (l.map toR) :=
 Ev.congr (fun k => by unfold culetlaw49_theirs.f; rfl) (theirs_l l hl l.length 0 (by omega))
theorem rd101 {l : List S101} {i : Nat} (hi : i < l.length) : rd_T101 l (i : Int) = l[i] := by unfold rd_T101; rw [Int.toNat_natCast, List.getD_eq_getElem?_getD, List.getElem?_eq_getElem hi]; rfl
theorem same_l (l : List S101) (hl : l.length ≤ 1000000) : ∀ (d i : Nat), i + d = l.length → Ev (fun k => culetref49_Same.l0 k l l i) true
 | 0, i, h => by
  refine Ev.step (f := fun _ => some true) (fun k => ?_) (Ev.now _)
  simp only [culetref49_Same.l0]; rw [if_neg (by omega)]
 | d + 1, i, h => by
  refine Ev.step (f := fun k => culetref49_Same.l0 k l l ((i + 1 : Nat) : Int)) (fun k => ?_) (same_l l hl d (i + 1) (by omega))
  simp only [culetref49_Same.l0]
  rw [if_pos (by omega), if_pos (by omega), if_pos (by omega), if_neg (by simp), wrap_nat (by omega)]
theorem same_ev (l : List S101) (hl : l.length ≤ 1000000) : Ev (fun k => culetref49_Same.f k l l) true :=
 Ev.congr (fun k => by unfold culetref49_Same.f; rw [if_pos rfl]; rfl) (same_l l hl l.length 0 (by omega))

def wk (l1 : List S93) (s : Int) : List Nat := (List.range' 0 l1.length).filter (fun j => decide (sd l1 j = s))
def wkI (l1 : List S93) (s : Int) : List Int := (wk l1 s).map (fun (j : Nat) => (j : Int))
theorem wk_len (l1 : List S93) (s : Int) : (wk l1 s).length ≤ l1.length := Nat.le_trans (List.length_filter_le _ _) (by simp)
theorem wk_some (l1 : List S93) (s : Int) : sidB l1 s = decide (0 < (wk l1 s).length) := by
 rw [Bool.eq_iff_iff, decide_eq_true_eq]
 unfold sidB
 rw [List.any_eq_true]
 constructor
 ·
  rintro ⟨x, hx, h⟩
  obtain ⟨j, hj, rfl⟩ := List.getElem_of_mem hx
  refine List.length_pos_of_mem (a := j) (List.mem_filter.2 ⟨by rw [List.mem_range'_1]; omega, ?_⟩)
  rw [decide_eq_true_eq]; unfold sd; rw [List.getD_eq_getElem?_getD, List.getElem?_eq_getElem hj]; exact beq_iff_eq.1 h
 ·
  intro h
  obtain ⟨j, hj⟩ := List.exists_mem_of_length_pos h
  obtain ⟨h1, h2⟩ := List.mem_filter.1 hj
  rw [List.mem_range'_1] at h1
  exact ⟨_, getD_mem (by omega) z93, beq_iff_eq.2 (of_decide_eq_true h2)⟩
theorem wk_both {l1 : List S93} (hs : sides l1) : (wk l1 1).length + (wk l1 2).length = l1.length := by
 have h : ∀ (m k : Nat), k + m ≤ l1.length → ((List.range' k m).filter (fun j => decide (sd l1 j = 1))).length + ((List.range' k m).filter (fun j => decide (sd l1 j = 2))).length = m := fun m => by
  induction m with
  | zero => intro k _; rfl
  | succ m ih =>
   intro k hk
   have := ih (k + 1) (by omega)
   rw [List.range'_succ]
   rcases hs k (by omega) with h1 | h1
   ·
    rw [List.filter_cons_of_pos (by simp [h1]), List.filter_cons_of_neg (by simp [h1]), List.length_cons]; omega
   ·
    rw [List.filter_cons_of_neg (by simp [h1]), List.filter_cons_of_pos (by simp [h1]), List.length_cons]; omega
 exact h l1.length 0 (by omega)
theorem cuts_eq (l1 : List S93) (s l : Int) : ∀ m k, cutsL l1 s l m k = ((List.range' k m).filter (fun j => decide (sd l1 j = s))).map (fun (j : Nat) => (⟨3, l, (j : Int)⟩ : S62))
 | 0, k => rfl
 | m + 1, k => by
  simp only [cutsL]
  rw [List.range'_succ, cuts_eq l1 s l m (k + 1)]
  by_cases h : sd l1 k = s
  ·
   rw [if_pos (show ((l1.getD k z93).f1 == s) = true from beq_iff_eq.2 h), List.filter_cons_of_pos (by simp [h])]; rfl
  ·
   rw [if_neg (show ¬ ((l1.getD k z93).f1 == s) = true from fun h9 => h (beq_iff_eq.1 h9)), List.filter_cons_of_neg (by simp [h])]
variable (m0 : List S94) (m1 : List S68) (a2 a3 : Int)
theorem sd68 {i : Nat} (hi : i < m1.length) : (rd_T68 m1 (i : Int)).f1 = sd (m1.map workOf) i := by
 unfold sd
 rw [mapd68 m1 hi, rd68 hi, List.getD_eq_getElem?_getD, List.getElem?_eq_getElem hi]; rfl
theorem works_l (s : Int) (h1 : m1.length ≤ 22) : ∀ (d i : Nat) (p : List Int), i + d = m1.length → p.length ≤ i → Ev (fun k => culetref49_works.l0 k s p i m0 m1 a2 a3) (p ++ ((List.range' i d).filter (fun j => decide (sd (m1.map workOf) j = s))).map (fun (j : Nat) => (j : Int)))
 | 0, i, p, h, hp => by
  refine Ev.step (f := fun _ => some p) (fun k => ?_) (by simpa using Ev.now _)
  simp only [culetref49_works.l0]; rw [if_neg (by omega)]
 | d + 1, i, p, h, hp => by
  have hi : i < m1.length := by omega
  rw [List.range'_succ]
  by_cases hs : sd (m1.map workOf) i = s
  ·
   rw [List.filter_cons_of_pos (by simp [hs]), List.map_cons, List.append_cons]
   refine Ev.step (f := fun k => culetref49_works.l0 k s (p ++ [(i : Int)]) ((i + 1 : Nat) : Int) m0 m1 a2 a3) (fun k => ?_) (works_l s h1 d (i + 1) (p ++ [(i : Int)]) (by omega) (by simp; omega))
   simp only [culetref49_works.l0]
   rw [if_pos (by omega), if_pos (by omega), sd68 m1 hi, if_pos hs, if_pos (by omega), wrap_nat (by omega)]
  ·
   rw [List.filter_cons_of_neg (by simp [hs])]
   refine Ev.step (f := fun k => culetref49_works.l0 k s p ((i + 1 : Nat) : Int) m0 m1 a2 a3) (fun k => ?_) (works_l s h1 d (i + 1) p (by omega) (by omega))
   simp only [culetref49_works.l0]
   rw [if_pos (by omega), if_pos (by omega), sd68 m1 hi, if_neg hs, wrap_nat (by omega)]
theorem works_ev (s : Int) (h1 : m1.length ≤ 22) : Ev (fun k => culetref49_works.f k m0 m1 a2 a3 s) (wkI (m1.map workOf) s) := by
 have := works_l m0 m1 a2 a3 s h1 m1.length 0 [] (by omega) (by simp)
 unfold wkI wk
 rw [List.length_map]
 exact Ev.congr (fun k => by unfold culetref49_works.f; rfl) this
set_option linter.unusedSectionVars false
section
variable {R : List S101 × Int} (h1 : m1.length ≤ 22) (h0 : m0.length ≤ 8)
include h1 h0
theorem rof_l2 (s : Int) (W : List Int) (i : Nat) (hW : W.length ≤ 22) (now : Int) : ∀ (d j : Nat) (out : List S101), j + d = W.length → out.length + d ≤ 2000000 → Ev (fun k => culetref49_Of.l1 k (out ++ (W.drop j).map (fun w => (⟨3, (i : Int), w⟩ : S101))) now s W (wrap64 ((i : Int) + 1)) m0 m1 a2 a3) R →
  Ev (fun k => culetref49_Of.l2 k out now s W (i : Int) j m0 m1 a2 a3) R
 | 0, j, out, h, ho, hr => by
  obtain rfl : j = W.length := by omega
  rw [List.drop_length, List.map_nil, List.append_nil] at hr
  refine Ev.step (fun k => ?_) hr
  simp only [culetref49_Of.l2]; rw [if_neg (by omega)]
 | d + 1, j, out, h, ho, hr => by
  have hj : j < W.length := by omega
  rw [List.drop_eq_getElem_cons hj, List.map_cons, List.append_cons] at hr
  refine Ev.step (fun k => ?_) (rof_l2 s W i hW now d (j + 1) _ (by omega) (by simp; omega) hr)
  simp only [culetref49_Of.l2]
  rw [if_pos (by omega), if_pos (by omega), if_pos (by omega), wrap_nat (by omega), rd_nat_, List.getD_eq_getElem?_getD, List.getElem?_eq_getElem hj]; rfl
theorem rof_l1 (s : Int) (hs : 0 < (wk (m1.map workOf) s).length) : ∀ (d i : Nat) (now : Int) (out : List S101), i + d = m0.length → out.length + d * 30 ≤ 1000000 →
  Ev (fun k => culetref49_Of.l0 k (out ++ (sideL (m1.map workOf) s d i now).map toR) (if d = 0 then now else (m0.length : Int) - 1) (wrap64 (s + 1)) m0 m1 a2 a3) R →
  Ev (fun k => culetref49_Of.l1 k out now s (wkI (m1.map workOf) s) i m0 m1 a2 a3) R
 | 0, i, now, out, h, ho, hr => by
  obtain rfl : i = m0.length := by omega
  rw [if_pos rfl, show sideL (m1.map workOf) s 0 m0.length now = [] from rfl, List.map_nil, List.append_nil] at hr
  refine Ev.step (f := fun k => culetref49_Of.j4 k out now s (wkI (m1.map workOf) s) (m0.length : Int) false m0 m1 a2 a3) (fun k => ?_) (Ev.step (fun k => ?_) hr)
  ·
   simp only [culetref49_Of.l1]; rw [if_neg (by omega)]
  ·
   simp only [culetref49_Of.j4]; rw [if_neg (by simp)]
 | d + 1, i, now, out, h, ho, hr => by
  have e : (wkI (m1.map workOf) s).length = (wk (m1.map workOf) s).length := by simp [wkI]
  have hl := wk_len (m1.map workOf) s
  rw [List.length_map] at hl
  have hc : (cutsL (m1.map workOf) s (i : Int) m1.length 0).map toR = (wkI (m1.map workOf) s).map (fun w => (⟨3, (i : Int), w⟩ : S101)) := by
   rw [cuts_eq]; unfold wkI wk; rw [List.map_map, List.map_map, List.length_map]; rfl
  rw [if_neg (by omega)] at hr
  simp only [sideL, List.length_map] at hr
  rw [List.map_append, List.map_append, hc] at hr
  refine Ev.step (f := fun k => culetref49_Of.j4 k out now s (wkI (m1.map workOf) s) (i : Int) true m0 m1 a2 a3) (fun k => ?_) ?_
  ·
   simp only [culetref49_Of.l1]; rw [if_pos (by omega), decide_eq_true (by omega)]
  have next : ∀ out' : List S101, out'.length ≤ out.length + 1 → Ev (fun k => culetref49_Of.l0 k (out' ++ ((wkI (m1.map workOf) s).map (fun w => (⟨3, (i : Int), w⟩ : S101)) ++ (sideL (m1.map workOf) s d (i + 1) (i : Int)).map toR)) ((m0.length : Int) - 1) (wrap64 (s + 1)) m0 m1 a2 a3) R →
    Ev (fun k => culetref49_Of.j5 k out' (i : Int) s (wkI (m1.map workOf) s) (i : Int) m0 m1 a2 a3) R := fun out' hl' hr' => by
   refine Ev.step (f := fun k => culetref49_Of.l2 k out' (i : Int) s (wkI (m1.map workOf) s) (i : Int) ((0 : Nat) : Int) m0 m1 a2 a3) (fun k => by simp only [culetref49_Of.j5]; rfl) ?_
   refine rof_l2 m0 m1 a2 a3 h1 h0 s _ i (by omega) (i : Int) (wkI (m1.map workOf) s).length 0 out' (by omega) (by omega) ?_
   rw [wrap_nat (by omega), List.drop_zero]
   refine rof_l1 s hs d (i + 1) (i : Int) _ (by omega) (by simp; omega) ?_
   rw [← List.append_assoc] at hr'
   by_cases hd : d = 0
   ·
    rw [if_pos hd, show (i : Int) = (m0.length : Int) - 1 by omega]
    rw [show (i : Int) = (m0.length : Int) - 1 by omega] at hr'
    exact hr'
   ·
    rw [if_neg hd]; exact hr'
  by_cases hp : (i : Int) = now
  ·
   rw [if_neg (by simpa using hp), List.map_nil, List.nil_append] at hr
   subst hp
   refine Ev.step (fun k => ?_) (next out (by omega) hr)
   simp only [culetref49_Of.j4]; rw [if_pos trivial, if_pos trivial]
  ·
   rw [if_pos (by simpa using hp)] at hr
   refine Ev.step (fun k => ?_) (next (out ++ [(⟨1, (i : Int), 0⟩ : S101)]) (by simp) (by rw [List.append_assoc]; exact hr))
   simp only [culetref49_Of.j4]; rw [if_pos trivial, if_neg hp, if_pos (by omega)]
theorem rof_none (s now : Int) (out : List S101) (hs : (wk (m1.map workOf) s).length = 0) (hr : Ev (fun k => culetref49_Of.l0 k out now (wrap64 (s + 1)) m0 m1 a2 a3) R) : Ev (fun k => culetref49_Of.l1 k out now s (wkI (m1.map workOf) s) 0 m0 m1 a2 a3) R := by
 have e : (wkI (m1.map workOf) s).length = 0 := by simpa [wkI] using hs
 refine Ev.step (f := fun k => culetref49_Of.j4 k out now s (wkI (m1.map workOf) s) 0 false m0 m1 a2 a3) (fun k => ?_) (Ev.step (fun k => ?_) hr)
 ·
  simp only [culetref49_Of.l1]
  by_cases h : (0 : Int) < (m0.length : Int)
  ·
   rw [if_pos h, decide_eq_false (by omega)]
  ·
   rw [if_neg h]
 ·
  simp only [culetref49_Of.j4]; rw [if_neg (by simp)]
end
theorem rof_ev (h1 : m1.length ≤ 22) (h0 : m0.length ≤ 8) (hn : 1 ≤ m0.length) (hsd : sides (m1.map workOf)) (hh1 : m1.length ≤ 20) (hh0 : m0.length ≤ 6) : Ev (fun k => culetref49_Of.l0 k ([] : List S101) (-1) 1 m0 m1 a2 a3) ((ofL m0.length (m1.map workOf)).map toR, 0) := by
 have e : ∀ s, (wkI (m1.map workOf) s).length = (wk (m1.map workOf) s).length := fun s => by simp [wkI]
 have hb := wk_both hsd
 rw [List.length_map] at hb
 have w1 : wrap64 (1 + 1) = 2 := by unfold wrap64; omega
 have w2 : wrap64 (2 + 1) = 3 := by unfold wrap64; omega
 have hlen : ∀ s i p, (sideL (m1.map workOf) s m0.length i p).length ≤ m0.length * 21 := fun s i p => sideL_len (m1.map workOf) s (by rw [List.length_map]; omega) m0.length i p
 -- the third round
 have last : ∀ out now, Ev (fun k => culetref49_Of.l0 k out now (wrap64 (2 + 1)) m0 m1 a2 a3) (out, (0 : Int)) := fun out now => by
  rw [w2]
  refine Ev.step (f := fun _ => some (out, (0 : Int))) (fun k => ?_) (Ev.now _)
  simp only [culetref49_Of.l0]; rw [if_neg (by decide)]
 -- the crown
 have two : ∀ out now, out.length ≤ 200 → Ev (fun k => culetref49_Of.l0 k out now 2 m0 m1 a2 a3)
   (if sidB (m1.map workOf) 2 = true then (out ++ (if sidB (m1.map workOf) 1 = true then [(⟨2, 0, 0⟩ : S101)] else [])) ++ (sideL (m1.map workOf) 2 m0.length 0 now).map toR else out, (0 : Int)) := fun out now ho => by
  refine Ev.step (fun k => by simp only [culetref49_Of.l0]; rw [if_pos (by decide)]) (Ev.bind (works_ev m0 m1 a2 a3 2 h1) ?_)
  rw [e 2]
  rw [wk_some _ 1, wk_some _ 2]
  by_cases h2 : 0 < (wk (m1.map workOf) 2).length
  ·
   rw [decide_eq_true h2, if_pos rfl]
   by_cases h3 : 0 < (wk (m1.map workOf) 1).length
   ·
    rw [decide_eq_true h3, if_pos rfl]
    refine Ev.congr (f := fun k => culetref49_Of.j1 k out now 2 (wkI (m1.map workOf) 2) true m0 m1 a2 a3) (fun k => by rw [if_pos trivial, if_pos (by omega), decide_eq_true (by omega)]) ?_
    refine Ev.step (f := fun k => culetref49_Of.j2 k (out ++ [(⟨2, 0, 0⟩ : S101)]) now 2 (wkI (m1.map workOf) 2) m0 m1 a2 a3) (fun k => by simp only [culetref49_Of.j1]; rw [if_pos trivial, if_pos (by omega)]) ?_
    refine Ev.step (f := fun k => culetref49_Of.l1 k (out ++ [(⟨2, 0, 0⟩ : S101)]) now 2 (wkI (m1.map workOf) 2) ((0 : Nat) : Int) m0 m1 a2 a3) (fun k => by simp only [culetref49_Of.j2]; rfl) ?_
    exact rof_l1 m0 m1 a2 a3 h1 h0 2 h2 m0.length 0 now _ (by omega) (by simp; omega) (last _ _)
   ·
    rw [decide_eq_false h3, if_neg (by simp), List.append_nil]
    refine Ev.congr (f := fun k => culetref49_Of.j1 k out now 2 (wkI (m1.map workOf) 2) false m0 m1 a2 a3) (fun k => by rw [if_pos trivial, if_pos (by omega), decide_eq_false (by omega)]) ?_
    refine Ev.step (f := fun k => culetref49_Of.j2 k out now 2 (wkI (m1.map workOf) 2) m0 m1 a2 a3) (fun k => by simp only [culetref49_Of.j1]; rw [if_neg (by simp)]) ?_
    refine Ev.step (f := fun k => culetref49_Of.l1 k out now 2 (wkI (m1.map workOf) 2) ((0 : Nat) : Int) m0 m1 a2 a3) (fun k => by simp only [culetref49_Of.j2]; rfl) ?_
    exact rof_l1 m0 m1 a2 a3 h1 h0 2 h2 m0.length 0 now _ (by omega) (by omega) (last _ _)
  ·
   rw [decide_eq_false h2, if_neg (show ¬ (false = true) by simp)]
   refine Ev.congr (f := fun k => culetref49_Of.j1 k out now 2 (wkI (m1.map workOf) 2) false m0 m1 a2 a3) (fun k => by rw [if_pos trivial, if_neg (by omega)]) ?_
   refine Ev.step (f := fun k => culetref49_Of.j2 k out now 2 (wkI (m1.map workOf) 2) m0 m1 a2 a3) (fun k => by simp only [culetref49_Of.j1]; rw [if_neg (by simp)]) ?_
   refine Ev.step (f := fun k => culetref49_Of.l1 k out now 2 (wkI (m1.map workOf) 2) 0 m0 m1 a2 a3) (fun k => by simp only [culetref49_Of.j2]) ?_
   exact rof_none m0 m1 a2 a3 h1 h0 2 now out (by omega) (last _ _)
 -- the pavilion
 refine Ev.step (fun k => by simp only [culetref49_Of.l0]; rw [if_pos (by decide)]) (Ev.bind (works_ev m0 m1 a2 a3 1 h1) ?_)
 refine Ev.congr (f := fun k => culetref49_Of.j1 k ([] : List S101) (-1) 1 (wkI (m1.map workOf) 1) false m0 m1 a2 a3) (fun k => by rw [if_neg (by decide)]) ?_
 refine Ev.step (f := fun k => culetref49_Of.j2 k ([] : List S101) (-1) 1 (wkI (m1.map workOf) 1) m0 m1 a2 a3) (fun k => by simp only [culetref49_Of.j1]; rw [if_neg (by simp)]) ?_
 unfold ofL ofA
 by_cases h3 : 0 < (wk (m1.map workOf) 1).length
 ·
  refine Ev.step (f := fun k => culetref49_Of.l1 k ([] : List S101) (-1) 1 (wkI (m1.map workOf) 1) ((0 : Nat) : Int) m0 m1 a2 a3) (fun k => by simp only [culetref49_Of.j2]; rfl) ?_
  refine rof_l1 m0 m1 a2 a3 h1 h0 1 h3 m0.length 0 (-1) _ (by omega) (by simp; omega) ?_
  rw [if_neg (by omega), List.nil_append, w1]
  have := two ((sideL (m1.map workOf) 1 m0.length 0 (-1)).map toR) ((m0.length : Int) - 1) (by rw [List.length_map]; have := hlen 1 0 (-1); omega)
  have hs1 : sidB (m1.map workOf) 1 = true := by rw [wk_some, decide_eq_true h3]
  rw [hs1] at this ⊢
  rw [if_pos rfl, if_pos rfl] at *
  unfold endP
  rw [if_neg (show ¬ m0.length = 0 by omega)]
  cases h2 : sidB (m1.map workOf) 2 with
  | true => rw [h2, if_pos rfl] at this; rw [if_pos rfl, if_pos rfl, List.map_append, List.map_append]; exact this
  | false => rw [h2, if_neg (show ¬ (false = true) by simp)] at this; rw [if_neg (show ¬ (false = true) by simp), if_neg (show ¬ (false = true) by simp), List.append_nil, List.append_nil]; exact this
 ·
  refine Ev.step (f := fun k => culetref49_Of.l1 k ([] : List S101) (-1) 1 (wkI (m1.map workOf) 1) 0 m0 m1 a2 a3) (fun k => by simp only [culetref49_Of.j2]) ?_
  refine rof_none m0 m1 a2 a3 h1 h0 1 (-1) [] (by omega) ?_
  rw [w1]
  have := two [] (-1) (by simp)
  have hs1 : sidB (m1.map workOf) 1 = false := by rw [wk_some, decide_eq_false h3]
  rw [hs1] at this ⊢
  rw [if_neg (show ¬ (false = true) by simp)] at *
  rw [if_neg (show ¬ (false = true) by simp), List.nil_append]
  rw [List.append_nil, List.nil_append] at this
  cases h2 : sidB (m1.map workOf) 2 with
  | true => rw [h2, if_pos rfl] at this; rw [if_pos rfl]; exact this
  | false => rw [h2, if_neg (show ¬ (false = true) by simp)] at this; rw [if_neg (show ¬ (false = true) by simp)]; exact this
theorem rOf_ev (h0 : m0.length ≤ 8) (h1 : m1.length ≤ 22) (hs0 : ∀ x ∈ m0, x.f0.size ≤ 40) (hs1 : ∀ x ∈ m1, x.f0.size ≤ 40) : Ev (fun k => culetref49_Of.f k m0 m1 a2 a3) (if validB (m0.map lapOf) (m1.map workOf) a2 a3 = true then ((ofL m0.length (m1.map workOf)).map toR, 0) else ([], 1)) := by
 refine Ev.congr (fun k => by unfold culetref49_Of.f; rfl) (Ev.bind (rvalid_ev m0 m1 a2 a3 hs0 hs1) ?_)
 cases hv : validB (m0.map lapOf) (m1.map workOf) a2 a3 with
 | false => exact Ev.now _
 | true =>
  obtain ⟨v0, v1, _, _, v2, _⟩ := valid_use hv
  rw [List.length_map] at v0 v1
  exact Ev.congr (fun k => by rw [if_pos rfl]) (rof_ev m0 m1 a2 a3 h1 h0 v0.1 v2 v1.2 v0.2)
end Go.Proofs.Ytalhpnfapagamaa.Plain
end
section
namespace Go.Proofs.Ytalhpnfapagamaa.Plain
open Go Go.RowKit Go.Proofs.Ytalhpnfapagamaa.S Go.Proofs.YtalhpnfapagamaaW.PrintWords Go.Proofs.YtalhpnfapagamaaW.PrintLast

def ofR (s : S101) : S62 := ⟨s.f0, s.f1, s.f2⟩
theorem own_l (l : List S101) (hl : l.length ≤ 1000000) : ∀ (d i : Nat), i + d = l.length → Ev (fun k => culetlaw49_own.l0 k ((l.take i).map ofR) l (l.length : Int) i) (l.map ofR)
 | 0, i, h => by
  obtain rfl : i = l.length := by omega
  refine Ev.step (f := fun _ => some (l.map ofR)) (fun k => ?_) (Ev.now _)
  simp only [culetlaw49_own.l0]; rw [if_neg (by omega), List.take_length]
 | d + 1, i, h => by
  have hi : i < l.length := by omega
  refine Ev.step (f := fun k => culetlaw49_own.l0 k ((l.take (i + 1)).map ofR) l (l.length : Int) ((i + 1 : Nat) : Int)) (fun k => ?_) (own_l l hl d (i + 1) (by omega))
  simp only [culetlaw49_own.l0]
  rw [if_pos (by omega), if_pos (by omega), if_pos (by omega), if_pos (by simp; omega), rd101 hi, wrap_nat (by omega)]
  congr 1
  rw [List.take_succ_eq_append_getElem hi, List.map_append]; rfl
theorem ownL_ev (l : List S101) (hl : l.length ≤ 1000000) : Ev (fun k => culetlaw49_own.f k l) (l.map ofR) :=
 Ev.congr (fun k => by unfold culetlaw49_own.f; rfl) (own_l l hl l.length 0 (by omega))

end Go.Proofs.Ytalhpnfapagamaa.Plain
end
