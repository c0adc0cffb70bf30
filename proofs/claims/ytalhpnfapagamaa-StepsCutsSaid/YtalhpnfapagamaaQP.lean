-- Written by this session's own programs; what the law does not lean on is left out. Lean checks it.
import Derived.Test.YtalhpnfapagamaaQN
import Derived.Test.YtalhpnfapagamaaQSx12
import Derived.Test.YtalhpnfapagamaaQSx15
import Derived.Test.YtalhpnfapagamaaQSx17
import Derived.Test.YtalhpnfapagamaaQSx25
import Derived.Test.YtalhpnfapagamaaQSx27
import Derived.Test.YtalhpnfapagamaaQSx30
section
namespace Go.Proofs.Ytalhpnfapagamaa.Plain
open Go Go.RowKit Go.Proofs.Ytalhpnfapagamaa.S Go.Proofs.YtalhpnfapagamaaW.PrintWords Go.Proofs.YtalhpnfapagamaaW.PrintLast
abbrev Bs := List UInt8
def isL (c : UInt8) : Bool := decide (97 ≤ c.toNat ∧ c.toNat ≤ 122) || decide (65 ≤ c.toNat ∧ c.toNat ≤ 90)
def isD (c : UInt8) : Bool := decide (48 ≤ c.toNat ∧ c.toNat ≤ 57)
def isW (c : UInt8) : Bool := isL c || isD c || decide (c.toNat = 45) || decide (c.toNat = 95)
def runB (p : UInt8 → Bool) : Bs → Nat
 | [] => 0
 | c :: t => if p c then runB p t + 1 else 0
def wordB : Bs → Bool
 | [] => false
 | c :: t => isL c && t.all isW
def mk (l : Bs) : ByteArray := ⟨l.toArray⟩
theorem mk_of (s : ByteArray) : s = mk s.data.toList := by cases s; simp [mk]
theorem mk_size (l : Bs) : (mk l).size = l.length := by simp [mk, ByteArray.size]
theorem mk_data (l : Bs) : (mk l).data.toList = l := by simp [mk]
theorem mk_toList (l : Bs) : (mk l).toList = l := by rw [ByteArray.toList_eq, mk_data]
theorem bt_mk (l : Bs) (i : Nat) (h : i < l.length) : bt (mk l) (i : Int) = ((l[i]'h).toNat : Int) := by
 unfold bt
 rw [dif_pos (by rw [mk_size]; simpa using h)]
 rfl
theorem bt_head (c : UInt8) (t : Bs) : bt (mk (c :: t)) 0 = (c.toNat : Int) := bt_mk (c :: t) 0 (by simp)
theorem wrap_nat {i : Nat} (h : i ≤ 9223372036854775806) : wrap64 ((i : Int) + 1) = ((i + 1 : Nat) : Int) := by unfold wrap64; omega
theorem letter_ev (c : UInt8) : lexer_letter.f (c.toNat : Int) = some (isL c) := by
 unfold lexer_letter.f isL
 repeat' split
 all_goals (congr 1; rw [Bool.eq_iff_iff]; simp only [Bool.or_eq_true, decide_eq_true_eq, true_iff, Bool.false_eq_true, false_iff]; omega)
theorem digit_ev (c : UInt8) : lexer_digit.f (c.toNat : Int) = some (isD c) := by
 unfold lexer_digit.f isD
 repeat' split
 all_goals (congr 1; rw [Bool.eq_iff_iff]; simp only [decide_eq_true_eq, Bool.false_eq_true, false_iff]; omega)
theorem wordc_ev (c : UInt8) : lexer_wordc.f (c.toNat : Int) = some (isW c) := by
 unfold lexer_wordc.f isW
 rw [letter_ev, digit_ev]
 cases isL c with
 | true => rfl
 | false =>
  cases isD c with
  | true => rfl
  | false =>
   simp only [Option.bind_some, Bool.false_or, Bool.false_eq_true, if_false]
   by_cases h : c.toNat = 45
   ·
    rw [if_pos (by omega)]; simp [h]
   ·
    rw [if_neg (by omega)]; congr 1
    rw [Bool.eq_iff_iff, beq_iff_eq, Bool.or_eq_true, decide_eq_true_eq, decide_eq_true_eq]; omega
theorem runB_cons (p : UInt8 → Bool) (c : UInt8) (t : Bs) : runB p (c :: t) = if p c = true then runB p t + 1 else 0 := rfl

theorem runw_l (l : Bs) (hl : l.length ≤ 140737488351232) : ∀ (d i : Nat), i + d = l.length → Ev (fun k => lexer_run_word.l0 k (mk l) (i : Int)) ((i + runB isW (l.drop i) : Nat) : Int)
 | 0, i, h => by
  obtain rfl : i = l.length := by omega
  refine Ev.step (f := fun _ => some ((l.length : Nat) : Int)) (fun k => ?_) (by simpa [runB] using Ev.now _)
  simp only [lexer_run_word.l0]; rw [if_neg (by rw [mk_size]; omega)]
 | d + 1, i, h => by
  have hi : i < l.length := by omega
  rw [List.drop_eq_getElem_cons hi, runB_cons]
  cases hp : isW l[i] with
  | true =>
   refine Ev.step (f := fun k => lexer_run_word.l0 k (mk l) ((i + 1 : Nat) : Int)) (fun k => ?_) (by have := runw_l l hl d (i + 1) (by omega); rw [if_pos rfl, show i + (runB isW (l.drop (i + 1)) + 1) = i + 1 + runB isW (l.drop (i + 1)) by omega]; exact this)
   simp only [lexer_run_word.l0]; rw [if_pos (by rw [mk_size]; omega), if_pos (by omega), bt_mk l i hi, wordc_ev, hp, wrap_nat (by omega)]; rfl
  | false =>
   refine Ev.step (f := fun _ => some (i : Int)) (fun k => ?_) (by rw [if_neg (by simp)]; exact Ev.now _)
   simp only [lexer_run_word.l0]; rw [if_pos (by rw [mk_size]; omega), if_pos (by omega), bt_mk l i hi, wordc_ev, hp]; rfl
theorem runw_ev (l : Bs) (hl : l.length ≤ 140737488351232) : Ev (fun k => lexer_run_word.f k (mk l)) ((runB isW l : Nat) : Int) := by
 have := runw_l l hl l.length 0 (by omega)
 simpa [lexer_run_word.f] using this
theorem runB_eq_length (p : UInt8 → Bool) : ∀ l : Bs, runB p l = l.length ↔ l.all p = true
 | [] => by simp [runB]
 | c :: t => by
  rw [runB_cons, List.all_cons, Bool.and_eq_true, ← runB_eq_length p t, List.length_cons]
  split
  ·
   rename_i h; simp [h]
  ·
   rename_i h; simp [h]

def resB (l : Bs) : Bool := ([[100, 101, 115, 105, 103, 110], [111, 114, 100, 101, 114], [109, 105, 114, 114, 111, 114], [116, 105, 101, 114], [97, 110, 103, 108, 101], [97, 116], [100, 101, 112, 116, 104], [109, 101, 101, 116], [101, 100, 103, 101], [104, 101, 105, 103, 104, 116], [116, 104, 114, 111, 117, 103, 104]] : List Bs).any (fun x => decide (l = x))
theorem res_ev (l : Bs) : lexer_Reserved.f (mk l) = some (resB l) := by
 unfold lexer_Reserved.f resB
 simp only [mk_toList, List.any_cons, List.any_nil, Bool.or_false]
 repeat' split
 all_goals simp_all
def nameB (l : Bs) : Bool := wordB l && decide (l.length ≤ 30) && !resB l
theorem isW_of_L {c : UInt8} (h : isL c = true) : isW c = true := by unfold isW; rw [h]; rfl
def wl : Bs → Int
 | [] => 0
 | c :: t => if isL c = true then ((runB isW t + 1 : Nat) : Int) else 0
theorem wl_cons (c : UInt8) (t : Bs) : wl (c :: t) = if isL c = true then ((runB isW t + 1 : Nat) : Int) else 0 := rfl
theorem word_ev (l : Bs) (hl : l.length ≤ 140737488351232) : Ev (fun k => lexer_word.f k (mk l)) (wl l) := by
 cases l with
 | nil => exact Ev.congr (fun k => by unfold lexer_word.f; rw [mk_toList, if_pos rfl]) (Ev.now 0)
 | cons c t =>
  have hs : ∀ k, lexer_word.f k (mk (c :: t)) = (if isL c = true then ((lexer_run_word.f k (mk (c :: t))).bind fun t110 => some t110) else some 0) := fun k => by
   unfold lexer_word.f
   rw [mk_toList, if_neg (by simp), if_pos (by rw [mk_size]; simp), bt_head, letter_ev]; rfl
  refine Ev.congr hs ?_
  rw [wl_cons]
  cases h : isL c with
  | true =>
   have := Ev.bind (f := fun _ t => some t) (runw_ev (c :: t) hl) (Ev.now _)
   rw [runB_cons, if_pos (isW_of_L h)] at this
   simpa using this
  | false => simpa using Ev.now (0 : Int)
theorem wordB_eq (c : UInt8) (t : Bs) : wordB (c :: t) = (isL c && decide (runB isW t + 1 = (c :: t).length)) := by
 have h : t.all isW = decide (runB isW t + 1 = (c :: t).length) := by
  rw [Bool.eq_iff_iff, decide_eq_true_eq, List.length_cons, ← runB_eq_length]; omega
 rw [wordB, h]
theorem name_ev (l : Bs) (hl : l.length ≤ 140737488351232) : Ev (fun k => lexer_IsName.f k (mk l)) (nameB l) := by
 cases l with
 | nil => exact Ev.congr (f := fun _ => some false) (fun k => by unfold lexer_IsName.f; rw [mk_toList, if_pos rfl]) (Ev.now _)
 | cons c t =>
  unfold nameB
  by_cases h30 : (c :: t).length ≤ 30
  ·
   refine Ev.congr (fun k => by unfold lexer_IsName.f; rw [mk_toList, if_neg (by simp), if_pos (by rw [mk_size]; omega), mk_size, res_ev]) (Ev.bind (word_ev (c :: t) hl) ?_)
   rw [decide_eq_true h30, wordB_eq, Bool.and_true, wl_cons]
   cases h : isL c with
   | false =>
    rw [if_neg (show ¬ (false = true) by simp), if_neg (by rw [List.length_cons]; omega), Bool.false_and]
    exact Ev.now _
   | true =>
    simp only [if_true, Bool.true_and]
    by_cases hr : runB isW t + 1 = (c :: t).length
    ·
     refine Ev.congr (f := fun _ => some (!resB (c :: t))) (fun k => ?_) (by rw [decide_eq_true hr, Bool.true_and]; exact Ev.now _)
     rw [if_pos (by omega)]; rfl
    ·
     refine Ev.congr (f := fun _ => some false) (fun k => ?_) (by rw [decide_eq_false hr, Bool.false_and]; exact Ev.now _)
     rw [if_neg (by omega)]
  ·
   refine Ev.congr (f := fun _ => some false) (fun k => by unfold lexer_IsName.f; rw [mk_toList, if_neg (by simp), if_neg (by rw [mk_size]; omega)]) ?_
   rw [decide_eq_false h30]; simpa using Ev.now false
end Go.Proofs.Ytalhpnfapagamaa.Plain
end
section
namespace Go.Proofs.Ytalhpnfapagamaa.Plain
open Go Go.RowKit Go.Proofs.Ytalhpnfapagamaa.S Go.Proofs.YtalhpnfapagamaaW.PrintWords Go.Proofs.YtalhpnfapagamaaW.PrintLast

theorem awake_ok : Ev (fun k => culetlaw49_awake.f k) true := Ev.of (fun k => culetlaw49_awake.mono k) (k := 60) (by decide +kernel)

theorem rd94 {l : List S94} {i : Nat} (hi : i < l.length) : rd_T94 l (i : Int) = l[i] := by unfold rd_T94; rw [Int.toNat_natCast, List.getD_eq_getElem?_getD, List.getElem?_eq_getElem hi]; rfl
theorem rd68 {l : List S68} {i : Nat} (hi : i < l.length) : rd_T68 l (i : Int) = l[i] := by unfold rd_T68; rw [Int.toNat_natCast, List.getD_eq_getElem?_getD, List.getElem?_eq_getElem hi]; rfl
theorem rd62 {l : List S62} {i : Nat} (hi : i < l.length) : rd_T62 l (i : Int) = l[i] := by unfold rd_T62; rw [Int.toNat_natCast, List.getD_eq_getElem?_getD, List.getElem?_eq_getElem hi]; rfl
def fewB (l0 : List S94) (l1 : List S68) : Bool := decide (l0.length ≤ 8) && (decide (l1.length ≤ 22) && (l0.all (fun x => decide (x.f0.size ≤ 40)) && l1.all (fun x => decide (x.f0.size ≤ 40))))
theorem few_l1 (l0 : List S94) (l1 : List S68) (a2 a3 : Int) (h1 : l1.length ≤ 22) : ∀ (d i : Nat), i + d = l1.length → Ev (fun k => culetref49_Few.l1 k i l0 l1 a2 a3) ((l1.drop i).all (fun x => decide (x.f0.size ≤ 40)))
 | 0, i, h => by
  obtain rfl : i = l1.length := by omega
  refine Ev.step (f := fun _ => some true) (fun k => ?_) (by simpa using Ev.now _)
  simp only [culetref49_Few.l1]; rw [if_neg (by omega)]
 | d + 1, i, h => by
  have hi : i < l1.length := by omega
  rw [List.drop_eq_getElem_cons hi, List.all_cons]
  by_cases h4 : l1[i].f0.size ≤ 40
  ·
   rw [decide_eq_true h4, Bool.true_and]
   refine Ev.step (f := fun k => culetref49_Few.l1 k ((i + 1 : Nat) : Int) l0 l1 a2 a3) (fun k => ?_) (few_l1 l0 l1 a2 a3 h1 d (i + 1) (by omega))
   simp only [culetref49_Few.l1]; rw [if_pos (by omega), if_pos (by omega), rd68 hi, if_neg (by omega), wrap_nat (by omega)]
  ·
   rw [decide_eq_false h4, Bool.false_and]
   refine Ev.step (f := fun _ => some false) (fun k => ?_) (Ev.now _)
   simp only [culetref49_Few.l1]; rw [if_pos (by omega), if_pos (by omega), rd68 hi, if_pos (by omega)]
theorem few_l0 (l0 : List S94) (l1 : List S68) (a2 a3 : Int) (h0 : l0.length ≤ 8) (h1 : l1.length ≤ 22) : ∀ (d i : Nat), i + d = l0.length → Ev (fun k => culetref49_Few.l0 k i l0 l1 a2 a3) ((l0.drop i).all (fun x => decide (x.f0.size ≤ 40)) && l1.all (fun x => decide (x.f0.size ≤ 40)))
 | 0, i, h => by
  obtain rfl : i = l0.length := by omega
  refine Ev.step (f := fun k => culetref49_Few.l1 k ((0 : Nat) : Int) l0 l1 a2 a3) (fun k => ?_) (by simpa using few_l1 l0 l1 a2 a3 h1 l1.length 0 (by omega))
  simp only [culetref49_Few.l0]; rw [if_neg (by omega)]; rfl
 | d + 1, i, h => by
  have hi : i < l0.length := by omega
  rw [List.drop_eq_getElem_cons hi, List.all_cons]
  by_cases h4 : l0[i].f0.size ≤ 40
  ·
   rw [decide_eq_true h4, Bool.true_and]
   refine Ev.step (f := fun k => culetref49_Few.l0 k ((i + 1 : Nat) : Int) l0 l1 a2 a3) (fun k => ?_) (few_l0 l0 l1 a2 a3 h0 h1 d (i + 1) (by omega))
   simp only [culetref49_Few.l0]; rw [if_pos (by omega), if_pos (by omega), rd94 hi, if_neg (by omega), wrap_nat (by omega)]
  ·
   rw [decide_eq_false h4, Bool.false_and, Bool.false_and]
   refine Ev.step (f := fun _ => some false) (fun k => ?_) (Ev.now _)
   simp only [culetref49_Few.l0]; rw [if_pos (by omega), if_pos (by omega), rd94 hi, if_pos (by omega)]
theorem few_ev (l0 : List S94) (l1 : List S68) (a2 a3 : Int) : Ev (fun k => culetref49_Few.f k l0 l1 a2 a3) (fewB l0 l1) := by
 unfold fewB
 by_cases h0 : l0.length ≤ 8
 ·
  rw [decide_eq_true h0, Bool.true_and]
  by_cases h1 : l1.length ≤ 22
  ·
   rw [decide_eq_true h1, Bool.true_and]
   refine Ev.congr (f := fun k => culetref49_Few.j0 k false l0 l1 a2 a3) (fun k => by unfold culetref49_Few.f; rw [if_neg (by omega), decide_eq_false (by omega)]) ?_
   refine Ev.step (f := fun k => culetref49_Few.l0 k ((0 : Nat) : Int) l0 l1 a2 a3) (fun k => by simp only [culetref49_Few.j0]; rw [if_neg (by simp)]; rfl) ?_
   simpa using few_l0 l0 l1 a2 a3 h0 h1 l0.length 0 (by omega)
  ·
   rw [decide_eq_false h1, Bool.false_and]
   refine Ev.congr (f := fun k => culetref49_Few.j0 k true l0 l1 a2 a3) (fun k => by unfold culetref49_Few.f; rw [if_neg (by omega), decide_eq_true (by omega)]) ?_
   exact Ev.step (f := fun _ => some false) (fun k => by simp only [culetref49_Few.j0]; rw [if_pos trivial]) (Ev.now _)
 ·
  rw [decide_eq_false h0, Bool.false_and]
  refine Ev.congr (f := fun k => culetref49_Few.j0 k true l0 l1 a2 a3) (fun k => by unfold culetref49_Few.f; rw [if_pos (by omega)]) ?_
  exact Ev.step (f := fun _ => some false) (fun k => by simp only [culetref49_Few.j0]; rw [if_pos trivial]) (Ev.now _)
theorem few_bounds {l0 : List S94} {l1 : List S68} (h : fewB l0 l1 = true) : l0.length ≤ 8 ∧ l1.length ≤ 22 ∧ (∀ x ∈ l0, x.f0.size ≤ 40) ∧ (∀ x ∈ l1, x.f0.size ≤ 40) := by
 simp only [fewB, Bool.and_eq_true, List.all_eq_true, decide_eq_true_eq] at h
 exact ⟨h.1, h.2.1, h.2.2.1, h.2.2.2⟩

def lapOf (x : S94) : S92 := ⟨x.f0, x.f1, x.f2⟩
def workOf (x : S68) : S93 := ⟨x.f0, x.f1, x.f2⟩
theorem own_l1 (l1 : List S68) (m0 : List S92) (a2 a3 : Int) (h1 : l1.length ≤ 22) : ∀ (d i : Nat), i + d = l1.length → Ev (fun k => culetlaw49_Own.l1 k l1 (l1.length : Int) i m0 ((l1.take i).map workOf) a2 a3) (m0, l1.map workOf, a2, a3)
 | 0, i, h => by
  obtain rfl : i = l1.length := by omega
  refine Ev.step (f := fun _ => some (m0, l1.map workOf, a2, a3)) (fun k => ?_) (Ev.now _)
  simp only [culetlaw49_Own.l1]; rw [if_neg (by omega), List.take_length]
 | d + 1, i, h => by
  have hi : i < l1.length := by omega
  have ih := own_l1 l1 m0 a2 a3 h1 d (i + 1) (by omega)
  refine Ev.step (f := fun k => culetlaw49_Own.l1 k l1 (l1.length : Int) ((i + 1 : Nat) : Int) m0 ((l1.take (i + 1)).map workOf) a2 a3) (fun k => ?_) ih
  simp only [culetlaw49_Own.l1]
  rw [if_pos (by omega), if_pos (by omega), if_pos (by omega), if_pos (by simp; omega), rd68 hi, wrap_nat (by omega)]
  congr 1
  rw [List.take_succ_eq_append_getElem hi, List.map_append]; rfl
theorem own_l0 (l0 : List S94) (l1 : List S68) (a2 a3 : Int) (h0 : l0.length ≤ 8) (h1 : l1.length ≤ 22) : ∀ (d i : Nat), i + d = l0.length → Ev (fun k => culetlaw49_Own.l0 k l0 (l0.length : Int) i l0 l1 a2 a3 ((l0.take i).map lapOf) a2 a3) (l0.map lapOf, l1.map workOf, a2, a3)
 | 0, i, h => by
  obtain rfl : i = l0.length := by omega
  refine Ev.step (f := fun k => culetlaw49_Own.l1 k l1 (l1.length : Int) ((0 : Nat) : Int) (l0.map lapOf) ((l1.take 0).map workOf) a2 a3) (fun k => ?_) (own_l1 l1 (l0.map lapOf) a2 a3 h1 l1.length 0 (by omega))
  simp only [culetlaw49_Own.l0]; rw [if_neg (by omega), List.take_length]; rfl
 | d + 1, i, h => by
  have hi : i < l0.length := by omega
  have ih := own_l0 l0 l1 a2 a3 h0 h1 d (i + 1) (by omega)
  refine Ev.step (f := fun k => culetlaw49_Own.l0 k l0 (l0.length : Int) ((i + 1 : Nat) : Int) l0 l1 a2 a3 ((l0.take (i + 1)).map lapOf) a2 a3) (fun k => ?_) ih
  simp only [culetlaw49_Own.l0]
  rw [if_pos (by omega), if_pos (by omega), if_pos (by omega), if_pos (by simp; omega), rd94 hi, wrap_nat (by omega)]
  congr 1
  rw [List.take_succ_eq_append_getElem hi, List.map_append]; rfl
theorem own_ev (l0 : List S94) (l1 : List S68) (a2 a3 : Int) (h0 : l0.length ≤ 8) (h1 : l1.length ≤ 22) : Ev (fun k => culetlaw49_Own.f k l0 l1 a2 a3) (l0.map lapOf, l1.map workOf, a2, a3) :=
 Ev.congr (fun k => by unfold culetlaw49_Own.f; rfl) (own_l0 l0 l1 a2 a3 h0 h1 l0.length 0 (by omega))
end Go.Proofs.Ytalhpnfapagamaa.Plain
end
section
namespace Go.Proofs.Ytalhpnfapagamaa.Plain
open Go Go.RowKit Go.Proofs.Ytalhpnfapagamaa.S Go.Proofs.YtalhpnfapagamaaW.PrintWords Go.Proofs.YtalhpnfapagamaaW.PrintLast

abbrev St := Int × List Int × Bool
def sd (l1 : List S93) (j : Nat) : Int := (l1.getD j z93).f1
theorem inB_iff (x a b : Int) : inB x a b = true ↔ a ≤ x ∧ x ≤ b := by unfold inB; simp
def sides (l1 : List S93) : Prop := ∀ j, j < l1.length → sd l1 j = 1 ∨ sd l1 j = 2
end Go.Proofs.Ytalhpnfapagamaa.Plain
end
section
namespace Go.Proofs.Ytalhpnfapagamaa.Plain
open Go Go.RowKit Go.Proofs.Ytalhpnfapagamaa.S Go.Proofs.YtalhpnfapagamaaW.PrintWords Go.Proofs.YtalhpnfapagamaaW.PrintLast

def nmB (s : ByteArray) : Bool := nameB s.data.toList
theorem nm_ev (s : ByteArray) (h : s.size ≤ 40) : Ev (fun k => lexer_IsName.f k s) (nmB s) := by
 have e := mk_of s
 have hl : s.data.toList.length ≤ 140737488351232 := by
  rw [Array.length_toList]
  exact Nat.le_trans h (by decide)
 have := name_ev s.data.toList hl
 rw [← e] at this
 exact this
def okW (l1 : List S93) (i : Nat) : Bool := !(l1.take i).any (fun y => y.f0.toList == (l1.getD i z93).f0.toList) && (nmB (l1.getD i z93).f0 && (inB (l1.getD i z93).f1 1 2 && inB (l1.getD i z93).f2 1 48))
def okL (l0 : List S92) (i : Nat) : Bool := !(l0.take i).any (againB (l0.getD i z92)) && (nmB (l0.getD i z92).f0 && (inB (l0.getD i z92).f1 1 200000 && inB (l0.getD i z92).f2 1 100))
def validB (l0 : List S92) (l1 : List S93) (a2 a3 : Int) : Bool :=
 inB l0.length 1 6 && (inB l1.length 1 20 && (inB a2 0 1000 && (inB a3 0 1000 && ((List.range' 0 l0.length).all (okL l0) && (List.range' 0 l1.length).all (okW l1)))))
theorem getD_mem {α : Type} {l : List α} {i : Nat} (hi : i < l.length) (d : α) : l.getD i d ∈ l := by rw [List.getD_eq_getElem?_getD, List.getElem?_eq_getElem hi]; exact List.getElem_mem hi
theorem valid_l1 (l1 : List S93) (hs : ∀ x ∈ l1, x.f0.size ≤ 40) : ∀ (d i : Nat), i + d = l1.length → Ev (fun k => steps_Valid.l1 k l1 i) ((List.range' i d).all (okW l1))
 | 0, i, h => by
  refine Ev.step (f := fun _ => some true) (fun k => ?_) (by simpa using Ev.now _)
  simp only [steps_Valid.l1]; rw [if_neg (by omega)]
 | d + 1, i, h => by
  have hi : i < l1.length := by omega
  rw [List.range'_succ, List.all_cons]
  unfold okW
  cases h1 : (l1.take i).any (fun y => y.f0.toList == (l1.getD i z93).f0.toList) with
  | true =>
   refine Ev.step (f := fun _ => some false) (fun k => ?_) (by simpa using Ev.now _)
   simp only [steps_Valid.l1]; rw [if_pos hi, h1, if_pos rfl]
  | false =>
   refine Ev.step (f := fun k => (lexer_IsName.f k (l1.getD i z93).f0).bind fun nm => if nm = true then (if inB (l1.getD i z93).f1 1 2 = true then (if inB (l1.getD i z93).f2 1 48 = true then steps_Valid.l1 k l1 (i + 1) else some false) else some false) else some false) (fun k => by
    simp only [steps_Valid.l1]; rw [if_pos hi, h1, if_neg (by simp)]) ?_
   refine Ev.bind (nm_ev _ (hs _ (getD_mem hi _))) ?_
   cases nmB (l1.getD i z93).f0 with
   | false => simpa using Ev.now false
   | true =>
    cases inB (l1.getD i z93).f1 1 2 with
    | false => simpa using Ev.now false
    | true =>
     cases inB (l1.getD i z93).f2 1 48 with
     | false => simpa using Ev.now false
     | true =>
      have ih := valid_l1 l1 hs d (i + 1) (by omega)
      unfold okW at ih
      simpa using ih
theorem valid_l0 (l0 : List S92) (l1 : List S93) (h0 : ∀ x ∈ l0, x.f0.size ≤ 40) (hs : ∀ x ∈ l1, x.f0.size ≤ 40) : ∀ (d i : Nat), i + d = l0.length → Ev (fun k => steps_Valid.l0 k l0 l1 i) ((List.range' i d).all (okL l0) && (List.range' 0 l1.length).all (okW l1))
 | 0, i, h => by
  refine Ev.step (f := fun k => steps_Valid.l1 k l1 0) (fun k => ?_) (by simpa using valid_l1 l1 hs l1.length 0 (by omega))
  simp only [steps_Valid.l0]; rw [if_neg (by omega)]
 | d + 1, i, h => by
  have hi : i < l0.length := by omega
  rw [List.range'_succ, List.all_cons]
  unfold okL
  cases h1 : (l0.take i).any (againB (l0.getD i z92)) with
  | true =>
   refine Ev.step (f := fun _ => some false) (fun k => ?_) (by simpa using Ev.now _)
   simp only [steps_Valid.l0]; rw [if_pos hi, h1, if_pos rfl]
  | false =>
   refine Ev.step (f := fun k => (lexer_IsName.f k (l0.getD i z92).f0).bind fun nm => if nm = true then (if inB (l0.getD i z92).f1 1 200000 = true then (if inB (l0.getD i z92).f2 1 100 = true then steps_Valid.l0 k l0 l1 (i + 1) else some false) else some false) else some false) (fun k => by
    simp only [steps_Valid.l0]; rw [if_pos hi, h1, if_neg (by simp)]) ?_
   refine Ev.bind (nm_ev _ (h0 _ (getD_mem hi _))) ?_
   cases nmB (l0.getD i z92).f0 with
   | false => simpa using Ev.now false
   | true =>
    cases inB (l0.getD i z92).f1 1 200000 with
    | false => simpa using Ev.now false
    | true =>
     cases inB (l0.getD i z92).f2 1 100 with
     | false => simpa using Ev.now false
     | true =>
      have ih := valid_l0 l0 l1 h0 hs d (i + 1) (by omega)
      unfold okL at ih
      simpa using ih
theorem valid_ev (l0 : List S92) (l1 : List S93) (a2 a3 : Int) (h0 : ∀ x ∈ l0, x.f0.size ≤ 40) (hs : ∀ x ∈ l1, x.f0.size ≤ 40) : Ev (fun k => steps_Valid.f k l0 l1 a2 a3) (validB l0 l1 a2 a3) := by
 refine Ev.congr (fun k => by unfold steps_Valid.f; rfl) ?_
 unfold validB
 cases inB l0.length 1 6 with
 | false => simpa using Ev.now false
 | true =>
  cases inB l1.length 1 20 with
  | false => simpa using Ev.now false
  | true =>
   cases inB a2 0 1000 with
   | false => simpa using Ev.now false
   | true =>
    cases inB a3 0 1000 with
    | false => simpa using Ev.now false
    | true => simpa using valid_l0 l0 l1 h0 hs l0.length 0 (by omega)
theorem valid_use {l0 : List S92} {l1 : List S93} {a2 a3 : Int} (h : validB l0 l1 a2 a3 = true) : (1 ≤ l0.length ∧ l0.length ≤ 6) ∧ (1 ≤ l1.length ∧ l1.length ≤ 20) ∧ (0 ≤ a2 ∧ a2 ≤ 1000) ∧ (0 ≤ a3 ∧ a3 ≤ 1000) ∧ sides l1 ∧ (∀ i, i < l1.length → 1 ≤ (l1.getD i z93).f2 ∧ (l1.getD i z93).f2 ≤ 48) ∧ (∀ i, i < l0.length → 1 ≤ (l0.getD i z92).f2 ∧ (l0.getD i z92).f2 ≤ 100) := by
 unfold validB at h
 simp only [Bool.and_eq_true, inB_iff, List.all_eq_true, List.mem_range'_1] at h
 obtain ⟨h1, h2, h3, h4, h5, h6⟩ := h
 have w : ∀ i, i < l1.length → okW l1 i = true := fun i hi => h6 i ⟨by omega, by omega⟩
 have l : ∀ i, i < l0.length → okL l0 i = true := fun i hi => h5 i ⟨by omega, by omega⟩
 refine ⟨⟨by omega, by omega⟩, ⟨by omega, by omega⟩, h3, h4, fun i hi => ?_, fun i hi => ?_, fun i hi => ?_⟩
 ·
  have := w i hi
  unfold okW at this
  simp only [Bool.and_eq_true, inB_iff] at this
  unfold sd
  omega
 ·
  have := w i hi
  unfold okW at this
  simp only [Bool.and_eq_true, inB_iff] at this
  exact this.2.2.2
 ·
  have := l i hi
  unfold okL at this
  simp only [Bool.and_eq_true, inB_iff] at this
  exact this.2.2.2
theorem of_ev (l0 : List S92) (l1 : List S93) (a2 a3 : Int) (h0 : ∀ x ∈ l0, x.f0.size ≤ 40) (hs : ∀ x ∈ l1, x.f0.size ≤ 40) : Ev (fun k => steps_Of.f k l0 l1 a2 a3) (if validB l0 l1 a2 a3 = true then (ofL l0.length l1, 0) else ([], 1)) := by
 refine Ev.congr (fun k => by unfold steps_Of.f; rfl) (Ev.bind (valid_ev l0 l1 a2 a3 h0 hs) ?_)
 cases validB l0 l1 a2 a3 with
 | true => exact Ev.now _
 | false => exact Ev.now _
end Go.Proofs.Ytalhpnfapagamaa.Plain
end
section
namespace Go.Proofs.Ytalhpnfapagamaa.Plain
open Go Go.RowKit Go.Proofs.Ytalhpnfapagamaa.S Go.Proofs.YtalhpnfapagamaaW.PrintWords Go.Proofs.YtalhpnfapagamaaW.PrintLast

def cntC (l : List S62) : Nat := (l.filter (fun s => decide (s.f0 = 1))).length
theorem cntC_cons (s : S62) (l : List S62) : cntC (s :: l) = (if s.f0 = 1 then 1 else 0) + cntC l := by
 unfold cntC
 by_cases h : s.f0 = 1
 ·
  rw [List.filter_cons_of_pos (by simp [h]), if_pos h, List.length_cons]; omega
 ·
  rw [List.filter_cons_of_neg (by simp [h]), if_neg h]; omega
theorem changes_l (l : List S62) (hl : l.length ≤ 1000000) : ∀ (d i n : Nat), i + d = l.length → n ≤ i → Ev (fun k => steps_Changes.l0 k (n : Int) l (l.length : Int) i) ((n + cntC (l.drop i) : Nat) : Int)
 | 0, i, n, h, hn => by
  obtain rfl : i = l.length := by omega
  refine Ev.step (f := fun _ => some ((n : Nat) : Int)) (fun k => ?_) (by simpa [cntC] using Ev.now _)
  simp only [steps_Changes.l0]; rw [if_neg (by omega)]
 | d + 1, i, n, h, hn => by
  have hi : i < l.length := by omega
  rw [List.drop_eq_getElem_cons hi, cntC_cons]
  by_cases h1 : l[i].f0 = 1
  ·
   rw [if_pos h1, show n + (1 + cntC (l.drop (i + 1))) = n + 1 + cntC (l.drop (i + 1)) by omega]
   refine Ev.step (f := fun k => steps_Changes.l0 k ((n + 1 : Nat) : Int) l (l.length : Int) ((i + 1 : Nat) : Int)) (fun k => ?_) (changes_l l hl d (i + 1) (n + 1) (by omega) (by omega))
   simp only [steps_Changes.l0]; rw [if_pos (by omega), if_pos (by omega), if_pos (by omega), rd62 hi, if_pos h1, wrap_nat (by omega), wrap_nat (by omega)]
  ·
   rw [if_neg h1, Nat.zero_add]
   refine Ev.step (f := fun k => steps_Changes.l0 k (n : Int) l (l.length : Int) ((i + 1 : Nat) : Int)) (fun k => ?_) (changes_l l hl d (i + 1) n (by omega) (by omega))
   simp only [steps_Changes.l0]; rw [if_pos (by omega), if_pos (by omega), if_pos (by omega), rd62 hi, if_neg h1, wrap_nat (by omega)]
theorem changes_ev (l : List S62) (hl : l.length ≤ 1000000) : Ev (fun k => steps_Changes.f k l) ((cntC l : Nat) : Int) := by
 have := changes_l l hl l.length 0 0 (by omega) (by omega)
 rw [List.drop_zero, Nat.zero_add] at this
 exact this
theorem cnt_cuts (l1 : List S93) (s l : Int) : ∀ m k, cntC (cutsL l1 s l m k) = 0
 | 0, _ => rfl
 | m + 1, k => by
  simp only [cutsL]
  split
  ·
   rw [cntC_cons, cnt_cuts l1 s l m (k + 1)]; rfl
  ·
   exact cnt_cuts l1 s l m (k + 1)
theorem of_len (n0 : Nat) (l1 : List S93) (h0 : n0 ≤ 6) (h1 : l1.length ≤ 20) : (ofL n0 l1).length ≤ 300 := by
 have a := sideL_len l1 1 h1 n0 0 (-1)
 have b := sideL_len l1 2 h1 n0 0 (endP n0 (-1))
 have c := sideL_len l1 2 h1 n0 0 (-1)
 unfold ofL ofA
 cases sidB l1 1 <;> cases sidB l1 2 <;> simp <;> omega
theorem side_some {l1 : List S93} (hs : sides l1) (hn : 1 ≤ l1.length) : sidB l1 1 = true ∨ sidB l1 2 = true := by
 have e : (l1.getD 0 z93) ∈ l1 := getD_mem (by omega) _
 rcases hs 0 (by omega) with h | h
 ·
  exact .inl (List.any_eq_true.2 ⟨_, e, beq_iff_eq.2 h⟩)
 ·
  exact .inr (List.any_eq_true.2 ⟨_, e, beq_iff_eq.2 h⟩)

def wk (l1 : List S93) (s : Int) : List Nat := (List.range' 0 l1.length).filter (fun j => decide (sd l1 j = s))
theorem wk_some (l1 : List S93) (s : Int) : sidB l1 s = decide (0 < (wk l1 s).length) := by
 rw [Bool.eq_iff_iff, decide_eq_true_eq]
 unfold sidB
 rw [List.any_eq_true]
 constructor
 ·
  rintro ⟨x, hx, h⟩
  obtain ⟨j, hj, rfl⟩ := List.getElem_of_mem hx
  refine List.length_pos_of_mem (a := j) (List.mem_filter.2 ⟨by rw [List.mem_range'_1]; omega, ?_⟩)
  rw [decide_eq_true_eq]; unfold sd; rw [List.getD_eq_getElem?_getD, List.getElem?_eq_getElem hj]; exact beq_iff_eq.1 h
 ·
  intro h
  obtain ⟨j, hj⟩ := List.exists_mem_of_length_pos h
  obtain ⟨h1, h2⟩ := List.mem_filter.1 hj
  rw [List.mem_range'_1] at h1
  exact ⟨_, getD_mem (by omega) z93, beq_iff_eq.2 (of_decide_eq_true h2)⟩
theorem wk_both {l1 : List S93} (hs : sides l1) : (wk l1 1).length + (wk l1 2).length = l1.length := by
 have h : ∀ (m k : Nat), k + m ≤ l1.length → ((List.range' k m).filter (fun j => decide (sd l1 j = 1))).length + ((List.range' k m).filter (fun j => decide (sd l1 j = 2))).length = m := fun m => by
  induction m with
  | zero => intro k _; rfl
  | succ m ih =>
   intro k hk
   have := ih (k + 1) (by omega)
   rw [List.range'_succ]
   rcases hs k (by omega) with h1 | h1
   ·
    rw [List.filter_cons_of_pos (by simp [h1]), List.filter_cons_of_neg (by simp [h1]), List.length_cons]; omega
   ·
    rw [List.filter_cons_of_neg (by simp [h1]), List.filter_cons_of_pos (by simp [h1]), List.length_cons]; omega
 exact h l1.length 0 (by omega)
theorem cuts_eq (l1 : List S93) (s l : Int) : ∀ m k, cutsL l1 s l m k = ((List.range' k m).filter (fun j => decide (sd l1 j = s))).map (fun (j : Nat) => (⟨3, l, (j : Int)⟩ : S62))
 | 0, k => rfl
 | m + 1, k => by
  simp only [cutsL]
  rw [List.range'_succ, cuts_eq l1 s l m (k + 1)]
  by_cases h : sd l1 k = s
  ·
   rw [if_pos (show ((l1.getD k z93).f1 == s) = true from beq_iff_eq.2 h), List.filter_cons_of_pos (by simp [h])]; rfl
  ·
   rw [if_neg (show ¬ ((l1.getD k z93).f1 == s) = true from fun h9 => h (beq_iff_eq.1 h9)), List.filter_cons_of_neg (by simp [h])]
variable (m0 : List S94) (m1 : List S68) (a2 a3 : Int)
set_option linter.unusedSectionVars false
end Go.Proofs.Ytalhpnfapagamaa.Plain
end
