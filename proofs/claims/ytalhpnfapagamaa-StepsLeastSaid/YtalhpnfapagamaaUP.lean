-- Written by this session's own programs; what the law does not lean on is left out. Lean checks it.
import Derived.Test.YtalhpnfapagamaaUN
import Derived.Test.YtalhpnfapagamaaUSx12
import Derived.Test.YtalhpnfapagamaaUSx15
import Derived.Test.YtalhpnfapagamaaUSx17
import Derived.Test.YtalhpnfapagamaaUSx25
import Derived.Test.YtalhpnfapagamaaUSx27
import Derived.Test.YtalhpnfapagamaaUSx30
import Derived.Test.YtalhpnfapagamaaUSx14
section
namespace Go.Proofs.Ytalhpnfapagamaa.Plain
open Go Go.RowKit Go.Proofs.Ytalhpnfapagamaa.S Go.Proofs.YtalhpnfapagamaaW.PrintWords Go.Proofs.YtalhpnfapagamaaW.PrintLast
abbrev Bs := List UInt8
def isL (c : UInt8) : Bool := decide (97 ≤ c.toNat ∧ c.toNat ≤ 122) || decide (65 ≤ c.toNat ∧ c.toNat ≤ 90)
def isD (c : UInt8) : Bool := decide (48 ≤ c.toNat ∧ c.toNat ≤ 57)
def isW (c : UInt8) : Bool := isL c || isD c || decide (c.toNat = 45) || decide (c.toNat = 95)
def runB (p : UInt8 → Bool) : Bs → Nat
 | [] => 0
 | c :: t => if p c then runB p t + 1 else 0
def wordB : Bs → Bool
 | [] => false
 | c :: t => isL c && t.all isW
def mk (l : Bs) : ByteArray := ⟨l.toArray⟩
theorem mk_of (s : ByteArray) : s = mk s.data.toList := by cases s; simp [mk]
theorem mk_size (l : Bs) : (mk l).size = l.length := by simp [mk, ByteArray.size]
theorem mk_data (l : Bs) : (mk l).data.toList = l := by simp [mk]
theorem mk_toList (l : Bs) : (mk l).toList = l := by rw [ByteArray.toList_eq, mk_data]
theorem bt_mk (l : Bs) (i : Nat) (h : i < l.length) : bt (mk l) (i : Int) = ((l[i]'h).toNat : Int) := by
 unfold bt
 rw [dif_pos (by rw [mk_size]; simpa using h)]
 rfl
theorem bt_head (c : UInt8) (t : Bs) : bt (mk (c :: t)) 0 = (c.toNat : Int) := bt_mk (c :: t) 0 (by simp)
theorem wrap_nat {i : Nat} (h : i ≤ 9223372036854775806) : wrap64 ((i : Int) + 1) = ((i + 1 : Nat) : Int) := by unfold wrap64; omega
theorem letter_ev (c : UInt8) : lexer_letter.f (c.toNat : Int) = some (isL c) := by
 unfold lexer_letter.f isL
 repeat' split
 all_goals (congr 1; rw [Bool.eq_iff_iff]; simp only [Bool.or_eq_true, decide_eq_true_eq, true_iff, Bool.false_eq_true, false_iff]; omega)
theorem digit_ev (c : UInt8) : lexer_digit.f (c.toNat : Int) = some (isD c) := by
 unfold lexer_digit.f isD
 repeat' split
 all_goals (congr 1; rw [Bool.eq_iff_iff]; simp only [decide_eq_true_eq, Bool.false_eq_true, false_iff]; omega)
theorem wordc_ev (c : UInt8) : lexer_wordc.f (c.toNat : Int) = some (isW c) := by
 unfold lexer_wordc.f isW
 rw [letter_ev, digit_ev]
 cases isL c with
 | true => rfl
 | false =>
  cases isD c with
  | true => rfl
  | false =>
   simp only [Option.bind_some, Bool.false_or, Bool.false_eq_true, if_false]
   by_cases h : c.toNat = 45
   ·
    rw [if_pos (by omega)]; simp [h]
   ·
    rw [if_neg (by omega)]; congr 1
    rw [Bool.eq_iff_iff, beq_iff_eq, Bool.or_eq_true, decide_eq_true_eq, decide_eq_true_eq]; omega
theorem runB_cons (p : UInt8 → Bool) (c : UInt8) (t : Bs) : runB p (c :: t) = if p c = true then runB p t + 1 else 0 := rfl

theorem runw_l (l : Bs) (hl : l.length ≤ 140737488351232) : ∀ (d i : Nat), i + d = l.length → Ev (fun k => lexer_run_word.l0 k (mk l) (i : Int)) ((i + runB isW (l.drop i) : Nat) : Int)
 | 0, i, h => by
  obtain rfl : i = l.length := by omega
  refine Ev.step (f := fun _ => some ((l.length : Nat) : Int)) (fun k => ?_) (by simpa [runB] using Ev.now _)
  simp only [lexer_run_word.l0]; rw [if_neg (by rw [mk_size]; omega)]
 | d + 1, i, h => by
  have hi : i < l.length := by omega
  rw [List.drop_eq_getElem_cons hi, runB_cons]
  cases hp : isW l[i] with
  | true =>
   refine Ev.step (f := fun k => lexer_run_word.l0 k (mk l) ((i + 1 : Nat) : Int)) (fun k => ?_) (by have := runw_l l hl d (i + 1) (by omega); rw [if_pos rfl, show i + (runB isW (l.drop (i + 1)) + 1) = i + 1 + runB isW (l.drop (i + 1)) by omega]; exact this)
   simp only [lexer_run_word.l0]; rw [if_pos (by rw [mk_size]; omega), if_pos (by omega), bt_mk l i hi, wordc_ev, hp, wrap_nat (by omega)]; rfl
  | false =>
   refine Ev.step (f := fun _ => some (i : Int)) (fun k => ?_) (by rw [if_neg (by simp)]; exact Ev.now _)
   simp only [lexer_run_word.l0]; rw [if_pos (by rw [mk_size]; omega), if_pos (by omega), bt_mk l i hi, wordc_ev, hp]; rfl
theorem runw_ev (l : Bs) (hl : l.length ≤ 140737488351232) : Ev (fun k => lexer_run_word.f k (mk l)) ((runB isW l : Nat) : Int) := by
 have := runw_l l hl l.length 0 (by omega)
 simpa [lexer_run_word.f] using this
theorem runB_eq_length (p : UInt8 → Bool) : ∀ l : Bs, runB p l = l.length ↔ l.all p = true
 | [] => by simp [runB]
 | c :: t => by
  rw [runB_cons, List.all_cons, Bool.and_eq_true, ← runB_eq_length p t, List.length_cons]
  split
  ·
   rename_i h; simp [h]
  ·
   rename_i h; simp [h]

def resB (l : Bs) : Bool := ([[100, 101, 115, 105, 103, 110], [111, 114, 100, 101, 114], [109, 105, 114, 114, 111, 114], [116, 105, 101, 114], [97, 110, 103, 108, 101], [97, 116], [100, 101, 112, 116, 104], [109, 101, 101, 116], [101, 100, 103, 101], [104, 101, 105, 103, 104, 116], [116, 104, 114, 111, 117, 103, 104]] : List Bs).any (fun x => decide (l = x))
theorem res_ev (l : Bs) : lexer_Reserved.f (mk l) = some (resB l) := by
 unfold lexer_Reserved.f resB
 simp only [mk_toList, List.any_cons, List.any_nil, Bool.or_false]
 repeat' split
 all_goals simp_all
def nameB (l : Bs) : Bool := wordB l && decide (l.length ≤ 30) && !resB l
theorem isW_of_L {c : UInt8} (h : isL c = true) : isW c = true := by unfold isW; rw [h]; rfl
def wl : Bs → Int
 | [] => 0
 | c :: t => if isL c = true then ((runB isW t + 1 : Nat) : Int) else 0
theorem wl_cons (c : UInt8) (t : Bs) : wl (c :: t) = if isL c = true then ((runB isW t + 1 : Nat) : Int) else 0 := rfl
theorem word_ev (l : Bs) (hl : l.length ≤ 140737488351232) : Ev (fun k => lexer_word.f k (mk l)) (wl l) := by
 cases l with
 | nil => exact Ev.congr (fun k => by unfold lexer_word.f; rw [mk_toList, if_pos rfl]) (Ev.now 0)
 | cons c t =>
  have hs : ∀ k, lexer_word.f k (mk (c :: t)) = (if isL c = true then ((lexer_run_word.f k (mk (c :: t))).bind fun t110 => some t110) else some 0) := fun k => by
   unfold lexer_word.f
   rw [mk_toList, if_neg (by simp), if_pos (by rw [mk_size]; simp), bt_head, letter_ev]; rfl
  refine Ev.congr hs ?_
  rw [wl_cons]
  cases h : isL c with
  | true =>
   have := Ev.bind (f := fun _ t => some t) (runw_ev (c :: t) hl) (Ev.now _)
   rw [runB_cons, if_pos (isW_of_L h)] at this
   simpa using this
  | false => simpa using Ev.now (0 : Int)
theorem wordB_eq (c : UInt8) (t : Bs) : wordB (c :: t) = (isL c && decide (runB isW t + 1 = (c :: t).length)) := by
 have h : t.all isW = decide (runB isW t + 1 = (c :: t).length) := by
  rw [Bool.eq_iff_iff, decide_eq_true_eq, List.length_cons, ← runB_eq_length]; omega
 rw [wordB, h]
theorem name_ev (l : Bs) (hl : l.length ≤ 140737488351232) : Ev (fun k => lexer_IsName.f k (mk l)) (nameB l) := by
 cases l with
 | nil => exact Ev.congr (f := fun _ => some false) (fun k => by unfold lexer_IsName.f; rw [mk_toList, if_pos rfl]) (Ev.now _)
 | cons c t =>
  unfold nameB
  by_cases h30 : (c :: t).length ≤ 30
  ·
   refine Ev.congr (fun k => by unfold lexer_IsName.f; rw [mk_toList, if_neg (by simp), if_pos (by rw [mk_size]; omega), mk_size, res_ev]) (Ev.bind (word_ev (c :: t) hl) ?_)
   rw [decide_eq_true h30, wordB_eq, Bool.and_true, wl_cons]
   cases h : isL c with
   | false =>
    rw [if_neg (show ¬ (false = true) by simp), if_neg (by rw [List.length_cons]; omega), Bool.false_and]
    exact Ev.now _
   | true =>
    simp only [if_true, Bool.true_and]
    by_cases hr : runB isW t + 1 = (c :: t).length
    ·
     refine Ev.congr (f := fun _ => some (!resB (c :: t))) (fun k => ?_) (by rw [decide_eq_true hr, Bool.true_and]; exact Ev.now _)
     rw [if_pos (by omega)]; rfl
    ·
     refine Ev.congr (f := fun _ => some false) (fun k => ?_) (by rw [decide_eq_false hr, Bool.false_and]; exact Ev.now _)
     rw [if_neg (by omega)]
  ·
   refine Ev.congr (f := fun _ => some false) (fun k => by unfold lexer_IsName.f; rw [mk_toList, if_neg (by simp), if_neg (by rw [mk_size]; omega)]) ?_
   rw [decide_eq_false h30]; simpa using Ev.now false
end Go.Proofs.Ytalhpnfapagamaa.Plain
end
section
namespace Go.Proofs.Ytalhpnfapagamaa.Plain
open Go Go.RowKit Go.Proofs.Ytalhpnfapagamaa.S Go.Proofs.YtalhpnfapagamaaW.PrintWords Go.Proofs.YtalhpnfapagamaaW.PrintLast

theorem awake_ok : Ev (fun k => culetlaw49_awake.f k) true := Ev.of (fun k => culetlaw49_awake.mono k) (k := 60) (by decide +kernel)

theorem rd94 {l : List S94} {i : Nat} (hi : i < l.length) : rd_T94 l (i : Int) = l[i] := by unfold rd_T94; rw [Int.toNat_natCast, List.getD_eq_getElem?_getD, List.getElem?_eq_getElem hi]; rfl
theorem rd68 {l : List S68} {i : Nat} (hi : i < l.length) : rd_T68 l (i : Int) = l[i] := by unfold rd_T68; rw [Int.toNat_natCast, List.getD_eq_getElem?_getD, List.getElem?_eq_getElem hi]; rfl
theorem rd62 {l : List S62} {i : Nat} (hi : i < l.length) : rd_T62 l (i : Int) = l[i] := by unfold rd_T62; rw [Int.toNat_natCast, List.getD_eq_getElem?_getD, List.getElem?_eq_getElem hi]; rfl
def fewB (l0 : List S94) (l1 : List S68) : Bool := decide (l0.length ≤ 8) && (decide (l1.length ≤ 22) && (l0.all (fun x => decide (x.f0.size ≤ 40)) && l1.all (fun x => decide (x.f0.size ≤ 40))))
theorem few_l1 (l0 : List S94) (l1 : List S68) (a2 a3 : Int) (h1 : l1.length ≤ 22) : ∀ (d i : Nat), i + d = l1.length → Ev (fun k => culetref49_Few.l1 k i l0 l1 a2 a3) ((l1.drop i).all (fun x => decide (x.f0.size ≤ 40)))
 | 0, i, h => by
  obtain rfl : i = l1.length := by omega
  refine Ev.step (f := fun _ => some true) (fun k => ?_) (by simpa using Ev.now _)
  simp only [culetref49_Few.l1]; rw [if_neg (by omega)]
 | d + 1, i, h => by
  have hi : i < l1.length := by omega
  rw [List.drop_eq_getElem_cons hi, List.all_cons]
  by_cases h4 : l1[i].f0.size ≤ 40
  ·
   rw [decide_eq_true h4, Bool.true_and]
   refine Ev.step (f := fun k => culetref49_Few.l1 k ((i + 1 : Nat) : Int) l0 l1 a2 a3) (fun k => ?_) (few_l1 l0 l1 a2 a3 h1 d (i + 1) (by omega))
   simp only [culetref49_Few.l1]; rw [if_pos (by omega), if_pos (by omega), rd68 hi, if_neg (by omega), wrap_nat (by omega)]
  ·
   rw [decide_eq_false h4, Bool.false_and]
   refine Ev.step (f := fun _ => some false) (fun k => ?_) (Ev.now _)
   simp only [culetref49_Few.l1]; rw [if_pos (by omega), if_pos (by omega), rd68 hi, if_pos (by omega)]
theorem few_l0 (l0 : List S94) (l1 : List S68) (a2 a3 : Int) (h0 : l0.length ≤ 8) (h1 : l1.length ≤ 22) : ∀ (d i : Nat), i + d = l0.length → Ev (fun k => culetref49_Few.l0 k i l0 l1 a2 a3) ((l0.drop i).all (fun x => decide (x.f0.size ≤ 40)) && l1.all (fun x => decide (x.f0.size ≤ 40)))
 | 0, i, h => by
  obtain rfl : i = l0.length := by omega
  refine Ev.step (f := fun k => culetref49_Few.l1 k ((0 : Nat) : Int) l0 l1 a2 a3) (fun k => ?_) (by simpa using few_l1 l0 l1 a2 a3 h1 l1.length 0 (by omega))
  simp only [culetref49_Few.l0]; rw [if_neg (by omega)]; rfl
 | d + 1, i, h => by
  have hi : i < l0.length := by omega
  rw [List.drop_eq_getElem_cons hi, List.all_cons]
  by_cases h4 : l0[i].f0.size ≤ 40
  ·
   rw [decide_eq_true h4, Bool.true_and]
   refine Ev.step (f := fun k => culetref49_Few.l0 k ((i + 1 : Nat) : Int) l0 l1 a2 a3) (fun k => ?_) (few_l0 l0 l1 a2 a3 h0 h1 d (i + 1) (by omega))
   simp only [culetref49_Few.l0]; rw [if_pos (by omega), if_pos (by omega), rd94 hi, if_neg (by omega), wrap_nat (by omega)]
  ·
   rw [decide_eq_false h4, Bool.false_and, Bool.false_and]
   refine Ev.step (f := fun _ => some false) (fun k => ?_) (Ev.now _)
   simp only [culetref49_Few.l0]; rw [if_pos (by omega), if_pos (by omega), rd94 hi, if_pos (by omega)]
theorem few_ev (l0 : List S94) (l1 : List S68) (a2 a3 : Int) : Ev (fun k => culetref49_Few.f k l0 l1 a2 a3) (fewB l0 l1) := by
 unfold fewB
 by_cases h0 : l0.length ≤ 8
 ·
  rw [decide_eq_true h0, Bool.true_and]
  by_cases h1 : l1.length ≤ 22
  ·
   rw [decide_eq_true h1, Bool.true_and]
   refine Ev.congr (f := fun k => culetref49_Few.j0 k false l0 l1 a2 a3) (fun k => by unfold culetref49_Few.f; rw [if_neg (by omega), decide_eq_false (by omega)]) ?_
   refine Ev.step (f := fun k => culetref49_Few.l0 k ((0 : Nat) : Int) l0 l1 a2 a3) (fun k => by simp only [culetref49_Few.j0]; rw [if_neg (by simp)]; rfl) ?_
   simpa using few_l0 l0 l1 a2 a3 h0 h1 l0.length 0 (by omega)
  ·
   rw [decide_eq_false h1, Bool.false_and]
   refine Ev.congr (f := fun k => culetref49_Few.j0 k true l0 l1 a2 a3) (fun k => by unfold culetref49_Few.f; rw [if_neg (by omega), decide_eq_true (by omega)]) ?_
   exact Ev.step (f := fun _ => some false) (fun k => by simp only [culetref49_Few.j0]; rw [if_pos trivial]) (Ev.now _)
 ·
  rw [decide_eq_false h0, Bool.false_and]
  refine Ev.congr (f := fun k => culetref49_Few.j0 k true l0 l1 a2 a3) (fun k => by unfold culetref49_Few.f; rw [if_pos (by omega)]) ?_
  exact Ev.step (f := fun _ => some false) (fun k => by simp only [culetref49_Few.j0]; rw [if_pos trivial]) (Ev.now _)
theorem few_bounds {l0 : List S94} {l1 : List S68} (h : fewB l0 l1 = true) : l0.length ≤ 8 ∧ l1.length ≤ 22 ∧ (∀ x ∈ l0, x.f0.size ≤ 40) ∧ (∀ x ∈ l1, x.f0.size ≤ 40) := by
 simp only [fewB, Bool.and_eq_true, List.all_eq_true, decide_eq_true_eq] at h
 exact ⟨h.1, h.2.1, h.2.2.1, h.2.2.2⟩

def lapOf (x : S94) : S92 := ⟨x.f0, x.f1, x.f2⟩
def workOf (x : S68) : S93 := ⟨x.f0, x.f1, x.f2⟩
theorem own_l1 (l1 : List S68) (m0 : List S92) (a2 a3 : Int) (h1 : l1.length ≤ 22) : ∀ (d i : Nat), i + d = l1.length → Ev (fun k => culetlaw49_Own.l1 k l1 (l1.length : Int) i m0 ((l1.take i).map workOf) a2 a3) (m0, l1.map workOf, a2, a3)
 | 0, i, h => by
  obtain rfl : i = l1.length := by omega
  refine Ev.step (f := fun _ => some (m0, l1.map workOf, a2, a3)) (fun k => ?_) (Ev.now _)
  simp only [culetlaw49_Own.l1]; rw [if_neg (by omega), List.take_length]
 | d + 1, i, h => by
  have hi : i < l1.length := by omega
  have ih := own_l1 l1 m0 a2 a3 h1 d (i + 1) (by omega)
  refine Ev.step (f := fun k => culetlaw49_Own.l1 k l1 (l1.length : Int) ((i + 1 : Nat) : Int) m0 ((l1.take (i + 1)).map workOf) a2 a3) (fun k => ?_) ih
  simp only [culetlaw49_Own.l1]
  rw [if_pos (by omega), if_pos (by omega), if_pos (by omega), if_pos (by simp; omega), rd68 hi, wrap_nat (by omega)]
  congr 1
  rw [List.take_succ_eq_append_getElem hi, List.map_append]; rfl
theorem own_l0 (l0 : List S94) (l1 : List S68) (a2 a3 : Int) (h0 : l0.length ≤ 8) (h1 : l1.length ≤ 22) : ∀ (d i : Nat), i + d = l0.length → Ev (fun k => culetlaw49_Own.l0 k l0 (l0.length : Int) i l0 l1 a2 a3 ((l0.take i).map lapOf) a2 a3) (l0.map lapOf, l1.map workOf, a2, a3)
 | 0, i, h => by
  obtain rfl : i = l0.length := by omega
  refine Ev.step (f := fun k => culetlaw49_Own.l1 k l1 (l1.length : Int) ((0 : Nat) : Int) (l0.map lapOf) ((l1.take 0).map workOf) a2 a3) (fun k => ?_) (own_l1 l1 (l0.map lapOf) a2 a3 h1 l1.length 0 (by omega))
  simp only [culetlaw49_Own.l0]; rw [if_neg (by omega), List.take_length]; rfl
 | d + 1, i, h => by
  have hi : i < l0.length := by omega
  have ih := own_l0 l0 l1 a2 a3 h0 h1 d (i + 1) (by omega)
  refine Ev.step (f := fun k => culetlaw49_Own.l0 k l0 (l0.length : Int) ((i + 1 : Nat) : Int) l0 l1 a2 a3 ((l0.take (i + 1)).map lapOf) a2 a3) (fun k => ?_) ih
  simp only [culetlaw49_Own.l0]
  rw [if_pos (by omega), if_pos (by omega), if_pos (by omega), if_pos (by simp; omega), rd94 hi, wrap_nat (by omega)]
  congr 1
  rw [List.take_succ_eq_append_getElem hi, List.map_append]; rfl
theorem own_ev (l0 : List S94) (l1 : List S68) (a2 a3 : Int) (h0 : l0.length ≤ 8) (h1 : l1.length ≤ 22) : Ev (fun k => culetlaw49_Own.f k l0 l1 a2 a3) (l0.map lapOf, l1.map workOf, a2, a3) :=
 Ev.congr (fun k => by unfold culetlaw49_Own.f; rfl) (own_l0 l0 l1 a2 a3 h0 h1 l0.length 0 (by omega))
end Go.Proofs.Ytalhpnfapagamaa.Plain
end
section
namespace Go.Proofs.Ytalhpnfapagamaa.Plain
open Go Go.RowKit Go.Proofs.Ytalhpnfapagamaa.S Go.Proofs.YtalhpnfapagamaaW.PrintWords Go.Proofs.YtalhpnfapagamaaW.PrintLast

abbrev St := Int × List Int × Bool
def runL (n0 : Nat) (l1 : List S93) : List S62 → St → Option St
 | [], q => some q
 | s :: t, q => (stepF n0 l1 q.1 q.2.1 q.2.2 s).bind (runL n0 l1 t)
theorem runL_append (n0 : Nat) (l1 : List S93) (b : List S62) : ∀ (a : List S62) (q : St), runL n0 l1 (a ++ b) q = (runL n0 l1 a q).bind (runL n0 l1 b)
 | [], q => rfl
 | s :: t, q => by
  simp only [List.cons_append, runL]
  cases stepF n0 l1 q.1 q.2.1 q.2.2 s with
  | none => rfl
  | some q' => exact runL_append n0 l1 b t q'
def endC (n0 : Nat) (l1 : List S93) (n : Int) (done : List Int) : Int × Int := if finB n0 l1 done 1 && finB n0 l1 done 2 then (n, 0) else (n, 9)
theorem runC_some (n0 : Nat) (l1 : List S93) (l : List S62) : ∀ (m i : Nat) (q q' : St), i + m = l.length → runL n0 l1 (l.drop i) q = some q' → runC n0 l1 l m i q.1 q.2.1 q.2.2 = endC n0 l1 (l.length : Int) q'.2.1
 | 0, i, q, q', h, hr => by
  rw [List.drop_of_length_le (by omega)] at hr
  obtain rfl := Option.some.inj hr
  rfl
 | m + 1, i, q, q', h, hr => by
  have hi : i < l.length := by omega
  rw [List.drop_eq_getElem_cons hi] at hr
  simp only [runL] at hr
  have e : l.getD i z62 = l[i] := by rw [List.getD_eq_getElem?_getD, List.getElem?_eq_getElem hi]; rfl
  simp only [runC, e]
  cases hs : stepF n0 l1 q.1 q.2.1 q.2.2 l[i] with
  | none => rw [hs] at hr; cases hr
  | some q1 => rw [hs] at hr; exact runC_some n0 l1 l m (i + 1) q1 q' (by omega) hr
theorem runC_none (n0 : Nat) (l1 : List S93) (l : List S62) : ∀ (m i : Nat) (q : St), i + m = l.length → runL n0 l1 (l.drop i) q = none → (runC n0 l1 l m i q.1 q.2.1 q.2.2).2 = 8
 | 0, i, q, h, hr => by
  rw [List.drop_of_length_le (by omega)] at hr
  cases hr
 | m + 1, i, q, h, hr => by
  have hi : i < l.length := by omega
  rw [List.drop_eq_getElem_cons hi] at hr
  simp only [runL] at hr
  have e : l.getD i z62 = l[i] := by rw [List.getD_eq_getElem?_getD, List.getElem?_eq_getElem hi]; rfl
  simp only [runC, e]
  cases hs : stepF n0 l1 q.1 q.2.1 q.2.2 l[i] with
  | none => rfl
  | some q1 => rw [hs] at hr; exact runC_none n0 l1 l m (i + 1) q1 (by omega) hr
def q0 (l1 : List S93) : St := (-1, List.replicate l1.length 0, false)
def chk (n0 : Nat) (l1 : List S93) (l : List S62) : Int × Int := runC n0 l1 l l.length 0 (-1) (List.replicate l1.length 0) false
theorem chk_some {n0 : Nat} {l1 : List S93} {l : List S62} {q : St} (h : runL n0 l1 l (q0 l1) = some q) : chk n0 l1 l = endC n0 l1 (l.length : Int) q.2.1 := runC_some n0 l1 l l.length 0 (q0 l1) q (by omega) h
theorem chk_none {n0 : Nat} {l1 : List S93} {l : List S62} (h : runL n0 l1 l (q0 l1) = none) : (chk n0 l1 l).2 = 8 := runC_none n0 l1 l l.length 0 (q0 l1) (by omega) h
theorem chk_ok {n0 : Nat} {l1 : List S93} {l : List S62} (h : (chk n0 l1 l).2 = 0) : ∃ q, runL n0 l1 l (q0 l1) = some q ∧ finB n0 l1 q.2.1 1 = true ∧ finB n0 l1 q.2.1 2 = true ∧ chk n0 l1 l = ((l.length : Int), 0) := by
 cases hr : runL n0 l1 l (q0 l1) with
 | none => rw [chk_none hr] at h; cases h
 | some q =>
  rw [chk_some hr] at h
  unfold endC at h
  cases h1 : finB n0 l1 q.2.1 1 <;> cases h2 : finB n0 l1 q.2.1 2 <;> rw [h1, h2] at h <;> first | (cases h; done) | skip
  exact ⟨q, rfl, h1, h2, by rw [chk_some hr]; unfold endC; rw [h1, h2]; rfl⟩
def sd (l1 : List S93) (j : Nat) : Int := (l1.getD j z93).f1
def dn (l1 : List S93) (s : Int) (l k : Nat) (o : Int) : List Int := (List.range l1.length).map (fun j => if sd l1 j = s then (if j < k then (l : Int) + 1 else (l : Int)) else o)
theorem dn_len (l1 : List S93) (s : Int) (l k : Nat) (o : Int) : (dn l1 s l k o).length = l1.length := by simp [dn]
theorem dn_at {l1 : List S93} {j : Nat} (hj : j < l1.length) (s : Int) (l k : Nat) (o : Int) : (dn l1 s l k o).getD j 0 = if sd l1 j = s then (if j < k then (l : Int) + 1 else (l : Int)) else o := by
 rw [List.getD_eq_getElem?_getD]; simp [dn, hj]
theorem dn_ext {a b : List Int} {n : Nat} (ha : a.length = n) (hb : b.length = n) (h : ∀ j, j < n → a.getD j 0 = b.getD j 0) : a = b := by
 refine List.ext_getElem (by omega) (fun j h1 h2 => ?_)
 have := h j (by omega)
 rwa [List.getD_eq_getElem?_getD, List.getD_eq_getElem?_getD, List.getElem?_eq_getElem h1, List.getElem?_eq_getElem h2] at this
theorem dn_skip {l1 : List S93} {s : Int} {k : Nat} (hs : sd l1 k ≠ s) (l : Nat) (o : Int) : dn l1 s l k o = dn l1 s l (k + 1) o := by
 refine dn_ext (dn_len ..) (dn_len ..) (fun j hj => ?_)
 rw [dn_at hj, dn_at hj]
 by_cases h1 : sd l1 j = s
 ·
  rw [if_pos h1, if_pos h1]
  have : j ≠ k := fun e => hs (e ▸ h1)
  by_cases h2 : j < k
  ·
   rw [if_pos h2, if_pos (by omega)]
  ·
   rw [if_neg h2, if_neg (by omega)]
 ·
  rw [if_neg h1, if_neg h1]
theorem dn_roll (l1 : List S93) (s : Int) (l : Nat) (o : Int) : dn l1 s l l1.length o = dn l1 s (l + 1) 0 o := by
 refine dn_ext (dn_len ..) (dn_len ..) (fun j hj => ?_)
 rw [dn_at hj, dn_at hj, if_pos hj, if_neg (show ¬ j < 0 by omega)]
 push_cast; rfl
theorem dn_set {l1 : List S93} {s : Int} {k : Nat} (hk : k < l1.length) (hs : sd l1 k = s) (l : Nat) (o : Int) : (dn l1 s l k o).set k ((l : Int) + 1) = dn l1 s l (k + 1) o := by
 refine dn_ext (by rw [List.length_set, dn_len]) (dn_len ..) (fun j hj => ?_)
 rw [dn_at hj, List.getD_eq_getElem?_getD, List.getElem?_set]
 by_cases h : k = j
 ·
  subst h
  rw [if_pos rfl, if_pos (by rw [dn_len]; exact hk), if_pos hs, if_pos (by omega)]; rfl
 ·
  rw [if_neg h, ← List.getD_eq_getElem?_getD, dn_at hj]
  by_cases h1 : sd l1 j = s
  ·
   rw [if_pos h1, if_pos h1]
   by_cases h2 : j < k
   ·
    rw [if_pos h2, if_pos (by omega)]
   ·
    rw [if_neg h2, if_neg (by omega)]
  ·
   rw [if_neg h1, if_neg h1]
theorem dn_start (l1 : List S93) (s : Int) : List.replicate l1.length 0 = dn l1 s 0 0 0 := by
 refine dn_ext (List.length_replicate ..) (dn_len ..) (fun j hj => ?_)
 rw [dn_at hj, List.getD_eq_getElem?_getD]
 simp [hj]
theorem rd_nat_ (l : List Int) (i : Nat) : rd l (i : Int) = l.getD i 0 := by unfold rd; rw [Int.toNat_natCast]
theorem inB_iff (x a b : Int) : inB x a b = true ↔ a ≤ x ∧ x ≤ b := by unfold inB; simp
theorem step_change (n0 : Nat) (l1 : List S93) (p : Int) (d : List Int) (mv : Bool) (i : Nat) (hi : i < n0) (hp : (i : Int) ≠ p) : stepF n0 l1 p d mv ⟨1, (i : Int), 0⟩ = some ((i : Int), d, mv) := by
 unfold stepF
 rw [if_pos rfl, if_pos]
 simp only [Bool.and_eq_true, inB_iff, Bool.not_eq_true', beq_iff_eq, beq_eq_false_iff_ne]
 exact ⟨trivial, by omega, hp⟩
theorem step_cut (n0 : Nat) (l1 : List S93) (s : Int) (l k : Nat) (o : Int) (mv : Bool) (hk : k < l1.length) (hs : sd l1 k = s) (hb : sidB l1 1 = true → sidB l1 2 = true → mv = (s == 2)) :
  stepF n0 l1 (l : Int) (dn l1 s l k o) mv ⟨3, (l : Int), (k : Int)⟩ = some ((l : Int), dn l1 s l (k + 1) o, mv) := by
 have hrd : rd (dn l1 s l k o) (k : Int) = (l : Int) := by rw [rd_nat_, dn_at hk, if_pos hs, if_neg (by omega)]
 have hX : rd_T93 l1 (k : Int) = l1.getD k z93 := by unfold rd_T93; rw [Int.toNat_natCast]
 unfold stepF
 rw [if_neg (show ¬ (3 : Int) = 1 by decide), if_neg (show ¬ (3 : Int) = 2 by decide), if_pos rfl, if_pos]
 ·
  dsimp only
  rw [hrd, Int.toNat_natCast, dn_set hk hs]
 ·
  unfold cutB
  dsimp only
  rw [hrd, hX, Int.toNat_natCast]
  simp only [Bool.and_eq_true, inB_iff, beq_self_eq_true, true_and]
  refine ⟨by omega, ?_, ?_⟩
  ·
   rw [Bool.not_eq_true']
   cases h1 : sidB l1 1
   ·
    rfl
   ·
    cases h2 : sidB l1 2
    ·
     rfl
    ·
     rw [hb h1 h2, show (l1.getD k z93).f1 = s from hs]
     simp
  ·
   refine freeB_yes _ _ _ _ _ (fun i hi => ?_)
   unfold freeAt
   rw [dn_at (by omega), show (l1.getD k z93).f1 = s from hs]
   by_cases h1 : sd l1 i = s
   ·
    rw [if_pos h1, if_pos hi, decide_eq_false (by omega), Bool.and_false]; rfl
   ·
    rw [show ((l1.getD i z93).f1 == s) = false from beq_eq_false_iff_ne.2 h1, Bool.false_and]; rfl
theorem run_cuts (n0 : Nat) (l1 : List S93) (s : Int) (l : Nat) (o : Int) (mv : Bool) (hb : sidB l1 1 = true → sidB l1 2 = true → mv = (s == 2)) : ∀ (m k : Nat), k + m = l1.length →
  runL n0 l1 (cutsL l1 s (l : Int) m k) ((l : Int), dn l1 s l k o, mv) = some ((l : Int), dn l1 s l (k + m) o, mv)
 | 0, k, h => rfl
 | m + 1, k, h => by
  have ih := run_cuts n0 l1 s l o mv hb m (k + 1) (by omega)
  simp only [cutsL]
  by_cases hs : sd l1 k = s
  ·
   rw [if_pos (by exact beq_iff_eq.2 hs)]
   simp only [runL]
   rw [step_cut n0 l1 s l k o mv (by omega) hs hb, Option.bind_some, ih, show k + 1 + m = k + (m + 1) by omega]
  ·
   rw [if_neg (show ¬ ((l1.getD k z93).f1 == s) = true from fun h9 => hs (beq_iff_eq.1 h9)), dn_skip hs, ih, show k + 1 + m = k + (m + 1) by omega]
theorem run_side (n0 : Nat) (l1 : List S93) (s : Int) (o : Int) (mv : Bool) (hb : sidB l1 1 = true → sidB l1 2 = true → mv = (s == 2)) : ∀ (m i : Nat) (p : Int), i + m = n0 →
  runL n0 l1 (sideL l1 s m i p) (p, dn l1 s i 0 o, mv) = some (if m = 0 then p else ((i + m : Nat) : Int) - 1, dn l1 s (i + m) 0 o, mv)
 | 0, i, p, h => rfl
 | m + 1, i, p, h => by
  have ih := run_side n0 l1 s o mv hb m (i + 1) (i : Int) (by omega)
  have hc := run_cuts n0 l1 s i o mv hb l1.length 0 (by omega)
  rw [Nat.zero_add, dn_roll] at hc
  simp only [sideL]
  rw [runL_append]
  have h1 : runL n0 l1 (if ((i : Int) != p) = true then [⟨1, (i : Int), 0⟩] else []) (p, dn l1 s i 0 o, mv) = some ((i : Int), dn l1 s i 0 o, mv) := by
   by_cases hp : (i : Int) = p
   ·
    rw [if_neg (by simpa using hp), hp]; rfl
   ·
    rw [if_pos (by simpa using hp)]
    simp only [runL]
    rw [step_change n0 l1 p _ mv i (by omega) hp]; rfl
  rw [h1, Option.bind_some, runL_append, hc, Option.bind_some, ih, if_neg (show ¬ m + 1 = 0 by omega), show i + 1 + m = i + (m + 1) by omega]
  by_cases hm : m = 0
  ·
   subst hm; rw [if_pos rfl]; congr 2; omega
  ·
   rw [if_neg hm]
theorem fin_dn (n0 : Nat) (l1 : List S93) (s : Int) (o : Int) (q : Int) (h : q = s ∨ (n0 : Int) ≤ o ∨ sidB l1 q = false) : finB n0 l1 (dn l1 s n0 0 o) q = true := by
 refine finB_yes _ _ _ _ (fun i hi => ?_)
 unfold finAt
 rw [dn_at hi]
 by_cases h1 : sd l1 i = s
 ·
  rw [if_pos h1, if_neg (by omega), decide_eq_false (by omega), Bool.and_false]; rfl
 ·
  rw [if_neg h1]
  rcases h with h | h | h
  ·
   rw [show ((l1.getD i z93).f1 == q) = false from beq_eq_false_iff_ne.2 (h ▸ h1), Bool.false_and]; rfl
  ·
   rw [decide_eq_false (by omega), Bool.and_false]; rfl
  ·
   unfold sidB at h
   rw [List.any_eq_false] at h
   have := h (l1[i]) (List.getElem_mem hi)
   rw [show ((l1.getD i z93).f1 == q) = false by rw [List.getD_eq_getElem?_getD, List.getElem?_eq_getElem hi]; simpa using this, Bool.false_and]; rfl
def sides (l1 : List S93) : Prop := ∀ j, j < l1.length → sd l1 j = 1 ∨ sd l1 j = 2
theorem dn_turn {l1 : List S93} (h : sides l1) (n0 : Nat) : dn l1 1 n0 0 0 = dn l1 2 0 0 (n0 : Int) := by
 refine dn_ext (dn_len ..) (dn_len ..) (fun j hj => ?_)
 rw [dn_at hj, dn_at hj, if_neg (show ¬ j < 0 by omega), if_neg (show ¬ j < 0 by omega)]
 rcases h j hj with h1 | h1 <;> rw [h1] <;> simp
theorem step_transfer (n0 : Nat) (l1 : List S93) (lap : Int) (h1 : sidB l1 1 = true) (h2 : sidB l1 2 = true) : stepF n0 l1 lap (dn l1 1 n0 0 0) false ⟨2, 0, 0⟩ = some (lap, dn l1 1 n0 0 0, true) := by
 unfold stepF
 rw [if_neg (by decide), if_pos rfl, if_pos]
 rw [h1, h2, fin_dn n0 l1 1 0 1 (.inl rfl)]; rfl
theorem run_of (n0 : Nat) (l1 : List S93) (hs : sides l1) : ∃ q, runL n0 l1 (ofL n0 l1) (q0 l1) = some q ∧ finB n0 l1 q.2.1 1 = true ∧ finB n0 l1 q.2.1 2 = true := by
 unfold ofL ofA q0
 cases h1 : sidB l1 1 with
 | false =>
  rw [if_neg (show ¬ (false = true) by simp), if_neg (show ¬ (false = true) by simp), List.nil_append]
  cases h2 : sidB l1 2 with
  | false =>
   rw [if_neg (show ¬ (false = true) by simp)]
   refine ⟨_, rfl, ?_, ?_⟩
   ·
    exact finB_yes _ _ _ _ (fun i hi => by
     unfold finAt
     unfold sidB at h1
     rw [List.any_eq_false] at h1
     have := h1 (l1[i]) (List.getElem_mem hi)
     rw [show ((l1.getD i z93).f1 == 1) = false by rw [List.getD_eq_getElem?_getD, List.getElem?_eq_getElem hi]; simpa using this, Bool.false_and]; rfl)
   ·
    exact finB_yes _ _ _ _ (fun i hi => by
     unfold finAt
     unfold sidB at h2
     rw [List.any_eq_false] at h2
     have := h2 (l1[i]) (List.getElem_mem hi)
     rw [show ((l1.getD i z93).f1 == 2) = false by rw [List.getD_eq_getElem?_getD, List.getElem?_eq_getElem hi]; simpa using this, Bool.false_and]; rfl)
  | true =>
   rw [if_pos rfl, dn_start l1 2, run_side n0 l1 2 0 false (by rw [h1]; intro h; cases h) n0 0 (-1) (by omega), Nat.zero_add]
   exact ⟨_, rfl, fin_dn n0 l1 2 0 1 (.inr (.inr h1)), fin_dn n0 l1 2 0 2 (.inl rfl)⟩
 | true =>
  rw [if_pos rfl, if_pos rfl]
  cases h2 : sidB l1 2 with
  | false =>
   rw [if_neg (show ¬ (false = true) by simp), if_neg (show ¬ (false = true) by simp), List.append_nil, List.append_nil, dn_start l1 1, run_side n0 l1 1 0 false (by rw [h2]; intro _ h; cases h) n0 0 (-1) (by omega), Nat.zero_add]
   exact ⟨_, rfl, fin_dn n0 l1 1 0 1 (.inl rfl), fin_dn n0 l1 1 0 2 (.inr (.inr h2))⟩
  | true =>
   rw [if_pos rfl, if_pos rfl, List.append_assoc, runL_append, dn_start l1 1, run_side n0 l1 1 0 false (by intro _ _; rfl) n0 0 (-1) (by omega), Nat.zero_add, Option.bind_some, runL_append]
   simp only [runL]
   rw [step_transfer n0 l1 _ h1 h2, Option.bind_some, Option.bind_some, dn_turn hs, show (if n0 = 0 then (-1 : Int) else (n0 : Int) - 1) = endP n0 (-1) from rfl,
    run_side n0 l1 2 (n0 : Int) true (by intro _ _; rfl) n0 0 _ (by omega), Nat.zero_add]
   exact ⟨_, rfl, fin_dn n0 l1 2 n0 1 (.inr (.inl (by omega))), fin_dn n0 l1 2 n0 2 (.inl rfl)⟩
theorem chk_of (n0 : Nat) (l1 : List S93) (hs : sides l1) : chk n0 l1 (ofL n0 l1) = (((ofL n0 l1).length : Int), 0) := by
 obtain ⟨q, h, h1, h2⟩ := run_of n0 l1 hs
 rw [chk_some h]; unfold endC; rw [h1, h2]; rfl
end Go.Proofs.Ytalhpnfapagamaa.Plain
end
section
namespace Go.Proofs.Ytalhpnfapagamaa.Plain
open Go Go.RowKit Go.Proofs.Ytalhpnfapagamaa.S Go.Proofs.YtalhpnfapagamaaW.PrintWords Go.Proofs.YtalhpnfapagamaaW.PrintLast

def nmB (s : ByteArray) : Bool := nameB s.data.toList
theorem nm_ev (s : ByteArray) (h : s.size ≤ 40) : Ev (fun k => lexer_IsName.f k s) (nmB s) := by
 have e := mk_of s
 have hl : s.data.toList.length ≤ 140737488351232 := by
  rw [Array.length_toList]
  exact Nat.le_trans h (by decide)
 have := name_ev s.data.toList hl
 rw [← e] at this
 exact this
def okW (l1 : List S93) (i : Nat) : Bool := !(l1.take i).any (fun y => y.f0.toList == (l1.getD i z93).f0.toList) && (nmB (l1.getD i z93).f0 && (inB (l1.getD i z93).f1 1 2 && inB (l1.getD i z93).f2 1 48))
def okL (l0 : List S92) (i : Nat) : Bool := !(l0.take i).any (againB (l0.getD i z92)) && (nmB (l0.getD i z92).f0 && (inB (l0.getD i z92).f1 1 200000 && inB (l0.getD i z92).f2 1 100))
def validB (l0 : List S92) (l1 : List S93) (a2 a3 : Int) : Bool :=
 inB l0.length 1 6 && (inB l1.length 1 20 && (inB a2 0 1000 && (inB a3 0 1000 && ((List.range' 0 l0.length).all (okL l0) && (List.range' 0 l1.length).all (okW l1)))))
theorem getD_mem {α : Type} {l : List α} {i : Nat} (hi : i < l.length) (d : α) : l.getD i d ∈ l := by rw [List.getD_eq_getElem?_getD, List.getElem?_eq_getElem hi]; exact List.getElem_mem hi
theorem valid_l1 (l1 : List S93) (hs : ∀ x ∈ l1, x.f0.size ≤ 40) : ∀ (d i : Nat), i + d = l1.length → Ev (fun k => steps_Valid.l1 k l1 i) ((List.range' i d).all (okW l1))
 | 0, i, h => by
  refine Ev.step (f := fun _ => some true) (fun k => ?_) (by simpa using Ev.now _)
  simp only [steps_Valid.l1]; rw [if_neg (by omega)]
 | d + 1, i, h => by
  have hi : i < l1.length := by omega
  rw [List.range'_succ, List.all_cons]
  unfold okW
  cases h1 : (l1.take i).any (fun y => y.f0.toList == (l1.getD i z93).f0.toList) with
  | true =>
   refine Ev.step (f := fun _ => some false) (fun k => ?_) (by simpa using Ev.now _)
   simp only [steps_Valid.l1]; rw [if_pos hi, h1, if_pos rfl]
  | false =>
   refine Ev.step (f := fun k => (lexer_IsName.f k (l1.getD i z93).f0).bind fun nm => if nm = true then (if inB (l1.getD i z93).f1 1 2 = true then (if inB (l1.getD i z93).f2 1 48 = true then steps_Valid.l1 k l1 (i + 1) else some false) else some false) else some false) (fun k => by
    simp only [steps_Valid.l1]; rw [if_pos hi, h1, if_neg (by simp)]) ?_
   refine Ev.bind (nm_ev _ (hs _ (getD_mem hi _))) ?_
   cases nmB (l1.getD i z93).f0 with
   | false => simpa using Ev.now false
   | true =>
    cases inB (l1.getD i z93).f1 1 2 with
    | false => simpa using Ev.now false
    | true =>
     cases inB (l1.getD i z93).f2 1 48 with
     | false => simpa using Ev.now false
     | true =>
      have ih := valid_l1 l1 hs d (i + 1) (by omega)
      unfold okW at ih
      simpa using ih
theorem valid_l0 (l0 : List S92) (l1 : List S93) (h0 : ∀ x ∈ l0, x.f0.size ≤ 40) (hs : ∀ x ∈ l1, x.f0.size ≤ 40) : ∀ (d i : Nat), i + d = l0.length → Ev (fun k => steps_Valid.l0 k l0 l1 i) ((List.range' i d).all (okL l0) && (List.range' 0 l1.length).all (okW l1))
 | 0, i, h => by
  refine Ev.step (f := fun k => steps_Valid.l1 k l1 0) (fun k => ?_) (by simpa using valid_l1 l1 hs l1.length 0 (by omega))
  simp only [steps_Valid.l0]; rw [if_neg (by omega)]
 | d + 1, i, h => by
  have hi : i < l0.length := by omega
  rw [List.range'_succ, List.all_cons]
  unfold okL
  cases h1 : (l0.take i).any (againB (l0.getD i z92)) with
  | true =>
   refine Ev.step (f := fun _ => some false) (fun k => ?_) (by simpa using Ev.now _)
   simp only [steps_Valid.l0]; rw [if_pos hi, h1, if_pos rfl]
  | false =>
   refine Ev.step (f := fun k => (lexer_IsName.f k (l0.getD i z92).f0).bind fun nm => if nm = true then (if inB (l0.getD i z92).f1 1 200000 = true then (if inB (l0.getD i z92).f2 1 100 = true then steps_Valid.l0 k l0 l1 (i + 1) else some false) else some false) else some false) (fun k => by
    simp only [steps_Valid.l0]; rw [if_pos hi, h1, if_neg (by simp)]) ?_
   refine Ev.bind (nm_ev _ (h0 _ (getD_mem hi _))) ?_
   cases nmB (l0.getD i z92).f0 with
   | false => simpa using Ev.now false
   | true =>
    cases inB (l0.getD i z92).f1 1 200000 with
    | false => simpa using Ev.now false
    | true =>
     cases inB (l0.getD i z92).f2 1 100 with
     | false => simpa using Ev.now false
     | true =>
      have ih := valid_l0 l0 l1 h0 hs d (i + 1) (by omega)
      unfold okL at ih
      simpa using ih
theorem valid_ev (l0 : List S92) (l1 : List S93) (a2 a3 : Int) (h0 : ∀ x ∈ l0, x.f0.size ≤ 40) (hs : ∀ x ∈ l1, x.f0.size ≤ 40) : Ev (fun k => steps_Valid.f k l0 l1 a2 a3) (validB l0 l1 a2 a3) := by
 refine Ev.congr (fun k => by unfold steps_Valid.f; rfl) ?_
 unfold validB
 cases inB l0.length 1 6 with
 | false => simpa using Ev.now false
 | true =>
  cases inB l1.length 1 20 with
  | false => simpa using Ev.now false
  | true =>
   cases inB a2 0 1000 with
   | false => simpa using Ev.now false
   | true =>
    cases inB a3 0 1000 with
    | false => simpa using Ev.now false
    | true => simpa using valid_l0 l0 l1 h0 hs l0.length 0 (by omega)
theorem valid_use {l0 : List S92} {l1 : List S93} {a2 a3 : Int} (h : validB l0 l1 a2 a3 = true) : (1 ≤ l0.length ∧ l0.length ≤ 6) ∧ (1 ≤ l1.length ∧ l1.length ≤ 20) ∧ (0 ≤ a2 ∧ a2 ≤ 1000) ∧ (0 ≤ a3 ∧ a3 ≤ 1000) ∧ sides l1 ∧ (∀ i, i < l1.length → 1 ≤ (l1.getD i z93).f2 ∧ (l1.getD i z93).f2 ≤ 48) ∧ (∀ i, i < l0.length → 1 ≤ (l0.getD i z92).f2 ∧ (l0.getD i z92).f2 ≤ 100) := by
 unfold validB at h
 simp only [Bool.and_eq_true, inB_iff, List.all_eq_true, List.mem_range'_1] at h
 obtain ⟨h1, h2, h3, h4, h5, h6⟩ := h
 have w : ∀ i, i < l1.length → okW l1 i = true := fun i hi => h6 i ⟨by omega, by omega⟩
 have l : ∀ i, i < l0.length → okL l0 i = true := fun i hi => h5 i ⟨by omega, by omega⟩
 refine ⟨⟨by omega, by omega⟩, ⟨by omega, by omega⟩, h3, h4, fun i hi => ?_, fun i hi => ?_, fun i hi => ?_⟩
 ·
  have := w i hi
  unfold okW at this
  simp only [Bool.and_eq_true, inB_iff] at this
  unfold sd
  omega
 ·
  have := w i hi
  unfold okW at this
  simp only [Bool.and_eq_true, inB_iff] at this
  exact this.2.2.2
 ·
  have := l i hi
  unfold okL at this
  simp only [Bool.and_eq_true, inB_iff] at this
  exact this.2.2.2
theorem of_ev (l0 : List S92) (l1 : List S93) (a2 a3 : Int) (h0 : ∀ x ∈ l0, x.f0.size ≤ 40) (hs : ∀ x ∈ l1, x.f0.size ≤ 40) : Ev (fun k => steps_Of.f k l0 l1 a2 a3) (if validB l0 l1 a2 a3 = true then (ofL l0.length l1, 0) else ([], 1)) := by
 refine Ev.congr (fun k => by unfold steps_Of.f; rfl) (Ev.bind (valid_ev l0 l1 a2 a3 h0 hs) ?_)
 cases validB l0 l1 a2 a3 with
 | true => exact Ev.now _
 | false => exact Ev.now _
theorem check_ev (l0 : List S92) (l1 : List S93) (a2 a3 : Int) (l : List S62) (h0 : ∀ x ∈ l0, x.f0.size ≤ 40) (hs : ∀ x ∈ l1, x.f0.size ≤ 40) (hl : l.length ≤ 1000000) : Ev (fun k => steps_Check.f k l0 l1 a2 a3 l) (if validB l0 l1 a2 a3 = true then chk l0.length l1 l else (0, 1)) := by
 refine Ev.congr (fun k => by unfold steps_Check.f; rfl) (Ev.bind (valid_ev l0 l1 a2 a3 h0 hs) ?_)
 cases validB l0 l1 a2 a3 with
 | true => simpa [hl, chk] using Ev.now _
 | false => exact Ev.now _

end Go.Proofs.Ytalhpnfapagamaa.Plain
end
section
namespace Go.Proofs.Ytalhpnfapagamaa.Plain
open Go Go.RowKit Go.Proofs.Ytalhpnfapagamaa.S Go.Proofs.YtalhpnfapagamaaW.PrintWords Go.Proofs.YtalhpnfapagamaaW.PrintLast

def cntC (l : List S62) : Nat := (l.filter (fun s => decide (s.f0 = 1))).length
theorem cntC_nil : cntC [] = 0 := rfl
theorem cntC_cons (s : S62) (l : List S62) : cntC (s :: l) = (if s.f0 = 1 then 1 else 0) + cntC l := by
 unfold cntC
 by_cases h : s.f0 = 1
 ·
  rw [List.filter_cons_of_pos (by simp [h]), if_pos h, List.length_cons]; omega
 ·
  rw [List.filter_cons_of_neg (by simp [h]), if_neg h]; omega
theorem cntC_append (a b : List S62) : cntC (a ++ b) = cntC a + cntC b := by unfold cntC; rw [List.filter_append, List.length_append]
theorem cntC_le (l : List S62) : cntC l ≤ l.length := List.length_filter_le _ _
theorem changes_l (l : List S62) (hl : l.length ≤ 1000000) : ∀ (d i n : Nat), i + d = l.length → n ≤ i → Ev (fun k => steps_Changes.l0 k (n : Int) l (l.length : Int) i) ((n + cntC (l.drop i) : Nat) : Int)
 | 0, i, n, h, hn => by
  obtain rfl : i = l.length := by omega
  refine Ev.step (f := fun _ => some ((n : Nat) : Int)) (fun k => ?_) (by simpa [cntC] using Ev.now _)
  simp only [steps_Changes.l0]; rw [if_neg (by omega)]
 | d + 1, i, n, h, hn => by
  have hi : i < l.length := by omega
  rw [List.drop_eq_getElem_cons hi, cntC_cons]
  by_cases h1 : l[i].f0 = 1
  ·
   rw [if_pos h1, show n + (1 + cntC (l.drop (i + 1))) = n + 1 + cntC (l.drop (i + 1)) by omega]
   refine Ev.step (f := fun k => steps_Changes.l0 k ((n + 1 : Nat) : Int) l (l.length : Int) ((i + 1 : Nat) : Int)) (fun k => ?_) (changes_l l hl d (i + 1) (n + 1) (by omega) (by omega))
   simp only [steps_Changes.l0]; rw [if_pos (by omega), if_pos (by omega), if_pos (by omega), rd62 hi, if_pos h1, wrap_nat (by omega), wrap_nat (by omega)]
  ·
   rw [if_neg h1, Nat.zero_add]
   refine Ev.step (f := fun k => steps_Changes.l0 k (n : Int) l (l.length : Int) ((i + 1 : Nat) : Int)) (fun k => ?_) (changes_l l hl d (i + 1) n (by omega) (by omega))
   simp only [steps_Changes.l0]; rw [if_pos (by omega), if_pos (by omega), if_pos (by omega), rd62 hi, if_neg h1, wrap_nat (by omega)]
theorem changes_ev (l : List S62) (hl : l.length ≤ 1000000) : Ev (fun k => steps_Changes.f k l) ((cntC l : Nat) : Int) := by
 have := changes_l l hl l.length 0 0 (by omega) (by omega)
 rw [List.drop_zero, Nat.zero_add] at this
 exact this
theorem cnt_cuts (l1 : List S93) (s l : Int) : ∀ m k, cntC (cutsL l1 s l m k) = 0
 | 0, _ => rfl
 | m + 1, k => by
  simp only [cutsL]
  split
  ·
   rw [cntC_cons, cnt_cuts l1 s l m (k + 1)]; rfl
  ·
   exact cnt_cuts l1 s l m (k + 1)
theorem cnt_side (l1 : List S93) (s : Int) : ∀ m i p, cntC (sideL l1 s m i p) = if (i : Int) = p then m - 1 else m
 | 0, i, p => by simp [sideL, cntC]
 | m + 1, i, p => by
  have ih := cnt_side l1 s m (i + 1) (i : Int)
  simp only [sideL]
  rw [cntC_append, cntC_append, cnt_cuts, ih, if_neg (show ¬ ((i + 1 : Nat) : Int) = (i : Int) by omega)]
  by_cases h : (i : Int) = p
  ·
   rw [if_neg (by simpa using h), if_pos h, cntC_nil]; omega
  ·
   rw [if_pos (by simpa using h), if_neg h, cntC_cons, cntC_nil, if_pos rfl]; omega
theorem cnt_of (n0 : Nat) (l1 : List S93) (hn : 1 ≤ n0) (hs : sidB l1 1 = true ∨ sidB l1 2 = true) : cntC (ofL n0 l1) = if (sidB l1 1 && sidB l1 2) = true ∧ 1 < n0 then 2 * n0 else n0 := by
 unfold ofL ofA
 cases h1 : sidB l1 1 with
 | false =>
  have h2 : sidB l1 2 = true := by rcases hs with h | h <;> simp_all
  rw [h2, if_neg (show ¬ (false = true) by simp), if_neg (show ¬ (false = true) by simp), if_pos rfl, List.nil_append, cnt_side, if_neg (by omega), if_neg (by simp)]
 | true =>
  cases h2 : sidB l1 2 with
  | false => rw [if_pos rfl, if_neg (show ¬ (false = true) by simp), if_neg (show ¬ (false = true) by simp), List.append_nil, List.append_nil, cnt_side, if_neg (by omega), if_neg (by simp)]
  | true =>
   rw [if_pos rfl, if_pos rfl, if_pos rfl, if_pos rfl, cntC_append, cntC_append, cnt_side, cnt_side, if_neg (by omega), cntC_cons, cntC_nil, if_neg (by decide)]
   unfold endP
   rw [if_neg (show ¬ n0 = 0 by omega)]
   by_cases h : 1 < n0
   ·
    rw [if_neg (by omega), if_pos ⟨rfl, h⟩]; omega
   ·
    rw [if_pos (by omega), if_neg (fun x => h x.2)]; omega
theorem of_len (n0 : Nat) (l1 : List S93) (h0 : n0 ≤ 6) (h1 : l1.length ≤ 20) : (ofL n0 l1).length ≤ 300 := by
 have a := sideL_len l1 1 h1 n0 0 (-1)
 have b := sideL_len l1 2 h1 n0 0 (endP n0 (-1))
 have c := sideL_len l1 2 h1 n0 0 (-1)
 unfold ofL ofA
 cases sidB l1 1 <;> cases sidB l1 2 <;> simp <;> omega
theorem side_some {l1 : List S93} (hs : sides l1) (hn : 1 ≤ l1.length) : sidB l1 1 = true ∨ sidB l1 2 = true := by
 have e : (l1.getD 0 z93) ∈ l1 := getD_mem (by omega) _
 rcases hs 0 (by omega) with h | h
 ·
  exact .inl (List.any_eq_true.2 ⟨_, e, beq_iff_eq.2 h⟩)
 ·
  exact .inr (List.any_eq_true.2 ⟨_, e, beq_iff_eq.2 h⟩)

theorem rd101 {l : List S101} {i : Nat} (hi : i < l.length) : rd_T101 l (i : Int) = l[i] := by unfold rd_T101; rw [Int.toNat_natCast, List.getD_eq_getElem?_getD, List.getElem?_eq_getElem hi]; rfl
variable (m0 : List S94) (m1 : List S68) (a2 a3 : Int)
set_option linter.unusedSectionVars false
section
variable {R : List S101 × Int} (h1 : m1.length ≤ 22) (h0 : m0.length ≤ 8)
include h1 h0
end
end Go.Proofs.Ytalhpnfapagamaa.Plain
end
section
namespace Go.Proofs.Ytalhpnfapagamaa.Plain
open Go Go.RowKit Go.Proofs.Ytalhpnfapagamaa.S Go.Proofs.YtalhpnfapagamaaW.PrintWords Go.Proofs.YtalhpnfapagamaaW.PrintLast

def ofR (s : S101) : S62 := ⟨s.f0, s.f1, s.f2⟩
theorem own_l (l : List S101) (hl : l.length ≤ 1000000) : ∀ (d i : Nat), i + d = l.length → Ev (fun k => culetlaw49_own.l0 k ((l.take i).map ofR) l (l.length : Int) i) (l.map ofR)
 | 0, i, h => by
  obtain rfl : i = l.length := by omega
  refine Ev.step (f := fun _ => some (l.map ofR)) (fun k => ?_) (Ev.now _)
  simp only [culetlaw49_own.l0]; rw [if_neg (by omega), List.take_length]
 | d + 1, i, h => by
  have hi : i < l.length := by omega
  refine Ev.step (f := fun k => culetlaw49_own.l0 k ((l.take (i + 1)).map ofR) l (l.length : Int) ((i + 1 : Nat) : Int)) (fun k => ?_) (own_l l hl d (i + 1) (by omega))
  simp only [culetlaw49_own.l0]
  rw [if_pos (by omega), if_pos (by omega), if_pos (by omega), if_pos (by simp; omega), rd101 hi, wrap_nat (by omega)]
  congr 1
  rw [List.take_succ_eq_append_getElem hi, List.map_append]; rfl
theorem ownL_ev (l : List S101) (hl : l.length ≤ 1000000) : Ev (fun k => culetlaw49_own.f k l) (l.map ofR) :=
 Ev.congr (fun k => by unfold culetlaw49_own.f; rfl) (own_l l hl l.length 0 (by omega))

section
variable (l0 : List S92) (l1 : List S93) (a2 a3 : Int)
def fac (w : Nat) : Int := (l1.getD w z93).f2
def mnt (l : Nat) : Int := (l0.getD l z92).f2
def tmS (s : S62) : Int := if s.f0 = 1 then a2 else if s.f0 = 2 then a3 else fac l1 s.f2.toNat * mnt l0 s.f1.toNat
def tmL : List S62 → Int
 | [] => 0
 | s :: t => tmS l0 l1 a2 a3 s + tmL t
def ms : Nat → Int
 | 0 => 0
 | n + 1 => ms n + mnt l0 n
def ws (done : List Int) : Nat → Int
 | 0 => 0
 | m + 1 => ws done m + fac l1 m * ms l0 (done.getD m 0).toNat
def good (s : S62) : Prop := s.f0 = 1 ∨ s.f0 = 2 ∨ ((0 ≤ s.f2 ∧ s.f2 < (l1.length : Int)) ∧ (0 ≤ s.f1 ∧ s.f1 < (l0.length : Int)))
end
theorem ws_set (l0 : List S92) (l1 : List S93) (done : List Int) (w : Nat) (v : Int) (hw : w < done.length) : ∀ m, ws l0 l1 (done.set w v) m = ws l0 l1 done m + if w < m then fac l1 w * (ms l0 v.toNat - ms l0 (done.getD w 0).toNat) else 0
 | 0 => by simp [ws]
 | m + 1 => by
  have ih := ws_set l0 l1 done w v hw m
  simp only [ws]
  rw [ih, List.getD_eq_getElem?_getD (l := done.set w v), List.getElem?_set]
  by_cases h : w = m
  ·
   subst h
   rw [if_pos rfl, if_pos hw, if_neg (by omega), if_pos (by omega), Option.getD_some, Int.mul_sub]; omega
  ·
   rw [if_neg h, ← List.getD_eq_getElem?_getD]
   by_cases h2 : w < m
   ·
    rw [if_pos h2, if_pos (by omega)]; omega
   ·
    rw [if_neg h2, if_neg (by omega)]; omega
theorem ws_zero (l0 : List S92) (l1 : List S93) (n : Nat) : ∀ m, ws l0 l1 (List.replicate n 0) m = 0
 | 0 => rfl
 | m + 1 => by
  simp only [ws]
  rw [ws_zero l0 l1 n m, show ((List.replicate n (0 : Int)).getD m 0) = 0 by rw [List.getD_eq_getElem?_getD, List.getElem?_replicate]; split <;> rfl]
  simp [ms]
theorem ws_full (l0 : List S92) (l1 : List S93) (a b : List Int) : ∀ m, (∀ j, j < m → a.getD j 0 = b.getD j 0) → ws l0 l1 a m = ws l0 l1 b m
 | 0, _ => rfl
 | m + 1, h => by
  simp only [ws]
  rw [ws_full l0 l1 a b m (fun j hj => h j (by omega)), h m (by omega)]

def dAt (q : St) (j : Nat) : Int := q.2.1.getD j 0
/-- What holds of the machine behind c changes and the time t. -/
structure Inv (l0 : List S92) (l1 : List S93) (a2 a3 : Int) (c : Nat) (t : Int) (q : St) : Prop where
 len : q.2.1.length = l1.length
 rng : ∀ j, j < l1.length → 0 ≤ dAt q j ∧ dAt q j ≤ (l0.length : Int)
 lap : -1 ≤ q.1 ∧ q.1 < (l0.length : Int)
 mv : q.2.2 = true → sidB l1 1 = true ∧ sidB l1 2 = true
 cr : sidB l1 1 = true → sidB l1 2 = true → ∀ j, j < l1.length → sd l1 j = 2 → 0 < dAt q j → q.2.2 = true
 tm : t = c * a2 + (if q.2.2 = true then a3 else 0) + ws l0 l1 q.2.1 l1.length
 p1 : ∀ j, j < l1.length → dAt q j + (if q.1 = dAt q j then 1 else 0) ≤ c
 p1' : ∀ j, j < l1.length → dAt q j = (l0.length : Int) → (l0.length : Int) + (if q.1 = (l0.length : Int) - 1 then 0 else 1) ≤ c
 p2 : q.2.2 = true → 1 < l0.length → ∀ j, j < l1.length → sd l1 j = 2 → (l0.length : Int) + (dAt q j + (if q.1 = dAt q j then 1 else 0)) ≤ c
theorem inv_start (l0 : List S92) (l1 : List S93) (a2 a3 : Int) (h0 : 1 ≤ l0.length) : Inv l0 l1 a2 a3 0 0 (q0 l1) := by
 have e : ∀ j, dAt (q0 l1) j = 0 := fun j => by
  unfold dAt q0
  rw [List.getD_eq_getElem?_getD, List.getElem?_replicate]; split <;> rfl
 refine ⟨by simp [q0], fun j _ => by rw [e]; omega, by simp only [q0]; omega, fun h => by simp [q0] at h, fun _ _ j _ _ h => by rw [e] at h; omega, ?_, fun j _ => ?_, fun j _ h => ?_, fun h => by simp [q0] at h⟩
 ·
  simp only [q0]; rw [ws_zero]; simp
 ·
  rw [e, if_neg (by simp only [q0]; omega)]; omega
 ·
  rw [e] at h; omega
theorem fin_done {n0 : Nat} {l1 : List S93} {done : List Int} {side : Int} (h : finB n0 l1 done side = true) {j : Nat} (hj : j < l1.length) (hs : sd l1 j = side) : (n0 : Int) ≤ done.getD j 0 := by
 unfold finB at h
 rw [List.all_eq_true] at h
 have := h j (List.mem_range.2 hj)
 unfold finAt at this
 rw [show ((l1.getD j z93).f1 == side) = true from beq_iff_eq.2 hs, Bool.true_and, Bool.not_eq_true', decide_eq_false_iff_not] at this
 omega
theorem sid_ex {l1 : List S93} {q : Int} (h : sidB l1 q = true) : ∃ j, j < l1.length ∧ sd l1 j = q := by
 unfold sidB at h
 rw [List.any_eq_true] at h
 obtain ⟨x, hx, h⟩ := h
 obtain ⟨j, hj, rfl⟩ := List.getElem_of_mem hx
 exact ⟨j, hj, by unfold sd; rw [List.getD_eq_getElem?_getD, List.getElem?_eq_getElem hj]; exact beq_iff_eq.1 h⟩
theorem inv_step {l0 : List S92} {l1 : List S93} {a2 a3 : Int} {c : Nat} {t : Int} {q q' : St} {s : S62} (I : Inv l0 l1 a2 a3 c t q) (h : stepF l0.length l1 q.1 q.2.1 q.2.2 s = some q') :
  Inv l0 l1 a2 a3 (c + if s.f0 = 1 then 1 else 0) (t + tmS l0 l1 a2 a3 s) q' ∧ good l0 l1 s := by
 obtain ⟨lap, done, mv⟩ := q
 unfold stepF at h
 dsimp only at h
 by_cases k1 : s.f0 = 1
 ·
  -- a change
  rw [if_pos k1] at h
  split at h
  case isFalse => cases h
  case isTrue hc =>
  obtain rfl := Option.some.inj h
  simp only [Bool.and_eq_true, inB_iff, Bool.not_eq_true', beq_eq_false_iff_ne] at hc
  obtain ⟨_, hr, hne⟩ := hc
  refine ⟨?_, .inl k1⟩
  rw [if_pos k1]
  unfold tmS
  rw [if_pos k1]
  have p0 : ∀ j, j < l1.length → dAt (lap, done, mv) j ≤ (c : Int) := fun j hj => by have := I.p1 j hj; split at this <;> omega
  refine ⟨I.len, I.rng, by dsimp only; omega, I.mv, I.cr, ?_, fun j hj => ?_, fun j hj hd => ?_, fun hm hn j hj hs => ?_⟩
  ·
   have := I.tm
   dsimp only at this ⊢
   rw [this]; push_cast; rw [Int.add_mul, Int.one_mul]; omega
  ·
   have := p0 j hj
   change dAt (lap, done, mv) j + _ ≤ _
   split <;> (push_cast; omega)
  ·
   have := p0 j hj
   change dAt (lap, done, mv) j = _ at hd
   rw [hd] at this
   split <;> (push_cast; omega)
  ·
   have := I.p2 hm hn j hj hs
   change (l0.length : Int) + (dAt (lap, done, mv) j + _) ≤ _
   have h9 : (l0.length : Int) + dAt (lap, done, mv) j ≤ c := by split at this <;> omega
   split <;> (push_cast; omega)
 ·
  rw [if_neg k1] at h
  by_cases k2 : s.f0 = 2
  ·
   -- a transfer
   rw [if_pos k2] at h
   split at h
   case isFalse => cases h
   case isTrue hc =>
   obtain rfl := Option.some.inj h
   simp only [Bool.and_eq_true, Bool.not_eq_true'] at hc
   obtain ⟨_, _, hm0, h1, h2, hf⟩ := hc
   refine ⟨?_, .inr (.inl k2)⟩
   rw [if_neg k1]
   unfold tmS
   rw [if_neg k1, if_pos k2]
   refine ⟨I.len, I.rng, I.lap, fun _ => ⟨h1, h2⟩, fun _ _ _ _ _ _ => rfl, ?_, I.p1, I.p1', fun _ hn j hj hs => ?_⟩
   ·
    have := I.tm
    dsimp only at this ⊢
    rw [hm0, if_neg (by simp)] at this
    rw [this, if_pos rfl]
    simp only [Nat.add_zero]
    omega
   ·
    obtain ⟨w, hw, hws⟩ := sid_ex h1
    have hd := fin_done hf hw hws
    have hr := (I.rng w hw).2
    have h9 := I.p1' w hw (by unfold dAt at hr ⊢; dsimp only at hr ⊢; omega)
    have h0 : dAt (lap, done, mv) j = 0 := by
     have a := (I.rng j hj).1
     have b := I.cr h1 h2 j hj hs
     dsimp only at b
     rw [hm0] at b
     by_cases h : 0 < dAt (lap, done, mv) j
     ·
      exact absurd (b h) (by simp)
     ·
      omega
    change (l0.length : Int) + (dAt (lap, done, mv) j + (if lap = dAt (lap, done, mv) j then 1 else 0)) ≤ _
    rw [h0]
    dsimp only at h9
    simp only [Nat.add_zero]
    by_cases hl : lap = 0
    ·
     rw [if_pos hl]; rw [if_neg (by omega)] at h9; omega
    ·
     rw [if_neg hl]; split at h9 <;> omega
  ·
   rw [if_neg k2] at h
   by_cases k3 : s.f0 = 3
   ·
    -- a cut
    rw [if_pos k3] at h
    split at h
    case isFalse => cases h
    case isTrue hc =>
    obtain rfl := Option.some.inj h
    unfold cutB at hc
    simp only [Bool.and_eq_true, inB_iff, beq_iff_eq] at hc
    obtain ⟨hw, hl, hd, hb, _⟩ := hc
    obtain ⟨w, hw'⟩ := Int.eq_ofNat_of_zero_le hw.1
    have hwn : w < l1.length := by omega
    rw [hw'] at hd hb
    rw [rd_nat_] at hd
    have hX : (rd_T93 l1 (w : Int)).f1 = sd l1 w := by unfold rd_T93; rw [Int.toNat_natCast]; rfl
    rw [hX] at hb
    have hda : dAt (lap, done, mv) w = lap := by unfold dAt; dsimp only; rw [hd, hl]
    have hrw := I.rng w hwn
    rw [hda] at hrw
    have hlap := I.lap
    dsimp only at hlap
    have hwl : w < done.length := by have := I.len; dsimp only at this; omega
    have hset : ∀ j, (done.set w (lap + 1)).getD j 0 = if j = w then lap + 1 else done.getD j 0 := fun j => by
     rw [List.getD_eq_getElem?_getD, List.getElem?_set]
     by_cases h : w = j
     ·
      subst h; rw [if_pos rfl, if_pos hwl, if_pos rfl]; rfl
     ·
      rw [if_neg h, if_neg (fun e => h e.symm), ← List.getD_eq_getElem?_getD]
    have hdn : done.set s.f2.toNat (rd done s.f2 + 1) = done.set w (lap + 1) := by rw [hw', Int.toNat_natCast, rd_nat_, hd, hl]
    refine ⟨?_, .inr (.inr ⟨by rw [hw']; omega, by rw [hl]; omega⟩)⟩
    rw [if_neg k1]
    unfold tmS
    rw [if_neg k1, if_neg k2, hdn]
    have hp := I.p1 w hwn
    rw [hda, if_pos rfl] at hp
    have dA : ∀ j, dAt (lap, done.set w (lap + 1), mv) j = if j = w then lap + 1 else dAt (lap, done, mv) j := fun j => hset j
    refine ⟨by rw [List.length_set]; exact I.len, fun j hj => ?_, I.lap, I.mv, fun h1 h2 j hj hs hpos => ?_, ?_, fun j hj => ?_, fun j hj hdj => ?_, fun hm hn j hj hs => ?_⟩
    ·
     rw [dA]; split
     ·
      omega
     ·
      exact I.rng j hj
    ·
     rw [dA] at hpos
     by_cases e : j = w
     ·
      subst e
      rw [h1, h2, hs] at hb
      simpa using hb
     ·
      rw [if_neg e] at hpos
      exact I.cr h1 h2 j hj hs hpos
    ·
     have := I.tm
     dsimp only at this ⊢
     rw [this, ws_set l0 l1 done w (lap + 1) hwl, if_pos hwn, hd, hl, hw', Int.toNat_natCast]
     obtain ⟨n, hn⟩ := Int.eq_ofNat_of_zero_le hrw.1
     rw [hn, show ((n : Int) + 1).toNat = n + 1 by omega, Int.toNat_natCast]
     simp only [ms, Nat.add_zero]
     rw [show ms l0 n + mnt l0 n - ms l0 n = mnt l0 n by omega]
     omega
    ·
     rw [dA]
     by_cases e : j = w
     ·
      rw [if_pos e, if_neg (by omega)]; simp only [Nat.add_zero]; omega
     ·
      rw [if_neg e]; exact I.p1 j hj
    ·
     rw [dA] at hdj
     by_cases e : j = w
     ·
      rw [if_pos e] at hdj
      rw [if_pos (by dsimp only; omega)]; simp only [Nat.add_zero]; omega
     ·
      rw [if_neg e] at hdj; exact I.p1' j hj hdj
    ·
     rw [dA]
     by_cases e : j = w
     ·
      subst e
      have := I.p2 hm hn j hj hs
      rw [hda, if_pos rfl] at this
      rw [if_pos rfl, if_neg (by omega)]; simp only [Nat.add_zero]; omega
     ·
      rw [if_neg e]; exact I.p2 hm hn j hj hs
   ·
    rw [if_neg k3] at h; cases h
theorem inv_run {l0 : List S92} {l1 : List S93} {a2 a3 : Int} : ∀ {l : List S62} {c : Nat} {t : Int} {q q' : St}, Inv l0 l1 a2 a3 c t q → runL l0.length l1 l q = some q' → Inv l0 l1 a2 a3 (c + cntC l) (t + tmL l0 l1 a2 a3 l) q' ∧ ∀ s ∈ l, good l0 l1 s
 | [], c, t, q, q', I, h => by
  obtain rfl := Option.some.inj h
  simp only [tmL, cntC_nil, Nat.add_zero, Int.add_zero]
  exact ⟨I, fun _ h => by cases h⟩
 | s :: l, c, t, q, q', I, h => by
  simp only [runL] at h
  obtain ⟨q1, h1, h2⟩ := Option.bind_eq_some_iff.mp h
  obtain ⟨I1, g⟩ := inv_step I h1
  obtain ⟨I2, gs⟩ := inv_run I1 h2
  refine ⟨?_, fun x hx => ?_⟩
  ·
   rw [cntC_cons]
   simp only [tmL]
   rw [← Nat.add_assoc, ← Int.add_assoc]
   exact I2
  ·
   rcases List.mem_cons.1 hx with rfl | hx
   ·
    exact g
   ·
    exact gs x hx
theorem permitted {l0 : List S92} {l1 : List S93} {a2 a3 : Int} {l : List S62} {q : St} (h0 : 1 ≤ l0.length) (hs : sides l1) (hn : 1 ≤ l1.length) (h : runL l0.length l1 l (q0 l1) = some q) (f1 : finB l0.length l1 q.2.1 1 = true) (f2 : finB l0.length l1 q.2.1 2 = true) :
  tmL l0 l1 a2 a3 l = (cntC l : Int) * a2 + (if (sidB l1 1 && sidB l1 2) = true then a3 else 0) + ws l0 l1 (List.replicate l1.length (l0.length : Int)) l1.length ∧ cntC (ofL l0.length l1) ≤ cntC l ∧ ∀ s ∈ l, good l0 l1 s := by
 obtain ⟨I, g⟩ := inv_run (inv_start l0 l1 a2 a3 h0) h
 rw [Nat.zero_add, Int.zero_add] at I
 have full : ∀ j, j < l1.length → dAt q j = (l0.length : Int) := fun j hj => by
  have a := (I.rng j hj).2
  have b : (l0.length : Int) ≤ q.2.1.getD j 0 := by
   rcases hs j hj with h | h
   ·
    exact fin_done f1 hj h
   ·
    exact fin_done f2 hj h
  unfold dAt at a ⊢; omega
 have hw : ws l0 l1 q.2.1 l1.length = ws l0 l1 (List.replicate l1.length (l0.length : Int)) l1.length := ws_full l0 l1 _ _ _ (fun j hj => by
  rw [show q.2.1.getD j 0 = (l0.length : Int) from full j hj, List.getD_eq_getElem?_getD, List.getElem?_replicate, if_pos hj]; rfl)
 have hmv : q.2.2 = (sidB l1 1 && sidB l1 2) := by
  rw [Bool.eq_iff_iff, Bool.and_eq_true]
  refine ⟨I.mv, fun hb => ?_⟩
  obtain ⟨j, hj, hsj⟩ := sid_ex hb.2
  exact I.cr hb.1 hb.2 j hj hsj (by rw [full j hj]; omega)
 refine ⟨by rw [I.tm, hw, hmv], ?_, g⟩
 rw [cnt_of _ _ h0 (side_some hs hn)]
 split
 case isTrue hb =>
  obtain ⟨j, hj, hsj⟩ := sid_ex (Bool.and_eq_true_iff.1 hb.1).2
  have := I.p2 (by rw [hmv]; exact hb.1) hb.2 j hj hsj
  rw [full j hj] at this
  split at this <;> omega
 case isFalse =>
  have := I.p1 0 (by omega)
  rw [full 0 (by omega)] at this
  split at this <;> omega
theorem permitted_chk {l0 : List S92} {l1 : List S93} {a2 a3 : Int} {l : List S62} (h0 : 1 ≤ l0.length) (hs : sides l1) (hn : 1 ≤ l1.length) (h : (chk l0.length l1 l).2 = 0) :
  tmL l0 l1 a2 a3 l = (cntC l : Int) * a2 + (if (sidB l1 1 && sidB l1 2) = true then a3 else 0) + ws l0 l1 (List.replicate l1.length (l0.length : Int)) l1.length ∧ cntC (ofL l0.length l1) ≤ cntC l ∧ ∀ s ∈ l, good l0 l1 s := by
 obtain ⟨q, hq, f1, f2, _⟩ := chk_ok h
 exact permitted h0 hs hn hq f1 f2

theorem tmS_le {l0 : List S92} {l1 : List S93} {a2 a3 : Int} (hv : validB l0 l1 a2 a3 = true) {s : S62} (g : good l0 l1 s) : 0 ≤ tmS l0 l1 a2 a3 s ∧ tmS l0 l1 a2 a3 s ≤ 4800 := by
 obtain ⟨_, _, v2, v3, _, v5, v6⟩ := valid_use hv
 unfold tmS
 split
 ·
  omega
 ·
  split
  ·
   omega
  ·
   rcases g with g | g | g
   ·
    contradiction
   ·
    contradiction
   ·
    have a := v5 s.f2.toNat (by omega)
    have b := v6 s.f1.toNat (by omega)
    unfold fac mnt
    refine ⟨Int.mul_nonneg (by omega) (by omega), ?_⟩
    have := Int.mul_le_mul a.2 b.2 (by omega) (by omega : (0 : Int) ≤ 48)
    omega
set_option maxRecDepth 100000 in
theorem time_l {l0 : List S92} {l1 : List S93} {a2 a3 : Int} (hv : validB l0 l1 a2 a3 = true) (l : List S62) (hl : l.length ≤ 300) (g : ∀ s ∈ l, good l0 l1 s) : ∀ (d i : Nat) (t : Int), i + d = l.length → 0 ≤ t → t ≤ i * 4800 →
  Ev (fun k => steps_Time.l0 k t l (l.length : Int) i l0 l1 a2 a3) (t + tmL l0 l1 a2 a3 (l.drop i), 0)
 | 0, i, t, h, h1, h2 => by
  obtain rfl : i = l.length := by omega
  refine Ev.step (f := fun _ => some (t, 0)) (fun k => ?_) (by simpa [tmL] using Ev.now _)
  simp only [steps_Time.l0]; rw [if_neg (by omega)]
 | d + 1, i, t, h, h1, h2 => by
  have hi : i < l.length := by omega
  have gi := g l[i] (List.getElem_mem hi)
  have hle := tmS_le hv gi
  have ih := time_l hv l hl g d (i + 1) (t + tmS l0 l1 a2 a3 l[i]) (by omega) (by omega) (by push_cast; omega)
  rw [List.drop_eq_getElem_cons hi]
  simp only [tmL]
  rw [← Int.add_assoc]
  refine Ev.step (fun k => ?_) ih
  simp only [steps_Time.l0]
  rw [if_pos (by omega), if_pos (by omega), if_pos (by omega), rd62 hi, wrap_nat (by omega)]
  have wr : ∀ x : Int, 0 ≤ x → x ≤ 2000000 → wrap64 x = x := fun x a b => by unfold wrap64; omega
  unfold tmS at hle ⊢
  by_cases k1 : l[i].f0 = 1
  ·
   rw [if_pos k1] at hle
   rw [if_pos k1, if_pos k1, wr _ (by omega) (by omega)]
  ·
   rw [if_neg k1] at hle
   rw [if_neg k1, if_neg k1]
   by_cases k2 : l[i].f0 = 2
   ·
    rw [if_pos k2] at hle
    rw [if_pos k2, if_pos k2, wr _ (by omega) (by omega)]
   ·
    rw [if_neg k2] at hle
    rw [if_neg k2, if_neg k2]
    rcases gi with gi | gi | gi
    ·
     contradiction
    ·
     contradiction
    ·
     have ew : (rd_T93 l1 l[i].f2).f2 = fac l1 l[i].f2.toNat := rfl
     have em : (rd_T92 l0 l[i].f1).f2 = mnt l0 l[i].f1.toNat := rfl
     rw [if_pos gi.1.1, if_pos gi.1.2, if_pos gi.2.1, if_pos gi.2.2, ew, em, wr (fac l1 _ * mnt l0 _) (by omega) (by omega), wr _ (by omega) (by omega)]
theorem time_ev (l0 : List S92) (l1 : List S93) (a2 a3 : Int) (l : List S62) (h0 : ∀ x ∈ l0, x.f0.size ≤ 40) (hs : ∀ x ∈ l1, x.f0.size ≤ 40) (hl : l.length ≤ 300) : Ev (fun k => steps_Time.f k l0 l1 a2 a3 l) (if validB l0 l1 a2 a3 = true then (if (chk l0.length l1 l).2 = 0 then (tmL l0 l1 a2 a3 l, 0) else (0, (chk l0.length l1 l).2)) else (0, 1)) := by
 have hc := check_ev l0 l1 a2 a3 l h0 hs (by omega)
 refine Ev.congr (fun k => by unfold steps_Time.f; rfl) (Ev.bind hc ?_)
 cases hv : validB l0 l1 a2 a3 with
 | false => exact Ev.congr (f := fun _ => some (0, 1)) (fun k => rfl) (Ev.now _)
 | true =>
  rw [if_pos rfl, if_pos rfl]
  by_cases hz : (chk l0.length l1 l).2 = 0
  ·
   rw [if_pos hz]
   obtain ⟨v0, v1, _, _, v4, _⟩ := valid_use hv
   obtain ⟨_, _, g⟩ := permitted_chk (a2 := a2) (a3 := a3) v0.1 v4 v1.1 hz
   have := time_l hv l hl g l.length 0 0 (by omega) (by omega) (by omega)
   rw [List.drop_zero, Int.zero_add] at this
   exact Ev.congr (fun k => by rw [if_pos hz]; rfl) this
  ·
   rw [if_neg hz]
   exact Ev.congr (f := fun _ => some (0, (chk l0.length l1 l).2)) (fun k => by rw [if_neg hz]) (Ev.now _)
end Go.Proofs.Ytalhpnfapagamaa.Plain
end
