-- Written by this session's own programs; what the law does not lean on is left out. Lean checks it.
import Derived.Test.YthjmbagkomnpgaaDoorJS
import Derived.Test.YthjmbagkomnpgaaDoorJLx16
import Derived.Test.YthjmbagkomnpgaaDoorJLx17
import Derived.Test.YthjmbagkomnpgaaDoorJR
import Derived.Test.YthjmbagkomnpgaaDoorJLx20
import Derived.Test.YthjmbagkomnpgaaDoorJLx29
import Derived.Test.YthjmbagkomnpgaaDoorJLx35
import Derived.Test.YthjmbagkomnpgaaDoorJLx36
import Derived.Test.YthjmbagkomnpgaaDoorJLx37
import Derived.Test.YthjmbagkomnpgaaDoorJDr
namespace Go.Proofs.YthjmbagkomnpgaaDoor.L
open Go.RowKit Go.Proofs.YthjmbagkomnpgaaDoorW.PrintWords Go.Proofs.YthjmbagkomnpgaaDoorW.PrintLast Go.Proofs.YthjmbagkomnpgaaDoorW.PrintMore Go.Proofs.YthjmbagkomnpgaaDoorD Go.Proofs.YthjmbagkomnpgaaDoorD
set_option linter.unusedVariables false
set_option linter.unusedSimpArgs false

mutual
def culetlaw13_LexerJoin.j0 : Nat → List (S40) → ByteArray → Bool → Option (Bool)
 | 0, _, _, _ => none
 | k + 1, x0, x1, x23 => if x23 = true then (some true) else (culetlaw13_LexerJoin.l0 k x0 x1 (x0.length : Int) 0)
def culetlaw13_LexerJoin.l0 : Nat → List (S40) → ByteArray → Int → Int → Option (Bool)
 | 0, _, _, _, _ => none
 | k + 1, x0, x1, x25, x26 => if x26 < x25 then (if 0 ≤ x26 then (if x26 < (x0.length : Int) then (if (((rd_T40 x0 x26).f1).size : Int) > 40 then (some true) else (culetlaw13_LexerJoin.l0 k x0 x1 x25 (wrap64 (x26 + 1)))) else (none)) else (none)) else (culetlaw13_LexerJoin.l1 k x0 x1 (x0.length : Int) 0)
def culetlaw13_LexerJoin.l1 : Nat → List (S40) → ByteArray → Int → Int → Option (Bool)
 | 0, _, _, _, _ => none
 | k + 1, x0, x1, x38, x39 => if x39 < x38 then (if 0 ≤ x39 then (if x39 < (x0.length : Int) then ((lexer_Source.f ((rd_T40 x0 x39).f0) ((rd_T40 x0 x39).f1) ((rd_T40 x0 x39).f2) ((rd_T40 x0 x39).f3)).bind fun t224 => ((culetref13_Source.f ((rd_T40 x0 x39).f0) ((rd_T40 x0 x39).f1) ((rd_T40 x0 x39).f2) ((rd_T40 x0 x39).f3)).bind fun t226 => (if t224.toList = t226.toList then (if x39 > 0 then (if 0 ≤ (wrap64 (x39 - 1)) then (if (wrap64 (x39 - 1)) < (x0.length : Int) then ((lexer_Apart.f k ((rd_T40 x0 (wrap64 (x39 - 1))).f0) ((rd_T40 x0 (wrap64 (x39 - 1))).f1) ((rd_T40 x0 (wrap64 (x39 - 1))).f2) ((rd_T40 x0 (wrap64 (x39 - 1))).f3) ((rd_T40 x0 x39).f0) ((rd_T40 x0 x39).f1) ((rd_T40 x0 x39).f2) ((rd_T40 x0 x39).f3)).bind fun t229 => ((culetref13_Apart.f k ((rd_T40 x0 (wrap64 (x39 - 1))).f0) ((rd_T40 x0 (wrap64 (x39 - 1))).f1) ((rd_T40 x0 (wrap64 (x39 - 1))).f2) ((rd_T40 x0 (wrap64 (x39 - 1))).f3) ((rd_T40 x0 x39).f0) ((rd_T40 x0 x39).f1) ((rd_T40 x0 x39).f2) ((rd_T40 x0 x39).f3)).bind fun t232 => (if (t229 != t232) = true then (some false) else (culetlaw13_LexerJoin.l1 k x0 x1 x38 (wrap64 (x39 + 1)))))) else (none)) else (none)) else (culetlaw13_LexerJoin.l1 k x0 x1 x38 (wrap64 (x39 + 1)))) else (some false)))) else (none)) else (none)) else ((culetlaw13_own.f k x0).bind fun t233 => ((lexer_Join.f k t233).bind fun t236 => ((culetref13_Join.f k x0).bind fun t237 => (if t236.toList = t237.toList then ((lexer_Lex.f k x1).bind fun bt238 => (if bt238.2.2 = 0 then ((lexer_Join.f k bt238.1).bind fun t243 => ((lexer_Lex.f k t243).bind fun bt244 => (if bt244.2.2 = 0 then (culetlaw13_LexerJoin.j3 k bt238.1 bt244.1 ((bt244.1.length : Int) != (bt238.1.length : Int))) else (culetlaw13_LexerJoin.j3 k bt238.1 bt244.1 true)))) else (some true))) else (some false)))))
def culetlaw13_LexerJoin.j3 : Nat → List (S38) → List (S38) → Bool → Option (Bool)
 | 0, _, _, _ => none
 | k + 1, x7, x10, x110 => if x110 = true then (some false) else (culetlaw13_LexerJoin.l2 k x7 x10 (x7.length : Int) 0)
def culetlaw13_LexerJoin.l2 : Nat → List (S38) → List (S38) → Int → Int → Option (Bool)
 | 0, _, _, _, _ => none
 | k + 1, x7, x10, x112, x113 => if x113 < x112 then (if 0 ≤ x113 then (if x113 < (x7.length : Int) then (if x113 < (x10.length : Int) then (if ((rd_T38 x7 x113).f0) = ((rd_T38 x10 x113).f0) then (if ((rd_T38 x7 x113).f1).toList = ((rd_T38 x10 x113).f1).toList then (culetlaw13_LexerJoin.l2 k x7 x10 x112 (wrap64 (x113 + 1))) else (some false)) else (some false)) else (none)) else (none)) else (none)) else (some true)
end
def culetlaw13_LexerJoin.f (k : Nat) (l0 : List (S40)) (a1 : ByteArray) : Option (Bool) := (culetlaw13_awake.f k).bind fun t221 => (if t221 = true then (if (l0.length : Int) > 20 then (culetlaw13_LexerJoin.j0 k l0 a1 true) else (culetlaw13_LexerJoin.j0 k l0 a1 (decide ((a1.size : Int) > 400)))) else (some false))
def culetlaw13_LexerJoin.T14 : Bool × List (List Nat × List Nat) := (true, [([], []), ([], []), ([0, 1], [0, 1]), ([2], [2]), ([3], [3]), ([], []), ([], []), ([5, 6], [5, 6]), ([7], [7]), ([8, 4], [8]), ([4, 9], [4, 9]), ([10, 9], [10]), ([11], [11]), ([12, 11], [11, 12]), ([13, 11, 11], [11, 13]), ([14], [14]), ([14], [14]), ([16, 14], [14, 16]), ([15, 17, 14], [14, 15, 17]), ([18, 14], [14, 18]), ([14], [14]), ([14], [14]), ([20, 21, 14], [14, 20, 21]), ([22, 14], [14, 22]), ([19, 23, 14, 14], [14, 19, 23]), ([14], [14]), ([14], [14]), ([26, 14], [14, 26]), ([25, 27, 14], [14, 25, 27]), ([28, 14], [14, 28]), ([14], [14]), ([14], [14]), ([30, 31, 14], [14, 30, 31]), ([32, 14], [14, 32]), ([29, 33, 24, 14], [14, 29, 33]), ([24, 34, 14], [14, 24, 34]), ([14, 35, 11], [11, 14, 35]), ([11, 36], [11, 36])])
def culetlaw13_LexerJoin.B14 : List Nat := [0, 0, 3, 7, 15, 0, 0, 96, 224, 511, 1023, 2047, 4095, 8191, 16383, 32767, 32767, 98303, 262143, 524287, 32767, 32767, 3178495, 7372799, 16777215, 32767, 32767, 67141631, 234913791, 503349247, 32767, 32767, 3221258239, 7516225535, 17179869183, 34359738367, 68719476735, 137438953471]
theorem culetlaw13_LexerJoin.tab14 : rtab .any (opsOf Tryd.f9 14) = culetlaw13_LexerJoin.T14 := by kernel_rfl
theorem culetlaw13_LexerJoin.bits14 : waitsOk culetlaw13_LexerJoin.T14.2 culetlaw13_LexerJoin.B14 = true := by kernel_rfl
def culetlaw13_LexerJoin.T28 : Bool × List (List Nat × List Nat) := (true, [([], []), ([], []), ([0, 1], [0, 1]), ([2], [2]), ([3], [3]), ([], []), ([], []), ([5, 6], [5, 6]), ([7], [7]), ([8], [8]), ([4, 9], [4, 9]), ([10], [10]), ([11], [11]), ([11], [11]), ([12, 13, 11], [11, 12, 13]), ([14, 11], [11, 14]), ([15, 11], [11, 15]), ([11], [11]), ([11], [11]), ([17, 18, 11], [11, 17, 18]), ([19, 11], [11, 19]), ([20, 11], [11, 20]), ([16, 21, 11], [11, 16, 21]), ([11, 22], [11, 22])])
def culetlaw13_LexerJoin.B28 : List Nat := [0, 0, 3, 7, 15, 0, 0, 96, 224, 480, 1023, 2047, 4095, 4095, 16383, 32767, 65535, 4095, 4095, 397311, 921599, 1970175, 4194303, 8388607]
theorem culetlaw13_LexerJoin.tab28 : rtab .any (opsOf Tryd.f9 28) = culetlaw13_LexerJoin.T28 := by kernel_rfl
theorem culetlaw13_LexerJoin.bits28 : waitsOk culetlaw13_LexerJoin.T28.2 culetlaw13_LexerJoin.B28 = true := by kernel_rfl
set_option maxHeartbeats 8000000 in
set_option maxRecDepth 100000 in
theorem culetlaw13_LexerJoin.calls (k : Nat) (A0 : Option Addr) (c0 : Nat) (l0 : List (S40)) (a1 : ByteArray) (r : Bool) (w : World) (hr0 : Kd.C k40 w A0 l0.length l0) (hc0 : l0.length ≤ c0) (h : culetlaw13_LexerJoin.f k l0 a1 = some r) :
  Calls Tryd.prog 9 #[.slice A0 l0.length c0, .string a1] w fun e w' => e = .returned (.bool r) ∧ Below w.heap.size w w' := by
 have hu40 := Tryd.underlying40
 have HR0 := am_ hr0
 have HC0 := am_ hc0
 clear hr0 hc0
 have HB := am_ (Below.refl w.heap.size w)
 have H : ((culetlaw13_awake.f k).bind fun t221 => (if t221 = true then (if (l0.length : Int) > 20 then (culetlaw13_LexerJoin.j0 k l0 a1 true) else (culetlaw13_LexerJoin.j0 k l0 a1 (decide ((a1.size : Int) > 400)))) else (some false))) = some r := h
 clear h
 replace H := Option.bind_eq_some_iff.mp H
 obtain ⟨t221, A30, H⟩ := H
 replace H : (if t221 = true then (if (l0.length : Int) > 20 then (culetlaw13_LexerJoin.j0 k l0 a1 true) else (culetlaw13_LexerJoin.j0 k l0 a1 (decide ((a1.size : Int) > 400)))) else (some false)) = some r := H
 have A3 := am_ A30
 clear A30
 by_cases c4 : t221 = true
 ·
  subst c4
  have H1 : (if (l0.length : Int) > 20 then (culetlaw13_LexerJoin.j0 k l0 a1 true) else (culetlaw13_LexerJoin.j0 k l0 a1 (decide ((a1.size : Int) > 400)))) = some r := by rw [if_pos rfl] at H; exact H
  clear H
  have H := H1
  clear H1
  have HC5 := am_ H
  clear H
  go_enter Tryd.func9, Tryd.ntmps9
  go_upto_region 3 with (first | ((with_reducible refine gate_callee (f := 10) rfl ?_); refine goesL_ (some 14) rfl rfl Tryd.func10 (by kernel_rfl) rfl #[] rfl (by (try simp only [List.map_toArray, List.map_cons, List.map_nil]); first | done | rfl | (simp only [List.length_drop, List.length_take]; rfl)) ?_; (with_reducible refine (culetlaw13_awake.calls k  true _ A3.out).mono ?_); rintro e w6 ⟨rfl, hb⟩; refine ⟨_, rfl, ?_⟩; have n0_ := am_ (below_step (mb_ HB.out) hb); clear HB; have HB := n0_; clear n0_; (try clear hb); (try clear hb2); (try clear hk); (try clear hi)))
  (try simp only [Act.put, List.setIfInBounds_toArray, List.set_cons_zero, List.set_cons_succ])
  go_cut [23] (fun v23 wc => ∃ (kq : Nat) (x23_4 : Bool), v23 = .bool x23_4 ∧ Aside0 (culetlaw13_LexerJoin.j0 kq l0 a1 x23_4 = some r) ∧ Aside0 (kq ≤ k) ∧ Aside0 (Below w.heap.size w wc))
  case first =>
   have H := HC5.out
   clear HC5
   by_cases c7 : (l0.length : Int) > 20
   ·
    rw [if_pos c7] at H
    have c7b0 : decide (20 < (l0.length : Int)) = true := decide_eq_true c7
    have c7b1 : decide (20 < l0.length) = true := decide_eq_true (by omega)
    clear c7
    (first | rw [c7b0] | (simp only [i64_w, i32_w]; rw [c7b0]) | skip)
    have H' := am_ H
    clear H
    go_wp2
    go_meet
    case rel => exact ⟨_, (true), (by first | rfl | (simp; done) | (simp [*]; done)), H', ⟨by first | omega | exact Nat.le_refl _⟩, ⟨mb_ HB.out⟩⟩
   ·
    rw [if_neg c7] at H
    have c7b0 : decide (20 < (l0.length : Int)) = false := decide_eq_false c7
    have c7b1 : decide (20 < l0.length) = false := decide_eq_false (by omega)
    clear c7
    (first | rw [c7b0] | (simp only [i64_w, i32_w]; rw [c7b0]) | skip)
    have H' := am_ H
    clear H
    go_wp2
    go_meet
    case rel => exact ⟨_, (decide ((a1.size : Int) > 400)), (by first | rfl | (simp; done) | (simp [*]; done)), H', ⟨by first | omega | exact Nat.le_refl _⟩, ⟨mb_ HB.out⟩⟩
  case rest =>
   clear HC5
   try clear c1
   try clear p2
   try clear c4
   try clear c7
   try clear c7b0
   try clear c7b1
   obtain ⟨kq, x23_4, rfl, HA, HJ4, HB⟩ := hcut
   cases kq with
   | zero => exact absurd HA.out (by simp [culetlaw13_LexerJoin.j0])
   | succ kj4 =>
    have H := HA.out
    clear HA
    simp only [culetlaw13_LexerJoin.j0] at H
    by_cases c8 : x23_4 = true
    ·
     subst c8
     have H1 : (some true) = some r := by rw [if_pos rfl] at H; exact H
     clear H
     have H := H1
     clear H1
     obtain rfl := Option.some.inj H
     go_wp2
     go_ret
     exact ⟨by first | rfl | (simp [errW_none, errW_some] <;> rfl) | (simp [*, errW_none, errW_some] <;> rfl), mb_ HB.out⟩
    ·
     replace c8 := Bool.eq_false_iff.mpr c8
     subst c8
     have H1 : (culetlaw13_LexerJoin.l0 kj4 l0 a1 (l0.length : Int) 0) = some r := by rw [if_neg (show ¬ (false = true) by decide)] at H; exact H
     clear H
     have H := H1
     clear H1
     have H' := am_ H
     clear H
     go_wp2
     go_loopg [26] kj4 (fun kq v26 w' => ∃ (x26_2 : Int), v26 = .int .i64 x26_2 ∧ Aside0 (culetlaw13_LexerJoin.l0 kq l0 a1 (l0.length : Int) x26_2 = some r) ∧ Aside0 (kq ≤ kj4) ∧ Aside0 (Below w.heap.size w w'))
     case atStart => exact ⟨(0), (by first | rfl | (simp; done) | (simp [*]; done)), H', ⟨Nat.le_refl _⟩, ⟨mb_ HB.out⟩⟩
     case round =>
      clear H'
      try clear c1
      try clear p2
      try clear c4
      try clear c7
      try clear c7b0
      try clear c7b1
      try clear c8
      try clear p2
      obtain ⟨x26_2, rfl, HA, HK2, HB⟩ := hrel
      cases gk with
      | zero => exact absurd HA.out (by simp [culetlaw13_LexerJoin.l0])
      | succ k2 =>
       have H := HA.out
       clear HA
       simp only [culetlaw13_LexerJoin.l0] at H
       by_cases c9 : x26_2 < (l0.length : Int)
       ·
        rw [if_pos c9] at H
        have c9b0 : decide (x26_2 < (l0.length : Int)) = true := decide_eq_true c9
        clear c9
        by_cases c10 : 0 ≤ x26_2
        ·
         rw [if_pos c10] at H
         have c10b0 : decide (0 ≤ x26_2) = true := decide_eq_true c10
         clear c10
         by_cases c11 : x26_2 < (l0.length : Int)
         ·
          rw [if_pos c11] at H
          have c11b0 : decide (x26_2 < (l0.length : Int)) = true := decide_eq_true c11
          clear c11
          by_cases c12 : (((rd_T40 l0 x26_2).f1).size : Int) > 40
          ·
           rw [if_pos c12] at H
           have c12b0 : decide (40 < (((rd_T40 l0 x26_2).f1).size : Int)) = true := decide_eq_true c12
           have c12b1 : decide (40 < ((rd_T40 l0 x26_2).f1).size) = true := decide_eq_true (by omega)
           clear c12
           obtain rfl := Option.some.inj H
           have p222 : 0 ≤ (x26_2 : Int) := of_decide_eq_true (by first | (with_reducible assumption) | assumption)
           have q222 : x26_2 < (l0.length : Int) := of_decide_eq_true (by first | (with_reducible assumption) | assumption)
           obtain ⟨ad222, e222, hx222_0, hx222_1, hx222_2, hx222_3⟩ := at_T40 HR0.out x26_2 p222 q222
           cases e222
           replace hx222_0 := (HB.out.cell (World.block_lt_of_cell? w _ hx222_0)).trans hx222_0
           replace hx222_1 := (HB.out.cell (World.block_lt_of_cell? w _ hx222_1)).trans hx222_1
           replace hx222_2 := (HB.out.cell (World.block_lt_of_cell? w _ hx222_2)).trans hx222_2
           replace hx222_3 := (HB.out.cell (World.block_lt_of_cell? w _ hx222_3)).trans hx222_3
           replace p222 := eq_true p222
           replace q222 := eq_true q222
           go_wp2
           go_ret
           exact ⟨by first | rfl | (simp [errW_none, errW_some] <;> rfl) | (simp [*, errW_none, errW_some] <;> rfl), mb_ HB.out⟩
          ·
           rw [if_neg c12] at H
           have c12b0 : decide (40 < (((rd_T40 l0 x26_2).f1).size : Int)) = false := decide_eq_false c12
           have c12b1 : decide (40 < ((rd_T40 l0 x26_2).f1).size) = false := decide_eq_false (by omega)
           clear c12
           have H' := am_ H
           clear H
           have p222 : 0 ≤ (x26_2 : Int) := of_decide_eq_true (by first | (with_reducible assumption) | assumption)
           have q222 : x26_2 < (l0.length : Int) := of_decide_eq_true (by first | (with_reducible assumption) | assumption)
           obtain ⟨ad222, e222, hx222_0, hx222_1, hx222_2, hx222_3⟩ := at_T40 HR0.out x26_2 p222 q222
           cases e222
           replace hx222_0 := (HB.out.cell (World.block_lt_of_cell? w _ hx222_0)).trans hx222_0
           replace hx222_1 := (HB.out.cell (World.block_lt_of_cell? w _ hx222_1)).trans hx222_1
           replace hx222_2 := (HB.out.cell (World.block_lt_of_cell? w _ hx222_2)).trans hx222_2
           replace hx222_3 := (HB.out.cell (World.block_lt_of_cell? w _ hx222_3)).trans hx222_3
           replace p222 := eq_true p222
           replace q222 := eq_true q222
           go_wp2
           go_roundg k2
           case measure => have := HJ4.out; have := HK2.out; omega
           case rel => exact ⟨(wrap64 (x26_2 + 1)), (by first | rfl | (simp; done) | (simp [*]; done)), H', ⟨by have := HJ4.out; have := HK2.out; omega⟩, ⟨mb_ HB.out⟩⟩
         ·
          rw [if_neg c11] at H
          exact absurd H (by simp)
        ·
         rw [if_neg c10] at H
         exact absurd H (by simp)
       ·
        rw [if_neg c9] at H
        have c9b0 : decide (x26_2 < (l0.length : Int)) = false := decide_eq_false c9
        clear c9
        have H' := am_ H
        clear H
        go_wp2
        go_loopg [39] k2 (fun kq v39 w' => ∃ (x39_3 : Int), v39 = .int .i64 x39_3 ∧ Aside0 (culetlaw13_LexerJoin.l1 kq l0 a1 (l0.length : Int) x39_3 = some r) ∧ Aside0 (kq ≤ k2) ∧ Aside0 (Below w.heap.size w w'))
        case atStart => exact ⟨(0), (by first | rfl | (simp; done) | (simp [*]; done)), H', ⟨Nat.le_refl _⟩, ⟨mb_ HB.out⟩⟩
        case round =>
         clear H'
         try clear c1
         try clear p2
         try clear q2
         try clear hx2
         try clear c4
         try clear p6
         try clear c7
         try clear c7b0
         try clear c7b1
         try clear c8
         try clear c9
         try clear c9b0
         try clear c10
         try clear c10b0
         try clear c11
         try clear c11b0
         try clear c12
         try clear c12b0
         try clear c12b1
         try clear hx222_0
         try clear hx222_1
         try clear hx222_2
         try clear hx222_3
         try clear p2
         try clear p222
         try clear q222
         obtain ⟨x39_3, rfl, HA, HK3, HB⟩ := hrel
         cases gk with
         | zero => exact absurd HA.out (by simp [culetlaw13_LexerJoin.l1])
         | succ k3 =>
          have H := HA.out
          clear HA
          simp only [culetlaw13_LexerJoin.l1] at H
          by_cases c13 : x39_3 < (l0.length : Int)
          ·
           rw [if_pos c13] at H
           have c13b0 : decide (x39_3 < (l0.length : Int)) = true := decide_eq_true c13
           clear c13
           by_cases c14 : 0 ≤ x39_3
           ·
            rw [if_pos c14] at H
            have c14b0 : decide (0 ≤ x39_3) = true := decide_eq_true c14
            clear c14
            by_cases c15 : x39_3 < (l0.length : Int)
            ·
             rw [if_pos c15] at H
             have c15b0 : decide (x39_3 < (l0.length : Int)) = true := decide_eq_true c15
             clear c15
             replace H := Option.bind_eq_some_iff.mp H
             obtain ⟨t224, A160, H⟩ := H
             replace H : ((culetref13_Source.f ((rd_T40 l0 x39_3).f0) ((rd_T40 l0 x39_3).f1) ((rd_T40 l0 x39_3).f2) ((rd_T40 l0 x39_3).f3)).bind fun t226 => (if t224.toList = t226.toList then (if x39_3 > 0 then (if 0 ≤ (wrap64 (x39_3 - 1)) then (if (wrap64 (x39_3 - 1)) < (l0.length : Int) then ((lexer_Apart.f k3 ((rd_T40 l0 (wrap64 (x39_3 - 1))).f0) ((rd_T40 l0 (wrap64 (x39_3 - 1))).f1) ((rd_T40 l0 (wrap64 (x39_3 - 1))).f2) ((rd_T40 l0 (wrap64 (x39_3 - 1))).f3) ((rd_T40 l0 x39_3).f0) ((rd_T40 l0 x39_3).f1) ((rd_T40 l0 x39_3).f2) ((rd_T40 l0 x39_3).f3)).bind fun t229 => ((culetref13_Apart.f k3 ((rd_T40 l0 (wrap64 (x39_3 - 1))).f0) ((rd_T40 l0 (wrap64 (x39_3 - 1))).f1) ((rd_T40 l0 (wrap64 (x39_3 - 1))).f2) ((rd_T40 l0 (wrap64 (x39_3 - 1))).f3) ((rd_T40 l0 x39_3).f0) ((rd_T40 l0 x39_3).f1) ((rd_T40 l0 x39_3).f2) ((rd_T40 l0 x39_3).f3)).bind fun t232 => (if (t229 != t232) = true then (some false) else (culetlaw13_LexerJoin.l1 k3 l0 a1 (l0.length : Int) (wrap64 (x39_3 + 1)))))) else (none)) else (none)) else (culetlaw13_LexerJoin.l1 k3 l0 a1 (l0.length : Int) (wrap64 (x39_3 + 1)))) else (some false))) = some r := H
             have A16 := am_ A160
             clear A160
             replace H := Option.bind_eq_some_iff.mp H
             obtain ⟨t226, A170, H⟩ := H
             replace H : (if t224.toList = t226.toList then (if x39_3 > 0 then (if 0 ≤ (wrap64 (x39_3 - 1)) then (if (wrap64 (x39_3 - 1)) < (l0.length : Int) then ((lexer_Apart.f k3 ((rd_T40 l0 (wrap64 (x39_3 - 1))).f0) ((rd_T40 l0 (wrap64 (x39_3 - 1))).f1) ((rd_T40 l0 (wrap64 (x39_3 - 1))).f2) ((rd_T40 l0 (wrap64 (x39_3 - 1))).f3) ((rd_T40 l0 x39_3).f0) ((rd_T40 l0 x39_3).f1) ((rd_T40 l0 x39_3).f2) ((rd_T40 l0 x39_3).f3)).bind fun t229 => ((culetref13_Apart.f k3 ((rd_T40 l0 (wrap64 (x39_3 - 1))).f0) ((rd_T40 l0 (wrap64 (x39_3 - 1))).f1) ((rd_T40 l0 (wrap64 (x39_3 - 1))).f2) ((rd_T40 l0 (wrap64 (x39_3 - 1))).f3) ((rd_T40 l0 x39_3).f0) ((rd_T40 l0 x39_3).f1) ((rd_T40 l0 x39_3).f2) ((rd_T40 l0 x39_3).f3)).bind fun t232 => (if (t229 != t232) = true then (some false) else (culetlaw13_LexerJoin.l1 k3 l0 a1 (l0.length : Int) (wrap64 (x39_3 + 1)))))) else (none)) else (none)) else (culetlaw13_LexerJoin.l1 k3 l0 a1 (l0.length : Int) (wrap64 (x39_3 + 1)))) else (some false)) = some r := H
             have A17 := am_ A170
             clear A170
             by_cases c18 : t224.toList = t226.toList
             ·
              rw [if_pos c18] at H
              have c18b0 : (t224.toList == t226.toList) = true := beq_iff_eq.mpr c18
              have c18b1 : (t224.toList != t226.toList) = false := bne_eq_false_iff_eq.mpr c18
              clear c18
              by_cases c19 : x39_3 > 0
              ·
               rw [if_pos c19] at H
               have c19b0 : decide (0 < x39_3) = true := decide_eq_true c19
               clear c19
               obtain ⟨ji20, hji20⟩ : ∃ j_ : Int, (wrap64 (x39_3 - 1)) = j_ := ⟨_, rfl⟩
               replace H : (if 0 ≤ (ji20) then (if (ji20) < (l0.length : Int) then ((lexer_Apart.f k3 ((rd_T40 l0 (ji20)).f0) ((rd_T40 l0 (ji20)).f1) ((rd_T40 l0 (ji20)).f2) ((rd_T40 l0 (ji20)).f3) ((rd_T40 l0 x39_3).f0) ((rd_T40 l0 x39_3).f1) ((rd_T40 l0 x39_3).f2) ((rd_T40 l0 x39_3).f3)).bind fun t229 => ((culetref13_Apart.f k3 ((rd_T40 l0 (ji20)).f0) ((rd_T40 l0 (ji20)).f1) ((rd_T40 l0 (ji20)).f2) ((rd_T40 l0 (ji20)).f3) ((rd_T40 l0 x39_3).f0) ((rd_T40 l0 x39_3).f1) ((rd_T40 l0 x39_3).f2) ((rd_T40 l0 x39_3).f3)).bind fun t232 => (if (t229 != t232) = true then (some false) else (culetlaw13_LexerJoin.l1 k3 l0 a1 (l0.length : Int) (wrap64 (x39_3 + 1)))))) else (none)) else (none)) = some r := by first | (rw [hji20] at H; exact H) | (simp only [hji20] at H ⊢; exact H)
               (try rw [hji20] at A16)
               (try rw [hji20] at A17)
               have hji20w : (IntKind.i64.wrap (x39_3 - 1)) = ji20 := (i64_w _).trans hji20
               by_cases c21 : 0 ≤ (ji20)
               ·
                rw [if_pos c21] at H
                have c21b0 : decide (0 ≤ (ji20)) = true := decide_eq_true c21
                clear c21
                by_cases c22 : (ji20) < (l0.length : Int)
                ·
                 rw [if_pos c22] at H
                 have c22b0 : decide ((ji20) < (l0.length : Int)) = true := decide_eq_true c22
                 clear c22
                 replace H := Option.bind_eq_some_iff.mp H
                 obtain ⟨t229, A230, H⟩ := H
                 replace H : ((culetref13_Apart.f k3 ((rd_T40 l0 (ji20)).f0) ((rd_T40 l0 (ji20)).f1) ((rd_T40 l0 (ji20)).f2) ((rd_T40 l0 (ji20)).f3) ((rd_T40 l0 x39_3).f0) ((rd_T40 l0 x39_3).f1) ((rd_T40 l0 x39_3).f2) ((rd_T40 l0 x39_3).f3)).bind fun t232 => (if (t229 != t232) = true then (some false) else (culetlaw13_LexerJoin.l1 k3 l0 a1 (l0.length : Int) (wrap64 (x39_3 + 1))))) = some r := H
                 have A23 := am_ A230
                 clear A230
                 replace H := Option.bind_eq_some_iff.mp H
                 obtain ⟨t232, A240, H⟩ := H
                 replace H : (if (t229 != t232) = true then (some false) else (culetlaw13_LexerJoin.l1 k3 l0 a1 (l0.length : Int) (wrap64 (x39_3 + 1)))) = some r := H
                 have A24 := am_ A240
                 clear A240
                 by_cases c25 : (t229 != t232) = true
                 ·
                  rw [if_pos c25] at H
                  have c25b0 : (t229 != t232) = true := c25
                  (try (have c25b1 : decide (t229 = t232) = false := by simpa using c25))
                  (try (have c25b2 : (t229 == t232) = false := by simpa using c25))
                  (try (have c25b3 : ¬ (t229 = t232) := by simpa using c25))
                  clear c25
                  obtain rfl := Option.some.inj H
                  try go_wp2
                  have n0_ := am_ (below_drew1 HB.out)
                  clear HB
                  have HB := n0_
                  clear n0_
                  have p223 : 0 ≤ (x39_3 : Int) := of_decide_eq_true (by first | (with_reducible assumption) | assumption)
                  have q223 : x39_3 < (l0.length : Int) := of_decide_eq_true (by first | (with_reducible assumption) | assumption)
                  obtain ⟨ad223, e223, hx223_0, hx223_1, hx223_2, hx223_3⟩ := at_T40 HR0.out x39_3 p223 q223
                  have hw223_3 := hx223_3
                  have hw223_2 := hx223_2
                  have hw223_1 := hx223_1
                  have hw223_0 := hx223_0
                  cases e223
                  replace hx223_0 := (HB.out.cell (World.block_lt_of_cell? w _ hx223_0)).trans hx223_0
                  replace hx223_1 := (HB.out.cell (World.block_lt_of_cell? w _ hx223_1)).trans hx223_1
                  replace hx223_2 := (HB.out.cell (World.block_lt_of_cell? w _ hx223_2)).trans hx223_2
                  replace hx223_3 := (HB.out.cell (World.block_lt_of_cell? w _ hx223_3)).trans hx223_3
                  replace p223 := eq_true p223
                  replace q223 := eq_true q223
                  have p225 : 0 ≤ (x39_3 : Int) := of_decide_eq_true (by first | (with_reducible assumption) | assumption)
                  have q225 : x39_3 < (l0.length : Int) := of_decide_eq_true (by first | (with_reducible assumption) | assumption)
                  obtain ⟨ad225, e225, hx225_0, hx225_1, hx225_2, hx225_3⟩ := at_T40 HR0.out x39_3 p225 q225
                  have hw225_3 := hx225_3
                  have hw225_2 := hx225_2
                  have hw225_1 := hx225_1
                  have hw225_0 := hx225_0
                  obtain rfl : ad223 = ad225 := (by injection e225)
                  replace hx225_0 := (HB.out.cell (World.block_lt_of_cell? w _ hx225_0)).trans hx225_0
                  replace hx225_1 := (HB.out.cell (World.block_lt_of_cell? w _ hx225_1)).trans hx225_1
                  replace hx225_2 := (HB.out.cell (World.block_lt_of_cell? w _ hx225_2)).trans hx225_2
                  replace hx225_3 := (HB.out.cell (World.block_lt_of_cell? w _ hx225_3)).trans hx225_3
                  replace p225 := eq_true p225
                  replace q225 := eq_true q225
                  have p227 : 0 ≤ ((ji20) : Int) := of_decide_eq_true (by first | (with_reducible assumption) | assumption)
                  have q227 : (ji20) < (l0.length : Int) := of_decide_eq_true (by first | (with_reducible assumption) | assumption)
                  obtain ⟨ad227, e227, hx227_0, hx227_1, hx227_2, hx227_3⟩ := at_T40 HR0.out (ji20) p227 q227
                  have hw227_3 := hx227_3
                  have hw227_2 := hx227_2
                  have hw227_1 := hx227_1
                  have hw227_0 := hx227_0
                  obtain rfl : ad223 = ad227 := (by injection e227)
                  replace hx227_0 := (HB.out.cell (World.block_lt_of_cell? w _ hx227_0)).trans hx227_0
                  replace hx227_1 := (HB.out.cell (World.block_lt_of_cell? w _ hx227_1)).trans hx227_1
                  replace hx227_2 := (HB.out.cell (World.block_lt_of_cell? w _ hx227_2)).trans hx227_2
                  replace hx227_3 := (HB.out.cell (World.block_lt_of_cell? w _ hx227_3)).trans hx227_3
                  replace p227 := eq_true p227
                  replace q227 := eq_true q227
                  have p228 : 0 ≤ (x39_3 : Int) := of_decide_eq_true (by first | (with_reducible assumption) | assumption)
                  have q228 : x39_3 < (l0.length : Int) := of_decide_eq_true (by first | (with_reducible assumption) | assumption)
                  obtain ⟨ad228, e228, hx228_0, hx228_1, hx228_2, hx228_3⟩ := at_T40 HR0.out x39_3 p228 q228
                  have hw228_3 := hx228_3
                  have hw228_2 := hx228_2
                  have hw228_1 := hx228_1
                  have hw228_0 := hx228_0
                  obtain rfl : ad223 = ad228 := (by injection e228)
                  replace hx228_0 := (HB.out.cell (World.block_lt_of_cell? w _ hx228_0)).trans hx228_0
                  replace hx228_1 := (HB.out.cell (World.block_lt_of_cell? w _ hx228_1)).trans hx228_1
                  replace hx228_2 := (HB.out.cell (World.block_lt_of_cell? w _ hx228_2)).trans hx228_2
                  replace hx228_3 := (HB.out.cell (World.block_lt_of_cell? w _ hx228_3)).trans hx228_3
                  replace p228 := eq_true p228
                  replace q228 := eq_true q228
                  have p230 : 0 ≤ ((ji20) : Int) := of_decide_eq_true (by first | (with_reducible assumption) | assumption)
                  have q230 : (ji20) < (l0.length : Int) := of_decide_eq_true (by first | (with_reducible assumption) | assumption)
                  obtain ⟨ad230, e230, hx230_0, hx230_1, hx230_2, hx230_3⟩ := at_T40 HR0.out (ji20) p230 q230
                  have hw230_3 := hx230_3
                  have hw230_2 := hx230_2
                  have hw230_1 := hx230_1
                  have hw230_0 := hx230_0
                  obtain rfl : ad223 = ad230 := (by injection e230)
                  replace hx230_0 := (HB.out.cell (World.block_lt_of_cell? w _ hx230_0)).trans hx230_0
                  replace hx230_1 := (HB.out.cell (World.block_lt_of_cell? w _ hx230_1)).trans hx230_1
                  replace hx230_2 := (HB.out.cell (World.block_lt_of_cell? w _ hx230_2)).trans hx230_2
                  replace hx230_3 := (HB.out.cell (World.block_lt_of_cell? w _ hx230_3)).trans hx230_3
                  replace p230 := eq_true p230
                  replace q230 := eq_true q230
                  have p231 : 0 ≤ (x39_3 : Int) := of_decide_eq_true (by first | (with_reducible assumption) | assumption)
                  have q231 : x39_3 < (l0.length : Int) := of_decide_eq_true (by first | (with_reducible assumption) | assumption)
                  obtain ⟨ad231, e231, hx231_0, hx231_1, hx231_2, hx231_3⟩ := at_T40 HR0.out x39_3 p231 q231
                  have hw231_3 := hx231_3
                  have hw231_2 := hx231_2
                  have hw231_1 := hx231_1
                  have hw231_0 := hx231_0
                  obtain rfl : ad223 = ad231 := (by injection e231)
                  replace hx231_0 := (HB.out.cell (World.block_lt_of_cell? w _ hx231_0)).trans hx231_0
                  replace hx231_1 := (HB.out.cell (World.block_lt_of_cell? w _ hx231_1)).trans hx231_1
                  replace hx231_2 := (HB.out.cell (World.block_lt_of_cell? w _ hx231_2)).trans hx231_2
                  replace hx231_3 := (HB.out.cell (World.block_lt_of_cell? w _ hx231_3)).trans hx231_3
                  replace p231 := eq_true p231
                  replace q231 := eq_true q231
                  refine start_ (n := 38) (S := fun w' => w'.cell? (ad223.add ((x39_3).toNat * 4)) = some (.int .i64 ((rd_T40 l0 x39_3).f0)) ∧ w'.cell? ⟨(ad223.add ((x39_3).toNat * 4)).block, (ad223.add ((x39_3).toNat * 4)).off + 1, none⟩ = some (.string ((rd_T40 l0 x39_3).f1)) ∧ w'.cell? ⟨(ad223.add ((x39_3).toNat * 4)).block, (ad223.add ((x39_3).toNat * 4)).off + 2, none⟩ = some (.int .i64 ((rd_T40 l0 x39_3).f2)) ∧ w'.cell? ⟨(ad223.add ((x39_3).toNat * 4)).block, (ad223.add ((x39_3).toNat * 4)).off + 3, none⟩ = some (.int .i64 ((rd_T40 l0 x39_3).f3)) ∧ w'.cell? (ad223.add ((x39_3).toNat * 4)) = some (.int .i64 ((rd_T40 l0 x39_3).f0)) ∧ w'.cell? ⟨(ad223.add ((x39_3).toNat * 4)).block, (ad223.add ((x39_3).toNat * 4)).off + 1, none⟩ = some (.string ((rd_T40 l0 x39_3).f1)) ∧ w'.cell? ⟨(ad223.add ((x39_3).toNat * 4)).block, (ad223.add ((x39_3).toNat * 4)).off + 2, none⟩ = some (.int .i64 ((rd_T40 l0 x39_3).f2)) ∧ w'.cell? ⟨(ad223.add ((x39_3).toNat * 4)).block, (ad223.add ((x39_3).toNat * 4)).off + 3, none⟩ = some (.int .i64 ((rd_T40 l0 x39_3).f3)) ∧ w'.cell? (ad223.add (((ji20)).toNat * 4)) = some (.int .i64 ((rd_T40 l0 (ji20)).f0)) ∧ w'.cell? ⟨(ad223.add (((ji20)).toNat * 4)).block, (ad223.add (((ji20)).toNat * 4)).off + 1, none⟩ = some (.string ((rd_T40 l0 (ji20)).f1)) ∧ w'.cell? ⟨(ad223.add (((ji20)).toNat * 4)).block, (ad223.add (((ji20)).toNat * 4)).off + 2, none⟩ = some (.int .i64 ((rd_T40 l0 (ji20)).f2)) ∧ w'.cell? ⟨(ad223.add (((ji20)).toNat * 4)).block, (ad223.add (((ji20)).toNat * 4)).off + 3, none⟩ = some (.int .i64 ((rd_T40 l0 (ji20)).f3)) ∧ w'.cell? (ad223.add ((x39_3).toNat * 4)) = some (.int .i64 ((rd_T40 l0 x39_3).f0)) ∧ w'.cell? ⟨(ad223.add ((x39_3).toNat * 4)).block, (ad223.add ((x39_3).toNat * 4)).off + 1, none⟩ = some (.string ((rd_T40 l0 x39_3).f1)) ∧ w'.cell? ⟨(ad223.add ((x39_3).toNat * 4)).block, (ad223.add ((x39_3).toNat * 4)).off + 2, none⟩ = some (.int .i64 ((rd_T40 l0 x39_3).f2)) ∧ w'.cell? ⟨(ad223.add ((x39_3).toNat * 4)).block, (ad223.add ((x39_3).toNat * 4)).off + 3, none⟩ = some (.int .i64 ((rd_T40 l0 x39_3).f3)) ∧ w'.cell? (ad223.add (((ji20)).toNat * 4)) = some (.int .i64 ((rd_T40 l0 (ji20)).f0)) ∧ w'.cell? ⟨(ad223.add (((ji20)).toNat * 4)).block, (ad223.add (((ji20)).toNat * 4)).off + 1, none⟩ = some (.string ((rd_T40 l0 (ji20)).f1)) ∧ w'.cell? ⟨(ad223.add (((ji20)).toNat * 4)).block, (ad223.add (((ji20)).toNat * 4)).off + 2, none⟩ = some (.int .i64 ((rd_T40 l0 (ji20)).f2)) ∧ w'.cell? ⟨(ad223.add (((ji20)).toNat * 4)).block, (ad223.add (((ji20)).toNat * 4)).off + 3, none⟩ = some (.int .i64 ((rd_T40 l0 (ji20)).f3)) ∧ w'.cell? (ad223.add ((x39_3).toNat * 4)) = some (.int .i64 ((rd_T40 l0 x39_3).f0)) ∧ w'.cell? ⟨(ad223.add ((x39_3).toNat * 4)).block, (ad223.add ((x39_3).toNat * 4)).off + 1, none⟩ = some (.string ((rd_T40 l0 x39_3).f1)) ∧ w'.cell? ⟨(ad223.add ((x39_3).toNat * 4)).block, (ad223.add ((x39_3).toNat * 4)).off + 2, none⟩ = some (.int .i64 ((rd_T40 l0 x39_3).f2)) ∧ w'.cell? ⟨(ad223.add ((x39_3).toNat * 4)).block, (ad223.add ((x39_3).toNat * 4)).off + 3, none⟩ = some (.int .i64 ((rd_T40 l0 x39_3).f3))) (ds := []) #[false, false, false, false, false, false, false, false, false, false, false, false, false, false, false, false, false, false, false, false, false, false, false, false, false, false, false, false, false, false, false, false, false, false, false, false, false, false] (by kernel_rfl) rfl rfl ⟨((HB.out.cell (World.block_lt_of_cell? w _ hw223_0)).trans hw223_0), ((HB.out.cell (World.block_lt_of_cell? w _ hw223_1)).trans hw223_1), ((HB.out.cell (World.block_lt_of_cell? w _ hw223_2)).trans hw223_2), ((HB.out.cell (World.block_lt_of_cell? w _ hw223_3)).trans hw223_3), ((HB.out.cell (World.block_lt_of_cell? w _ hw225_0)).trans hw225_0), ((HB.out.cell (World.block_lt_of_cell? w _ hw225_1)).trans hw225_1), ((HB.out.cell (World.block_lt_of_cell? w _ hw225_2)).trans hw225_2), ((HB.out.cell (World.block_lt_of_cell? w _ hw225_3)).trans hw225_3), ((HB.out.cell (World.block_lt_of_cell? w _ hw227_0)).trans hw227_0), ((HB.out.cell (World.block_lt_of_cell? w _ hw227_1)).trans hw227_1), ((HB.out.cell (World.block_lt_of_cell? w _ hw227_2)).trans hw227_2), ((HB.out.cell (World.block_lt_of_cell? w _ hw227_3)).trans hw227_3), ((HB.out.cell (World.block_lt_of_cell? w _ hw228_0)).trans hw228_0), ((HB.out.cell (World.block_lt_of_cell? w _ hw228_1)).trans hw228_1), ((HB.out.cell (World.block_lt_of_cell? w _ hw228_2)).trans hw228_2), ((HB.out.cell (World.block_lt_of_cell? w _ hw228_3)).trans hw228_3), ((HB.out.cell (World.block_lt_of_cell? w _ hw230_0)).trans hw230_0), ((HB.out.cell (World.block_lt_of_cell? w _ hw230_1)).trans hw230_1), ((HB.out.cell (World.block_lt_of_cell? w _ hw230_2)).trans hw230_2), ((HB.out.cell (World.block_lt_of_cell? w _ hw230_3)).trans hw230_3), ((HB.out.cell (World.block_lt_of_cell? w _ hw231_0)).trans hw231_0), ((HB.out.cell (World.block_lt_of_cell? w _ hw231_1)).trans hw231_1), ((HB.out.cell (World.block_lt_of_cell? w _ hw231_2)).trans hw231_2), ((HB.out.cell (World.block_lt_of_cell? w _ hw231_3)).trans hw231_3)⟩ (fun hHeld => ?_); refine with_tabW culetlaw13_LexerJoin.tab14 culetlaw13_LexerJoin.bits14 (fun HT_ HW_ => ?_)
                  generalize wr.drew = w26 at HB hx223_0 hx223_1 hx223_2 hx223_3 hx225_0 hx225_1 hx225_2 hx225_3 hx227_0 hx227_1 hx227_2 hx227_3 hx228_0 hx228_1 hx228_2 hx228_3 hx230_0 hx230_1 hx230_2 hx230_3 hx231_0 hx231_1 hx231_2 hx231_3 hHeld ⊢
                  refine ltd (o := [0, 1, 2, 5, 6, 7, 3, 8]) (n := 0) (m := 38) (by kernel_rfl) ?_
                  iterate 8 (first | (refine tnd (v := ?_) (a' := ?_) rfl rfl (take_ofW HT_.out HW_.out (by kernel_rfl)) (fun _ _ _ h => h) (Or.inl ⟨by rfl, ?_⟩) hHeld ?_ ?_; rotate_left; (· (rintro w' ⟨s0, s1, s2, s3, s4, s5, s6, s7, s8, s9, s10, s11, s12, s13, s14, s15, s16, s17, s18, s19, s20, s21, s22, s23⟩; go_simp; with_reducible rfl)); rotate_left; (· (show Act.put _ (some _) _ = _; simp only [Act.put, List.setIfInBounds_toArray, List.set_cons_zero, List.set_cons_succ, i64_w, i32_w]; rfl))) | (refine pnd (v := ?_) (a' := ?_) rfl rfl (any_of HT_.out (by kernel_rfl)) (fun _ _ _ h => h) (Or.inl ⟨by rfl, ?_⟩) ?_ ?_; rotate_left; (· (intro w'; go_simp; with_reducible rfl)); rotate_left; (· (show Act.put _ (some _) _ = _; simp only [Act.put, List.setIfInBounds_toArray, List.set_cons_zero, List.set_cons_succ, i64_w, i32_w]; rfl))))
                  refine one_ (i := 4) (N := some 46) #[true, true, true, true, true, true, true, true, true, false, false, false, false, false, false, false, false, false, false, false, false, false, false, false, false, false, false, false, false, false, false, false, false, false, false, false, false, false] rfl rfl (one_of HT_.out (by kernel_rfl)) (by decide) (fun K hK => ?_)
                  refine goes_ Tryd.func23 (by kernel_rfl) rfl #[.agg #[.int .i64 ((rd_T40 l0 x39_3).f0), .string ((rd_T40 l0 x39_3).f1), .int .i64 ((rd_T40 l0 x39_3).f2), .int .i64 ((rd_T40 l0 x39_3).f3)]] (by rfl) rfl rfl (by (try simp only [List.map_toArray, List.map_cons, List.map_nil]); first | done | rfl | (simp only [List.length_drop, List.length_take]; rfl)) ?_
                  with_reducible refine (lexer_Source.calls ((rd_T40 l0 x39_3).f0) ((rd_T40 l0 x39_3).f1) ((rd_T40 l0 x39_3).f2) ((rd_T40 l0 x39_3).f3) t224 _ A16.out).mono ?_
                  rintro e w27 ⟨rfl, hb⟩
                  refine ⟨_, rfl, ?_⟩
                  have n0_ := am_ (below_step (mb_ HB.out) hb)
                  clear HB
                  have HB := n0_
                  clear n0_
                  (try clear hb)
                  (try clear hb2)
                  (try clear hk)
                  (try clear hi)
                  refine hK.out _ _ ⟨((HB.out.cell (World.block_lt_of_cell? w _ hw223_0)).trans hw223_0), ((HB.out.cell (World.block_lt_of_cell? w _ hw223_1)).trans hw223_1), ((HB.out.cell (World.block_lt_of_cell? w _ hw223_2)).trans hw223_2), ((HB.out.cell (World.block_lt_of_cell? w _ hw223_3)).trans hw223_3), ((HB.out.cell (World.block_lt_of_cell? w _ hw225_0)).trans hw225_0), ((HB.out.cell (World.block_lt_of_cell? w _ hw225_1)).trans hw225_1), ((HB.out.cell (World.block_lt_of_cell? w _ hw225_2)).trans hw225_2), ((HB.out.cell (World.block_lt_of_cell? w _ hw225_3)).trans hw225_3), ((HB.out.cell (World.block_lt_of_cell? w _ hw227_0)).trans hw227_0), ((HB.out.cell (World.block_lt_of_cell? w _ hw227_1)).trans hw227_1), ((HB.out.cell (World.block_lt_of_cell? w _ hw227_2)).trans hw227_2), ((HB.out.cell (World.block_lt_of_cell? w _ hw227_3)).trans hw227_3), ((HB.out.cell (World.block_lt_of_cell? w _ hw228_0)).trans hw228_0), ((HB.out.cell (World.block_lt_of_cell? w _ hw228_1)).trans hw228_1), ((HB.out.cell (World.block_lt_of_cell? w _ hw228_2)).trans hw228_2), ((HB.out.cell (World.block_lt_of_cell? w _ hw228_3)).trans hw228_3), ((HB.out.cell (World.block_lt_of_cell? w _ hw230_0)).trans hw230_0), ((HB.out.cell (World.block_lt_of_cell? w _ hw230_1)).trans hw230_1), ((HB.out.cell (World.block_lt_of_cell? w _ hw230_2)).trans hw230_2), ((HB.out.cell (World.block_lt_of_cell? w _ hw230_3)).trans hw230_3), ((HB.out.cell (World.block_lt_of_cell? w _ hw231_0)).trans hw231_0), ((HB.out.cell (World.block_lt_of_cell? w _ hw231_1)).trans hw231_1), ((HB.out.cell (World.block_lt_of_cell? w _ hw231_2)).trans hw231_2), ((HB.out.cell (World.block_lt_of_cell? w _ hw231_3)).trans hw231_3)⟩ (fun hHeld => ?_)
                  clear hK K
                  refine norm_ (a' := ?_) ?_ ?_
                  rotate_left
                  ·
                   show Act.put _ (some 46) _ = _
                   simp only [Act.put, List.setIfInBounds_toArray, List.set_cons_zero, List.set_cons_succ, i64_w, i32_w]
                   rfl
                  refine one_ (i := 9) (N := some 51) #[true, true, true, true, true, true, true, true, true, true, false, false, false, false, false, false, false, false, false, false, false, false, false, false, false, false, false, false, false, false, false, false, false, false, false, false, false, false] rfl rfl (one_of HT_.out (by kernel_rfl)) (by decide) (fun K hK => ?_)
                  refine goes_ Tryd.func21 (by kernel_rfl) rfl #[.agg #[.int .i64 ((rd_T40 l0 x39_3).f0), .string ((rd_T40 l0 x39_3).f1), .int .i64 ((rd_T40 l0 x39_3).f2), .int .i64 ((rd_T40 l0 x39_3).f3)]] (by rfl) rfl rfl (by (try simp only [List.map_toArray, List.map_cons, List.map_nil]); first | done | rfl | (simp only [List.length_drop, List.length_take]; rfl)) ?_
                  with_reducible refine (culetref13_Source.calls ((rd_T40 l0 x39_3).f0) ((rd_T40 l0 x39_3).f1) ((rd_T40 l0 x39_3).f2) ((rd_T40 l0 x39_3).f3) t226 _ A17.out).mono ?_
                  rintro e w28 ⟨rfl, hb⟩
                  refine ⟨_, rfl, ?_⟩
                  have n0_ := am_ (below_step (mb_ HB.out) hb)
                  clear HB
                  have HB := n0_
                  clear n0_
                  (try clear hb)
                  (try clear hb2)
                  (try clear hk)
                  (try clear hi)
                  refine hK.out _ _ ⟨((HB.out.cell (World.block_lt_of_cell? w _ hw223_0)).trans hw223_0), ((HB.out.cell (World.block_lt_of_cell? w _ hw223_1)).trans hw223_1), ((HB.out.cell (World.block_lt_of_cell? w _ hw223_2)).trans hw223_2), ((HB.out.cell (World.block_lt_of_cell? w _ hw223_3)).trans hw223_3), ((HB.out.cell (World.block_lt_of_cell? w _ hw225_0)).trans hw225_0), ((HB.out.cell (World.block_lt_of_cell? w _ hw225_1)).trans hw225_1), ((HB.out.cell (World.block_lt_of_cell? w _ hw225_2)).trans hw225_2), ((HB.out.cell (World.block_lt_of_cell? w _ hw225_3)).trans hw225_3), ((HB.out.cell (World.block_lt_of_cell? w _ hw227_0)).trans hw227_0), ((HB.out.cell (World.block_lt_of_cell? w _ hw227_1)).trans hw227_1), ((HB.out.cell (World.block_lt_of_cell? w _ hw227_2)).trans hw227_2), ((HB.out.cell (World.block_lt_of_cell? w _ hw227_3)).trans hw227_3), ((HB.out.cell (World.block_lt_of_cell? w _ hw228_0)).trans hw228_0), ((HB.out.cell (World.block_lt_of_cell? w _ hw228_1)).trans hw228_1), ((HB.out.cell (World.block_lt_of_cell? w _ hw228_2)).trans hw228_2), ((HB.out.cell (World.block_lt_of_cell? w _ hw228_3)).trans hw228_3), ((HB.out.cell (World.block_lt_of_cell? w _ hw230_0)).trans hw230_0), ((HB.out.cell (World.block_lt_of_cell? w _ hw230_1)).trans hw230_1), ((HB.out.cell (World.block_lt_of_cell? w _ hw230_2)).trans hw230_2), ((HB.out.cell (World.block_lt_of_cell? w _ hw230_3)).trans hw230_3), ((HB.out.cell (World.block_lt_of_cell? w _ hw231_0)).trans hw231_0), ((HB.out.cell (World.block_lt_of_cell? w _ hw231_1)).trans hw231_1), ((HB.out.cell (World.block_lt_of_cell? w _ hw231_2)).trans hw231_2), ((HB.out.cell (World.block_lt_of_cell? w _ hw231_3)).trans hw231_3)⟩ (fun hHeld => ?_)
                  clear hK K
                  refine norm_ (a' := ?_) ?_ ?_
                  rotate_left
                  ·
                   show Act.put _ (some 51) _ = _
                   simp only [Act.put, List.setIfInBounds_toArray, List.set_cons_zero, List.set_cons_succ, i64_w, i32_w]
                   rfl
                  refine ltd (o := [0, 1, 2, 3, 4, 5, 6, 7, 8, 9, 10, 11, 12, 13, 14, 15, 16, 17, 18, 20, 21, 22, 25, 26, 27, 28, 30, 31, 32, 19, 23, 29, 33]) (n := 10) (m := 38) (by kernel_rfl) ?_
                  iterate 23 (first | (refine tnd (v := ?_) (a' := ?_) rfl rfl (take_ofW HT_.out HW_.out (by kernel_rfl)) (fun _ _ _ h => h) (Or.inl ⟨by rfl, ?_⟩) hHeld ?_ ?_; rotate_left; (· (rintro w' ⟨s0, s1, s2, s3, s4, s5, s6, s7, s8, s9, s10, s11, s12, s13, s14, s15, s16, s17, s18, s19, s20, s21, s22, s23⟩; go_simp; with_reducible rfl)); rotate_left; (· (show Act.put _ (some _) _ = _; simp only [Act.put, List.setIfInBounds_toArray, List.set_cons_zero, List.set_cons_succ, i64_w, i32_w]; rfl))) | (refine pnd (v := ?_) (a' := ?_) rfl rfl (any_of HT_.out (by kernel_rfl)) (fun _ _ _ h => h) (Or.inl ⟨by rfl, ?_⟩) ?_ ?_; rotate_left; (· (intro w'; go_simp; with_reducible rfl)); rotate_left; (· (show Act.put _ (some _) _ = _; simp only [Act.put, List.setIfInBounds_toArray, List.set_cons_zero, List.set_cons_succ, i64_w, i32_w]; rfl))))
                  refine one_ (i := 24) (N := some 66) #[true, true, true, true, true, true, true, true, true, true, true, true, true, true, true, true, true, true, true, true, true, true, true, true, true, true, true, true, true, true, true, true, true, true, false, false, false, false] rfl rfl (one_of HT_.out (by kernel_rfl)) (by decide) (fun K hK => ?_)
                  refine goes_ Tryd.func24 (by kernel_rfl) rfl #[.agg #[.int .i64 ((rd_T40 l0 (ji20)).f0), .string ((rd_T40 l0 (ji20)).f1), .int .i64 ((rd_T40 l0 (ji20)).f2), .int .i64 ((rd_T40 l0 (ji20)).f3)], .agg #[.int .i64 ((rd_T40 l0 x39_3).f0), .string ((rd_T40 l0 x39_3).f1), .int .i64 ((rd_T40 l0 x39_3).f2), .int .i64 ((rd_T40 l0 x39_3).f3)]] (by rfl) rfl rfl (by (try simp only [List.map_toArray, List.map_cons, List.map_nil]); first | done | (simp only [hji20]; rfl) | rfl | (simp only [List.length_drop, List.length_take]; rfl)) ?_
                  with_reducible refine (lexer_Apart.calls k3 ((rd_T40 l0 (ji20)).f0) ((rd_T40 l0 (ji20)).f1) ((rd_T40 l0 (ji20)).f2) ((rd_T40 l0 (ji20)).f3) ((rd_T40 l0 x39_3).f0) ((rd_T40 l0 x39_3).f1) ((rd_T40 l0 x39_3).f2) ((rd_T40 l0 x39_3).f3) t229 _ A23.out).mono ?_
                  rintro e w29 ⟨rfl, hb⟩
                  refine ⟨_, rfl, ?_⟩
                  have n0_ := am_ (below_step (mb_ HB.out) hb)
                  clear HB
                  have HB := n0_
                  clear n0_
                  (try clear hb)
                  (try clear hb2)
                  (try clear hk)
                  (try clear hi)
                  refine hK.out _ _ ⟨((HB.out.cell (World.block_lt_of_cell? w _ hw223_0)).trans hw223_0), ((HB.out.cell (World.block_lt_of_cell? w _ hw223_1)).trans hw223_1), ((HB.out.cell (World.block_lt_of_cell? w _ hw223_2)).trans hw223_2), ((HB.out.cell (World.block_lt_of_cell? w _ hw223_3)).trans hw223_3), ((HB.out.cell (World.block_lt_of_cell? w _ hw225_0)).trans hw225_0), ((HB.out.cell (World.block_lt_of_cell? w _ hw225_1)).trans hw225_1), ((HB.out.cell (World.block_lt_of_cell? w _ hw225_2)).trans hw225_2), ((HB.out.cell (World.block_lt_of_cell? w _ hw225_3)).trans hw225_3), ((HB.out.cell (World.block_lt_of_cell? w _ hw227_0)).trans hw227_0), ((HB.out.cell (World.block_lt_of_cell? w _ hw227_1)).trans hw227_1), ((HB.out.cell (World.block_lt_of_cell? w _ hw227_2)).trans hw227_2), ((HB.out.cell (World.block_lt_of_cell? w _ hw227_3)).trans hw227_3), ((HB.out.cell (World.block_lt_of_cell? w _ hw228_0)).trans hw228_0), ((HB.out.cell (World.block_lt_of_cell? w _ hw228_1)).trans hw228_1), ((HB.out.cell (World.block_lt_of_cell? w _ hw228_2)).trans hw228_2), ((HB.out.cell (World.block_lt_of_cell? w _ hw228_3)).trans hw228_3), ((HB.out.cell (World.block_lt_of_cell? w _ hw230_0)).trans hw230_0), ((HB.out.cell (World.block_lt_of_cell? w _ hw230_1)).trans hw230_1), ((HB.out.cell (World.block_lt_of_cell? w _ hw230_2)).trans hw230_2), ((HB.out.cell (World.block_lt_of_cell? w _ hw230_3)).trans hw230_3), ((HB.out.cell (World.block_lt_of_cell? w _ hw231_0)).trans hw231_0), ((HB.out.cell (World.block_lt_of_cell? w _ hw231_1)).trans hw231_1), ((HB.out.cell (World.block_lt_of_cell? w _ hw231_2)).trans hw231_2), ((HB.out.cell (World.block_lt_of_cell? w _ hw231_3)).trans hw231_3)⟩ (fun hHeld => ?_)
                  clear hK K
                  refine norm_ (a' := ?_) ?_ ?_
                  rotate_left
                  ·
                   show Act.put _ (some 66) _ = _
                   simp only [Act.put, List.setIfInBounds_toArray, List.set_cons_zero, List.set_cons_succ, i64_w, i32_w]
                   rfl
                  refine one_ (i := 34) (N := some 76) #[true, true, true, true, true, true, true, true, true, true, true, true, true, true, true, true, true, true, true, true, true, true, true, true, true, true, true, true, true, true, true, true, true, true, true, false, false, false] rfl rfl (one_of HT_.out (by kernel_rfl)) (by decide) (fun K hK => ?_)
                  refine goes_ Tryd.func25 (by kernel_rfl) rfl #[.agg #[.int .i64 ((rd_T40 l0 (ji20)).f0), .string ((rd_T40 l0 (ji20)).f1), .int .i64 ((rd_T40 l0 (ji20)).f2), .int .i64 ((rd_T40 l0 (ji20)).f3)], .agg #[.int .i64 ((rd_T40 l0 x39_3).f0), .string ((rd_T40 l0 x39_3).f1), .int .i64 ((rd_T40 l0 x39_3).f2), .int .i64 ((rd_T40 l0 x39_3).f3)]] (by rfl) rfl rfl (by (try simp only [List.map_toArray, List.map_cons, List.map_nil]); first | done | (simp only [hji20]; rfl) | rfl | (simp only [List.length_drop, List.length_take]; rfl)) ?_
                  with_reducible refine (culetref13_Apart.calls k3 ((rd_T40 l0 (ji20)).f0) ((rd_T40 l0 (ji20)).f1) ((rd_T40 l0 (ji20)).f2) ((rd_T40 l0 (ji20)).f3) ((rd_T40 l0 x39_3).f0) ((rd_T40 l0 x39_3).f1) ((rd_T40 l0 x39_3).f2) ((rd_T40 l0 x39_3).f3) t232 _ A24.out).mono ?_
                  rintro e w30 ⟨rfl, hb⟩
                  refine ⟨_, rfl, ?_⟩
                  have n0_ := am_ (below_step (mb_ HB.out) hb)
                  clear HB
                  have HB := n0_
                  clear n0_
                  (try clear hb)
                  (try clear hb2)
                  (try clear hk)
                  (try clear hi)
                  refine hK.out _ _ ⟨((HB.out.cell (World.block_lt_of_cell? w _ hw223_0)).trans hw223_0), ((HB.out.cell (World.block_lt_of_cell? w _ hw223_1)).trans hw223_1), ((HB.out.cell (World.block_lt_of_cell? w _ hw223_2)).trans hw223_2), ((HB.out.cell (World.block_lt_of_cell? w _ hw223_3)).trans hw223_3), ((HB.out.cell (World.block_lt_of_cell? w _ hw225_0)).trans hw225_0), ((HB.out.cell (World.block_lt_of_cell? w _ hw225_1)).trans hw225_1), ((HB.out.cell (World.block_lt_of_cell? w _ hw225_2)).trans hw225_2), ((HB.out.cell (World.block_lt_of_cell? w _ hw225_3)).trans hw225_3), ((HB.out.cell (World.block_lt_of_cell? w _ hw227_0)).trans hw227_0), ((HB.out.cell (World.block_lt_of_cell? w _ hw227_1)).trans hw227_1), ((HB.out.cell (World.block_lt_of_cell? w _ hw227_2)).trans hw227_2), ((HB.out.cell (World.block_lt_of_cell? w _ hw227_3)).trans hw227_3), ((HB.out.cell (World.block_lt_of_cell? w _ hw228_0)).trans hw228_0), ((HB.out.cell (World.block_lt_of_cell? w _ hw228_1)).trans hw228_1), ((HB.out.cell (World.block_lt_of_cell? w _ hw228_2)).trans hw228_2), ((HB.out.cell (World.block_lt_of_cell? w _ hw228_3)).trans hw228_3), ((HB.out.cell (World.block_lt_of_cell? w _ hw230_0)).trans hw230_0), ((HB.out.cell (World.block_lt_of_cell? w _ hw230_1)).trans hw230_1), ((HB.out.cell (World.block_lt_of_cell? w _ hw230_2)).trans hw230_2), ((HB.out.cell (World.block_lt_of_cell? w _ hw230_3)).trans hw230_3), ((HB.out.cell (World.block_lt_of_cell? w _ hw231_0)).trans hw231_0), ((HB.out.cell (World.block_lt_of_cell? w _ hw231_1)).trans hw231_1), ((HB.out.cell (World.block_lt_of_cell? w _ hw231_2)).trans hw231_2), ((HB.out.cell (World.block_lt_of_cell? w _ hw231_3)).trans hw231_3)⟩ (fun hHeld => ?_)
                  clear hK K
                  refine norm_ (a' := ?_) ?_ ?_
                  rotate_left
                  ·
                   show Act.put _ (some 76) _ = _
                   simp only [Act.put, List.setIfInBounds_toArray, List.set_cons_zero, List.set_cons_succ, i64_w, i32_w]
                   rfl
                  refine ltd (o := [0, 1, 2, 3, 4, 5, 6, 7, 8, 9, 10, 11, 12, 13, 14, 15, 16, 17, 18, 19, 20, 21, 22, 23, 24, 25, 26, 27, 28, 29, 30, 31, 32, 33, 34, 35, 36, 37]) (n := 35) (m := 38) (by kernel_rfl) ?_
                  iterate 3 (first | (refine pnd (v := ?_) (a' := ?_) rfl rfl (any_of HT_.out (by kernel_rfl)) (fun _ _ _ h => h) (Or.inl ⟨by rfl, ?_⟩) ?_ ?_; rotate_left; (· (intro w'; go_simp; with_reducible rfl)); rotate_left; (· (show Act.put _ (some _) _ = _; simp only [Act.put, List.setIfInBounds_toArray, List.set_cons_zero, List.set_cons_succ, i64_w, i32_w]; rfl))))
                  refine done_ (done_of HT_.out (by kernel_rfl)) ?_
                  try go_wp2
                  go_ret
                  exact ⟨by first | rfl | (simp [errW_none, errW_some] <;> rfl) | (simp only [← hji20]; first | rfl | (simp [errW_none, errW_some] <;> rfl)) | (simp [*, errW_none, errW_some] <;> rfl), mb_ HB.out⟩
                 ·
                  rw [if_neg c25] at H
                  have c25b0 : (t229 != t232) = false := by simpa using c25
                  (try (have c25b1 : decide (t229 = t232) = true := by simpa using c25))
                  (try (have c25b2 : (t229 == t232) = true := by simpa using c25))
                  clear c25
                  have H' := am_ H
                  clear H
                  try go_wp2
                  have n0_ := am_ (below_drew1 HB.out)
                  clear HB
                  have HB := n0_
                  clear n0_
                  have p223 : 0 ≤ (x39_3 : Int) := of_decide_eq_true (by first | (with_reducible assumption) | assumption)
                  have q223 : x39_3 < (l0.length : Int) := of_decide_eq_true (by first | (with_reducible assumption) | assumption)
                  obtain ⟨ad223, e223, hx223_0, hx223_1, hx223_2, hx223_3⟩ := at_T40 HR0.out x39_3 p223 q223
                  have hw223_3 := hx223_3
                  have hw223_2 := hx223_2
                  have hw223_1 := hx223_1
                  have hw223_0 := hx223_0
                  cases e223
                  replace hx223_0 := (HB.out.cell (World.block_lt_of_cell? w _ hx223_0)).trans hx223_0
                  replace hx223_1 := (HB.out.cell (World.block_lt_of_cell? w _ hx223_1)).trans hx223_1
                  replace hx223_2 := (HB.out.cell (World.block_lt_of_cell? w _ hx223_2)).trans hx223_2
                  replace hx223_3 := (HB.out.cell (World.block_lt_of_cell? w _ hx223_3)).trans hx223_3
                  replace p223 := eq_true p223
                  replace q223 := eq_true q223
                  have p225 : 0 ≤ (x39_3 : Int) := of_decide_eq_true (by first | (with_reducible assumption) | assumption)
                  have q225 : x39_3 < (l0.length : Int) := of_decide_eq_true (by first | (with_reducible assumption) | assumption)
                  obtain ⟨ad225, e225, hx225_0, hx225_1, hx225_2, hx225_3⟩ := at_T40 HR0.out x39_3 p225 q225
                  have hw225_3 := hx225_3
                  have hw225_2 := hx225_2
                  have hw225_1 := hx225_1
                  have hw225_0 := hx225_0
                  obtain rfl : ad223 = ad225 := (by injection e225)
                  replace hx225_0 := (HB.out.cell (World.block_lt_of_cell? w _ hx225_0)).trans hx225_0
                  replace hx225_1 := (HB.out.cell (World.block_lt_of_cell? w _ hx225_1)).trans hx225_1
                  replace hx225_2 := (HB.out.cell (World.block_lt_of_cell? w _ hx225_2)).trans hx225_2
                  replace hx225_3 := (HB.out.cell (World.block_lt_of_cell? w _ hx225_3)).trans hx225_3
                  replace p225 := eq_true p225
                  replace q225 := eq_true q225
                  have p227 : 0 ≤ ((ji20) : Int) := of_decide_eq_true (by first | (with_reducible assumption) | assumption)
                  have q227 : (ji20) < (l0.length : Int) := of_decide_eq_true (by first | (with_reducible assumption) | assumption)
                  obtain ⟨ad227, e227, hx227_0, hx227_1, hx227_2, hx227_3⟩ := at_T40 HR0.out (ji20) p227 q227
                  have hw227_3 := hx227_3
                  have hw227_2 := hx227_2
                  have hw227_1 := hx227_1
                  have hw227_0 := hx227_0
                  obtain rfl : ad223 = ad227 := (by injection e227)
                  replace hx227_0 := (HB.out.cell (World.block_lt_of_cell? w _ hx227_0)).trans hx227_0
                  replace hx227_1 := (HB.out.cell (World.block_lt_of_cell? w _ hx227_1)).trans hx227_1
                  replace hx227_2 := (HB.out.cell (World.block_lt_of_cell? w _ hx227_2)).trans hx227_2
                  replace hx227_3 := (HB.out.cell (World.block_lt_of_cell? w _ hx227_3)).trans hx227_3
                  replace p227 := eq_true p227
                  replace q227 := eq_true q227
                  have p228 : 0 ≤ (x39_3 : Int) := of_decide_eq_true (by first | (with_reducible assumption) | assumption)
                  have q228 : x39_3 < (l0.length : Int) := of_decide_eq_true (by first | (with_reducible assumption) | assumption)
                  obtain ⟨ad228, e228, hx228_0, hx228_1, hx228_2, hx228_3⟩ := at_T40 HR0.out x39_3 p228 q228
                  have hw228_3 := hx228_3
                  have hw228_2 := hx228_2
                  have hw228_1 := hx228_1
                  have hw228_0 := hx228_0
                  obtain rfl : ad223 = ad228 := (by injection e228)
                  replace hx228_0 := (HB.out.cell (World.block_lt_of_cell? w _ hx228_0)).trans hx228_0
                  replace hx228_1 := (HB.out.cell (World.block_lt_of_cell? w _ hx228_1)).trans hx228_1
                  replace hx228_2 := (HB.out.cell (World.block_lt_of_cell? w _ hx228_2)).trans hx228_2
                  replace hx228_3 := (HB.out.cell (World.block_lt_of_cell? w _ hx228_3)).trans hx228_3
                  replace p228 := eq_true p228
                  replace q228 := eq_true q228
                  have p230 : 0 ≤ ((ji20) : Int) := of_decide_eq_true (by first | (with_reducible assumption) | assumption)
                  have q230 : (ji20) < (l0.length : Int) := of_decide_eq_true (by first | (with_reducible assumption) | assumption)
                  obtain ⟨ad230, e230, hx230_0, hx230_1, hx230_2, hx230_3⟩ := at_T40 HR0.out (ji20) p230 q230
                  have hw230_3 := hx230_3
                  have hw230_2 := hx230_2
                  have hw230_1 := hx230_1
                  have hw230_0 := hx230_0
                  obtain rfl : ad223 = ad230 := (by injection e230)
                  replace hx230_0 := (HB.out.cell (World.block_lt_of_cell? w _ hx230_0)).trans hx230_0
                  replace hx230_1 := (HB.out.cell (World.block_lt_of_cell? w _ hx230_1)).trans hx230_1
                  replace hx230_2 := (HB.out.cell (World.block_lt_of_cell? w _ hx230_2)).trans hx230_2
                  replace hx230_3 := (HB.out.cell (World.block_lt_of_cell? w _ hx230_3)).trans hx230_3
                  replace p230 := eq_true p230
                  replace q230 := eq_true q230
                  have p231 : 0 ≤ (x39_3 : Int) := of_decide_eq_true (by first | (with_reducible assumption) | assumption)
                  have q231 : x39_3 < (l0.length : Int) := of_decide_eq_true (by first | (with_reducible assumption) | assumption)
                  obtain ⟨ad231, e231, hx231_0, hx231_1, hx231_2, hx231_3⟩ := at_T40 HR0.out x39_3 p231 q231
                  have hw231_3 := hx231_3
                  have hw231_2 := hx231_2
                  have hw231_1 := hx231_1
                  have hw231_0 := hx231_0
                  obtain rfl : ad223 = ad231 := (by injection e231)
                  replace hx231_0 := (HB.out.cell (World.block_lt_of_cell? w _ hx231_0)).trans hx231_0
                  replace hx231_1 := (HB.out.cell (World.block_lt_of_cell? w _ hx231_1)).trans hx231_1
                  replace hx231_2 := (HB.out.cell (World.block_lt_of_cell? w _ hx231_2)).trans hx231_2
                  replace hx231_3 := (HB.out.cell (World.block_lt_of_cell? w _ hx231_3)).trans hx231_3
                  replace p231 := eq_true p231
                  replace q231 := eq_true q231
                  refine start_ (n := 38) (S := fun w' => w'.cell? (ad223.add ((x39_3).toNat * 4)) = some (.int .i64 ((rd_T40 l0 x39_3).f0)) ∧ w'.cell? ⟨(ad223.add ((x39_3).toNat * 4)).block, (ad223.add ((x39_3).toNat * 4)).off + 1, none⟩ = some (.string ((rd_T40 l0 x39_3).f1)) ∧ w'.cell? ⟨(ad223.add ((x39_3).toNat * 4)).block, (ad223.add ((x39_3).toNat * 4)).off + 2, none⟩ = some (.int .i64 ((rd_T40 l0 x39_3).f2)) ∧ w'.cell? ⟨(ad223.add ((x39_3).toNat * 4)).block, (ad223.add ((x39_3).toNat * 4)).off + 3, none⟩ = some (.int .i64 ((rd_T40 l0 x39_3).f3)) ∧ w'.cell? (ad223.add ((x39_3).toNat * 4)) = some (.int .i64 ((rd_T40 l0 x39_3).f0)) ∧ w'.cell? ⟨(ad223.add ((x39_3).toNat * 4)).block, (ad223.add ((x39_3).toNat * 4)).off + 1, none⟩ = some (.string ((rd_T40 l0 x39_3).f1)) ∧ w'.cell? ⟨(ad223.add ((x39_3).toNat * 4)).block, (ad223.add ((x39_3).toNat * 4)).off + 2, none⟩ = some (.int .i64 ((rd_T40 l0 x39_3).f2)) ∧ w'.cell? ⟨(ad223.add ((x39_3).toNat * 4)).block, (ad223.add ((x39_3).toNat * 4)).off + 3, none⟩ = some (.int .i64 ((rd_T40 l0 x39_3).f3)) ∧ w'.cell? (ad223.add (((ji20)).toNat * 4)) = some (.int .i64 ((rd_T40 l0 (ji20)).f0)) ∧ w'.cell? ⟨(ad223.add (((ji20)).toNat * 4)).block, (ad223.add (((ji20)).toNat * 4)).off + 1, none⟩ = some (.string ((rd_T40 l0 (ji20)).f1)) ∧ w'.cell? ⟨(ad223.add (((ji20)).toNat * 4)).block, (ad223.add (((ji20)).toNat * 4)).off + 2, none⟩ = some (.int .i64 ((rd_T40 l0 (ji20)).f2)) ∧ w'.cell? ⟨(ad223.add (((ji20)).toNat * 4)).block, (ad223.add (((ji20)).toNat * 4)).off + 3, none⟩ = some (.int .i64 ((rd_T40 l0 (ji20)).f3)) ∧ w'.cell? (ad223.add ((x39_3).toNat * 4)) = some (.int .i64 ((rd_T40 l0 x39_3).f0)) ∧ w'.cell? ⟨(ad223.add ((x39_3).toNat * 4)).block, (ad223.add ((x39_3).toNat * 4)).off + 1, none⟩ = some (.string ((rd_T40 l0 x39_3).f1)) ∧ w'.cell? ⟨(ad223.add ((x39_3).toNat * 4)).block, (ad223.add ((x39_3).toNat * 4)).off + 2, none⟩ = some (.int .i64 ((rd_T40 l0 x39_3).f2)) ∧ w'.cell? ⟨(ad223.add ((x39_3).toNat * 4)).block, (ad223.add ((x39_3).toNat * 4)).off + 3, none⟩ = some (.int .i64 ((rd_T40 l0 x39_3).f3)) ∧ w'.cell? (ad223.add (((ji20)).toNat * 4)) = some (.int .i64 ((rd_T40 l0 (ji20)).f0)) ∧ w'.cell? ⟨(ad223.add (((ji20)).toNat * 4)).block, (ad223.add (((ji20)).toNat * 4)).off + 1, none⟩ = some (.string ((rd_T40 l0 (ji20)).f1)) ∧ w'.cell? ⟨(ad223.add (((ji20)).toNat * 4)).block, (ad223.add (((ji20)).toNat * 4)).off + 2, none⟩ = some (.int .i64 ((rd_T40 l0 (ji20)).f2)) ∧ w'.cell? ⟨(ad223.add (((ji20)).toNat * 4)).block, (ad223.add (((ji20)).toNat * 4)).off + 3, none⟩ = some (.int .i64 ((rd_T40 l0 (ji20)).f3)) ∧ w'.cell? (ad223.add ((x39_3).toNat * 4)) = some (.int .i64 ((rd_T40 l0 x39_3).f0)) ∧ w'.cell? ⟨(ad223.add ((x39_3).toNat * 4)).block, (ad223.add ((x39_3).toNat * 4)).off + 1, none⟩ = some (.string ((rd_T40 l0 x39_3).f1)) ∧ w'.cell? ⟨(ad223.add ((x39_3).toNat * 4)).block, (ad223.add ((x39_3).toNat * 4)).off + 2, none⟩ = some (.int .i64 ((rd_T40 l0 x39_3).f2)) ∧ w'.cell? ⟨(ad223.add ((x39_3).toNat * 4)).block, (ad223.add ((x39_3).toNat * 4)).off + 3, none⟩ = some (.int .i64 ((rd_T40 l0 x39_3).f3))) (ds := []) #[false, false, false, false, false, false, false, false, false, false, false, false, false, false, false, false, false, false, false, false, false, false, false, false, false, false, false, false, false, false, false, false, false, false, false, false, false, false] (by kernel_rfl) rfl rfl ⟨((HB.out.cell (World.block_lt_of_cell? w _ hw223_0)).trans hw223_0), ((HB.out.cell (World.block_lt_of_cell? w _ hw223_1)).trans hw223_1), ((HB.out.cell (World.block_lt_of_cell? w _ hw223_2)).trans hw223_2), ((HB.out.cell (World.block_lt_of_cell? w _ hw223_3)).trans hw223_3), ((HB.out.cell (World.block_lt_of_cell? w _ hw225_0)).trans hw225_0), ((HB.out.cell (World.block_lt_of_cell? w _ hw225_1)).trans hw225_1), ((HB.out.cell (World.block_lt_of_cell? w _ hw225_2)).trans hw225_2), ((HB.out.cell (World.block_lt_of_cell? w _ hw225_3)).trans hw225_3), ((HB.out.cell (World.block_lt_of_cell? w _ hw227_0)).trans hw227_0), ((HB.out.cell (World.block_lt_of_cell? w _ hw227_1)).trans hw227_1), ((HB.out.cell (World.block_lt_of_cell? w _ hw227_2)).trans hw227_2), ((HB.out.cell (World.block_lt_of_cell? w _ hw227_3)).trans hw227_3), ((HB.out.cell (World.block_lt_of_cell? w _ hw228_0)).trans hw228_0), ((HB.out.cell (World.block_lt_of_cell? w _ hw228_1)).trans hw228_1), ((HB.out.cell (World.block_lt_of_cell? w _ hw228_2)).trans hw228_2), ((HB.out.cell (World.block_lt_of_cell? w _ hw228_3)).trans hw228_3), ((HB.out.cell (World.block_lt_of_cell? w _ hw230_0)).trans hw230_0), ((HB.out.cell (World.block_lt_of_cell? w _ hw230_1)).trans hw230_1), ((HB.out.cell (World.block_lt_of_cell? w _ hw230_2)).trans hw230_2), ((HB.out.cell (World.block_lt_of_cell? w _ hw230_3)).trans hw230_3), ((HB.out.cell (World.block_lt_of_cell? w _ hw231_0)).trans hw231_0), ((HB.out.cell (World.block_lt_of_cell? w _ hw231_1)).trans hw231_1), ((HB.out.cell (World.block_lt_of_cell? w _ hw231_2)).trans hw231_2), ((HB.out.cell (World.block_lt_of_cell? w _ hw231_3)).trans hw231_3)⟩ (fun hHeld => ?_); refine with_tabW culetlaw13_LexerJoin.tab14 culetlaw13_LexerJoin.bits14 (fun HT_ HW_ => ?_)
                  generalize wr.drew = w31 at HB hx223_0 hx223_1 hx223_2 hx223_3 hx225_0 hx225_1 hx225_2 hx225_3 hx227_0 hx227_1 hx227_2 hx227_3 hx228_0 hx228_1 hx228_2 hx228_3 hx230_0 hx230_1 hx230_2 hx230_3 hx231_0 hx231_1 hx231_2 hx231_3 hHeld ⊢
                  refine ltd (o := [0, 1, 2, 5, 6, 7, 3, 8]) (n := 0) (m := 38) (by kernel_rfl) ?_
                  iterate 8 (first | (refine tnd (v := ?_) (a' := ?_) rfl rfl (take_ofW HT_.out HW_.out (by kernel_rfl)) (fun _ _ _ h => h) (Or.inl ⟨by rfl, ?_⟩) hHeld ?_ ?_; rotate_left; (· (rintro w' ⟨s0, s1, s2, s3, s4, s5, s6, s7, s8, s9, s10, s11, s12, s13, s14, s15, s16, s17, s18, s19, s20, s21, s22, s23⟩; go_simp; with_reducible rfl)); rotate_left; (· (show Act.put _ (some _) _ = _; simp only [Act.put, List.setIfInBounds_toArray, List.set_cons_zero, List.set_cons_succ, i64_w, i32_w]; rfl))) | (refine pnd (v := ?_) (a' := ?_) rfl rfl (any_of HT_.out (by kernel_rfl)) (fun _ _ _ h => h) (Or.inl ⟨by rfl, ?_⟩) ?_ ?_; rotate_left; (· (intro w'; go_simp; with_reducible rfl)); rotate_left; (· (show Act.put _ (some _) _ = _; simp only [Act.put, List.setIfInBounds_toArray, List.set_cons_zero, List.set_cons_succ, i64_w, i32_w]; rfl))))
                  refine one_ (i := 4) (N := some 46) #[true, true, true, true, true, true, true, true, true, false, false, false, false, false, false, false, false, false, false, false, false, false, false, false, false, false, false, false, false, false, false, false, false, false, false, false, false, false] rfl rfl (one_of HT_.out (by kernel_rfl)) (by decide) (fun K hK => ?_)
                  refine goes_ Tryd.func23 (by kernel_rfl) rfl #[.agg #[.int .i64 ((rd_T40 l0 x39_3).f0), .string ((rd_T40 l0 x39_3).f1), .int .i64 ((rd_T40 l0 x39_3).f2), .int .i64 ((rd_T40 l0 x39_3).f3)]] (by rfl) rfl rfl (by (try simp only [List.map_toArray, List.map_cons, List.map_nil]); first | done | rfl | (simp only [List.length_drop, List.length_take]; rfl)) ?_
                  with_reducible refine (lexer_Source.calls ((rd_T40 l0 x39_3).f0) ((rd_T40 l0 x39_3).f1) ((rd_T40 l0 x39_3).f2) ((rd_T40 l0 x39_3).f3) t224 _ A16.out).mono ?_
                  rintro e w32 ⟨rfl, hb⟩
                  refine ⟨_, rfl, ?_⟩
                  have n0_ := am_ (below_step (mb_ HB.out) hb)
                  clear HB
                  have HB := n0_
                  clear n0_
                  (try clear hb)
                  (try clear hb2)
                  (try clear hk)
                  (try clear hi)
                  refine hK.out _ _ ⟨((HB.out.cell (World.block_lt_of_cell? w _ hw223_0)).trans hw223_0), ((HB.out.cell (World.block_lt_of_cell? w _ hw223_1)).trans hw223_1), ((HB.out.cell (World.block_lt_of_cell? w _ hw223_2)).trans hw223_2), ((HB.out.cell (World.block_lt_of_cell? w _ hw223_3)).trans hw223_3), ((HB.out.cell (World.block_lt_of_cell? w _ hw225_0)).trans hw225_0), ((HB.out.cell (World.block_lt_of_cell? w _ hw225_1)).trans hw225_1), ((HB.out.cell (World.block_lt_of_cell? w _ hw225_2)).trans hw225_2), ((HB.out.cell (World.block_lt_of_cell? w _ hw225_3)).trans hw225_3), ((HB.out.cell (World.block_lt_of_cell? w _ hw227_0)).trans hw227_0), ((HB.out.cell (World.block_lt_of_cell? w _ hw227_1)).trans hw227_1), ((HB.out.cell (World.block_lt_of_cell? w _ hw227_2)).trans hw227_2), ((HB.out.cell (World.block_lt_of_cell? w _ hw227_3)).trans hw227_3), ((HB.out.cell (World.block_lt_of_cell? w _ hw228_0)).trans hw228_0), ((HB.out.cell (World.block_lt_of_cell? w _ hw228_1)).trans hw228_1), ((HB.out.cell (World.block_lt_of_cell? w _ hw228_2)).trans hw228_2), ((HB.out.cell (World.block_lt_of_cell? w _ hw228_3)).trans hw228_3), ((HB.out.cell (World.block_lt_of_cell? w _ hw230_0)).trans hw230_0), ((HB.out.cell (World.block_lt_of_cell? w _ hw230_1)).trans hw230_1), ((HB.out.cell (World.block_lt_of_cell? w _ hw230_2)).trans hw230_2), ((HB.out.cell (World.block_lt_of_cell? w _ hw230_3)).trans hw230_3), ((HB.out.cell (World.block_lt_of_cell? w _ hw231_0)).trans hw231_0), ((HB.out.cell (World.block_lt_of_cell? w _ hw231_1)).trans hw231_1), ((HB.out.cell (World.block_lt_of_cell? w _ hw231_2)).trans hw231_2), ((HB.out.cell (World.block_lt_of_cell? w _ hw231_3)).trans hw231_3)⟩ (fun hHeld => ?_)
                  clear hK K
                  refine norm_ (a' := ?_) ?_ ?_
                  rotate_left
                  ·
                   show Act.put _ (some 46) _ = _
                   simp only [Act.put, List.setIfInBounds_toArray, List.set_cons_zero, List.set_cons_succ, i64_w, i32_w]
                   rfl
                  refine one_ (i := 9) (N := some 51) #[true, true, true, true, true, true, true, true, true, true, false, false, false, false, false, false, false, false, false, false, false, false, false, false, false, false, false, false, false, false, false, false, false, false, false, false, false, false] rfl rfl (one_of HT_.out (by kernel_rfl)) (by decide) (fun K hK => ?_)
                  refine goes_ Tryd.func21 (by kernel_rfl) rfl #[.agg #[.int .i64 ((rd_T40 l0 x39_3).f0), .string ((rd_T40 l0 x39_3).f1), .int .i64 ((rd_T40 l0 x39_3).f2), .int .i64 ((rd_T40 l0 x39_3).f3)]] (by rfl) rfl rfl (by (try simp only [List.map_toArray, List.map_cons, List.map_nil]); first | done | rfl | (simp only [List.length_drop, List.length_take]; rfl)) ?_
                  with_reducible refine (culetref13_Source.calls ((rd_T40 l0 x39_3).f0) ((rd_T40 l0 x39_3).f1) ((rd_T40 l0 x39_3).f2) ((rd_T40 l0 x39_3).f3) t226 _ A17.out).mono ?_
                  rintro e w33 ⟨rfl, hb⟩
                  refine ⟨_, rfl, ?_⟩
                  have n0_ := am_ (below_step (mb_ HB.out) hb)
                  clear HB
                  have HB := n0_
                  clear n0_
                  (try clear hb)
                  (try clear hb2)
                  (try clear hk)
                  (try clear hi)
                  refine hK.out _ _ ⟨((HB.out.cell (World.block_lt_of_cell? w _ hw223_0)).trans hw223_0), ((HB.out.cell (World.block_lt_of_cell? w _ hw223_1)).trans hw223_1), ((HB.out.cell (World.block_lt_of_cell? w _ hw223_2)).trans hw223_2), ((HB.out.cell (World.block_lt_of_cell? w _ hw223_3)).trans hw223_3), ((HB.out.cell (World.block_lt_of_cell? w _ hw225_0)).trans hw225_0), ((HB.out.cell (World.block_lt_of_cell? w _ hw225_1)).trans hw225_1), ((HB.out.cell (World.block_lt_of_cell? w _ hw225_2)).trans hw225_2), ((HB.out.cell (World.block_lt_of_cell? w _ hw225_3)).trans hw225_3), ((HB.out.cell (World.block_lt_of_cell? w _ hw227_0)).trans hw227_0), ((HB.out.cell (World.block_lt_of_cell? w _ hw227_1)).trans hw227_1), ((HB.out.cell (World.block_lt_of_cell? w _ hw227_2)).trans hw227_2), ((HB.out.cell (World.block_lt_of_cell? w _ hw227_3)).trans hw227_3), ((HB.out.cell (World.block_lt_of_cell? w _ hw228_0)).trans hw228_0), ((HB.out.cell (World.block_lt_of_cell? w _ hw228_1)).trans hw228_1), ((HB.out.cell (World.block_lt_of_cell? w _ hw228_2)).trans hw228_2), ((HB.out.cell (World.block_lt_of_cell? w _ hw228_3)).trans hw228_3), ((HB.out.cell (World.block_lt_of_cell? w _ hw230_0)).trans hw230_0), ((HB.out.cell (World.block_lt_of_cell? w _ hw230_1)).trans hw230_1), ((HB.out.cell (World.block_lt_of_cell? w _ hw230_2)).trans hw230_2), ((HB.out.cell (World.block_lt_of_cell? w _ hw230_3)).trans hw230_3), ((HB.out.cell (World.block_lt_of_cell? w _ hw231_0)).trans hw231_0), ((HB.out.cell (World.block_lt_of_cell? w _ hw231_1)).trans hw231_1), ((HB.out.cell (World.block_lt_of_cell? w _ hw231_2)).trans hw231_2), ((HB.out.cell (World.block_lt_of_cell? w _ hw231_3)).trans hw231_3)⟩ (fun hHeld => ?_)
                  clear hK K
                  refine norm_ (a' := ?_) ?_ ?_
                  rotate_left
                  ·
                   show Act.put _ (some 51) _ = _
                   simp only [Act.put, List.setIfInBounds_toArray, List.set_cons_zero, List.set_cons_succ, i64_w, i32_w]
                   rfl
                  refine ltd (o := [0, 1, 2, 3, 4, 5, 6, 7, 8, 9, 10, 11, 12, 13, 14, 15, 16, 17, 18, 20, 21, 22, 25, 26, 27, 28, 30, 31, 32, 19, 23, 29, 33]) (n := 10) (m := 38) (by kernel_rfl) ?_
                  iterate 23 (first | (refine tnd (v := ?_) (a' := ?_) rfl rfl (take_ofW HT_.out HW_.out (by kernel_rfl)) (fun _ _ _ h => h) (Or.inl ⟨by rfl, ?_⟩) hHeld ?_ ?_; rotate_left; (· (rintro w' ⟨s0, s1, s2, s3, s4, s5, s6, s7, s8, s9, s10, s11, s12, s13, s14, s15, s16, s17, s18, s19, s20, s21, s22, s23⟩; go_simp; with_reducible rfl)); rotate_left; (· (show Act.put _ (some _) _ = _; simp only [Act.put, List.setIfInBounds_toArray, List.set_cons_zero, List.set_cons_succ, i64_w, i32_w]; rfl))) | (refine pnd (v := ?_) (a' := ?_) rfl rfl (any_of HT_.out (by kernel_rfl)) (fun _ _ _ h => h) (Or.inl ⟨by rfl, ?_⟩) ?_ ?_; rotate_left; (· (intro w'; go_simp; with_reducible rfl)); rotate_left; (· (show Act.put _ (some _) _ = _; simp only [Act.put, List.setIfInBounds_toArray, List.set_cons_zero, List.set_cons_succ, i64_w, i32_w]; rfl))))
                  refine one_ (i := 24) (N := some 66) #[true, true, true, true, true, true, true, true, true, true, true, true, true, true, true, true, true, true, true, true, true, true, true, true, true, true, true, true, true, true, true, true, true, true, false, false, false, false] rfl rfl (one_of HT_.out (by kernel_rfl)) (by decide) (fun K hK => ?_)
                  refine goes_ Tryd.func24 (by kernel_rfl) rfl #[.agg #[.int .i64 ((rd_T40 l0 (ji20)).f0), .string ((rd_T40 l0 (ji20)).f1), .int .i64 ((rd_T40 l0 (ji20)).f2), .int .i64 ((rd_T40 l0 (ji20)).f3)], .agg #[.int .i64 ((rd_T40 l0 x39_3).f0), .string ((rd_T40 l0 x39_3).f1), .int .i64 ((rd_T40 l0 x39_3).f2), .int .i64 ((rd_T40 l0 x39_3).f3)]] (by rfl) rfl rfl (by (try simp only [List.map_toArray, List.map_cons, List.map_nil]); first | done | (simp only [hji20]; rfl) | rfl | (simp only [List.length_drop, List.length_take]; rfl)) ?_
                  with_reducible refine (lexer_Apart.calls k3 ((rd_T40 l0 (ji20)).f0) ((rd_T40 l0 (ji20)).f1) ((rd_T40 l0 (ji20)).f2) ((rd_T40 l0 (ji20)).f3) ((rd_T40 l0 x39_3).f0) ((rd_T40 l0 x39_3).f1) ((rd_T40 l0 x39_3).f2) ((rd_T40 l0 x39_3).f3) t229 _ A23.out).mono ?_
                  rintro e w34 ⟨rfl, hb⟩
                  refine ⟨_, rfl, ?_⟩
                  have n0_ := am_ (below_step (mb_ HB.out) hb)
                  clear HB
                  have HB := n0_
                  clear n0_
                  (try clear hb)
                  (try clear hb2)
                  (try clear hk)
                  (try clear hi)
                  refine hK.out _ _ ⟨((HB.out.cell (World.block_lt_of_cell? w _ hw223_0)).trans hw223_0), ((HB.out.cell (World.block_lt_of_cell? w _ hw223_1)).trans hw223_1), ((HB.out.cell (World.block_lt_of_cell? w _ hw223_2)).trans hw223_2), ((HB.out.cell (World.block_lt_of_cell? w _ hw223_3)).trans hw223_3), ((HB.out.cell (World.block_lt_of_cell? w _ hw225_0)).trans hw225_0), ((HB.out.cell (World.block_lt_of_cell? w _ hw225_1)).trans hw225_1), ((HB.out.cell (World.block_lt_of_cell? w _ hw225_2)).trans hw225_2), ((HB.out.cell (World.block_lt_of_cell? w _ hw225_3)).trans hw225_3), ((HB.out.cell (World.block_lt_of_cell? w _ hw227_0)).trans hw227_0), ((HB.out.cell (World.block_lt_of_cell? w _ hw227_1)).trans hw227_1), ((HB.out.cell (World.block_lt_of_cell? w _ hw227_2)).trans hw227_2), ((HB.out.cell (World.block_lt_of_cell? w _ hw227_3)).trans hw227_3), ((HB.out.cell (World.block_lt_of_cell? w _ hw228_0)).trans hw228_0), ((HB.out.cell (World.block_lt_of_cell? w _ hw228_1)).trans hw228_1), ((HB.out.cell (World.block_lt_of_cell? w _ hw228_2)).trans hw228_2), ((HB.out.cell (World.block_lt_of_cell? w _ hw228_3)).trans hw228_3), ((HB.out.cell (World.block_lt_of_cell? w _ hw230_0)).trans hw230_0), ((HB.out.cell (World.block_lt_of_cell? w _ hw230_1)).trans hw230_1), ((HB.out.cell (World.block_lt_of_cell? w _ hw230_2)).trans hw230_2), ((HB.out.cell (World.block_lt_of_cell? w _ hw230_3)).trans hw230_3), ((HB.out.cell (World.block_lt_of_cell? w _ hw231_0)).trans hw231_0), ((HB.out.cell (World.block_lt_of_cell? w _ hw231_1)).trans hw231_1), ((HB.out.cell (World.block_lt_of_cell? w _ hw231_2)).trans hw231_2), ((HB.out.cell (World.block_lt_of_cell? w _ hw231_3)).trans hw231_3)⟩ (fun hHeld => ?_)
                  clear hK K
                  refine norm_ (a' := ?_) ?_ ?_
                  rotate_left
                  ·
                   show Act.put _ (some 66) _ = _
                   simp only [Act.put, List.setIfInBounds_toArray, List.set_cons_zero, List.set_cons_succ, i64_w, i32_w]
                   rfl
                  refine one_ (i := 34) (N := some 76) #[true, true, true, true, true, true, true, true, true, true, true, true, true, true, true, true, true, true, true, true, true, true, true, true, true, true, true, true, true, true, true, true, true, true, true, false, false, false] rfl rfl (one_of HT_.out (by kernel_rfl)) (by decide) (fun K hK => ?_)
                  refine goes_ Tryd.func25 (by kernel_rfl) rfl #[.agg #[.int .i64 ((rd_T40 l0 (ji20)).f0), .string ((rd_T40 l0 (ji20)).f1), .int .i64 ((rd_T40 l0 (ji20)).f2), .int .i64 ((rd_T40 l0 (ji20)).f3)], .agg #[.int .i64 ((rd_T40 l0 x39_3).f0), .string ((rd_T40 l0 x39_3).f1), .int .i64 ((rd_T40 l0 x39_3).f2), .int .i64 ((rd_T40 l0 x39_3).f3)]] (by rfl) rfl rfl (by (try simp only [List.map_toArray, List.map_cons, List.map_nil]); first | done | (simp only [hji20]; rfl) | rfl | (simp only [List.length_drop, List.length_take]; rfl)) ?_
                  with_reducible refine (culetref13_Apart.calls k3 ((rd_T40 l0 (ji20)).f0) ((rd_T40 l0 (ji20)).f1) ((rd_T40 l0 (ji20)).f2) ((rd_T40 l0 (ji20)).f3) ((rd_T40 l0 x39_3).f0) ((rd_T40 l0 x39_3).f1) ((rd_T40 l0 x39_3).f2) ((rd_T40 l0 x39_3).f3) t232 _ A24.out).mono ?_
                  rintro e w35 ⟨rfl, hb⟩
                  refine ⟨_, rfl, ?_⟩
                  have n0_ := am_ (below_step (mb_ HB.out) hb)
                  clear HB
                  have HB := n0_
                  clear n0_
                  (try clear hb)
                  (try clear hb2)
                  (try clear hk)
                  (try clear hi)
                  refine hK.out _ _ ⟨((HB.out.cell (World.block_lt_of_cell? w _ hw223_0)).trans hw223_0), ((HB.out.cell (World.block_lt_of_cell? w _ hw223_1)).trans hw223_1), ((HB.out.cell (World.block_lt_of_cell? w _ hw223_2)).trans hw223_2), ((HB.out.cell (World.block_lt_of_cell? w _ hw223_3)).trans hw223_3), ((HB.out.cell (World.block_lt_of_cell? w _ hw225_0)).trans hw225_0), ((HB.out.cell (World.block_lt_of_cell? w _ hw225_1)).trans hw225_1), ((HB.out.cell (World.block_lt_of_cell? w _ hw225_2)).trans hw225_2), ((HB.out.cell (World.block_lt_of_cell? w _ hw225_3)).trans hw225_3), ((HB.out.cell (World.block_lt_of_cell? w _ hw227_0)).trans hw227_0), ((HB.out.cell (World.block_lt_of_cell? w _ hw227_1)).trans hw227_1), ((HB.out.cell (World.block_lt_of_cell? w _ hw227_2)).trans hw227_2), ((HB.out.cell (World.block_lt_of_cell? w _ hw227_3)).trans hw227_3), ((HB.out.cell (World.block_lt_of_cell? w _ hw228_0)).trans hw228_0), ((HB.out.cell (World.block_lt_of_cell? w _ hw228_1)).trans hw228_1), ((HB.out.cell (World.block_lt_of_cell? w _ hw228_2)).trans hw228_2), ((HB.out.cell (World.block_lt_of_cell? w _ hw228_3)).trans hw228_3), ((HB.out.cell (World.block_lt_of_cell? w _ hw230_0)).trans hw230_0), ((HB.out.cell (World.block_lt_of_cell? w _ hw230_1)).trans hw230_1), ((HB.out.cell (World.block_lt_of_cell? w _ hw230_2)).trans hw230_2), ((HB.out.cell (World.block_lt_of_cell? w _ hw230_3)).trans hw230_3), ((HB.out.cell (World.block_lt_of_cell? w _ hw231_0)).trans hw231_0), ((HB.out.cell (World.block_lt_of_cell? w _ hw231_1)).trans hw231_1), ((HB.out.cell (World.block_lt_of_cell? w _ hw231_2)).trans hw231_2), ((HB.out.cell (World.block_lt_of_cell? w _ hw231_3)).trans hw231_3)⟩ (fun hHeld => ?_)
                  clear hK K
                  refine norm_ (a' := ?_) ?_ ?_
                  rotate_left
                  ·
                   show Act.put _ (some 76) _ = _
                   simp only [Act.put, List.setIfInBounds_toArray, List.set_cons_zero, List.set_cons_succ, i64_w, i32_w]
                   rfl
                  refine ltd (o := [0, 1, 2, 3, 4, 5, 6, 7, 8, 9, 10, 11, 12, 13, 14, 15, 16, 17, 18, 19, 20, 21, 22, 23, 24, 25, 26, 27, 28, 29, 30, 31, 32, 33, 34, 35, 36, 37]) (n := 35) (m := 38) (by kernel_rfl) ?_
                  iterate 3 (first | (refine pnd (v := ?_) (a' := ?_) rfl rfl (any_of HT_.out (by kernel_rfl)) (fun _ _ _ h => h) (Or.inl ⟨by rfl, ?_⟩) ?_ ?_; rotate_left; (· (intro w'; go_simp; with_reducible rfl)); rotate_left; (· (show Act.put _ (some _) _ = _; simp only [Act.put, List.setIfInBounds_toArray, List.set_cons_zero, List.set_cons_succ, i64_w, i32_w]; rfl))))
                  refine done_ (done_of HT_.out (by kernel_rfl)) ?_
                  try go_wp2
                  go_roundg k3
                  case measure => have := HJ4.out; have := HK2.out; have := HK3.out; omega
                  case rel => exact ⟨(wrap64 (x39_3 + 1)), (by first | rfl | (simp; done) | (simp [*]; done)), H', ⟨by have := HJ4.out; have := HK2.out; have := HK3.out; omega⟩, ⟨mb_ HB.out⟩⟩
                ·
                 rw [if_neg c22] at H
                 exact absurd H (by simp)
               ·
                rw [if_neg c21] at H
                exact absurd H (by simp)
              ·
               rw [if_neg c19] at H
               have c19b0 : decide (0 < x39_3) = false := decide_eq_false c19
               clear c19
               have H' := am_ H
               clear H
               try go_wp2
               have n0_ := am_ (below_drew1 HB.out)
               clear HB
               have HB := n0_
               clear n0_
               have p223 : 0 ≤ (x39_3 : Int) := of_decide_eq_true (by first | (with_reducible assumption) | assumption)
               have q223 : x39_3 < (l0.length : Int) := of_decide_eq_true (by first | (with_reducible assumption) | assumption)
               obtain ⟨ad223, e223, hx223_0, hx223_1, hx223_2, hx223_3⟩ := at_T40 HR0.out x39_3 p223 q223
               have hw223_3 := hx223_3
               have hw223_2 := hx223_2
               have hw223_1 := hx223_1
               have hw223_0 := hx223_0
               cases e223
               replace hx223_0 := (HB.out.cell (World.block_lt_of_cell? w _ hx223_0)).trans hx223_0
               replace hx223_1 := (HB.out.cell (World.block_lt_of_cell? w _ hx223_1)).trans hx223_1
               replace hx223_2 := (HB.out.cell (World.block_lt_of_cell? w _ hx223_2)).trans hx223_2
               replace hx223_3 := (HB.out.cell (World.block_lt_of_cell? w _ hx223_3)).trans hx223_3
               replace p223 := eq_true p223
               replace q223 := eq_true q223
               have p225 : 0 ≤ (x39_3 : Int) := of_decide_eq_true (by first | (with_reducible assumption) | assumption)
               have q225 : x39_3 < (l0.length : Int) := of_decide_eq_true (by first | (with_reducible assumption) | assumption)
               obtain ⟨ad225, e225, hx225_0, hx225_1, hx225_2, hx225_3⟩ := at_T40 HR0.out x39_3 p225 q225
               have hw225_3 := hx225_3
               have hw225_2 := hx225_2
               have hw225_1 := hx225_1
               have hw225_0 := hx225_0
               obtain rfl : ad223 = ad225 := (by injection e225)
               replace hx225_0 := (HB.out.cell (World.block_lt_of_cell? w _ hx225_0)).trans hx225_0
               replace hx225_1 := (HB.out.cell (World.block_lt_of_cell? w _ hx225_1)).trans hx225_1
               replace hx225_2 := (HB.out.cell (World.block_lt_of_cell? w _ hx225_2)).trans hx225_2
               replace hx225_3 := (HB.out.cell (World.block_lt_of_cell? w _ hx225_3)).trans hx225_3
               replace p225 := eq_true p225
               replace q225 := eq_true q225
               refine start_ (n := 38) (S := fun w' => w'.cell? (ad223.add ((x39_3).toNat * 4)) = some (.int .i64 ((rd_T40 l0 x39_3).f0)) ∧ w'.cell? ⟨(ad223.add ((x39_3).toNat * 4)).block, (ad223.add ((x39_3).toNat * 4)).off + 1, none⟩ = some (.string ((rd_T40 l0 x39_3).f1)) ∧ w'.cell? ⟨(ad223.add ((x39_3).toNat * 4)).block, (ad223.add ((x39_3).toNat * 4)).off + 2, none⟩ = some (.int .i64 ((rd_T40 l0 x39_3).f2)) ∧ w'.cell? ⟨(ad223.add ((x39_3).toNat * 4)).block, (ad223.add ((x39_3).toNat * 4)).off + 3, none⟩ = some (.int .i64 ((rd_T40 l0 x39_3).f3)) ∧ w'.cell? (ad223.add ((x39_3).toNat * 4)) = some (.int .i64 ((rd_T40 l0 x39_3).f0)) ∧ w'.cell? ⟨(ad223.add ((x39_3).toNat * 4)).block, (ad223.add ((x39_3).toNat * 4)).off + 1, none⟩ = some (.string ((rd_T40 l0 x39_3).f1)) ∧ w'.cell? ⟨(ad223.add ((x39_3).toNat * 4)).block, (ad223.add ((x39_3).toNat * 4)).off + 2, none⟩ = some (.int .i64 ((rd_T40 l0 x39_3).f2)) ∧ w'.cell? ⟨(ad223.add ((x39_3).toNat * 4)).block, (ad223.add ((x39_3).toNat * 4)).off + 3, none⟩ = some (.int .i64 ((rd_T40 l0 x39_3).f3))) (ds := []) #[false, false, false, false, false, false, false, false, false, false, false, false, false, false, false, false, false, false, false, false, false, false, false, false, false, false, false, false, false, false, false, false, false, false, false, false, false, false] (by kernel_rfl) rfl rfl ⟨((HB.out.cell (World.block_lt_of_cell? w _ hw223_0)).trans hw223_0), ((HB.out.cell (World.block_lt_of_cell? w _ hw223_1)).trans hw223_1), ((HB.out.cell (World.block_lt_of_cell? w _ hw223_2)).trans hw223_2), ((HB.out.cell (World.block_lt_of_cell? w _ hw223_3)).trans hw223_3), ((HB.out.cell (World.block_lt_of_cell? w _ hw225_0)).trans hw225_0), ((HB.out.cell (World.block_lt_of_cell? w _ hw225_1)).trans hw225_1), ((HB.out.cell (World.block_lt_of_cell? w _ hw225_2)).trans hw225_2), ((HB.out.cell (World.block_lt_of_cell? w _ hw225_3)).trans hw225_3)⟩ (fun hHeld => ?_); refine with_tabW culetlaw13_LexerJoin.tab14 culetlaw13_LexerJoin.bits14 (fun HT_ HW_ => ?_)
               generalize wr.drew = w36 at HB hx223_0 hx223_1 hx223_2 hx223_3 hx225_0 hx225_1 hx225_2 hx225_3 hHeld ⊢
               refine ltd (o := [0, 1, 2, 5, 6, 7, 3, 8]) (n := 0) (m := 38) (by kernel_rfl) ?_
               iterate 8 (first | (refine tnd (v := ?_) (a' := ?_) rfl rfl (take_ofW HT_.out HW_.out (by kernel_rfl)) (fun _ _ _ h => h) (Or.inl ⟨by rfl, ?_⟩) hHeld ?_ ?_; rotate_left; (· (rintro w' ⟨s0, s1, s2, s3, s4, s5, s6, s7⟩; go_simp; with_reducible rfl)); rotate_left; (· (show Act.put _ (some _) _ = _; simp only [Act.put, List.setIfInBounds_toArray, List.set_cons_zero, List.set_cons_succ, i64_w, i32_w]; rfl))) | (refine pnd (v := ?_) (a' := ?_) rfl rfl (any_of HT_.out (by kernel_rfl)) (fun _ _ _ h => h) (Or.inl ⟨by rfl, ?_⟩) ?_ ?_; rotate_left; (· (intro w'; go_simp; with_reducible rfl)); rotate_left; (· (show Act.put _ (some _) _ = _; simp only [Act.put, List.setIfInBounds_toArray, List.set_cons_zero, List.set_cons_succ, i64_w, i32_w]; rfl))))
               refine one_ (i := 4) (N := some 46) #[true, true, true, true, true, true, true, true, true, false, false, false, false, false, false, false, false, false, false, false, false, false, false, false, false, false, false, false, false, false, false, false, false, false, false, false, false, false] rfl rfl (one_of HT_.out (by kernel_rfl)) (by decide) (fun K hK => ?_)
               refine goes_ Tryd.func23 (by kernel_rfl) rfl #[.agg #[.int .i64 ((rd_T40 l0 x39_3).f0), .string ((rd_T40 l0 x39_3).f1), .int .i64 ((rd_T40 l0 x39_3).f2), .int .i64 ((rd_T40 l0 x39_3).f3)]] (by rfl) rfl rfl (by (try simp only [List.map_toArray, List.map_cons, List.map_nil]); first | done | rfl | (simp only [List.length_drop, List.length_take]; rfl)) ?_
               with_reducible refine (lexer_Source.calls ((rd_T40 l0 x39_3).f0) ((rd_T40 l0 x39_3).f1) ((rd_T40 l0 x39_3).f2) ((rd_T40 l0 x39_3).f3) t224 _ A16.out).mono ?_
               rintro e w37 ⟨rfl, hb⟩
               refine ⟨_, rfl, ?_⟩
               have n0_ := am_ (below_step (mb_ HB.out) hb)
               clear HB
               have HB := n0_
               clear n0_
               (try clear hb)
               (try clear hb2)
               (try clear hk)
               (try clear hi)
               refine hK.out _ _ ⟨((HB.out.cell (World.block_lt_of_cell? w _ hw223_0)).trans hw223_0), ((HB.out.cell (World.block_lt_of_cell? w _ hw223_1)).trans hw223_1), ((HB.out.cell (World.block_lt_of_cell? w _ hw223_2)).trans hw223_2), ((HB.out.cell (World.block_lt_of_cell? w _ hw223_3)).trans hw223_3), ((HB.out.cell (World.block_lt_of_cell? w _ hw225_0)).trans hw225_0), ((HB.out.cell (World.block_lt_of_cell? w _ hw225_1)).trans hw225_1), ((HB.out.cell (World.block_lt_of_cell? w _ hw225_2)).trans hw225_2), ((HB.out.cell (World.block_lt_of_cell? w _ hw225_3)).trans hw225_3)⟩ (fun hHeld => ?_)
               clear hK K
               refine norm_ (a' := ?_) ?_ ?_
               rotate_left
               ·
                show Act.put _ (some 46) _ = _
                simp only [Act.put, List.setIfInBounds_toArray, List.set_cons_zero, List.set_cons_succ, i64_w, i32_w]
                rfl
               refine one_ (i := 9) (N := some 51) #[true, true, true, true, true, true, true, true, true, true, false, false, false, false, false, false, false, false, false, false, false, false, false, false, false, false, false, false, false, false, false, false, false, false, false, false, false, false] rfl rfl (one_of HT_.out (by kernel_rfl)) (by decide) (fun K hK => ?_)
               refine goes_ Tryd.func21 (by kernel_rfl) rfl #[.agg #[.int .i64 ((rd_T40 l0 x39_3).f0), .string ((rd_T40 l0 x39_3).f1), .int .i64 ((rd_T40 l0 x39_3).f2), .int .i64 ((rd_T40 l0 x39_3).f3)]] (by rfl) rfl rfl (by (try simp only [List.map_toArray, List.map_cons, List.map_nil]); first | done | rfl | (simp only [List.length_drop, List.length_take]; rfl)) ?_
               with_reducible refine (culetref13_Source.calls ((rd_T40 l0 x39_3).f0) ((rd_T40 l0 x39_3).f1) ((rd_T40 l0 x39_3).f2) ((rd_T40 l0 x39_3).f3) t226 _ A17.out).mono ?_
               rintro e w38 ⟨rfl, hb⟩
               refine ⟨_, rfl, ?_⟩
               have n0_ := am_ (below_step (mb_ HB.out) hb)
               clear HB
               have HB := n0_
               clear n0_
               (try clear hb)
               (try clear hb2)
               (try clear hk)
               (try clear hi)
               refine hK.out _ _ ⟨((HB.out.cell (World.block_lt_of_cell? w _ hw223_0)).trans hw223_0), ((HB.out.cell (World.block_lt_of_cell? w _ hw223_1)).trans hw223_1), ((HB.out.cell (World.block_lt_of_cell? w _ hw223_2)).trans hw223_2), ((HB.out.cell (World.block_lt_of_cell? w _ hw223_3)).trans hw223_3), ((HB.out.cell (World.block_lt_of_cell? w _ hw225_0)).trans hw225_0), ((HB.out.cell (World.block_lt_of_cell? w _ hw225_1)).trans hw225_1), ((HB.out.cell (World.block_lt_of_cell? w _ hw225_2)).trans hw225_2), ((HB.out.cell (World.block_lt_of_cell? w _ hw225_3)).trans hw225_3)⟩ (fun hHeld => ?_)
               clear hK K
               refine norm_ (a' := ?_) ?_ ?_
               rotate_left
               ·
                show Act.put _ (some 51) _ = _
                simp only [Act.put, List.setIfInBounds_toArray, List.set_cons_zero, List.set_cons_succ, i64_w, i32_w]
                rfl
               refine ltd (o := [0, 1, 2, 3, 4, 5, 6, 7, 8, 9, 10, 11, 12, 13, 14, 15, 16, 17, 18, 19, 20, 21, 22, 23, 24, 25, 26, 27, 28, 29, 30, 31, 32, 33, 34, 35, 36, 37]) (n := 10) (m := 38) (by kernel_rfl) ?_
               iterate 28 (first | (refine pnd rfl rfl (any_of HT_.out (by kernel_rfl)) (fun _ _ _ h => h) (Or.inr ⟨by rfl, rfl⟩) (a' := ?_) ?_ ?_; rotate_left; (· (show Act.put _ (some _) _ = _; simp only [Act.put, List.setIfInBounds_toArray, List.set_cons_zero, List.set_cons_succ, i64_w, i32_w]; rfl))) | (refine pnd (v := ?_) (a' := ?_) rfl rfl (any_of HT_.out (by kernel_rfl)) (fun _ _ _ h => h) (Or.inl ⟨by rfl, ?_⟩) ?_ ?_; rotate_left; (· (intro w'; go_simp; with_reducible rfl)); rotate_left; (· (show Act.put _ (some _) _ = _; simp only [Act.put, List.setIfInBounds_toArray, List.set_cons_zero, List.set_cons_succ, i64_w, i32_w]; rfl))))
               refine done_ (done_of HT_.out (by kernel_rfl)) ?_
               try go_wp2
               go_roundg k3
               case measure => have := HJ4.out; have := HK2.out; have := HK3.out; omega
               case rel => exact ⟨(wrap64 (x39_3 + 1)), (by first | rfl | (simp; done) | (simp [*]; done)), H', ⟨by have := HJ4.out; have := HK2.out; have := HK3.out; omega⟩, ⟨mb_ HB.out⟩⟩
             ·
              rw [if_neg c18] at H
              have c18b0 : (t224.toList == t226.toList) = false := beq_eq_false_iff_ne.mpr c18
              have c18b1 : (t224.toList != t226.toList) = true := bne_iff_ne.mpr c18
              obtain rfl := Option.some.inj H
              try go_wp2
              have n0_ := am_ (below_drew1 HB.out)
              clear HB
              have HB := n0_
              clear n0_
              have p223 : 0 ≤ (x39_3 : Int) := of_decide_eq_true (by first | (with_reducible assumption) | assumption)
              have q223 : x39_3 < (l0.length : Int) := of_decide_eq_true (by first | (with_reducible assumption) | assumption)
              obtain ⟨ad223, e223, hx223_0, hx223_1, hx223_2, hx223_3⟩ := at_T40 HR0.out x39_3 p223 q223
              have hw223_3 := hx223_3
              have hw223_2 := hx223_2
              have hw223_1 := hx223_1
              have hw223_0 := hx223_0
              cases e223
              replace hx223_0 := (HB.out.cell (World.block_lt_of_cell? w _ hx223_0)).trans hx223_0
              replace hx223_1 := (HB.out.cell (World.block_lt_of_cell? w _ hx223_1)).trans hx223_1
              replace hx223_2 := (HB.out.cell (World.block_lt_of_cell? w _ hx223_2)).trans hx223_2
              replace hx223_3 := (HB.out.cell (World.block_lt_of_cell? w _ hx223_3)).trans hx223_3
              replace p223 := eq_true p223
              replace q223 := eq_true q223
              have p225 : 0 ≤ (x39_3 : Int) := of_decide_eq_true (by first | (with_reducible assumption) | assumption)
              have q225 : x39_3 < (l0.length : Int) := of_decide_eq_true (by first | (with_reducible assumption) | assumption)
              obtain ⟨ad225, e225, hx225_0, hx225_1, hx225_2, hx225_3⟩ := at_T40 HR0.out x39_3 p225 q225
              have hw225_3 := hx225_3
              have hw225_2 := hx225_2
              have hw225_1 := hx225_1
              have hw225_0 := hx225_0
              obtain rfl : ad223 = ad225 := (by injection e225)
              replace hx225_0 := (HB.out.cell (World.block_lt_of_cell? w _ hx225_0)).trans hx225_0
              replace hx225_1 := (HB.out.cell (World.block_lt_of_cell? w _ hx225_1)).trans hx225_1
              replace hx225_2 := (HB.out.cell (World.block_lt_of_cell? w _ hx225_2)).trans hx225_2
              replace hx225_3 := (HB.out.cell (World.block_lt_of_cell? w _ hx225_3)).trans hx225_3
              replace p225 := eq_true p225
              replace q225 := eq_true q225
              refine start_ (n := 38) (S := fun w' => w'.cell? (ad223.add ((x39_3).toNat * 4)) = some (.int .i64 ((rd_T40 l0 x39_3).f0)) ∧ w'.cell? ⟨(ad223.add ((x39_3).toNat * 4)).block, (ad223.add ((x39_3).toNat * 4)).off + 1, none⟩ = some (.string ((rd_T40 l0 x39_3).f1)) ∧ w'.cell? ⟨(ad223.add ((x39_3).toNat * 4)).block, (ad223.add ((x39_3).toNat * 4)).off + 2, none⟩ = some (.int .i64 ((rd_T40 l0 x39_3).f2)) ∧ w'.cell? ⟨(ad223.add ((x39_3).toNat * 4)).block, (ad223.add ((x39_3).toNat * 4)).off + 3, none⟩ = some (.int .i64 ((rd_T40 l0 x39_3).f3)) ∧ w'.cell? (ad223.add ((x39_3).toNat * 4)) = some (.int .i64 ((rd_T40 l0 x39_3).f0)) ∧ w'.cell? ⟨(ad223.add ((x39_3).toNat * 4)).block, (ad223.add ((x39_3).toNat * 4)).off + 1, none⟩ = some (.string ((rd_T40 l0 x39_3).f1)) ∧ w'.cell? ⟨(ad223.add ((x39_3).toNat * 4)).block, (ad223.add ((x39_3).toNat * 4)).off + 2, none⟩ = some (.int .i64 ((rd_T40 l0 x39_3).f2)) ∧ w'.cell? ⟨(ad223.add ((x39_3).toNat * 4)).block, (ad223.add ((x39_3).toNat * 4)).off + 3, none⟩ = some (.int .i64 ((rd_T40 l0 x39_3).f3))) (ds := []) #[false, false, false, false, false, false, false, false, false, false, false, false, false, false, false, false, false, false, false, false, false, false, false, false, false, false, false, false, false, false, false, false, false, false, false, false, false, false] (by kernel_rfl) rfl rfl ⟨((HB.out.cell (World.block_lt_of_cell? w _ hw223_0)).trans hw223_0), ((HB.out.cell (World.block_lt_of_cell? w _ hw223_1)).trans hw223_1), ((HB.out.cell (World.block_lt_of_cell? w _ hw223_2)).trans hw223_2), ((HB.out.cell (World.block_lt_of_cell? w _ hw223_3)).trans hw223_3), ((HB.out.cell (World.block_lt_of_cell? w _ hw225_0)).trans hw225_0), ((HB.out.cell (World.block_lt_of_cell? w _ hw225_1)).trans hw225_1), ((HB.out.cell (World.block_lt_of_cell? w _ hw225_2)).trans hw225_2), ((HB.out.cell (World.block_lt_of_cell? w _ hw225_3)).trans hw225_3)⟩ (fun hHeld => ?_); refine with_tabW culetlaw13_LexerJoin.tab14 culetlaw13_LexerJoin.bits14 (fun HT_ HW_ => ?_)
              generalize wr.drew = w39 at HB hx223_0 hx223_1 hx223_2 hx223_3 hx225_0 hx225_1 hx225_2 hx225_3 hHeld ⊢
              refine ltd (o := [0, 1, 2, 5, 6, 7, 3, 8]) (n := 0) (m := 38) (by kernel_rfl) ?_
              iterate 8 (first | (refine tnd (v := ?_) (a' := ?_) rfl rfl (take_ofW HT_.out HW_.out (by kernel_rfl)) (fun _ _ _ h => h) (Or.inl ⟨by rfl, ?_⟩) hHeld ?_ ?_; rotate_left; (· (rintro w' ⟨s0, s1, s2, s3, s4, s5, s6, s7⟩; go_simp; with_reducible rfl)); rotate_left; (· (show Act.put _ (some _) _ = _; simp only [Act.put, List.setIfInBounds_toArray, List.set_cons_zero, List.set_cons_succ, i64_w, i32_w]; rfl))) | (refine pnd (v := ?_) (a' := ?_) rfl rfl (any_of HT_.out (by kernel_rfl)) (fun _ _ _ h => h) (Or.inl ⟨by rfl, ?_⟩) ?_ ?_; rotate_left; (· (intro w'; go_simp; with_reducible rfl)); rotate_left; (· (show Act.put _ (some _) _ = _; simp only [Act.put, List.setIfInBounds_toArray, List.set_cons_zero, List.set_cons_succ, i64_w, i32_w]; rfl))))
              refine one_ (i := 4) (N := some 46) #[true, true, true, true, true, true, true, true, true, false, false, false, false, false, false, false, false, false, false, false, false, false, false, false, false, false, false, false, false, false, false, false, false, false, false, false, false, false] rfl rfl (one_of HT_.out (by kernel_rfl)) (by decide) (fun K hK => ?_)
              refine goes_ Tryd.func23 (by kernel_rfl) rfl #[.agg #[.int .i64 ((rd_T40 l0 x39_3).f0), .string ((rd_T40 l0 x39_3).f1), .int .i64 ((rd_T40 l0 x39_3).f2), .int .i64 ((rd_T40 l0 x39_3).f3)]] (by rfl) rfl rfl (by (try simp only [List.map_toArray, List.map_cons, List.map_nil]); first | done | rfl | (simp only [List.length_drop, List.length_take]; rfl)) ?_
              with_reducible refine (lexer_Source.calls ((rd_T40 l0 x39_3).f0) ((rd_T40 l0 x39_3).f1) ((rd_T40 l0 x39_3).f2) ((rd_T40 l0 x39_3).f3) t224 _ A16.out).mono ?_
              rintro e w40 ⟨rfl, hb⟩
              refine ⟨_, rfl, ?_⟩
              have n0_ := am_ (below_step (mb_ HB.out) hb)
              clear HB
              have HB := n0_
              clear n0_
              (try clear hb)
              (try clear hb2)
              (try clear hk)
              (try clear hi)
              refine hK.out _ _ ⟨((HB.out.cell (World.block_lt_of_cell? w _ hw223_0)).trans hw223_0), ((HB.out.cell (World.block_lt_of_cell? w _ hw223_1)).trans hw223_1), ((HB.out.cell (World.block_lt_of_cell? w _ hw223_2)).trans hw223_2), ((HB.out.cell (World.block_lt_of_cell? w _ hw223_3)).trans hw223_3), ((HB.out.cell (World.block_lt_of_cell? w _ hw225_0)).trans hw225_0), ((HB.out.cell (World.block_lt_of_cell? w _ hw225_1)).trans hw225_1), ((HB.out.cell (World.block_lt_of_cell? w _ hw225_2)).trans hw225_2), ((HB.out.cell (World.block_lt_of_cell? w _ hw225_3)).trans hw225_3)⟩ (fun hHeld => ?_)
              clear hK K
              refine norm_ (a' := ?_) ?_ ?_
              rotate_left
              ·
               show Act.put _ (some 46) _ = _
               simp only [Act.put, List.setIfInBounds_toArray, List.set_cons_zero, List.set_cons_succ, i64_w, i32_w]
               rfl
              refine one_ (i := 9) (N := some 51) #[true, true, true, true, true, true, true, true, true, true, false, false, false, false, false, false, false, false, false, false, false, false, false, false, false, false, false, false, false, false, false, false, false, false, false, false, false, false] rfl rfl (one_of HT_.out (by kernel_rfl)) (by decide) (fun K hK => ?_)
              refine goes_ Tryd.func21 (by kernel_rfl) rfl #[.agg #[.int .i64 ((rd_T40 l0 x39_3).f0), .string ((rd_T40 l0 x39_3).f1), .int .i64 ((rd_T40 l0 x39_3).f2), .int .i64 ((rd_T40 l0 x39_3).f3)]] (by rfl) rfl rfl (by (try simp only [List.map_toArray, List.map_cons, List.map_nil]); first | done | rfl | (simp only [List.length_drop, List.length_take]; rfl)) ?_
              with_reducible refine (culetref13_Source.calls ((rd_T40 l0 x39_3).f0) ((rd_T40 l0 x39_3).f1) ((rd_T40 l0 x39_3).f2) ((rd_T40 l0 x39_3).f3) t226 _ A17.out).mono ?_
              rintro e w41 ⟨rfl, hb⟩
              refine ⟨_, rfl, ?_⟩
              have n0_ := am_ (below_step (mb_ HB.out) hb)
              clear HB
              have HB := n0_
              clear n0_
              (try clear hb)
              (try clear hb2)
              (try clear hk)
              (try clear hi)
              refine hK.out _ _ ⟨((HB.out.cell (World.block_lt_of_cell? w _ hw223_0)).trans hw223_0), ((HB.out.cell (World.block_lt_of_cell? w _ hw223_1)).trans hw223_1), ((HB.out.cell (World.block_lt_of_cell? w _ hw223_2)).trans hw223_2), ((HB.out.cell (World.block_lt_of_cell? w _ hw223_3)).trans hw223_3), ((HB.out.cell (World.block_lt_of_cell? w _ hw225_0)).trans hw225_0), ((HB.out.cell (World.block_lt_of_cell? w _ hw225_1)).trans hw225_1), ((HB.out.cell (World.block_lt_of_cell? w _ hw225_2)).trans hw225_2), ((HB.out.cell (World.block_lt_of_cell? w _ hw225_3)).trans hw225_3)⟩ (fun hHeld => ?_)
              clear hK K
              refine norm_ (a' := ?_) ?_ ?_
              rotate_left
              ·
               show Act.put _ (some 51) _ = _
               simp only [Act.put, List.setIfInBounds_toArray, List.set_cons_zero, List.set_cons_succ, i64_w, i32_w]
               rfl
              refine ltd (o := [0, 1, 2, 3, 4, 5, 6, 7, 8, 9, 10, 11, 12, 13, 14, 15, 16, 17, 18, 19, 20, 21, 22, 23, 24, 25, 26, 27, 28, 29, 30, 31, 32, 33, 34, 35, 36, 37]) (n := 10) (m := 38) (by kernel_rfl) ?_
              iterate 28 (first | (refine pnd rfl rfl (any_of HT_.out (by kernel_rfl)) (fun _ _ _ h => h) (Or.inr ⟨by rfl, rfl⟩) (a' := ?_) ?_ ?_; rotate_left; (· (show Act.put _ (some _) _ = _; simp only [Act.put, List.setIfInBounds_toArray, List.set_cons_zero, List.set_cons_succ, i64_w, i32_w]; rfl))) | (refine pnd (v := ?_) (a' := ?_) rfl rfl (any_of HT_.out (by kernel_rfl)) (fun _ _ _ h => h) (Or.inl ⟨by rfl, ?_⟩) ?_ ?_; rotate_left; (· (intro w'; go_simp; with_reducible rfl)); rotate_left; (· (show Act.put _ (some _) _ = _; simp only [Act.put, List.setIfInBounds_toArray, List.set_cons_zero, List.set_cons_succ, i64_w, i32_w]; rfl))))
              refine done_ (done_of HT_.out (by kernel_rfl)) ?_
              try go_wp2
              go_ret
              exact ⟨by first | rfl | (simp [errW_none, errW_some] <;> rfl) | (simp [*, errW_none, errW_some] <;> rfl), mb_ HB.out⟩
            ·
             rw [if_neg c15] at H
             exact absurd H (by simp)
           ·
            rw [if_neg c14] at H
            exact absurd H (by simp)
          ·
           rw [if_neg c13] at H
           have c13b0 : decide (x39_3 < (l0.length : Int)) = false := decide_eq_false c13
           clear c13
           replace H := Option.bind_eq_some_iff.mp H
           obtain ⟨t233, A420, H⟩ := H
           replace H : ((lexer_Join.f k3 t233).bind fun t236 => ((culetref13_Join.f k3 l0).bind fun t237 => (if t236.toList = t237.toList then ((lexer_Lex.f k3 a1).bind fun bt238 => (if bt238.2.2 = 0 then ((lexer_Join.f k3 bt238.1).bind fun t243 => ((lexer_Lex.f k3 t243).bind fun bt244 => (if bt244.2.2 = 0 then (culetlaw13_LexerJoin.j3 k3 bt238.1 bt244.1 ((bt244.1.length : Int) != (bt238.1.length : Int))) else (culetlaw13_LexerJoin.j3 k3 bt238.1 bt244.1 true)))) else (some true))) else (some false)))) = some r := H
           have A42 := am_ A420
           clear A420
           replace H := Option.bind_eq_some_iff.mp H
           obtain ⟨t236, A430, H⟩ := H
           replace H : ((culetref13_Join.f k3 l0).bind fun t237 => (if t236.toList = t237.toList then ((lexer_Lex.f k3 a1).bind fun bt238 => (if bt238.2.2 = 0 then ((lexer_Join.f k3 bt238.1).bind fun t243 => ((lexer_Lex.f k3 t243).bind fun bt244 => (if bt244.2.2 = 0 then (culetlaw13_LexerJoin.j3 k3 bt238.1 bt244.1 ((bt244.1.length : Int) != (bt238.1.length : Int))) else (culetlaw13_LexerJoin.j3 k3 bt238.1 bt244.1 true)))) else (some true))) else (some false))) = some r := H
           have A43 := am_ A430
           clear A430
           replace H := Option.bind_eq_some_iff.mp H
           obtain ⟨t237, A440, H⟩ := H
           replace H : (if t236.toList = t237.toList then ((lexer_Lex.f k3 a1).bind fun bt238 => (if bt238.2.2 = 0 then ((lexer_Join.f k3 bt238.1).bind fun t243 => ((lexer_Lex.f k3 t243).bind fun bt244 => (if bt244.2.2 = 0 then (culetlaw13_LexerJoin.j3 k3 bt238.1 bt244.1 ((bt244.1.length : Int) != (bt238.1.length : Int))) else (culetlaw13_LexerJoin.j3 k3 bt238.1 bt244.1 true)))) else (some true))) else (some false)) = some r := H
           have A44 := am_ A440
           clear A440
           by_cases c45 : t236.toList = t237.toList
           ·
            rw [if_pos c45] at H
            have c45b0 : (t236.toList == t237.toList) = true := beq_iff_eq.mpr c45
            have c45b1 : (t236.toList != t237.toList) = false := bne_eq_false_iff_eq.mpr c45
            clear c45
            replace H := Option.bind_eq_some_iff.mp H
            obtain ⟨⟨t238, t239, t240⟩, A460, H⟩ := H
            replace H : (if t240 = 0 then ((lexer_Join.f k3 t238).bind fun t243 => ((lexer_Lex.f k3 t243).bind fun bt244 => (if bt244.2.2 = 0 then (culetlaw13_LexerJoin.j3 k3 t238 bt244.1 ((bt244.1.length : Int) != (t238.length : Int))) else (culetlaw13_LexerJoin.j3 k3 t238 bt244.1 true)))) else (some true)) = some r := H
            have A46 := am_ A460
            clear A460
            by_cases c47 : t240 = 0
            ·
             rw [if_pos c47] at H
             have c47b0 : (t240 == 0) = true := beq_iff_eq.mpr c47
             have c47b1 : (t240 != 0) = false := bne_eq_false_iff_eq.mpr c47
             clear c47
             replace H := Option.bind_eq_some_iff.mp H
             obtain ⟨t243, A480, H⟩ := H
             replace H : ((lexer_Lex.f k3 t243).bind fun bt244 => (if bt244.2.2 = 0 then (culetlaw13_LexerJoin.j3 k3 t238 bt244.1 ((bt244.1.length : Int) != (t238.length : Int))) else (culetlaw13_LexerJoin.j3 k3 t238 bt244.1 true))) = some r := H
             have A48 := am_ A480
             clear A480
             replace H := Option.bind_eq_some_iff.mp H
             obtain ⟨⟨t244, t245, t246⟩, A490, H⟩ := H
             replace H : (if t246 = 0 then (culetlaw13_LexerJoin.j3 k3 t238 t244 ((t244.length : Int) != (t238.length : Int))) else (culetlaw13_LexerJoin.j3 k3 t238 t244 true)) = some r := H
             have A49 := am_ A490
             clear A490
             have HC50 := am_ H
             clear H
             go_upto_region 23 with (first | ((with_reducible refine gate_callee (f := 27) rfl ?_); refine goesL_ (some 82) rfl rfl Tryd.func27 (by kernel_rfl) rfl #[.slice A0 l0.length c0] rfl (by (try simp only [List.map_toArray, List.map_cons, List.map_nil]); first | done | rfl | (simp only [List.length_drop, List.length_take]; rfl)) ?_; (with_reducible refine (culetlaw13_own.calls k3 _ _ l0 t233 _ ?side1 ?side2 A42.out).mono ?_); (case side1 => exact mc_ (Kd.C_below HR0.out HB.out)); (case side2 => exact HC0.out); rintro e w51 ⟨v234, rfl, ho0, hb⟩; refine ⟨_, rfl, ?_⟩; have z_ := aI (am_ (Kd.R_lower ho0 (below_size (mb_ HB.out)))) (am_ (below_step (mb_ HB.out) hb)); clear HB; obtain ⟨HO235, HB⟩ := z_; (try clear hb); (try clear hb2); (try clear hk); (try clear hi); (try clear ho0); obtain ⟨Ao52, co52, eo52⟩ := Kd.R_slice HO235.out; subst eo52) | ((with_reducible refine gate_callee (f := 26) rfl ?_); refine goesL_ (some 83) rfl rfl Tryd.func26 (by kernel_rfl) rfl #[.slice Ao52 t233.length co52] rfl (by (try simp only [List.map_toArray, List.map_cons, List.map_nil]); first | done | rfl | (simp only [List.length_drop, List.length_take]; rfl)) ?_; (with_reducible refine (lexer_Join.calls k3 _ _ t233 t236 _ ?side1 ?side2 A43.out).mono ?_); (case side1 => exact mc_ (Kd.R_reads' HO235.out).2.2); (case side2 => exact (Kd.R_reads' HO235.out).2.1); rintro e w53 ⟨rfl, hb⟩; refine ⟨_, rfl, ?_⟩; have z_ := aI (am_ (Kd.R_below (mr_ HO235.out) hb)) (am_ (below_step (mb_ HB.out) hb)); clear HO235 HB; obtain ⟨HO235, HB⟩ := z_; (try clear hb); (try clear hb2); (try clear hk); (try clear hi)) | ((with_reducible refine gate_callee (f := 28) rfl ?_); refine goesL_ (some 85) rfl rfl Tryd.func28 (by kernel_rfl) rfl #[.slice A0 l0.length c0] rfl (by (try simp only [List.map_toArray, List.map_cons, List.map_nil]); first | done | rfl | (simp only [List.length_drop, List.length_take]; rfl)) ?_; (with_reducible refine (culetref13_Join.calls k3 _ _ l0 t237 _ ?side1 ?side2 A44.out).mono ?_); (case side1 => exact mc_ (Kd.C_below HR0.out HB.out)); (case side2 => exact HC0.out); rintro e w54 ⟨rfl, hb⟩; refine ⟨_, rfl, ?_⟩; have z_ := aI (am_ (Kd.R_below (mr_ HO235.out) hb)) (am_ (below_step (mb_ HB.out) hb)); clear HO235 HB; obtain ⟨HO235, HB⟩ := z_; (try clear hb); (try clear hb2); (try clear hk); (try clear hi)) | ((with_reducible refine gate_callee (f := 11) rfl ?_); refine goesL_ (some 89) rfl rfl Tryd.func11 (by kernel_rfl) rfl #[.string a1] rfl (by (try simp only [List.map_toArray, List.map_cons, List.map_nil]); first | done | rfl | (simp only [List.length_drop, List.length_take]; rfl)) ?_; (with_reducible refine (lexer_Lex.calls k3 a1 t238 t239 t240 _ A46.out).mono ?_); rintro e w55 ⟨v241, rfl, ho0, hb⟩; refine ⟨_, rfl, ?_⟩; have z_ := aI (am_ (Kd.R_elder' (mr_ HO235.out) (Kd.R_base ho0) hb)) (aI (am_ (Kd.R_lower (Kd.R_new' ho0 (Kd.R_lt (mr_ HO235.out))) (below_size (mb_ HB.out)))) (am_ (below_step (mb_ HB.out) hb))); clear HO235 HB; obtain ⟨HO235, HO242, HB⟩ := z_; (try clear hb); (try clear hb2); (try clear hk); (try clear hi); (try clear ho0); obtain ⟨Ao56, co56, eo56⟩ := Kd.R_slice HO242.out; subst eo56) | ((with_reducible refine gate_callee (f := 26) rfl ?_); refine goesL_ (some 97) rfl rfl Tryd.func26 (by kernel_rfl) rfl #[.slice Ao56 t238.length co56] rfl (by (try simp only [List.map_toArray, List.map_cons, List.map_nil]); first | done | rfl | (simp only [List.length_drop, List.length_take]; rfl)) ?_; (with_reducible refine (lexer_Join.calls k3 _ _ t238 t243 _ ?side1 ?side2 A48.out).mono ?_); (case side1 => exact mc_ (Kd.R_reads' HO242.out).2.2); (case side2 => exact (Kd.R_reads' HO242.out).2.1); rintro e w57 ⟨rfl, hb⟩; refine ⟨_, rfl, ?_⟩; have z_ := aI (am_ (Kd.R_below (mr_ HO235.out) hb)) (aI (am_ (Kd.R_below (mr_ HO242.out) hb)) (am_ (below_step (mb_ HB.out) hb))); clear HO235 HO242 HB; obtain ⟨HO235, HO242, HB⟩ := z_; (try clear hb); (try clear hb2); (try clear hk); (try clear hi)) | ((with_reducible refine gate_callee (f := 11) rfl ?_); refine goesL_ (some 98) rfl rfl Tryd.func11 (by kernel_rfl) rfl #[.string t243] rfl (by (try simp only [List.map_toArray, List.map_cons, List.map_nil]); first | done | rfl | (simp only [List.length_drop, List.length_take]; rfl)) ?_; (with_reducible refine (lexer_Lex.calls k3 t243 t244 t245 t246 _ A49.out).mono ?_); rintro e w58 ⟨v247, rfl, ho0, hb⟩; refine ⟨_, rfl, ?_⟩; have z_ := aI (am_ (Kd.R_elder' (mr_ HO235.out) (Kd.R_base ho0) hb)) (aI (am_ (Kd.R_elder' (mr_ HO242.out) (Kd.R_base ho0) hb)) (aI (am_ (Kd.R_lower (Kd.R_new' (Kd.R_new' ho0 (Kd.R_lt (mr_ HO235.out))) (Kd.R_lt (mr_ HO242.out))) (below_size (mb_ HB.out)))) (am_ (below_step (mb_ HB.out) hb)))); clear HO235 HO242 HB; obtain ⟨HO235, HO242, HO248, HB⟩ := z_; (try clear hb); (try clear hb2); (try clear hk); (try clear hi); (try clear ho0)))
             (try simp only [Act.put, List.setIfInBounds_toArray, List.set_cons_zero, List.set_cons_succ])
             go_cut [110] (fun v110 wc => ∃ (kq : Nat) (x110_49 : Bool), v110 = .bool x110_49 ∧ Aside0 (culetlaw13_LexerJoin.j3 kq t238 t244 x110_49 = some r) ∧ Aside0 (kq ≤ k3) ∧ Aside0 (Kd.R k38 38 wc w.heap.size (fun k_ => some k_ ≠ (v247 : Value).ownBlock) (.slice Ao56 t238.length co56) t238) ∧ Aside0 (Kd.R k38 38 wc w.heap.size (fun k_ => some k_ ≠ ((.slice Ao56 t238.length co56) : Value).ownBlock) v247 t244) ∧ Aside0 (Below w.heap.size w wc))
             case first =>
              have H := HC50.out
              clear HC50
              by_cases c59 : t246 = 0
              ·
               rw [if_pos c59] at H
               have c59b0 : (t246 == 0) = true := beq_iff_eq.mpr c59
               have c59b1 : (t246 != 0) = false := bne_eq_false_iff_eq.mpr c59
               clear c59
               (first | rw [c59b0] | (simp only [i64_w, i32_w]; rw [c59b0]) | skip)
               have H' := am_ H
               clear H
               obtain ⟨Ao60, co60, eo60⟩ := Kd.R_slice HO248.out
               subst eo60
               go_wp2
               go_meet
               case rel => exact ⟨_, (((t244.length : Int) != (t238.length : Int))), (by first | rfl | (simp; done) | (simp [*]; done)), H', ⟨by have := HJ4.out; have := HK2.out; have := HK3.out; first | omega | exact Nat.le_refl _⟩, ⟨by (with_reducible repeat (first | apply Kd.R_alloc | apply Kd.R_drewN | apply Kd.R_drew)); exact Kd.R_mono HO242.out (fun _ hk => hk.2)⟩, ⟨by (with_reducible repeat (first | apply Kd.R_alloc | apply Kd.R_drewN | apply Kd.R_drew)); exact Kd.R_mono HO248.out (fun _ hk => hk.2)⟩, ⟨mb_ HB.out⟩⟩
              ·
               rw [if_neg c59] at H
               have c59b0 : (t246 == 0) = false := beq_eq_false_iff_ne.mpr c59
               have c59b1 : (t246 != 0) = true := bne_iff_ne.mpr c59
               (first | rw [c59b0] | (simp only [i64_w, i32_w]; rw [c59b0]) | skip)
               have H' := am_ H
               clear H
               go_wp2
               go_meet
               case rel => exact ⟨_, (true), (by first | rfl | (simp; done) | (simp [*]; done)), H', ⟨by have := HJ4.out; have := HK2.out; have := HK3.out; first | omega | exact Nat.le_refl _⟩, ⟨by (with_reducible repeat (first | apply Kd.R_alloc | apply Kd.R_drewN | apply Kd.R_drew)); exact Kd.R_mono HO242.out (fun _ hk => hk.2)⟩, ⟨by (with_reducible repeat (first | apply Kd.R_alloc | apply Kd.R_drewN | apply Kd.R_drew)); exact Kd.R_mono HO248.out (fun _ hk => hk.2)⟩, ⟨mb_ HB.out⟩⟩
             case rest =>
              clear HC50
              try clear c1
              try clear c2
              try clear p2
              try clear q2
              try clear hx2
              try clear c4
              try clear c5
              try clear p6
              try clear c11
              try clear c13
              try clear c13b0
              try clear c14
              try clear c15
              try clear c18
              try clear c18b0
              try clear c18b1
              try clear c21
              try clear p22
              try clear q22
              try clear hx22
              try clear c23
              try clear c26
              try clear c27
              try clear c28
              try clear c45
              try clear c45b0
              try clear c45b1
              try clear c47
              try clear c47b0
              try clear c47b1
              try clear c59
              try clear c59b0
              try clear c59b1
              try clear hx223_0
              try clear hx223_1
              try clear hx223_2
              try clear hx223_3
              try clear hx225_0
              try clear hx225_1
              try clear hx225_2
              try clear hx225_3
              try clear p223
              try clear p225
              try clear q223
              try clear q225
              obtain ⟨kq, x110_49, rfl, HA, HJ49, HO_7, HO_10, HB⟩ := hcut
              cases kq with
              | zero => exact absurd HA.out (by simp [culetlaw13_LexerJoin.j3])
              | succ kj49 =>
               have H := HA.out
               clear HA
               simp only [culetlaw13_LexerJoin.j3] at H
               by_cases c61 : x110_49 = true
               ·
                subst c61
                have H1 : (some false) = some r := by rw [if_pos rfl] at H; exact H
                clear H
                have H := H1
                clear H1
                obtain rfl := Option.some.inj H
                go_wp2
                go_ret
                exact ⟨by first | rfl | (simp [errW_none, errW_some] <;> rfl) | (simp [*, errW_none, errW_some] <;> rfl), mb_ HB.out⟩
               ·
                replace c61 := Bool.eq_false_iff.mpr c61
                subst c61
                have H1 : (culetlaw13_LexerJoin.l2 kj49 t238 t244 (t238.length : Int) 0) = some r := by rw [if_neg (show ¬ (false = true) by decide)] at H; exact H
                clear H
                have H := H1
                clear H1
                have H' := am_ H
                clear H
                go_wp2
                go_loopg [113] kj49 (fun kq v113 w' => ∃ (x113_5 : Int), v113 = .int .i64 x113_5 ∧ Aside0 (culetlaw13_LexerJoin.l2 kq t238 t244 (t238.length : Int) x113_5 = some r) ∧ Aside0 (kq ≤ kj49) ∧ Aside0 (Kd.R k38 38 w' w.heap.size (fun k_ => some k_ ≠ (v247 : Value).ownBlock) (.slice Ao56 t238.length co56) t238) ∧ Aside0 (Kd.R k38 38 w' w.heap.size (fun k_ => some k_ ≠ ((.slice Ao56 t238.length co56) : Value).ownBlock) v247 t244) ∧ Aside0 (Below w.heap.size w w'))
                case atStart => exact ⟨(0), (by first | rfl | (simp; done) | (simp [*]; done)), H', ⟨Nat.le_refl _⟩, ⟨by (with_reducible repeat (first | apply Kd.R_alloc | apply Kd.R_drewN | apply Kd.R_drew)); exact HO_7.out⟩, ⟨by (with_reducible repeat (first | apply Kd.R_alloc | apply Kd.R_drewN | apply Kd.R_drew)); exact HO_10.out⟩, ⟨mb_ HB.out⟩⟩
                case round =>
                 clear H'
                 try clear c1
                 try clear c2
                 try clear p2
                 try clear q2
                 try clear hx2
                 try clear c4
                 try clear c5
                 try clear c6
                 try clear p6
                 try clear c11
                 try clear c13
                 try clear c13b0
                 try clear c14
                 try clear c15
                 try clear c18
                 try clear c18b0
                 try clear c18b1
                 try clear c21
                 try clear p22
                 try clear q22
                 try clear hx22
                 try clear c23
                 try clear c26
                 try clear c27
                 try clear c28
                 try clear c45
                 try clear c45b0
                 try clear c45b1
                 try clear c47
                 try clear c47b0
                 try clear c47b1
                 try clear c59
                 try clear c59b0
                 try clear c59b1
                 try clear c61
                 try clear hx223_0
                 try clear hx223_1
                 try clear hx223_2
                 try clear hx223_3
                 try clear hx225_0
                 try clear hx225_1
                 try clear hx225_2
                 try clear hx225_3
                 try clear p2
                 try clear p22
                 try clear p223
                 try clear p225
                 try clear p6
                 try clear q2
                 try clear q22
                 try clear q223
                 try clear q225
                 obtain ⟨x113_5, rfl, HA, HK5, HO_7, HO_10, HB⟩ := hrel
                 cases gk with
                 | zero => exact absurd HA.out (by simp [culetlaw13_LexerJoin.l2])
                 | succ k5 =>
                  have H := HA.out
                  clear HA
                  simp only [culetlaw13_LexerJoin.l2] at H
                  by_cases c62 : x113_5 < (t238.length : Int)
                  ·
                   rw [if_pos c62] at H
                   have c62b0 : decide (x113_5 < (t238.length : Int)) = true := decide_eq_true c62
                   clear c62
                   by_cases c63 : 0 ≤ x113_5
                   ·
                    rw [if_pos c63] at H
                    have c63b0 : decide (0 ≤ x113_5) = true := decide_eq_true c63
                    clear c63
                    by_cases c64 : x113_5 < (t238.length : Int)
                    ·
                     rw [if_pos c64] at H
                     have c64b0 : decide (x113_5 < (t238.length : Int)) = true := decide_eq_true c64
                     clear c64
                     by_cases c65 : x113_5 < (t244.length : Int)
                     ·
                      rw [if_pos c65] at H
                      have c65b0 : decide (x113_5 < (t244.length : Int)) = true := decide_eq_true c65
                      clear c65
                      by_cases c66 : ((rd_T38 t238 x113_5).f0) = ((rd_T38 t244 x113_5).f0)
                      ·
                       rw [if_pos c66] at H
                       have c66b0 : (((rd_T38 t238 x113_5).f0) == ((rd_T38 t244 x113_5).f0)) = true := beq_iff_eq.mpr c66
                       have c66b1 : (((rd_T38 t238 x113_5).f0) != ((rd_T38 t244 x113_5).f0)) = false := bne_eq_false_iff_eq.mpr c66
                       clear c66
                       by_cases c67 : ((rd_T38 t238 x113_5).f1).toList = ((rd_T38 t244 x113_5).f1).toList
                       ·
                        rw [if_pos c67] at H
                        have c67b0 : (((rd_T38 t238 x113_5).f1).toList == ((rd_T38 t244 x113_5).f1).toList) = true := beq_iff_eq.mpr c67
                        have c67b1 : (((rd_T38 t238 x113_5).f1).toList != ((rd_T38 t244 x113_5).f1).toList) = false := bne_eq_false_iff_eq.mpr c67
                        clear c67
                        have H' := am_ H
                        clear H
                        try go_wp2
                        have z_ := aI (am_ (Kd.R_drew HO_7.out)) (aI (am_ (Kd.R_drew HO_10.out)) (am_ (below_drew1 HB.out)))
                        clear HO_7 HO_10 HB
                        obtain ⟨HO_7, HO_10, HB⟩ := z_
                        have p249 : 0 ≤ (x113_5 : Int) := of_decide_eq_true (by first | (with_reducible assumption) | assumption)
                        have q249 : x113_5 < (t238.length : Int) := of_decide_eq_true (by first | (with_reducible assumption) | assumption)
                        obtain ⟨ad249, e249, hx249_0, hx249_1, hx249_2, hx249_3⟩ := at_T38 (Kd.R_reads' HO_7.out).2.2 x113_5 p249 q249
                        cases e249
                        replace p249 := eq_true p249
                        replace q249 := eq_true q249
                        obtain ⟨Ao69, co69, eo69⟩ := Kd.R_slice HO_10.out
                        (first | subst eo69 | (injection eo69 with f1_ f2_ f3_; have f4_ := f1_.symm; have f5_ := f3_.symm; clear f1_ f2_ f3_; subst f4_; subst f5_))
                        have p250 : 0 ≤ (x113_5 : Int) := of_decide_eq_true (by first | (with_reducible assumption) | assumption)
                        have q250 : x113_5 < (t244.length : Int) := of_decide_eq_true (by first | (with_reducible assumption) | assumption)
                        obtain ⟨ad250, e250, hx250_0, hx250_1, hx250_2, hx250_3⟩ := at_T38 (Kd.R_reads' HO_10.out).2.2 x113_5 p250 q250
                        cases e250
                        replace p250 := eq_true p250
                        replace q250 := eq_true q250
                        have p251 : 0 ≤ (x113_5 : Int) := of_decide_eq_true (by first | (with_reducible assumption) | assumption)
                        have q251 : x113_5 < (t238.length : Int) := of_decide_eq_true (by first | (with_reducible assumption) | assumption)
                        obtain ⟨ad251, e251, hx251_0, hx251_1, hx251_2, hx251_3⟩ := at_T38 (Kd.R_reads' HO_7.out).2.2 x113_5 p251 q251
                        obtain rfl : ad249 = ad251 := (by injection e251)
                        replace p251 := eq_true p251
                        replace q251 := eq_true q251
                        have p252 : 0 ≤ (x113_5 : Int) := of_decide_eq_true (by first | (with_reducible assumption) | assumption)
                        have q252 : x113_5 < (t244.length : Int) := of_decide_eq_true (by first | (with_reducible assumption) | assumption)
                        obtain ⟨ad252, e252, hx252_0, hx252_1, hx252_2, hx252_3⟩ := at_T38 (Kd.R_reads' HO_10.out).2.2 x113_5 p252 q252
                        obtain rfl : ad250 = ad252 := (by injection e252)
                        replace p252 := eq_true p252
                        replace q252 := eq_true q252
                        refine start_ (n := 24) (S := fun w' => w'.cell? (ad249.add ((x113_5).toNat * 4)) = some (.int .i64 ((rd_T38 t238 x113_5).f0)) ∧ w'.cell? ⟨(ad249.add ((x113_5).toNat * 4)).block, (ad249.add ((x113_5).toNat * 4)).off + 1, none⟩ = some (.string ((rd_T38 t238 x113_5).f1)) ∧ w'.cell? ⟨(ad249.add ((x113_5).toNat * 4)).block, (ad249.add ((x113_5).toNat * 4)).off + 2, none⟩ = some (.int .i64 ((rd_T38 t238 x113_5).f2)) ∧ w'.cell? ⟨(ad249.add ((x113_5).toNat * 4)).block, (ad249.add ((x113_5).toNat * 4)).off + 3, none⟩ = some (.int .i64 ((rd_T38 t238 x113_5).f3)) ∧ w'.cell? (ad250.add ((x113_5).toNat * 4)) = some (.int .i64 ((rd_T38 t244 x113_5).f0)) ∧ w'.cell? ⟨(ad250.add ((x113_5).toNat * 4)).block, (ad250.add ((x113_5).toNat * 4)).off + 1, none⟩ = some (.string ((rd_T38 t244 x113_5).f1)) ∧ w'.cell? ⟨(ad250.add ((x113_5).toNat * 4)).block, (ad250.add ((x113_5).toNat * 4)).off + 2, none⟩ = some (.int .i64 ((rd_T38 t244 x113_5).f2)) ∧ w'.cell? ⟨(ad250.add ((x113_5).toNat * 4)).block, (ad250.add ((x113_5).toNat * 4)).off + 3, none⟩ = some (.int .i64 ((rd_T38 t244 x113_5).f3)) ∧ w'.cell? (ad249.add ((x113_5).toNat * 4)) = some (.int .i64 ((rd_T38 t238 x113_5).f0)) ∧ w'.cell? ⟨(ad249.add ((x113_5).toNat * 4)).block, (ad249.add ((x113_5).toNat * 4)).off + 1, none⟩ = some (.string ((rd_T38 t238 x113_5).f1)) ∧ w'.cell? ⟨(ad249.add ((x113_5).toNat * 4)).block, (ad249.add ((x113_5).toNat * 4)).off + 2, none⟩ = some (.int .i64 ((rd_T38 t238 x113_5).f2)) ∧ w'.cell? ⟨(ad249.add ((x113_5).toNat * 4)).block, (ad249.add ((x113_5).toNat * 4)).off + 3, none⟩ = some (.int .i64 ((rd_T38 t238 x113_5).f3)) ∧ w'.cell? (ad250.add ((x113_5).toNat * 4)) = some (.int .i64 ((rd_T38 t244 x113_5).f0)) ∧ w'.cell? ⟨(ad250.add ((x113_5).toNat * 4)).block, (ad250.add ((x113_5).toNat * 4)).off + 1, none⟩ = some (.string ((rd_T38 t244 x113_5).f1)) ∧ w'.cell? ⟨(ad250.add ((x113_5).toNat * 4)).block, (ad250.add ((x113_5).toNat * 4)).off + 2, none⟩ = some (.int .i64 ((rd_T38 t244 x113_5).f2)) ∧ w'.cell? ⟨(ad250.add ((x113_5).toNat * 4)).block, (ad250.add ((x113_5).toNat * 4)).off + 3, none⟩ = some (.int .i64 ((rd_T38 t244 x113_5).f3))) (ds := []) #[false, false, false, false, false, false, false, false, false, false, false, false, false, false, false, false, false, false, false, false, false, false, false, false] (by kernel_rfl) rfl rfl ⟨hx249_0, hx249_1, hx249_2, hx249_3, hx250_0, hx250_1, hx250_2, hx250_3, hx251_0, hx251_1, hx251_2, hx251_3, hx252_0, hx252_1, hx252_2, hx252_3⟩ (fun hHeld => ?_); refine with_tabW culetlaw13_LexerJoin.tab28 culetlaw13_LexerJoin.bits28 (fun HT_ HW_ => ?_)
                        generalize wr.drew = w68 at HO_7 HO_10 HB hx249_0 hx249_1 hx249_2 hx249_3 hx250_0 hx250_1 hx250_2 hx250_3 hx251_0 hx251_1 hx251_2 hx251_3 hx252_0 hx252_1 hx252_2 hx252_3 hHeld ⊢
                        refine ltd (o := [0, 1, 2, 3, 5, 6, 7, 8, 4, 9, 10, 11, 12, 13, 14, 15, 17, 18, 19, 20, 16, 21, 22, 23]) (n := 0) (m := 24) (by kernel_rfl) ?_
                        iterate 24 (first | (refine tnd (v := ?_) (a' := ?_) rfl rfl (take_ofW HT_.out HW_.out (by kernel_rfl)) (fun _ _ _ h => h) (Or.inl ⟨by rfl, ?_⟩) hHeld ?_ ?_; rotate_left; (· (rintro w' ⟨s0, s1, s2, s3, s4, s5, s6, s7, s8, s9, s10, s11, s12, s13, s14, s15⟩; go_simp; with_reducible rfl)); rotate_left; (· (show Act.put _ (some _) _ = _; simp only [Act.put, List.setIfInBounds_toArray, List.set_cons_zero, List.set_cons_succ, i64_w, i32_w]; rfl))) | (refine pnd (v := ?_) (a' := ?_) rfl rfl (any_of HT_.out (by kernel_rfl)) (fun _ _ _ h => h) (Or.inl ⟨by rfl, ?_⟩) ?_ ?_; rotate_left; (· (intro w'; go_simp; with_reducible rfl)); rotate_left; (· (show Act.put _ (some _) _ = _; simp only [Act.put, List.setIfInBounds_toArray, List.set_cons_zero, List.set_cons_succ, i64_w, i32_w]; rfl))))
                        refine done_ (done_of HT_.out (by kernel_rfl)) ?_
                        try go_wp2
                        go_roundg k5
                        case measure => have := HJ4.out; have := HK2.out; have := HK3.out; have := HJ49.out; have := HK5.out; omega
                        case rel => exact ⟨(wrap64 (x113_5 + 1)), (by first | rfl | (simp; done) | (simp [*]; done)), H', ⟨by have := HJ4.out; have := HK2.out; have := HK3.out; have := HJ49.out; have := HK5.out; omega⟩, ⟨by (with_reducible repeat (first | apply Kd.R_alloc | apply Kd.R_drewN | apply Kd.R_drew)); exact HO_7.out⟩, ⟨by (with_reducible repeat (first | apply Kd.R_alloc | apply Kd.R_drewN | apply Kd.R_drew)); exact HO_10.out⟩, ⟨mb_ HB.out⟩⟩
                       ·
                        rw [if_neg c67] at H
                        have c67b0 : (((rd_T38 t238 x113_5).f1).toList == ((rd_T38 t244 x113_5).f1).toList) = false := beq_eq_false_iff_ne.mpr c67
                        have c67b1 : (((rd_T38 t238 x113_5).f1).toList != ((rd_T38 t244 x113_5).f1).toList) = true := bne_iff_ne.mpr c67
                        obtain rfl := Option.some.inj H
                        try go_wp2
                        have z_ := aI (am_ (Kd.R_drew HO_7.out)) (aI (am_ (Kd.R_drew HO_10.out)) (am_ (below_drew1 HB.out)))
                        clear HO_7 HO_10 HB
                        obtain ⟨HO_7, HO_10, HB⟩ := z_
                        have p249 : 0 ≤ (x113_5 : Int) := of_decide_eq_true (by first | (with_reducible assumption) | assumption)
                        have q249 : x113_5 < (t238.length : Int) := of_decide_eq_true (by first | (with_reducible assumption) | assumption)
                        obtain ⟨ad249, e249, hx249_0, hx249_1, hx249_2, hx249_3⟩ := at_T38 (Kd.R_reads' HO_7.out).2.2 x113_5 p249 q249
                        cases e249
                        replace p249 := eq_true p249
                        replace q249 := eq_true q249
                        obtain ⟨Ao71, co71, eo71⟩ := Kd.R_slice HO_10.out
                        (first | subst eo71 | (injection eo71 with f1_ f2_ f3_; have f4_ := f1_.symm; have f5_ := f3_.symm; clear f1_ f2_ f3_; subst f4_; subst f5_))
                        have p250 : 0 ≤ (x113_5 : Int) := of_decide_eq_true (by first | (with_reducible assumption) | assumption)
                        have q250 : x113_5 < (t244.length : Int) := of_decide_eq_true (by first | (with_reducible assumption) | assumption)
                        obtain ⟨ad250, e250, hx250_0, hx250_1, hx250_2, hx250_3⟩ := at_T38 (Kd.R_reads' HO_10.out).2.2 x113_5 p250 q250
                        cases e250
                        replace p250 := eq_true p250
                        replace q250 := eq_true q250
                        have p251 : 0 ≤ (x113_5 : Int) := of_decide_eq_true (by first | (with_reducible assumption) | assumption)
                        have q251 : x113_5 < (t238.length : Int) := of_decide_eq_true (by first | (with_reducible assumption) | assumption)
                        obtain ⟨ad251, e251, hx251_0, hx251_1, hx251_2, hx251_3⟩ := at_T38 (Kd.R_reads' HO_7.out).2.2 x113_5 p251 q251
                        obtain rfl : ad249 = ad251 := (by injection e251)
                        replace p251 := eq_true p251
                        replace q251 := eq_true q251
                        have p252 : 0 ≤ (x113_5 : Int) := of_decide_eq_true (by first | (with_reducible assumption) | assumption)
                        have q252 : x113_5 < (t244.length : Int) := of_decide_eq_true (by first | (with_reducible assumption) | assumption)
                        obtain ⟨ad252, e252, hx252_0, hx252_1, hx252_2, hx252_3⟩ := at_T38 (Kd.R_reads' HO_10.out).2.2 x113_5 p252 q252
                        obtain rfl : ad250 = ad252 := (by injection e252)
                        replace p252 := eq_true p252
                        replace q252 := eq_true q252
                        refine start_ (n := 24) (S := fun w' => w'.cell? (ad249.add ((x113_5).toNat * 4)) = some (.int .i64 ((rd_T38 t238 x113_5).f0)) ∧ w'.cell? ⟨(ad249.add ((x113_5).toNat * 4)).block, (ad249.add ((x113_5).toNat * 4)).off + 1, none⟩ = some (.string ((rd_T38 t238 x113_5).f1)) ∧ w'.cell? ⟨(ad249.add ((x113_5).toNat * 4)).block, (ad249.add ((x113_5).toNat * 4)).off + 2, none⟩ = some (.int .i64 ((rd_T38 t238 x113_5).f2)) ∧ w'.cell? ⟨(ad249.add ((x113_5).toNat * 4)).block, (ad249.add ((x113_5).toNat * 4)).off + 3, none⟩ = some (.int .i64 ((rd_T38 t238 x113_5).f3)) ∧ w'.cell? (ad250.add ((x113_5).toNat * 4)) = some (.int .i64 ((rd_T38 t244 x113_5).f0)) ∧ w'.cell? ⟨(ad250.add ((x113_5).toNat * 4)).block, (ad250.add ((x113_5).toNat * 4)).off + 1, none⟩ = some (.string ((rd_T38 t244 x113_5).f1)) ∧ w'.cell? ⟨(ad250.add ((x113_5).toNat * 4)).block, (ad250.add ((x113_5).toNat * 4)).off + 2, none⟩ = some (.int .i64 ((rd_T38 t244 x113_5).f2)) ∧ w'.cell? ⟨(ad250.add ((x113_5).toNat * 4)).block, (ad250.add ((x113_5).toNat * 4)).off + 3, none⟩ = some (.int .i64 ((rd_T38 t244 x113_5).f3)) ∧ w'.cell? (ad249.add ((x113_5).toNat * 4)) = some (.int .i64 ((rd_T38 t238 x113_5).f0)) ∧ w'.cell? ⟨(ad249.add ((x113_5).toNat * 4)).block, (ad249.add ((x113_5).toNat * 4)).off + 1, none⟩ = some (.string ((rd_T38 t238 x113_5).f1)) ∧ w'.cell? ⟨(ad249.add ((x113_5).toNat * 4)).block, (ad249.add ((x113_5).toNat * 4)).off + 2, none⟩ = some (.int .i64 ((rd_T38 t238 x113_5).f2)) ∧ w'.cell? ⟨(ad249.add ((x113_5).toNat * 4)).block, (ad249.add ((x113_5).toNat * 4)).off + 3, none⟩ = some (.int .i64 ((rd_T38 t238 x113_5).f3)) ∧ w'.cell? (ad250.add ((x113_5).toNat * 4)) = some (.int .i64 ((rd_T38 t244 x113_5).f0)) ∧ w'.cell? ⟨(ad250.add ((x113_5).toNat * 4)).block, (ad250.add ((x113_5).toNat * 4)).off + 1, none⟩ = some (.string ((rd_T38 t244 x113_5).f1)) ∧ w'.cell? ⟨(ad250.add ((x113_5).toNat * 4)).block, (ad250.add ((x113_5).toNat * 4)).off + 2, none⟩ = some (.int .i64 ((rd_T38 t244 x113_5).f2)) ∧ w'.cell? ⟨(ad250.add ((x113_5).toNat * 4)).block, (ad250.add ((x113_5).toNat * 4)).off + 3, none⟩ = some (.int .i64 ((rd_T38 t244 x113_5).f3))) (ds := []) #[false, false, false, false, false, false, false, false, false, false, false, false, false, false, false, false, false, false, false, false, false, false, false, false] (by kernel_rfl) rfl rfl ⟨hx249_0, hx249_1, hx249_2, hx249_3, hx250_0, hx250_1, hx250_2, hx250_3, hx251_0, hx251_1, hx251_2, hx251_3, hx252_0, hx252_1, hx252_2, hx252_3⟩ (fun hHeld => ?_); refine with_tabW culetlaw13_LexerJoin.tab28 culetlaw13_LexerJoin.bits28 (fun HT_ HW_ => ?_)
                        generalize wr.drew = w70 at HO_7 HO_10 HB hx249_0 hx249_1 hx249_2 hx249_3 hx250_0 hx250_1 hx250_2 hx250_3 hx251_0 hx251_1 hx251_2 hx251_3 hx252_0 hx252_1 hx252_2 hx252_3 hHeld ⊢
                        refine ltd (o := [0, 1, 2, 3, 5, 6, 7, 8, 4, 9, 10, 11, 12, 13, 14, 15, 17, 18, 19, 20, 16, 21, 22, 23]) (n := 0) (m := 24) (by kernel_rfl) ?_
                        iterate 24 (first | (refine tnd (v := ?_) (a' := ?_) rfl rfl (take_ofW HT_.out HW_.out (by kernel_rfl)) (fun _ _ _ h => h) (Or.inl ⟨by rfl, ?_⟩) hHeld ?_ ?_; rotate_left; (· (rintro w' ⟨s0, s1, s2, s3, s4, s5, s6, s7, s8, s9, s10, s11, s12, s13, s14, s15⟩; go_simp; with_reducible rfl)); rotate_left; (· (show Act.put _ (some _) _ = _; simp only [Act.put, List.setIfInBounds_toArray, List.set_cons_zero, List.set_cons_succ, i64_w, i32_w]; rfl))) | (refine pnd (v := ?_) (a' := ?_) rfl rfl (any_of HT_.out (by kernel_rfl)) (fun _ _ _ h => h) (Or.inl ⟨by rfl, ?_⟩) ?_ ?_; rotate_left; (· (intro w'; go_simp; with_reducible rfl)); rotate_left; (· (show Act.put _ (some _) _ = _; simp only [Act.put, List.setIfInBounds_toArray, List.set_cons_zero, List.set_cons_succ, i64_w, i32_w]; rfl))))
                        refine done_ (done_of HT_.out (by kernel_rfl)) ?_
                        try go_wp2
                        go_ret
                        exact ⟨by first | rfl | (simp [errW_none, errW_some] <;> rfl) | (simp [*, errW_none, errW_some] <;> rfl), mb_ HB.out⟩
                      ·
                       rw [if_neg c66] at H
                       have c66b0 : (((rd_T38 t238 x113_5).f0) == ((rd_T38 t244 x113_5).f0)) = false := beq_eq_false_iff_ne.mpr c66
                       have c66b1 : (((rd_T38 t238 x113_5).f0) != ((rd_T38 t244 x113_5).f0)) = true := bne_iff_ne.mpr c66
                       obtain rfl := Option.some.inj H
                       try go_wp2
                       have z_ := aI (am_ (Kd.R_drew HO_7.out)) (aI (am_ (Kd.R_drew HO_10.out)) (am_ (below_drew1 HB.out)))
                       clear HO_7 HO_10 HB
                       obtain ⟨HO_7, HO_10, HB⟩ := z_
                       have p249 : 0 ≤ (x113_5 : Int) := of_decide_eq_true (by first | (with_reducible assumption) | assumption)
                       have q249 : x113_5 < (t238.length : Int) := of_decide_eq_true (by first | (with_reducible assumption) | assumption)
                       obtain ⟨ad249, e249, hx249_0, hx249_1, hx249_2, hx249_3⟩ := at_T38 (Kd.R_reads' HO_7.out).2.2 x113_5 p249 q249
                       cases e249
                       replace p249 := eq_true p249
                       replace q249 := eq_true q249
                       obtain ⟨Ao73, co73, eo73⟩ := Kd.R_slice HO_10.out
                       (first | subst eo73 | (injection eo73 with f1_ f2_ f3_; have f4_ := f1_.symm; have f5_ := f3_.symm; clear f1_ f2_ f3_; subst f4_; subst f5_))
                       have p250 : 0 ≤ (x113_5 : Int) := of_decide_eq_true (by first | (with_reducible assumption) | assumption)
                       have q250 : x113_5 < (t244.length : Int) := of_decide_eq_true (by first | (with_reducible assumption) | assumption)
                       obtain ⟨ad250, e250, hx250_0, hx250_1, hx250_2, hx250_3⟩ := at_T38 (Kd.R_reads' HO_10.out).2.2 x113_5 p250 q250
                       cases e250
                       replace p250 := eq_true p250
                       replace q250 := eq_true q250
                       refine start_ (n := 24) (S := fun w' => w'.cell? (ad249.add ((x113_5).toNat * 4)) = some (.int .i64 ((rd_T38 t238 x113_5).f0)) ∧ w'.cell? ⟨(ad249.add ((x113_5).toNat * 4)).block, (ad249.add ((x113_5).toNat * 4)).off + 1, none⟩ = some (.string ((rd_T38 t238 x113_5).f1)) ∧ w'.cell? ⟨(ad249.add ((x113_5).toNat * 4)).block, (ad249.add ((x113_5).toNat * 4)).off + 2, none⟩ = some (.int .i64 ((rd_T38 t238 x113_5).f2)) ∧ w'.cell? ⟨(ad249.add ((x113_5).toNat * 4)).block, (ad249.add ((x113_5).toNat * 4)).off + 3, none⟩ = some (.int .i64 ((rd_T38 t238 x113_5).f3)) ∧ w'.cell? (ad250.add ((x113_5).toNat * 4)) = some (.int .i64 ((rd_T38 t244 x113_5).f0)) ∧ w'.cell? ⟨(ad250.add ((x113_5).toNat * 4)).block, (ad250.add ((x113_5).toNat * 4)).off + 1, none⟩ = some (.string ((rd_T38 t244 x113_5).f1)) ∧ w'.cell? ⟨(ad250.add ((x113_5).toNat * 4)).block, (ad250.add ((x113_5).toNat * 4)).off + 2, none⟩ = some (.int .i64 ((rd_T38 t244 x113_5).f2)) ∧ w'.cell? ⟨(ad250.add ((x113_5).toNat * 4)).block, (ad250.add ((x113_5).toNat * 4)).off + 3, none⟩ = some (.int .i64 ((rd_T38 t244 x113_5).f3))) (ds := []) #[false, false, false, false, false, false, false, false, false, false, false, false, false, false, false, false, false, false, false, false, false, false, false, false] (by kernel_rfl) rfl rfl ⟨hx249_0, hx249_1, hx249_2, hx249_3, hx250_0, hx250_1, hx250_2, hx250_3⟩ (fun hHeld => ?_); refine with_tabW culetlaw13_LexerJoin.tab28 culetlaw13_LexerJoin.bits28 (fun HT_ HW_ => ?_)
                       generalize wr.drew = w72 at HO_7 HO_10 HB hx249_0 hx249_1 hx249_2 hx249_3 hx250_0 hx250_1 hx250_2 hx250_3 hHeld ⊢
                       refine ltd (o := [0, 1, 2, 3, 5, 6, 7, 8, 4, 9, 10, 11, 12, 13, 14, 15, 16, 17, 18, 19, 20, 21, 22, 23]) (n := 0) (m := 24) (by kernel_rfl) ?_
                       iterate 24 (first | (refine pnd rfl rfl (any_of HT_.out (by kernel_rfl)) (fun _ _ _ h => h) (Or.inr ⟨by rfl, rfl⟩) (a' := ?_) ?_ ?_; rotate_left; (· (show Act.put _ (some _) _ = _; simp only [Act.put, List.setIfInBounds_toArray, List.set_cons_zero, List.set_cons_succ, i64_w, i32_w]; rfl))) | (refine tnd (v := ?_) (a' := ?_) rfl rfl (take_ofW HT_.out HW_.out (by kernel_rfl)) (fun _ _ _ h => h) (Or.inl ⟨by rfl, ?_⟩) hHeld ?_ ?_; rotate_left; (· (rintro w' ⟨s0, s1, s2, s3, s4, s5, s6, s7⟩; go_simp; with_reducible rfl)); rotate_left; (· (show Act.put _ (some _) _ = _; simp only [Act.put, List.setIfInBounds_toArray, List.set_cons_zero, List.set_cons_succ, i64_w, i32_w]; rfl))) | (refine pnd (v := ?_) (a' := ?_) rfl rfl (any_of HT_.out (by kernel_rfl)) (fun _ _ _ h => h) (Or.inl ⟨by rfl, ?_⟩) ?_ ?_; rotate_left; (· (intro w'; go_simp; with_reducible rfl)); rotate_left; (· (show Act.put _ (some _) _ = _; simp only [Act.put, List.setIfInBounds_toArray, List.set_cons_zero, List.set_cons_succ, i64_w, i32_w]; rfl))))
                       refine done_ (done_of HT_.out (by kernel_rfl)) ?_
                       try go_wp2
                       go_ret
                       exact ⟨by first | rfl | (simp [errW_none, errW_some] <;> rfl) | (simp [*, errW_none, errW_some] <;> rfl), mb_ HB.out⟩
                     ·
                      rw [if_neg c65] at H
                      exact absurd H (by simp)
                    ·
                     rw [if_neg c64] at H
                     exact absurd H (by simp)
                   ·
                    rw [if_neg c63] at H
                    exact absurd H (by simp)
                  ·
                   rw [if_neg c62] at H
                   have c62b0 : decide (x113_5 < (t238.length : Int)) = false := decide_eq_false c62
                   clear c62
                   obtain rfl := Option.some.inj H
                   go_wp2
                   go_ret
                   exact ⟨by first | rfl | (simp [errW_none, errW_some] <;> rfl) | (simp [*, errW_none, errW_some] <;> rfl), mb_ HB.out⟩
            ·
             rw [if_neg c47] at H
             have c47b0 : (t240 == 0) = false := beq_eq_false_iff_ne.mpr c47
             have c47b1 : (t240 != 0) = true := bne_iff_ne.mpr c47
             obtain rfl := Option.some.inj H
             go_wp2_with (first | ((with_reducible refine gate_callee (f := 27) rfl ?_); refine goesL_ (some 82) rfl rfl Tryd.func27 (by kernel_rfl) rfl #[.slice A0 l0.length c0] rfl (by (try simp only [List.map_toArray, List.map_cons, List.map_nil]); first | done | rfl | (simp only [List.length_drop, List.length_take]; rfl)) ?_; (with_reducible refine (culetlaw13_own.calls k3 _ _ l0 t233 _ ?side1 ?side2 A42.out).mono ?_); (case side1 => exact mc_ (Kd.C_below HR0.out HB.out)); (case side2 => exact HC0.out); rintro e w74 ⟨v234, rfl, ho0, hb⟩; refine ⟨_, rfl, ?_⟩; have z_ := aI (am_ (Kd.R_lower ho0 (below_size (mb_ HB.out)))) (am_ (below_step (mb_ HB.out) hb)); clear HB; obtain ⟨HO235, HB⟩ := z_; (try clear hb); (try clear hb2); (try clear hk); (try clear hi); (try clear ho0); obtain ⟨Ao75, co75, eo75⟩ := Kd.R_slice HO235.out; subst eo75) | ((with_reducible refine gate_callee (f := 26) rfl ?_); refine goesL_ (some 83) rfl rfl Tryd.func26 (by kernel_rfl) rfl #[.slice Ao75 t233.length co75] rfl (by (try simp only [List.map_toArray, List.map_cons, List.map_nil]); first | done | rfl | (simp only [List.length_drop, List.length_take]; rfl)) ?_; (with_reducible refine (lexer_Join.calls k3 _ _ t233 t236 _ ?side1 ?side2 A43.out).mono ?_); (case side1 => exact mc_ (Kd.R_reads' HO235.out).2.2); (case side2 => exact (Kd.R_reads' HO235.out).2.1); rintro e w76 ⟨rfl, hb⟩; refine ⟨_, rfl, ?_⟩; have z_ := aI (am_ (Kd.R_below (mr_ HO235.out) hb)) (am_ (below_step (mb_ HB.out) hb)); clear HO235 HB; obtain ⟨HO235, HB⟩ := z_; (try clear hb); (try clear hb2); (try clear hk); (try clear hi)) | ((with_reducible refine gate_callee (f := 28) rfl ?_); refine goesL_ (some 85) rfl rfl Tryd.func28 (by kernel_rfl) rfl #[.slice A0 l0.length c0] rfl (by (try simp only [List.map_toArray, List.map_cons, List.map_nil]); first | done | rfl | (simp only [List.length_drop, List.length_take]; rfl)) ?_; (with_reducible refine (culetref13_Join.calls k3 _ _ l0 t237 _ ?side1 ?side2 A44.out).mono ?_); (case side1 => exact mc_ (Kd.C_below HR0.out HB.out)); (case side2 => exact HC0.out); rintro e w77 ⟨rfl, hb⟩; refine ⟨_, rfl, ?_⟩; have z_ := aI (am_ (Kd.R_below (mr_ HO235.out) hb)) (am_ (below_step (mb_ HB.out) hb)); clear HO235 HB; obtain ⟨HO235, HB⟩ := z_; (try clear hb); (try clear hb2); (try clear hk); (try clear hi)) | ((with_reducible refine gate_callee (f := 11) rfl ?_); refine goesL_ (some 89) rfl rfl Tryd.func11 (by kernel_rfl) rfl #[.string a1] rfl (by (try simp only [List.map_toArray, List.map_cons, List.map_nil]); first | done | rfl | (simp only [List.length_drop, List.length_take]; rfl)) ?_; (with_reducible refine (lexer_Lex.calls k3 a1 t238 t239 t240 _ A46.out).mono ?_); rintro e w78 ⟨v241, rfl, ho0, hb⟩; refine ⟨_, rfl, ?_⟩; have z_ := aI (am_ (Kd.R_elder' (mr_ HO235.out) (Kd.R_base ho0) hb)) (aI (am_ (Kd.R_lower (Kd.R_new' ho0 (Kd.R_lt (mr_ HO235.out))) (below_size (mb_ HB.out)))) (am_ (below_step (mb_ HB.out) hb))); clear HO235 HB; obtain ⟨HO235, HO242, HB⟩ := z_; (try clear hb); (try clear hb2); (try clear hk); (try clear hi); (try clear ho0)))
             go_ret
             exact ⟨by first | rfl | (simp [errW_none, errW_some] <;> rfl) | (simp [*, errW_none, errW_some] <;> rfl), mb_ HB.out⟩
           ·
            rw [if_neg c45] at H
            have c45b0 : (t236.toList == t237.toList) = false := beq_eq_false_iff_ne.mpr c45
            have c45b1 : (t236.toList != t237.toList) = true := bne_iff_ne.mpr c45
            obtain rfl := Option.some.inj H
            go_wp2_with (first | ((with_reducible refine gate_callee (f := 27) rfl ?_); refine goesL_ (some 82) rfl rfl Tryd.func27 (by kernel_rfl) rfl #[.slice A0 l0.length c0] rfl (by (try simp only [List.map_toArray, List.map_cons, List.map_nil]); first | done | rfl | (simp only [List.length_drop, List.length_take]; rfl)) ?_; (with_reducible refine (culetlaw13_own.calls k3 _ _ l0 t233 _ ?side1 ?side2 A42.out).mono ?_); (case side1 => exact mc_ (Kd.C_below HR0.out HB.out)); (case side2 => exact HC0.out); rintro e w79 ⟨v234, rfl, ho0, hb⟩; refine ⟨_, rfl, ?_⟩; have z_ := aI (am_ (Kd.R_lower ho0 (below_size (mb_ HB.out)))) (am_ (below_step (mb_ HB.out) hb)); clear HB; obtain ⟨HO235, HB⟩ := z_; (try clear hb); (try clear hb2); (try clear hk); (try clear hi); (try clear ho0); obtain ⟨Ao80, co80, eo80⟩ := Kd.R_slice HO235.out; subst eo80) | ((with_reducible refine gate_callee (f := 26) rfl ?_); refine goesL_ (some 83) rfl rfl Tryd.func26 (by kernel_rfl) rfl #[.slice Ao80 t233.length co80] rfl (by (try simp only [List.map_toArray, List.map_cons, List.map_nil]); first | done | rfl | (simp only [List.length_drop, List.length_take]; rfl)) ?_; (with_reducible refine (lexer_Join.calls k3 _ _ t233 t236 _ ?side1 ?side2 A43.out).mono ?_); (case side1 => exact mc_ (Kd.R_reads' HO235.out).2.2); (case side2 => exact (Kd.R_reads' HO235.out).2.1); rintro e w81 ⟨rfl, hb⟩; refine ⟨_, rfl, ?_⟩; have z_ := aI (am_ (Kd.R_below (mr_ HO235.out) hb)) (am_ (below_step (mb_ HB.out) hb)); clear HO235 HB; obtain ⟨HO235, HB⟩ := z_; (try clear hb); (try clear hb2); (try clear hk); (try clear hi)) | ((with_reducible refine gate_callee (f := 28) rfl ?_); refine goesL_ (some 85) rfl rfl Tryd.func28 (by kernel_rfl) rfl #[.slice A0 l0.length c0] rfl (by (try simp only [List.map_toArray, List.map_cons, List.map_nil]); first | done | rfl | (simp only [List.length_drop, List.length_take]; rfl)) ?_; (with_reducible refine (culetref13_Join.calls k3 _ _ l0 t237 _ ?side1 ?side2 A44.out).mono ?_); (case side1 => exact mc_ (Kd.C_below HR0.out HB.out)); (case side2 => exact HC0.out); rintro e w82 ⟨rfl, hb⟩; refine ⟨_, rfl, ?_⟩; have z_ := aI (am_ (Kd.R_below (mr_ HO235.out) hb)) (am_ (below_step (mb_ HB.out) hb)); clear HO235 HB; obtain ⟨HO235, HB⟩ := z_; (try clear hb); (try clear hb2); (try clear hk); (try clear hi)))
            go_ret
            exact ⟨by first | rfl | (simp [errW_none, errW_some] <;> rfl) | (simp [*, errW_none, errW_some] <;> rfl), mb_ HB.out⟩
 ·
  replace c4 := Bool.eq_false_iff.mpr c4
  subst c4
  have H1 : (some false) = some r := by rw [if_neg (show ¬ (false = true) by decide)] at H; exact H
  clear H
  have H := H1
  clear H1
  obtain rfl := Option.some.inj H
  go_enter Tryd.func9, Tryd.ntmps9
  go_wp2_with (first | ((with_reducible refine gate_callee (f := 10) rfl ?_); refine goesL_ (some 14) rfl rfl Tryd.func10 (by kernel_rfl) rfl #[] rfl (by (try simp only [List.map_toArray, List.map_cons, List.map_nil]); first | done | rfl | (simp only [List.length_drop, List.length_take]; rfl)) ?_; (with_reducible refine (culetlaw13_awake.calls k  false _ A3.out).mono ?_); rintro e w83 ⟨rfl, hb⟩; refine ⟨_, rfl, ?_⟩; have n0_ := am_ (below_step (mb_ HB.out) hb); clear HB; have HB := n0_; clear n0_; (try clear hb); (try clear hb2); (try clear hk); (try clear hi)))
  go_ret
  exact ⟨by first | rfl | (simp [errW_none, errW_some] <;> rfl) | (simp [*, errW_none, errW_some] <;> rfl), mb_ HB.out⟩

end Go.Proofs.YthjmbagkomnpgaaDoor.L
