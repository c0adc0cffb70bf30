-- Written by this session's own programs; what the law does not lean on is left out. Lean checks it.
import Derived.Test.YthjmbagkomnpgaaDoorJS
import Derived.Test.YthjmbagkomnpgaaDoorJR
namespace Go.Proofs.YthjmbagkomnpgaaDoor.L
open Go.RowKit Go.Proofs.YthjmbagkomnpgaaDoorW.PrintWords Go.Proofs.YthjmbagkomnpgaaDoorW.PrintLast Go.Proofs.YthjmbagkomnpgaaDoorW.PrintMore
set_option linter.unusedVariables false
set_option linter.unusedSimpArgs false

mutual
def culetref13_length.j1 : Nat → ByteArray → Int → Int → Option (Int × Int)
 | 0, _, _, _ => none
 | k + 1, x0, x1, x7 => if 0 ≤ x1 then (if x1 ≤ x7 then (if x7 ≤ (x0.size : Int) then ((culetref13_Reserved.f k (x0.extract (x1 : Int).toNat (x7 : Int).toNat)).bind fun t170 => (if t170 = true then (some (2, wrap64 (x7 - x1))) else ((culetref13_IsName.f k (x0.extract (x1 : Int).toNat (x7 : Int).toNat)).bind fun t171 => (if t171 = true then (some (1, wrap64 (x7 - x1))) else (some (0, 0)))))) else (none)) else (none)) else (none)
def culetref13_length.l0 : Nat → ByteArray → Int → Int → Option (Int × Int)
 | 0, _, _, _ => none
 | k + 1, x0, x1, x7 => if x7 < (x0.size : Int) then (if 0 ≤ x7 then ((culetref13_letter.f (bt x0 x7)).bind fun t168 => (if t168 = true then (culetref13_length.l0 k x0 x1 (wrap64 (x7 + 1))) else ((culetref13_digit.f (bt x0 x7)).bind fun t169 => (if t169 = true then (culetref13_length.l0 k x0 x1 (wrap64 (x7 + 1))) else (if (bt x0 x7) = 45 then (culetref13_length.l0 k x0 x1 (wrap64 (x7 + 1))) else (if (bt x0 x7) = 95 then (culetref13_length.l0 k x0 x1 (wrap64 (x7 + 1))) else (culetref13_length.j1 k x0 x1 x7))))))) else (none)) else (culetref13_length.j1 k x0 x1 x7)
def culetref13_length.j2 : Nat → ByteArray → Int → Int → Int → Bool → Option (Int × Int)
 | 0, _, _, _, _, _ => none
 | k + 1, x0, x1, x6, x7, x64 => if x64 = true then (culetref13_length.l1 k x0 x1 x7) else (if x6 = 34 then (culetref13_length.l2 k x0 x1 x7) else (if x6 = 47 then (some (5, 1)) else (if x6 = 44 then (some (5, 1)) else (if x6 = 58 then (some (5, 1)) else (some (0, 0))))))
def culetref13_length.l1 : Nat → ByteArray → Int → Int → Option (Int × Int)
 | 0, _, _, _ => none
 | k + 1, x0, x1, x7 => if x7 < (x0.size : Int) then (if 0 ≤ x7 then ((culetref13_digit.f (bt x0 x7)).bind fun t173 => (if t173 = true then (culetref13_length.l1 k x0 x1 (wrap64 (x7 + 1))) else (if 0 ≤ x1 then (if x1 ≤ x7 then (if x7 ≤ (x0.size : Int) then ((culetref13_Value.f k (x0.extract (x1 : Int).toNat (x7 : Int).toNat)).bind fun bt174 => (if bt174.2 = true then (some (3, wrap64 (x7 - x1))) else (some (0, 0)))) else (none)) else (none)) else (none)))) else (none)) else (if 0 ≤ x1 then (if x1 ≤ x7 then (if x7 ≤ (x0.size : Int) then ((culetref13_Value.f k (x0.extract (x1 : Int).toNat (x7 : Int).toNat)).bind fun bt176 => (if bt176.2 = true then (some (3, wrap64 (x7 - x1))) else (some (0, 0)))) else (none)) else (none)) else (none))
def culetref13_length.l2 : Nat → ByteArray → Int → Int → Option (Int × Int)
 | 0, _, _, _ => none
 | k + 1, x0, x1, x7 => if x7 < (x0.size : Int) then (if 0 ≤ x7 then (if (bt x0 x7) = 34 then (if (wrap64 ((wrap64 (x7 - x1)) - 1)) ≤ 2000 then (some (4, wrap64 ((wrap64 (x7 + 1)) - x1))) else (some (0, 0))) else (if (bt x0 x7) = 10 then (some (0, 0)) else (culetref13_length.l2 k x0 x1 (wrap64 (x7 + 1))))) else (none)) else (some (0, 0))
end
def culetref13_length.f (k : Nat) (a0 : ByteArray) (a1 : Int) : Option (Int × Int) := if 0 ≤ a1 then (if a1 < (a0.size : Int) then ((culetref13_letter.f (bt a0 a1)).bind fun t167 => (if t167 = true then (culetref13_length.l0 k a0 a1 (wrap64 (a1 + 1))) else (if (bt a0 a1) = 45 then (culetref13_length.j2 k a0 a1 (bt a0 a1) (wrap64 (a1 + 1)) true) else ((culetref13_digit.f (bt a0 a1)).bind fun t172 => (culetref13_length.j2 k a0 a1 (bt a0 a1) (wrap64 (a1 + 1)) t172))))) else (none)) else (none)
set_option maxHeartbeats 8000000 in
set_option maxRecDepth 100000 in
theorem culetref13_length.calls (k : Nat) (a0 : ByteArray) (a1 : Int) (r1 : Int) (r2 : Int) (w : World) (h : culetref13_length.f k a0 a1 = some (r1, r2)) :
  Calls Tryd.prog 32 #[.string a0, .int .i64 a1] w fun e w' => e = .returned (.tuple #[.int .i64 r1, .int .i64 r2]) ∧ Below w.heap.size w w' := by
 have HB := Aside0.mk (Below.refl w.heap.size w)
 have H : (if 0 ≤ a1 then (if a1 < (a0.size : Int) then ((culetref13_letter.f (bt a0 a1)).bind fun t167 => (if t167 = true then (culetref13_length.l0 k a0 a1 (wrap64 (a1 + 1))) else (if (bt a0 a1) = 45 then (culetref13_length.j2 k a0 a1 (bt a0 a1) (wrap64 (a1 + 1)) true) else ((culetref13_digit.f (bt a0 a1)).bind fun t172 => (culetref13_length.j2 k a0 a1 (bt a0 a1) (wrap64 (a1 + 1)) t172))))) else (none)) else (none)) = some (r1, r2) := h
 clear h
 by_cases c3 : 0 ≤ a1
 ·
  rw [if_pos c3] at H
  have c3b0 : decide (0 ≤ a1) = true := decide_eq_true c3
  clear c3
  by_cases c4 : a1 < (a0.size : Int)
  ·
   rw [if_pos c4] at H
   have c4b0 : decide (a1 < (a0.size : Int)) = true := decide_eq_true c4
   clear c4
   replace H := Option.bind_eq_some_iff.mp H
   obtain ⟨t167, A60, H⟩ := H
   replace H : (if t167 = true then (culetref13_length.l0 k a0 a1 (wrap64 (a1 + 1))) else (if (bt a0 a1) = 45 then (culetref13_length.j2 k a0 a1 (bt a0 a1) (wrap64 (a1 + 1)) true) else ((culetref13_digit.f (bt a0 a1)).bind fun t172 => (culetref13_length.j2 k a0 a1 (bt a0 a1) (wrap64 (a1 + 1)) t172)))) = some (r1, r2) := H
   have A6 := Aside0.mk A60
   clear A60
   by_cases c7 : t167 = true
   ·
    subst c7
    have H1 : (culetref13_length.l0 k a0 a1 (wrap64 (a1 + 1))) = some (r1, r2) := by rw [if_pos rfl] at H; exact H
    clear H
    have H := H1
    clear H1
    have HC8 := Aside0.mk H
    clear H
    have p5 : 0 ≤ (a1 : Int) := of_decide_eq_true (by first | (with_reducible assumption) | assumption)
    have q5 : a1 < (a0.size : Int) := of_decide_eq_true (by first | (with_reducible assumption) | assumption)
    have hx5 := bt_at a0 a1
    replace p5 := eq_true p5
    replace q5 := eq_true q5
    go_enter Tryd.func32, Tryd.ntmps32
    go_upto_block 1 with (first | ((with_reducible refine gate_callee (f := 43) rfl ?_); refine goesL_ (some 17) rfl rfl Tryd.func43 (by kernel_rfl) rfl #[.int .u8 (bt a0 a1)] rfl (by (try simp only [List.map_toArray, List.map_cons, List.map_nil]); first | done | rfl | (simp only [List.length_drop, List.length_take]; rfl)) ?_; (with_reducible refine (culetref13_letter.calls (bt a0 a1) true _ A6.out).mono ?_); rintro e w' ⟨rfl, ⟨nd, rfl⟩⟩; refine ⟨_, rfl, ?_⟩))
    (try simp only [Act.put, List.setIfInBounds_toArray, List.set_cons_zero, List.set_cons_succ])
    go_cut [7] (fun v7 wc => ∃ (kq : Nat) (x7_7 : Int), v7 = .int .i64 x7_7 ∧ Aside0 (culetref13_length.j1 kq a0 a1 x7_7 = some (r1, r2)) ∧ Aside0 (kq ≤ k) ∧ Aside0 (Below w.heap.size w wc))
    case first =>
     have H := HC8.out
     clear HC8
     have H' := Aside0.mk H
     clear H
     go_wp2
     go_loopg [7] k (fun kq v7 w' => ∃ (x7_1 : Int), v7 = .int .i64 x7_1 ∧ Aside0 (culetref13_length.l0 kq a0 a1 x7_1 = some (r1, r2)) ∧ Aside0 (kq ≤ k) ∧ Aside0 (Below w.heap.size w w'))
     case atStart => exact ⟨(wrap64 (a1 + 1)), (by first | rfl | (simp; done) | (simp [*]; done)), H', ⟨Nat.le_refl _⟩, ⟨by repeat (first | (with_reducible first | exact HB.out | apply below_alloc | apply pw_below_drewN | apply below_drew1) | exact HB.out)⟩⟩
     case round =>
      clear H'
      try clear p2
      try clear c3
      try clear c3b0
      try clear c4
      try clear c4b0
      try clear p5
      try clear q5
      try clear hx5
      try clear p6
      try clear c7
      try clear p5
      try clear q5
      obtain ⟨x7_1, rfl, HA, HK1, HB⟩ := hrel
      cases gk with
      | zero => exact absurd HA.out (by simp [culetref13_length.l0])
      | succ k1 =>
       have H := HA.out
       clear HA
       simp only [culetref13_length.l0] at H
       by_cases c9 : x7_1 < (a0.size : Int)
       ·
        rw [if_pos c9] at H
        have c9b0 : decide (x7_1 < (a0.size : Int)) = true := decide_eq_true c9
        clear c9
        (first | rw [c9b0] | (simp only [i64_w, i32_w]; rw [c9b0]) | skip)
        by_cases c10 : 0 ≤ x7_1
        ·
         rw [if_pos c10] at H
         have c10b0 : decide (0 ≤ x7_1) = true := decide_eq_true c10
         clear c10
         replace H := Option.bind_eq_some_iff.mp H
         obtain ⟨t168, A120, H⟩ := H
         replace H : (if t168 = true then (culetref13_length.l0 k1 a0 a1 (wrap64 (x7_1 + 1))) else ((culetref13_digit.f (bt a0 x7_1)).bind fun t169 => (if t169 = true then (culetref13_length.l0 k1 a0 a1 (wrap64 (x7_1 + 1))) else (if (bt a0 x7_1) = 45 then (culetref13_length.l0 k1 a0 a1 (wrap64 (x7_1 + 1))) else (if (bt a0 x7_1) = 95 then (culetref13_length.l0 k1 a0 a1 (wrap64 (x7_1 + 1))) else (culetref13_length.j1 k1 a0 a1 x7_1)))))) = some (r1, r2) := H
         have A12 := Aside0.mk A120
         clear A120
         by_cases c13 : t168 = true
         ·
          subst c13
          have H1 : (culetref13_length.l0 k1 a0 a1 (wrap64 (x7_1 + 1))) = some (r1, r2) := by rw [if_pos rfl] at H; exact H
          clear H
          have H := H1
          clear H1
          have H' := Aside0.mk H
          clear H
          have p11 : 0 ≤ (x7_1 : Int) := of_decide_eq_true (by first | (with_reducible assumption) | assumption)
          have q11 : x7_1 < (a0.size : Int) := of_decide_eq_true (by first | (with_reducible assumption) | assumption)
          have hx11 := bt_at a0 x7_1
          replace p11 := eq_true p11
          replace q11 := eq_true q11
          go_wp2_with (first | (go_at_call 43; (with_reducible refine (culetref13_letter.calls (bt a0 x7_1) true _ A12.out).mono ?_); rintro e w' ⟨rfl, ⟨nd, rfl⟩⟩))
          go_roundg k1
          case measure => have := HK1.out; omega
          case rel => exact ⟨(wrap64 (x7_1 + 1)), (by first | rfl | (simp; done) | (simp [*]; done)), H', ⟨by have := HK1.out; omega⟩, ⟨by repeat (first | (with_reducible first | exact HB.out | apply below_alloc | apply pw_below_drewN | apply below_drew1) | exact HB.out)⟩⟩
         ·
          replace c13 := Bool.eq_false_iff.mpr c13
          subst c13
          have H1 : ((culetref13_digit.f (bt a0 x7_1)).bind fun t169 => (if t169 = true then (culetref13_length.l0 k1 a0 a1 (wrap64 (x7_1 + 1))) else (if (bt a0 x7_1) = 45 then (culetref13_length.l0 k1 a0 a1 (wrap64 (x7_1 + 1))) else (if (bt a0 x7_1) = 95 then (culetref13_length.l0 k1 a0 a1 (wrap64 (x7_1 + 1))) else (culetref13_length.j1 k1 a0 a1 x7_1))))) = some (r1, r2) := by rw [if_neg (show ¬ (false = true) by decide)] at H; exact H
          clear H
          have H := H1
          clear H1
          replace H := Option.bind_eq_some_iff.mp H
          obtain ⟨t169, A150, H⟩ := H
          replace H : (if t169 = true then (culetref13_length.l0 k1 a0 a1 (wrap64 (x7_1 + 1))) else (if (bt a0 x7_1) = 45 then (culetref13_length.l0 k1 a0 a1 (wrap64 (x7_1 + 1))) else (if (bt a0 x7_1) = 95 then (culetref13_length.l0 k1 a0 a1 (wrap64 (x7_1 + 1))) else (culetref13_length.j1 k1 a0 a1 x7_1)))) = some (r1, r2) := H
          have A15 := Aside0.mk A150
          clear A150
          by_cases c16 : t169 = true
          ·
           subst c16
           have H1 : (culetref13_length.l0 k1 a0 a1 (wrap64 (x7_1 + 1))) = some (r1, r2) := by rw [if_pos rfl] at H; exact H
           clear H
           have H := H1
           clear H1
           have H' := Aside0.mk H
           clear H
           have p11 : 0 ≤ (x7_1 : Int) := of_decide_eq_true (by first | (with_reducible assumption) | assumption)
           have q11 : x7_1 < (a0.size : Int) := of_decide_eq_true (by first | (with_reducible assumption) | assumption)
           have hx11 := bt_at a0 x7_1
           replace p11 := eq_true p11
           replace q11 := eq_true q11
           go_wp2_with (first | (go_at_call 43; (with_reducible refine (culetref13_letter.calls (bt a0 x7_1) false _ A12.out).mono ?_); rintro e w' ⟨rfl, ⟨nd, rfl⟩⟩; have p14 : 0 ≤ (x7_1 : Int) := of_decide_eq_true (by first | (with_reducible assumption) | assumption); have q14 : x7_1 < (a0.size : Int) := of_decide_eq_true (by first | (with_reducible assumption) | assumption); have hx14 := bt_at a0 x7_1; replace p14 := eq_true p14; replace q14 := eq_true q14) | (go_at_call 36; (with_reducible refine (culetref13_digit.calls (bt a0 x7_1) true _ A15.out).mono ?_); rintro e w' ⟨rfl, ⟨nd, rfl⟩⟩))
           go_roundg k1
           case measure => have := HK1.out; omega
           case rel => exact ⟨(wrap64 (x7_1 + 1)), (by first | rfl | (simp; done) | (simp [*]; done)), H', ⟨by have := HK1.out; omega⟩, ⟨by repeat (first | (with_reducible first | exact HB.out | apply below_alloc | apply pw_below_drewN | apply below_drew1) | exact HB.out)⟩⟩
          ·
           replace c16 := Bool.eq_false_iff.mpr c16
           subst c16
           have H1 : (if (bt a0 x7_1) = 45 then (culetref13_length.l0 k1 a0 a1 (wrap64 (x7_1 + 1))) else (if (bt a0 x7_1) = 95 then (culetref13_length.l0 k1 a0 a1 (wrap64 (x7_1 + 1))) else (culetref13_length.j1 k1 a0 a1 x7_1))) = some (r1, r2) := by rw [if_neg (show ¬ (false = true) by decide)] at H; exact H
           clear H
           have H := H1
           clear H1
           by_cases c18 : (bt a0 x7_1) = 45
           ·
            rw [if_pos c18] at H
            have c18b0 : ((bt a0 x7_1) == 45) = true := beq_iff_eq.mpr c18
            have c18b1 : ((bt a0 x7_1) != 45) = false := bne_eq_false_iff_eq.mpr c18
            clear c18
            have H' := Aside0.mk H
            clear H
            have p11 : 0 ≤ (x7_1 : Int) := of_decide_eq_true (by first | (with_reducible assumption) | assumption)
            have q11 : x7_1 < (a0.size : Int) := of_decide_eq_true (by first | (with_reducible assumption) | assumption)
            have hx11 := bt_at a0 x7_1
            replace p11 := eq_true p11
            replace q11 := eq_true q11
            go_wp2_with (first | (go_at_call 43; (with_reducible refine (culetref13_letter.calls (bt a0 x7_1) false _ A12.out).mono ?_); rintro e w' ⟨rfl, ⟨nd, rfl⟩⟩; have p14 : 0 ≤ (x7_1 : Int) := of_decide_eq_true (by first | (with_reducible assumption) | assumption); have q14 : x7_1 < (a0.size : Int) := of_decide_eq_true (by first | (with_reducible assumption) | assumption); have hx14 := bt_at a0 x7_1; replace p14 := eq_true p14; replace q14 := eq_true q14) | (go_at_call 36; (with_reducible refine (culetref13_digit.calls (bt a0 x7_1) false _ A15.out).mono ?_); rintro e w' ⟨rfl, ⟨nd, rfl⟩⟩; have p17 : 0 ≤ (x7_1 : Int) := of_decide_eq_true (by first | (with_reducible assumption) | assumption); have q17 : x7_1 < (a0.size : Int) := of_decide_eq_true (by first | (with_reducible assumption) | assumption); have hx17 := bt_at a0 x7_1; replace p17 := eq_true p17; replace q17 := eq_true q17))
            go_roundg k1
            case measure => have := HK1.out; omega
            case rel => exact ⟨(wrap64 (x7_1 + 1)), (by first | rfl | (simp; done) | (simp [*]; done)), H', ⟨by have := HK1.out; omega⟩, ⟨by repeat (first | (with_reducible first | exact HB.out | apply below_alloc | apply pw_below_drewN | apply below_drew1) | exact HB.out)⟩⟩
           ·
            rw [if_neg c18] at H
            have c18b0 : ((bt a0 x7_1) == 45) = false := beq_eq_false_iff_ne.mpr c18
            have c18b1 : ((bt a0 x7_1) != 45) = true := bne_iff_ne.mpr c18
            by_cases c20 : (bt a0 x7_1) = 95
            ·
             rw [if_pos c20] at H
             have c20b0 : ((bt a0 x7_1) == 95) = true := beq_iff_eq.mpr c20
             have c20b1 : ((bt a0 x7_1) != 95) = false := bne_eq_false_iff_eq.mpr c20
             clear c20
             have H' := Aside0.mk H
             clear H
             have p11 : 0 ≤ (x7_1 : Int) := of_decide_eq_true (by first | (with_reducible assumption) | assumption)
             have q11 : x7_1 < (a0.size : Int) := of_decide_eq_true (by first | (with_reducible assumption) | assumption)
             have hx11 := bt_at a0 x7_1
             replace p11 := eq_true p11
             replace q11 := eq_true q11
             go_wp2_with (first | (go_at_call 43; (with_reducible refine (culetref13_letter.calls (bt a0 x7_1) false _ A12.out).mono ?_); rintro e w' ⟨rfl, ⟨nd, rfl⟩⟩; have p14 : 0 ≤ (x7_1 : Int) := of_decide_eq_true (by first | (with_reducible assumption) | assumption); have q14 : x7_1 < (a0.size : Int) := of_decide_eq_true (by first | (with_reducible assumption) | assumption); have hx14 := bt_at a0 x7_1; replace p14 := eq_true p14; replace q14 := eq_true q14) | (go_at_call 36; (with_reducible refine (culetref13_digit.calls (bt a0 x7_1) false _ A15.out).mono ?_); rintro e w' ⟨rfl, ⟨nd, rfl⟩⟩; have p17 : 0 ≤ (x7_1 : Int) := of_decide_eq_true (by first | (with_reducible assumption) | assumption); have q17 : x7_1 < (a0.size : Int) := of_decide_eq_true (by first | (with_reducible assumption) | assumption); have hx17 := bt_at a0 x7_1; replace p17 := eq_true p17; replace q17 := eq_true q17; have p19 : 0 ≤ (x7_1 : Int) := of_decide_eq_true (by first | (with_reducible assumption) | assumption); have q19 : x7_1 < (a0.size : Int) := of_decide_eq_true (by first | (with_reducible assumption) | assumption); have hx19 := bt_at a0 x7_1; replace p19 := eq_true p19; replace q19 := eq_true q19))
             go_roundg k1
             case measure => have := HK1.out; omega
             case rel => exact ⟨(wrap64 (x7_1 + 1)), (by first | rfl | (simp; done) | (simp [*]; done)), H', ⟨by have := HK1.out; omega⟩, ⟨by repeat (first | (with_reducible first | exact HB.out | apply below_alloc | apply pw_below_drewN | apply below_drew1) | exact HB.out)⟩⟩
            ·
             rw [if_neg c20] at H
             have c20b0 : ((bt a0 x7_1) == 95) = false := beq_eq_false_iff_ne.mpr c20
             have c20b1 : ((bt a0 x7_1) != 95) = true := bne_iff_ne.mpr c20
             have H' := Aside0.mk H
             clear H
             have p11 : 0 ≤ (x7_1 : Int) := of_decide_eq_true (by first | (with_reducible assumption) | assumption)
             have q11 : x7_1 < (a0.size : Int) := of_decide_eq_true (by first | (with_reducible assumption) | assumption)
             have hx11 := bt_at a0 x7_1
             replace p11 := eq_true p11
             replace q11 := eq_true q11
             go_wp2_with (first | (go_at_call 43; (with_reducible refine (culetref13_letter.calls (bt a0 x7_1) false _ A12.out).mono ?_); rintro e w' ⟨rfl, ⟨nd, rfl⟩⟩; have p14 : 0 ≤ (x7_1 : Int) := of_decide_eq_true (by first | (with_reducible assumption) | assumption); have q14 : x7_1 < (a0.size : Int) := of_decide_eq_true (by first | (with_reducible assumption) | assumption); have hx14 := bt_at a0 x7_1; replace p14 := eq_true p14; replace q14 := eq_true q14) | (go_at_call 36; (with_reducible refine (culetref13_digit.calls (bt a0 x7_1) false _ A15.out).mono ?_); rintro e w' ⟨rfl, ⟨nd, rfl⟩⟩; have p17 : 0 ≤ (x7_1 : Int) := of_decide_eq_true (by first | (with_reducible assumption) | assumption); have q17 : x7_1 < (a0.size : Int) := of_decide_eq_true (by first | (with_reducible assumption) | assumption); have hx17 := bt_at a0 x7_1; replace p17 := eq_true p17; replace q17 := eq_true q17; have p19 : 0 ≤ (x7_1 : Int) := of_decide_eq_true (by first | (with_reducible assumption) | assumption); have q19 : x7_1 < (a0.size : Int) := of_decide_eq_true (by first | (with_reducible assumption) | assumption); have hx19 := bt_at a0 x7_1; replace p19 := eq_true p19; replace q19 := eq_true q19))
             go_meet
             case rel => exact ⟨_, (x7_1), (by first | rfl | (simp; done) | (simp [*]; done)), H', ⟨by have := HK1.out; first | omega | exact Nat.le_refl _⟩, ⟨by repeat (first | (with_reducible first | exact HB.out | apply below_alloc | apply pw_below_drewN | apply below_drew1) | exact HB.out)⟩⟩
        ·
         rw [if_neg c10] at H
         exact absurd H (by simp)
       ·
        rw [if_neg c9] at H
        have c9b0 : decide (x7_1 < (a0.size : Int)) = false := decide_eq_false c9
        clear c9
        (first | rw [c9b0] | (simp only [i64_w, i32_w]; rw [c9b0]) | skip)
        have H' := Aside0.mk H
        clear H
        go_wp2
        go_meet
        case rel => exact ⟨_, (x7_1), (by first | rfl | (simp; done) | (simp [*]; done)), H', ⟨by have := HK1.out; first | omega | exact Nat.le_refl _⟩, ⟨by repeat (first | (with_reducible first | exact HB.out | apply below_alloc | apply pw_below_drewN | apply below_drew1) | exact HB.out)⟩⟩
    case rest =>
     clear HC8
     try clear c1
     try clear p1
     try clear q1
     try clear hx1
     try clear c2
     try clear p2
     try clear c3
     try clear c3b0
     try clear c4
     try clear c4b0
     try clear p5
     try clear q5
     try clear hx5
     try clear p6
     try clear c7
     try clear c9
     try clear c9b0
     try clear c10
     try clear c10b0
     try clear p11
     try clear q11
     try clear hx11
     try clear c13
     try clear p14
     try clear q14
     try clear hx14
     try clear c16
     try clear p17
     try clear q17
     try clear hx17
     try clear c18
     try clear c18b0
     try clear c18b1
     try clear p19
     try clear q19
     try clear hx19
     try clear c20
     try clear c20b0
     try clear c20b1
     try clear p11
     try clear p14
     try clear p17
     try clear p19
     try clear p2
     try clear p5
     try clear p6
     try clear q11
     try clear q14
     try clear q17
     try clear q19
     try clear q5
     obtain ⟨kq, x7_7, rfl, HA, HJ7, HB⟩ := hcut
     cases kq with
     | zero => exact absurd HA.out (by simp [culetref13_length.j1])
     | succ kj7 =>
      have H := HA.out
      clear HA
      simp only [culetref13_length.j1] at H
      by_cases c21 : 0 ≤ a1
      ·
       rw [if_pos c21] at H
       have c21b0 := eq_true c21
       have c21b1 : decide (0 ≤ a1) = true := decide_eq_true c21
       clear c21
       by_cases c22 : a1 ≤ x7_7
       ·
        rw [if_pos c22] at H
        have c22b0 := eq_true c22
        have c22b1 : decide (a1 ≤ x7_7) = true := decide_eq_true c22
        clear c22
        by_cases c23 : x7_7 ≤ (a0.size : Int)
        ·
         rw [if_pos c23] at H
         have c23b0 := eq_true c23
         have c23b1 : decide (x7_7 ≤ (a0.size : Int)) = true := decide_eq_true c23
         clear c23
         replace H := Option.bind_eq_some_iff.mp H
         obtain ⟨t170, A240, H⟩ := H
         replace H : (if t170 = true then (some (2, wrap64 (x7_7 - a1))) else ((culetref13_IsName.f kj7 (a0.extract (a1 : Int).toNat (x7_7 : Int).toNat)).bind fun t171 => (if t171 = true then (some (1, wrap64 (x7_7 - a1))) else (some (0, 0))))) = some (r1, r2) := H
         have A24 := Aside0.mk A240
         clear A240
         by_cases c25 : t170 = true
         ·
          subst c25
          have H1 : (some (2, wrap64 (x7_7 - a1))) = some (r1, r2) := by rw [if_pos rfl] at H; exact H
          clear H
          have H := H1
          clear H1
          simp only [Option.some.injEq, Prod.mk.injEq] at H
          obtain ⟨rfl, rfl⟩ := H
          go_wp2_with (first | ((with_reducible refine gate_callee (f := 18) rfl ?_); refine goesL_ (some 52) rfl rfl Tryd.func18 (by kernel_rfl) rfl #[.string (a0.extract (a1 : Int).toNat (x7_7 : Int).toNat)] rfl (by (try simp only [List.map_toArray, List.map_cons, List.map_nil]); first | done | rfl | (simp only [List.length_drop, List.length_take]; rfl)) ?_; (with_reducible refine (culetref13_Reserved.calls kj7 (a0.extract (a1 : Int).toNat (x7_7 : Int).toNat) true _ A24.out).mono ?_); rintro e w26 ⟨rfl, hb⟩; refine ⟨_, rfl, ?_⟩; have n0_ := Aside0.mk (below_step (by repeat (first | (with_reducible first | exact HB.out | apply below_alloc | apply pw_below_drewN | apply below_drew1) | exact HB.out)) hb); clear HB; have HB := n0_; clear n0_; (try clear hb); (try clear hb2); (try clear hk); (try clear hi)))
          go_ret2
          exact ⟨by first | rfl | (simp [errW_none, errW_some] <;> rfl) | (simp [*, errW_none, errW_some] <;> rfl), by repeat (first | (with_reducible first | exact HB.out | apply below_alloc | apply pw_below_drewN | apply below_drew1) | exact HB.out)⟩
         ·
          replace c25 := Bool.eq_false_iff.mpr c25
          subst c25
          have H1 : ((culetref13_IsName.f kj7 (a0.extract (a1 : Int).toNat (x7_7 : Int).toNat)).bind fun t171 => (if t171 = true then (some (1, wrap64 (x7_7 - a1))) else (some (0, 0)))) = some (r1, r2) := by rw [if_neg (show ¬ (false = true) by decide)] at H; exact H
          clear H
          have H := H1
          clear H1
          have c27b0 := eq_true (of_decide_eq_true (by first | (with_reducible assumption) | assumption) : 0 ≤ a1)
          have c28b0 := eq_true (of_decide_eq_true (by first | (with_reducible assumption) | assumption) : a1 ≤ x7_7)
          have c29b0 := eq_true (of_decide_eq_true (by first | (with_reducible assumption) | assumption) : x7_7 ≤ (a0.size : Int))
          replace H := Option.bind_eq_some_iff.mp H
          obtain ⟨t171, A300, H⟩ := H
          replace H : (if t171 = true then (some (1, wrap64 (x7_7 - a1))) else (some (0, 0))) = some (r1, r2) := H
          have A30 := Aside0.mk A300
          clear A300
          by_cases c31 : t171 = true
          ·
           subst c31
           have H1 : (some (1, wrap64 (x7_7 - a1))) = some (r1, r2) := by rw [if_pos rfl] at H; exact H
           clear H
           have H := H1
           clear H1
           simp only [Option.some.injEq, Prod.mk.injEq] at H
           obtain ⟨rfl, rfl⟩ := H
           go_wp2_with (first | ((with_reducible refine gate_callee (f := 18) rfl ?_); refine goesL_ (some 52) rfl rfl Tryd.func18 (by kernel_rfl) rfl #[.string (a0.extract (a1 : Int).toNat (x7_7 : Int).toNat)] rfl (by (try simp only [List.map_toArray, List.map_cons, List.map_nil]); first | done | rfl | (simp only [List.length_drop, List.length_take]; rfl)) ?_; (with_reducible refine (culetref13_Reserved.calls kj7 (a0.extract (a1 : Int).toNat (x7_7 : Int).toNat) false _ A24.out).mono ?_); rintro e w32 ⟨rfl, hb⟩; refine ⟨_, rfl, ?_⟩; have n0_ := Aside0.mk (below_step (by repeat (first | (with_reducible first | exact HB.out | apply below_alloc | apply pw_below_drewN | apply below_drew1) | exact HB.out)) hb); clear HB; have HB := n0_; clear n0_; (try clear hb); (try clear hb2); (try clear hk); (try clear hi)) | ((with_reducible refine gate_callee (f := 20) rfl ?_); refine goesL_ (some 60) rfl rfl Tryd.func20 (by kernel_rfl) rfl #[.string (a0.extract (a1 : Int).toNat (x7_7 : Int).toNat)] rfl (by (try simp only [List.map_toArray, List.map_cons, List.map_nil]); first | done | rfl | (simp only [List.length_drop, List.length_take]; rfl)) ?_; (with_reducible refine (culetref13_IsName.calls kj7 (a0.extract (a1 : Int).toNat (x7_7 : Int).toNat) true _ A30.out).mono ?_); rintro e w33 ⟨rfl, hb⟩; refine ⟨_, rfl, ?_⟩; have n0_ := Aside0.mk (below_step (by repeat (first | (with_reducible first | exact HB.out | apply below_alloc | apply pw_below_drewN | apply below_drew1) | exact HB.out)) hb); clear HB; have HB := n0_; clear n0_; (try clear hb); (try clear hb2); (try clear hk); (try clear hi)))
           go_ret2
           exact ⟨by first | rfl | (simp [errW_none, errW_some] <;> rfl) | (simp [*, errW_none, errW_some] <;> rfl), by repeat (first | (with_reducible first | exact HB.out | apply below_alloc | apply pw_below_drewN | apply below_drew1) | exact HB.out)⟩
          ·
           replace c31 := Bool.eq_false_iff.mpr c31
           subst c31
           have H1 : (some (0, 0)) = some (r1, r2) := by rw [if_neg (show ¬ (false = true) by decide)] at H; exact H
           clear H
           have H := H1
           clear H1
           simp only [Option.some.injEq, Prod.mk.injEq] at H
           obtain ⟨rfl, rfl⟩ := H
           go_wp2_with (first | ((with_reducible refine gate_callee (f := 18) rfl ?_); refine goesL_ (some 52) rfl rfl Tryd.func18 (by kernel_rfl) rfl #[.string (a0.extract (a1 : Int).toNat (x7_7 : Int).toNat)] rfl (by (try simp only [List.map_toArray, List.map_cons, List.map_nil]); first | done | rfl | (simp only [List.length_drop, List.length_take]; rfl)) ?_; (with_reducible refine (culetref13_Reserved.calls kj7 (a0.extract (a1 : Int).toNat (x7_7 : Int).toNat) false _ A24.out).mono ?_); rintro e w34 ⟨rfl, hb⟩; refine ⟨_, rfl, ?_⟩; have n0_ := Aside0.mk (below_step (by repeat (first | (with_reducible first | exact HB.out | apply below_alloc | apply pw_below_drewN | apply below_drew1) | exact HB.out)) hb); clear HB; have HB := n0_; clear n0_; (try clear hb); (try clear hb2); (try clear hk); (try clear hi)) | ((with_reducible refine gate_callee (f := 20) rfl ?_); refine goesL_ (some 60) rfl rfl Tryd.func20 (by kernel_rfl) rfl #[.string (a0.extract (a1 : Int).toNat (x7_7 : Int).toNat)] rfl (by (try simp only [List.map_toArray, List.map_cons, List.map_nil]); first | done | rfl | (simp only [List.length_drop, List.length_take]; rfl)) ?_; (with_reducible refine (culetref13_IsName.calls kj7 (a0.extract (a1 : Int).toNat (x7_7 : Int).toNat) false _ A30.out).mono ?_); rintro e w35 ⟨rfl, hb⟩; refine ⟨_, rfl, ?_⟩; have n0_ := Aside0.mk (below_step (by repeat (first | (with_reducible first | exact HB.out | apply below_alloc | apply pw_below_drewN | apply below_drew1) | exact HB.out)) hb); clear HB; have HB := n0_; clear n0_; (try clear hb); (try clear hb2); (try clear hk); (try clear hi)))
           go_ret2
           exact ⟨by first | rfl | (simp [errW_none, errW_some] <;> rfl) | (simp [*, errW_none, errW_some] <;> rfl), by repeat (first | (with_reducible first | exact HB.out | apply below_alloc | apply pw_below_drewN | apply below_drew1) | exact HB.out)⟩
        ·
         rw [if_neg c23] at H
         exact absurd H (by simp)
       ·
        rw [if_neg c22] at H
        exact absurd H (by simp)
      ·
       rw [if_neg c21] at H
       exact absurd H (by simp)
   ·
    replace c7 := Bool.eq_false_iff.mpr c7
    subst c7
    have H1 : (if (bt a0 a1) = 45 then (culetref13_length.j2 k a0 a1 (bt a0 a1) (wrap64 (a1 + 1)) true) else ((culetref13_digit.f (bt a0 a1)).bind fun t172 => (culetref13_length.j2 k a0 a1 (bt a0 a1) (wrap64 (a1 + 1)) t172))) = some (r1, r2) := by rw [if_neg (show ¬ (false = true) by decide)] at H; exact H
    clear H
    have H := H1
    clear H1
    have HC36 := Aside0.mk H
    clear H
    have p5 : 0 ≤ (a1 : Int) := of_decide_eq_true (by first | (with_reducible assumption) | assumption)
    have q5 : a1 < (a0.size : Int) := of_decide_eq_true (by first | (with_reducible assumption) | assumption)
    have hx5 := bt_at a0 a1
    replace p5 := eq_true p5
    replace q5 := eq_true q5
    go_enter Tryd.func32, Tryd.ntmps32
    go_upto_region 10 with (first | ((with_reducible refine gate_callee (f := 43) rfl ?_); refine goesL_ (some 17) rfl rfl Tryd.func43 (by kernel_rfl) rfl #[.int .u8 (bt a0 a1)] rfl (by (try simp only [List.map_toArray, List.map_cons, List.map_nil]); first | done | rfl | (simp only [List.length_drop, List.length_take]; rfl)) ?_; (with_reducible refine (culetref13_letter.calls (bt a0 a1) false _ A6.out).mono ?_); rintro e w' ⟨rfl, ⟨nd, rfl⟩⟩; refine ⟨_, rfl, ?_⟩))
    (try simp only [Act.put, List.setIfInBounds_toArray, List.set_cons_zero, List.set_cons_succ])
    go_cut [64] (fun v64 wc => ∃ (kq : Nat) (x64_35 : Bool), v64 = .bool x64_35 ∧ Aside0 (culetref13_length.j2 kq a0 a1 (bt a0 a1) (wrap64 (a1 + 1)) x64_35 = some (r1, r2)) ∧ Aside0 (kq ≤ k) ∧ Aside0 (Below w.heap.size w wc))
    case first =>
     have H := HC36.out
     clear HC36
     by_cases c37 : (bt a0 a1) = 45
     ·
      rw [if_pos c37] at H
      have c37b0 : ((bt a0 a1) == 45) = true := beq_iff_eq.mpr c37
      have c37b1 : ((bt a0 a1) != 45) = false := bne_eq_false_iff_eq.mpr c37
      clear c37
      (first | rw [c37b0] | (simp only [i64_w, i32_w]; rw [c37b0]) | skip)
      have H' := Aside0.mk H
      clear H
      go_wp2
      go_meet
      case rel => exact ⟨_, (true), (by first | rfl | (simp; done) | (simp [*]; done)), H', ⟨by first | omega | exact Nat.le_refl _⟩, ⟨by repeat (first | (with_reducible first | exact HB.out | apply below_alloc | apply pw_below_drewN | apply below_drew1) | exact HB.out)⟩⟩
     ·
      rw [if_neg c37] at H
      have c37b0 : ((bt a0 a1) == 45) = false := beq_eq_false_iff_ne.mpr c37
      have c37b1 : ((bt a0 a1) != 45) = true := bne_iff_ne.mpr c37
      (first | rw [c37b0] | (simp only [i64_w, i32_w]; rw [c37b0]) | skip)
      replace H := Option.bind_eq_some_iff.mp H
      obtain ⟨t172, A380, H⟩ := H
      replace H : (culetref13_length.j2 k a0 a1 (bt a0 a1) (wrap64 (a1 + 1)) t172) = some (r1, r2) := H
      have A38 := Aside0.mk A380
      clear A380
      have H' := Aside0.mk H
      clear H
      go_wp2_with (first | (go_at_call 36; (with_reducible refine (culetref13_digit.calls (bt a0 a1) t172 _ A38.out).mono ?_); rintro e w' ⟨rfl, ⟨nd, rfl⟩⟩))
      go_meet
      case rel => exact ⟨_, (t172), (by first | rfl | (simp; done) | (simp [*]; done)), H', ⟨by first | omega | exact Nat.le_refl _⟩, ⟨by repeat (first | (with_reducible first | exact HB.out | apply below_alloc | apply pw_below_drewN | apply below_drew1) | exact HB.out)⟩⟩
    case rest =>
     clear HC36
     try clear c1
     try clear p1
     try clear q1
     try clear hx1
     try clear c2
     try clear p2
     try clear c3
     try clear c3b0
     try clear c4
     try clear c4b0
     try clear p5
     try clear q5
     try clear hx5
     try clear p6
     try clear c7
     try clear c9
     try clear c9b0
     try clear c10
     try clear c10b0
     try clear p11
     try clear q11
     try clear hx11
     try clear c13
     try clear p14
     try clear q14
     try clear hx14
     try clear c16
     try clear p17
     try clear q17
     try clear hx17
     try clear c18
     try clear c18b0
     try clear c18b1
     try clear p19
     try clear q19
     try clear hx19
     try clear c20
     try clear c20b0
     try clear c20b1
     try clear c21
     try clear c21b0
     try clear c21b1
     try clear c22
     try clear c22b0
     try clear c22b1
     try clear c23
     try clear c23b0
     try clear c23b1
     try clear c25
     try clear c27
     try clear c27b0
     try clear c28
     try clear c28b0
     try clear c29
     try clear c29b0
     try clear c31
     try clear c32
     try clear c37
     try clear c37b0
     try clear c37b1
     try clear p1
     try clear p11
     try clear p14
     try clear p17
     try clear p19
     try clear p2
     try clear p5
     try clear p6
     try clear q1
     try clear q11
     try clear q14
     try clear q17
     try clear q19
     try clear q5
     obtain ⟨kq, x64_35, rfl, HA, HJ35, HB⟩ := hcut
     cases kq with
     | zero => exact absurd HA.out (by simp [culetref13_length.j2])
     | succ kj35 =>
      have H := HA.out
      clear HA
      simp only [culetref13_length.j2] at H
      by_cases c39 : x64_35 = true
      ·
       subst c39
       have H1 : (culetref13_length.l1 kj35 a0 a1 (wrap64 (a1 + 1))) = some (r1, r2) := by rw [if_pos rfl] at H; exact H
       clear H
       have H := H1
       clear H1
       have H' := Aside0.mk H
       clear H
       go_wp2
       go_loopg [7] kj35 (fun kq v7 w' => ∃ (x7_2 : Int), v7 = .int .i64 x7_2 ∧ Aside0 (culetref13_length.l1 kq a0 a1 x7_2 = some (r1, r2)) ∧ Aside0 (kq ≤ kj35) ∧ Aside0 (Below w.heap.size w w'))
       case atStart => exact ⟨((wrap64 (a1 + 1))), (by first | rfl | (simp; done) | (simp [*]; done)), H', ⟨Nat.le_refl _⟩, ⟨by repeat (first | (with_reducible first | exact HB.out | apply below_alloc | apply pw_below_drewN | apply below_drew1) | exact HB.out)⟩⟩
       case round =>
        clear H'
        try clear c1
        try clear p1
        try clear q1
        try clear hx1
        try clear c2
        try clear p2
        try clear c3
        try clear c3b0
        try clear c4
        try clear c4b0
        try clear p5
        try clear q5
        try clear hx5
        try clear p6
        try clear c7
        try clear c9
        try clear c9b0
        try clear c10
        try clear c10b0
        try clear p11
        try clear q11
        try clear hx11
        try clear c13
        try clear p14
        try clear q14
        try clear hx14
        try clear c16
        try clear p17
        try clear q17
        try clear hx17
        try clear c18
        try clear c18b0
        try clear c18b1
        try clear p19
        try clear q19
        try clear hx19
        try clear c20
        try clear c20b0
        try clear c20b1
        try clear c21
        try clear c21b0
        try clear c21b1
        try clear c22
        try clear c22b0
        try clear c22b1
        try clear c23
        try clear c23b0
        try clear c23b1
        try clear c25
        try clear c27
        try clear c27b0
        try clear c28
        try clear c28b0
        try clear c29
        try clear c29b0
        try clear c31
        try clear c32
        try clear c37
        try clear c37b0
        try clear c37b1
        try clear c39
        try clear p1
        try clear p11
        try clear p14
        try clear p17
        try clear p19
        try clear p2
        try clear p5
        try clear p6
        try clear q1
        try clear q11
        try clear q14
        try clear q17
        try clear q19
        try clear q5
        obtain ⟨x7_2, rfl, HA, HK2, HB⟩ := hrel
        cases gk with
        | zero => exact absurd HA.out (by simp [culetref13_length.l1])
        | succ k2 =>
         have H := HA.out
         clear HA
         simp only [culetref13_length.l1] at H
         by_cases c40 : x7_2 < (a0.size : Int)
         ·
          rw [if_pos c40] at H
          have c40b0 : decide (x7_2 < (a0.size : Int)) = true := decide_eq_true c40
          clear c40
          by_cases c41 : 0 ≤ x7_2
          ·
           rw [if_pos c41] at H
           have c41b0 : decide (0 ≤ x7_2) = true := decide_eq_true c41
           clear c41
           replace H := Option.bind_eq_some_iff.mp H
           obtain ⟨t173, A430, H⟩ := H
           replace H : (if t173 = true then (culetref13_length.l1 k2 a0 a1 (wrap64 (x7_2 + 1))) else (if 0 ≤ a1 then (if a1 ≤ x7_2 then (if x7_2 ≤ (a0.size : Int) then ((culetref13_Value.f k2 (a0.extract (a1 : Int).toNat (x7_2 : Int).toNat)).bind fun bt174 => (if bt174.2 = true then (some (3, wrap64 (x7_2 - a1))) else (some (0, 0)))) else (none)) else (none)) else (none))) = some (r1, r2) := H
           have A43 := Aside0.mk A430
           clear A430
           by_cases c44 : t173 = true
           ·
            subst c44
            have H1 : (culetref13_length.l1 k2 a0 a1 (wrap64 (x7_2 + 1))) = some (r1, r2) := by rw [if_pos rfl] at H; exact H
            clear H
            have H := H1
            clear H1
            have H' := Aside0.mk H
            clear H
            have p42 : 0 ≤ (x7_2 : Int) := of_decide_eq_true (by first | (with_reducible assumption) | assumption)
            have q42 : x7_2 < (a0.size : Int) := of_decide_eq_true (by first | (with_reducible assumption) | assumption)
            have hx42 := bt_at a0 x7_2
            replace p42 := eq_true p42
            replace q42 := eq_true q42
            go_wp2_with (first | (go_at_call 36; (with_reducible refine (culetref13_digit.calls (bt a0 x7_2) true _ A43.out).mono ?_); rintro e w' ⟨rfl, ⟨nd, rfl⟩⟩))
            go_roundg k2
            case measure => have := HJ35.out; have := HK2.out; omega
            case rel => exact ⟨(wrap64 (x7_2 + 1)), (by first | rfl | (simp; done) | (simp [*]; done)), H', ⟨by have := HJ35.out; have := HK2.out; omega⟩, ⟨by repeat (first | (with_reducible first | exact HB.out | apply below_alloc | apply pw_below_drewN | apply below_drew1) | exact HB.out)⟩⟩
           ·
            replace c44 := Bool.eq_false_iff.mpr c44
            subst c44
            have H1 : (if 0 ≤ a1 then (if a1 ≤ x7_2 then (if x7_2 ≤ (a0.size : Int) then ((culetref13_Value.f k2 (a0.extract (a1 : Int).toNat (x7_2 : Int).toNat)).bind fun bt174 => (if bt174.2 = true then (some (3, wrap64 (x7_2 - a1))) else (some (0, 0)))) else (none)) else (none)) else (none)) = some (r1, r2) := by rw [if_neg (show ¬ (false = true) by decide)] at H; exact H
            clear H
            have H := H1
            clear H1
            by_cases c45 : 0 ≤ a1
            ·
             rw [if_pos c45] at H
             have c45b0 := eq_true c45
             have c45b1 : decide (0 ≤ a1) = true := decide_eq_true c45
             clear c45
             by_cases c46 : a1 ≤ x7_2
             ·
              rw [if_pos c46] at H
              have c46b0 := eq_true c46
              have c46b1 : decide (a1 ≤ x7_2) = true := decide_eq_true c46
              clear c46
              by_cases c47 : x7_2 ≤ (a0.size : Int)
              ·
               rw [if_pos c47] at H
               have c47b0 := eq_true c47
               have c47b1 : decide (x7_2 ≤ (a0.size : Int)) = true := decide_eq_true c47
               clear c47
               replace H := Option.bind_eq_some_iff.mp H
               obtain ⟨⟨t174, t175⟩, A480, H⟩ := H
               replace H : (if t175 = true then (some (3, wrap64 (x7_2 - a1))) else (some (0, 0))) = some (r1, r2) := H
               have A48 := Aside0.mk A480
               clear A480
               by_cases c49 : t175 = true
               ·
                subst c49
                have H1 : (some (3, wrap64 (x7_2 - a1))) = some (r1, r2) := by rw [if_pos rfl] at H; exact H
                clear H
                have H := H1
                clear H1
                simp only [Option.some.injEq, Prod.mk.injEq] at H
                obtain ⟨rfl, rfl⟩ := H
                have p42 : 0 ≤ (x7_2 : Int) := of_decide_eq_true (by first | (with_reducible assumption) | assumption)
                have q42 : x7_2 < (a0.size : Int) := of_decide_eq_true (by first | (with_reducible assumption) | assumption)
                have hx42 := bt_at a0 x7_2
                replace p42 := eq_true p42
                replace q42 := eq_true q42
                go_wp2_with (first | (go_at_call 36; (with_reducible refine (culetref13_digit.calls (bt a0 x7_2) false _ A43.out).mono ?_); rintro e w' ⟨rfl, ⟨nd, rfl⟩⟩) | ((with_reducible refine gate_callee (f := 16) rfl ?_); refine goesL_ (some 88) rfl rfl Tryd.func16 (by kernel_rfl) rfl #[.string (a0.extract (a1 : Int).toNat (x7_2 : Int).toNat)] rfl (by (try simp only [List.map_toArray, List.map_cons, List.map_nil]); first | done | rfl | (simp only [List.length_drop, List.length_take]; rfl)) ?_; (with_reducible refine (culetref13_Value.calls k2 (a0.extract (a1 : Int).toNat (x7_2 : Int).toNat) t174 true _ A48.out).mono ?_); rintro e w' ⟨rfl, ⟨nd, rfl⟩⟩; refine ⟨_, rfl, ?_⟩))
                go_ret2
                exact ⟨by first | rfl | (simp [errW_none, errW_some] <;> rfl) | (simp [*, errW_none, errW_some] <;> rfl), by repeat (first | (with_reducible first | exact HB.out | apply below_alloc | apply pw_below_drewN | apply below_drew1) | exact HB.out)⟩
               ·
                replace c49 := Bool.eq_false_iff.mpr c49
                subst c49
                have H1 : (some (0, 0)) = some (r1, r2) := by rw [if_neg (show ¬ (false = true) by decide)] at H; exact H
                clear H
                have H := H1
                clear H1
                simp only [Option.some.injEq, Prod.mk.injEq] at H
                obtain ⟨rfl, rfl⟩ := H
                have p42 : 0 ≤ (x7_2 : Int) := of_decide_eq_true (by first | (with_reducible assumption) | assumption)
                have q42 : x7_2 < (a0.size : Int) := of_decide_eq_true (by first | (with_reducible assumption) | assumption)
                have hx42 := bt_at a0 x7_2
                replace p42 := eq_true p42
                replace q42 := eq_true q42
                go_wp2_with (first | (go_at_call 36; (with_reducible refine (culetref13_digit.calls (bt a0 x7_2) false _ A43.out).mono ?_); rintro e w' ⟨rfl, ⟨nd, rfl⟩⟩) | ((with_reducible refine gate_callee (f := 16) rfl ?_); refine goesL_ (some 88) rfl rfl Tryd.func16 (by kernel_rfl) rfl #[.string (a0.extract (a1 : Int).toNat (x7_2 : Int).toNat)] rfl (by (try simp only [List.map_toArray, List.map_cons, List.map_nil]); first | done | rfl | (simp only [List.length_drop, List.length_take]; rfl)) ?_; (with_reducible refine (culetref13_Value.calls k2 (a0.extract (a1 : Int).toNat (x7_2 : Int).toNat) t174 false _ A48.out).mono ?_); rintro e w' ⟨rfl, ⟨nd, rfl⟩⟩; refine ⟨_, rfl, ?_⟩))
                go_ret2
                exact ⟨by first | rfl | (simp [errW_none, errW_some] <;> rfl) | (simp [*, errW_none, errW_some] <;> rfl), by repeat (first | (with_reducible first | exact HB.out | apply below_alloc | apply pw_below_drewN | apply below_drew1) | exact HB.out)⟩
              ·
               rw [if_neg c47] at H
               exact absurd H (by simp)
             ·
              rw [if_neg c46] at H
              exact absurd H (by simp)
            ·
             rw [if_neg c45] at H
             exact absurd H (by simp)
          ·
           rw [if_neg c41] at H
           exact absurd H (by simp)
         ·
          rw [if_neg c40] at H
          have c40b0 : decide (x7_2 < (a0.size : Int)) = false := decide_eq_false c40
          clear c40
          by_cases c50 : 0 ≤ a1
          ·
           rw [if_pos c50] at H
           have c50b0 := eq_true c50
           have c50b1 : decide (0 ≤ a1) = true := decide_eq_true c50
           clear c50
           by_cases c51 : a1 ≤ x7_2
           ·
            rw [if_pos c51] at H
            have c51b0 := eq_true c51
            have c51b1 : decide (a1 ≤ x7_2) = true := decide_eq_true c51
            clear c51
            by_cases c52 : x7_2 ≤ (a0.size : Int)
            ·
             rw [if_pos c52] at H
             have c52b0 := eq_true c52
             have c52b1 : decide (x7_2 ≤ (a0.size : Int)) = true := decide_eq_true c52
             clear c52
             replace H := Option.bind_eq_some_iff.mp H
             obtain ⟨⟨t176, t177⟩, A530, H⟩ := H
             replace H : (if t177 = true then (some (3, wrap64 (x7_2 - a1))) else (some (0, 0))) = some (r1, r2) := H
             have A53 := Aside0.mk A530
             clear A530
             by_cases c54 : t177 = true
             ·
              subst c54
              have H1 : (some (3, wrap64 (x7_2 - a1))) = some (r1, r2) := by rw [if_pos rfl] at H; exact H
              clear H
              have H := H1
              clear H1
              simp only [Option.some.injEq, Prod.mk.injEq] at H
              obtain ⟨rfl, rfl⟩ := H
              go_wp2_with (first | ((with_reducible refine gate_callee (f := 16) rfl ?_); refine goesL_ (some 88) rfl rfl Tryd.func16 (by kernel_rfl) rfl #[.string (a0.extract (a1 : Int).toNat (x7_2 : Int).toNat)] rfl (by (try simp only [List.map_toArray, List.map_cons, List.map_nil]); first | done | rfl | (simp only [List.length_drop, List.length_take]; rfl)) ?_; (with_reducible refine (culetref13_Value.calls k2 (a0.extract (a1 : Int).toNat (x7_2 : Int).toNat) t176 true _ A53.out).mono ?_); rintro e w' ⟨rfl, ⟨nd, rfl⟩⟩; refine ⟨_, rfl, ?_⟩))
              go_ret2
              exact ⟨by first | rfl | (simp [errW_none, errW_some] <;> rfl) | (simp [*, errW_none, errW_some] <;> rfl), by repeat (first | (with_reducible first | exact HB.out | apply below_alloc | apply pw_below_drewN | apply below_drew1) | exact HB.out)⟩
             ·
              replace c54 := Bool.eq_false_iff.mpr c54
              subst c54
              have H1 : (some (0, 0)) = some (r1, r2) := by rw [if_neg (show ¬ (false = true) by decide)] at H; exact H
              clear H
              have H := H1
              clear H1
              simp only [Option.some.injEq, Prod.mk.injEq] at H
              obtain ⟨rfl, rfl⟩ := H
              go_wp2_with (first | ((with_reducible refine gate_callee (f := 16) rfl ?_); refine goesL_ (some 88) rfl rfl Tryd.func16 (by kernel_rfl) rfl #[.string (a0.extract (a1 : Int).toNat (x7_2 : Int).toNat)] rfl (by (try simp only [List.map_toArray, List.map_cons, List.map_nil]); first | done | rfl | (simp only [List.length_drop, List.length_take]; rfl)) ?_; (with_reducible refine (culetref13_Value.calls k2 (a0.extract (a1 : Int).toNat (x7_2 : Int).toNat) t176 false _ A53.out).mono ?_); rintro e w' ⟨rfl, ⟨nd, rfl⟩⟩; refine ⟨_, rfl, ?_⟩))
              go_ret2
              exact ⟨by first | rfl | (simp [errW_none, errW_some] <;> rfl) | (simp [*, errW_none, errW_some] <;> rfl), by repeat (first | (with_reducible first | exact HB.out | apply below_alloc | apply pw_below_drewN | apply below_drew1) | exact HB.out)⟩
            ·
             rw [if_neg c52] at H
             exact absurd H (by simp)
           ·
            rw [if_neg c51] at H
            exact absurd H (by simp)
          ·
           rw [if_neg c50] at H
           exact absurd H (by simp)
      ·
       replace c39 := Bool.eq_false_iff.mpr c39
       subst c39
       have H1 : (if (bt a0 a1) = 34 then (culetref13_length.l2 kj35 a0 a1 (wrap64 (a1 + 1))) else (if (bt a0 a1) = 47 then (some (5, 1)) else (if (bt a0 a1) = 44 then (some (5, 1)) else (if (bt a0 a1) = 58 then (some (5, 1)) else (some (0, 0)))))) = some (r1, r2) := by rw [if_neg (show ¬ (false = true) by decide)] at H; exact H
       clear H
       have H := H1
       clear H1
       by_cases c55 : (bt a0 a1) = 34
       ·
        rw [if_pos c55] at H
        have c55b0 : ((bt a0 a1) == 34) = true := beq_iff_eq.mpr c55
        have c55b1 : ((bt a0 a1) != 34) = false := bne_eq_false_iff_eq.mpr c55
        clear c55
        have H' := Aside0.mk H
        clear H
        go_wp2
        go_loopg [7] kj35 (fun kq v7 w' => ∃ (x7_2 : Int), v7 = .int .i64 x7_2 ∧ Aside0 (culetref13_length.l2 kq a0 a1 x7_2 = some (r1, r2)) ∧ Aside0 (kq ≤ kj35) ∧ Aside0 (Below w.heap.size w w'))
        case atStart => exact ⟨((wrap64 (a1 + 1))), (by first | rfl | (simp; done) | (simp [*]; done)), H', ⟨Nat.le_refl _⟩, ⟨by repeat (first | (with_reducible first | exact HB.out | apply below_alloc | apply pw_below_drewN | apply below_drew1) | exact HB.out)⟩⟩
        case round =>
         clear H'
         try clear c1
         try clear p1
         try clear q1
         try clear hx1
         try clear c2
         try clear p2
         try clear c3
         try clear c3b0
         try clear c4
         try clear c4b0
         try clear p4
         try clear q4
         try clear hx4
         try clear c5
         try clear p5
         try clear q5
         try clear hx5
         try clear p6
         try clear c7
         try clear c9
         try clear c9b0
         try clear c10
         try clear c10b0
         try clear p11
         try clear q11
         try clear hx11
         try clear c13
         try clear p14
         try clear q14
         try clear hx14
         try clear c16
         try clear p17
         try clear q17
         try clear hx17
         try clear c18
         try clear c18b0
         try clear c18b1
         try clear p19
         try clear q19
         try clear hx19
         try clear c20
         try clear c20b0
         try clear c20b1
         try clear c21
         try clear c21b0
         try clear c21b1
         try clear c22
         try clear c22b0
         try clear c22b1
         try clear c23
         try clear c23b0
         try clear c23b1
         try clear c25
         try clear c27
         try clear c27b0
         try clear c28
         try clear c28b0
         try clear c29
         try clear c29b0
         try clear c31
         try clear c32
         try clear c37
         try clear c37b0
         try clear c37b1
         try clear c39
         try clear c40
         try clear c40b0
         try clear c41
         try clear c41b0
         try clear p42
         try clear q42
         try clear hx42
         try clear c43
         try clear c44
         try clear c45
         try clear c45b0
         try clear c45b1
         try clear c46
         try clear c46b0
         try clear c46b1
         try clear c47
         try clear c47b0
         try clear c47b1
         try clear c49
         try clear c50
         try clear c50b0
         try clear c50b1
         try clear c51
         try clear c51b0
         try clear c51b1
         try clear c52
         try clear c52b0
         try clear c52b1
         try clear c54
         try clear c55
         try clear c55b0
         try clear c55b1
         try clear p1
         try clear p11
         try clear p14
         try clear p17
         try clear p19
         try clear p2
         try clear p42
         try clear p5
         try clear p6
         try clear q1
         try clear q11
         try clear q14
         try clear q17
         try clear q19
         try clear q42
         try clear q5
         obtain ⟨x7_2, rfl, HA, HK2, HB⟩ := hrel
         cases gk with
         | zero => exact absurd HA.out (by simp [culetref13_length.l2])
         | succ k2 =>
          have H := HA.out
          clear HA
          simp only [culetref13_length.l2] at H
          by_cases c56 : x7_2 < (a0.size : Int)
          ·
           rw [if_pos c56] at H
           have c56b0 : decide (x7_2 < (a0.size : Int)) = true := decide_eq_true c56
           clear c56
           by_cases c57 : 0 ≤ x7_2
           ·
            rw [if_pos c57] at H
            have c57b0 : decide (0 ≤ x7_2) = true := decide_eq_true c57
            clear c57
            by_cases c59 : (bt a0 x7_2) = 34
            ·
             rw [if_pos c59] at H
             have c59b0 : ((bt a0 x7_2) == 34) = true := beq_iff_eq.mpr c59
             have c59b1 : ((bt a0 x7_2) != 34) = false := bne_eq_false_iff_eq.mpr c59
             clear c59
             by_cases c61 : (wrap64 ((wrap64 (x7_2 - a1)) - 1)) ≤ 2000
             ·
              rw [if_pos c61] at H
              have c61b0 : decide ((wrap64 ((wrap64 (x7_2 - a1)) - 1)) ≤ 2000) = true := decide_eq_true c61
              clear c61
              simp only [Option.some.injEq, Prod.mk.injEq] at H
              obtain ⟨rfl, rfl⟩ := H
              have p58 : 0 ≤ (x7_2 : Int) := of_decide_eq_true (by first | (with_reducible assumption) | assumption)
              have q58 : x7_2 < (a0.size : Int) := of_decide_eq_true (by first | (with_reducible assumption) | assumption)
              have hx58 := bt_at a0 x7_2
              replace p58 := eq_true p58
              replace q58 := eq_true q58
              have p60 : 0 ≤ (x7_2 : Int) := of_decide_eq_true (by first | (with_reducible assumption) | assumption)
              have q60 : x7_2 < (a0.size : Int) := of_decide_eq_true (by first | (with_reducible assumption) | assumption)
              have hx60 := bt_at a0 x7_2
              replace p60 := eq_true p60
              replace q60 := eq_true q60
              go_wp2
              go_ret2
              exact ⟨by first | rfl | (simp [errW_none, errW_some] <;> rfl) | (simp [*, errW_none, errW_some] <;> rfl), by repeat (first | (with_reducible first | exact HB.out | apply below_alloc | apply pw_below_drewN | apply below_drew1) | exact HB.out)⟩
             ·
              rw [if_neg c61] at H
              have c61b0 : decide ((wrap64 ((wrap64 (x7_2 - a1)) - 1)) ≤ 2000) = false := decide_eq_false c61
              clear c61
              simp only [Option.some.injEq, Prod.mk.injEq] at H
              obtain ⟨rfl, rfl⟩ := H
              have p58 : 0 ≤ (x7_2 : Int) := of_decide_eq_true (by first | (with_reducible assumption) | assumption)
              have q58 : x7_2 < (a0.size : Int) := of_decide_eq_true (by first | (with_reducible assumption) | assumption)
              have hx58 := bt_at a0 x7_2
              replace p58 := eq_true p58
              replace q58 := eq_true q58
              have p60 : 0 ≤ (x7_2 : Int) := of_decide_eq_true (by first | (with_reducible assumption) | assumption)
              have q60 : x7_2 < (a0.size : Int) := of_decide_eq_true (by first | (with_reducible assumption) | assumption)
              have hx60 := bt_at a0 x7_2
              replace p60 := eq_true p60
              replace q60 := eq_true q60
              go_wp2
              go_ret2
              exact ⟨by first | rfl | (simp [errW_none, errW_some] <;> rfl) | (simp [*, errW_none, errW_some] <;> rfl), by repeat (first | (with_reducible first | exact HB.out | apply below_alloc | apply pw_below_drewN | apply below_drew1) | exact HB.out)⟩
            ·
             rw [if_neg c59] at H
             have c59b0 : ((bt a0 x7_2) == 34) = false := beq_eq_false_iff_ne.mpr c59
             have c59b1 : ((bt a0 x7_2) != 34) = true := bne_iff_ne.mpr c59
             by_cases c63 : (bt a0 x7_2) = 10
             ·
              rw [if_pos c63] at H
              have c63b0 : ((bt a0 x7_2) == 10) = true := beq_iff_eq.mpr c63
              have c63b1 : ((bt a0 x7_2) != 10) = false := bne_eq_false_iff_eq.mpr c63
              clear c63
              simp only [Option.some.injEq, Prod.mk.injEq] at H
              obtain ⟨rfl, rfl⟩ := H
              have p58 : 0 ≤ (x7_2 : Int) := of_decide_eq_true (by first | (with_reducible assumption) | assumption)
              have q58 : x7_2 < (a0.size : Int) := of_decide_eq_true (by first | (with_reducible assumption) | assumption)
              have hx58 := bt_at a0 x7_2
              replace p58 := eq_true p58
              replace q58 := eq_true q58
              have p62 : 0 ≤ (x7_2 : Int) := of_decide_eq_true (by first | (with_reducible assumption) | assumption)
              have q62 : x7_2 < (a0.size : Int) := of_decide_eq_true (by first | (with_reducible assumption) | assumption)
              have hx62 := bt_at a0 x7_2
              replace p62 := eq_true p62
              replace q62 := eq_true q62
              have p64 : 0 ≤ (x7_2 : Int) := of_decide_eq_true (by first | (with_reducible assumption) | assumption)
              have q64 : x7_2 < (a0.size : Int) := of_decide_eq_true (by first | (with_reducible assumption) | assumption)
              have hx64 := bt_at a0 x7_2
              replace p64 := eq_true p64
              replace q64 := eq_true q64
              go_wp2
              go_ret2
              exact ⟨by first | rfl | (simp [errW_none, errW_some] <;> rfl) | (simp [*, errW_none, errW_some] <;> rfl), by repeat (first | (with_reducible first | exact HB.out | apply below_alloc | apply pw_below_drewN | apply below_drew1) | exact HB.out)⟩
             ·
              rw [if_neg c63] at H
              have c63b0 : ((bt a0 x7_2) == 10) = false := beq_eq_false_iff_ne.mpr c63
              have c63b1 : ((bt a0 x7_2) != 10) = true := bne_iff_ne.mpr c63
              have H' := Aside0.mk H
              clear H
              have p58 : 0 ≤ (x7_2 : Int) := of_decide_eq_true (by first | (with_reducible assumption) | assumption)
              have q58 : x7_2 < (a0.size : Int) := of_decide_eq_true (by first | (with_reducible assumption) | assumption)
              have hx58 := bt_at a0 x7_2
              replace p58 := eq_true p58
              replace q58 := eq_true q58
              have p62 : 0 ≤ (x7_2 : Int) := of_decide_eq_true (by first | (with_reducible assumption) | assumption)
              have q62 : x7_2 < (a0.size : Int) := of_decide_eq_true (by first | (with_reducible assumption) | assumption)
              have hx62 := bt_at a0 x7_2
              replace p62 := eq_true p62
              replace q62 := eq_true q62
              go_wp2
              go_roundg k2
              case measure => have := HJ35.out; have := HK2.out; omega
              case rel => exact ⟨(wrap64 (x7_2 + 1)), (by first | rfl | (simp; done) | (simp [*]; done)), H', ⟨by have := HJ35.out; have := HK2.out; omega⟩, ⟨by repeat (first | (with_reducible first | exact HB.out | apply below_alloc | apply pw_below_drewN | apply below_drew1) | exact HB.out)⟩⟩
           ·
            rw [if_neg c57] at H
            exact absurd H (by simp)
          ·
           rw [if_neg c56] at H
           have c56b0 : decide (x7_2 < (a0.size : Int)) = false := decide_eq_false c56
           clear c56
           simp only [Option.some.injEq, Prod.mk.injEq] at H
           obtain ⟨rfl, rfl⟩ := H
           go_wp2
           go_ret2
           exact ⟨by first | rfl | (simp [errW_none, errW_some] <;> rfl) | (simp [*, errW_none, errW_some] <;> rfl), by repeat (first | (with_reducible first | exact HB.out | apply below_alloc | apply pw_below_drewN | apply below_drew1) | exact HB.out)⟩
       ·
        rw [if_neg c55] at H
        have c55b0 : ((bt a0 a1) == 34) = false := beq_eq_false_iff_ne.mpr c55
        have c55b1 : ((bt a0 a1) != 34) = true := bne_iff_ne.mpr c55
        by_cases c65 : (bt a0 a1) = 47
        ·
         rw [if_pos c65] at H
         have c65b0 : ((bt a0 a1) == 47) = true := beq_iff_eq.mpr c65
         have c65b1 : ((bt a0 a1) != 47) = false := bne_eq_false_iff_eq.mpr c65
         clear c65
         simp only [Option.some.injEq, Prod.mk.injEq] at H
         obtain ⟨rfl, rfl⟩ := H
         go_wp2
         go_ret2
         exact ⟨by first | rfl | (simp [errW_none, errW_some] <;> rfl) | (simp [*, errW_none, errW_some] <;> rfl), by repeat (first | (with_reducible first | exact HB.out | apply below_alloc | apply pw_below_drewN | apply below_drew1) | exact HB.out)⟩
        ·
         rw [if_neg c65] at H
         have c65b0 : ((bt a0 a1) == 47) = false := beq_eq_false_iff_ne.mpr c65
         have c65b1 : ((bt a0 a1) != 47) = true := bne_iff_ne.mpr c65
         by_cases c66 : (bt a0 a1) = 44
         ·
          rw [if_pos c66] at H
          have c66b0 : ((bt a0 a1) == 44) = true := beq_iff_eq.mpr c66
          have c66b1 : ((bt a0 a1) != 44) = false := bne_eq_false_iff_eq.mpr c66
          clear c66
          simp only [Option.some.injEq, Prod.mk.injEq] at H
          obtain ⟨rfl, rfl⟩ := H
          go_wp2
          go_ret2
          exact ⟨by first | rfl | (simp [errW_none, errW_some] <;> rfl) | (simp [*, errW_none, errW_some] <;> rfl), by repeat (first | (with_reducible first | exact HB.out | apply below_alloc | apply pw_below_drewN | apply below_drew1) | exact HB.out)⟩
         ·
          rw [if_neg c66] at H
          have c66b0 : ((bt a0 a1) == 44) = false := beq_eq_false_iff_ne.mpr c66
          have c66b1 : ((bt a0 a1) != 44) = true := bne_iff_ne.mpr c66
          by_cases c67 : (bt a0 a1) = 58
          ·
           rw [if_pos c67] at H
           have c67b0 : ((bt a0 a1) == 58) = true := beq_iff_eq.mpr c67
           have c67b1 : ((bt a0 a1) != 58) = false := bne_eq_false_iff_eq.mpr c67
           clear c67
           simp only [Option.some.injEq, Prod.mk.injEq] at H
           obtain ⟨rfl, rfl⟩ := H
           go_wp2
           go_ret2
           exact ⟨by first | rfl | (simp [errW_none, errW_some] <;> rfl) | (simp [*, errW_none, errW_some] <;> rfl), by repeat (first | (with_reducible first | exact HB.out | apply below_alloc | apply pw_below_drewN | apply below_drew1) | exact HB.out)⟩
          ·
           rw [if_neg c67] at H
           have c67b0 : ((bt a0 a1) == 58) = false := beq_eq_false_iff_ne.mpr c67
           have c67b1 : ((bt a0 a1) != 58) = true := bne_iff_ne.mpr c67
           simp only [Option.some.injEq, Prod.mk.injEq] at H
           obtain ⟨rfl, rfl⟩ := H
           go_wp2
           go_ret2
           exact ⟨by first | rfl | (simp [errW_none, errW_some] <;> rfl) | (simp [*, errW_none, errW_some] <;> rfl), by repeat (first | (with_reducible first | exact HB.out | apply below_alloc | apply pw_below_drewN | apply below_drew1) | exact HB.out)⟩
  ·
   rw [if_neg c4] at H
   exact absurd H (by simp)
 ·
  rw [if_neg c3] at H
  exact absurd H (by simp)

end Go.Proofs.YthjmbagkomnpgaaDoor.L
