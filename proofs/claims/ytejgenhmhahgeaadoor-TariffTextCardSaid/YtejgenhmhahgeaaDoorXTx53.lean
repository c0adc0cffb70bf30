-- Written by this session's own programs; what the law does not lean on is left out. Lean checks it.
import Derived.Test.YtejgenhmhahgeaaDoorXS
namespace Go.Proofs.YtejgenhmhahgeaaDoor.T
open Go.RowKit Go.Proofs.YtejgenhmhahgeaaDoorW.PrintWords Go.Proofs.YtejgenhmhahgeaaDoorW.PrintLast Go.Proofs.YtejgenhmhahgeaaDoorW.PrintMore
set_option linter.unusedVariables false
set_option linter.unusedSimpArgs false

mutual
def culetref44_Number.l0 : Nat → ByteArray → Int → Int → Option (Int × Bool)
 | 0, _, _, _ => none
 | k + 1, x0, x4, x5 => if x5 < (x0.size : Int) then (if 0 ≤ x5 then (if (bt x0 x5) < 48 then (culetref44_Number.j1 k x0 x4 x5 true) else (culetref44_Number.j1 k x0 x4 x5 (decide ((bt x0 x5) > 57)))) else (none)) else (if (x0.size : Int) ≥ 1 then (if (x0.size : Int) ≤ 9 then (if 0 < (x0.size : Int) then (if (bt x0 0) = 48 then (some (x4, ((x0.size : Int) == 1))) else (some (x4, true))) else (none)) else (some (x4, false))) else (some (x4, false)))
def culetref44_Number.j1 : Nat → ByteArray → Int → Int → Bool → Option (Int × Bool)
 | 0, _, _, _, _ => none
 | k + 1, x0, x4, x5, x21 => if x21 = true then (some (0, false)) else (if x5 < 9 then (if 0 ≤ x5 then (if x5 < (x0.size : Int) then (culetref44_Number.l0 k x0 (wrap64 ((wrap64 (10 * x4)) + (((bt x0 x5) - 48) % 256))) (wrap64 (x5 + 1))) else (none)) else (none)) else (culetref44_Number.l0 k x0 x4 (wrap64 (x5 + 1))))
end
def culetref44_Number.f (k : Nat) (a0 : ByteArray) : Option (Int × Bool) := culetref44_Number.l0 k a0 0 0
set_option maxHeartbeats 8000000 in
set_option maxRecDepth 100000 in
theorem culetref44_Number.calls (k : Nat) (a0 : ByteArray) (r1 : Int) (r2 : Bool) (w : World) (h : culetref44_Number.f k a0 = some (r1, r2)) :
  Calls Tryd.prog 33 #[.string a0] w fun e w' => e = .returned (.tuple #[.int .i64 r1, .bool r2]) ∧ Drawn0 w w' := by
 have H : (culetref44_Number.l0 k a0 0 0) = some (r1, r2) := h
 clear h
 have H' := Aside0.mk H
 clear H
 go_enter Tryd.func33, Tryd.ntmps33
 go_wp2
 go_loopg [4, 5] k (fun kq v4 v5 w' => ∃ (x4_1 : Int) (x5_1 : Int), v4 = .int .i64 x4_1 ∧ v5 = .int .i64 x5_1 ∧ Aside0 (culetref44_Number.l0 kq a0 x4_1 x5_1 = some (r1, r2)) ∧ Aside0 (kq ≤ k) ∧ Drawn0 w w')
 case atStart => exact ⟨(0), (0), (by first | rfl | (simp; done) | (simp [*]; done)), (by first | rfl | (simp; done) | (simp [*]; done)), H', ⟨Nat.le_refl _⟩, by repeat (first | exact Drawn0.refl _ | apply Drawn0.step)⟩
 case round =>
  clear H'
  obtain ⟨x4_1, x5_1, rfl, rfl, HA, HK1, ⟨m1, rfl⟩⟩ := hrel
  cases gk with
  | zero => exact absurd HA.out (by simp [culetref44_Number.l0])
  | succ k1 =>
   have H := HA.out
   clear HA
   simp only [culetref44_Number.l0] at H
   by_cases c2 : x5_1 < (a0.size : Int)
   ·
    rw [if_pos c2] at H
    have c2b0 : decide (x5_1 < (a0.size : Int)) = true := decide_eq_true c2
    clear c2
    have HC3 := Aside0.mk H
    clear H
    go_upto_region 5 with (fail)
    go_cut [21] (fun v21 wc => ∃ (kq : Nat) (x21_2 : Bool), v21 = .bool x21_2 ∧ Aside0 (culetref44_Number.j1 kq a0 x4_1 x5_1 x21_2 = some (r1, r2)) ∧ Aside0 (kq ≤ k1) ∧ Drawn0 w wc)
    case first =>
     have H := HC3.out
     clear HC3
     by_cases c4 : 0 ≤ x5_1
     ·
      rw [if_pos c4] at H
      have c4b0 : decide (0 ≤ x5_1) = true := decide_eq_true c4
      clear c4
      (first | rw [c4b0] | (simp only [i64_w, i32_w]; rw [c4b0]) | skip)
      by_cases c6 : (bt a0 x5_1) < 48
      ·
       rw [if_pos c6] at H
       have c6b0 : decide ((bt a0 x5_1) < 48) = true := decide_eq_true c6
       clear c6
       have H' := Aside0.mk H
       clear H
       have p5 : 0 ≤ (x5_1 : Int) := of_decide_eq_true (by first | (with_reducible assumption) | assumption)
       have q5 : x5_1 < (a0.size : Int) := of_decide_eq_true (by first | (with_reducible assumption) | assumption)
       have hx5 := bt_at a0 x5_1
       replace p5 := eq_true p5
       replace q5 := eq_true q5
       go_wp2
       go_meet
       case rel => exact ⟨_, (true), (by first | rfl | (simp; done) | (simp [*]; done)), H', ⟨by have := HK1.out; first | omega | exact Nat.le_refl _⟩, by repeat (first | exact Drawn0.refl _ | apply Drawn0.step)⟩
      ·
       rw [if_neg c6] at H
       have c6b0 : decide ((bt a0 x5_1) < 48) = false := decide_eq_false c6
       clear c6
       have H' := Aside0.mk H
       clear H
       have p5 : 0 ≤ (x5_1 : Int) := of_decide_eq_true (by first | (with_reducible assumption) | assumption)
       have q5 : x5_1 < (a0.size : Int) := of_decide_eq_true (by first | (with_reducible assumption) | assumption)
       have hx5 := bt_at a0 x5_1
       replace p5 := eq_true p5
       replace q5 := eq_true q5
       have p7 : 0 ≤ (x5_1 : Int) := of_decide_eq_true (by first | (with_reducible assumption) | assumption)
       have q7 : x5_1 < (a0.size : Int) := of_decide_eq_true (by first | (with_reducible assumption) | assumption)
       have hx7 := bt_at a0 x5_1
       replace p7 := eq_true p7
       replace q7 := eq_true q7
       go_wp2
       go_meet
       case rel => exact ⟨_, (decide ((bt a0 x5_1) > 57)), (by first | rfl | (simp; done) | (simp [*]; done)), H', ⟨by have := HK1.out; first | omega | exact Nat.le_refl _⟩, by repeat (first | exact Drawn0.refl _ | apply Drawn0.step)⟩
     ·
      rw [if_neg c4] at H
      exact absurd H (by simp)
    case rest =>
     clear HC3
     try clear c2
     try clear c2b0
     try clear p2
     try clear c3
     try clear c4
     try clear c4b0
     try clear p5
     try clear q5
     try clear hx5
     try clear c6
     try clear c6b0
     try clear p7
     try clear q7
     try clear hx7
     try clear p5
     try clear p7
     try clear q5
     try clear q7
     obtain ⟨kq, x21_2, rfl, HA, HJ2, ⟨mc2, rfl⟩⟩ := hcut
     cases kq with
     | zero => exact absurd HA.out (by simp [culetref44_Number.j1])
     | succ kj2 =>
      have H := HA.out
      clear HA
      simp only [culetref44_Number.j1] at H
      by_cases c8 : x21_2 = true
      ·
       subst c8
       have H1 : (some (0, false)) = some (r1, r2) := by rw [if_pos rfl] at H; exact H
       clear H
       have H := H1
       clear H1
       simp only [Option.some.injEq, Prod.mk.injEq] at H
       obtain ⟨rfl, rfl⟩ := H
       go_wp2
       go_ret2
       exact ⟨by first | rfl | (simp; done) | (simp [*]; done), by repeat (first | exact Drawn0.refl _ | apply Drawn0.step)⟩
      ·
       replace c8 := Bool.eq_false_iff.mpr c8
       subst c8
       have H1 : (if x5_1 < 9 then (if 0 ≤ x5_1 then (if x5_1 < (a0.size : Int) then (culetref44_Number.l0 kj2 a0 (wrap64 ((wrap64 (10 * x4_1)) + (((bt a0 x5_1) - 48) % 256))) (wrap64 (x5_1 + 1))) else (none)) else (none)) else (culetref44_Number.l0 kj2 a0 x4_1 (wrap64 (x5_1 + 1)))) = some (r1, r2) := by rw [if_neg (show ¬ (false = true) by decide)] at H; exact H
       clear H
       have H := H1
       clear H1
       by_cases c9 : x5_1 < 9
       ·
        rw [if_pos c9] at H
        have c9b0 : decide (x5_1 < 9) = true := decide_eq_true c9
        clear c9
        by_cases c10 : 0 ≤ x5_1
        ·
         rw [if_pos c10] at H
         have c10b0 : decide (0 ≤ x5_1) = true := decide_eq_true c10
         clear c10
         by_cases c11 : x5_1 < (a0.size : Int)
         ·
          rw [if_pos c11] at H
          have c11b0 : decide (x5_1 < (a0.size : Int)) = true := decide_eq_true c11
          clear c11
          have H' := Aside0.mk H
          clear H
          have p12 : 0 ≤ (x5_1 : Int) := of_decide_eq_true (by first | (with_reducible assumption) | assumption)
          have q12 : x5_1 < (a0.size : Int) := of_decide_eq_true (by first | (with_reducible assumption) | assumption)
          have hx12 := bt_at a0 x5_1
          replace p12 := eq_true p12
          replace q12 := eq_true q12
          go_wp2
          go_roundg kj2
          case measure => have := HK1.out; have := HJ2.out; omega
          case rel => exact ⟨(wrap64 ((wrap64 (10 * x4_1)) + (((bt a0 x5_1) - 48) % 256))), (wrap64 (x5_1 + 1)), (by first | rfl | (simp; done) | (simp [*]; done)), (by first | rfl | (simp; done) | (simp [*]; done)), H', ⟨by have := HK1.out; have := HJ2.out; omega⟩, by repeat (first | exact Drawn0.refl _ | apply Drawn0.step)⟩
         ·
          rw [if_neg c11] at H
          exact absurd H (by simp)
        ·
         rw [if_neg c10] at H
         exact absurd H (by simp)
       ·
        rw [if_neg c9] at H
        have c9b0 : decide (x5_1 < 9) = false := decide_eq_false c9
        clear c9
        have H' := Aside0.mk H
        clear H
        go_wp2
        go_roundg kj2
        case measure => have := HK1.out; have := HJ2.out; omega
        case rel => exact ⟨(x4_1), (wrap64 (x5_1 + 1)), (by first | rfl | (simp; done) | (simp [*]; done)), (by first | rfl | (simp; done) | (simp [*]; done)), H', ⟨by have := HK1.out; have := HJ2.out; omega⟩, by repeat (first | exact Drawn0.refl _ | apply Drawn0.step)⟩
   ·
    rw [if_neg c2] at H
    have c2b0 : decide (x5_1 < (a0.size : Int)) = false := decide_eq_false c2
    clear c2
    by_cases c13 : (a0.size : Int) ≥ 1
    ·
     rw [if_pos c13] at H
     have c13b0 : decide (1 ≤ (a0.size : Int)) = true := decide_eq_true c13
     have c13b1 : decide (1 ≤ a0.size) = true := decide_eq_true (by omega)
     clear c13
     by_cases c14 : (a0.size : Int) ≤ 9
     ·
      rw [if_pos c14] at H
      have c14b0 : decide ((a0.size : Int) ≤ 9) = true := decide_eq_true c14
      have c14b1 : decide (a0.size ≤ 9) = true := decide_eq_true (by omega)
      clear c14
      by_cases c15 : 0 < (a0.size : Int)
      ·
       rw [if_pos c15] at H
       have c15b0 : decide (0 < (a0.size : Int)) = true := decide_eq_true c15
       have c15b1 : decide (0 < a0.size) = true := decide_eq_true (by omega)
       clear c15
       by_cases c17 : (bt a0 0) = 48
       ·
        rw [if_pos c17] at H
        have c17b0 : ((bt a0 0) == 48) = true := beq_iff_eq.mpr c17
        have c17b1 : ((bt a0 0) != 48) = false := bne_eq_false_iff_eq.mpr c17
        clear c17
        simp only [Option.some.injEq, Prod.mk.injEq] at H
        obtain ⟨rfl, rfl⟩ := H
        have p16 : 0 ≤ (0 : Int) := (by omega)
        have q16 : 0 < a0.size := (by have : (0 : Int) < (a0.size : Int) := of_decide_eq_true (by first | (with_reducible assumption) | assumption); omega)
        have hx16 : ∀ h : 0 < a0.size, ((a0[0]'h).toNat : Int) = bt a0 0 := bt_at a0 0
        clear p16
        have qi16 : (0 < (a0.size : Int)) = True := eq_true (of_decide_eq_true (by first | (with_reducible assumption) | assumption))
        replace q16 := eq_true q16
        go_wp2
        go_ret2
        exact ⟨by first | rfl | (simp; done) | (simp [*]; done), by repeat (first | exact Drawn0.refl _ | apply Drawn0.step)⟩
       ·
        rw [if_neg c17] at H
        have c17b0 : ((bt a0 0) == 48) = false := beq_eq_false_iff_ne.mpr c17
        have c17b1 : ((bt a0 0) != 48) = true := bne_iff_ne.mpr c17
        simp only [Option.some.injEq, Prod.mk.injEq] at H
        obtain ⟨rfl, rfl⟩ := H
        have p16 : 0 ≤ (0 : Int) := (by omega)
        have q16 : 0 < a0.size := (by have : (0 : Int) < (a0.size : Int) := of_decide_eq_true (by first | (with_reducible assumption) | assumption); omega)
        have hx16 : ∀ h : 0 < a0.size, ((a0[0]'h).toNat : Int) = bt a0 0 := bt_at a0 0
        clear p16
        have qi16 : (0 < (a0.size : Int)) = True := eq_true (of_decide_eq_true (by first | (with_reducible assumption) | assumption))
        replace q16 := eq_true q16
        go_wp2
        go_ret2
        exact ⟨by first | rfl | (simp; done) | (simp [*]; done), by repeat (first | exact Drawn0.refl _ | apply Drawn0.step)⟩
      ·
       rw [if_neg c15] at H
       exact absurd H (by simp)
     ·
      rw [if_neg c14] at H
      have c14b0 : decide ((a0.size : Int) ≤ 9) = false := decide_eq_false c14
      have c14b1 : decide (a0.size ≤ 9) = false := decide_eq_false (by omega)
      clear c14
      simp only [Option.some.injEq, Prod.mk.injEq] at H
      obtain ⟨rfl, rfl⟩ := H
      go_wp2
      go_ret2
      exact ⟨by first | rfl | (simp; done) | (simp [*]; done), by repeat (first | exact Drawn0.refl _ | apply Drawn0.step)⟩
    ·
     rw [if_neg c13] at H
     have c13b0 : decide (1 ≤ (a0.size : Int)) = false := decide_eq_false c13
     have c13b1 : decide (1 ≤ a0.size) = false := decide_eq_false (by omega)
     clear c13
     simp only [Option.some.injEq, Prod.mk.injEq] at H
     obtain ⟨rfl, rfl⟩ := H
     go_wp2
     go_ret2
     exact ⟨by first | rfl | (simp; done) | (simp [*]; done), by repeat (first | exact Drawn0.refl _ | apply Drawn0.step)⟩

end Go.Proofs.YtejgenhmhahgeaaDoor.T
