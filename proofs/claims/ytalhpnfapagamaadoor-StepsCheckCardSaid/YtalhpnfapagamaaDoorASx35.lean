-- Written by this session's own programs; what the law does not lean on is left out. Lean checks it.
import Derived.Test.YtalhpnfapagamaaDoorAS
namespace Go.Proofs.YtalhpnfapagamaaDoor.S
open Go.RowKit Go.Proofs.YtalhpnfapagamaaDoorW.PrintWords Go.Proofs.YtalhpnfapagamaaDoorW.PrintLast Go.Proofs.YtalhpnfapagamaaDoorW.PrintMore Go.Proofs.YtalhpnfapagamaaDoorD
set_option linter.unusedVariables false
set_option linter.unusedSimpArgs false

def culetref49_Changes.l0 : Nat → List (S63) → Int → Int → Option (Int)
 | 0, _, _, _ => none
 | k + 1, x0, x3, x4 => if x4 < (x0.length : Int) then (if 0 ≤ x4 then (if ((rd_T63 x0 x4).f0) = 1 then (culetref49_Changes.l0 k x0 (wrap64 (x3 + 1)) (wrap64 (x4 + 1))) else (culetref49_Changes.l0 k x0 x3 (wrap64 (x4 + 1)))) else (none)) else (some x3)
def culetref49_Changes.f (k : Nat) (l0 : List (S63)) : Option (Int) := culetref49_Changes.l0 k l0 0 0
set_option maxHeartbeats 8000000 in
set_option maxRecDepth 100000 in
theorem culetref49_Changes.calls (k : Nat) (A0 : Option Addr) (c0 : Nat) (l0 : List (S63)) (r : Int) (w : World) (hr0 : Kd.C k63 w A0 l0.length l0) (hc0 : l0.length ≤ c0) (h : culetref49_Changes.f k l0 = some r) :
  Calls Tryd.prog 16 #[.slice A0 l0.length c0] w fun e w' => e = .returned (.int .i64 r) ∧ Drawn0 w w' := by
 have HR0 := am_ hr0
 have HC0 := am_ hc0
 clear hr0 hc0
 have H : (culetref49_Changes.l0 k l0 0 0) = some r := h
 clear h
 have H' := am_ H
 clear H
 go_enter Tryd.func16, Tryd.ntmps16
 go_wp2
 go_loopg [3, 4] k (fun kq v3 v4 w' => ∃ (x3_1 : Int) (x4_1 : Int), v3 = .int .i64 x3_1 ∧ v4 = .int .i64 x4_1 ∧ Aside0 (culetref49_Changes.l0 kq l0 x3_1 x4_1 = some r) ∧ Aside0 (kq ≤ k) ∧ Drawn0 w w')
 case atStart => exact ⟨(0), (0), rs_, rs_, H', ⟨Nat.le_refl _⟩, by repeat (first | exact Drawn0.refl _ | apply Drawn0.step)⟩
 case round =>
  clear H'
  try clear c1
  obtain ⟨x3_1, x4_1, rfl, rfl, HA, HK1, ⟨m1, rfl⟩⟩ := hrel
  cases gk with
  | zero => exact absurd HA.out (by simp [culetref49_Changes.l0])
  | succ k1 =>
   have H := HA.out
   clear HA
   simp only [culetref49_Changes.l0] at H
   by_cases c2 : x4_1 < (l0.length : Int)
   ·
    rw [if_pos c2] at H
    have c2b0 : decide (x4_1 < (l0.length : Int)) = true := decide_eq_true c2
    clear c2
    by_cases c3 : 0 ≤ x4_1
    ·
     rw [if_pos c3] at H
     have c3b0 : decide (0 ≤ x4_1) = true := decide_eq_true c3
     clear c3
     by_cases c4 : ((rd_T63 l0 x4_1).f0) = 1
     ·
      rw [if_pos c4] at H
      have c4b0 : (((rd_T63 l0 x4_1).f0) == 1) = true := beq_iff_eq.mpr c4
      have c4b1 : (((rd_T63 l0 x4_1).f0) != 1) = false := bne_eq_false_iff_eq.mpr c4
      clear c4
      have H' := am_ H
      clear H
      have p278 : 0 ≤ (x4_1 : Int) := of_decide_eq_true as_
      have q278 : x4_1 < (l0.length : Int) := of_decide_eq_true as_
      obtain ⟨ad278, e278, hx278_0, hx278_1, hx278_2⟩ := at_T63 HR0.out x4_1 p278 q278
      cases e278
      replace p278 := eq_true p278
      replace q278 := eq_true q278
      go_wp2
      go_roundg k1
      case measure => have := HK1.out; omega
      case rel => exact ⟨(wrap64 (x3_1 + 1)), (wrap64 (x4_1 + 1)), rs_, rs_, H', ⟨by have := HK1.out; omega⟩, by repeat (first | exact Drawn0.refl _ | apply Drawn0.step)⟩
     ·
      rw [if_neg c4] at H
      have c4b0 : (((rd_T63 l0 x4_1).f0) == 1) = false := beq_eq_false_iff_ne.mpr c4
      have c4b1 : (((rd_T63 l0 x4_1).f0) != 1) = true := bne_iff_ne.mpr c4
      have H' := am_ H
      clear H
      have p278 : 0 ≤ (x4_1 : Int) := of_decide_eq_true as_
      have q278 : x4_1 < (l0.length : Int) := of_decide_eq_true as_
      obtain ⟨ad278, e278, hx278_0, hx278_1, hx278_2⟩ := at_T63 HR0.out x4_1 p278 q278
      cases e278
      replace p278 := eq_true p278
      replace q278 := eq_true q278
      go_wp2
      go_roundg k1
      case measure => have := HK1.out; omega
      case rel => exact ⟨(x3_1), (wrap64 (x4_1 + 1)), rs_, rs_, H', ⟨by have := HK1.out; omega⟩, by repeat (first | exact Drawn0.refl _ | apply Drawn0.step)⟩
    ·
     rw [if_neg c3] at H
     exact absurd H (by simp)
   ·
    rw [if_neg c2] at H
    have c2b0 : decide (x4_1 < (l0.length : Int)) = false := decide_eq_false c2
    clear c2
    obtain rfl := Option.some.inj H
    go_wp2
    go_ret
    exact ⟨by first | rfl | (simp; done) | (simp [*]; done), by repeat (first | exact Drawn0.refl _ | apply Drawn0.step)⟩

end Go.Proofs.YtalhpnfapagamaaDoor.S
