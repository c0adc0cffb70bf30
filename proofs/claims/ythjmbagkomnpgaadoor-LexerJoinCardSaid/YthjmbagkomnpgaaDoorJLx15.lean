-- Written by this session's own programs; what the law does not lean on is left out. Lean checks it.
import Derived.Test.YthjmbagkomnpgaaDoorJS
namespace Go.Proofs.YthjmbagkomnpgaaDoor.L
open Go.RowKit Go.Proofs.YthjmbagkomnpgaaDoorW.PrintWords Go.Proofs.YthjmbagkomnpgaaDoorW.PrintLast Go.Proofs.YthjmbagkomnpgaaDoorW.PrintMore
set_option linter.unusedVariables false
set_option linter.unusedSimpArgs false

def lexer_notec.f (a0 : Int) : Option (Bool) := some (a0 != 10)
theorem lexer_notec.calls (a0 : Int) (r : Bool) (w : World) (h : lexer_notec.f a0 = some r) :
  Calls Tryd.prog 30 #[.int .u8 a0] w fun e w' => e = .returned (.bool r) ∧ Drawn0 w w' := by
 obtain rfl := Option.some.inj h
 clear h
 go_enter Tryd.func30, Tryd.ntmps30
 go_wp2
 go_ret
 exact ⟨rfl, by repeat (first | exact Drawn0.refl _ | apply Drawn0.step)⟩
theorem lexer_run_note.eg : ∀ args w, (callFunc 30 args).run Tryd.prog w = .ok (.enter 30 args) w := enters_of Tryd.func30 (by kernel_rfl) rfl
def lexer_run_note.l0 : Nat → ByteArray → Int → Option Int
 | 0, _, _ => none
 | k + 1, s, n => if n < (s.size : Int) then (if 0 ≤ n then ((lexer_notec.f (bt s n)).bind fun t => (if t = true then lexer_run_note.l0 k s (wrap64 (n + 1)) else some n)) else none) else some n
def lexer_run_note.f (k : Nat) (a0 : ByteArray) : Option Int := lexer_run_note.l0 k a0 0
set_option maxHeartbeats 8000000 in
set_option maxRecDepth 100000 in
theorem lexer_run_note.calls (k : Nat) (a0 : ByteArray) (r : Int) (w : World) (h : lexer_run_note.f k a0 = some r) :
  Calls Tryd.prog 29 #[.string a0, .func (.func 30) #[] #[]] w fun e w' => e = .returned (.int .i64 r) ∧ Drawn0 w w' := by
 have H : (lexer_run_note.l0 k a0 0) = some r := h
 clear h
 have H' := Aside0.mk H
 clear H
 have eg := lexer_run_note.eg
 go_enter Tryd.func29, Tryd.ntmps29
 go_wp2
 go_loopg [5] k (fun kq v3 w' => ∃ (x3_1 : Int), v3 = .int .i64 x3_1 ∧ Aside0 (lexer_run_note.l0 kq a0 x3_1 = some r) ∧ Aside0 (kq ≤ k) ∧ Drawn0 w w')
 case atStart => exact ⟨(0), (by first | rfl | (simp; done) | (simp [*]; done)), H', ⟨Nat.le_refl _⟩, by repeat (first | exact Drawn0.refl _ | apply Drawn0.step)⟩
 case round =>
  clear H'
  obtain ⟨x3_1, rfl, HA, HK1, ⟨m1, rfl⟩⟩ := hrel
  cases gk with
  | zero => exact absurd HA.out (by simp [lexer_run_note.l0])
  | succ k1 =>
   have H := HA.out
   clear HA
   simp only [lexer_run_note.l0] at H
   by_cases c2 : x3_1 < (a0.size : Int)
   ·
    rw [if_pos c2] at H
    have c2b0 : decide (x3_1 < (a0.size : Int)) = true := decide_eq_true c2
    by_cases c3 : 0 ≤ x3_1
    ·
     rw [if_pos c3] at H
     have c3b0 : decide (0 ≤ x3_1) = true := decide_eq_true c3
     replace H := Option.bind_eq_some_iff.mp H
     obtain ⟨t144, A50, H⟩ := H
     have A5 := Aside0.mk A50
     clear A50
     have hx4 := bt_at a0 x3_1
     replace c2 := eq_true c2
     replace c3 := eq_true c3
     by_cases c6 : t144 = true
     ·
      subst c6
      rw [if_pos rfl] at H
      have H' := Aside0.mk H
      clear H
      go_wp2_with (go_at_fn 30; refine (lexer_notec.calls (bt a0 x3_1) true _ A5.out).mono ?_; rintro e w' ⟨rfl, ⟨nd, rfl⟩⟩)
      go_roundg k1
      case measure => have := HK1.out; omega
      case rel => exact ⟨(wrap64 (x3_1 + 1)), (by first | rfl | (simp; done) | (simp [*]; done)), H', ⟨by have := HK1.out; omega⟩, by repeat (first | exact Drawn0.refl _ | apply Drawn0.step)⟩
     ·
      replace c6 := Bool.eq_false_iff.mpr c6
      subst c6
      rw [if_neg (show ¬ (false = true) by decide)] at H
      obtain rfl := Option.some.inj H
      go_wp2_with (go_at_fn 30; refine (lexer_notec.calls (bt a0 x3_1) false _ A5.out).mono ?_; rintro e w' ⟨rfl, ⟨nd, rfl⟩⟩)
      go_ret
      exact ⟨by first | rfl | (simp; done) | (simp [*]; done), by repeat (first | exact Drawn0.refl _ | apply Drawn0.step)⟩
    ·
     rw [if_neg c3] at H
     exact absurd H (by simp)
   ·
    rw [if_neg c2] at H
    have c2b0 : decide (x3_1 < (a0.size : Int)) = false := decide_eq_false c2
    obtain rfl := Option.some.inj H
    go_wp2
    go_ret
    exact ⟨by first | rfl | (simp; done) | (simp [*]; done), by repeat (first | exact Drawn0.refl _ | apply Drawn0.step)⟩

end Go.Proofs.YthjmbagkomnpgaaDoor.L
