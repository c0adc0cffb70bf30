-- Written by this session's own program over the kit's printer, with hand-made contracts. Lean checks it.
import Derived.Test.YthjmbagkomnpgaaDoorLx0
namespace Go.Proofs.YthjmbagkomnpgaaDoor.L
open Go.RowKit Go.Proofs.YthjmbagkomnpgaaDoorW.PrintWords Go.Proofs.YthjmbagkomnpgaaDoorW.PrintLast Go.Proofs.YthjmbagkomnpgaaDoorW.PrintMore
attribute [local go_sem] max2_int min2_int max_two min_two max_three min_three max_four min_four   -- for this text's walks alone
set_option linter.unusedVariables false
set_option linter.unusedSimpArgs false

/-! ### strings_IndexAny: function 42 -/
def strings_IndexAny.f (a0 : ByteArray) (a1 : ByteArray) : Option Int := if a1 = ⟨#[34, 10]⟩ ∧ a0.size < 4294967281 then some (Lib.indexAny a0.data.toList [34, 10]) else none
theorem strings_IndexAny.calls (a0 : ByteArray) (a1 : ByteArray) (r : Int) (w : World) (h : strings_IndexAny.f a0 a1 = some r) :
    Calls Tryd.prog 42 #[.string a0, .string a1] w fun e w' => e = .returned (.int .i64 r) ∧ Below w.heap.size w w' := by
  unfold strings_IndexAny.f at h
  by_cases c : a1 = ⟨#[34, 10]⟩ ∧ a0.size < 4294967281
  · rw [if_pos c] at h
    obtain rfl := Option.some.inj h
    obtain ⟨rfl, c⟩ := c
    exact indexAny_quote a0 w c
  · rw [if_neg c] at h
    exact absurd h (by simp)

end Go.Proofs.YthjmbagkomnpgaaDoor.L
