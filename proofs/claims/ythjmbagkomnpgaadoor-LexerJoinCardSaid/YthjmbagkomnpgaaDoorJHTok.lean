-- Written by this session's own programs; what the law does not lean on is left out. Lean checks it.
import Derived.Lib.SmallJoins
import Derived.Deep.Strs
import Derived.Test.YthjmbagkomnpgaaDoorJHOpen
import Derived.Test.YthjmbagkomnpgaaDoorJS
namespace Go.Proofs.YthjmbagkomnpgaaDoorH
set_option linter.unusedVariables false
open Go Go.ChangeShapes Go.WideShapes Go.Deep Go.Proofs.YthjmbagkomnpgaaDoorW.PrintWords Go.Proofs.YthjmbagkomnpgaaDoor Go.Proofs.YthjmbagkomnpgaaDoor.L
theorem four_cells {cs : List Value} (hl : cs.length = 4) : ∃ c0 c1 c2 c3, cs = [c0, c1, c2, c3] := by
 match cs, hl with
 | [c0, c1, c2, c3], _ => exact ⟨c0, c1, c2, c3, rfl⟩
set_option maxRecDepth 100000 in
theorem opens_40 : Opens Tryd.prog k40 (fun _ => True) 40 := by
 intro H enc w base spare held fuel cs x h
 obtain ⟨y0, y1, y2, y3, n, _, hl, h0, h1, h2, h3⟩ := Go.Joins.trod_struct4 Tryd.underlying40 h
 have e : Tryd.prog.cellsOf 40 = 4 := by kernel_rfl
 rw [e] at hl
 obtain ⟨c0, c1, c2, c3, rfl⟩ := four_cells hl
 have e3 : Tryd.prog.cellsOf 3 = 1 := by kernel_rfl
 have e9 : Tryd.prog.cellsOf 9 = 1 := by kernel_rfl
 have g0 : DataW.trod enc Tryd.prog w base spare held n 3 [c0] = some y0 := by
  have h' := h0
  dsimp only at h'
  rw [e3] at h'
  exact h'
 have g1 : DataW.trod enc Tryd.prog w base spare held n 9 [c1] = some y1 := by
  have h' := h1
  dsimp only at h'
  rw [e9] at h'
  exact h'
 have g2 : DataW.trod enc Tryd.prog w base spare held n 3 [c2] = some y2 := by
  have h' := h2
  dsimp only at h'
  rw [e3] at h'
  exact h'
 have g3 : DataW.trod enc Tryd.prog w base spare held n 3 [c3] = some y3 := by
  have h' := h3
  dsimp only at h'
  rw [e3] at h'
  exact h'
 obtain ⟨a, q0, _⟩ := DataW.trod_int Tryd.underlying3 g0
 obtain ⟨s, q1, _⟩ := DataW.trod_string Tryd.underlying9 g1
 obtain ⟨b, q2, _⟩ := DataW.trod_int Tryd.underlying3 g2
 obtain ⟨c, q3, _⟩ := DataW.trod_int Tryd.underlying3 g3
 rw [List.cons.injEq] at q0 q1 q2 q3
 rw [q0.1, q1.1, q2.1, q3.1]
 exact ⟨⟨a, s, b, c⟩, k40_mk w ⟨a, s, b, c⟩, trivial⟩
theorem opens_27 : Opens Tryd.prog (Kd.slice 40 k40) (fun l => l.length ≤ 9223372036854775807 ∧ ∀ x ∈ l, True) 27 := opens_slice 40 Tryd.underlying27 (by kernel_rfl) opens_40
end Go.Proofs.YthjmbagkomnpgaaDoorH
