-- Written by this session's own programs; what the law does not lean on is left out. Lean checks it.
import Derived.Lib.SmallJoins
import Derived.Deep.Strs
import Derived.Test.YtalhpnfapagamaaQHOpen
import Derived.Test.YtalhpnfapagamaaQS
namespace Go.Proofs.YtalhpnfapagamaaH
set_option linter.unusedVariables false
open Go Go.ChangeShapes Go.WideShapes Go.Deep Go.Proofs.YtalhpnfapagamaaW.PrintWords Go.Proofs.Ytalhpnfapagamaa Go.Proofs.Ytalhpnfapagamaa.S
theorem three_cells {cs : List Value} (hl : cs.length = 3) : ∃ c0 c1 c2, cs = [c0, c1, c2] := by
 match cs, hl with
 | [c0, c1, c2], _ => exact ⟨c0, c1, c2, rfl⟩
set_option maxRecDepth 100000 in
theorem opens_94 : Opens Try.prog k94 (fun _ => True) 94 := by
 intro H enc w base spare held fuel cs x h
 obtain ⟨y0, y1, y2, n, _, hl, h0, h1, h2⟩ := trod_struct3 Try.underlying94 h
 have e : Try.prog.cellsOf 94 = 3 := by kernel_rfl
 rw [e] at hl
 obtain ⟨c0, c1, c2, rfl⟩ : ∃ c0 c1 c2, cs = [c0, c1, c2] := by
  exact three_cells hl
 have g0 : DataW.trod enc Try.prog w base spare held n 9 [c0] = some y0 := by
  have e0 : Try.prog.cellsOf 9 = 1 := by kernel_rfl
  have h0' := h0
  dsimp only at h0'
  rw [e0] at h0'
  exact h0'
 have g1 : DataW.trod enc Try.prog w base spare held n 3 [c1] = some y1 := by
  have e0 : Try.prog.cellsOf 3 = 1 := by kernel_rfl
  have h0' := h1
  dsimp only at h0'
  rw [e0] at h0'
  exact h0'
 have g2 : DataW.trod enc Try.prog w base spare held n 3 [c2] = some y2 := by
  have e0 : Try.prog.cellsOf 3 = 1 := by kernel_rfl
  have h0' := h2
  dsimp only at h0'
  rw [e0] at h0'
  exact h0'
 obtain ⟨s, q0, _⟩ := DataW.trod_string Try.underlying9 g0
 obtain ⟨a, q1, _⟩ := DataW.trod_int Try.underlying3 g1
 obtain ⟨b, q2, _⟩ := DataW.trod_int Try.underlying3 g2
 rw [List.cons.injEq] at q0 q1 q2
 rw [q0.1, q1.1, q2.1]
 exact ⟨⟨s, a, b⟩, k94_mk w ⟨s, a, b⟩, trivial⟩
set_option maxRecDepth 100000 in
theorem opens_68 : Opens Try.prog k68 (fun _ => True) 68 := by
 intro H enc w base spare held fuel cs x h
 obtain ⟨y0, y1, y2, n, _, hl, h0, h1, h2⟩ := trod_struct3 Try.underlying68 h
 have e : Try.prog.cellsOf 68 = 3 := by kernel_rfl
 rw [e] at hl
 obtain ⟨c0, c1, c2, rfl⟩ : ∃ c0 c1 c2, cs = [c0, c1, c2] := by
  exact three_cells hl
 have g0 : DataW.trod enc Try.prog w base spare held n 9 [c0] = some y0 := by
  have e0 : Try.prog.cellsOf 9 = 1 := by kernel_rfl
  have h0' := h0
  dsimp only at h0'
  rw [e0] at h0'
  exact h0'
 have g1 : DataW.trod enc Try.prog w base spare held n 3 [c1] = some y1 := by
  have e0 : Try.prog.cellsOf 3 = 1 := by kernel_rfl
  have h0' := h1
  dsimp only at h0'
  rw [e0] at h0'
  exact h0'
 have g2 : DataW.trod enc Try.prog w base spare held n 3 [c2] = some y2 := by
  have e0 : Try.prog.cellsOf 3 = 1 := by kernel_rfl
  have h0' := h2
  dsimp only at h0'
  rw [e0] at h0'
  exact h0'
 obtain ⟨s, q0, _⟩ := DataW.trod_string Try.underlying9 g0
 obtain ⟨a, q1, _⟩ := DataW.trod_int Try.underlying3 g1
 obtain ⟨b, q2, _⟩ := DataW.trod_int Try.underlying3 g2
 rw [List.cons.injEq] at q0 q1 q2
 rw [q0.1, q1.1, q2.1]
 exact ⟨⟨s, a, b⟩, k68_mk w ⟨s, a, b⟩, trivial⟩
set_option maxRecDepth 100000 in
theorem open_plan {H : Type} {enc : TypeId × Value → H} {w : World} {base : Nat} {r : Reach} {b0 : Nat} {spare : Nat → Bool} {held : Bool} {v : Value} {d : DataW H} {ps : List MemPlace}
  (hv : Value.okWide Try.prog w r b0 50 v) (h : DataW.Trod enc Try.prog w base spare held 50 v d ps) :
  ∃ (A0 : Option Addr) (c0 : Nat) (m0 : List S94) (A1 : Option Addr) (c1 : Nat) (m1 : List S68) (a2 a3 : Int), v = .agg #[.slice A0 m0.length c0, .slice A1 m1.length c1, .int .i64 a2, .int .i64 a3] ∧ Kd.C k94 w A0 m0.length m0 ∧ m0.length ≤ c0 ∧ Kd.C k68 w A1 m1.length m1 ∧ m1.length ≤ c1 := by
 obtain ⟨v0, v1, v2, v3, y0, y1, y2, y3, n, rfl, rfl, rfl, h0, h1, h2, h3⟩ := Go.Joins.open_agg4 Try.underlying50 (by kernel_rfl) (by kernel_rfl) hv h
 obtain ⟨m0, ⟨A0, c0, hcs0, hle0, hC0⟩, _⟩ := opens_slice 94 (kd := k94) Try.underlying47 (by kernel_rfl) opens_94 H enc w base spare held n [v0] y0 h0
 obtain ⟨m1, ⟨A1, c1, hcs1, hle1, hC1⟩, _⟩ := opens_slice 68 (kd := k68) Try.underlying48 (by kernel_rfl) opens_68 H enc w base spare held n [v1] y1 h1
 obtain ⟨a2, q2, _⟩ := DataW.trod_int Try.underlying3 h2
 obtain ⟨a3, q3, _⟩ := DataW.trod_int Try.underlying3 h3
 rw [List.cons.injEq] at hcs0 hcs1 q2 q3
 rw [hcs0.1, hcs1.1, q2.1, q3.1]
 exact ⟨A0, c0, m0, A1, c1, m1, a2, a3, rfl, hC0, hle0, hC1, hle1⟩
end Go.Proofs.YtalhpnfapagamaaH
