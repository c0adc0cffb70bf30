-- Written by this session's own programs; what the law does not lean on is left out. Lean checks it.
import Derived.Lib.SmallJoins
import Derived.Deep.Strs
import Derived.Test.YtalhpnfapagamaaDoorAHOpen
import Derived.Test.YtalhpnfapagamaaDoorAS
namespace Go.Proofs.YtalhpnfapagamaaDoorH
set_option linter.unusedVariables false
open Go Go.ChangeShapes Go.WideShapes Go.Deep Go.Proofs.YtalhpnfapagamaaDoorW.PrintWords Go.Proofs.YtalhpnfapagamaaDoor Go.Proofs.YtalhpnfapagamaaDoor.S
theorem three_cells {cs : List Value} (hl : cs.length = 3) : ∃ c0 c1 c2, cs = [c0, c1, c2] := by
 match cs, hl with
 | [c0, c1, c2], _ => exact ⟨c0, c1, c2, rfl⟩
set_option maxRecDepth 100000 in
theorem opens_55 : Opens Tryd.prog k55 (fun _ => True) 55 := by
 intro H enc w base spare held fuel cs x h
 obtain ⟨y0, y1, y2, n, _, hl, h0, h1, h2⟩ := trod_struct3 Tryd.underlying55 h
 have e : Tryd.prog.cellsOf 55 = 3 := by kernel_rfl
 rw [e] at hl
 obtain ⟨c0, c1, c2, rfl⟩ : ∃ c0 c1 c2, cs = [c0, c1, c2] := by
  exact three_cells hl
 have g0 : DataW.trod enc Tryd.prog w base spare held n 9 [c0] = some y0 := by
  have e0 : Tryd.prog.cellsOf 9 = 1 := by kernel_rfl
  have h0' := h0
  dsimp only at h0'
  rw [e0] at h0'
  exact h0'
 have g1 : DataW.trod enc Tryd.prog w base spare held n 3 [c1] = some y1 := by
  have e0 : Tryd.prog.cellsOf 3 = 1 := by kernel_rfl
  have h0' := h1
  dsimp only at h0'
  rw [e0] at h0'
  exact h0'
 have g2 : DataW.trod enc Tryd.prog w base spare held n 3 [c2] = some y2 := by
  have e0 : Tryd.prog.cellsOf 3 = 1 := by kernel_rfl
  have h0' := h2
  dsimp only at h0'
  rw [e0] at h0'
  exact h0'
 obtain ⟨s, q0, _⟩ := DataW.trod_string Tryd.underlying9 g0
 obtain ⟨a, q1, _⟩ := DataW.trod_int Tryd.underlying3 g1
 obtain ⟨b, q2, _⟩ := DataW.trod_int Tryd.underlying3 g2
 rw [List.cons.injEq] at q0 q1 q2
 rw [q0.1, q1.1, q2.1]
 exact ⟨⟨s, a, b⟩, k55_mk w ⟨s, a, b⟩, trivial⟩
set_option maxRecDepth 100000 in
theorem opens_56 : Opens Tryd.prog k56 (fun _ => True) 56 := by
 intro H enc w base spare held fuel cs x h
 obtain ⟨y0, y1, y2, n, _, hl, h0, h1, h2⟩ := trod_struct3 Tryd.underlying56 h
 have e : Tryd.prog.cellsOf 56 = 3 := by kernel_rfl
 rw [e] at hl
 obtain ⟨c0, c1, c2, rfl⟩ : ∃ c0 c1 c2, cs = [c0, c1, c2] := by
  exact three_cells hl
 have g0 : DataW.trod enc Tryd.prog w base spare held n 9 [c0] = some y0 := by
  have e0 : Tryd.prog.cellsOf 9 = 1 := by kernel_rfl
  have h0' := h0
  dsimp only at h0'
  rw [e0] at h0'
  exact h0'
 have g1 : DataW.trod enc Tryd.prog w base spare held n 3 [c1] = some y1 := by
  have e0 : Tryd.prog.cellsOf 3 = 1 := by kernel_rfl
  have h0' := h1
  dsimp only at h0'
  rw [e0] at h0'
  exact h0'
 have g2 : DataW.trod enc Tryd.prog w base spare held n 3 [c2] = some y2 := by
  have e0 : Tryd.prog.cellsOf 3 = 1 := by kernel_rfl
  have h0' := h2
  dsimp only at h0'
  rw [e0] at h0'
  exact h0'
 obtain ⟨s, q0, _⟩ := DataW.trod_string Tryd.underlying9 g0
 obtain ⟨a, q1, _⟩ := DataW.trod_int Tryd.underlying3 g1
 obtain ⟨b, q2, _⟩ := DataW.trod_int Tryd.underlying3 g2
 rw [List.cons.injEq] at q0 q1 q2
 rw [q0.1, q1.1, q2.1]
 exact ⟨⟨s, a, b⟩, k56_mk w ⟨s, a, b⟩, trivial⟩
set_option maxRecDepth 100000 in
theorem opens_63 : Opens Tryd.prog k63 (fun _ => True) 63 := by
 intro H enc w base spare held fuel cs x h
 obtain ⟨y0, y1, y2, n, _, hl, h0, h1, h2⟩ := trod_struct3 Tryd.underlying63 h
 have e : Tryd.prog.cellsOf 63 = 3 := by kernel_rfl
 rw [e] at hl
 obtain ⟨c0, c1, c2, rfl⟩ : ∃ c0 c1 c2, cs = [c0, c1, c2] := by
  exact three_cells hl
 have g0 : DataW.trod enc Tryd.prog w base spare held n 3 [c0] = some y0 := by
  have e0 : Tryd.prog.cellsOf 3 = 1 := by kernel_rfl
  have h0' := h0
  dsimp only at h0'
  rw [e0] at h0'
  exact h0'
 have g1 : DataW.trod enc Tryd.prog w base spare held n 3 [c1] = some y1 := by
  have e0 : Tryd.prog.cellsOf 3 = 1 := by kernel_rfl
  have h0' := h1
  dsimp only at h0'
  rw [e0] at h0'
  exact h0'
 have g2 : DataW.trod enc Tryd.prog w base spare held n 3 [c2] = some y2 := by
  have e0 : Tryd.prog.cellsOf 3 = 1 := by kernel_rfl
  have h0' := h2
  dsimp only at h0'
  rw [e0] at h0'
  exact h0'
 obtain ⟨s, q0, _⟩ := DataW.trod_int Tryd.underlying3 g0
 obtain ⟨a, q1, _⟩ := DataW.trod_int Tryd.underlying3 g1
 obtain ⟨b, q2, _⟩ := DataW.trod_int Tryd.underlying3 g2
 rw [List.cons.injEq] at q0 q1 q2
 rw [q0.1, q1.1, q2.1]
 exact ⟨⟨s, a, b⟩, k63_mk w ⟨s, a, b⟩, trivial⟩
set_option maxRecDepth 100000 in
theorem open_plan {H : Type} {enc : TypeId × Value → H} {w : World} {base : Nat} {r : Reach} {b0 : Nat} {spare : Nat → Bool} {held : Bool} {v : Value} {d : DataW H} {ps : List MemPlace}
  (hv : Value.okWide Tryd.prog w r b0 25 v) (h : DataW.Trod enc Tryd.prog w base spare held 25 v d ps) :
  ∃ (A0 : Option Addr) (c0 : Nat) (m0 : List S55) (A1 : Option Addr) (c1 : Nat) (m1 : List S56) (a2 a3 : Int), v = .agg #[.slice A0 m0.length c0, .slice A1 m1.length c1, .int .i64 a2, .int .i64 a3] ∧ Kd.C k55 w A0 m0.length m0 ∧ m0.length ≤ c0 ∧ Kd.C k56 w A1 m1.length m1 ∧ m1.length ≤ c1 := by
 obtain ⟨v0, v1, v2, v3, y0, y1, y2, y3, n, rfl, rfl, rfl, h0, h1, h2, h3⟩ := Go.Joins.open_agg4 Tryd.underlying25 (by kernel_rfl) (by kernel_rfl) hv h
 obtain ⟨m0, ⟨A0, c0, hcs0, hle0, hC0⟩, _⟩ := opens_slice 55 (kd := k55) Tryd.underlying22 (by kernel_rfl) opens_55 H enc w base spare held n [v0] y0 h0
 obtain ⟨m1, ⟨A1, c1, hcs1, hle1, hC1⟩, _⟩ := opens_slice 56 (kd := k56) Tryd.underlying23 (by kernel_rfl) opens_56 H enc w base spare held n [v1] y1 h1
 obtain ⟨a2, q2, _⟩ := DataW.trod_int Tryd.underlying3 h2
 obtain ⟨a3, q3, _⟩ := DataW.trod_int Tryd.underlying3 h3
 rw [List.cons.injEq] at hcs0 hcs1 q2 q3
 rw [hcs0.1, hcs1.1, q2.1, q3.1]
 exact ⟨A0, c0, m0, A1, c1, m1, a2, a3, rfl, hC0, hle0, hC1, hle1⟩
end Go.Proofs.YtalhpnfapagamaaDoorH
