-- Written by this session's own programs; what the law does not lean on is left out. Lean checks it.
import Derived.Below
import Derived.Lib.SmallJoins
import Derived.Lib.AppendIntMem
import Derived.Lib.AtoiErrMem
import Derived.Test.YtejgenhmhahgeaaDoorGTShelf
namespace Go.Proofs.YtejgenhmhahgeaaDoor.T
open Go Go.RowKit
/-- What the library's package variables hold. -/
structure TW (w : World) : Prop where
 len : ∃ m, w.cell? ⟨0, 0, none⟩ = some (.int .i64 m)
 pow : Lib.TabIs Tryd.prog w "internal/strconv.uint64pow10" .u64 Lib.pow10Tab
 syn : ∃ tp p, w.var? Tryd.prog "strconv.ErrSyntax" = some #[.iface tp p]
 rng : ∃ tp p, w.var? Tryd.prog "strconv.ErrRange" = some #[.iface tp p]
theorem TW.at {w w1 : World} (h : TW w) (hb : Below w.heap.size w w1) : TW w1 := by
 obtain ⟨⟨m, h0⟩, h1, ⟨a, b, h2⟩, ⟨c, d, h3⟩⟩ := h
 exact ⟨⟨m, (hb.cell (World.block_lt_of_cell? w _ h0)).trans h0⟩, Lib.tabBelow_of_tabIs h1 w1 hb, ⟨a, b, Go.Joins.var_stays (g := 1) (by kernel_rfl) h2 hb (Nat.le_refl _)⟩, ⟨c, d, Go.Joins.var_stays (g := 2) (by kernel_rfl) h3 hb (Nat.le_refl _)⟩⟩
end Go.Proofs.YtejgenhmhahgeaaDoor.T
