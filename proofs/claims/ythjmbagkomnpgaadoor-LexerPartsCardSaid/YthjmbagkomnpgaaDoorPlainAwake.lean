/- The plain side of the laws on the lexer: the example of the document, and what the tokens of a text are. -/
import Derived.Test.YthjmbagkomnpgaaDoorPlainLexer
import Derived.KernelRfl
namespace Go.Proofs.YthjmbagkomnpgaaDoor.Plain
open Go Go.RowKit Go.Proofs.YthjmbagkomnpgaaDoor.L Go.Proofs.YthjmbagkomnpgaaDoorW.PrintWords Go.Proofs.YthjmbagkomnpgaaDoorW.PrintLast

def awakeText : Bs := [116, 105, 101, 114, 32, 67, 49, 32, 97, 110, 103, 108, 101, 32, 51, 48, 47, 45, 51, 53, 32, 97, 116, 32, 48, 32, 35, 32, 109, 97, 105, 110]
def awakeToks : List Tk := [⟨2, [116, 105, 101, 114], 1, 0⟩, ⟨1, [67, 49], 1, 5⟩, ⟨2, [97, 110, 103, 108, 101], 1, 8⟩, ⟨3, [51, 48], 1, 14⟩, ⟨5, [47], 1, 16⟩, ⟨3, [45, 51, 53], 1, 17⟩, ⟨2, [97, 116], 1, 21⟩, ⟨3, [48], 1, 24⟩]
theorem awake_plex : plex resB okV awakeText 0 1 = .ok awakeToks := by kernel_rfl
theorem awake_n1 : nameB [67, 49] = true := by decide
theorem awake_n2 : nameB [116, 105, 101, 114] = false := by decide
theorem awake_ev : Ev (fun k => culetlaw13_awake.f k) true := by
  have h := lex_ev awakeText (by decide)
  rw [awake_plex] at h
  have h1 := name_ev [67, 49] (by decide)
  have h2 := name_ev [116, 105, 101, 114] (by decide)
  rw [awake_n1] at h1
  rw [awake_n2] at h2
  refine Ev.congr (fun k => by unfold culetlaw13_awake.f; rfl) (Ev.bind h ?_)
  refine Ev.congr (f := fun k => (lexer_IsName.f k (mk [67, 49])).bind fun t141 => if t141 = true then (lexer_IsName.f k (mk [116, 105, 101, 114])).bind fun t142 => some (!t142) else some false) (fun k => ?_) ?_
  · simp only [ownR, awakeToks, List.map_cons, List.map_nil, List.nil_append, own1, rd_T38]
    rw [if_pos trivial, if_pos trivial, if_pos (by decide), if_pos (by decide), if_pos (by rfl), if_pos (by decide), if_pos (by rfl), if_pos (by decide), if_pos (by exact mk_toList [45, 51, 53]), if_pos (by rfl), if_pos (by decide), if_pos (by rfl)]
    rfl
  · refine Ev.bind h1 ?_
    exact Ev.congr (fun k => if_pos rfl) (Ev.bind h2 (Ev.now _))
end Go.Proofs.YthjmbagkomnpgaaDoor.Plain
