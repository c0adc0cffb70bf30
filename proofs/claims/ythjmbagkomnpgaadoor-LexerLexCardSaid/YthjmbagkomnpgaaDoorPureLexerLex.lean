/- Lex returns the specified tokens, or the place of the error, for any text of up to 400 bytes: the plain law. -/
import Derived.Test.YthjmbagkomnpgaaDoorPlainAwake
import Derived.Test.YthjmbagkomnpgaaDoorPlainSame
import Derived.Test.YthjmbagkomnpgaaDoorLx29
namespace Go.Proofs.YthjmbagkomnpgaaDoor.Pure
open Go Go.RowKit Go.Proofs.YthjmbagkomnpgaaDoor.L Go.Proofs.YthjmbagkomnpgaaDoorW.PrintWords Go.Proofs.YthjmbagkomnpgaaDoorW.PrintLast Go.Proofs.YthjmbagkomnpgaaDoor.Plain

theorem LexerLex : culetlaw13_LexerLex.Pure := by
  intro a0 _
  refine Ev.rounds ?_
  rw [mk_of a0]
  generalize a0.data.toList = s
  refine Ev.congr (fun k => by unfold culetlaw13_LexerLex.f; rfl) (Ev.bind awake_ev ?_)
  by_cases h4 : s.length ≤ 400
  · exact Ev.congr (fun k => by rw [if_pos rfl, if_neg (by rw [mk_size]; omega)]) (both_ev s)
  · exact Ev.congr (fun k => by rw [if_pos rfl, if_pos (by rw [mk_size]; omega)]) (Ev.now _)

end Go.Proofs.YthjmbagkomnpgaaDoor.Pure
