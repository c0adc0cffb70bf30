/- Reserved, IsName and Value return the specified results for any string of up to 80 bytes: the plain law. -/
import Derived.Test.YthjmbagkomnpgaaDoorPlainAwake
import Derived.Test.YthjmbagkomnpgaaDoorPlainRef
import Derived.Test.YthjmbagkomnpgaaDoorLx31
namespace Go.Proofs.YthjmbagkomnpgaaDoor.Pure
open Go Go.RowKit Go.Proofs.YthjmbagkomnpgaaDoor.L Go.Proofs.YthjmbagkomnpgaaDoorW.PrintWords Go.Proofs.YthjmbagkomnpgaaDoorW.PrintLast Go.Proofs.YthjmbagkomnpgaaDoor.Plain

theorem LexerWords : culetlaw13_LexerWords.Pure := by
  intro a0 _
  refine Ev.rounds ?_
  rw [mk_of a0]
  generalize a0.data.toList = s
  refine Ev.congr (fun k => by unfold culetlaw13_LexerWords.f; rfl) (Ev.bind awake_ev ?_)
  by_cases h4 : s.length ≤ 80
  · refine Ev.congr (fun k => by rw [if_pos rfl, if_neg (by rw [mk_size]; omega)]) (Ev.bind (value_ev s (by omega)) ?_)
    refine Ev.bind (rval_ev s (by omega)) ?_
    refine Ev.congr (fun k => by rw [res_ev, Option.bind_some]) (Ev.bind (rres_ev s) ?_)
    refine Ev.congr (fun k => by rw [if_pos (by simp)]) (Ev.bind (name_ev s (by omega)) ?_)
    refine Ev.bind (rname_ev s (by omega)) ?_
    refine Ev.congr (fun k => ?_) (Ev.now true)
    rw [if_pos (by simp)]
    unfold valOut
    rw [if_pos rfl]; simp
  · exact Ev.congr (fun k => by rw [if_pos rfl, if_pos (by rw [mk_size]; omega)]) (Ev.now _)

end Go.Proofs.YthjmbagkomnpgaaDoor.Pure
