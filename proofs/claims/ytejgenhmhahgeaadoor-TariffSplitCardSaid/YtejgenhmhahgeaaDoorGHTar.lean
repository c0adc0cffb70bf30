-- Written by this session's own programs; what the law does not lean on is left out. Lean checks it.
import Derived.Lib.SmallJoins
import Derived.Lib.LaidTab
import Derived.LaidSub
import Derived.Stop.LaidErr
import Derived.HandedShaped
import Derived.SizedLaws
import Derived.ChangeSame
import Derived.Test.YtejgenhmhahgeaaDoorRows
import Derived.Test.YtejgenhmhahgeaaDoorGHOpen
import Derived.Test.YtejgenhmhahgeaaDoorGTWorld
import Derived.Test.YtejgenhmhahgeaaDoorGS
namespace Go.Proofs.YtejgenhmhahgeaaDoorH
set_option linter.unusedVariables false
set_option linter.unusedSimpArgs false
set_option linter.unusedVariables false
open Go Go.RowKit Go.ChangeShapes Go.WideShapes Go.Deep Go.Proofs.YtejgenhmhahgeaaDoorW.PrintWords Go.Proofs.YtejgenhmhahgeaaDoor Go.Proofs.YtejgenhmhahgeaaDoor.T
theorem two_cells {cs : List Value} (hl : cs.length = 2) : ∃ c0 c1, cs = [c0, c1] := by
 match cs, hl with
 | [c0, c1], _ => exact ⟨c0, c1, rfl⟩
set_option maxRecDepth 100000 in
theorem opens_42 : Opens Tryd.prog k42 (fun _ => True) 42 := by
 intro H enc w base spare held fuel cs x h
 obtain ⟨y0, y1, n, _, hl, h0, h1⟩ := trod_struct2 Tryd.underlying42 h
 have e : Tryd.prog.cellsOf 42 = 2 := by kernel_rfl
 rw [e] at hl
 obtain ⟨c0, c1, rfl⟩ := two_cells hl
 have e0 : Tryd.prog.cellsOf 3 = 1 := by kernel_rfl
 have g0 : DataW.trod enc Tryd.prog w base spare held n 3 [c0] = some y0 := by
  have h0' := h0
  dsimp only at h0'
  rw [e0] at h0'
  exact h0'
 have g1 : DataW.trod enc Tryd.prog w base spare held n 3 [c1] = some y1 := by
  have h0' := h1
  dsimp only at h0'
  rw [e0] at h0'
  exact h0'
 obtain ⟨a, q1, _⟩ := DataW.trod_int Tryd.underlying3 g0
 obtain ⟨b, q2, _⟩ := DataW.trod_int Tryd.underlying3 g1
 rw [List.cons.injEq] at q1 q2
 rw [q1.1, q2.1]
 exact ⟨⟨a, b⟩, k42_mk w ⟨a, b⟩, trivial⟩
set_option maxRecDepth 100000 in
theorem open_tar {H : Type} {enc : TypeId × Value → H} {w : World} {base : Nat} {r : Reach} {b0 : Nat} {spare : Nat → Bool} {held : Bool} {v : Value} {d : DataW H} {ps : List MemPlace}
  (hv : Value.okWide Tryd.prog w r b0 24 v) (h : DataW.Trod enc Tryd.prog w base spare held 24 v d ps) :
  ∃ (s : ByteArray) (A : Option Addr) (c : Nat) (m : List S42), v = .agg #[.string s, .slice A m.length c] ∧ Kd.C k42 w A m.length m ∧ m.length ≤ c := by
 obtain ⟨v0, v1, y0, y1, n, rfl, rfl, rfl, h0, h1⟩ := Go.Joins.open_agg2 Tryd.underlying24 (by kernel_rfl) (by kernel_rfl) hv h
 obtain ⟨s, q0, _⟩ := DataW.trod_string Tryd.underlying9 h0
 obtain ⟨m, ⟨A, c, hcs, hle, hC⟩, _⟩ := opens_slice 42 (kd := k42) Tryd.underlying22 (by kernel_rfl) opens_42 H enc w base spare held n [v1] y1 h1
 rw [List.cons.injEq] at q0 hcs
 rw [q0.1, hcs.1]
 exact ⟨s, A, c, m, rfl, hC, hle⟩
set_option maxRecDepth 100000 in
theorem open_pair {H : Type} {enc : TypeId × Value → H} {w : World} {base : Nat} {r : Reach} {b0 : Nat} {spare : Nat → Bool} {held : Bool} {v : Value} {d : DataW H} {ps : List MemPlace}
  (hv : Value.okWide Tryd.prog w r b0 46 v) (h : DataW.Trod enc Tryd.prog w base spare held 46 v d ps) :
  ∃ (x y : Int), v = .agg #[.int .i64 x, .int .i64 y] := by
 have e2 : Tryd.prog.cellsOf 46 = 2 := by kernel_rfl
 have e1 : Tryd.prog.cellsOf 3 = 1 := by kernel_rfl
 simp only [Value.okWide, Tryd.underlying46] at hv
 obtain ⟨xs, rfl, hx, _⟩ := hv
 obtain ⟨fuel, hf⟩ := h
 obtain ⟨zs, m, _, _, hl, hz, he⟩ := DataW.trod_array Tryd.underlying46 hf
 rw [e2] at hl
 have hl' : xs.toList.length = 2 := hl
 obtain ⟨c0, c1, hc⟩ := two_cells hl'
 obtain ⟨l⟩ := xs
 have hc' : l = [c0, c1] := hc
 subst hc'
 have f0 := he 0 (by decide)
 have f1 := he 1 (by decide)
 rw [e1] at f0 f1
 have z0 : zs[0]? = some (zs[0]'(by omega)) := List.getElem?_eq_getElem (by omega)
 have z1 : zs[1]? = some (zs[1]'(by omega)) := List.getElem?_eq_getElem (by omega)
 rw [z0] at f0
 rw [z1] at f1
 have g0 : DataW.trod enc Tryd.prog w base spare held m 3 [c0] = some (zs[0]'(by omega)) := f0
 have g1 : DataW.trod enc Tryd.prog w base spare held m 3 [c1] = some (zs[1]'(by omega)) := f1
 obtain ⟨a, q0, _⟩ := DataW.trod_int Tryd.underlying3 g0
 obtain ⟨b, q1, _⟩ := DataW.trod_int Tryd.underlying3 g1
 rw [List.cons.injEq] at q0 q1
 rw [q0.1, q1.1]
 exact ⟨a, b, rfl⟩
/-- What the rows list. -/
abbrev LAID : List (String × DataW Unit) := [("math/bits.deBruijn32tab", Rows.laid_math_bits_deBruijn32tab), ("math/bits.deBruijn64tab", Rows.laid_math_bits_deBruijn64tab), ("internal/strconv.uint64pow10", Rows.laid_internal_strconv_uint64pow10), ("unicode/utf8.acceptRanges", Rows.laid_unicode_utf8_acceptRanges), ("strconv.ErrRange", Rows.laid_strconv_ErrRange), ("strconv.ErrSyntax", Rows.laid_strconv_ErrSyntax), ("unicode/utf8.first", Rows.laid_unicode_utf8_first)]
theorem laid_one {W : World} (h : laidMetH Tryd.prog LAID W) (n : String) (d : DataW Unit) (e : (LAID.filter fun x => x.2.handleName?.isNone).filter (fun x => x.1 == n) = [(n, d)]) : laidMet Tryd.prog [(n, d)] W := by
 have := (laidMetH_iff.1 h).1.filter (fun x => x.1 == n)
 rwa [e] at this
theorem star : "*" ++ "errors.errorString" = "*errors.errorString" := by decide
theorem rows125' : ((List.range Tryd.prog.types.size).all fun u => Tryd.prog.typeName? 3 u != some "*errors.errorString" || u == 125) = true := by kernel_rfl
theorem rows125 : ((List.range Tryd.prog.types.size).all fun u => Tryd.prog.typeName? 3 u != some ("*" ++ "errors.errorString") || u == 125) = true := star.symm ▸ rows125'
theorem named125 : ((List.range Tryd.prog.types.size).all fun e => Tryd.prog.typeName? 2 e != some "errors.errorString" || (match (Tryd.prog.info? e).map (·.desc) with | some (TypeDesc.named _ _) => true | _ => false)) = true := by kernel_rfl
set_option maxRecDepth 100000 in
theorem row125 (u : TypeId) (h : Tryd.prog.typeName? 3 u = some "*errors.errorString") : u = 125 :=
 typeName_ptr_named (nm := "errors.errorString") rows125 named125 (by decide) u (h.trans (congrArg some star.symm))
set_option maxRecDepth 100000 in
theorem tw_of {W : World} (h : laidMetH Tryd.prog LAID W) (hs : W.ShapedOpen Tryd.prog) : TW W := by
 refine ⟨Tryd.laysM145.s1_3 W hs, ?_, ?_, ?_⟩
 ·
  exact Lib.tabIs_of_head (g := 3) (t := 129) (e := 106) (n := 20) (rest := []) (by kernel_rfl) (by kernel_rfl) Tryd.underlying129 Tryd.underlying106 (by kernel_rfl) (by kernel_rfl) (laid_one h _ _ (by rfl))
 ·
  obtain ⟨a, s, hv, _⟩ := laid_sentinel (g := 1) (r := []) (laid_one h "strconv.ErrSyntax" _ (by rfl)) (by kernel_rfl) (by kernel_rfl) Tryd.underlying60 (tp := 125) (te := 127) (ts := 9) row125 Tryd.underlying125 Tryd.underlying127 rfl rfl Tryd.underlying9 (by kernel_rfl) (by kernel_rfl)
  exact ⟨_, _, hv⟩
 ·
  obtain ⟨a, s, hv, _⟩ := laid_sentinel (g := 2) (r := []) (laid_one h "strconv.ErrRange" _ (by rfl)) (by kernel_rfl) (by kernel_rfl) Tryd.underlying60 (tp := 125) (te := 127) (ts := 9) row125 Tryd.underlying125 Tryd.underlying127 rfl rfl Tryd.underlying9 (by kernel_rfl) (by kernel_rfl)
  exact ⟨_, _, hv⟩
theorem shaped_row {C : Checked} {H : Type} {enc : TypeId × Value → H} {os : Os} {f : FuncId} {fn : Func} {s : ChangeSpec} {X : World → Array Value → Prop} (hX : ∀ (w w' : World) (args : Array Value), w.heap = w'.heap → X w args → X w' args)
  (own : ownKnob C.prog.godebug = none) (started : os.Started) (noInit : C.prog.inits.idxOf? f = none) (hfn : C.prog.funcs[f]? = some fn)
  (wit : ∃ (w : World) (tape : Tape) (i : Input), w.os = os ∧ (w.forCall tape i).Shaped C.prog ∧ i.vars = [] ∧ Input.okWide C.prog (w.forCall tape i) .any w.heap.size f i ∧ ((s.pre enc C.prog fn [] false (w.forCall tape i).memory i.args ∧ X (w.forCall tape i).memory i.args) ∧ sizedMet enc C.prog fn (OpenSpec.ofChange s) false (w.forCall tape i).memory i.args) ∧ ({} : Assume).holds C.prog (lone (Frame.enter C.prog f i.args .normal) [] (w.forCall tape i)))
  (walk : ∀ (W : World) (base : Nat) (args : Array Value) (ds gs : List (DataW H)) (before : List MemPlace), (∀ (j : Nat) t v, fn.params[j]? = some t → args[j]? = some v → Value.okWide C.prog W .any base t v) → DataW.Whole enc C.prog fn.params.toList s.vars false W args.toList ds gs before →
   (DataW.weightsEach C.prog (fn.params.toList ++ s.plain.varTypes C.prog) (ds ++ gs)).all (· ≤ reachBytes) = true → X W args → W.ShapedOpen C.prog → Calls C.prog f args W fun e W' => ∃ v, e = .returned v ∧ s.post enc C.prog fn false true false false W args v W') :
  ReturnsInHanded {} C os f .any (fun w args => (s.pre enc C.prog fn [] false w args ∧ X w args) ∧ sizedMet enc C.prog fn (OpenSpec.ofChange s) false w args) (s.post enc C.prog fn false true false false) := by
 refine returnsInHanded_of_calls own started noInit wit fun w tape i _ shape _ ok pre _ => ?_
 obtain ⟨_, _, _, g, hg, _, _, _, _, vals⟩ := ok
 obtain rfl : g = fn := Option.some.inj (hg.symm.trans hfn)
 obtain ⟨⟨⟨ds, gs, before, whole, _⟩, listed⟩, size⟩ := pre
 refine (walk (w.forCall tape i) w.heap.size i.args ds gs before vals (whole.of_heap (w' := w.forCall tape i) (by rfl)) (size.weights whole) (hX _ _ _ (by rfl) listed) shape).mono ?_
 rintro e W' ⟨v, rfl, post⟩
 exact ChangeSpec.post_blind post
end Go.Proofs.YtejgenhmhahgeaaDoorH
