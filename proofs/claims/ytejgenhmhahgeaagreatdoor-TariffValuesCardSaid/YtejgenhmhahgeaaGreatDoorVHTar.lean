-- Written by this session's own programs; what the law does not lean on is left out. Lean checks it.
import Derived.Lib.SmallJoins
import Derived.Lib.LaidTab
import Derived.LaidSub
import Derived.Stop.LaidErr
import Derived.HandedShaped
import Derived.SizedLaws
import Derived.ChangeSame
import Derived.Test.YtejgenhmhahgeaaGreatDoorRows
import Derived.Test.YtejgenhmhahgeaaGreatDoorVHOpen
import Derived.Test.YtejgenhmhahgeaaGreatDoorVTWorld
import Derived.Test.YtejgenhmhahgeaaGreatDoorVS
namespace Go.Proofs.YtejgenhmhahgeaaGreatDoorH
set_option linter.unusedVariables false
set_option linter.unusedSimpArgs false
set_option linter.unusedVariables false
open Go Go.RowKit Go.ChangeShapes Go.WideShapes Go.Deep Go.Proofs.YtejgenhmhahgeaaGreatDoorW.PrintWords Go.Proofs.YtejgenhmhahgeaaGreatDoor Go.Proofs.YtejgenhmhahgeaaGreatDoor.T
theorem two_cells {cs : List Value} (hl : cs.length = 2) : ∃ c0 c1, cs = [c0, c1] := by
 match cs, hl with
 | [c0, c1], _ => exact ⟨c0, c1, rfl⟩
set_option maxRecDepth 100000 in
theorem opens_43 : Opens Tryz.prog k43 (fun _ => True) 43 := by
 intro H enc w base spare held fuel cs x h
 obtain ⟨y0, y1, n, _, hl, h0, h1⟩ := trod_struct2 Tryz.underlying43 h
 have e : Tryz.prog.cellsOf 43 = 2 := by kernel_rfl
 rw [e] at hl
 obtain ⟨c0, c1, rfl⟩ := two_cells hl
 have e0 : Tryz.prog.cellsOf 3 = 1 := by kernel_rfl
 have g0 : DataW.trod enc Tryz.prog w base spare held n 3 [c0] = some y0 := by
  have h0' := h0
  dsimp only at h0'
  rw [e0] at h0'
  exact h0'
 have g1 : DataW.trod enc Tryz.prog w base spare held n 3 [c1] = some y1 := by
  have h0' := h1
  dsimp only at h0'
  rw [e0] at h0'
  exact h0'
 obtain ⟨a, q1, _⟩ := DataW.trod_int Tryz.underlying3 g0
 obtain ⟨b, q2, _⟩ := DataW.trod_int Tryz.underlying3 g1
 rw [List.cons.injEq] at q1 q2
 rw [q1.1, q2.1]
 exact ⟨⟨a, b⟩, k43_mk w ⟨a, b⟩, trivial⟩
set_option maxRecDepth 100000 in
theorem open_tar {H : Type} {enc : TypeId × Value → H} {w : World} {base : Nat} {r : Reach} {b0 : Nat} {spare : Nat → Bool} {held : Bool} {v : Value} {d : DataW H} {ps : List MemPlace}
  (hv : Value.okWide Tryz.prog w r b0 24 v) (h : DataW.Trod enc Tryz.prog w base spare held 24 v d ps) :
  ∃ (s : ByteArray) (A : Option Addr) (c : Nat) (m : List S43), v = .agg #[.string s, .slice A m.length c] ∧ Kd.C k43 w A m.length m ∧ m.length ≤ c := by
 obtain ⟨v0, v1, y0, y1, n, rfl, rfl, rfl, h0, h1⟩ := Go.Joins.open_agg2 Tryz.underlying24 (by kernel_rfl) (by kernel_rfl) hv h
 obtain ⟨s, q0, _⟩ := DataW.trod_string Tryz.underlying9 h0
 obtain ⟨m, ⟨A, c, hcs, hle, hC⟩, _⟩ := opens_slice 43 (kd := k43) Tryz.underlying22 (by kernel_rfl) opens_43 H enc w base spare held n [v1] y1 h1
 rw [List.cons.injEq] at q0 hcs
 rw [q0.1, hcs.1]
 exact ⟨s, A, c, m, rfl, hC, hle⟩
/-- What the rows list. -/
abbrev LAID : List (String × DataW Unit) := [("math/bits.deBruijn32tab", Rows.laid_math_bits_deBruijn32tab), ("math/bits.deBruijn64tab", Rows.laid_math_bits_deBruijn64tab), ("internal/strconv.uint64pow10", Rows.laid_internal_strconv_uint64pow10), ("unicode/utf8.acceptRanges", Rows.laid_unicode_utf8_acceptRanges), ("strconv.ErrRange", Rows.laid_strconv_ErrRange), ("strconv.ErrSyntax", Rows.laid_strconv_ErrSyntax), ("unicode/utf8.first", Rows.laid_unicode_utf8_first)]
theorem laid_one {W : World} (h : laidMetH Tryz.prog LAID W) (n : String) (d : DataW Unit) (e : (LAID.filter fun x => x.2.handleName?.isNone).filter (fun x => x.1 == n) = [(n, d)]) : laidMet Tryz.prog [(n, d)] W := by
 have := (laidMetH_iff.1 h).1.filter (fun x => x.1 == n)
 rwa [e] at this
theorem star : "*" ++ "errors.errorString" = "*errors.errorString" := by decide
theorem rows125' : ((List.range Tryz.prog.types.size).all fun u => Tryz.prog.typeName? 3 u != some "*errors.errorString" || u == 106) = true := by kernel_rfl
theorem rows125 : ((List.range Tryz.prog.types.size).all fun u => Tryz.prog.typeName? 3 u != some ("*" ++ "errors.errorString") || u == 106) = true := star.symm ▸ rows125'
theorem named125 : ((List.range Tryz.prog.types.size).all fun e => Tryz.prog.typeName? 2 e != some "errors.errorString" || (match (Tryz.prog.info? e).map (·.desc) with | some (TypeDesc.named _ _) => true | _ => false)) = true := by kernel_rfl
set_option maxRecDepth 100000 in
theorem row125 (u : TypeId) (h : Tryz.prog.typeName? 3 u = some "*errors.errorString") : u = 106 :=
 typeName_ptr_named (nm := "errors.errorString") rows125 named125 (by decide) u (h.trans (congrArg some star.symm))
set_option maxRecDepth 100000 in
theorem tw_of {W : World} (h : laidMetH Tryz.prog LAID W) (hs : W.ShapedOpen Tryz.prog) : TW W := by
 refine ⟨Tryz.laysM145.s1_3 W hs, ?_, ?_, ?_⟩
 ·
  exact Lib.tabIs_of_head (g := 5) (t := 122) (e := 93) (n := 20) (rest := []) (by kernel_rfl) (by kernel_rfl) Tryz.underlying122 Tryz.underlying93 (by kernel_rfl) (by kernel_rfl) (laid_one h _ _ (by rfl))
 ·
  obtain ⟨a, s, hv, _⟩ := laid_sentinel (g := 1) (r := []) (laid_one h "strconv.ErrSyntax" _ (by rfl)) (by kernel_rfl) (by kernel_rfl) Tryz.underlying54 (tp := 106) (te := 108) (ts := 9) row125 Tryz.underlying106 Tryz.underlying108 rfl rfl Tryz.underlying9 (by kernel_rfl) (by kernel_rfl)
  exact ⟨_, _, hv⟩
 ·
  obtain ⟨a, s, hv, _⟩ := laid_sentinel (g := 2) (r := []) (laid_one h "strconv.ErrRange" _ (by rfl)) (by kernel_rfl) (by kernel_rfl) Tryz.underlying54 (tp := 106) (te := 108) (ts := 9) row125 Tryz.underlying106 Tryz.underlying108 rfl rfl Tryz.underlying9 (by kernel_rfl) (by kernel_rfl)
  exact ⟨_, _, hv⟩
theorem shaped_row {C : Checked} {H : Type} {enc : TypeId × Value → H} {os : Os} {f : FuncId} {fn : Func} {s : ChangeSpec} {X : World → Array Value → Prop} (hX : ∀ (w w' : World) (args : Array Value), w.heap = w'.heap → X w args → X w' args)
  (own : ownKnob C.prog.godebug = none) (started : os.Started) (noInit : C.prog.inits.idxOf? f = none) (hfn : C.prog.funcs[f]? = some fn)
  (wit : ∃ (w : World) (tape : Tape) (i : Input), w.os = os ∧ (w.forCall tape i).Shaped C.prog ∧ i.vars = [] ∧ Input.okWide C.prog (w.forCall tape i) .any w.heap.size f i ∧ ((s.pre enc C.prog fn [] false (w.forCall tape i).memory i.args ∧ X (w.forCall tape i).memory i.args) ∧ sizedMet enc C.prog fn (OpenSpec.ofChange s) false (w.forCall tape i).memory i.args) ∧ ({} : Assume).holds C.prog (lone (Frame.enter C.prog f i.args .normal) [] (w.forCall tape i)))
  (walk : ∀ (W : World) (base : Nat) (args : Array Value) (ds gs : List (DataW H)) (before : List MemPlace), (∀ (j : Nat) t v, fn.params[j]? = some t → args[j]? = some v → Value.okWide C.prog W .any base t v) → DataW.Whole enc C.prog fn.params.toList s.vars false W args.toList ds gs before →
   (DataW.weightsEach C.prog (fn.params.toList ++ s.plain.varTypes C.prog) (ds ++ gs)).all (· ≤ reachBytes) = true → X W args → W.ShapedOpen C.prog → Calls C.prog f args W fun e W' => ∃ v, e = .returned v ∧ s.post enc C.prog fn false true false false W args v W') :
  ReturnsInHanded {} C os f .any (fun w args => (s.pre enc C.prog fn [] false w args ∧ X w args) ∧ sizedMet enc C.prog fn (OpenSpec.ofChange s) false w args) (s.post enc C.prog fn false true false false) := by
 refine returnsInHanded_of_calls own started noInit wit fun w tape i _ shape _ ok pre _ => ?_
 obtain ⟨_, _, _, g, hg, _, _, _, _, vals⟩ := ok
 obtain rfl : g = fn := Option.some.inj (hg.symm.trans hfn)
 obtain ⟨⟨⟨ds, gs, before, whole, _⟩, listed⟩, size⟩ := pre
 refine (walk (w.forCall tape i) w.heap.size i.args ds gs before vals (whole.of_heap (w' := w.forCall tape i) (by rfl)) (size.weights whole) (hX _ _ _ (by rfl) listed) shape).mono ?_
 rintro e W' ⟨v, rfl, post⟩
 exact ChangeSpec.post_blind post
end Go.Proofs.YtejgenhmhahgeaaGreatDoorH
