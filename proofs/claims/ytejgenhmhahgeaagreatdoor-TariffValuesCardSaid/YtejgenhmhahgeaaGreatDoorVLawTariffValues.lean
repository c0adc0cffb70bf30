/- TariffValues: the law holds at every input; its row lists package variables, which the card ties to the program's text. -/
-- Written by this session's own programs; what the law does not lean on is left out. Lean checks it.
import Derived.Test.YtejgenhmhahgeaaGreatDoorRows
import Derived.Test.YtejgenhmhahgeaaGreatDoorVTq
import Derived.Test.YtejgenhmhahgeaaGreatDoorVHOpen
import Derived.Test.YtejgenhmhahgeaaGreatDoorVPureTariffValues
import Derived.Test.YtejgenhmhahgeaaGreatDoorVHTar
import Derived.WalkKit
import Derived.ProofKit
import Derived.OpenShut
import Derived.ShutString
import Derived.ChangeOld
import Derived.Below
import Derived.SizedLaws
import Derived.Test.YtejgenhmhahgeaaGreatDoorTie
import Derived.Test.YtejgenhmhahgeaaGreatDoorCards
import Derived.SevenTiedAt
import Derived.Stop.Joined
import Derived.LaidLaws
import Derived.LaidMore
import Derived.Lay
import Derived.MakeChecks
namespace Go.Proofs.YtejgenhmhahgeaaGreatDoor.tariffValues
open Go.ChangeShapes Go.WideShapes Go.ChangeAt Go.RowKit Go.Proofs.YtejgenhmhahgeaaGreatDoorH Go.Proofs.YtejgenhmhahgeaaGreatDoorW.PrintWords
open Go.ChangeMaps (open_string shut_string)
set_option linter.unusedVariables false
theorem own : ownKnob Tryz.prog.godebug = none := by kernel_rfl
theorem laidOut : laidOutB Tryz.prog = true := by kernel_rfl
/-- What the row lists. -/
abbrev laidL : List (String × DataW Unit) := [("math/bits.deBruijn32tab", Rows.laid_math_bits_deBruijn32tab), ("math/bits.deBruijn64tab", Rows.laid_math_bits_deBruijn64tab), ("internal/strconv.uint64pow10", Rows.laid_internal_strconv_uint64pow10), ("unicode/utf8.acceptRanges", Rows.laid_unicode_utf8_acceptRanges), ("strconv.ErrRange", Rows.laid_strconv_ErrRange), ("strconv.ErrSyntax", Rows.laid_strconv_ErrSyntax), ("unicode/utf8.first", Rows.laid_unicode_utf8_first)]
set_option maxRecDepth 100000 in
theorem lifted (os : Os) (started : os.Started) (H : Type) (enc : TypeId × Value → H) :
  ReturnsInHanded {} Tryz.checked os 3 .any (fun w args => (Rows.tariffValuesSpec.pre enc Tryz.prog Tryz.f3 [] false w args ∧ laidMetH Tryz.prog laidL w) ∧ sizedMet enc Tryz.prog Tryz.f3 (OpenSpec.ofChange Rows.tariffValuesSpec) false w args) (Rows.tariffValuesSpec.post enc Tryz.prog Tryz.f3 false true false false) := by
 refine shaped_row (X := fun w _ => laidMetH Tryz.prog laidL w) (fun _ _ _ hh h => h.of_heap hh) own started (by kernel_rfl) Tryz.func3
  (ChangeSpec.witness_shaped (enc := enc) (C := Tryz.checked) (os := os) (X := fun w _ => laidMetH Tryz.prog laidL w) false (World.laidAll Tryz.prog os laidL) #[.agg #[.string ByteArray.empty, .slice none 0 0], .int .i64 0, .slice none 0 0] 8 (World.laidAll_os _ _ _) (World.shaped_of_ZipB (by kernel_rfl) (by kernel_rfl)) (by kernel_rfl) (by kernel_rfl) (by kernel_rfl) (by rw [MakeChecks.laidMetH_plain _ _ _ (by kernel_rfl)]; exact laidMet_laidAll _ (by kernel_rfl) (by kernel_rfl))) ?_
 intro W base args ds gs before hval0 hW hsz0 hL_ hS_
 have hTW := tw_of hL_ hS_
 clear hL_ hS_
 have hsz : (DataW.weightsEach Tryz.prog (Tryz.f3.params.toList ++ Rows.tariffValuesSpec.plain.varTypes Tryz.prog) (ds ++ gs)).all (· ≤ reachBytes) = true := hsz0
 have hval : ∀ (j : Nat) t v, Tryz.f3.params[j]? = some t → args[j]? = some v → Value.okWide Tryz.prog W .any base t v := hval0
 have hW' := hW
 obtain ⟨p, q, hA0, hV, rfl, hfz, hnd⟩ := hW
 have hA : DataW.TrodAll enc Tryz.prog W 0 (fun _ => true) true Tryz.f3.params.toList args.toList ds p := hA0
 rw [Tryz.params3] at hA hval hsz
 obtain ⟨v0, vs0, d0, ds0, p0, q0, hargs, rfl, rfl, h0, r0⟩ := trodAll_cons hA
 obtain ⟨v1, vs1, d1, ds1, p1, q1, rfl, rfl, rfl, h1, r1⟩ := trodAll_cons r0
 obtain ⟨v2, vs2, d2, ds2, p2, q2, rfl, rfl, rfl, h2, r2⟩ := trodAll_cons r1
 obtain ⟨rfl, rfl, rfl⟩ := trodAll_nil r2
 obtain rfl : args = #[v0, v1, v2] := by cases args; simp_all
 obtain ⟨rfl, rfl⟩ := trodVars_none hV
 have k0 := h0
 have lt0 : ∀ x ∈ p0, x.block < W.heap.size := by obtain ⟨m, hm⟩ := k0; exact DataW.trod_lt m _ _ _ hm
 obtain ⟨s0, A0, c0, m0, rfl, hC0, hle0⟩ := open_tar (hval 0 24 v0 rfl rfl) h0
 obtain ⟨a1, rfl, rfl, rfl, w1⟩ := open_int Tryz.underlying3 (hval 1 3 v1 rfl rfl) h1
 obtain ⟨a2, len2, cap2, rfl⟩ := okWide_slice Tryz.underlying25 (hval 2 25 v2 rfl rfl)
 have k2 := h2
 have lt2 : ∀ x ∈ p2, x.block < W.heap.size := by obtain ⟨m, hm⟩ := k2; exact DataW.trod_lt m _ _ _ hm
 obtain ⟨l2, rfl, hle2, hC2, hG2⟩ := Go.Proofs.YtejgenhmhahgeaaGreatDoorH.open_row 3 (Go.Proofs.YtejgenhmhahgeaaGreatDoorH.opens_slice 3 (kd := Kd.int .i64) Tryz.underlying25 (by kernel_rfl) (Go.Proofs.YtejgenhmhahgeaaGreatDoorH.opens_int Tryz.underlying3)) h2
 clear hA0 hval0 hsz0 hsz
 obtain ⟨k, hp⟩ := Pure.TariffValues s0 m0 a1 w1 l2 hG2
 refine (T.culetlaw44_TariffValues.calls k s0 _ _ m0 a1 _ _ l2 true W hTW hC0 hle0 hC2 hle2 hp).mono ?_
 rintro e W' ⟨rfl, bel0⟩
 have bel : Below W.heap.size W W' := bel0
 exact ⟨_, rfl, _, _, _, [], _, [], hW', trodAll_mk1 (shut_bool Tryz.underlying4 _), (trodAll_cons_mk (Below.trod laidOut (by kernel_rfl) (of_decide_eq_true (by kernel_rfl)) k0 bel lt0) (trodAll_cons_mk (shut_int Tryz.underlying3 w1) (trodAll_cons_mk (Below.trod laidOut (by kernel_rfl) (of_decide_eq_true (by kernel_rfl)) k2 bel lt2) trodAll_mk0))), rfl, bel.frame _, fun h => by cases h⟩
theorem over : Rows.tariffValuesRow.holds Tryz.pinned (OpenSpec.ofChange Rows.tariffValuesSpec) :=
 OpenClaim.holds_of_wide 3 Tryz.f3 rfl rfl rfl rfl rfl rfl rfl ⟨rfl, rfl, rfl, rfl, rfl⟩ rfl rfl rfl rfl rfl (by kernel_rfl) Tryz.func3 (by kernel_rfl)
  (of_decide_eq_true (by kernel_rfl)) (by unfold Func.isWrapper; first | (rw [if_pos (by decide +kernel)]; kernel_rfl) | (rw [if_neg (by decide +kernel)]; exact ⟨rfl, rfl⟩))
  (fun os started H enc _ => lifted os started H enc)
theorem proved : Rows.TariffValuesSaid := over
end Go.Proofs.YtejgenhmhahgeaaGreatDoor.tariffValues
namespace Go.Proofs.YtejgenhmhahgeaaGreatDoor
theorem tariffValues_holds : Rows.TariffValuesCardSaid :=
 Claim7.holds_tied_plain_at .later [] [.data, .data, .data, .data, .sentinel, .sentinel, .pinned] true (true, "384800d0ef867010061e01e72ff03792772d56aacd4da8c0f42c971b891a61a0") true
  tariffValues.proved (fun _ h => by cases h) (by kernel_rfl) (fun _ h => by cases h) tariffValues_row_tie rfl ⟨rfl, rfl⟩ (by kernel_rfl) rfl
  (fun f fn hf hfn => by
   obtain rfl : f = 3 := Option.some.inj ((show Tryz.prog.funcNamed "culet/culetlaw44.TariffValues" = some 3 by kernel_rfl).symm.trans hf) |>.symm
   obtain rfl : fn = Tryz.f3 := (Option.some.inj (Tryz.func3.symm.trans hfn)).symm
   exact ⟨by kernel_rfl, fun j t ht => by
    rw [Tryz.params3] at ht
    have hm := Array.mem_of_getElem? ht
    simp only [Array.mem_def, List.mem_cons, List.not_mem_nil, or_false] at hm
    rcases hm with rfl | rfl | rfl
    ·
     exact (show Tryz.prog.wantsStandIn 24 = false by kernel_rfl)
    ·
     exact (show Tryz.prog.wantsStandIn 3 = false by kernel_rfl)
    ·
     exact (show Tryz.prog.wantsStandIn 25 = false by kernel_rfl)⟩)
  (by kernel_rfl)
#print axioms tariffValues_holds
#print axioms tariffValues_holds
end Go.Proofs.YtejgenhmhahgeaaGreatDoor
