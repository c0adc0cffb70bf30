-- Written by this session's own programs; what the law does not lean on is left out. Lean checks it.
import Derived.Test.YtejgenhmhahgeaaDoorFO
import Derived.Test.YtejgenhmhahgeaaDoorFTq
namespace Go.Proofs.YtejgenhmhahgeaaDoor.Pure
set_option linter.unusedVariables false
set_option linter.unusedSimpArgs false
open Go Go.RowKit Go.Proofs.YtejgenhmhahgeaaDoor.T Go.Proofs.YtejgenhmhahgeaaDoor.Plain Go.Proofs.YtejgenhmhahgeaaDoorW.PrintWords Go.Proofs.YtejgenhmhahgeaaDoorW.PrintLast Go.Proofs.YtejgenhmhahgeaaDoorW.PrintMore
theorem TariffForms (s : ByteArray) (l : List S42) (t : ByteArray) (m : List S42) : ∃ k, culetlaw44_TariffForms.f k s l t m = some true := by
 have jt : Ev (fun k => culetlaw44_TariffForms.j0 k true s l t m) true := Ev.step (f := fun k => (culetlaw44_awake.f k).bind fun t => some t) (fun k => by simp only [culetlaw44_TariffForms.j0, if_true]) (Ev.bind (f := fun _ t => some t) awake_ev (Ev.now _))
 suffices h : Ev (fun k => culetlaw44_TariffForms.f k s l t m) true from h.rounds
 unfold culetlaw44_TariffForms.f
 refine Ev.bind awake_ev ?_
 simp only [if_true]
 rw [few_ev, few_ev]
 simp only [Option.bind_some]
 cases hf : fewB s l with
 | false => simp only [Bool.false_eq_true, if_false]; exact jt
 | true =>
  simp only [if_true]
  cases hg : fewB t m with
  | false => exact jt
  | true =>
   unfold fewB at hf hg
   rw [Bool.and_eq_true, decide_eq_true_iff, decide_eq_true_iff] at hf hg
   have hs : s.size ≤ 1000 := by omega
   have hl : l.length ≤ 100000 := by omega
   have hm : m.length ≤ 100000 := by omega
   have ho : (own l).length ≤ 100000 := by rw [own_length]; exact hl
   have body : ∀ k, culetlaw44_TariffForms.j0 (k + 1) false s l t m = (((culetlaw44_Own.f k s l).bind fun bt355 => ((tariff_Print.f k bt355.1 bt355.2).bind fun bt359 => ((culetref44_Print.f k s l).bind fun bt361 => ((culetlaw44_Own.f k s l).bind fun bt363 => ((tariff_Valid.f k bt363.1 bt363.2).bind fun t367 => ((culetref44_Valid.f k s l).bind fun t368 => (if (t367 == t368) = true then ((culetlaw44_Own.f k s l).bind fun bt369 => ((culetlaw44_Own.f k t m).bind fun bt373 => ((tariff_Equal.f k bt369.1 bt369.2 bt373.1 bt373.2).bind fun t377 => ((culetref44_Equal.f k s l t m).bind fun t378 => (if (t377 == t378) = true then ((culetlaw44_Own.f k s l).bind fun bt379 => ((culetlaw44_Own.f k s l).bind fun bt383 => ((tariff_Equal.f k bt379.1 bt379.2 bt383.1 bt383.2).bind fun t387 => (if t387 = true then ((culetlaw44_Own.f k s l).bind fun bt388 => ((tariff_Fair.f k bt388.1 bt388.2).bind fun t392 => ((culetref44_Fair.f k s l).bind fun t393 => (if (t392 == t393) = true then (if bt359.1.toList = bt361.1.toList then (some (bt359.2 == bt361.2)) else (some false)) else (some false))))) else (some false))))) else (some false)))))) else (some false))))))))) := fun k => by simp only [culetlaw44_TariffForms.j0, Bool.false_eq_true, if_false]
   refine Ev.step body (Ev.bind (own_ev s l hl) (Ev.bind (Print_ev s hs (own l) ho) (Ev.bind (rPrint_ev s hs l hl) (Ev.bind (own_ev s l hl) (Ev.bind (valid_ev s hs (own l) ho) (Ev.bind (rvalid_ev s hs l hl) ?_))))))
   simp only [beq_self_eq_true, if_true]
   refine Ev.bind (own_ev s l hl) (Ev.bind (own_ev t m hm) (Ev.bind (Equal_ev s l t m hl) (Ev.bind (rEqual_ev s l t m hl) ?_)))
   simp only [beq_self_eq_true, if_true]
   refine Ev.bind (own_ev s l hl) (Ev.bind (own_ev s l hl) (Ev.bind (Equal_ev s l s l hl) ?_))
   simp only [eqB_refl, if_true]
   refine Ev.bind (own_ev s l hl) (Ev.bind (Fair_ev s hs (own l) ho) (Ev.bind (rFair_ev s hs l hl) ?_))
   simp only [beq_self_eq_true, if_true]
   exact Ev.now _
end Go.Proofs.YtejgenhmhahgeaaDoor.Pure
