-- Written by this session's own programs; what the law does not lean on is left out. Lean checks it.
import Derived.Test.YtejgenhmhahgeaaGreatDoorVP
import Derived.Test.YtejgenhmhahgeaaGreatDoorVTq
namespace Go.Proofs.YtejgenhmhahgeaaGreatDoor.Pure
set_option linter.unusedVariables false
set_option linter.unusedSimpArgs false
open Go Go.RowKit Go.Proofs.YtejgenhmhahgeaaGreatDoor.T Go.Proofs.YtejgenhmhahgeaaGreatDoor.Plain Go.Proofs.YtejgenhmhahgeaaGreatDoorW.PrintWords Go.Proofs.YtejgenhmhahgeaaGreatDoorW.PrintLast Go.Proofs.YtejgenhmhahgeaaGreatDoorW.PrintMore
theorem TariffValues (s : ByteArray) (l : List S43) (w : Int) (hw : (Lit.int .i64 w).wf = true) (ws : List Int) {G : Prop} (hG : G) : ∃ k, culetlaw44_TariffValues.f k s l w ws = some true := by
 clear hw hG
 have jt : Ev (fun k => culetlaw44_TariffValues.j0 k w ws true s l) true := Ev.step (f := fun k => (culetlaw44_awake.f k).bind fun t => some t) (fun k => by simp only [culetlaw44_TariffValues.j0, if_true]) (Ev.bind (f := fun _ t => some t) awake_ev (Ev.now _))
 suffices h : Ev (fun k => culetlaw44_TariffValues.f k s l w ws) true from h.rounds
 unfold culetlaw44_TariffValues.f
 refine Ev.bind awake_ev ?_
 simp only [if_true]
 rw [few_ev]
 simp only [Option.bind_some]
 cases hf : fewB s l with
 | false => simp only [Bool.false_eq_true, if_false]; exact jt
 | true =>
  simp only [if_true]
  unfold fewB at hf
  rw [Bool.and_eq_true, decide_eq_true_iff, decide_eq_true_iff] at hf
  by_cases h2 : (ws.length : Int) > 1002
  ·
   rw [decide_eq_true h2]; exact jt
  ·
   rw [decide_eq_false h2]
   have hs : s.size ≤ 1000 := by omega
   have hl : l.length ≤ 100000 := by omega
   have ho : (own l).length ≤ 100000 := by rw [own_length]; exact hl
   obtain ⟨r, le, rle⟩ := rLeast_ev s hs l hl w
   have body : ∀ k, culetlaw44_TariffValues.j0 (k + 1) w ws false s l = (((culetlaw44_Own.f k s l).bind fun bt257 => ((tariff_ClassOf.f k bt257.1 bt257.2 w).bind fun bt262 => ((culetref44_ClassOf.f k s l w).bind fun bt264 => ((tariff_Value.f k bt257.1 bt257.2 w).bind fun bt266 => ((culetref44_Value.f k s l w).bind fun bt268 => ((tariff_Next.f k bt257.1 bt257.2 w).bind fun bt270 => ((culetref44_Next.f k s l w).bind fun bt272 => ((tariff_Least.f k bt257.1 bt257.2 w).bind fun bt274 => ((culetref44_Least.f k s l w).bind fun bt276 => ((tariff_Total.f k bt257.1 bt257.2 ws).bind fun bt278 => ((culetref44_Total.f k s l ws).bind fun bt280 => (if bt262.1 = bt264.1 then (if bt262.2 = bt264.2 then (if bt266.1 = bt268.1 then (if bt266.2 = bt268.2 then (if bt270.1 = bt272.1 then (if bt270.2 = bt272.2 then (if bt274.1 = bt276.1 then (if bt274.2 = bt276.2 then (if bt278.1 = bt280.1 then (some (bt278.2 == bt280.2)) else (some false)) else (some false)) else (some false)) else (some false)) else (some false)) else (some false)) else (some false)) else (some false)) else (some false)))))))))))))) := fun k => by simp only [culetlaw44_TariffValues.j0, Bool.false_eq_true, if_false]
   refine Ev.step body (Ev.bind (own_ev s l hl) (Ev.bind (ClassOf_ev s hs (own l) ho w) (Ev.bind (rClassOf_ev s hs l hl w) (Ev.bind (Value_ev s hs (own l) ho w) (Ev.bind (rValue_ev s hs l hl w) (Ev.bind (Next_ev s hs (own l) ho w) (Ev.bind (rNext_ev s hs l hl w) (Ev.bind le (Ev.bind rle (Ev.bind (Total_ev s hs (own l) ho ws (by omega)) (Ev.bind (rTotal_ev s hs l hl ws) ?_)))))))))))
   simp only [if_true, beq_self_eq_true]
   exact Ev.now _
end Go.Proofs.YtejgenhmhahgeaaGreatDoor.Pure
