-- Written by this session's own programs; what the law does not lean on is left out. Lean checks it.
import Derived.Test.YtejgenhmhahgeaaDoorLPlainLeast
import Derived.Test.YtejgenhmhahgeaaDoorLTx44
namespace Go.Proofs.YtejgenhmhahgeaaDoor.Pure
set_option linter.unusedVariables false
set_option linter.unusedSimpArgs false
open Go Go.RowKit Go.Proofs.YtejgenhmhahgeaaDoor.T Go.Proofs.YtejgenhmhahgeaaDoor.Plain Go.Proofs.YtejgenhmhahgeaaDoorW.PrintWords Go.Proofs.YtejgenhmhahgeaaDoorW.PrintLast Go.Proofs.YtejgenhmhahgeaaDoorW.PrintMore
theorem TariffLeast (s : ByteArray) (l : List S42) (q : Int) (w1 : (Lit.int .i64 q).wf = true) (x : Int) (w2 : (Lit.int .i64 x).wf = true) : ∃ k, culetlaw44_TariffLeast.f k s l q x = some true := by
 clear w1 w2
 have jt : Ev (fun k => culetlaw44_TariffLeast.j0 k q x true s l) true := Ev.step (f := fun k => (culetlaw44_awake.f k).bind fun t => some t) (fun k => by simp only [culetlaw44_TariffLeast.j0, if_true]) (Ev.bind (f := fun _ t => some t) awake_ev (Ev.now _))
 suffices h : Ev (fun k => culetlaw44_TariffLeast.f k s l q x) true from h.rounds
 unfold culetlaw44_TariffLeast.f
 refine Ev.bind awake_ev ?_
 simp only [if_true]
 rw [few_ev]
 simp only [Option.bind_some]
 cases hf : fewB s l with
 | false => simp only [Bool.false_eq_true, if_false]; exact jt
 | true =>
  simp only [if_true]
  unfold fewB at hf
  rw [Bool.and_eq_true, decide_eq_true_iff, decide_eq_true_iff] at hf
  have hs : s.size ≤ 1000 := by omega
  have ho : (own l).length ≤ 100000 := by rw [own_length]; omega
  have ow := own_ev s l (by omega)
  refine Ev.bind (rvalid_ev s hs l (by omega)) ?_
  cases hv : vB s (own l) with
  | false => exact jt
  | true =>
   obtain ⟨r, e, ok⟩ := Least_ev s hs (own l) ho q
   rw [if_pos hv] at e
   have ok := ok hv
   have ev1 := Value_ev s hs (own l) ho x
   have ev2 := Value_ev s hs (own l) ho r.1
   unfold ans at ev1 ev2
   rw [if_pos hv] at ev1 ev2
   refine Ev.step (f := fun k => (culetlaw44_Own.f k s l).bind fun bt261 => ((tariff_Least.f k bt261.1 bt261.2 q).bind fun bt265 => ((culetlaw44_Own.f k s l).bind fun bt267 => ((tariff_Value.f k bt267.1 bt267.2 x).bind fun bt271 => (if bt265.2 = 0 then ((culetlaw44_Own.f k s l).bind fun bt273 => ((tariff_Value.f k bt273.1 bt273.2 bt265.1).bind fun bt277 => (if bt277.2 = 0 then (if bt277.1 ≥ q then (if bt271.2 = 0 then (if x ≥ bt265.1 then (some true) else (some (decide (bt271.1 < q)))) else (some true)) else (some false)) else (some false)))) else (if bt265.2 = 7 then (if bt271.2 = 0 then (some (decide (bt271.1 < q))) else (some true)) else (some false))))))) (fun k => by simp only [culetlaw44_TariffLeast.j0, Bool.not_true, Bool.false_eq_true, if_false]) ?_
   refine Ev.bind ow (Ev.bind e (Ev.bind ow (Ev.bind ev1 ?_)))
   rcases ok with ⟨h0, h1, h2, h3, h4⟩ | ⟨h0, h1⟩
   ·
    simp only [h0, if_true]
    refine Ev.bind ow (Ev.bind ev2 ?_)
    rw [in_out h1 h2]
    simp only [Bool.false_eq_true, if_false, if_true]
    have h3' : valN (own l) r.1 ≥ q := h3
    simp only [h3', if_true]
    cases hx : outB x with
    | true => simp only [if_true, show ((2 : Int) = 0) = False from eq_false (by decide), if_false]; exact Ev.now _
    | false =>
     simp only [Bool.false_eq_true, if_false, if_true]
     by_cases hr : x ≥ r.1
     ·
      simp only [hr, if_true]; exact Ev.now _
     ·
      have := h4 x (out_in hx).1 (by omega)
      simp only [hr, if_false, decide_eq_true this]; exact Ev.now _
   ·
    rw [h0]
    simp only [show ((7 : Int) = 0) = False from eq_false (by decide), if_false, if_true]
    cases hx : outB x with
    | true => simp only [if_true, show ((2 : Int) = 0) = False from eq_false (by decide), if_false]; exact Ev.now _
    | false =>
     have := h1 x (out_in hx).1 (out_in hx).2
     simp only [Bool.false_eq_true, if_false, if_true, decide_eq_true this]; exact Ev.now _
end Go.Proofs.YtejgenhmhahgeaaDoor.Pure
