-- Written by this session's own programs; what the law does not lean on is left out. Lean checks it.
import Derived.Test.YtejgenhmhahgeaaDoorUP
import Derived.Test.YtejgenhmhahgeaaDoorUTx37
namespace Go.Proofs.YtejgenhmhahgeaaDoor.Plain
set_option linter.unusedVariables false
set_option linter.unusedSimpArgs false
open Go Go.RowKit Go.Proofs.YtejgenhmhahgeaaDoor.T Go.Proofs.YtejgenhmhahgeaaDoorW.PrintWords Go.Proofs.YtejgenhmhahgeaaDoorW.PrintLast Go.Proofs.YtejgenhmhahgeaaDoorW.PrintMore

theorem rd_drop1 (l : List S42) (i : Nat) : rd_T42 (l.drop 1) (i : Int) = rd_T42 l ((i + 1 : Nat) : Int) := by
 unfold rd_T42
 rw [Int.toNat_natCast, Int.toNat_natCast, List.getD_eq_getElem?_getD, List.getD_eq_getElem?_getD, List.getElem?_drop, Nat.add_comm]
theorem F_own (l : List S42) (i : Nat) : F (own l) i = (rd_T42 l (i : Int)).f0 := by unfold F; rw [own_rd]
def fpB (l : List S63) (i : Nat) : Bool := decide (valN l (F l i - 1) ≤ valN l (F l i))
theorem unfair_l (s : ByteArray) (hs : s.size ≤ 1000) (l : List S42) (hv : vB s (own l) = true) : ∀ (d i : Nat), i + d = (l.drop 1).length → ∀ b : Bool, Ev (fun k => culetlaw44_TariffUnfair.l0 k b (l.drop 1) ((l.drop 1).length : Int) (i : Int) s l) ((b || !(List.range' (i + 1) d).all (fpB (own l))) != fairB (own l))
 | 0, i, h, b => by
  have v := V_of hv
  have h20 := v.len20
  rw [own_length] at h20
  obtain rfl : i = (l.drop 1).length := by omega
  refine Ev.step (f := fun k => (culetlaw44_Own.f k s l).bind fun bt222 => ((tariff_Fair.f k bt222.1 bt222.2).bind fun t226 => (some (b != t226)))) (fun k => ?_) ?_
  ·
   simp only [culetlaw44_TariffUnfair.l0]; rw [if_neg (by omega)]
  ·
   refine Ev.bind (own_ev s l (by omega)) ?_
   refine Ev.bind (f := fun _ t => some (b != t)) (Fair_ev s hs (own l) (by rw [own_length]; omega)) ?_
   rw [hv, Bool.true_and]
   simp only [List.range'_zero, List.all_nil, Bool.not_true, Bool.or_false]
   exact Ev.now _
 | d + 1, i, h, b => by
  have v := V_of hv
  have h20 := v.len20
  have hi : i + 1 < l.length := by rw [List.length_drop] at h; omega
  have hi' : i + 1 < (own l).length := by rw [own_length]; exact hi
  rw [own_length] at h20
  have a := v.pos (i := i + 1) (by omega) hi'
  have c := v.hi (i + 1) hi'
  rw [F_own] at a c
  have ev1 := Value_ev s hs (own l) (by rw [own_length]; omega) ((rd_T42 l ((i + 1 : Nat) : Int)).f0 - 1)
  have ev2 := Value_ev s hs (own l) (by rw [own_length]; omega) (rd_T42 l ((i + 1 : Nat) : Int)).f0
  unfold ans at ev1 ev2
  rw [hv, if_pos rfl, in_out (by omega) (by omega), if_neg (by simp)] at ev1 ev2
  refine Ev.step (f := fun k => (culetlaw44_Own.f k s l).bind fun bt229 => ((tariff_Value.f k bt229.1 bt229.2 ((rd_T42 l ((i + 1 : Nat) : Int)).f0 - 1)).bind fun bt233 => ((culetlaw44_Own.f k s l).bind fun bt235 => ((tariff_Value.f k bt235.1 bt235.2 ((rd_T42 l ((i + 1 : Nat) : Int)).f0)).bind fun bt239 => (if bt233.2 = 0 then (if bt239.2 = 0 then (if b = true then (culetlaw44_TariffUnfair.l0 k true (l.drop 1) ((l.drop 1).length : Int) ((i + 1 : Nat) : Int) s l) else (culetlaw44_TariffUnfair.l0 k (decide (bt233.1 > bt239.1)) (l.drop 1) ((l.drop 1).length : Int) ((i + 1 : Nat) : Int) s l)) else (some false)) else (some false)))))) (fun k => ?_) ?_
  ·
   simp only [culetlaw44_TariffUnfair.l0]
   rw [if_pos (by omega), if_pos (by omega), if_pos (by omega), rd_drop1, wrap_id (by omega) (by omega), wrap_nat (by omega)]
  ·
   refine Ev.bind (own_ev s l (by omega)) (Ev.bind ev1 (Ev.bind (own_ev s l (by omega)) (Ev.bind ev2 ?_)))
   simp only [if_true]
   rw [List.range'_succ, List.all_cons]
   cases b with
   | true =>
    simp only [if_true, Bool.true_or]
    have := unfair_l s hs l hv d (i + 1) (by omega) true
    rwa [Bool.true_or] at this
   | false =>
    simp only [Bool.false_eq_true, if_false, Bool.false_or]
    have := unfair_l s hs l hv d (i + 1) (by omega) (decide (valN (own l) ((rd_T42 l ((i + 1 : Nat) : Int)).f0 - 1) > valN (own l) (rd_T42 l ((i + 1 : Nat) : Int)).f0))
    have e : (fpB (own l) (i + 1) && (List.range' (i + 1 + 1) d).all (fpB (own l))) = !(decide (valN (own l) ((rd_T42 l ((i + 1 : Nat) : Int)).f0 - 1) > valN (own l) (rd_T42 l ((i + 1 : Nat) : Int)).f0) || !(List.range' (i + 1 + 1) d).all (fpB (own l))) := by
     unfold fpB
     rw [F_own, Bool.not_or, Bool.not_not, ← decide_not]
     congr 1
     exact decide_eq_decide.2 Int.not_lt.symm
    rw [e, Bool.not_not]
    exact this
end Go.Proofs.YtejgenhmhahgeaaDoor.Plain
namespace Go.Proofs.YtejgenhmhahgeaaDoor.Pure
set_option linter.unusedVariables false
set_option linter.unusedSimpArgs false
open Go Go.RowKit Go.Proofs.YtejgenhmhahgeaaDoor.T Go.Proofs.YtejgenhmhahgeaaDoor.Plain Go.Proofs.YtejgenhmhahgeaaDoorW.PrintWords Go.Proofs.YtejgenhmhahgeaaDoorW.PrintLast Go.Proofs.YtejgenhmhahgeaaDoorW.PrintMore
theorem TariffUnfair (s : ByteArray) (l : List S42) : ∃ k, culetlaw44_TariffUnfair.f k s l = some true := by
 have jt : Ev (fun k => culetlaw44_TariffUnfair.j0 k true s l) true := Ev.step (f := fun k => (culetlaw44_awake.f k).bind fun t => some t) (fun k => by simp only [culetlaw44_TariffUnfair.j0, if_true]) (Ev.bind (f := fun _ t => some t) awake_ev (Ev.now _))
 suffices h : Ev (fun k => culetlaw44_TariffUnfair.f k s l) true from h.rounds
 unfold culetlaw44_TariffUnfair.f
 refine Ev.bind awake_ev ?_
 simp only [if_true]
 rw [few_ev]
 simp only [Option.bind_some]
 cases hf : fewB s l with
 | false => simp only [Bool.false_eq_true, if_false]; exact jt
 | true =>
  simp only [if_true]
  unfold fewB at hf
  rw [Bool.and_eq_true, decide_eq_true_iff, decide_eq_true_iff] at hf
  refine Ev.bind (rvalid_ev s (by omega) l (by omega)) ?_
  cases hv : vB s (own l) with
  | false => exact jt
  | true =>
   have h1 := (V_of hv).len1
   rw [own_length] at h1
   refine Ev.step (f := fun k => culetlaw44_TariffUnfair.l0 k false (l.drop 1) ((l.drop 1).length : Int) ((0 : Nat) : Int) s l) (fun k => ?_) ?_
   ·
    simp only [culetlaw44_TariffUnfair.j0]
    rw [if_neg (by simp), if_pos (by omega)]; rfl
   ·
    have := unfair_l s (by omega) l hv (l.drop 1).length 0 (by omega) false
    have e : (List.range' (0 + 1) (l.drop 1).length).all (fpB (own l)) = fairB (own l) := by unfold fairB fpB; rw [own_length, List.length_drop]
    rw [e, Bool.false_or] at this
    cases hq : fairB (own l) <;> rw [hq] at this <;> exact this
end Go.Proofs.YtejgenhmhahgeaaDoor.Pure
