-- Written by this session's own programs; what the law does not lean on is left out. Lean checks it.
import Derived.Test.YtejgenhmhahgeaaDoorXO
import Derived.Test.YtejgenhmhahgeaaDoorXTx56
namespace Go.Proofs.YtejgenhmhahgeaaDoor.Plain
set_option linter.unusedVariables false
set_option linter.unusedSimpArgs false
open Go Go.RowKit Go.Proofs.YtejgenhmhahgeaaDoor.T Go.Proofs.YtejgenhmhahgeaaDoorW.PrintWords Go.Proofs.YtejgenhmhahgeaaDoorW.PrintLast Go.Proofs.YtejgenhmhahgeaaDoorW.PrintMore
theorem resR_len {name : Bs} : ∀ (ps : List Bs) (out : List S42), (resR name out ps).2.1.length ≤ out.length + ps.length
 | [], out => by
  unfold resR
  split
  ·
   exact Nat.le_add_right _ _
  ·
   exact Nat.zero_le _
 | p :: r, out => by
  unfold resR
  cases clsR p with
  | none => exact Nat.zero_le _
  | some c =>
   have := resR_len (name := name) r (out ++ [c])
   rw [List.length_append, List.length_singleton] at this
   rw [List.length_cons]
   dsimp only
   omega
theorem rparse_len (s : Bs) : (rparseR s).2.1.length ≤ 100000 := by
 unfold rparseR
 split
 ·
  exact Nat.zero_le _
 ·
  next h4 =>
  split
  ·
   next a b hp =>
   have := resR_len (name := a) (partsB 44 b) []
   have h1 := parts_count 44 b
   have h2 := parts_len 58 s b (by rw [hp]; simp)
   rw [List.length_nil] at this
   omega
  ·
   exact Nat.zero_le _
theorem Parse_long (a0 : Bs) (h4 : a0.length > 400) (h0 : a0.length ≤ 1000000000) : Ev (fun k => tariff_Parse.f k (mk a0)) ((⟨#[]⟩ : ByteArray), ([] : List S63), 4) := by
 have hc : (mk a0).size < 4294967281 := by rw [mk_size]; omega
 have bad : ∀ x y : ByteArray, Ev (fun k => tariff_Parse.j0 k (mk a0) x y true) ((⟨#[]⟩ : ByteArray), ([] : List S63), 4) := fun x y => Ev.step (f := fun _ => some ((⟨#[]⟩ : ByteArray), ([] : List S63), 4)) (fun k => by simp only [tariff_Parse.j0, if_true]) (Ev.now _)
 unfold tariff_Parse.f strings_Cut.f
 have hl : ((mk a0).size : Int) > 400 := by rw [mk_size]; omega
 simp only [if_pos hc, Option.bind_some, decide_eq_true hl]
 cases (Lib.cut (mk a0).data.toList (⟨#[58]⟩ : ByteArray).data.toList).2.2 with
 | false => simp only [Bool.false_eq_true, if_false]; exact bad _ _
 | true => simp only [if_true]; exact bad _ _
end Go.Proofs.YtejgenhmhahgeaaDoor.Plain
namespace Go.Proofs.YtejgenhmhahgeaaDoor.Pure
set_option linter.unusedVariables false
set_option linter.unusedSimpArgs false
open Go Go.RowKit Go.Proofs.YtejgenhmhahgeaaDoor.T Go.Proofs.YtejgenhmhahgeaaDoor.Plain Go.Proofs.YtejgenhmhahgeaaDoorW.PrintWords Go.Proofs.YtejgenhmhahgeaaDoorW.PrintLast Go.Proofs.YtejgenhmhahgeaaDoorW.PrintMore
theorem text_bytes (a : Bs) (s : ByteArray) (l : List S42) : ∃ k, culetlaw44_TariffText.f k (mk a) s l = some true := by
 have jt : Ev (fun k => culetlaw44_TariffText.j0 k (mk a) true s l) true := Ev.step (f := fun k => (culetlaw44_awake.f k).bind fun t => some t) (fun k => by simp only [culetlaw44_TariffText.j0, if_true]) (Ev.bind (f := fun _ t => some t) awake_ev (Ev.now _))
 suffices h : Ev (fun k => culetlaw44_TariffText.f k (mk a) s l) true from h.rounds
 unfold culetlaw44_TariffText.f
 refine Ev.bind awake_ev ?_
 simp only [if_true, mk_size]
 by_cases h450 : (a.length : Int) > 450
 ·
  simp only [if_pos h450]; exact jt
 ·
  simp only [if_neg h450]
  rw [few_ev]
  simp only [Option.bind_some]
  cases hf : fewB s l with
  | false => exact jt
  | true =>
   unfold fewB at hf
   rw [Bool.and_eq_true, decide_eq_true_iff, decide_eq_true_iff] at hf
   have hs : s.size ≤ 1000 := by omega
   have hl : l.length ≤ 100000 := by omega
   have ho : (own l).length ≤ 100000 := by rw [own_length]; exact hl
   have body0 : ∀ k, culetlaw44_TariffText.j0 (k + 1) (mk a) (!true) s l = (((tariff_Parse.f k (mk a)).bind fun bt438 => ((culetref44_Parse.f k (mk a)).bind fun bt444 => ((culetlaw44_theirs.f k bt438.1 bt438.2.1).bind fun bt450 => ((culetref44_Equal.f k bt450.1 bt450.2 bt444.1 bt444.2.1).bind fun t454 => (if t454 = true then (culetlaw44_TariffText.j1 k (bt438.2.2 != bt444.2.2) s l) else (culetlaw44_TariffText.j1 k true s l))))))) := fun k => by simp only [culetlaw44_TariffText.j0, Bool.not_true, Bool.false_eq_true, if_false]
   have body1 : ∀ k, culetlaw44_TariffText.j1 (k + 1) false s l = (((culetlaw44_Own.f k s l).bind fun bt455 => ((tariff_Print.f k bt455.1 bt455.2).bind fun bt459 => ((tariff_Parse.f k bt459.1).bind fun bt461 => (if bt459.2 = 0 then (if (bt459.1.size : Int) > 400 then (some true) else (if bt461.2.2 = 0 then ((culetlaw44_theirs.f k bt461.1 bt461.2.1).bind fun bt467 => ((culetref44_Equal.f k bt467.1 bt467.2 s l).bind fun t471 => (some t471))) else (some false))) else (some true)))))) := fun k => by simp only [culetlaw44_TariffText.j1, Bool.false_eq_true, if_false]
   obtain ⟨n, m, e, h1, h2⟩ := parse_same a
   have p1 := Parse_ev a (by omega)
   have p2 := rParse_ev a (by omega)
   rw [h1] at p1
   rw [h2] at p2
   have hm : m.length ≤ 100000 := by
    have := rparse_len a
    rw [h2] at this
    exact this
   have hth := theirs_ev n (own m) (by rw [own_length]; exact hm)
   rw [back_own] at hth
   refine Ev.step body0 (Ev.bind p1 (Ev.bind p2 (Ev.bind hth ?_)))
   have heq := rEqual_ev n m n m hm
   rw [eqB_refl] at heq
   refine Ev.bind heq ?_
   simp only [if_true, bne_self_eq_false]
   refine Ev.step body1 (Ev.bind (own_ev s l hl) (Ev.bind (Print_ev s hs (own l) ho) ?_))
   cases hv : vB s (own l) with
   | false =>
    simp only [Bool.false_eq_true, if_false]
    refine Ev.bind (Parse_ev [] (by decide)) ?_
    simp only [show ((1 : Int) = 0) = False from eq_false (by decide), if_false]
    exact Ev.now _
   | true =>
    simp only [if_true]
    have v := V_of hv
    have hlen := upto_le hs v (own l).length
    have hup : upto s (own l) (own l).length = printB s (own l) := by unfold upto printB; rw [List.take_length]
    rw [hup] at hlen
    by_cases h4 : (printB s (own l)).length > 400
    ·
     refine Ev.bind (Parse_long (printB s (own l)) h4 (by omega)) ?_
     have h4' : ((mk (printB s (own l))).size : Int) > 400 := by rw [mk_size]; omega
     simp only [if_true, if_pos h4']
     exact Ev.now _
    ·
     have hq := parse_print (s := s.data.toList) (l := own l) (by rw [← mk_of s]; exact hv) (by rw [← mk_of s]; omega)
     rw [← mk_of s] at hq
     have pq := Parse_ev (printB s (own l)) (by omega)
     rw [hq] at pq
     refine Ev.bind pq ?_
     have h4' : ¬ ((mk (printB s (own l))).size : Int) > 400 := by rw [mk_size]; omega
     simp only [if_true, if_neg h4']
     have hth2 := theirs_ev s (own l) ho
     rw [back_own] at hth2
     have heq2 := rEqual_ev s l s l hl
     rw [eqB_refl] at heq2
     exact Ev.bind hth2 (Ev.bind (f := fun _ t => some t) heq2 (Ev.now _))
theorem TariffText (a : ByteArray) (w : a.size ≤ 140737488351232) (s : ByteArray) (l : List S42) : ∃ k, culetlaw44_TariffText.f k a s l = some true := by
 have := text_bytes a.data.toList s l
 rwa [← mk_of a] at this
end Go.Proofs.YtejgenhmhahgeaaDoor.Pure
