/- Lex returns the specified tokens or error for a text of up to 60 bytes that is repeated: the plain law. -/
import Derived.Test.YthjmbagkomnpgaaDoorPlainAwake
import Derived.Test.YthjmbagkomnpgaaDoorPlainSame
import Derived.Test.YthjmbagkomnpgaaDoorLx30
namespace Go.Proofs.YthjmbagkomnpgaaDoor.Pure
open Go Go.RowKit Go.Proofs.YthjmbagkomnpgaaDoor.L Go.Proofs.YthjmbagkomnpgaaDoorW.PrintWords Go.Proofs.YthjmbagkomnpgaaDoorW.PrintLast Go.Proofs.YthjmbagkomnpgaaDoor.Plain

theorem long_l (s : Bs) (hs : s.length ≤ 60) (n : Nat) (hn : n ≤ 8001) : ∀ (d i : Nat) (x : Bs), i + d = n → x.length ≤ i * 60 → Ev (fun k => culetlaw13_LexerLong.l0 k (mk s) (mk x) (n : Int) (i : Int)) true
  | 0, i, x, h, hx => by
    refine Ev.step (fun k => ?_) (both_ev x)
    simp only [culetlaw13_LexerLong.l0]; rw [if_neg (by omega)]
  | d + 1, i, x, h, hx => by
    have b1 : (mk x).size + (mk s).size ≤ 9223372036854775807 := by
      rw [mk_size, mk_size]
      exact Nat.le_trans (show x.length + s.length ≤ 1000000 by omega) (by decide)
    have ih := long_l s hs n hn d (i + 1) (x ++ s) (by omega) (by rw [List.length_append]; omega)
    refine Ev.step (fun k => ?_) ih
    simp only [culetlaw13_LexerLong.l0]; rw [if_pos (by omega), if_pos b1, mk_append, wrap_nat (by omega)]

theorem LexerLong : culetlaw13_LexerLong.Pure := by
  intro a0 a1 _ hu
  refine Ev.rounds ?_
  rw [mk_of a0]
  generalize a0.data.toList = s
  have hw : 0 ≤ a1 ∧ a1 ≤ 65535 := by
    have h := hu
    rw [Lit.wf, Bool.and_eq_true] at h
    have h1 : (0 : Int) ≤ a1 := of_decide_eq_true h.1
    have h2 : a1 ≤ 65535 := of_decide_eq_true h.2
    exact ⟨h1, h2⟩
  have hk : ∃ n : Nat, n ≤ 8001 ∧ Int.tmod (wrap64 a1) 8001 = (n : Int) := by
    rw [wrap_id (by omega) (by omega)]
    obtain ⟨m, rfl⟩ : ∃ m : Nat, a1 = (m : Int) := ⟨a1.toNat, by omega⟩
    refine ⟨m % 8001, by omega, ?_⟩
    rw [Int.tmod_eq_emod_of_nonneg (by omega)]; omega
  obtain ⟨n, hn, hk⟩ := hk
  have yes : Ev (fun k => culetlaw13_LexerLong.j0 k (mk s) (n : Int) true) true := Ev.step (f := fun _ => some true) (fun k => by simp only [culetlaw13_LexerLong.j0]; rw [if_pos trivial]) (Ev.now _)
  refine Ev.congr (fun k => by unfold culetlaw13_LexerLong.f; rw [hk]) (Ev.bind awake_ev ?_)
  by_cases h60 : s.length ≤ 60
  · refine Ev.congr (fun k => by rw [if_pos rfl, if_neg (by rw [mk_size]; omega)]) ?_
    cases decide (wrap64 (((mk s).size : Int) * (n : Int)) > 25000) with
    | true => exact yes
    | false =>
      have := long_l s h60 n hn n 0 [] (by omega) (by simp)
      exact Ev.step (fun k => by simp only [culetlaw13_LexerLong.j0]; rw [if_neg (by simp)]; rfl) this
  · exact Ev.congr (fun k => by rw [if_pos rfl, if_pos (by rw [mk_size]; omega)]) yes

end Go.Proofs.YthjmbagkomnpgaaDoor.Pure
