-- Written by this session's own program over the kit's printer, with hand-made contracts. Lean checks it.
import Derived.Test.YtalhpnfapagamaaCx0
namespace Go.Proofs.Ytalhpnfapagamaa.C
open Go.RowKit Go.Proofs.YtalhpnfapagamaaW.PrintWords Go.Proofs.YtalhpnfapagamaaW.PrintLast Go.Proofs.YtalhpnfapagamaaW.PrintMore
attribute [local go_sem] max2_int min2_int max_two min_two max_three min_three max_four min_four   -- for this text's walks alone
set_option linter.unusedVariables false
set_option linter.unusedSimpArgs false

/-! ### culetlaw36_whole: function 18 -/
mutual
def culetlaw36_whole.l0 : Nat → List (List Int) → Bool → Int → Option (Bool)
  | 0, _, _, _ => none
  | k + 1, x0, x1, x5 => if x5 < (x0.length : Int) then (culetlaw36_whole.l1 k x0 x1 x5 0) else (some true)
def culetlaw36_whole.l1 : Nat → List (List Int) → Bool → Int → Int → Option (Bool)
  | 0, _, _, _, _ => none
  | k + 1, x0, x1, x5, x6 => if 0 ≤ x5 then (if x5 < (x0.length : Int) then (if x6 < ((rd_L1 x0 x5).length : Int) then (if 0 ≤ x6 then (if (rd (rd_L1 x0 x5) x6) = 0 then (some false) else (if x1 = true then (if (rd (rd_L1 x0 x5) x6) = 3 then (some false) else (culetlaw36_whole.l1 k x0 x1 x5 (wrap64 (x6 + 1)))) else (culetlaw36_whole.l1 k x0 x1 x5 (wrap64 (x6 + 1))))) else (none)) else (culetlaw36_whole.l0 k x0 x1 (wrap64 (x5 + 1)))) else (none)) else (none)
end
def culetlaw36_whole.f (k : Nat) (l0 : List (List Int)) (a1 : Bool) : Option (Bool) := culetlaw36_whole.l0 k l0 a1 0
theorem culetlaw36_whole.mono_l : ∀ k, (∀ y0 y1 y2, LeO (culetlaw36_whole.l0 k y0 y1 y2) (culetlaw36_whole.l0 (k + 1) y0 y1 y2)) ∧ (∀ y0 y1 y2 y3, LeO (culetlaw36_whole.l1 k y0 y1 y2 y3) (culetlaw36_whole.l1 (k + 1) y0 y1 y2 y3))
  | 0 => ⟨fun _ _ _ r h => by simp [culetlaw36_whole.l0] at h, fun _ _ _ _ r h => by simp [culetlaw36_whole.l1] at h⟩
  | k + 1 => by
    obtain ⟨ih0, ih1⟩ := culetlaw36_whole.mono_l k
    refine ⟨?_, ?_⟩
    · intro y0 y1 y2
      unfold culetlaw36_whole.l0
      repeat' first
      | (with_reducible exact ih0 _ _ _)
      | (with_reducible exact ih1 _ _ _ _)
      | (with_reducible exact LeO.refl _)
      | (with_reducible exact LeO.none _)
      | (with_reducible refine LeO.ite ?_ ?_)
      | (with_reducible refine LeO.bind ?_ (fun _ => ?_))
      | exact ih0 _ _ _
      | exact ih1 _ _ _ _
      | exact LeO.none _
      | refine LeO.ite ?_ ?_
      | refine LeO.bind ?_ (fun _ => ?_)
    · intro y0 y1 y2 y3
      unfold culetlaw36_whole.l1
      repeat' first
      | (with_reducible exact ih0 _ _ _)
      | (with_reducible exact ih1 _ _ _ _)
      | (with_reducible exact LeO.refl _)
      | (with_reducible exact LeO.none _)
      | (with_reducible refine LeO.ite ?_ ?_)
      | (with_reducible refine LeO.bind ?_ (fun _ => ?_))
      | exact ih0 _ _ _
      | exact ih1 _ _ _ _
      | exact LeO.none _
      | refine LeO.ite ?_ ?_
      | refine LeO.bind ?_ (fun _ => ?_)
theorem culetlaw36_whole.mono : ∀ a0 a1 k, LeO (culetlaw36_whole.f k a0 a1) (culetlaw36_whole.f (k + 1) a0 a1) := by
  intro a0 a1 k
  obtain ⟨ih0, ih1⟩ := culetlaw36_whole.mono_l k
  unfold culetlaw36_whole.f
  repeat' first
      | (with_reducible exact ih0 _ _ _)
      | (with_reducible exact ih1 _ _ _ _)
      | (with_reducible exact LeO.refl _)
      | (with_reducible exact LeO.none _)
      | (with_reducible refine LeO.ite ?_ ?_)
      | (with_reducible refine LeO.bind ?_ (fun _ => ?_))
      | exact ih0 _ _ _
      | exact ih1 _ _ _ _
      | exact LeO.none _
      | refine LeO.ite ?_ ?_
      | refine LeO.bind ?_ (fun _ => ?_)
set_option maxHeartbeats 8000000 in
set_option maxRecDepth 100000 in
theorem culetlaw36_whole.calls (k : Nat) (A0 : Option Addr) (c0 : Nat) (l0 : List (List Int)) (a1 : Bool) (r : Bool) (w : World) (hr0 : Kd.C (Kd.slice 3 (Kd.int .i64)) w A0 l0.length l0) (hc0 : l0.length ≤ c0) (h : culetlaw36_whole.f k l0 a1 = some r) :
    Calls Try.prog 18 #[.slice A0 l0.length c0, .bool a1] w fun e w' => e = .returned (.bool r) ∧ Drawn0 w w' := by
  have HR0 := Aside0.mk hr0
  have HC0 := Aside0.mk hc0
  clear hr0 hc0
  have H : (culetlaw36_whole.l0 k l0 a1 0) = some r := h
  clear h
  have H' := Aside0.mk H
  clear H
  go_enter Try.func18, Try.ntmps18
  go_wp2
  go_loopg [5] k (fun kq v5 w' => ∃ (x5_1 : Int), v5 = .int .i64 x5_1 ∧ Aside0 (culetlaw36_whole.l0 kq l0 a1 x5_1 = some r) ∧ Aside0 (kq ≤ k) ∧ Drawn0 w w')
  case atStart => exact ⟨(0), (by first | rfl | (simp; done) | (simp [*]; done)), H', ⟨Nat.le_refl _⟩, by repeat (first | exact Drawn0.refl _ | apply Drawn0.step)⟩
  case round =>
    clear H'
    try clear c1
    try clear p2
    obtain ⟨x5_1, rfl, HA, HK1, ⟨m1, rfl⟩⟩ := hrel
    cases gk with
    | zero => exact absurd HA.out (by simp [culetlaw36_whole.l0])
    | succ k1 =>
      have H := HA.out
      clear HA
      simp only [culetlaw36_whole.l0] at H
      by_cases c3 : x5_1 < (l0.length : Int)
      · rw [if_pos c3] at H
        have c3b0 : decide (x5_1 < (l0.length : Int)) = true := decide_eq_true c3
        clear c3
        have H' := Aside0.mk H
        clear H
        go_wp2
        go_loopg [6] k1 (fun kq v6 w' => ∃ (x6_2 : Int), v6 = .int .i64 x6_2 ∧ Aside0 (culetlaw36_whole.l1 kq l0 a1 x5_1 x6_2 = some r) ∧ Aside0 (kq ≤ k1) ∧ Drawn0 w w')
        case atStart => exact ⟨(0), (by first | rfl | (simp; done) | (simp [*]; done)), H', ⟨Nat.le_refl _⟩, by repeat (first | exact Drawn0.refl _ | apply Drawn0.step)⟩
        case round =>
          clear H'
          try clear c1
          try clear p2
          try clear c3
          try clear c3b0
          try clear p2
          obtain ⟨x6_2, rfl, HA, HK2, ⟨m2, rfl⟩⟩ := hrel
          cases gk with
          | zero => exact absurd HA.out (by simp [culetlaw36_whole.l1])
          | succ k2 =>
            have H := HA.out
            clear HA
            simp only [culetlaw36_whole.l1] at H
            by_cases c4 : 0 ≤ x5_1
            · rw [if_pos c4] at H
              have c4b0 : decide (0 ≤ x5_1) = true := decide_eq_true c4
              clear c4
              by_cases c5 : x5_1 < (l0.length : Int)
              · rw [if_pos c5] at H
                have c5b0 : decide (x5_1 < (l0.length : Int)) = true := decide_eq_true c5
                clear c5
                by_cases c6 : x6_2 < ((rd_L1 l0 x5_1).length : Int)
                · rw [if_pos c6] at H
                  have c6b0 : decide (x6_2 < ((rd_L1 l0 x5_1).length : Int)) = true := decide_eq_true c6
                  clear c6
                  by_cases c7 : 0 ≤ x6_2
                  · rw [if_pos c7] at H
                    have c7b0 : decide (0 ≤ x6_2) = true := decide_eq_true c7
                    clear c7
                    by_cases c8 : (rd (rd_L1 l0 x5_1) x6_2) = 0
                    · rw [if_pos c8] at H
                      have c8b0 : ((rd (rd_L1 l0 x5_1) x6_2) == 0) = true := beq_iff_eq.mpr c8
                      have c8b1 : ((rd (rd_L1 l0 x5_1) x6_2) != 0) = false := bne_eq_false_iff_eq.mpr c8
                      clear c8
                      obtain rfl := Option.some.inj H
                      have p143 : 0 ≤ (x5_1 : Int) := of_decide_eq_true (by first | (with_reducible assumption) | assumption)
                      have q143 : x5_1 < (l0.length : Int) := of_decide_eq_true (by first | (with_reducible assumption) | assumption)
                      obtain ⟨ad143, A143_0, c143_0, e143, hx143_0, hl143_0, hi143_0⟩ := at_L1 HR0.out x5_1 p143 q143
                      cases e143
                      have HR143_0 := Aside0.mk hi143_0
                      have HC143_0 := Aside0.mk hl143_0
                      clear hi143_0 hl143_0
                      replace p143 := eq_true p143
                      replace q143 := eq_true q143
                      have p144 : 0 ≤ (x5_1 : Int) := of_decide_eq_true (by first | (with_reducible assumption) | assumption)
                      have q144 : x5_1 < (l0.length : Int) := of_decide_eq_true (by first | (with_reducible assumption) | assumption)
                      obtain ⟨ad144, A144_0, c144_0, e144, hx144_0, hl144_0, hi144_0⟩ := at_L1 HR0.out x5_1 p144 q144
                      obtain rfl : ad143 = ad144 := (by injection e144)
                      have HR144_0 := Aside0.mk hi144_0
                      have HC144_0 := Aside0.mk hl144_0
                      clear hi144_0 hl144_0
                      replace p144 := eq_true p144
                      replace q144 := eq_true q144
                      have ea_ := Option.some.inj (hx143_0.symm.trans hx144_0)
                      injection ea_ with ea_ en_ ec_
                      subst ea_
                      subst ec_
                      clear en_
                      have p145 : 0 ≤ (x6_2 : Int) := of_decide_eq_true (by first | (with_reducible assumption) | assumption)
                      have q145 : x6_2 < ((rd_L1 l0 x5_1).length : Int) := of_decide_eq_true (by first | (with_reducible assumption) | assumption)
                      obtain ⟨ad145, e145, hx145_0⟩ := Kd.at_int HR144_0.out x6_2 p145 q145
                      cases e145
                      replace p145 := eq_true p145
                      replace q145 := eq_true q145
                      go_wp2
                      go_ret
                      exact ⟨by first | rfl | (simp; done) | (simp [*]; done), by repeat (first | exact Drawn0.refl _ | apply Drawn0.step)⟩
                    · rw [if_neg c8] at H
                      have c8b0 : ((rd (rd_L1 l0 x5_1) x6_2) == 0) = false := beq_eq_false_iff_ne.mpr c8
                      have c8b1 : ((rd (rd_L1 l0 x5_1) x6_2) != 0) = true := bne_iff_ne.mpr c8
                      by_cases c9 : a1 = true
                      · subst c9
                        have H1 : (if (rd (rd_L1 l0 x5_1) x6_2) = 3 then (some false) else (culetlaw36_whole.l1 k2 l0 true x5_1 (wrap64 (x6_2 + 1)))) = some r := by rw [if_pos rfl] at H; exact H
                        clear H
                        have H := H1
                        clear H1
                        by_cases c10 : (rd (rd_L1 l0 x5_1) x6_2) = 3
                        · rw [if_pos c10] at H
                          have c10b0 : ((rd (rd_L1 l0 x5_1) x6_2) == 3) = true := beq_iff_eq.mpr c10
                          have c10b1 : ((rd (rd_L1 l0 x5_1) x6_2) != 3) = false := bne_eq_false_iff_eq.mpr c10
                          clear c10
                          obtain rfl := Option.some.inj H
                          have p143 : 0 ≤ (x5_1 : Int) := of_decide_eq_true (by first | (with_reducible assumption) | assumption)
                          have q143 : x5_1 < (l0.length : Int) := of_decide_eq_true (by first | (with_reducible assumption) | assumption)
                          obtain ⟨ad143, A143_0, c143_0, e143, hx143_0, hl143_0, hi143_0⟩ := at_L1 HR0.out x5_1 p143 q143
                          cases e143
                          have HR143_0 := Aside0.mk hi143_0
                          have HC143_0 := Aside0.mk hl143_0
                          clear hi143_0 hl143_0
                          replace p143 := eq_true p143
                          replace q143 := eq_true q143
                          have p144 : 0 ≤ (x5_1 : Int) := of_decide_eq_true (by first | (with_reducible assumption) | assumption)
                          have q144 : x5_1 < (l0.length : Int) := of_decide_eq_true (by first | (with_reducible assumption) | assumption)
                          obtain ⟨ad144, A144_0, c144_0, e144, hx144_0, hl144_0, hi144_0⟩ := at_L1 HR0.out x5_1 p144 q144
                          obtain rfl : ad143 = ad144 := (by injection e144)
                          have HR144_0 := Aside0.mk hi144_0
                          have HC144_0 := Aside0.mk hl144_0
                          clear hi144_0 hl144_0
                          replace p144 := eq_true p144
                          replace q144 := eq_true q144
                          have ea_ := Option.some.inj (hx143_0.symm.trans hx144_0)
                          injection ea_ with ea_ en_ ec_
                          subst ea_
                          subst ec_
                          clear en_
                          have p145 : 0 ≤ (x6_2 : Int) := of_decide_eq_true (by first | (with_reducible assumption) | assumption)
                          have q145 : x6_2 < ((rd_L1 l0 x5_1).length : Int) := of_decide_eq_true (by first | (with_reducible assumption) | assumption)
                          obtain ⟨ad145, e145, hx145_0⟩ := Kd.at_int HR144_0.out x6_2 p145 q145
                          cases e145
                          replace p145 := eq_true p145
                          replace q145 := eq_true q145
                          have p146 : 0 ≤ (x5_1 : Int) := of_decide_eq_true (by first | (with_reducible assumption) | assumption)
                          have q146 : x5_1 < (l0.length : Int) := of_decide_eq_true (by first | (with_reducible assumption) | assumption)
                          obtain ⟨ad146, A146_0, c146_0, e146, hx146_0, hl146_0, hi146_0⟩ := at_L1 HR0.out x5_1 p146 q146
                          obtain rfl : ad143 = ad146 := (by injection e146)
                          have HR146_0 := Aside0.mk hi146_0
                          have HC146_0 := Aside0.mk hl146_0
                          clear hi146_0 hl146_0
                          replace p146 := eq_true p146
                          replace q146 := eq_true q146
                          have ea_ := Option.some.inj (hx143_0.symm.trans hx146_0)
                          injection ea_ with ea_ en_ ec_
                          subst ea_
                          subst ec_
                          clear en_
                          have p147 : 0 ≤ (x6_2 : Int) := of_decide_eq_true (by first | (with_reducible assumption) | assumption)
                          have q147 : x6_2 < ((rd_L1 l0 x5_1).length : Int) := of_decide_eq_true (by first | (with_reducible assumption) | assumption)
                          obtain ⟨ad147, e147, hx147_0⟩ := Kd.at_int HR146_0.out x6_2 p147 q147
                          cases e147
                          replace p147 := eq_true p147
                          replace q147 := eq_true q147
                          go_wp2
                          go_ret
                          exact ⟨by first | rfl | (simp; done) | (simp [*]; done), by repeat (first | exact Drawn0.refl _ | apply Drawn0.step)⟩
                        · rw [if_neg c10] at H
                          have c10b0 : ((rd (rd_L1 l0 x5_1) x6_2) == 3) = false := beq_eq_false_iff_ne.mpr c10
                          have c10b1 : ((rd (rd_L1 l0 x5_1) x6_2) != 3) = true := bne_iff_ne.mpr c10
                          have H' := Aside0.mk H
                          clear H
                          have p143 : 0 ≤ (x5_1 : Int) := of_decide_eq_true (by first | (with_reducible assumption) | assumption)
                          have q143 : x5_1 < (l0.length : Int) := of_decide_eq_true (by first | (with_reducible assumption) | assumption)
                          obtain ⟨ad143, A143_0, c143_0, e143, hx143_0, hl143_0, hi143_0⟩ := at_L1 HR0.out x5_1 p143 q143
                          cases e143
                          have HR143_0 := Aside0.mk hi143_0
                          have HC143_0 := Aside0.mk hl143_0
                          clear hi143_0 hl143_0
                          replace p143 := eq_true p143
                          replace q143 := eq_true q143
                          have p144 : 0 ≤ (x5_1 : Int) := of_decide_eq_true (by first | (with_reducible assumption) | assumption)
                          have q144 : x5_1 < (l0.length : Int) := of_decide_eq_true (by first | (with_reducible assumption) | assumption)
                          obtain ⟨ad144, A144_0, c144_0, e144, hx144_0, hl144_0, hi144_0⟩ := at_L1 HR0.out x5_1 p144 q144
                          obtain rfl : ad143 = ad144 := (by injection e144)
                          have HR144_0 := Aside0.mk hi144_0
                          have HC144_0 := Aside0.mk hl144_0
                          clear hi144_0 hl144_0
                          replace p144 := eq_true p144
                          replace q144 := eq_true q144
                          have ea_ := Option.some.inj (hx143_0.symm.trans hx144_0)
                          injection ea_ with ea_ en_ ec_
                          subst ea_
                          subst ec_
                          clear en_
                          have p145 : 0 ≤ (x6_2 : Int) := of_decide_eq_true (by first | (with_reducible assumption) | assumption)
                          have q145 : x6_2 < ((rd_L1 l0 x5_1).length : Int) := of_decide_eq_true (by first | (with_reducible assumption) | assumption)
                          obtain ⟨ad145, e145, hx145_0⟩ := Kd.at_int HR144_0.out x6_2 p145 q145
                          cases e145
                          replace p145 := eq_true p145
                          replace q145 := eq_true q145
                          have p146 : 0 ≤ (x5_1 : Int) := of_decide_eq_true (by first | (with_reducible assumption) | assumption)
                          have q146 : x5_1 < (l0.length : Int) := of_decide_eq_true (by first | (with_reducible assumption) | assumption)
                          obtain ⟨ad146, A146_0, c146_0, e146, hx146_0, hl146_0, hi146_0⟩ := at_L1 HR0.out x5_1 p146 q146
                          obtain rfl : ad143 = ad146 := (by injection e146)
                          have HR146_0 := Aside0.mk hi146_0
                          have HC146_0 := Aside0.mk hl146_0
                          clear hi146_0 hl146_0
                          replace p146 := eq_true p146
                          replace q146 := eq_true q146
                          have ea_ := Option.some.inj (hx143_0.symm.trans hx146_0)
                          injection ea_ with ea_ en_ ec_
                          subst ea_
                          subst ec_
                          clear en_
                          have p147 : 0 ≤ (x6_2 : Int) := of_decide_eq_true (by first | (with_reducible assumption) | assumption)
                          have q147 : x6_2 < ((rd_L1 l0 x5_1).length : Int) := of_decide_eq_true (by first | (with_reducible assumption) | assumption)
                          obtain ⟨ad147, e147, hx147_0⟩ := Kd.at_int HR146_0.out x6_2 p147 q147
                          cases e147
                          replace p147 := eq_true p147
                          replace q147 := eq_true q147
                          go_wp2
                          go_roundg k2
                          case measure => have := HK1.out; have := HK2.out; omega
                          case rel => exact ⟨(wrap64 (x6_2 + 1)), (by first | rfl | (simp; done) | (simp [*]; done)), H', ⟨by have := HK1.out; have := HK2.out; omega⟩, by repeat (first | exact Drawn0.refl _ | apply Drawn0.step)⟩
                      · replace c9 := Bool.eq_false_iff.mpr c9
                        subst c9
                        have H1 : (culetlaw36_whole.l1 k2 l0 false x5_1 (wrap64 (x6_2 + 1))) = some r := by rw [if_neg (show ¬ (false = true) by decide)] at H; exact H
                        clear H
                        have H := H1
                        clear H1
                        have H' := Aside0.mk H
                        clear H
                        have p143 : 0 ≤ (x5_1 : Int) := of_decide_eq_true (by first | (with_reducible assumption) | assumption)
                        have q143 : x5_1 < (l0.length : Int) := of_decide_eq_true (by first | (with_reducible assumption) | assumption)
                        obtain ⟨ad143, A143_0, c143_0, e143, hx143_0, hl143_0, hi143_0⟩ := at_L1 HR0.out x5_1 p143 q143
                        cases e143
                        have HR143_0 := Aside0.mk hi143_0
                        have HC143_0 := Aside0.mk hl143_0
                        clear hi143_0 hl143_0
                        replace p143 := eq_true p143
                        replace q143 := eq_true q143
                        have p144 : 0 ≤ (x5_1 : Int) := of_decide_eq_true (by first | (with_reducible assumption) | assumption)
                        have q144 : x5_1 < (l0.length : Int) := of_decide_eq_true (by first | (with_reducible assumption) | assumption)
                        obtain ⟨ad144, A144_0, c144_0, e144, hx144_0, hl144_0, hi144_0⟩ := at_L1 HR0.out x5_1 p144 q144
                        obtain rfl : ad143 = ad144 := (by injection e144)
                        have HR144_0 := Aside0.mk hi144_0
                        have HC144_0 := Aside0.mk hl144_0
                        clear hi144_0 hl144_0
                        replace p144 := eq_true p144
                        replace q144 := eq_true q144
                        have ea_ := Option.some.inj (hx143_0.symm.trans hx144_0)
                        injection ea_ with ea_ en_ ec_
                        subst ea_
                        subst ec_
                        clear en_
                        have p145 : 0 ≤ (x6_2 : Int) := of_decide_eq_true (by first | (with_reducible assumption) | assumption)
                        have q145 : x6_2 < ((rd_L1 l0 x5_1).length : Int) := of_decide_eq_true (by first | (with_reducible assumption) | assumption)
                        obtain ⟨ad145, e145, hx145_0⟩ := Kd.at_int HR144_0.out x6_2 p145 q145
                        cases e145
                        replace p145 := eq_true p145
                        replace q145 := eq_true q145
                        go_wp2
                        go_roundg k2
                        case measure => have := HK1.out; have := HK2.out; omega
                        case rel => exact ⟨(wrap64 (x6_2 + 1)), (by first | rfl | (simp; done) | (simp [*]; done)), H', ⟨by have := HK1.out; have := HK2.out; omega⟩, by repeat (first | exact Drawn0.refl _ | apply Drawn0.step)⟩
                  · rw [if_neg c7] at H
                    exact absurd H (by simp)
                · rw [if_neg c6] at H
                  have c6b0 : decide (x6_2 < ((rd_L1 l0 x5_1).length : Int)) = false := decide_eq_false c6
                  clear c6
                  have H' := Aside0.mk H
                  clear H
                  have p143 : 0 ≤ (x5_1 : Int) := of_decide_eq_true (by first | (with_reducible assumption) | assumption)
                  have q143 : x5_1 < (l0.length : Int) := of_decide_eq_true (by first | (with_reducible assumption) | assumption)
                  obtain ⟨ad143, A143_0, c143_0, e143, hx143_0, hl143_0, hi143_0⟩ := at_L1 HR0.out x5_1 p143 q143
                  cases e143
                  have HR143_0 := Aside0.mk hi143_0
                  have HC143_0 := Aside0.mk hl143_0
                  clear hi143_0 hl143_0
                  replace p143 := eq_true p143
                  replace q143 := eq_true q143
                  go_wp2
                  go_roundg k2
                  case measure => have := HK1.out; have := HK2.out; omega
                  case rel => exact ⟨(wrap64 (x5_1 + 1)), (by first | rfl | (simp; done) | (simp [*]; done)), H', ⟨by have := HK1.out; have := HK2.out; omega⟩, by repeat (first | exact Drawn0.refl _ | apply Drawn0.step)⟩
              · rw [if_neg c5] at H
                exact absurd H (by simp)
            · rw [if_neg c4] at H
              exact absurd H (by simp)
      · rw [if_neg c3] at H
        have c3b0 : decide (x5_1 < (l0.length : Int)) = false := decide_eq_false c3
        clear c3
        obtain rfl := Option.some.inj H
        go_wp2
        go_ret
        exact ⟨by first | rfl | (simp; done) | (simp [*]; done), by repeat (first | exact Drawn0.refl _ | apply Drawn0.step)⟩

end Go.Proofs.Ytalhpnfapagamaa.C
