-- Written by this session's own program over the kit's printer, with hand-made contracts. Lean checks it.
import Derived.Test.YthjmbagkomnpgaaDoorLx0
import Derived.Test.YthjmbagkomnpgaaDoorLx17
import Derived.Test.YthjmbagkomnpgaaDoorLx18
namespace Go.Proofs.YthjmbagkomnpgaaDoor.L
open Go.RowKit Go.Proofs.YthjmbagkomnpgaaDoorW.PrintWords Go.Proofs.YthjmbagkomnpgaaDoorW.PrintLast Go.Proofs.YthjmbagkomnpgaaDoorW.PrintMore
attribute [local go_sem] max2_int min2_int max_two min_two max_three min_three max_four min_four   -- for this text's walks alone
set_option linter.unusedVariables false
set_option linter.unusedSimpArgs false

/-! ### culetlaw13_LexerLongest: function 7 -/
mutual
def culetlaw13_LexerLongest.l0 : Nat → ByteArray → List (S38) → Int → Int → Option (Bool)
  | 0, _, _, _, _ => none
  | k + 1, x0, x25, x26, x27 => if x27 < x26 then (if 0 ≤ x27 then (if x27 < (x25.length : Int) then (if ((rd_T38 x25 x27).f0) = 1 then (if (wrap64 (((rd_T38 x25 x27).f3) + (((rd_T38 x25 x27).f1).size : Int))) ≥ (x0.size : Int) then (culetlaw13_LexerLongest.j1 k x0 (wrap64 (((rd_T38 x25 x27).f3) + (((rd_T38 x25 x27).f1).size : Int))) x25 x26 x27 true ((rd_T38 x25 x27).f0) ((rd_T38 x25 x27).f1) ((rd_T38 x25 x27).f2) ((rd_T38 x25 x27).f3)) else (culetlaw13_LexerLongest.j1 k x0 (wrap64 (((rd_T38 x25 x27).f3) + (((rd_T38 x25 x27).f1).size : Int))) x25 x26 x27 (decide ((wrap64 (((rd_T38 x25 x27).f3) + (((rd_T38 x25 x27).f1).size : Int))) < 0)) ((rd_T38 x25 x27).f0) ((rd_T38 x25 x27).f1) ((rd_T38 x25 x27).f2) ((rd_T38 x25 x27).f3))) else (if ((rd_T38 x25 x27).f0) = 2 then (if (wrap64 (((rd_T38 x25 x27).f3) + (((rd_T38 x25 x27).f1).size : Int))) ≥ (x0.size : Int) then (culetlaw13_LexerLongest.j1 k x0 (wrap64 (((rd_T38 x25 x27).f3) + (((rd_T38 x25 x27).f1).size : Int))) x25 x26 x27 true ((rd_T38 x25 x27).f0) ((rd_T38 x25 x27).f1) ((rd_T38 x25 x27).f2) ((rd_T38 x25 x27).f3)) else (culetlaw13_LexerLongest.j1 k x0 (wrap64 (((rd_T38 x25 x27).f3) + (((rd_T38 x25 x27).f1).size : Int))) x25 x26 x27 (decide ((wrap64 (((rd_T38 x25 x27).f3) + (((rd_T38 x25 x27).f1).size : Int))) < 0)) ((rd_T38 x25 x27).f0) ((rd_T38 x25 x27).f1) ((rd_T38 x25 x27).f2) ((rd_T38 x25 x27).f3))) else (if ((rd_T38 x25 x27).f0) = 3 then (if (wrap64 (((rd_T38 x25 x27).f3) + (((rd_T38 x25 x27).f1).size : Int))) ≥ (x0.size : Int) then (culetlaw13_LexerLongest.j1 k x0 (wrap64 (((rd_T38 x25 x27).f3) + (((rd_T38 x25 x27).f1).size : Int))) x25 x26 x27 true ((rd_T38 x25 x27).f0) ((rd_T38 x25 x27).f1) ((rd_T38 x25 x27).f2) ((rd_T38 x25 x27).f3)) else (culetlaw13_LexerLongest.j1 k x0 (wrap64 (((rd_T38 x25 x27).f3) + (((rd_T38 x25 x27).f1).size : Int))) x25 x26 x27 (decide ((wrap64 (((rd_T38 x25 x27).f3) + (((rd_T38 x25 x27).f1).size : Int))) < 0)) ((rd_T38 x25 x27).f0) ((rd_T38 x25 x27).f1) ((rd_T38 x25 x27).f2) ((rd_T38 x25 x27).f3))) else (culetlaw13_LexerLongest.j1 k x0 (wrap64 (((rd_T38 x25 x27).f3) + (((rd_T38 x25 x27).f1).size : Int))) x25 x26 x27 true ((rd_T38 x25 x27).f0) ((rd_T38 x25 x27).f1) ((rd_T38 x25 x27).f2) ((rd_T38 x25 x27).f3))))) else (none)) else (none)) else (some true)
def culetlaw13_LexerLongest.j1 : Nat → ByteArray → Int → List (S38) → Int → Int → Bool → Int → ByteArray → Int → Int → Option (Bool)
  | 0, _, _, _, _, _, _, _, _, _, _ => none
  | k + 1, x0, x8, x25, x26, x27, x59, x238000, x238001, x238002, x238003 => if x59 = true then (culetlaw13_LexerLongest.l0 k x0 x25 x26 (wrap64 (x27 + 1))) else (if 0 ≤ x8 then (if x8 < (x0.size : Int) then (if (bt x0 x8) ≥ 48 then (if (bt x0 x8) ≥ 97 then (if (bt x0 x8) ≤ 122 then (if (bt x0 x8) ≤ 57 then (some false) else (if x238000 = 3 then (culetlaw13_LexerLongest.l0 k x0 x25 x26 (wrap64 (x27 + 1))) else (some false))) else (if (bt x0 x8) ≥ 65 then (if (bt x0 x8) ≤ 90 then (if (bt x0 x8) ≤ 57 then (some false) else (if x238000 = 3 then (culetlaw13_LexerLongest.l0 k x0 x25 x26 (wrap64 (x27 + 1))) else (some false))) else (if (bt x0 x8) = 45 then (if (bt x0 x8) ≤ 57 then (some false) else (if x238000 = 3 then (culetlaw13_LexerLongest.l0 k x0 x25 x26 (wrap64 (x27 + 1))) else (some false))) else (if (bt x0 x8) ≤ 57 then (some false) else (if (bt x0 x8) = 95 then (if x238000 = 3 then (culetlaw13_LexerLongest.l0 k x0 x25 x26 (wrap64 (x27 + 1))) else (some false)) else (culetlaw13_LexerLongest.l0 k x0 x25 x26 (wrap64 (x27 + 1))))))) else (if (bt x0 x8) = 45 then (if (bt x0 x8) ≤ 57 then (some false) else (if x238000 = 3 then (culetlaw13_LexerLongest.l0 k x0 x25 x26 (wrap64 (x27 + 1))) else (some false))) else (if (bt x0 x8) ≤ 57 then (some false) else (if (bt x0 x8) = 95 then (if x238000 = 3 then (culetlaw13_LexerLongest.l0 k x0 x25 x26 (wrap64 (x27 + 1))) else (some false)) else (culetlaw13_LexerLongest.l0 k x0 x25 x26 (wrap64 (x27 + 1)))))))) else (if (bt x0 x8) ≥ 65 then (if (bt x0 x8) ≤ 90 then (if (bt x0 x8) ≤ 57 then (some false) else (if x238000 = 3 then (culetlaw13_LexerLongest.l0 k x0 x25 x26 (wrap64 (x27 + 1))) else (some false))) else (if (bt x0 x8) = 45 then (if (bt x0 x8) ≤ 57 then (some false) else (if x238000 = 3 then (culetlaw13_LexerLongest.l0 k x0 x25 x26 (wrap64 (x27 + 1))) else (some false))) else (if (bt x0 x8) ≤ 57 then (some false) else (if (bt x0 x8) = 95 then (if x238000 = 3 then (culetlaw13_LexerLongest.l0 k x0 x25 x26 (wrap64 (x27 + 1))) else (some false)) else (culetlaw13_LexerLongest.l0 k x0 x25 x26 (wrap64 (x27 + 1))))))) else (if (bt x0 x8) = 45 then (if (bt x0 x8) ≤ 57 then (some false) else (if x238000 = 3 then (culetlaw13_LexerLongest.l0 k x0 x25 x26 (wrap64 (x27 + 1))) else (some false))) else (if (bt x0 x8) ≤ 57 then (some false) else (if (bt x0 x8) = 95 then (if x238000 = 3 then (culetlaw13_LexerLongest.l0 k x0 x25 x26 (wrap64 (x27 + 1))) else (some false)) else (culetlaw13_LexerLongest.l0 k x0 x25 x26 (wrap64 (x27 + 1)))))))) else (if (bt x0 x8) ≥ 97 then (if (bt x0 x8) ≤ 122 then (if x238000 = 3 then (culetlaw13_LexerLongest.l0 k x0 x25 x26 (wrap64 (x27 + 1))) else (some false)) else (if (bt x0 x8) ≥ 65 then (if (bt x0 x8) ≤ 90 then (if x238000 = 3 then (culetlaw13_LexerLongest.l0 k x0 x25 x26 (wrap64 (x27 + 1))) else (some false)) else (if (bt x0 x8) = 45 then (if x238000 = 3 then (culetlaw13_LexerLongest.l0 k x0 x25 x26 (wrap64 (x27 + 1))) else (some false)) else (if (bt x0 x8) = 95 then (if x238000 = 3 then (culetlaw13_LexerLongest.l0 k x0 x25 x26 (wrap64 (x27 + 1))) else (some false)) else (culetlaw13_LexerLongest.l0 k x0 x25 x26 (wrap64 (x27 + 1)))))) else (if (bt x0 x8) = 45 then (if x238000 = 3 then (culetlaw13_LexerLongest.l0 k x0 x25 x26 (wrap64 (x27 + 1))) else (some false)) else (if (bt x0 x8) = 95 then (if x238000 = 3 then (culetlaw13_LexerLongest.l0 k x0 x25 x26 (wrap64 (x27 + 1))) else (some false)) else (culetlaw13_LexerLongest.l0 k x0 x25 x26 (wrap64 (x27 + 1))))))) else (if (bt x0 x8) ≥ 65 then (if (bt x0 x8) ≤ 90 then (if x238000 = 3 then (culetlaw13_LexerLongest.l0 k x0 x25 x26 (wrap64 (x27 + 1))) else (some false)) else (if (bt x0 x8) = 45 then (if x238000 = 3 then (culetlaw13_LexerLongest.l0 k x0 x25 x26 (wrap64 (x27 + 1))) else (some false)) else (if (bt x0 x8) = 95 then (if x238000 = 3 then (culetlaw13_LexerLongest.l0 k x0 x25 x26 (wrap64 (x27 + 1))) else (some false)) else (culetlaw13_LexerLongest.l0 k x0 x25 x26 (wrap64 (x27 + 1)))))) else (if (bt x0 x8) = 45 then (if x238000 = 3 then (culetlaw13_LexerLongest.l0 k x0 x25 x26 (wrap64 (x27 + 1))) else (some false)) else (if (bt x0 x8) = 95 then (if x238000 = 3 then (culetlaw13_LexerLongest.l0 k x0 x25 x26 (wrap64 (x27 + 1))) else (some false)) else (culetlaw13_LexerLongest.l0 k x0 x25 x26 (wrap64 (x27 + 1)))))))) else (none)) else (none))
end
def culetlaw13_LexerLongest.f (k : Nat) (a0 : ByteArray) : Option (Bool) := (culetlaw13_awake.f k).bind fun t230 => (if t230 = true then (if (a0.size : Int) > 400 then (some true) else ((lexer_Lex.f k a0).bind fun bt231 => (if bt231.2.2 = 0 then (culetlaw13_LexerLongest.l0 k a0 bt231.1 (bt231.1.length : Int) 0) else (some true)))) else (some false))
theorem culetlaw13_LexerLongest.mono_l : ∀ k, (∀ y0 y1 y2 y3, LeO (culetlaw13_LexerLongest.l0 k y0 y1 y2 y3) (culetlaw13_LexerLongest.l0 (k + 1) y0 y1 y2 y3)) ∧ (∀ y0 y1 y2 y3 y4 y5 y6 y7 y8 y9, LeO (culetlaw13_LexerLongest.j1 k y0 y1 y2 y3 y4 y5 y6 y7 y8 y9) (culetlaw13_LexerLongest.j1 (k + 1) y0 y1 y2 y3 y4 y5 y6 y7 y8 y9))
  | 0 => ⟨fun _ _ _ _ r h => by simp [culetlaw13_LexerLongest.l0] at h, fun _ _ _ _ _ _ _ _ _ _ r h => by simp [culetlaw13_LexerLongest.j1] at h⟩
  | k + 1 => by
    obtain ⟨ih0, ih1⟩ := culetlaw13_LexerLongest.mono_l k
    refine ⟨?_, ?_⟩
    · intro y0 y1 y2 y3
      unfold culetlaw13_LexerLongest.l0
      repeat' first
      | (with_reducible exact ih0 _ _ _ _)
      | (with_reducible exact ih1 _ _ _ _ _ _ _ _ _ _)
      | (with_reducible exact culetlaw13_awake.mono _)
      | (with_reducible exact lexer_Lex.mono _ _)
      | (with_reducible exact LeO.refl _)
      | (with_reducible exact LeO.none _)
      | (with_reducible refine LeO.ite ?_ ?_)
      | (with_reducible refine LeO.bind ?_ (fun _ => ?_))
      | exact ih0 _ _ _ _
      | exact ih1 _ _ _ _ _ _ _ _ _ _
      | exact culetlaw13_awake.mono _
      | exact lexer_Lex.mono _ _
      | exact LeO.none _
      | refine LeO.ite ?_ ?_
      | refine LeO.bind ?_ (fun _ => ?_)
    · intro y0 y1 y2 y3 y4 y5 y6 y7 y8 y9
      unfold culetlaw13_LexerLongest.j1
      repeat' first
      | (with_reducible exact ih0 _ _ _ _)
      | (with_reducible exact ih1 _ _ _ _ _ _ _ _ _ _)
      | (with_reducible exact culetlaw13_awake.mono _)
      | (with_reducible exact lexer_Lex.mono _ _)
      | (with_reducible exact LeO.refl _)
      | (with_reducible exact LeO.none _)
      | (with_reducible refine LeO.ite ?_ ?_)
      | (with_reducible refine LeO.bind ?_ (fun _ => ?_))
      | exact ih0 _ _ _ _
      | exact ih1 _ _ _ _ _ _ _ _ _ _
      | exact culetlaw13_awake.mono _
      | exact lexer_Lex.mono _ _
      | exact LeO.none _
      | refine LeO.ite ?_ ?_
      | refine LeO.bind ?_ (fun _ => ?_)
theorem culetlaw13_LexerLongest.mono : ∀ a0 k, LeO (culetlaw13_LexerLongest.f k a0) (culetlaw13_LexerLongest.f (k + 1) a0) := by
  intro a0 k
  obtain ⟨ih0, ih1⟩ := culetlaw13_LexerLongest.mono_l k
  unfold culetlaw13_LexerLongest.f
  repeat' first
      | (with_reducible exact ih0 _ _ _ _)
      | (with_reducible exact ih1 _ _ _ _ _ _ _ _ _ _)
      | (with_reducible exact culetlaw13_awake.mono _)
      | (with_reducible exact lexer_Lex.mono _ _)
      | (with_reducible exact LeO.refl _)
      | (with_reducible exact LeO.none _)
      | (with_reducible refine LeO.ite ?_ ?_)
      | (with_reducible refine LeO.bind ?_ (fun _ => ?_))
      | exact ih0 _ _ _ _
      | exact ih1 _ _ _ _ _ _ _ _ _ _
      | exact culetlaw13_awake.mono _
      | exact lexer_Lex.mono _ _
      | exact LeO.none _
      | refine LeO.ite ?_ ?_
      | refine LeO.bind ?_ (fun _ => ?_)
set_option maxHeartbeats 8000000 in
set_option maxRecDepth 100000 in
theorem culetlaw13_LexerLongest.calls (k : Nat) (a0 : ByteArray) (r : Bool) (w : World) (h : culetlaw13_LexerLongest.f k a0 = some r) :
    Calls Tryd.prog 7 #[.string a0] w fun e w' => e = .returned (.bool r) ∧ Below w.heap.size w w' := by
  have hu38 := Tryd.underlying38
  have HB := Aside0.mk (Below.refl w.heap.size w)
  have H : ((culetlaw13_awake.f k).bind fun t230 => (if t230 = true then (if (a0.size : Int) > 400 then (some true) else ((lexer_Lex.f k a0).bind fun bt231 => (if bt231.2.2 = 0 then (culetlaw13_LexerLongest.l0 k a0 bt231.1 (bt231.1.length : Int) 0) else (some true)))) else (some false))) = some r := h
  clear h
  replace H := Option.bind_eq_some_iff.mp H
  obtain ⟨t230, A20, H⟩ := H
  replace H : (if t230 = true then (if (a0.size : Int) > 400 then (some true) else ((lexer_Lex.f k a0).bind fun bt231 => (if bt231.2.2 = 0 then (culetlaw13_LexerLongest.l0 k a0 bt231.1 (bt231.1.length : Int) 0) else (some true)))) else (some false)) = some r := H
  have A2 := Aside0.mk A20
  clear A20
  by_cases c3 : t230 = true
  · subst c3
    have H1 : (if (a0.size : Int) > 400 then (some true) else ((lexer_Lex.f k a0).bind fun bt231 => (if bt231.2.2 = 0 then (culetlaw13_LexerLongest.l0 k a0 bt231.1 (bt231.1.length : Int) 0) else (some true)))) = some r := by rw [if_pos rfl] at H; exact H
    clear H
    have H := H1
    clear H1
    by_cases c4 : (a0.size : Int) > 400
    · rw [if_pos c4] at H
      have c4b0 : decide (400 < (a0.size : Int)) = true := decide_eq_true c4
      have c4b1 : decide (400 < a0.size) = true := decide_eq_true (by omega)
      clear c4
      obtain rfl := Option.some.inj H
      go_enter Tryd.func7, Tryd.ntmps7
      go_wp2_with (first | ((with_reducible refine gate_callee (f := 10) rfl ?_); refine goesL_ (some 12) rfl rfl Tryd.func10 (by kernel_rfl) rfl #[] rfl (by (try simp only [List.map_toArray, List.map_cons, List.map_nil]); first | done | rfl | (simp only [List.length_drop, List.length_take]; rfl)) ?_; (with_reducible refine (culetlaw13_awake.calls k  true _ A2.out).mono ?_); rintro e w5 ⟨rfl, hb⟩; refine ⟨_, rfl, ?_⟩; have n0_ := Aside0.mk (below_step (by repeat (first | (with_reducible first | exact HB.out | apply below_alloc | apply pw_below_drewN | apply below_drew1) | exact HB.out)) hb); clear HB; have HB := n0_; clear n0_; (try clear hb); (try clear hb2); (try clear hk); (try clear hi)))
      go_ret
      exact ⟨by first | rfl | (simp [errW_none, errW_some] <;> rfl) | (simp [*, errW_none, errW_some] <;> rfl), by repeat (first | (with_reducible first | exact HB.out | apply below_alloc | apply pw_below_drewN | apply below_drew1) | exact HB.out)⟩
    · rw [if_neg c4] at H
      have c4b0 : decide (400 < (a0.size : Int)) = false := decide_eq_false c4
      have c4b1 : decide (400 < a0.size) = false := decide_eq_false (by omega)
      clear c4
      replace H := Option.bind_eq_some_iff.mp H
      obtain ⟨⟨t231, t232, t233⟩, A60, H⟩ := H
      replace H : (if t233 = 0 then (culetlaw13_LexerLongest.l0 k a0 t231 (t231.length : Int) 0) else (some true)) = some r := H
      have A6 := Aside0.mk A60
      clear A60
      by_cases c7 : t233 = 0
      · rw [if_pos c7] at H
        have c7b0 : (t233 == 0) = true := beq_iff_eq.mpr c7
        have c7b1 : (t233 != 0) = false := bne_eq_false_iff_eq.mpr c7
        clear c7
        have H' := Aside0.mk H
        clear H
        go_enter Tryd.func7, Tryd.ntmps7
        go_wp2_with (first | ((with_reducible refine gate_callee (f := 10) rfl ?_); refine goesL_ (some 12) rfl rfl Tryd.func10 (by kernel_rfl) rfl #[] rfl (by (try simp only [List.map_toArray, List.map_cons, List.map_nil]); first | done | rfl | (simp only [List.length_drop, List.length_take]; rfl)) ?_; (with_reducible refine (culetlaw13_awake.calls k  true _ A2.out).mono ?_); rintro e w8 ⟨rfl, hb⟩; refine ⟨_, rfl, ?_⟩; have n0_ := Aside0.mk (below_step (by repeat (first | (with_reducible first | exact HB.out | apply below_alloc | apply pw_below_drewN | apply below_drew1) | exact HB.out)) hb); clear HB; have HB := n0_; clear n0_; (try clear hb); (try clear hb2); (try clear hk); (try clear hi)) | ((with_reducible refine gate_callee (f := 11) rfl ?_); refine goesL_ (some 19) rfl rfl Tryd.func11 (by kernel_rfl) rfl #[.string a0] rfl (by (try simp only [List.map_toArray, List.map_cons, List.map_nil]); first | done | rfl | (simp only [List.length_drop, List.length_take]; rfl)) ?_; (with_reducible refine (lexer_Lex.calls k a0 t231 t232 t233 _ A6.out).mono ?_); rintro e w9 ⟨v234, rfl, ho0, hb⟩; refine ⟨_, rfl, ?_⟩; have n0_ := Aside0.mk (Kd.R_lower ho0 (below_size (by repeat (first | (with_reducible first | exact HB.out | apply below_alloc | apply pw_below_drewN | apply below_drew1) | exact HB.out)))); have n1_ := Aside0.mk (below_step (by repeat (first | (with_reducible first | exact HB.out | apply below_alloc | apply pw_below_drewN | apply below_drew1) | exact HB.out)) hb); clear HB; have HO235 := n0_; have HB := n1_; clear n0_ n1_; (try clear hb); (try clear hb2); (try clear hk); (try clear hi); (try clear ho0); obtain ⟨Ao10, co10, eo10⟩ := Kd.R_slice HO235.out; subst eo10))
        go_loopg [27] k (fun kq v27 w' => ∃ (x27_1 : Int), v27 = .int .i64 x27_1 ∧ Aside0 (culetlaw13_LexerLongest.l0 kq a0 t231 (t231.length : Int) x27_1 = some r) ∧ Aside0 (kq ≤ k) ∧ Aside0 (Kd.R k38 38 w' w.heap.size (fun _ => True) (.slice Ao10 t231.length co10) t231) ∧ Aside0 (Below w.heap.size w w'))
        case atStart => exact ⟨(0), (by first | rfl | (simp; done) | (simp [*]; done)), H', ⟨Nat.le_refl _⟩, ⟨by (with_reducible repeat (first | apply Kd.R_alloc | apply Kd.R_drewN | apply Kd.R_drew)); exact HO235.out⟩, ⟨by repeat (first | (with_reducible first | exact HB.out | apply below_alloc | apply pw_below_drewN | apply below_drew1) | exact HB.out)⟩⟩
        case round =>
          clear H'
          try clear c1
          try clear p2
          try clear c3
          try clear c4
          try clear c4b0
          try clear c4b1
          try clear c7
          try clear c7b0
          try clear c7b1
          try clear c10
          obtain ⟨x27_1, rfl, HA, HK1, HO_25, HB⟩ := hrel
          cases gk with
          | zero => exact absurd HA.out (by simp [culetlaw13_LexerLongest.l0])
          | succ k1 =>
            have H := HA.out
            clear HA
            simp only [culetlaw13_LexerLongest.l0] at H
            by_cases c11 : x27_1 < (t231.length : Int)
            · rw [if_pos c11] at H
              have c11b0 : decide (x27_1 < (t231.length : Int)) = true := decide_eq_true c11
              clear c11
              by_cases c12 : 0 ≤ x27_1
              · rw [if_pos c12] at H
                have c12b0 : decide (0 ≤ x27_1) = true := decide_eq_true c12
                clear c12
                by_cases c13 : x27_1 < (t231.length : Int)
                · rw [if_pos c13] at H
                  have c13b0 : decide (x27_1 < (t231.length : Int)) = true := decide_eq_true c13
                  clear c13
                  have HC14 := Aside0.mk H
                  clear H
                  have p236 : 0 ≤ (x27_1 : Int) := of_decide_eq_true (by first | (with_reducible assumption) | assumption)
                  have q236 : x27_1 < (t231.length : Int) := of_decide_eq_true (by first | (with_reducible assumption) | assumption)
                  obtain ⟨ad236, e236, hx236_0, hx236_1, hx236_2, hx236_3⟩ := at_T38 (Kd.R_reads' HO_25.out).2.2 x27_1 p236 q236
                  cases e236
                  replace p236 := eq_true p236
                  replace q236 := eq_true q236
                  go_upto_region 12 with (first | ((with_reducible refine gate_dst (N := 7) rfl ?_); (try (refine gate_guard (by rfl) ?_; dsimp only)); refine box_event ?hg (N := 7) ?hd (cs := #[.int .i64 0, .string (⟨#[]⟩ : ByteArray), .int .i64 0, .int .i64 0]) (t := 38) ?hr ?_; (case hd => rfl); (case hg => rfl); (case hr => first | (go_simp; done) | (go_simp; rfl)); intro gb237 hg w15 hbox hb; have n0_ := Aside0.mk (Kd.R_below (Kd.R_elderB (by (with_reducible repeat (first | apply Kd.R_alloc | apply Kd.R_drewN | apply Kd.R_drew)); exact HO_25.out) gb237 (Nat.le_of_eq hg.symm)) hb); have n1_ := Aside0.mk (below_step (by repeat (first | (with_reducible first | exact HB.out | apply below_alloc | apply pw_below_drewN | apply below_drew1) | exact HB.out)) hb); have n2_ := Aside0.mk (hbox); have n3_ := Aside0.mk ((by rw [hg]; exact (below_size (by repeat (first | (with_reducible first | exact HB.out | apply below_alloc | apply pw_below_drewN | apply below_drew1) | exact HB.out))) : w.heap.size ≤ gb237)); have n4_ := Aside0.mk ((by rw [hg]; exact (below_size (by repeat (first | (with_reducible first | exact HB.out | apply below_alloc | apply pw_below_drewN | apply below_drew1) | exact HB.out))) : w.heap.size ≤ gb237)); clear HO_25; clear HB; have HO_25 := n0_; have HB := n1_; have BK237 := n2_; have GW237 := n3_; have GE237 := n4_; clear n0_ n1_ n2_ n3_ n4_; clear hb hbox hg; have hcz16_0 : w15.cell? ⟨gb237, 0, none⟩ = some (.int .i64 0) := (blk_cell BK237.out 0).trans rfl; have hcz16_1 : w15.cell? ⟨gb237, 1, none⟩ = some (.string (⟨#[]⟩ : ByteArray)) := (blk_cell BK237.out 1).trans rfl; have hcz16_2 : w15.cell? ⟨gb237, 2, none⟩ = some (.int .i64 0) := (blk_cell BK237.out 2).trans rfl; have hcz16_3 : w15.cell? ⟨gb237, 3, none⟩ = some (.int .i64 0) := (blk_cell BK237.out 3).trans rfl; have hfz16_0 := blk_frozen BK237.out 0; have hfz16_1 := blk_frozen BK237.out 1; have hfz16_2 := blk_frozen BK237.out 2; have hfz16_3 := blk_frozen BK237.out 3))
                  (try simp only [Act.put, List.setIfInBounds_toArray, List.set_cons_zero, List.set_cons_succ])
                  go_cut [59] (fun v59 wc => ∃ (kq : Nat) (x59_13 : Bool), v59 = .bool x59_13 ∧ Aside0 (culetlaw13_LexerLongest.j1 kq a0 (wrap64 (((rd_T38 t231 x27_1).f3) + (((rd_T38 t231 x27_1).f1).size : Int))) t231 (t231.length : Int) x27_1 x59_13 ((rd_T38 t231 x27_1).f0) ((rd_T38 t231 x27_1).f1) ((rd_T38 t231 x27_1).f2) ((rd_T38 t231 x27_1).f3) = some r) ∧ Aside0 (kq ≤ k1) ∧ Aside0 (Kd.R k38 38 wc w.heap.size (fun k_ => k_ ≠ gb237) (.slice (some ad236) t231.length co10) t231) ∧ Aside0 (wc.heap[gb237]? = some (.cells #[.int .i64 ((rd_T38 t231 x27_1).f0), .string ((rd_T38 t231 x27_1).f1), .int .i64 ((rd_T38 t231 x27_1).f2), .int .i64 ((rd_T38 t231 x27_1).f3)] 38 (0, 0))) ∧ Aside0 (Below w.heap.size w wc))
                  case first =>
                    have H := HC14.out
                    clear HC14
                    by_cases c17 : ((rd_T38 t231 x27_1).f0) = 1
                    · rw [if_pos c17] at H
                      have c17b0 : (((rd_T38 t231 x27_1).f0) == 1) = true := beq_iff_eq.mpr c17
                      have c17b1 : (((rd_T38 t231 x27_1).f0) != 1) = false := bne_eq_false_iff_eq.mpr c17
                      clear c17
                      (first | rw [c17b0] | (simp only [i64_w, i32_w]; rw [c17b0]) | skip)
                      by_cases c18 : (wrap64 (((rd_T38 t231 x27_1).f3) + (((rd_T38 t231 x27_1).f1).size : Int))) ≥ (a0.size : Int)
                      · rw [if_pos c18] at H
                        have c18b0 : decide ((a0.size : Int) ≤ (wrap64 (((rd_T38 t231 x27_1).f3) + (((rd_T38 t231 x27_1).f1).size : Int)))) = true := decide_eq_true c18
                        clear c18
                        have H' := Aside0.mk H
                        clear H
                        have hcz19_0 : w15.cell? ⟨gb237, 0, none⟩ = some (.int .i64 0) := (blk_cell BK237.out 0).trans rfl
                        have hcz19_1 : w15.cell? ⟨gb237, 1, none⟩ = some (.string (⟨#[]⟩ : ByteArray)) := (blk_cell BK237.out 1).trans rfl
                        have hcz19_2 : w15.cell? ⟨gb237, 2, none⟩ = some (.int .i64 0) := (blk_cell BK237.out 2).trans rfl
                        have hcz19_3 : w15.cell? ⟨gb237, 3, none⟩ = some (.int .i64 0) := (blk_cell BK237.out 3).trans rfl
                        have hfz19_0 := blk_frozen BK237.out 0
                        have hfz19_1 := blk_frozen BK237.out 1
                        have hfz19_2 := blk_frozen BK237.out 2
                        have hfz19_3 := blk_frozen BK237.out 3
                        go_wp2
                        go_meet
                        case rel => exact ⟨_, (true), (by first | rfl | (simp; done) | (simp [*]; done)), H', ⟨by have := HK1.out; first | omega | exact Nat.le_refl _⟩, ⟨by (with_reducible repeat (first | apply Kd.R_alloc | apply Kd.R_drewN | apply Kd.R_drew)); exact Kd.R_mono (Kd.R_far (p := ⟨gb237, 3, none⟩) (Kd.R_far (p := ⟨gb237, 2, none⟩) (Kd.R_far (p := ⟨gb237, 1, none⟩) (Kd.R_far (p := ⟨gb237, 0, none⟩) (Kd.R_mono HO_25.out (fun k_ hk => (⟨hk, hk.2⟩ : _ ∧ k_ ≠ gb237))) (fun _ hk => hk.2) (.int .i64 ((rd_T38 t231 x27_1).f0))) (fun _ hk => hk.2) (.string ((rd_T38 t231 x27_1).f1))) (fun _ hk => hk.2) (.int .i64 ((rd_T38 t231 x27_1).f2))) (fun _ hk => hk.2) (.int .i64 ((rd_T38 t231 x27_1).f3))) (fun _ hk => hk.1.2)⟩, ⟨by (with_reducible repeat (first | refine blk_drewN ?_ _ | refine blk_drew ?_ | refine blk_alloc ?_ _)); refine blk_put (cs := #[.int .i64 ((rd_T38 t231 x27_1).f0), .string ((rd_T38 t231 x27_1).f1), .int .i64 ((rd_T38 t231 x27_1).f2), .int .i64 0]) ?_ 3 _ rfl; (with_reducible repeat (first | refine blk_drewN ?_ _ | refine blk_drew ?_ | refine blk_alloc ?_ _)); refine blk_put (cs := #[.int .i64 ((rd_T38 t231 x27_1).f0), .string ((rd_T38 t231 x27_1).f1), .int .i64 0, .int .i64 0]) ?_ 2 _ rfl; (with_reducible repeat (first | refine blk_drewN ?_ _ | refine blk_drew ?_ | refine blk_alloc ?_ _)); refine blk_put (cs := #[.int .i64 ((rd_T38 t231 x27_1).f0), .string (⟨#[]⟩ : ByteArray), .int .i64 0, .int .i64 0]) ?_ 1 _ rfl; (with_reducible repeat (first | refine blk_drewN ?_ _ | refine blk_drew ?_ | refine blk_alloc ?_ _)); refine blk_put (cs := #[.int .i64 0, .string (⟨#[]⟩ : ByteArray), .int .i64 0, .int .i64 0]) ?_ 0 _ rfl; (with_reducible repeat (first | refine blk_drewN ?_ _ | refine blk_drew ?_ | refine blk_alloc ?_ _)); exact BK237.out⟩, ⟨by repeat (first | (with_reducible first | exact HB.out | apply below_alloc | apply pw_below_drewN | apply below_drew1 | refine below_set ?_ GE237.out) | exact HB.out)⟩⟩
                      · rw [if_neg c18] at H
                        have c18b0 : decide ((a0.size : Int) ≤ (wrap64 (((rd_T38 t231 x27_1).f3) + (((rd_T38 t231 x27_1).f1).size : Int)))) = false := decide_eq_false c18
                        clear c18
                        have H' := Aside0.mk H
                        clear H
                        have hcz20_0 : w15.cell? ⟨gb237, 0, none⟩ = some (.int .i64 0) := (blk_cell BK237.out 0).trans rfl
                        have hcz20_1 : w15.cell? ⟨gb237, 1, none⟩ = some (.string (⟨#[]⟩ : ByteArray)) := (blk_cell BK237.out 1).trans rfl
                        have hcz20_2 : w15.cell? ⟨gb237, 2, none⟩ = some (.int .i64 0) := (blk_cell BK237.out 2).trans rfl
                        have hcz20_3 : w15.cell? ⟨gb237, 3, none⟩ = some (.int .i64 0) := (blk_cell BK237.out 3).trans rfl
                        have hfz20_0 := blk_frozen BK237.out 0
                        have hfz20_1 := blk_frozen BK237.out 1
                        have hfz20_2 := blk_frozen BK237.out 2
                        have hfz20_3 := blk_frozen BK237.out 3
                        go_wp2
                        go_meet
                        case rel => exact ⟨_, (decide ((wrap64 (((rd_T38 t231 x27_1).f3) + (((rd_T38 t231 x27_1).f1).size : Int))) < 0)), (by first | rfl | (simp; done) | (simp [*]; done)), H', ⟨by have := HK1.out; first | omega | exact Nat.le_refl _⟩, ⟨by (with_reducible repeat (first | apply Kd.R_alloc | apply Kd.R_drewN | apply Kd.R_drew)); exact Kd.R_mono (Kd.R_far (p := ⟨gb237, 3, none⟩) (Kd.R_far (p := ⟨gb237, 2, none⟩) (Kd.R_far (p := ⟨gb237, 1, none⟩) (Kd.R_far (p := ⟨gb237, 0, none⟩) (Kd.R_mono HO_25.out (fun k_ hk => (⟨hk, hk.2⟩ : _ ∧ k_ ≠ gb237))) (fun _ hk => hk.2) (.int .i64 ((rd_T38 t231 x27_1).f0))) (fun _ hk => hk.2) (.string ((rd_T38 t231 x27_1).f1))) (fun _ hk => hk.2) (.int .i64 ((rd_T38 t231 x27_1).f2))) (fun _ hk => hk.2) (.int .i64 ((rd_T38 t231 x27_1).f3))) (fun _ hk => hk.1.2)⟩, ⟨by (with_reducible repeat (first | refine blk_drewN ?_ _ | refine blk_drew ?_ | refine blk_alloc ?_ _)); refine blk_put (cs := #[.int .i64 ((rd_T38 t231 x27_1).f0), .string ((rd_T38 t231 x27_1).f1), .int .i64 ((rd_T38 t231 x27_1).f2), .int .i64 0]) ?_ 3 _ rfl; (with_reducible repeat (first | refine blk_drewN ?_ _ | refine blk_drew ?_ | refine blk_alloc ?_ _)); refine blk_put (cs := #[.int .i64 ((rd_T38 t231 x27_1).f0), .string ((rd_T38 t231 x27_1).f1), .int .i64 0, .int .i64 0]) ?_ 2 _ rfl; (with_reducible repeat (first | refine blk_drewN ?_ _ | refine blk_drew ?_ | refine blk_alloc ?_ _)); refine blk_put (cs := #[.int .i64 ((rd_T38 t231 x27_1).f0), .string (⟨#[]⟩ : ByteArray), .int .i64 0, .int .i64 0]) ?_ 1 _ rfl; (with_reducible repeat (first | refine blk_drewN ?_ _ | refine blk_drew ?_ | refine blk_alloc ?_ _)); refine blk_put (cs := #[.int .i64 0, .string (⟨#[]⟩ : ByteArray), .int .i64 0, .int .i64 0]) ?_ 0 _ rfl; (with_reducible repeat (first | refine blk_drewN ?_ _ | refine blk_drew ?_ | refine blk_alloc ?_ _)); exact BK237.out⟩, ⟨by repeat (first | (with_reducible first | exact HB.out | apply below_alloc | apply pw_below_drewN | apply below_drew1 | refine below_set ?_ GE237.out) | exact HB.out)⟩⟩
                    · rw [if_neg c17] at H
                      have c17b0 : (((rd_T38 t231 x27_1).f0) == 1) = false := beq_eq_false_iff_ne.mpr c17
                      have c17b1 : (((rd_T38 t231 x27_1).f0) != 1) = true := bne_iff_ne.mpr c17
                      (first | rw [c17b0] | (simp only [i64_w, i32_w]; rw [c17b0]) | skip)
                      by_cases c21 : ((rd_T38 t231 x27_1).f0) = 2
                      · rw [if_pos c21] at H
                        have c21b0 : (((rd_T38 t231 x27_1).f0) == 2) = true := beq_iff_eq.mpr c21
                        have c21b1 : (((rd_T38 t231 x27_1).f0) != 2) = false := bne_eq_false_iff_eq.mpr c21
                        clear c21
                        by_cases c22 : (wrap64 (((rd_T38 t231 x27_1).f3) + (((rd_T38 t231 x27_1).f1).size : Int))) ≥ (a0.size : Int)
                        · rw [if_pos c22] at H
                          have c22b0 : decide ((a0.size : Int) ≤ (wrap64 (((rd_T38 t231 x27_1).f3) + (((rd_T38 t231 x27_1).f1).size : Int)))) = true := decide_eq_true c22
                          clear c22
                          have H' := Aside0.mk H
                          clear H
                          have hcz23_0 : w15.cell? ⟨gb237, 0, none⟩ = some (.int .i64 0) := (blk_cell BK237.out 0).trans rfl
                          have hcz23_1 : w15.cell? ⟨gb237, 1, none⟩ = some (.string (⟨#[]⟩ : ByteArray)) := (blk_cell BK237.out 1).trans rfl
                          have hcz23_2 : w15.cell? ⟨gb237, 2, none⟩ = some (.int .i64 0) := (blk_cell BK237.out 2).trans rfl
                          have hcz23_3 : w15.cell? ⟨gb237, 3, none⟩ = some (.int .i64 0) := (blk_cell BK237.out 3).trans rfl
                          have hfz23_0 := blk_frozen BK237.out 0
                          have hfz23_1 := blk_frozen BK237.out 1
                          have hfz23_2 := blk_frozen BK237.out 2
                          have hfz23_3 := blk_frozen BK237.out 3
                          go_wp2
                          go_meet
                          case rel => exact ⟨_, (true), (by first | rfl | (simp; done) | (simp [*]; done)), H', ⟨by have := HK1.out; first | omega | exact Nat.le_refl _⟩, ⟨by (with_reducible repeat (first | apply Kd.R_alloc | apply Kd.R_drewN | apply Kd.R_drew)); exact Kd.R_mono (Kd.R_far (p := ⟨gb237, 3, none⟩) (Kd.R_far (p := ⟨gb237, 2, none⟩) (Kd.R_far (p := ⟨gb237, 1, none⟩) (Kd.R_far (p := ⟨gb237, 0, none⟩) (Kd.R_mono HO_25.out (fun k_ hk => (⟨hk, hk.2⟩ : _ ∧ k_ ≠ gb237))) (fun _ hk => hk.2) (.int .i64 ((rd_T38 t231 x27_1).f0))) (fun _ hk => hk.2) (.string ((rd_T38 t231 x27_1).f1))) (fun _ hk => hk.2) (.int .i64 ((rd_T38 t231 x27_1).f2))) (fun _ hk => hk.2) (.int .i64 ((rd_T38 t231 x27_1).f3))) (fun _ hk => hk.1.2)⟩, ⟨by (with_reducible repeat (first | refine blk_drewN ?_ _ | refine blk_drew ?_ | refine blk_alloc ?_ _)); refine blk_put (cs := #[.int .i64 ((rd_T38 t231 x27_1).f0), .string ((rd_T38 t231 x27_1).f1), .int .i64 ((rd_T38 t231 x27_1).f2), .int .i64 0]) ?_ 3 _ rfl; (with_reducible repeat (first | refine blk_drewN ?_ _ | refine blk_drew ?_ | refine blk_alloc ?_ _)); refine blk_put (cs := #[.int .i64 ((rd_T38 t231 x27_1).f0), .string ((rd_T38 t231 x27_1).f1), .int .i64 0, .int .i64 0]) ?_ 2 _ rfl; (with_reducible repeat (first | refine blk_drewN ?_ _ | refine blk_drew ?_ | refine blk_alloc ?_ _)); refine blk_put (cs := #[.int .i64 ((rd_T38 t231 x27_1).f0), .string (⟨#[]⟩ : ByteArray), .int .i64 0, .int .i64 0]) ?_ 1 _ rfl; (with_reducible repeat (first | refine blk_drewN ?_ _ | refine blk_drew ?_ | refine blk_alloc ?_ _)); refine blk_put (cs := #[.int .i64 0, .string (⟨#[]⟩ : ByteArray), .int .i64 0, .int .i64 0]) ?_ 0 _ rfl; (with_reducible repeat (first | refine blk_drewN ?_ _ | refine blk_drew ?_ | refine blk_alloc ?_ _)); exact BK237.out⟩, ⟨by repeat (first | (with_reducible first | exact HB.out | apply below_alloc | apply pw_below_drewN | apply below_drew1 | refine below_set ?_ GE237.out) | exact HB.out)⟩⟩
                        · rw [if_neg c22] at H
                          have c22b0 : decide ((a0.size : Int) ≤ (wrap64 (((rd_T38 t231 x27_1).f3) + (((rd_T38 t231 x27_1).f1).size : Int)))) = false := decide_eq_false c22
                          clear c22
                          have H' := Aside0.mk H
                          clear H
                          have hcz24_0 : w15.cell? ⟨gb237, 0, none⟩ = some (.int .i64 0) := (blk_cell BK237.out 0).trans rfl
                          have hcz24_1 : w15.cell? ⟨gb237, 1, none⟩ = some (.string (⟨#[]⟩ : ByteArray)) := (blk_cell BK237.out 1).trans rfl
                          have hcz24_2 : w15.cell? ⟨gb237, 2, none⟩ = some (.int .i64 0) := (blk_cell BK237.out 2).trans rfl
                          have hcz24_3 : w15.cell? ⟨gb237, 3, none⟩ = some (.int .i64 0) := (blk_cell BK237.out 3).trans rfl
                          have hfz24_0 := blk_frozen BK237.out 0
                          have hfz24_1 := blk_frozen BK237.out 1
                          have hfz24_2 := blk_frozen BK237.out 2
                          have hfz24_3 := blk_frozen BK237.out 3
                          go_wp2
                          go_meet
                          case rel => exact ⟨_, (decide ((wrap64 (((rd_T38 t231 x27_1).f3) + (((rd_T38 t231 x27_1).f1).size : Int))) < 0)), (by first | rfl | (simp; done) | (simp [*]; done)), H', ⟨by have := HK1.out; first | omega | exact Nat.le_refl _⟩, ⟨by (with_reducible repeat (first | apply Kd.R_alloc | apply Kd.R_drewN | apply Kd.R_drew)); exact Kd.R_mono (Kd.R_far (p := ⟨gb237, 3, none⟩) (Kd.R_far (p := ⟨gb237, 2, none⟩) (Kd.R_far (p := ⟨gb237, 1, none⟩) (Kd.R_far (p := ⟨gb237, 0, none⟩) (Kd.R_mono HO_25.out (fun k_ hk => (⟨hk, hk.2⟩ : _ ∧ k_ ≠ gb237))) (fun _ hk => hk.2) (.int .i64 ((rd_T38 t231 x27_1).f0))) (fun _ hk => hk.2) (.string ((rd_T38 t231 x27_1).f1))) (fun _ hk => hk.2) (.int .i64 ((rd_T38 t231 x27_1).f2))) (fun _ hk => hk.2) (.int .i64 ((rd_T38 t231 x27_1).f3))) (fun _ hk => hk.1.2)⟩, ⟨by (with_reducible repeat (first | refine blk_drewN ?_ _ | refine blk_drew ?_ | refine blk_alloc ?_ _)); refine blk_put (cs := #[.int .i64 ((rd_T38 t231 x27_1).f0), .string ((rd_T38 t231 x27_1).f1), .int .i64 ((rd_T38 t231 x27_1).f2), .int .i64 0]) ?_ 3 _ rfl; (with_reducible repeat (first | refine blk_drewN ?_ _ | refine blk_drew ?_ | refine blk_alloc ?_ _)); refine blk_put (cs := #[.int .i64 ((rd_T38 t231 x27_1).f0), .string ((rd_T38 t231 x27_1).f1), .int .i64 0, .int .i64 0]) ?_ 2 _ rfl; (with_reducible repeat (first | refine blk_drewN ?_ _ | refine blk_drew ?_ | refine blk_alloc ?_ _)); refine blk_put (cs := #[.int .i64 ((rd_T38 t231 x27_1).f0), .string (⟨#[]⟩ : ByteArray), .int .i64 0, .int .i64 0]) ?_ 1 _ rfl; (with_reducible repeat (first | refine blk_drewN ?_ _ | refine blk_drew ?_ | refine blk_alloc ?_ _)); refine blk_put (cs := #[.int .i64 0, .string (⟨#[]⟩ : ByteArray), .int .i64 0, .int .i64 0]) ?_ 0 _ rfl; (with_reducible repeat (first | refine blk_drewN ?_ _ | refine blk_drew ?_ | refine blk_alloc ?_ _)); exact BK237.out⟩, ⟨by repeat (first | (with_reducible first | exact HB.out | apply below_alloc | apply pw_below_drewN | apply below_drew1 | refine below_set ?_ GE237.out) | exact HB.out)⟩⟩
                      · rw [if_neg c21] at H
                        have c21b0 : (((rd_T38 t231 x27_1).f0) == 2) = false := beq_eq_false_iff_ne.mpr c21
                        have c21b1 : (((rd_T38 t231 x27_1).f0) != 2) = true := bne_iff_ne.mpr c21
                        by_cases c25 : ((rd_T38 t231 x27_1).f0) = 3
                        · rw [if_pos c25] at H
                          have c25b0 : (((rd_T38 t231 x27_1).f0) == 3) = true := beq_iff_eq.mpr c25
                          have c25b1 : (((rd_T38 t231 x27_1).f0) != 3) = false := bne_eq_false_iff_eq.mpr c25
                          clear c25
                          by_cases c26 : (wrap64 (((rd_T38 t231 x27_1).f3) + (((rd_T38 t231 x27_1).f1).size : Int))) ≥ (a0.size : Int)
                          · rw [if_pos c26] at H
                            have c26b0 : decide ((a0.size : Int) ≤ (wrap64 (((rd_T38 t231 x27_1).f3) + (((rd_T38 t231 x27_1).f1).size : Int)))) = true := decide_eq_true c26
                            clear c26
                            have H' := Aside0.mk H
                            clear H
                            have hcz27_0 : w15.cell? ⟨gb237, 0, none⟩ = some (.int .i64 0) := (blk_cell BK237.out 0).trans rfl
                            have hcz27_1 : w15.cell? ⟨gb237, 1, none⟩ = some (.string (⟨#[]⟩ : ByteArray)) := (blk_cell BK237.out 1).trans rfl
                            have hcz27_2 : w15.cell? ⟨gb237, 2, none⟩ = some (.int .i64 0) := (blk_cell BK237.out 2).trans rfl
                            have hcz27_3 : w15.cell? ⟨gb237, 3, none⟩ = some (.int .i64 0) := (blk_cell BK237.out 3).trans rfl
                            have hfz27_0 := blk_frozen BK237.out 0
                            have hfz27_1 := blk_frozen BK237.out 1
                            have hfz27_2 := blk_frozen BK237.out 2
                            have hfz27_3 := blk_frozen BK237.out 3
                            go_wp2
                            go_meet
                            case rel => exact ⟨_, (true), (by first | rfl | (simp; done) | (simp [*]; done)), H', ⟨by have := HK1.out; first | omega | exact Nat.le_refl _⟩, ⟨by (with_reducible repeat (first | apply Kd.R_alloc | apply Kd.R_drewN | apply Kd.R_drew)); exact Kd.R_mono (Kd.R_far (p := ⟨gb237, 3, none⟩) (Kd.R_far (p := ⟨gb237, 2, none⟩) (Kd.R_far (p := ⟨gb237, 1, none⟩) (Kd.R_far (p := ⟨gb237, 0, none⟩) (Kd.R_mono HO_25.out (fun k_ hk => (⟨hk, hk.2⟩ : _ ∧ k_ ≠ gb237))) (fun _ hk => hk.2) (.int .i64 ((rd_T38 t231 x27_1).f0))) (fun _ hk => hk.2) (.string ((rd_T38 t231 x27_1).f1))) (fun _ hk => hk.2) (.int .i64 ((rd_T38 t231 x27_1).f2))) (fun _ hk => hk.2) (.int .i64 ((rd_T38 t231 x27_1).f3))) (fun _ hk => hk.1.2)⟩, ⟨by (with_reducible repeat (first | refine blk_drewN ?_ _ | refine blk_drew ?_ | refine blk_alloc ?_ _)); refine blk_put (cs := #[.int .i64 ((rd_T38 t231 x27_1).f0), .string ((rd_T38 t231 x27_1).f1), .int .i64 ((rd_T38 t231 x27_1).f2), .int .i64 0]) ?_ 3 _ rfl; (with_reducible repeat (first | refine blk_drewN ?_ _ | refine blk_drew ?_ | refine blk_alloc ?_ _)); refine blk_put (cs := #[.int .i64 ((rd_T38 t231 x27_1).f0), .string ((rd_T38 t231 x27_1).f1), .int .i64 0, .int .i64 0]) ?_ 2 _ rfl; (with_reducible repeat (first | refine blk_drewN ?_ _ | refine blk_drew ?_ | refine blk_alloc ?_ _)); refine blk_put (cs := #[.int .i64 ((rd_T38 t231 x27_1).f0), .string (⟨#[]⟩ : ByteArray), .int .i64 0, .int .i64 0]) ?_ 1 _ rfl; (with_reducible repeat (first | refine blk_drewN ?_ _ | refine blk_drew ?_ | refine blk_alloc ?_ _)); refine blk_put (cs := #[.int .i64 0, .string (⟨#[]⟩ : ByteArray), .int .i64 0, .int .i64 0]) ?_ 0 _ rfl; (with_reducible repeat (first | refine blk_drewN ?_ _ | refine blk_drew ?_ | refine blk_alloc ?_ _)); exact BK237.out⟩, ⟨by repeat (first | (with_reducible first | exact HB.out | apply below_alloc | apply pw_below_drewN | apply below_drew1 | refine below_set ?_ GE237.out) | exact HB.out)⟩⟩
                          · rw [if_neg c26] at H
                            have c26b0 : decide ((a0.size : Int) ≤ (wrap64 (((rd_T38 t231 x27_1).f3) + (((rd_T38 t231 x27_1).f1).size : Int)))) = false := decide_eq_false c26
                            clear c26
                            have H' := Aside0.mk H
                            clear H
                            have hcz28_0 : w15.cell? ⟨gb237, 0, none⟩ = some (.int .i64 0) := (blk_cell BK237.out 0).trans rfl
                            have hcz28_1 : w15.cell? ⟨gb237, 1, none⟩ = some (.string (⟨#[]⟩ : ByteArray)) := (blk_cell BK237.out 1).trans rfl
                            have hcz28_2 : w15.cell? ⟨gb237, 2, none⟩ = some (.int .i64 0) := (blk_cell BK237.out 2).trans rfl
                            have hcz28_3 : w15.cell? ⟨gb237, 3, none⟩ = some (.int .i64 0) := (blk_cell BK237.out 3).trans rfl
                            have hfz28_0 := blk_frozen BK237.out 0
                            have hfz28_1 := blk_frozen BK237.out 1
                            have hfz28_2 := blk_frozen BK237.out 2
                            have hfz28_3 := blk_frozen BK237.out 3
                            go_wp2
                            go_meet
                            case rel => exact ⟨_, (decide ((wrap64 (((rd_T38 t231 x27_1).f3) + (((rd_T38 t231 x27_1).f1).size : Int))) < 0)), (by first | rfl | (simp; done) | (simp [*]; done)), H', ⟨by have := HK1.out; first | omega | exact Nat.le_refl _⟩, ⟨by (with_reducible repeat (first | apply Kd.R_alloc | apply Kd.R_drewN | apply Kd.R_drew)); exact Kd.R_mono (Kd.R_far (p := ⟨gb237, 3, none⟩) (Kd.R_far (p := ⟨gb237, 2, none⟩) (Kd.R_far (p := ⟨gb237, 1, none⟩) (Kd.R_far (p := ⟨gb237, 0, none⟩) (Kd.R_mono HO_25.out (fun k_ hk => (⟨hk, hk.2⟩ : _ ∧ k_ ≠ gb237))) (fun _ hk => hk.2) (.int .i64 ((rd_T38 t231 x27_1).f0))) (fun _ hk => hk.2) (.string ((rd_T38 t231 x27_1).f1))) (fun _ hk => hk.2) (.int .i64 ((rd_T38 t231 x27_1).f2))) (fun _ hk => hk.2) (.int .i64 ((rd_T38 t231 x27_1).f3))) (fun _ hk => hk.1.2)⟩, ⟨by (with_reducible repeat (first | refine blk_drewN ?_ _ | refine blk_drew ?_ | refine blk_alloc ?_ _)); refine blk_put (cs := #[.int .i64 ((rd_T38 t231 x27_1).f0), .string ((rd_T38 t231 x27_1).f1), .int .i64 ((rd_T38 t231 x27_1).f2), .int .i64 0]) ?_ 3 _ rfl; (with_reducible repeat (first | refine blk_drewN ?_ _ | refine blk_drew ?_ | refine blk_alloc ?_ _)); refine blk_put (cs := #[.int .i64 ((rd_T38 t231 x27_1).f0), .string ((rd_T38 t231 x27_1).f1), .int .i64 0, .int .i64 0]) ?_ 2 _ rfl; (with_reducible repeat (first | refine blk_drewN ?_ _ | refine blk_drew ?_ | refine blk_alloc ?_ _)); refine blk_put (cs := #[.int .i64 ((rd_T38 t231 x27_1).f0), .string (⟨#[]⟩ : ByteArray), .int .i64 0, .int .i64 0]) ?_ 1 _ rfl; (with_reducible repeat (first | refine blk_drewN ?_ _ | refine blk_drew ?_ | refine blk_alloc ?_ _)); refine blk_put (cs := #[.int .i64 0, .string (⟨#[]⟩ : ByteArray), .int .i64 0, .int .i64 0]) ?_ 0 _ rfl; (with_reducible repeat (first | refine blk_drewN ?_ _ | refine blk_drew ?_ | refine blk_alloc ?_ _)); exact BK237.out⟩, ⟨by repeat (first | (with_reducible first | exact HB.out | apply below_alloc | apply pw_below_drewN | apply below_drew1 | refine below_set ?_ GE237.out) | exact HB.out)⟩⟩
                        · rw [if_neg c25] at H
                          have c25b0 : (((rd_T38 t231 x27_1).f0) == 3) = false := beq_eq_false_iff_ne.mpr c25
                          have c25b1 : (((rd_T38 t231 x27_1).f0) != 3) = true := bne_iff_ne.mpr c25
                          have H' := Aside0.mk H
                          clear H
                          have hcz29_0 : w15.cell? ⟨gb237, 0, none⟩ = some (.int .i64 0) := (blk_cell BK237.out 0).trans rfl
                          have hcz29_1 : w15.cell? ⟨gb237, 1, none⟩ = some (.string (⟨#[]⟩ : ByteArray)) := (blk_cell BK237.out 1).trans rfl
                          have hcz29_2 : w15.cell? ⟨gb237, 2, none⟩ = some (.int .i64 0) := (blk_cell BK237.out 2).trans rfl
                          have hcz29_3 : w15.cell? ⟨gb237, 3, none⟩ = some (.int .i64 0) := (blk_cell BK237.out 3).trans rfl
                          have hfz29_0 := blk_frozen BK237.out 0
                          have hfz29_1 := blk_frozen BK237.out 1
                          have hfz29_2 := blk_frozen BK237.out 2
                          have hfz29_3 := blk_frozen BK237.out 3
                          go_wp2
                          go_meet
                          case rel => exact ⟨_, (true), (by first | rfl | (simp; done) | (simp [*]; done)), H', ⟨by have := HK1.out; first | omega | exact Nat.le_refl _⟩, ⟨by (with_reducible repeat (first | apply Kd.R_alloc | apply Kd.R_drewN | apply Kd.R_drew)); exact Kd.R_mono (Kd.R_far (p := ⟨gb237, 3, none⟩) (Kd.R_far (p := ⟨gb237, 2, none⟩) (Kd.R_far (p := ⟨gb237, 1, none⟩) (Kd.R_far (p := ⟨gb237, 0, none⟩) (Kd.R_mono HO_25.out (fun k_ hk => (⟨hk, hk.2⟩ : _ ∧ k_ ≠ gb237))) (fun _ hk => hk.2) (.int .i64 ((rd_T38 t231 x27_1).f0))) (fun _ hk => hk.2) (.string ((rd_T38 t231 x27_1).f1))) (fun _ hk => hk.2) (.int .i64 ((rd_T38 t231 x27_1).f2))) (fun _ hk => hk.2) (.int .i64 ((rd_T38 t231 x27_1).f3))) (fun _ hk => hk.1.2)⟩, ⟨by (with_reducible repeat (first | refine blk_drewN ?_ _ | refine blk_drew ?_ | refine blk_alloc ?_ _)); refine blk_put (cs := #[.int .i64 ((rd_T38 t231 x27_1).f0), .string ((rd_T38 t231 x27_1).f1), .int .i64 ((rd_T38 t231 x27_1).f2), .int .i64 0]) ?_ 3 _ rfl; (with_reducible repeat (first | refine blk_drewN ?_ _ | refine blk_drew ?_ | refine blk_alloc ?_ _)); refine blk_put (cs := #[.int .i64 ((rd_T38 t231 x27_1).f0), .string ((rd_T38 t231 x27_1).f1), .int .i64 0, .int .i64 0]) ?_ 2 _ rfl; (with_reducible repeat (first | refine blk_drewN ?_ _ | refine blk_drew ?_ | refine blk_alloc ?_ _)); refine blk_put (cs := #[.int .i64 ((rd_T38 t231 x27_1).f0), .string (⟨#[]⟩ : ByteArray), .int .i64 0, .int .i64 0]) ?_ 1 _ rfl; (with_reducible repeat (first | refine blk_drewN ?_ _ | refine blk_drew ?_ | refine blk_alloc ?_ _)); refine blk_put (cs := #[.int .i64 0, .string (⟨#[]⟩ : ByteArray), .int .i64 0, .int .i64 0]) ?_ 0 _ rfl; (with_reducible repeat (first | refine blk_drewN ?_ _ | refine blk_drew ?_ | refine blk_alloc ?_ _)); exact BK237.out⟩, ⟨by repeat (first | (with_reducible first | exact HB.out | apply below_alloc | apply pw_below_drewN | apply below_drew1 | refine below_set ?_ GE237.out) | exact HB.out)⟩⟩
                  case rest =>
                    clear HC14
                    try clear c1
                    try clear c2
                    try clear p2
                    try clear q2
                    try clear hx2
                    try clear c3
                    try clear c4
                    try clear c4b0
                    try clear c4b1
                    try clear p6
                    try clear c7
                    try clear c7b0
                    try clear c7b1
                    try clear c10
                    try clear c11
                    try clear c11b0
                    try clear c12
                    try clear c12b0
                    try clear c13
                    try clear c13b0
                    try clear c17
                    try clear c17b0
                    try clear c17b1
                    try clear c18
                    try clear c18b0
                    try clear c21
                    try clear c21b0
                    try clear c21b1
                    try clear c22
                    try clear c22b0
                    try clear p23
                    try clear q23
                    try clear hx23
                    try clear c25
                    try clear c25b0
                    try clear c25b1
                    try clear c26
                    try clear c26b0
                    try clear hcz16_0
                    try clear hcz16_1
                    try clear hcz16_2
                    try clear hcz16_3
                    try clear hcz19_0
                    try clear hcz19_1
                    try clear hcz19_2
                    try clear hcz19_3
                    try clear hcz20_0
                    try clear hcz20_1
                    try clear hcz20_2
                    try clear hcz20_3
                    try clear hcz23_0
                    try clear hcz23_1
                    try clear hcz23_2
                    try clear hcz23_3
                    try clear hcz24_0
                    try clear hcz24_1
                    try clear hcz24_2
                    try clear hcz24_3
                    try clear hcz27_0
                    try clear hcz27_1
                    try clear hcz27_2
                    try clear hcz27_3
                    try clear hcz28_0
                    try clear hcz28_1
                    try clear hcz28_2
                    try clear hcz28_3
                    try clear hcz29_0
                    try clear hcz29_1
                    try clear hcz29_2
                    try clear hcz29_3
                    try clear hfz16_0
                    try clear hfz16_1
                    try clear hfz16_2
                    try clear hfz16_3
                    try clear hfz19_0
                    try clear hfz19_1
                    try clear hfz19_2
                    try clear hfz19_3
                    try clear hfz20_0
                    try clear hfz20_1
                    try clear hfz20_2
                    try clear hfz20_3
                    try clear hfz23_0
                    try clear hfz23_1
                    try clear hfz23_2
                    try clear hfz23_3
                    try clear hfz24_0
                    try clear hfz24_1
                    try clear hfz24_2
                    try clear hfz24_3
                    try clear hfz27_0
                    try clear hfz27_1
                    try clear hfz27_2
                    try clear hfz27_3
                    try clear hfz28_0
                    try clear hfz28_1
                    try clear hfz28_2
                    try clear hfz28_3
                    try clear hfz29_0
                    try clear hfz29_1
                    try clear hfz29_2
                    try clear hfz29_3
                    try clear hx236_0
                    try clear hx236_1
                    try clear hx236_2
                    try clear hx236_3
                    try clear p2
                    try clear p236
                    try clear q236
                    obtain ⟨kq, x59_13, rfl, HA, HJ13, HO_25, BK237, HB⟩ := hcut
                    cases kq with
                    | zero => exact absurd HA.out (by simp [culetlaw13_LexerLongest.j1])
                    | succ kj13 =>
                      have H := HA.out
                      clear HA
                      simp only [culetlaw13_LexerLongest.j1] at H
                      by_cases c30 : x59_13 = true
                      · subst c30
                        have H1 : (culetlaw13_LexerLongest.l0 kj13 a0 t231 (t231.length : Int) (wrap64 (x27_1 + 1))) = some r := by rw [if_pos rfl] at H; exact H
                        clear H
                        have H := H1
                        clear H1
                        have H' := Aside0.mk H
                        clear H
                        go_wp2
                        go_roundg kj13
                        case measure => have := HK1.out; have := HJ13.out; omega
                        case rel => exact ⟨(wrap64 (x27_1 + 1)), (by first | rfl | (simp; done) | (simp [*]; done)), H', ⟨by have := HK1.out; have := HJ13.out; omega⟩, ⟨by (with_reducible repeat (first | apply Kd.R_alloc | apply Kd.R_drewN | apply Kd.R_drew)); exact Kd.R_mono HO_25.out (fun _ hk => trivial)⟩, ⟨by repeat (first | (with_reducible first | exact HB.out | apply below_alloc | apply pw_below_drewN | apply below_drew1 | refine below_set ?_ GE237.out) | exact HB.out)⟩⟩
                      · replace c30 := Bool.eq_false_iff.mpr c30
                        subst c30
                        have H1 : (if 0 ≤ (wrap64 (((rd_T38 t231 x27_1).f3) + (((rd_T38 t231 x27_1).f1).size : Int))) then (if (wrap64 (((rd_T38 t231 x27_1).f3) + (((rd_T38 t231 x27_1).f1).size : Int))) < (a0.size : Int) then (if (bt a0 (wrap64 (((rd_T38 t231 x27_1).f3) + (((rd_T38 t231 x27_1).f1).size : Int)))) ≥ 48 then (if (bt a0 (wrap64 (((rd_T38 t231 x27_1).f3) + (((rd_T38 t231 x27_1).f1).size : Int)))) ≥ 97 then (if (bt a0 (wrap64 (((rd_T38 t231 x27_1).f3) + (((rd_T38 t231 x27_1).f1).size : Int)))) ≤ 122 then (if (bt a0 (wrap64 (((rd_T38 t231 x27_1).f3) + (((rd_T38 t231 x27_1).f1).size : Int)))) ≤ 57 then (some false) else (if ((rd_T38 t231 x27_1).f0) = 3 then (culetlaw13_LexerLongest.l0 kj13 a0 t231 (t231.length : Int) (wrap64 (x27_1 + 1))) else (some false))) else (if (bt a0 (wrap64 (((rd_T38 t231 x27_1).f3) + (((rd_T38 t231 x27_1).f1).size : Int)))) ≥ 65 then (if (bt a0 (wrap64 (((rd_T38 t231 x27_1).f3) + (((rd_T38 t231 x27_1).f1).size : Int)))) ≤ 90 then (if (bt a0 (wrap64 (((rd_T38 t231 x27_1).f3) + (((rd_T38 t231 x27_1).f1).size : Int)))) ≤ 57 then (some false) else (if ((rd_T38 t231 x27_1).f0) = 3 then (culetlaw13_LexerLongest.l0 kj13 a0 t231 (t231.length : Int) (wrap64 (x27_1 + 1))) else (some false))) else (if (bt a0 (wrap64 (((rd_T38 t231 x27_1).f3) + (((rd_T38 t231 x27_1).f1).size : Int)))) = 45 then (if (bt a0 (wrap64 (((rd_T38 t231 x27_1).f3) + (((rd_T38 t231 x27_1).f1).size : Int)))) ≤ 57 then (some false) else (if ((rd_T38 t231 x27_1).f0) = 3 then (culetlaw13_LexerLongest.l0 kj13 a0 t231 (t231.length : Int) (wrap64 (x27_1 + 1))) else (some false))) else (if (bt a0 (wrap64 (((rd_T38 t231 x27_1).f3) + (((rd_T38 t231 x27_1).f1).size : Int)))) ≤ 57 then (some false) else (if (bt a0 (wrap64 (((rd_T38 t231 x27_1).f3) + (((rd_T38 t231 x27_1).f1).size : Int)))) = 95 then (if ((rd_T38 t231 x27_1).f0) = 3 then (culetlaw13_LexerLongest.l0 kj13 a0 t231 (t231.length : Int) (wrap64 (x27_1 + 1))) else (some false)) else (culetlaw13_LexerLongest.l0 kj13 a0 t231 (t231.length : Int) (wrap64 (x27_1 + 1))))))) else (if (bt a0 (wrap64 (((rd_T38 t231 x27_1).f3) + (((rd_T38 t231 x27_1).f1).size : Int)))) = 45 then (if (bt a0 (wrap64 (((rd_T38 t231 x27_1).f3) + (((rd_T38 t231 x27_1).f1).size : Int)))) ≤ 57 then (some false) else (if ((rd_T38 t231 x27_1).f0) = 3 then (culetlaw13_LexerLongest.l0 kj13 a0 t231 (t231.length : Int) (wrap64 (x27_1 + 1))) else (some false))) else (if (bt a0 (wrap64 (((rd_T38 t231 x27_1).f3) + (((rd_T38 t231 x27_1).f1).size : Int)))) ≤ 57 then (some false) else (if (bt a0 (wrap64 (((rd_T38 t231 x27_1).f3) + (((rd_T38 t231 x27_1).f1).size : Int)))) = 95 then (if ((rd_T38 t231 x27_1).f0) = 3 then (culetlaw13_LexerLongest.l0 kj13 a0 t231 (t231.length : Int) (wrap64 (x27_1 + 1))) else (some false)) else (culetlaw13_LexerLongest.l0 kj13 a0 t231 (t231.length : Int) (wrap64 (x27_1 + 1)))))))) else (if (bt a0 (wrap64 (((rd_T38 t231 x27_1).f3) + (((rd_T38 t231 x27_1).f1).size : Int)))) ≥ 65 then (if (bt a0 (wrap64 (((rd_T38 t231 x27_1).f3) + (((rd_T38 t231 x27_1).f1).size : Int)))) ≤ 90 then (if (bt a0 (wrap64 (((rd_T38 t231 x27_1).f3) + (((rd_T38 t231 x27_1).f1).size : Int)))) ≤ 57 then (some false) else (if ((rd_T38 t231 x27_1).f0) = 3 then (culetlaw13_LexerLongest.l0 kj13 a0 t231 (t231.length : Int) (wrap64 (x27_1 + 1))) else (some false))) else (if (bt a0 (wrap64 (((rd_T38 t231 x27_1).f3) + (((rd_T38 t231 x27_1).f1).size : Int)))) = 45 then (if (bt a0 (wrap64 (((rd_T38 t231 x27_1).f3) + (((rd_T38 t231 x27_1).f1).size : Int)))) ≤ 57 then (some false) else (if ((rd_T38 t231 x27_1).f0) = 3 then (culetlaw13_LexerLongest.l0 kj13 a0 t231 (t231.length : Int) (wrap64 (x27_1 + 1))) else (some false))) else (if (bt a0 (wrap64 (((rd_T38 t231 x27_1).f3) + (((rd_T38 t231 x27_1).f1).size : Int)))) ≤ 57 then (some false) else (if (bt a0 (wrap64 (((rd_T38 t231 x27_1).f3) + (((rd_T38 t231 x27_1).f1).size : Int)))) = 95 then (if ((rd_T38 t231 x27_1).f0) = 3 then (culetlaw13_LexerLongest.l0 kj13 a0 t231 (t231.length : Int) (wrap64 (x27_1 + 1))) else (some false)) else (culetlaw13_LexerLongest.l0 kj13 a0 t231 (t231.length : Int) (wrap64 (x27_1 + 1))))))) else (if (bt a0 (wrap64 (((rd_T38 t231 x27_1).f3) + (((rd_T38 t231 x27_1).f1).size : Int)))) = 45 then (if (bt a0 (wrap64 (((rd_T38 t231 x27_1).f3) + (((rd_T38 t231 x27_1).f1).size : Int)))) ≤ 57 then (some false) else (if ((rd_T38 t231 x27_1).f0) = 3 then (culetlaw13_LexerLongest.l0 kj13 a0 t231 (t231.length : Int) (wrap64 (x27_1 + 1))) else (some false))) else (if (bt a0 (wrap64 (((rd_T38 t231 x27_1).f3) + (((rd_T38 t231 x27_1).f1).size : Int)))) ≤ 57 then (some false) else (if (bt a0 (wrap64 (((rd_T38 t231 x27_1).f3) + (((rd_T38 t231 x27_1).f1).size : Int)))) = 95 then (if ((rd_T38 t231 x27_1).f0) = 3 then (culetlaw13_LexerLongest.l0 kj13 a0 t231 (t231.length : Int) (wrap64 (x27_1 + 1))) else (some false)) else (culetlaw13_LexerLongest.l0 kj13 a0 t231 (t231.length : Int) (wrap64 (x27_1 + 1)))))))) else (if (bt a0 (wrap64 (((rd_T38 t231 x27_1).f3) + (((rd_T38 t231 x27_1).f1).size : Int)))) ≥ 97 then (if (bt a0 (wrap64 (((rd_T38 t231 x27_1).f3) + (((rd_T38 t231 x27_1).f1).size : Int)))) ≤ 122 then (if ((rd_T38 t231 x27_1).f0) = 3 then (culetlaw13_LexerLongest.l0 kj13 a0 t231 (t231.length : Int) (wrap64 (x27_1 + 1))) else (some false)) else (if (bt a0 (wrap64 (((rd_T38 t231 x27_1).f3) + (((rd_T38 t231 x27_1).f1).size : Int)))) ≥ 65 then (if (bt a0 (wrap64 (((rd_T38 t231 x27_1).f3) + (((rd_T38 t231 x27_1).f1).size : Int)))) ≤ 90 then (if ((rd_T38 t231 x27_1).f0) = 3 then (culetlaw13_LexerLongest.l0 kj13 a0 t231 (t231.length : Int) (wrap64 (x27_1 + 1))) else (some false)) else (if (bt a0 (wrap64 (((rd_T38 t231 x27_1).f3) + (((rd_T38 t231 x27_1).f1).size : Int)))) = 45 then (if ((rd_T38 t231 x27_1).f0) = 3 then (culetlaw13_LexerLongest.l0 kj13 a0 t231 (t231.length : Int) (wrap64 (x27_1 + 1))) else (some false)) else (if (bt a0 (wrap64 (((rd_T38 t231 x27_1).f3) + (((rd_T38 t231 x27_1).f1).size : Int)))) = 95 then (if ((rd_T38 t231 x27_1).f0) = 3 then (culetlaw13_LexerLongest.l0 kj13 a0 t231 (t231.length : Int) (wrap64 (x27_1 + 1))) else (some false)) else (culetlaw13_LexerLongest.l0 kj13 a0 t231 (t231.length : Int) (wrap64 (x27_1 + 1)))))) else (if (bt a0 (wrap64 (((rd_T38 t231 x27_1).f3) + (((rd_T38 t231 x27_1).f1).size : Int)))) = 45 then (if ((rd_T38 t231 x27_1).f0) = 3 then (culetlaw13_LexerLongest.l0 kj13 a0 t231 (t231.length : Int) (wrap64 (x27_1 + 1))) else (some false)) else (if (bt a0 (wrap64 (((rd_T38 t231 x27_1).f3) + (((rd_T38 t231 x27_1).f1).size : Int)))) = 95 then (if ((rd_T38 t231 x27_1).f0) = 3 then (culetlaw13_LexerLongest.l0 kj13 a0 t231 (t231.length : Int) (wrap64 (x27_1 + 1))) else (some false)) else (culetlaw13_LexerLongest.l0 kj13 a0 t231 (t231.length : Int) (wrap64 (x27_1 + 1))))))) else (if (bt a0 (wrap64 (((rd_T38 t231 x27_1).f3) + (((rd_T38 t231 x27_1).f1).size : Int)))) ≥ 65 then (if (bt a0 (wrap64 (((rd_T38 t231 x27_1).f3) + (((rd_T38 t231 x27_1).f1).size : Int)))) ≤ 90 then (if ((rd_T38 t231 x27_1).f0) = 3 then (culetlaw13_LexerLongest.l0 kj13 a0 t231 (t231.length : Int) (wrap64 (x27_1 + 1))) else (some false)) else (if (bt a0 (wrap64 (((rd_T38 t231 x27_1).f3) + (((rd_T38 t231 x27_1).f1).size : Int)))) = 45 then (if ((rd_T38 t231 x27_1).f0) = 3 then (culetlaw13_LexerLongest.l0 kj13 a0 t231 (t231.length : Int) (wrap64 (x27_1 + 1))) else (some false)) else (if (bt a0 (wrap64 (((rd_T38 t231 x27_1).f3) + (((rd_T38 t231 x27_1).f1).size : Int)))) = 95 then (if ((rd_T38 t231 x27_1).f0) = 3 then (culetlaw13_LexerLongest.l0 kj13 a0 t231 (t231.length : Int) (wrap64 (x27_1 + 1))) else (some false)) else (culetlaw13_LexerLongest.l0 kj13 a0 t231 (t231.length : Int) (wrap64 (x27_1 + 1)))))) else (if (bt a0 (wrap64 (((rd_T38 t231 x27_1).f3) + (((rd_T38 t231 x27_1).f1).size : Int)))) = 45 then (if ((rd_T38 t231 x27_1).f0) = 3 then (culetlaw13_LexerLongest.l0 kj13 a0 t231 (t231.length : Int) (wrap64 (x27_1 + 1))) else (some false)) else (if (bt a0 (wrap64 (((rd_T38 t231 x27_1).f3) + (((rd_T38 t231 x27_1).f1).size : Int)))) = 95 then (if ((rd_T38 t231 x27_1).f0) = 3 then (culetlaw13_LexerLongest.l0 kj13 a0 t231 (t231.length : Int) (wrap64 (x27_1 + 1))) else (some false)) else (culetlaw13_LexerLongest.l0 kj13 a0 t231 (t231.length : Int) (wrap64 (x27_1 + 1)))))))) else (none)) else (none)) = some r := by rw [if_neg (show ¬ (false = true) by decide)] at H; exact H
                        clear H
                        have H := H1
                        clear H1
                        obtain ⟨ji31, hji31⟩ : ∃ j_ : Int, (wrap64 (((rd_T38 t231 x27_1).f3) + (((rd_T38 t231 x27_1).f1).size : Int))) = j_ := ⟨_, rfl⟩
                        replace H : (if 0 ≤ (ji31) then (if (ji31) < (a0.size : Int) then (if (bt a0 (ji31)) ≥ 48 then (if (bt a0 (ji31)) ≥ 97 then (if (bt a0 (ji31)) ≤ 122 then (if (bt a0 (ji31)) ≤ 57 then (some false) else (if ((rd_T38 t231 x27_1).f0) = 3 then (culetlaw13_LexerLongest.l0 kj13 a0 t231 (t231.length : Int) (wrap64 (x27_1 + 1))) else (some false))) else (if (bt a0 (ji31)) ≥ 65 then (if (bt a0 (ji31)) ≤ 90 then (if (bt a0 (ji31)) ≤ 57 then (some false) else (if ((rd_T38 t231 x27_1).f0) = 3 then (culetlaw13_LexerLongest.l0 kj13 a0 t231 (t231.length : Int) (wrap64 (x27_1 + 1))) else (some false))) else (if (bt a0 (ji31)) = 45 then (if (bt a0 (ji31)) ≤ 57 then (some false) else (if ((rd_T38 t231 x27_1).f0) = 3 then (culetlaw13_LexerLongest.l0 kj13 a0 t231 (t231.length : Int) (wrap64 (x27_1 + 1))) else (some false))) else (if (bt a0 (ji31)) ≤ 57 then (some false) else (if (bt a0 (ji31)) = 95 then (if ((rd_T38 t231 x27_1).f0) = 3 then (culetlaw13_LexerLongest.l0 kj13 a0 t231 (t231.length : Int) (wrap64 (x27_1 + 1))) else (some false)) else (culetlaw13_LexerLongest.l0 kj13 a0 t231 (t231.length : Int) (wrap64 (x27_1 + 1))))))) else (if (bt a0 (ji31)) = 45 then (if (bt a0 (ji31)) ≤ 57 then (some false) else (if ((rd_T38 t231 x27_1).f0) = 3 then (culetlaw13_LexerLongest.l0 kj13 a0 t231 (t231.length : Int) (wrap64 (x27_1 + 1))) else (some false))) else (if (bt a0 (ji31)) ≤ 57 then (some false) else (if (bt a0 (ji31)) = 95 then (if ((rd_T38 t231 x27_1).f0) = 3 then (culetlaw13_LexerLongest.l0 kj13 a0 t231 (t231.length : Int) (wrap64 (x27_1 + 1))) else (some false)) else (culetlaw13_LexerLongest.l0 kj13 a0 t231 (t231.length : Int) (wrap64 (x27_1 + 1)))))))) else (if (bt a0 (ji31)) ≥ 65 then (if (bt a0 (ji31)) ≤ 90 then (if (bt a0 (ji31)) ≤ 57 then (some false) else (if ((rd_T38 t231 x27_1).f0) = 3 then (culetlaw13_LexerLongest.l0 kj13 a0 t231 (t231.length : Int) (wrap64 (x27_1 + 1))) else (some false))) else (if (bt a0 (ji31)) = 45 then (if (bt a0 (ji31)) ≤ 57 then (some false) else (if ((rd_T38 t231 x27_1).f0) = 3 then (culetlaw13_LexerLongest.l0 kj13 a0 t231 (t231.length : Int) (wrap64 (x27_1 + 1))) else (some false))) else (if (bt a0 (ji31)) ≤ 57 then (some false) else (if (bt a0 (ji31)) = 95 then (if ((rd_T38 t231 x27_1).f0) = 3 then (culetlaw13_LexerLongest.l0 kj13 a0 t231 (t231.length : Int) (wrap64 (x27_1 + 1))) else (some false)) else (culetlaw13_LexerLongest.l0 kj13 a0 t231 (t231.length : Int) (wrap64 (x27_1 + 1))))))) else (if (bt a0 (ji31)) = 45 then (if (bt a0 (ji31)) ≤ 57 then (some false) else (if ((rd_T38 t231 x27_1).f0) = 3 then (culetlaw13_LexerLongest.l0 kj13 a0 t231 (t231.length : Int) (wrap64 (x27_1 + 1))) else (some false))) else (if (bt a0 (ji31)) ≤ 57 then (some false) else (if (bt a0 (ji31)) = 95 then (if ((rd_T38 t231 x27_1).f0) = 3 then (culetlaw13_LexerLongest.l0 kj13 a0 t231 (t231.length : Int) (wrap64 (x27_1 + 1))) else (some false)) else (culetlaw13_LexerLongest.l0 kj13 a0 t231 (t231.length : Int) (wrap64 (x27_1 + 1)))))))) else (if (bt a0 (ji31)) ≥ 97 then (if (bt a0 (ji31)) ≤ 122 then (if ((rd_T38 t231 x27_1).f0) = 3 then (culetlaw13_LexerLongest.l0 kj13 a0 t231 (t231.length : Int) (wrap64 (x27_1 + 1))) else (some false)) else (if (bt a0 (ji31)) ≥ 65 then (if (bt a0 (ji31)) ≤ 90 then (if ((rd_T38 t231 x27_1).f0) = 3 then (culetlaw13_LexerLongest.l0 kj13 a0 t231 (t231.length : Int) (wrap64 (x27_1 + 1))) else (some false)) else (if (bt a0 (ji31)) = 45 then (if ((rd_T38 t231 x27_1).f0) = 3 then (culetlaw13_LexerLongest.l0 kj13 a0 t231 (t231.length : Int) (wrap64 (x27_1 + 1))) else (some false)) else (if (bt a0 (ji31)) = 95 then (if ((rd_T38 t231 x27_1).f0) = 3 then (culetlaw13_LexerLongest.l0 kj13 a0 t231 (t231.length : Int) (wrap64 (x27_1 + 1))) else (some false)) else (culetlaw13_LexerLongest.l0 kj13 a0 t231 (t231.length : Int) (wrap64 (x27_1 + 1)))))) else (if (bt a0 (ji31)) = 45 then (if ((rd_T38 t231 x27_1).f0) = 3 then (culetlaw13_LexerLongest.l0 kj13 a0 t231 (t231.length : Int) (wrap64 (x27_1 + 1))) else (some false)) else (if (bt a0 (ji31)) = 95 then (if ((rd_T38 t231 x27_1).f0) = 3 then (culetlaw13_LexerLongest.l0 kj13 a0 t231 (t231.length : Int) (wrap64 (x27_1 + 1))) else (some false)) else (culetlaw13_LexerLongest.l0 kj13 a0 t231 (t231.length : Int) (wrap64 (x27_1 + 1))))))) else (if (bt a0 (ji31)) ≥ 65 then (if (bt a0 (ji31)) ≤ 90 then (if ((rd_T38 t231 x27_1).f0) = 3 then (culetlaw13_LexerLongest.l0 kj13 a0 t231 (t231.length : Int) (wrap64 (x27_1 + 1))) else (some false)) else (if (bt a0 (ji31)) = 45 then (if ((rd_T38 t231 x27_1).f0) = 3 then (culetlaw13_LexerLongest.l0 kj13 a0 t231 (t231.length : Int) (wrap64 (x27_1 + 1))) else (some false)) else (if (bt a0 (ji31)) = 95 then (if ((rd_T38 t231 x27_1).f0) = 3 then (culetlaw13_LexerLongest.l0 kj13 a0 t231 (t231.length : Int) (wrap64 (x27_1 + 1))) else (some false)) else (culetlaw13_LexerLongest.l0 kj13 a0 t231 (t231.length : Int) (wrap64 (x27_1 + 1)))))) else (if (bt a0 (ji31)) = 45 then (if ((rd_T38 t231 x27_1).f0) = 3 then (culetlaw13_LexerLongest.l0 kj13 a0 t231 (t231.length : Int) (wrap64 (x27_1 + 1))) else (some false)) else (if (bt a0 (ji31)) = 95 then (if ((rd_T38 t231 x27_1).f0) = 3 then (culetlaw13_LexerLongest.l0 kj13 a0 t231 (t231.length : Int) (wrap64 (x27_1 + 1))) else (some false)) else (culetlaw13_LexerLongest.l0 kj13 a0 t231 (t231.length : Int) (wrap64 (x27_1 + 1)))))))) else (none)) else (none)) = some r := by first | (rw [hji31] at H; exact H) | (simp only [hji31] at H ⊢; exact H)
                        have hji31w : (IntKind.i64.wrap (((rd_T38 t231 x27_1).f3) + (((rd_T38 t231 x27_1).f1).size : Int))) = ji31 := (i64_w _).trans hji31
                        by_cases c32 : 0 ≤ (ji31)
                        · rw [if_pos c32] at H
                          have c32b0 : decide (0 ≤ (ji31)) = true := decide_eq_true c32
                          clear c32
                          by_cases c33 : (ji31) < (a0.size : Int)
                          · rw [if_pos c33] at H
                            have c33b0 : decide ((ji31) < (a0.size : Int)) = true := decide_eq_true c33
                            clear c33
                            by_cases c35 : (bt a0 (ji31)) ≥ 48
                            · rw [if_pos c35] at H
                              have c35b0 : decide (48 ≤ (bt a0 (ji31))) = true := decide_eq_true c35
                              clear c35
                              by_cases c36 : (bt a0 (ji31)) ≥ 97
                              · rw [if_pos c36] at H
                                have c36b0 : decide (97 ≤ (bt a0 (ji31))) = true := decide_eq_true c36
                                clear c36
                                by_cases c37 : (bt a0 (ji31)) ≤ 122
                                · rw [if_pos c37] at H
                                  have c37b0 : decide ((bt a0 (ji31)) ≤ 122) = true := decide_eq_true c37
                                  clear c37
                                  by_cases c38 : (bt a0 (ji31)) ≤ 57
                                  · rw [if_pos c38] at H
                                    have c38b0 : decide ((bt a0 (ji31)) ≤ 57) = true := decide_eq_true c38
                                    clear c38
                                    obtain rfl := Option.some.inj H
                                    have p34 : 0 ≤ ((ji31) : Int) := of_decide_eq_true (by first | (with_reducible assumption) | assumption)
                                    have q34 : (ji31) < (a0.size : Int) := of_decide_eq_true (by first | (with_reducible assumption) | assumption)
                                    have hx34 := bt_at a0 (ji31)
                                    replace p34 := eq_true p34
                                    replace q34 := eq_true q34
                                    go_wp2
                                    go_ret
                                    exact ⟨by first | rfl | (simp [errW_none, errW_some] <;> rfl) | (simp only [← hji31]; first | rfl | (simp [errW_none, errW_some] <;> rfl)) | (simp [*, errW_none, errW_some] <;> rfl), by repeat (first | (with_reducible first | exact HB.out | apply below_alloc | apply pw_below_drewN | apply below_drew1 | refine below_set ?_ GE237.out) | exact HB.out)⟩
                                  · rw [if_neg c38] at H
                                    have c38b0 : decide ((bt a0 (ji31)) ≤ 57) = false := decide_eq_false c38
                                    clear c38
                                    by_cases c39 : ((rd_T38 t231 x27_1).f0) = 3
                                    · rw [if_pos c39] at H
                                      have c39b0 : (((rd_T38 t231 x27_1).f0) == 3) = true := beq_iff_eq.mpr c39
                                      have c39b1 : (((rd_T38 t231 x27_1).f0) != 3) = false := bne_eq_false_iff_eq.mpr c39
                                      clear c39
                                      have H' := Aside0.mk H
                                      clear H
                                      have p34 : 0 ≤ ((ji31) : Int) := of_decide_eq_true (by first | (with_reducible assumption) | assumption)
                                      have q34 : (ji31) < (a0.size : Int) := of_decide_eq_true (by first | (with_reducible assumption) | assumption)
                                      have hx34 := bt_at a0 (ji31)
                                      replace p34 := eq_true p34
                                      replace q34 := eq_true q34
                                      have hcz40_0 : wc.cell? ⟨gb237, 0, none⟩ = some (.int .i64 ((rd_T38 t231 x27_1).f0)) := (blk_cell BK237.out 0).trans rfl
                                      have hcz40_1 : wc.cell? ⟨gb237, 1, none⟩ = some (.string ((rd_T38 t231 x27_1).f1)) := (blk_cell BK237.out 1).trans rfl
                                      have hcz40_2 : wc.cell? ⟨gb237, 2, none⟩ = some (.int .i64 ((rd_T38 t231 x27_1).f2)) := (blk_cell BK237.out 2).trans rfl
                                      have hcz40_3 : wc.cell? ⟨gb237, 3, none⟩ = some (.int .i64 ((rd_T38 t231 x27_1).f3)) := (blk_cell BK237.out 3).trans rfl
                                      have hfz40_0 := blk_frozen BK237.out 0
                                      have hfz40_1 := blk_frozen BK237.out 1
                                      have hfz40_2 := blk_frozen BK237.out 2
                                      have hfz40_3 := blk_frozen BK237.out 3
                                      go_wp2
                                      go_roundg kj13
                                      case measure => have := HK1.out; have := HJ13.out; omega
                                      case rel => exact ⟨(wrap64 (x27_1 + 1)), (by first | rfl | (simp; done) | (simp [*]; done)), H', ⟨by have := HK1.out; have := HJ13.out; omega⟩, ⟨by (with_reducible repeat (first | apply Kd.R_alloc | apply Kd.R_drewN | apply Kd.R_drew)); exact Kd.R_mono HO_25.out (fun _ hk => trivial)⟩, ⟨by repeat (first | (with_reducible first | exact HB.out | apply below_alloc | apply pw_below_drewN | apply below_drew1 | refine below_set ?_ GE237.out) | exact HB.out)⟩⟩
                                    · rw [if_neg c39] at H
                                      have c39b0 : (((rd_T38 t231 x27_1).f0) == 3) = false := beq_eq_false_iff_ne.mpr c39
                                      have c39b1 : (((rd_T38 t231 x27_1).f0) != 3) = true := bne_iff_ne.mpr c39
                                      obtain rfl := Option.some.inj H
                                      have p34 : 0 ≤ ((ji31) : Int) := of_decide_eq_true (by first | (with_reducible assumption) | assumption)
                                      have q34 : (ji31) < (a0.size : Int) := of_decide_eq_true (by first | (with_reducible assumption) | assumption)
                                      have hx34 := bt_at a0 (ji31)
                                      replace p34 := eq_true p34
                                      replace q34 := eq_true q34
                                      have hcz41_0 : wc.cell? ⟨gb237, 0, none⟩ = some (.int .i64 ((rd_T38 t231 x27_1).f0)) := (blk_cell BK237.out 0).trans rfl
                                      have hcz41_1 : wc.cell? ⟨gb237, 1, none⟩ = some (.string ((rd_T38 t231 x27_1).f1)) := (blk_cell BK237.out 1).trans rfl
                                      have hcz41_2 : wc.cell? ⟨gb237, 2, none⟩ = some (.int .i64 ((rd_T38 t231 x27_1).f2)) := (blk_cell BK237.out 2).trans rfl
                                      have hcz41_3 : wc.cell? ⟨gb237, 3, none⟩ = some (.int .i64 ((rd_T38 t231 x27_1).f3)) := (blk_cell BK237.out 3).trans rfl
                                      have hfz41_0 := blk_frozen BK237.out 0
                                      have hfz41_1 := blk_frozen BK237.out 1
                                      have hfz41_2 := blk_frozen BK237.out 2
                                      have hfz41_3 := blk_frozen BK237.out 3
                                      go_wp2
                                      go_ret
                                      exact ⟨by first | rfl | (simp [errW_none, errW_some] <;> rfl) | (simp only [← hji31]; first | rfl | (simp [errW_none, errW_some] <;> rfl)) | (simp [*, errW_none, errW_some] <;> rfl), by repeat (first | (with_reducible first | exact HB.out | apply below_alloc | apply pw_below_drewN | apply below_drew1 | refine below_set ?_ GE237.out) | exact HB.out)⟩
                                · rw [if_neg c37] at H
                                  have c37b0 : decide ((bt a0 (ji31)) ≤ 122) = false := decide_eq_false c37
                                  clear c37
                                  by_cases c42 : (bt a0 (ji31)) ≥ 65
                                  · rw [if_pos c42] at H
                                    have c42b0 : decide (65 ≤ (bt a0 (ji31))) = true := decide_eq_true c42
                                    clear c42
                                    by_cases c43 : (bt a0 (ji31)) ≤ 90
                                    · rw [if_pos c43] at H
                                      have c43b0 : decide ((bt a0 (ji31)) ≤ 90) = true := decide_eq_true c43
                                      clear c43
                                      by_cases c44 : (bt a0 (ji31)) ≤ 57
                                      · rw [if_pos c44] at H
                                        have c44b0 : decide ((bt a0 (ji31)) ≤ 57) = true := decide_eq_true c44
                                        clear c44
                                        obtain rfl := Option.some.inj H
                                        have p34 : 0 ≤ ((ji31) : Int) := of_decide_eq_true (by first | (with_reducible assumption) | assumption)
                                        have q34 : (ji31) < (a0.size : Int) := of_decide_eq_true (by first | (with_reducible assumption) | assumption)
                                        have hx34 := bt_at a0 (ji31)
                                        replace p34 := eq_true p34
                                        replace q34 := eq_true q34
                                        go_wp2
                                        go_ret
                                        exact ⟨by first | rfl | (simp [errW_none, errW_some] <;> rfl) | (simp only [← hji31]; first | rfl | (simp [errW_none, errW_some] <;> rfl)) | (simp [*, errW_none, errW_some] <;> rfl), by repeat (first | (with_reducible first | exact HB.out | apply below_alloc | apply pw_below_drewN | apply below_drew1 | refine below_set ?_ GE237.out) | exact HB.out)⟩
                                      · rw [if_neg c44] at H
                                        have c44b0 : decide ((bt a0 (ji31)) ≤ 57) = false := decide_eq_false c44
                                        clear c44
                                        by_cases c45 : ((rd_T38 t231 x27_1).f0) = 3
                                        · rw [if_pos c45] at H
                                          have c45b0 : (((rd_T38 t231 x27_1).f0) == 3) = true := beq_iff_eq.mpr c45
                                          have c45b1 : (((rd_T38 t231 x27_1).f0) != 3) = false := bne_eq_false_iff_eq.mpr c45
                                          clear c45
                                          have H' := Aside0.mk H
                                          clear H
                                          have p34 : 0 ≤ ((ji31) : Int) := of_decide_eq_true (by first | (with_reducible assumption) | assumption)
                                          have q34 : (ji31) < (a0.size : Int) := of_decide_eq_true (by first | (with_reducible assumption) | assumption)
                                          have hx34 := bt_at a0 (ji31)
                                          replace p34 := eq_true p34
                                          replace q34 := eq_true q34
                                          have hcz46_0 : wc.cell? ⟨gb237, 0, none⟩ = some (.int .i64 ((rd_T38 t231 x27_1).f0)) := (blk_cell BK237.out 0).trans rfl
                                          have hcz46_1 : wc.cell? ⟨gb237, 1, none⟩ = some (.string ((rd_T38 t231 x27_1).f1)) := (blk_cell BK237.out 1).trans rfl
                                          have hcz46_2 : wc.cell? ⟨gb237, 2, none⟩ = some (.int .i64 ((rd_T38 t231 x27_1).f2)) := (blk_cell BK237.out 2).trans rfl
                                          have hcz46_3 : wc.cell? ⟨gb237, 3, none⟩ = some (.int .i64 ((rd_T38 t231 x27_1).f3)) := (blk_cell BK237.out 3).trans rfl
                                          have hfz46_0 := blk_frozen BK237.out 0
                                          have hfz46_1 := blk_frozen BK237.out 1
                                          have hfz46_2 := blk_frozen BK237.out 2
                                          have hfz46_3 := blk_frozen BK237.out 3
                                          go_wp2
                                          go_roundg kj13
                                          case measure => have := HK1.out; have := HJ13.out; omega
                                          case rel => exact ⟨(wrap64 (x27_1 + 1)), (by first | rfl | (simp; done) | (simp [*]; done)), H', ⟨by have := HK1.out; have := HJ13.out; omega⟩, ⟨by (with_reducible repeat (first | apply Kd.R_alloc | apply Kd.R_drewN | apply Kd.R_drew)); exact Kd.R_mono HO_25.out (fun _ hk => trivial)⟩, ⟨by repeat (first | (with_reducible first | exact HB.out | apply below_alloc | apply pw_below_drewN | apply below_drew1 | refine below_set ?_ GE237.out) | exact HB.out)⟩⟩
                                        · rw [if_neg c45] at H
                                          have c45b0 : (((rd_T38 t231 x27_1).f0) == 3) = false := beq_eq_false_iff_ne.mpr c45
                                          have c45b1 : (((rd_T38 t231 x27_1).f0) != 3) = true := bne_iff_ne.mpr c45
                                          obtain rfl := Option.some.inj H
                                          have p34 : 0 ≤ ((ji31) : Int) := of_decide_eq_true (by first | (with_reducible assumption) | assumption)
                                          have q34 : (ji31) < (a0.size : Int) := of_decide_eq_true (by first | (with_reducible assumption) | assumption)
                                          have hx34 := bt_at a0 (ji31)
                                          replace p34 := eq_true p34
                                          replace q34 := eq_true q34
                                          have hcz47_0 : wc.cell? ⟨gb237, 0, none⟩ = some (.int .i64 ((rd_T38 t231 x27_1).f0)) := (blk_cell BK237.out 0).trans rfl
                                          have hcz47_1 : wc.cell? ⟨gb237, 1, none⟩ = some (.string ((rd_T38 t231 x27_1).f1)) := (blk_cell BK237.out 1).trans rfl
                                          have hcz47_2 : wc.cell? ⟨gb237, 2, none⟩ = some (.int .i64 ((rd_T38 t231 x27_1).f2)) := (blk_cell BK237.out 2).trans rfl
                                          have hcz47_3 : wc.cell? ⟨gb237, 3, none⟩ = some (.int .i64 ((rd_T38 t231 x27_1).f3)) := (blk_cell BK237.out 3).trans rfl
                                          have hfz47_0 := blk_frozen BK237.out 0
                                          have hfz47_1 := blk_frozen BK237.out 1
                                          have hfz47_2 := blk_frozen BK237.out 2
                                          have hfz47_3 := blk_frozen BK237.out 3
                                          go_wp2
                                          go_ret
                                          exact ⟨by first | rfl | (simp [errW_none, errW_some] <;> rfl) | (simp only [← hji31]; first | rfl | (simp [errW_none, errW_some] <;> rfl)) | (simp [*, errW_none, errW_some] <;> rfl), by repeat (first | (with_reducible first | exact HB.out | apply below_alloc | apply pw_below_drewN | apply below_drew1 | refine below_set ?_ GE237.out) | exact HB.out)⟩
                                    · rw [if_neg c43] at H
                                      have c43b0 : decide ((bt a0 (ji31)) ≤ 90) = false := decide_eq_false c43
                                      clear c43
                                      by_cases c48 : (bt a0 (ji31)) = 45
                                      · rw [if_pos c48] at H
                                        have c48b0 : ((bt a0 (ji31)) == 45) = true := beq_iff_eq.mpr c48
                                        have c48b1 : ((bt a0 (ji31)) != 45) = false := bne_eq_false_iff_eq.mpr c48
                                        clear c48
                                        by_cases c49 : (bt a0 (ji31)) ≤ 57
                                        · rw [if_pos c49] at H
                                          have c49b0 : decide ((bt a0 (ji31)) ≤ 57) = true := decide_eq_true c49
                                          clear c49
                                          obtain rfl := Option.some.inj H
                                          have p34 : 0 ≤ ((ji31) : Int) := of_decide_eq_true (by first | (with_reducible assumption) | assumption)
                                          have q34 : (ji31) < (a0.size : Int) := of_decide_eq_true (by first | (with_reducible assumption) | assumption)
                                          have hx34 := bt_at a0 (ji31)
                                          replace p34 := eq_true p34
                                          replace q34 := eq_true q34
                                          go_wp2
                                          go_ret
                                          exact ⟨by first | rfl | (simp [errW_none, errW_some] <;> rfl) | (simp only [← hji31]; first | rfl | (simp [errW_none, errW_some] <;> rfl)) | (simp [*, errW_none, errW_some] <;> rfl), by repeat (first | (with_reducible first | exact HB.out | apply below_alloc | apply pw_below_drewN | apply below_drew1 | refine below_set ?_ GE237.out) | exact HB.out)⟩
                                        · rw [if_neg c49] at H
                                          have c49b0 : decide ((bt a0 (ji31)) ≤ 57) = false := decide_eq_false c49
                                          clear c49
                                          by_cases c50 : ((rd_T38 t231 x27_1).f0) = 3
                                          · rw [if_pos c50] at H
                                            have c50b0 : (((rd_T38 t231 x27_1).f0) == 3) = true := beq_iff_eq.mpr c50
                                            have c50b1 : (((rd_T38 t231 x27_1).f0) != 3) = false := bne_eq_false_iff_eq.mpr c50
                                            clear c50
                                            have H' := Aside0.mk H
                                            clear H
                                            have p34 : 0 ≤ ((ji31) : Int) := of_decide_eq_true (by first | (with_reducible assumption) | assumption)
                                            have q34 : (ji31) < (a0.size : Int) := of_decide_eq_true (by first | (with_reducible assumption) | assumption)
                                            have hx34 := bt_at a0 (ji31)
                                            replace p34 := eq_true p34
                                            replace q34 := eq_true q34
                                            have hcz51_0 : wc.cell? ⟨gb237, 0, none⟩ = some (.int .i64 ((rd_T38 t231 x27_1).f0)) := (blk_cell BK237.out 0).trans rfl
                                            have hcz51_1 : wc.cell? ⟨gb237, 1, none⟩ = some (.string ((rd_T38 t231 x27_1).f1)) := (blk_cell BK237.out 1).trans rfl
                                            have hcz51_2 : wc.cell? ⟨gb237, 2, none⟩ = some (.int .i64 ((rd_T38 t231 x27_1).f2)) := (blk_cell BK237.out 2).trans rfl
                                            have hcz51_3 : wc.cell? ⟨gb237, 3, none⟩ = some (.int .i64 ((rd_T38 t231 x27_1).f3)) := (blk_cell BK237.out 3).trans rfl
                                            have hfz51_0 := blk_frozen BK237.out 0
                                            have hfz51_1 := blk_frozen BK237.out 1
                                            have hfz51_2 := blk_frozen BK237.out 2
                                            have hfz51_3 := blk_frozen BK237.out 3
                                            go_wp2
                                            go_roundg kj13
                                            case measure => have := HK1.out; have := HJ13.out; omega
                                            case rel => exact ⟨(wrap64 (x27_1 + 1)), (by first | rfl | (simp; done) | (simp [*]; done)), H', ⟨by have := HK1.out; have := HJ13.out; omega⟩, ⟨by (with_reducible repeat (first | apply Kd.R_alloc | apply Kd.R_drewN | apply Kd.R_drew)); exact Kd.R_mono HO_25.out (fun _ hk => trivial)⟩, ⟨by repeat (first | (with_reducible first | exact HB.out | apply below_alloc | apply pw_below_drewN | apply below_drew1 | refine below_set ?_ GE237.out) | exact HB.out)⟩⟩
                                          · rw [if_neg c50] at H
                                            have c50b0 : (((rd_T38 t231 x27_1).f0) == 3) = false := beq_eq_false_iff_ne.mpr c50
                                            have c50b1 : (((rd_T38 t231 x27_1).f0) != 3) = true := bne_iff_ne.mpr c50
                                            obtain rfl := Option.some.inj H
                                            have p34 : 0 ≤ ((ji31) : Int) := of_decide_eq_true (by first | (with_reducible assumption) | assumption)
                                            have q34 : (ji31) < (a0.size : Int) := of_decide_eq_true (by first | (with_reducible assumption) | assumption)
                                            have hx34 := bt_at a0 (ji31)
                                            replace p34 := eq_true p34
                                            replace q34 := eq_true q34
                                            have hcz52_0 : wc.cell? ⟨gb237, 0, none⟩ = some (.int .i64 ((rd_T38 t231 x27_1).f0)) := (blk_cell BK237.out 0).trans rfl
                                            have hcz52_1 : wc.cell? ⟨gb237, 1, none⟩ = some (.string ((rd_T38 t231 x27_1).f1)) := (blk_cell BK237.out 1).trans rfl
                                            have hcz52_2 : wc.cell? ⟨gb237, 2, none⟩ = some (.int .i64 ((rd_T38 t231 x27_1).f2)) := (blk_cell BK237.out 2).trans rfl
                                            have hcz52_3 : wc.cell? ⟨gb237, 3, none⟩ = some (.int .i64 ((rd_T38 t231 x27_1).f3)) := (blk_cell BK237.out 3).trans rfl
                                            have hfz52_0 := blk_frozen BK237.out 0
                                            have hfz52_1 := blk_frozen BK237.out 1
                                            have hfz52_2 := blk_frozen BK237.out 2
                                            have hfz52_3 := blk_frozen BK237.out 3
                                            go_wp2
                                            go_ret
                                            exact ⟨by first | rfl | (simp [errW_none, errW_some] <;> rfl) | (simp only [← hji31]; first | rfl | (simp [errW_none, errW_some] <;> rfl)) | (simp [*, errW_none, errW_some] <;> rfl), by repeat (first | (with_reducible first | exact HB.out | apply below_alloc | apply pw_below_drewN | apply below_drew1 | refine below_set ?_ GE237.out) | exact HB.out)⟩
                                      · rw [if_neg c48] at H
                                        have c48b0 : ((bt a0 (ji31)) == 45) = false := beq_eq_false_iff_ne.mpr c48
                                        have c48b1 : ((bt a0 (ji31)) != 45) = true := bne_iff_ne.mpr c48
                                        by_cases c53 : (bt a0 (ji31)) ≤ 57
                                        · rw [if_pos c53] at H
                                          have c53b0 : decide ((bt a0 (ji31)) ≤ 57) = true := decide_eq_true c53
                                          clear c53
                                          obtain rfl := Option.some.inj H
                                          have p34 : 0 ≤ ((ji31) : Int) := of_decide_eq_true (by first | (with_reducible assumption) | assumption)
                                          have q34 : (ji31) < (a0.size : Int) := of_decide_eq_true (by first | (with_reducible assumption) | assumption)
                                          have hx34 := bt_at a0 (ji31)
                                          replace p34 := eq_true p34
                                          replace q34 := eq_true q34
                                          go_wp2
                                          go_ret
                                          exact ⟨by first | rfl | (simp [errW_none, errW_some] <;> rfl) | (simp only [← hji31]; first | rfl | (simp [errW_none, errW_some] <;> rfl)) | (simp [*, errW_none, errW_some] <;> rfl), by repeat (first | (with_reducible first | exact HB.out | apply below_alloc | apply pw_below_drewN | apply below_drew1 | refine below_set ?_ GE237.out) | exact HB.out)⟩
                                        · rw [if_neg c53] at H
                                          have c53b0 : decide ((bt a0 (ji31)) ≤ 57) = false := decide_eq_false c53
                                          clear c53
                                          by_cases c54 : (bt a0 (ji31)) = 95
                                          · rw [if_pos c54] at H
                                            have c54b0 : ((bt a0 (ji31)) == 95) = true := beq_iff_eq.mpr c54
                                            have c54b1 : ((bt a0 (ji31)) != 95) = false := bne_eq_false_iff_eq.mpr c54
                                            clear c54
                                            by_cases c55 : ((rd_T38 t231 x27_1).f0) = 3
                                            · rw [if_pos c55] at H
                                              have c55b0 : (((rd_T38 t231 x27_1).f0) == 3) = true := beq_iff_eq.mpr c55
                                              have c55b1 : (((rd_T38 t231 x27_1).f0) != 3) = false := bne_eq_false_iff_eq.mpr c55
                                              clear c55
                                              have H' := Aside0.mk H
                                              clear H
                                              have p34 : 0 ≤ ((ji31) : Int) := of_decide_eq_true (by first | (with_reducible assumption) | assumption)
                                              have q34 : (ji31) < (a0.size : Int) := of_decide_eq_true (by first | (with_reducible assumption) | assumption)
                                              have hx34 := bt_at a0 (ji31)
                                              replace p34 := eq_true p34
                                              replace q34 := eq_true q34
                                              have hcz56_0 : wc.cell? ⟨gb237, 0, none⟩ = some (.int .i64 ((rd_T38 t231 x27_1).f0)) := (blk_cell BK237.out 0).trans rfl
                                              have hcz56_1 : wc.cell? ⟨gb237, 1, none⟩ = some (.string ((rd_T38 t231 x27_1).f1)) := (blk_cell BK237.out 1).trans rfl
                                              have hcz56_2 : wc.cell? ⟨gb237, 2, none⟩ = some (.int .i64 ((rd_T38 t231 x27_1).f2)) := (blk_cell BK237.out 2).trans rfl
                                              have hcz56_3 : wc.cell? ⟨gb237, 3, none⟩ = some (.int .i64 ((rd_T38 t231 x27_1).f3)) := (blk_cell BK237.out 3).trans rfl
                                              have hfz56_0 := blk_frozen BK237.out 0
                                              have hfz56_1 := blk_frozen BK237.out 1
                                              have hfz56_2 := blk_frozen BK237.out 2
                                              have hfz56_3 := blk_frozen BK237.out 3
                                              go_wp2
                                              go_roundg kj13
                                              case measure => have := HK1.out; have := HJ13.out; omega
                                              case rel => exact ⟨(wrap64 (x27_1 + 1)), (by first | rfl | (simp; done) | (simp [*]; done)), H', ⟨by have := HK1.out; have := HJ13.out; omega⟩, ⟨by (with_reducible repeat (first | apply Kd.R_alloc | apply Kd.R_drewN | apply Kd.R_drew)); exact Kd.R_mono HO_25.out (fun _ hk => trivial)⟩, ⟨by repeat (first | (with_reducible first | exact HB.out | apply below_alloc | apply pw_below_drewN | apply below_drew1 | refine below_set ?_ GE237.out) | exact HB.out)⟩⟩
                                            · rw [if_neg c55] at H
                                              have c55b0 : (((rd_T38 t231 x27_1).f0) == 3) = false := beq_eq_false_iff_ne.mpr c55
                                              have c55b1 : (((rd_T38 t231 x27_1).f0) != 3) = true := bne_iff_ne.mpr c55
                                              obtain rfl := Option.some.inj H
                                              have p34 : 0 ≤ ((ji31) : Int) := of_decide_eq_true (by first | (with_reducible assumption) | assumption)
                                              have q34 : (ji31) < (a0.size : Int) := of_decide_eq_true (by first | (with_reducible assumption) | assumption)
                                              have hx34 := bt_at a0 (ji31)
                                              replace p34 := eq_true p34
                                              replace q34 := eq_true q34
                                              have hcz57_0 : wc.cell? ⟨gb237, 0, none⟩ = some (.int .i64 ((rd_T38 t231 x27_1).f0)) := (blk_cell BK237.out 0).trans rfl
                                              have hcz57_1 : wc.cell? ⟨gb237, 1, none⟩ = some (.string ((rd_T38 t231 x27_1).f1)) := (blk_cell BK237.out 1).trans rfl
                                              have hcz57_2 : wc.cell? ⟨gb237, 2, none⟩ = some (.int .i64 ((rd_T38 t231 x27_1).f2)) := (blk_cell BK237.out 2).trans rfl
                                              have hcz57_3 : wc.cell? ⟨gb237, 3, none⟩ = some (.int .i64 ((rd_T38 t231 x27_1).f3)) := (blk_cell BK237.out 3).trans rfl
                                              have hfz57_0 := blk_frozen BK237.out 0
                                              have hfz57_1 := blk_frozen BK237.out 1
                                              have hfz57_2 := blk_frozen BK237.out 2
                                              have hfz57_3 := blk_frozen BK237.out 3
                                              go_wp2
                                              go_ret
                                              exact ⟨by first | rfl | (simp [errW_none, errW_some] <;> rfl) | (simp only [← hji31]; first | rfl | (simp [errW_none, errW_some] <;> rfl)) | (simp [*, errW_none, errW_some] <;> rfl), by repeat (first | (with_reducible first | exact HB.out | apply below_alloc | apply pw_below_drewN | apply below_drew1 | refine below_set ?_ GE237.out) | exact HB.out)⟩
                                          · rw [if_neg c54] at H
                                            have c54b0 : ((bt a0 (ji31)) == 95) = false := beq_eq_false_iff_ne.mpr c54
                                            have c54b1 : ((bt a0 (ji31)) != 95) = true := bne_iff_ne.mpr c54
                                            have H' := Aside0.mk H
                                            clear H
                                            have p34 : 0 ≤ ((ji31) : Int) := of_decide_eq_true (by first | (with_reducible assumption) | assumption)
                                            have q34 : (ji31) < (a0.size : Int) := of_decide_eq_true (by first | (with_reducible assumption) | assumption)
                                            have hx34 := bt_at a0 (ji31)
                                            replace p34 := eq_true p34
                                            replace q34 := eq_true q34
                                            go_wp2
                                            go_roundg kj13
                                            case measure => have := HK1.out; have := HJ13.out; omega
                                            case rel => exact ⟨(wrap64 (x27_1 + 1)), (by first | rfl | (simp; done) | (simp [*]; done)), H', ⟨by have := HK1.out; have := HJ13.out; omega⟩, ⟨by (with_reducible repeat (first | apply Kd.R_alloc | apply Kd.R_drewN | apply Kd.R_drew)); exact Kd.R_mono HO_25.out (fun _ hk => trivial)⟩, ⟨by repeat (first | (with_reducible first | exact HB.out | apply below_alloc | apply pw_below_drewN | apply below_drew1 | refine below_set ?_ GE237.out) | exact HB.out)⟩⟩
                                  · rw [if_neg c42] at H
                                    have c42b0 : decide (65 ≤ (bt a0 (ji31))) = false := decide_eq_false c42
                                    clear c42
                                    by_cases c58 : (bt a0 (ji31)) = 45
                                    · rw [if_pos c58] at H
                                      have c58b0 : ((bt a0 (ji31)) == 45) = true := beq_iff_eq.mpr c58
                                      have c58b1 : ((bt a0 (ji31)) != 45) = false := bne_eq_false_iff_eq.mpr c58
                                      clear c58
                                      by_cases c59 : (bt a0 (ji31)) ≤ 57
                                      · rw [if_pos c59] at H
                                        have c59b0 : decide ((bt a0 (ji31)) ≤ 57) = true := decide_eq_true c59
                                        clear c59
                                        obtain rfl := Option.some.inj H
                                        have p34 : 0 ≤ ((ji31) : Int) := of_decide_eq_true (by first | (with_reducible assumption) | assumption)
                                        have q34 : (ji31) < (a0.size : Int) := of_decide_eq_true (by first | (with_reducible assumption) | assumption)
                                        have hx34 := bt_at a0 (ji31)
                                        replace p34 := eq_true p34
                                        replace q34 := eq_true q34
                                        go_wp2
                                        go_ret
                                        exact ⟨by first | rfl | (simp [errW_none, errW_some] <;> rfl) | (simp only [← hji31]; first | rfl | (simp [errW_none, errW_some] <;> rfl)) | (simp [*, errW_none, errW_some] <;> rfl), by repeat (first | (with_reducible first | exact HB.out | apply below_alloc | apply pw_below_drewN | apply below_drew1 | refine below_set ?_ GE237.out) | exact HB.out)⟩
                                      · rw [if_neg c59] at H
                                        have c59b0 : decide ((bt a0 (ji31)) ≤ 57) = false := decide_eq_false c59
                                        clear c59
                                        by_cases c60 : ((rd_T38 t231 x27_1).f0) = 3
                                        · rw [if_pos c60] at H
                                          have c60b0 : (((rd_T38 t231 x27_1).f0) == 3) = true := beq_iff_eq.mpr c60
                                          have c60b1 : (((rd_T38 t231 x27_1).f0) != 3) = false := bne_eq_false_iff_eq.mpr c60
                                          clear c60
                                          have H' := Aside0.mk H
                                          clear H
                                          have p34 : 0 ≤ ((ji31) : Int) := of_decide_eq_true (by first | (with_reducible assumption) | assumption)
                                          have q34 : (ji31) < (a0.size : Int) := of_decide_eq_true (by first | (with_reducible assumption) | assumption)
                                          have hx34 := bt_at a0 (ji31)
                                          replace p34 := eq_true p34
                                          replace q34 := eq_true q34
                                          have hcz61_0 : wc.cell? ⟨gb237, 0, none⟩ = some (.int .i64 ((rd_T38 t231 x27_1).f0)) := (blk_cell BK237.out 0).trans rfl
                                          have hcz61_1 : wc.cell? ⟨gb237, 1, none⟩ = some (.string ((rd_T38 t231 x27_1).f1)) := (blk_cell BK237.out 1).trans rfl
                                          have hcz61_2 : wc.cell? ⟨gb237, 2, none⟩ = some (.int .i64 ((rd_T38 t231 x27_1).f2)) := (blk_cell BK237.out 2).trans rfl
                                          have hcz61_3 : wc.cell? ⟨gb237, 3, none⟩ = some (.int .i64 ((rd_T38 t231 x27_1).f3)) := (blk_cell BK237.out 3).trans rfl
                                          have hfz61_0 := blk_frozen BK237.out 0
                                          have hfz61_1 := blk_frozen BK237.out 1
                                          have hfz61_2 := blk_frozen BK237.out 2
                                          have hfz61_3 := blk_frozen BK237.out 3
                                          go_wp2
                                          go_roundg kj13
                                          case measure => have := HK1.out; have := HJ13.out; omega
                                          case rel => exact ⟨(wrap64 (x27_1 + 1)), (by first | rfl | (simp; done) | (simp [*]; done)), H', ⟨by have := HK1.out; have := HJ13.out; omega⟩, ⟨by (with_reducible repeat (first | apply Kd.R_alloc | apply Kd.R_drewN | apply Kd.R_drew)); exact Kd.R_mono HO_25.out (fun _ hk => trivial)⟩, ⟨by repeat (first | (with_reducible first | exact HB.out | apply below_alloc | apply pw_below_drewN | apply below_drew1 | refine below_set ?_ GE237.out) | exact HB.out)⟩⟩
                                        · rw [if_neg c60] at H
                                          have c60b0 : (((rd_T38 t231 x27_1).f0) == 3) = false := beq_eq_false_iff_ne.mpr c60
                                          have c60b1 : (((rd_T38 t231 x27_1).f0) != 3) = true := bne_iff_ne.mpr c60
                                          obtain rfl := Option.some.inj H
                                          have p34 : 0 ≤ ((ji31) : Int) := of_decide_eq_true (by first | (with_reducible assumption) | assumption)
                                          have q34 : (ji31) < (a0.size : Int) := of_decide_eq_true (by first | (with_reducible assumption) | assumption)
                                          have hx34 := bt_at a0 (ji31)
                                          replace p34 := eq_true p34
                                          replace q34 := eq_true q34
                                          have hcz62_0 : wc.cell? ⟨gb237, 0, none⟩ = some (.int .i64 ((rd_T38 t231 x27_1).f0)) := (blk_cell BK237.out 0).trans rfl
                                          have hcz62_1 : wc.cell? ⟨gb237, 1, none⟩ = some (.string ((rd_T38 t231 x27_1).f1)) := (blk_cell BK237.out 1).trans rfl
                                          have hcz62_2 : wc.cell? ⟨gb237, 2, none⟩ = some (.int .i64 ((rd_T38 t231 x27_1).f2)) := (blk_cell BK237.out 2).trans rfl
                                          have hcz62_3 : wc.cell? ⟨gb237, 3, none⟩ = some (.int .i64 ((rd_T38 t231 x27_1).f3)) := (blk_cell BK237.out 3).trans rfl
                                          have hfz62_0 := blk_frozen BK237.out 0
                                          have hfz62_1 := blk_frozen BK237.out 1
                                          have hfz62_2 := blk_frozen BK237.out 2
                                          have hfz62_3 := blk_frozen BK237.out 3
                                          go_wp2
                                          go_ret
                                          exact ⟨by first | rfl | (simp [errW_none, errW_some] <;> rfl) | (simp only [← hji31]; first | rfl | (simp [errW_none, errW_some] <;> rfl)) | (simp [*, errW_none, errW_some] <;> rfl), by repeat (first | (with_reducible first | exact HB.out | apply below_alloc | apply pw_below_drewN | apply below_drew1 | refine below_set ?_ GE237.out) | exact HB.out)⟩
                                    · rw [if_neg c58] at H
                                      have c58b0 : ((bt a0 (ji31)) == 45) = false := beq_eq_false_iff_ne.mpr c58
                                      have c58b1 : ((bt a0 (ji31)) != 45) = true := bne_iff_ne.mpr c58
                                      by_cases c63 : (bt a0 (ji31)) ≤ 57
                                      · rw [if_pos c63] at H
                                        have c63b0 : decide ((bt a0 (ji31)) ≤ 57) = true := decide_eq_true c63
                                        clear c63
                                        obtain rfl := Option.some.inj H
                                        have p34 : 0 ≤ ((ji31) : Int) := of_decide_eq_true (by first | (with_reducible assumption) | assumption)
                                        have q34 : (ji31) < (a0.size : Int) := of_decide_eq_true (by first | (with_reducible assumption) | assumption)
                                        have hx34 := bt_at a0 (ji31)
                                        replace p34 := eq_true p34
                                        replace q34 := eq_true q34
                                        go_wp2
                                        go_ret
                                        exact ⟨by first | rfl | (simp [errW_none, errW_some] <;> rfl) | (simp only [← hji31]; first | rfl | (simp [errW_none, errW_some] <;> rfl)) | (simp [*, errW_none, errW_some] <;> rfl), by repeat (first | (with_reducible first | exact HB.out | apply below_alloc | apply pw_below_drewN | apply below_drew1 | refine below_set ?_ GE237.out) | exact HB.out)⟩
                                      · rw [if_neg c63] at H
                                        have c63b0 : decide ((bt a0 (ji31)) ≤ 57) = false := decide_eq_false c63
                                        clear c63
                                        by_cases c64 : (bt a0 (ji31)) = 95
                                        · rw [if_pos c64] at H
                                          have c64b0 : ((bt a0 (ji31)) == 95) = true := beq_iff_eq.mpr c64
                                          have c64b1 : ((bt a0 (ji31)) != 95) = false := bne_eq_false_iff_eq.mpr c64
                                          clear c64
                                          by_cases c65 : ((rd_T38 t231 x27_1).f0) = 3
                                          · rw [if_pos c65] at H
                                            have c65b0 : (((rd_T38 t231 x27_1).f0) == 3) = true := beq_iff_eq.mpr c65
                                            have c65b1 : (((rd_T38 t231 x27_1).f0) != 3) = false := bne_eq_false_iff_eq.mpr c65
                                            clear c65
                                            have H' := Aside0.mk H
                                            clear H
                                            have p34 : 0 ≤ ((ji31) : Int) := of_decide_eq_true (by first | (with_reducible assumption) | assumption)
                                            have q34 : (ji31) < (a0.size : Int) := of_decide_eq_true (by first | (with_reducible assumption) | assumption)
                                            have hx34 := bt_at a0 (ji31)
                                            replace p34 := eq_true p34
                                            replace q34 := eq_true q34
                                            have hcz66_0 : wc.cell? ⟨gb237, 0, none⟩ = some (.int .i64 ((rd_T38 t231 x27_1).f0)) := (blk_cell BK237.out 0).trans rfl
                                            have hcz66_1 : wc.cell? ⟨gb237, 1, none⟩ = some (.string ((rd_T38 t231 x27_1).f1)) := (blk_cell BK237.out 1).trans rfl
                                            have hcz66_2 : wc.cell? ⟨gb237, 2, none⟩ = some (.int .i64 ((rd_T38 t231 x27_1).f2)) := (blk_cell BK237.out 2).trans rfl
                                            have hcz66_3 : wc.cell? ⟨gb237, 3, none⟩ = some (.int .i64 ((rd_T38 t231 x27_1).f3)) := (blk_cell BK237.out 3).trans rfl
                                            have hfz66_0 := blk_frozen BK237.out 0
                                            have hfz66_1 := blk_frozen BK237.out 1
                                            have hfz66_2 := blk_frozen BK237.out 2
                                            have hfz66_3 := blk_frozen BK237.out 3
                                            go_wp2
                                            go_roundg kj13
                                            case measure => have := HK1.out; have := HJ13.out; omega
                                            case rel => exact ⟨(wrap64 (x27_1 + 1)), (by first | rfl | (simp; done) | (simp [*]; done)), H', ⟨by have := HK1.out; have := HJ13.out; omega⟩, ⟨by (with_reducible repeat (first | apply Kd.R_alloc | apply Kd.R_drewN | apply Kd.R_drew)); exact Kd.R_mono HO_25.out (fun _ hk => trivial)⟩, ⟨by repeat (first | (with_reducible first | exact HB.out | apply below_alloc | apply pw_below_drewN | apply below_drew1 | refine below_set ?_ GE237.out) | exact HB.out)⟩⟩
                                          · rw [if_neg c65] at H
                                            have c65b0 : (((rd_T38 t231 x27_1).f0) == 3) = false := beq_eq_false_iff_ne.mpr c65
                                            have c65b1 : (((rd_T38 t231 x27_1).f0) != 3) = true := bne_iff_ne.mpr c65
                                            obtain rfl := Option.some.inj H
                                            have p34 : 0 ≤ ((ji31) : Int) := of_decide_eq_true (by first | (with_reducible assumption) | assumption)
                                            have q34 : (ji31) < (a0.size : Int) := of_decide_eq_true (by first | (with_reducible assumption) | assumption)
                                            have hx34 := bt_at a0 (ji31)
                                            replace p34 := eq_true p34
                                            replace q34 := eq_true q34
                                            have hcz67_0 : wc.cell? ⟨gb237, 0, none⟩ = some (.int .i64 ((rd_T38 t231 x27_1).f0)) := (blk_cell BK237.out 0).trans rfl
                                            have hcz67_1 : wc.cell? ⟨gb237, 1, none⟩ = some (.string ((rd_T38 t231 x27_1).f1)) := (blk_cell BK237.out 1).trans rfl
                                            have hcz67_2 : wc.cell? ⟨gb237, 2, none⟩ = some (.int .i64 ((rd_T38 t231 x27_1).f2)) := (blk_cell BK237.out 2).trans rfl
                                            have hcz67_3 : wc.cell? ⟨gb237, 3, none⟩ = some (.int .i64 ((rd_T38 t231 x27_1).f3)) := (blk_cell BK237.out 3).trans rfl
                                            have hfz67_0 := blk_frozen BK237.out 0
                                            have hfz67_1 := blk_frozen BK237.out 1
                                            have hfz67_2 := blk_frozen BK237.out 2
                                            have hfz67_3 := blk_frozen BK237.out 3
                                            go_wp2
                                            go_ret
                                            exact ⟨by first | rfl | (simp [errW_none, errW_some] <;> rfl) | (simp only [← hji31]; first | rfl | (simp [errW_none, errW_some] <;> rfl)) | (simp [*, errW_none, errW_some] <;> rfl), by repeat (first | (with_reducible first | exact HB.out | apply below_alloc | apply pw_below_drewN | apply below_drew1 | refine below_set ?_ GE237.out) | exact HB.out)⟩
                                        · rw [if_neg c64] at H
                                          have c64b0 : ((bt a0 (ji31)) == 95) = false := beq_eq_false_iff_ne.mpr c64
                                          have c64b1 : ((bt a0 (ji31)) != 95) = true := bne_iff_ne.mpr c64
                                          have H' := Aside0.mk H
                                          clear H
                                          have p34 : 0 ≤ ((ji31) : Int) := of_decide_eq_true (by first | (with_reducible assumption) | assumption)
                                          have q34 : (ji31) < (a0.size : Int) := of_decide_eq_true (by first | (with_reducible assumption) | assumption)
                                          have hx34 := bt_at a0 (ji31)
                                          replace p34 := eq_true p34
                                          replace q34 := eq_true q34
                                          go_wp2
                                          go_roundg kj13
                                          case measure => have := HK1.out; have := HJ13.out; omega
                                          case rel => exact ⟨(wrap64 (x27_1 + 1)), (by first | rfl | (simp; done) | (simp [*]; done)), H', ⟨by have := HK1.out; have := HJ13.out; omega⟩, ⟨by (with_reducible repeat (first | apply Kd.R_alloc | apply Kd.R_drewN | apply Kd.R_drew)); exact Kd.R_mono HO_25.out (fun _ hk => trivial)⟩, ⟨by repeat (first | (with_reducible first | exact HB.out | apply below_alloc | apply pw_below_drewN | apply below_drew1 | refine below_set ?_ GE237.out) | exact HB.out)⟩⟩
                              · rw [if_neg c36] at H
                                have c36b0 : decide (97 ≤ (bt a0 (ji31))) = false := decide_eq_false c36
                                clear c36
                                by_cases c68 : (bt a0 (ji31)) ≥ 65
                                · rw [if_pos c68] at H
                                  have c68b0 : decide (65 ≤ (bt a0 (ji31))) = true := decide_eq_true c68
                                  clear c68
                                  by_cases c69 : (bt a0 (ji31)) ≤ 90
                                  · rw [if_pos c69] at H
                                    have c69b0 : decide ((bt a0 (ji31)) ≤ 90) = true := decide_eq_true c69
                                    clear c69
                                    by_cases c70 : (bt a0 (ji31)) ≤ 57
                                    · rw [if_pos c70] at H
                                      have c70b0 : decide ((bt a0 (ji31)) ≤ 57) = true := decide_eq_true c70
                                      clear c70
                                      obtain rfl := Option.some.inj H
                                      have p34 : 0 ≤ ((ji31) : Int) := of_decide_eq_true (by first | (with_reducible assumption) | assumption)
                                      have q34 : (ji31) < (a0.size : Int) := of_decide_eq_true (by first | (with_reducible assumption) | assumption)
                                      have hx34 := bt_at a0 (ji31)
                                      replace p34 := eq_true p34
                                      replace q34 := eq_true q34
                                      go_wp2
                                      go_ret
                                      exact ⟨by first | rfl | (simp [errW_none, errW_some] <;> rfl) | (simp only [← hji31]; first | rfl | (simp [errW_none, errW_some] <;> rfl)) | (simp [*, errW_none, errW_some] <;> rfl), by repeat (first | (with_reducible first | exact HB.out | apply below_alloc | apply pw_below_drewN | apply below_drew1 | refine below_set ?_ GE237.out) | exact HB.out)⟩
                                    · rw [if_neg c70] at H
                                      have c70b0 : decide ((bt a0 (ji31)) ≤ 57) = false := decide_eq_false c70
                                      clear c70
                                      by_cases c71 : ((rd_T38 t231 x27_1).f0) = 3
                                      · rw [if_pos c71] at H
                                        have c71b0 : (((rd_T38 t231 x27_1).f0) == 3) = true := beq_iff_eq.mpr c71
                                        have c71b1 : (((rd_T38 t231 x27_1).f0) != 3) = false := bne_eq_false_iff_eq.mpr c71
                                        clear c71
                                        have H' := Aside0.mk H
                                        clear H
                                        have p34 : 0 ≤ ((ji31) : Int) := of_decide_eq_true (by first | (with_reducible assumption) | assumption)
                                        have q34 : (ji31) < (a0.size : Int) := of_decide_eq_true (by first | (with_reducible assumption) | assumption)
                                        have hx34 := bt_at a0 (ji31)
                                        replace p34 := eq_true p34
                                        replace q34 := eq_true q34
                                        have hcz72_0 : wc.cell? ⟨gb237, 0, none⟩ = some (.int .i64 ((rd_T38 t231 x27_1).f0)) := (blk_cell BK237.out 0).trans rfl
                                        have hcz72_1 : wc.cell? ⟨gb237, 1, none⟩ = some (.string ((rd_T38 t231 x27_1).f1)) := (blk_cell BK237.out 1).trans rfl
                                        have hcz72_2 : wc.cell? ⟨gb237, 2, none⟩ = some (.int .i64 ((rd_T38 t231 x27_1).f2)) := (blk_cell BK237.out 2).trans rfl
                                        have hcz72_3 : wc.cell? ⟨gb237, 3, none⟩ = some (.int .i64 ((rd_T38 t231 x27_1).f3)) := (blk_cell BK237.out 3).trans rfl
                                        have hfz72_0 := blk_frozen BK237.out 0
                                        have hfz72_1 := blk_frozen BK237.out 1
                                        have hfz72_2 := blk_frozen BK237.out 2
                                        have hfz72_3 := blk_frozen BK237.out 3
                                        go_wp2
                                        go_roundg kj13
                                        case measure => have := HK1.out; have := HJ13.out; omega
                                        case rel => exact ⟨(wrap64 (x27_1 + 1)), (by first | rfl | (simp; done) | (simp [*]; done)), H', ⟨by have := HK1.out; have := HJ13.out; omega⟩, ⟨by (with_reducible repeat (first | apply Kd.R_alloc | apply Kd.R_drewN | apply Kd.R_drew)); exact Kd.R_mono HO_25.out (fun _ hk => trivial)⟩, ⟨by repeat (first | (with_reducible first | exact HB.out | apply below_alloc | apply pw_below_drewN | apply below_drew1 | refine below_set ?_ GE237.out) | exact HB.out)⟩⟩
                                      · rw [if_neg c71] at H
                                        have c71b0 : (((rd_T38 t231 x27_1).f0) == 3) = false := beq_eq_false_iff_ne.mpr c71
                                        have c71b1 : (((rd_T38 t231 x27_1).f0) != 3) = true := bne_iff_ne.mpr c71
                                        obtain rfl := Option.some.inj H
                                        have p34 : 0 ≤ ((ji31) : Int) := of_decide_eq_true (by first | (with_reducible assumption) | assumption)
                                        have q34 : (ji31) < (a0.size : Int) := of_decide_eq_true (by first | (with_reducible assumption) | assumption)
                                        have hx34 := bt_at a0 (ji31)
                                        replace p34 := eq_true p34
                                        replace q34 := eq_true q34
                                        have hcz73_0 : wc.cell? ⟨gb237, 0, none⟩ = some (.int .i64 ((rd_T38 t231 x27_1).f0)) := (blk_cell BK237.out 0).trans rfl
                                        have hcz73_1 : wc.cell? ⟨gb237, 1, none⟩ = some (.string ((rd_T38 t231 x27_1).f1)) := (blk_cell BK237.out 1).trans rfl
                                        have hcz73_2 : wc.cell? ⟨gb237, 2, none⟩ = some (.int .i64 ((rd_T38 t231 x27_1).f2)) := (blk_cell BK237.out 2).trans rfl
                                        have hcz73_3 : wc.cell? ⟨gb237, 3, none⟩ = some (.int .i64 ((rd_T38 t231 x27_1).f3)) := (blk_cell BK237.out 3).trans rfl
                                        have hfz73_0 := blk_frozen BK237.out 0
                                        have hfz73_1 := blk_frozen BK237.out 1
                                        have hfz73_2 := blk_frozen BK237.out 2
                                        have hfz73_3 := blk_frozen BK237.out 3
                                        go_wp2
                                        go_ret
                                        exact ⟨by first | rfl | (simp [errW_none, errW_some] <;> rfl) | (simp only [← hji31]; first | rfl | (simp [errW_none, errW_some] <;> rfl)) | (simp [*, errW_none, errW_some] <;> rfl), by repeat (first | (with_reducible first | exact HB.out | apply below_alloc | apply pw_below_drewN | apply below_drew1 | refine below_set ?_ GE237.out) | exact HB.out)⟩
                                  · rw [if_neg c69] at H
                                    have c69b0 : decide ((bt a0 (ji31)) ≤ 90) = false := decide_eq_false c69
                                    clear c69
                                    by_cases c74 : (bt a0 (ji31)) = 45
                                    · rw [if_pos c74] at H
                                      have c74b0 : ((bt a0 (ji31)) == 45) = true := beq_iff_eq.mpr c74
                                      have c74b1 : ((bt a0 (ji31)) != 45) = false := bne_eq_false_iff_eq.mpr c74
                                      clear c74
                                      by_cases c75 : (bt a0 (ji31)) ≤ 57
                                      · rw [if_pos c75] at H
                                        have c75b0 : decide ((bt a0 (ji31)) ≤ 57) = true := decide_eq_true c75
                                        clear c75
                                        obtain rfl := Option.some.inj H
                                        have p34 : 0 ≤ ((ji31) : Int) := of_decide_eq_true (by first | (with_reducible assumption) | assumption)
                                        have q34 : (ji31) < (a0.size : Int) := of_decide_eq_true (by first | (with_reducible assumption) | assumption)
                                        have hx34 := bt_at a0 (ji31)
                                        replace p34 := eq_true p34
                                        replace q34 := eq_true q34
                                        go_wp2
                                        go_ret
                                        exact ⟨by first | rfl | (simp [errW_none, errW_some] <;> rfl) | (simp only [← hji31]; first | rfl | (simp [errW_none, errW_some] <;> rfl)) | (simp [*, errW_none, errW_some] <;> rfl), by repeat (first | (with_reducible first | exact HB.out | apply below_alloc | apply pw_below_drewN | apply below_drew1 | refine below_set ?_ GE237.out) | exact HB.out)⟩
                                      · rw [if_neg c75] at H
                                        have c75b0 : decide ((bt a0 (ji31)) ≤ 57) = false := decide_eq_false c75
                                        clear c75
                                        by_cases c76 : ((rd_T38 t231 x27_1).f0) = 3
                                        · rw [if_pos c76] at H
                                          have c76b0 : (((rd_T38 t231 x27_1).f0) == 3) = true := beq_iff_eq.mpr c76
                                          have c76b1 : (((rd_T38 t231 x27_1).f0) != 3) = false := bne_eq_false_iff_eq.mpr c76
                                          clear c76
                                          have H' := Aside0.mk H
                                          clear H
                                          have p34 : 0 ≤ ((ji31) : Int) := of_decide_eq_true (by first | (with_reducible assumption) | assumption)
                                          have q34 : (ji31) < (a0.size : Int) := of_decide_eq_true (by first | (with_reducible assumption) | assumption)
                                          have hx34 := bt_at a0 (ji31)
                                          replace p34 := eq_true p34
                                          replace q34 := eq_true q34
                                          have hcz77_0 : wc.cell? ⟨gb237, 0, none⟩ = some (.int .i64 ((rd_T38 t231 x27_1).f0)) := (blk_cell BK237.out 0).trans rfl
                                          have hcz77_1 : wc.cell? ⟨gb237, 1, none⟩ = some (.string ((rd_T38 t231 x27_1).f1)) := (blk_cell BK237.out 1).trans rfl
                                          have hcz77_2 : wc.cell? ⟨gb237, 2, none⟩ = some (.int .i64 ((rd_T38 t231 x27_1).f2)) := (blk_cell BK237.out 2).trans rfl
                                          have hcz77_3 : wc.cell? ⟨gb237, 3, none⟩ = some (.int .i64 ((rd_T38 t231 x27_1).f3)) := (blk_cell BK237.out 3).trans rfl
                                          have hfz77_0 := blk_frozen BK237.out 0
                                          have hfz77_1 := blk_frozen BK237.out 1
                                          have hfz77_2 := blk_frozen BK237.out 2
                                          have hfz77_3 := blk_frozen BK237.out 3
                                          go_wp2
                                          go_roundg kj13
                                          case measure => have := HK1.out; have := HJ13.out; omega
                                          case rel => exact ⟨(wrap64 (x27_1 + 1)), (by first | rfl | (simp; done) | (simp [*]; done)), H', ⟨by have := HK1.out; have := HJ13.out; omega⟩, ⟨by (with_reducible repeat (first | apply Kd.R_alloc | apply Kd.R_drewN | apply Kd.R_drew)); exact Kd.R_mono HO_25.out (fun _ hk => trivial)⟩, ⟨by repeat (first | (with_reducible first | exact HB.out | apply below_alloc | apply pw_below_drewN | apply below_drew1 | refine below_set ?_ GE237.out) | exact HB.out)⟩⟩
                                        · rw [if_neg c76] at H
                                          have c76b0 : (((rd_T38 t231 x27_1).f0) == 3) = false := beq_eq_false_iff_ne.mpr c76
                                          have c76b1 : (((rd_T38 t231 x27_1).f0) != 3) = true := bne_iff_ne.mpr c76
                                          obtain rfl := Option.some.inj H
                                          have p34 : 0 ≤ ((ji31) : Int) := of_decide_eq_true (by first | (with_reducible assumption) | assumption)
                                          have q34 : (ji31) < (a0.size : Int) := of_decide_eq_true (by first | (with_reducible assumption) | assumption)
                                          have hx34 := bt_at a0 (ji31)
                                          replace p34 := eq_true p34
                                          replace q34 := eq_true q34
                                          have hcz78_0 : wc.cell? ⟨gb237, 0, none⟩ = some (.int .i64 ((rd_T38 t231 x27_1).f0)) := (blk_cell BK237.out 0).trans rfl
                                          have hcz78_1 : wc.cell? ⟨gb237, 1, none⟩ = some (.string ((rd_T38 t231 x27_1).f1)) := (blk_cell BK237.out 1).trans rfl
                                          have hcz78_2 : wc.cell? ⟨gb237, 2, none⟩ = some (.int .i64 ((rd_T38 t231 x27_1).f2)) := (blk_cell BK237.out 2).trans rfl
                                          have hcz78_3 : wc.cell? ⟨gb237, 3, none⟩ = some (.int .i64 ((rd_T38 t231 x27_1).f3)) := (blk_cell BK237.out 3).trans rfl
                                          have hfz78_0 := blk_frozen BK237.out 0
                                          have hfz78_1 := blk_frozen BK237.out 1
                                          have hfz78_2 := blk_frozen BK237.out 2
                                          have hfz78_3 := blk_frozen BK237.out 3
                                          go_wp2
                                          go_ret
                                          exact ⟨by first | rfl | (simp [errW_none, errW_some] <;> rfl) | (simp only [← hji31]; first | rfl | (simp [errW_none, errW_some] <;> rfl)) | (simp [*, errW_none, errW_some] <;> rfl), by repeat (first | (with_reducible first | exact HB.out | apply below_alloc | apply pw_below_drewN | apply below_drew1 | refine below_set ?_ GE237.out) | exact HB.out)⟩
                                    · rw [if_neg c74] at H
                                      have c74b0 : ((bt a0 (ji31)) == 45) = false := beq_eq_false_iff_ne.mpr c74
                                      have c74b1 : ((bt a0 (ji31)) != 45) = true := bne_iff_ne.mpr c74
                                      by_cases c79 : (bt a0 (ji31)) ≤ 57
                                      · rw [if_pos c79] at H
                                        have c79b0 : decide ((bt a0 (ji31)) ≤ 57) = true := decide_eq_true c79
                                        clear c79
                                        obtain rfl := Option.some.inj H
                                        have p34 : 0 ≤ ((ji31) : Int) := of_decide_eq_true (by first | (with_reducible assumption) | assumption)
                                        have q34 : (ji31) < (a0.size : Int) := of_decide_eq_true (by first | (with_reducible assumption) | assumption)
                                        have hx34 := bt_at a0 (ji31)
                                        replace p34 := eq_true p34
                                        replace q34 := eq_true q34
                                        go_wp2
                                        go_ret
                                        exact ⟨by first | rfl | (simp [errW_none, errW_some] <;> rfl) | (simp only [← hji31]; first | rfl | (simp [errW_none, errW_some] <;> rfl)) | (simp [*, errW_none, errW_some] <;> rfl), by repeat (first | (with_reducible first | exact HB.out | apply below_alloc | apply pw_below_drewN | apply below_drew1 | refine below_set ?_ GE237.out) | exact HB.out)⟩
                                      · rw [if_neg c79] at H
                                        have c79b0 : decide ((bt a0 (ji31)) ≤ 57) = false := decide_eq_false c79
                                        clear c79
                                        by_cases c80 : (bt a0 (ji31)) = 95
                                        · rw [if_pos c80] at H
                                          have c80b0 : ((bt a0 (ji31)) == 95) = true := beq_iff_eq.mpr c80
                                          have c80b1 : ((bt a0 (ji31)) != 95) = false := bne_eq_false_iff_eq.mpr c80
                                          clear c80
                                          by_cases c81 : ((rd_T38 t231 x27_1).f0) = 3
                                          · rw [if_pos c81] at H
                                            have c81b0 : (((rd_T38 t231 x27_1).f0) == 3) = true := beq_iff_eq.mpr c81
                                            have c81b1 : (((rd_T38 t231 x27_1).f0) != 3) = false := bne_eq_false_iff_eq.mpr c81
                                            clear c81
                                            have H' := Aside0.mk H
                                            clear H
                                            have p34 : 0 ≤ ((ji31) : Int) := of_decide_eq_true (by first | (with_reducible assumption) | assumption)
                                            have q34 : (ji31) < (a0.size : Int) := of_decide_eq_true (by first | (with_reducible assumption) | assumption)
                                            have hx34 := bt_at a0 (ji31)
                                            replace p34 := eq_true p34
                                            replace q34 := eq_true q34
                                            have hcz82_0 : wc.cell? ⟨gb237, 0, none⟩ = some (.int .i64 ((rd_T38 t231 x27_1).f0)) := (blk_cell BK237.out 0).trans rfl
                                            have hcz82_1 : wc.cell? ⟨gb237, 1, none⟩ = some (.string ((rd_T38 t231 x27_1).f1)) := (blk_cell BK237.out 1).trans rfl
                                            have hcz82_2 : wc.cell? ⟨gb237, 2, none⟩ = some (.int .i64 ((rd_T38 t231 x27_1).f2)) := (blk_cell BK237.out 2).trans rfl
                                            have hcz82_3 : wc.cell? ⟨gb237, 3, none⟩ = some (.int .i64 ((rd_T38 t231 x27_1).f3)) := (blk_cell BK237.out 3).trans rfl
                                            have hfz82_0 := blk_frozen BK237.out 0
                                            have hfz82_1 := blk_frozen BK237.out 1
                                            have hfz82_2 := blk_frozen BK237.out 2
                                            have hfz82_3 := blk_frozen BK237.out 3
                                            go_wp2
                                            go_roundg kj13
                                            case measure => have := HK1.out; have := HJ13.out; omega
                                            case rel => exact ⟨(wrap64 (x27_1 + 1)), (by first | rfl | (simp; done) | (simp [*]; done)), H', ⟨by have := HK1.out; have := HJ13.out; omega⟩, ⟨by (with_reducible repeat (first | apply Kd.R_alloc | apply Kd.R_drewN | apply Kd.R_drew)); exact Kd.R_mono HO_25.out (fun _ hk => trivial)⟩, ⟨by repeat (first | (with_reducible first | exact HB.out | apply below_alloc | apply pw_below_drewN | apply below_drew1 | refine below_set ?_ GE237.out) | exact HB.out)⟩⟩
                                          · rw [if_neg c81] at H
                                            have c81b0 : (((rd_T38 t231 x27_1).f0) == 3) = false := beq_eq_false_iff_ne.mpr c81
                                            have c81b1 : (((rd_T38 t231 x27_1).f0) != 3) = true := bne_iff_ne.mpr c81
                                            obtain rfl := Option.some.inj H
                                            have p34 : 0 ≤ ((ji31) : Int) := of_decide_eq_true (by first | (with_reducible assumption) | assumption)
                                            have q34 : (ji31) < (a0.size : Int) := of_decide_eq_true (by first | (with_reducible assumption) | assumption)
                                            have hx34 := bt_at a0 (ji31)
                                            replace p34 := eq_true p34
                                            replace q34 := eq_true q34
                                            have hcz83_0 : wc.cell? ⟨gb237, 0, none⟩ = some (.int .i64 ((rd_T38 t231 x27_1).f0)) := (blk_cell BK237.out 0).trans rfl
                                            have hcz83_1 : wc.cell? ⟨gb237, 1, none⟩ = some (.string ((rd_T38 t231 x27_1).f1)) := (blk_cell BK237.out 1).trans rfl
                                            have hcz83_2 : wc.cell? ⟨gb237, 2, none⟩ = some (.int .i64 ((rd_T38 t231 x27_1).f2)) := (blk_cell BK237.out 2).trans rfl
                                            have hcz83_3 : wc.cell? ⟨gb237, 3, none⟩ = some (.int .i64 ((rd_T38 t231 x27_1).f3)) := (blk_cell BK237.out 3).trans rfl
                                            have hfz83_0 := blk_frozen BK237.out 0
                                            have hfz83_1 := blk_frozen BK237.out 1
                                            have hfz83_2 := blk_frozen BK237.out 2
                                            have hfz83_3 := blk_frozen BK237.out 3
                                            go_wp2
                                            go_ret
                                            exact ⟨by first | rfl | (simp [errW_none, errW_some] <;> rfl) | (simp only [← hji31]; first | rfl | (simp [errW_none, errW_some] <;> rfl)) | (simp [*, errW_none, errW_some] <;> rfl), by repeat (first | (with_reducible first | exact HB.out | apply below_alloc | apply pw_below_drewN | apply below_drew1 | refine below_set ?_ GE237.out) | exact HB.out)⟩
                                        · rw [if_neg c80] at H
                                          have c80b0 : ((bt a0 (ji31)) == 95) = false := beq_eq_false_iff_ne.mpr c80
                                          have c80b1 : ((bt a0 (ji31)) != 95) = true := bne_iff_ne.mpr c80
                                          have H' := Aside0.mk H
                                          clear H
                                          have p34 : 0 ≤ ((ji31) : Int) := of_decide_eq_true (by first | (with_reducible assumption) | assumption)
                                          have q34 : (ji31) < (a0.size : Int) := of_decide_eq_true (by first | (with_reducible assumption) | assumption)
                                          have hx34 := bt_at a0 (ji31)
                                          replace p34 := eq_true p34
                                          replace q34 := eq_true q34
                                          go_wp2
                                          go_roundg kj13
                                          case measure => have := HK1.out; have := HJ13.out; omega
                                          case rel => exact ⟨(wrap64 (x27_1 + 1)), (by first | rfl | (simp; done) | (simp [*]; done)), H', ⟨by have := HK1.out; have := HJ13.out; omega⟩, ⟨by (with_reducible repeat (first | apply Kd.R_alloc | apply Kd.R_drewN | apply Kd.R_drew)); exact Kd.R_mono HO_25.out (fun _ hk => trivial)⟩, ⟨by repeat (first | (with_reducible first | exact HB.out | apply below_alloc | apply pw_below_drewN | apply below_drew1 | refine below_set ?_ GE237.out) | exact HB.out)⟩⟩
                                · rw [if_neg c68] at H
                                  have c68b0 : decide (65 ≤ (bt a0 (ji31))) = false := decide_eq_false c68
                                  clear c68
                                  by_cases c84 : (bt a0 (ji31)) = 45
                                  · rw [if_pos c84] at H
                                    have c84b0 : ((bt a0 (ji31)) == 45) = true := beq_iff_eq.mpr c84
                                    have c84b1 : ((bt a0 (ji31)) != 45) = false := bne_eq_false_iff_eq.mpr c84
                                    clear c84
                                    by_cases c85 : (bt a0 (ji31)) ≤ 57
                                    · rw [if_pos c85] at H
                                      have c85b0 : decide ((bt a0 (ji31)) ≤ 57) = true := decide_eq_true c85
                                      clear c85
                                      obtain rfl := Option.some.inj H
                                      have p34 : 0 ≤ ((ji31) : Int) := of_decide_eq_true (by first | (with_reducible assumption) | assumption)
                                      have q34 : (ji31) < (a0.size : Int) := of_decide_eq_true (by first | (with_reducible assumption) | assumption)
                                      have hx34 := bt_at a0 (ji31)
                                      replace p34 := eq_true p34
                                      replace q34 := eq_true q34
                                      go_wp2
                                      go_ret
                                      exact ⟨by first | rfl | (simp [errW_none, errW_some] <;> rfl) | (simp only [← hji31]; first | rfl | (simp [errW_none, errW_some] <;> rfl)) | (simp [*, errW_none, errW_some] <;> rfl), by repeat (first | (with_reducible first | exact HB.out | apply below_alloc | apply pw_below_drewN | apply below_drew1 | refine below_set ?_ GE237.out) | exact HB.out)⟩
                                    · rw [if_neg c85] at H
                                      have c85b0 : decide ((bt a0 (ji31)) ≤ 57) = false := decide_eq_false c85
                                      clear c85
                                      by_cases c86 : ((rd_T38 t231 x27_1).f0) = 3
                                      · rw [if_pos c86] at H
                                        have c86b0 : (((rd_T38 t231 x27_1).f0) == 3) = true := beq_iff_eq.mpr c86
                                        have c86b1 : (((rd_T38 t231 x27_1).f0) != 3) = false := bne_eq_false_iff_eq.mpr c86
                                        clear c86
                                        have H' := Aside0.mk H
                                        clear H
                                        have p34 : 0 ≤ ((ji31) : Int) := of_decide_eq_true (by first | (with_reducible assumption) | assumption)
                                        have q34 : (ji31) < (a0.size : Int) := of_decide_eq_true (by first | (with_reducible assumption) | assumption)
                                        have hx34 := bt_at a0 (ji31)
                                        replace p34 := eq_true p34
                                        replace q34 := eq_true q34
                                        have hcz87_0 : wc.cell? ⟨gb237, 0, none⟩ = some (.int .i64 ((rd_T38 t231 x27_1).f0)) := (blk_cell BK237.out 0).trans rfl
                                        have hcz87_1 : wc.cell? ⟨gb237, 1, none⟩ = some (.string ((rd_T38 t231 x27_1).f1)) := (blk_cell BK237.out 1).trans rfl
                                        have hcz87_2 : wc.cell? ⟨gb237, 2, none⟩ = some (.int .i64 ((rd_T38 t231 x27_1).f2)) := (blk_cell BK237.out 2).trans rfl
                                        have hcz87_3 : wc.cell? ⟨gb237, 3, none⟩ = some (.int .i64 ((rd_T38 t231 x27_1).f3)) := (blk_cell BK237.out 3).trans rfl
                                        have hfz87_0 := blk_frozen BK237.out 0
                                        have hfz87_1 := blk_frozen BK237.out 1
                                        have hfz87_2 := blk_frozen BK237.out 2
                                        have hfz87_3 := blk_frozen BK237.out 3
                                        go_wp2
                                        go_roundg kj13
                                        case measure => have := HK1.out; have := HJ13.out; omega
                                        case rel => exact ⟨(wrap64 (x27_1 + 1)), (by first | rfl | (simp; done) | (simp [*]; done)), H', ⟨by have := HK1.out; have := HJ13.out; omega⟩, ⟨by (with_reducible repeat (first | apply Kd.R_alloc | apply Kd.R_drewN | apply Kd.R_drew)); exact Kd.R_mono HO_25.out (fun _ hk => trivial)⟩, ⟨by repeat (first | (with_reducible first | exact HB.out | apply below_alloc | apply pw_below_drewN | apply below_drew1 | refine below_set ?_ GE237.out) | exact HB.out)⟩⟩
                                      · rw [if_neg c86] at H
                                        have c86b0 : (((rd_T38 t231 x27_1).f0) == 3) = false := beq_eq_false_iff_ne.mpr c86
                                        have c86b1 : (((rd_T38 t231 x27_1).f0) != 3) = true := bne_iff_ne.mpr c86
                                        obtain rfl := Option.some.inj H
                                        have p34 : 0 ≤ ((ji31) : Int) := of_decide_eq_true (by first | (with_reducible assumption) | assumption)
                                        have q34 : (ji31) < (a0.size : Int) := of_decide_eq_true (by first | (with_reducible assumption) | assumption)
                                        have hx34 := bt_at a0 (ji31)
                                        replace p34 := eq_true p34
                                        replace q34 := eq_true q34
                                        have hcz88_0 : wc.cell? ⟨gb237, 0, none⟩ = some (.int .i64 ((rd_T38 t231 x27_1).f0)) := (blk_cell BK237.out 0).trans rfl
                                        have hcz88_1 : wc.cell? ⟨gb237, 1, none⟩ = some (.string ((rd_T38 t231 x27_1).f1)) := (blk_cell BK237.out 1).trans rfl
                                        have hcz88_2 : wc.cell? ⟨gb237, 2, none⟩ = some (.int .i64 ((rd_T38 t231 x27_1).f2)) := (blk_cell BK237.out 2).trans rfl
                                        have hcz88_3 : wc.cell? ⟨gb237, 3, none⟩ = some (.int .i64 ((rd_T38 t231 x27_1).f3)) := (blk_cell BK237.out 3).trans rfl
                                        have hfz88_0 := blk_frozen BK237.out 0
                                        have hfz88_1 := blk_frozen BK237.out 1
                                        have hfz88_2 := blk_frozen BK237.out 2
                                        have hfz88_3 := blk_frozen BK237.out 3
                                        go_wp2
                                        go_ret
                                        exact ⟨by first | rfl | (simp [errW_none, errW_some] <;> rfl) | (simp only [← hji31]; first | rfl | (simp [errW_none, errW_some] <;> rfl)) | (simp [*, errW_none, errW_some] <;> rfl), by repeat (first | (with_reducible first | exact HB.out | apply below_alloc | apply pw_below_drewN | apply below_drew1 | refine below_set ?_ GE237.out) | exact HB.out)⟩
                                  · rw [if_neg c84] at H
                                    have c84b0 : ((bt a0 (ji31)) == 45) = false := beq_eq_false_iff_ne.mpr c84
                                    have c84b1 : ((bt a0 (ji31)) != 45) = true := bne_iff_ne.mpr c84
                                    by_cases c89 : (bt a0 (ji31)) ≤ 57
                                    · rw [if_pos c89] at H
                                      have c89b0 : decide ((bt a0 (ji31)) ≤ 57) = true := decide_eq_true c89
                                      clear c89
                                      obtain rfl := Option.some.inj H
                                      have p34 : 0 ≤ ((ji31) : Int) := of_decide_eq_true (by first | (with_reducible assumption) | assumption)
                                      have q34 : (ji31) < (a0.size : Int) := of_decide_eq_true (by first | (with_reducible assumption) | assumption)
                                      have hx34 := bt_at a0 (ji31)
                                      replace p34 := eq_true p34
                                      replace q34 := eq_true q34
                                      go_wp2
                                      go_ret
                                      exact ⟨by first | rfl | (simp [errW_none, errW_some] <;> rfl) | (simp only [← hji31]; first | rfl | (simp [errW_none, errW_some] <;> rfl)) | (simp [*, errW_none, errW_some] <;> rfl), by repeat (first | (with_reducible first | exact HB.out | apply below_alloc | apply pw_below_drewN | apply below_drew1 | refine below_set ?_ GE237.out) | exact HB.out)⟩
                                    · rw [if_neg c89] at H
                                      have c89b0 : decide ((bt a0 (ji31)) ≤ 57) = false := decide_eq_false c89
                                      clear c89
                                      by_cases c90 : (bt a0 (ji31)) = 95
                                      · rw [if_pos c90] at H
                                        have c90b0 : ((bt a0 (ji31)) == 95) = true := beq_iff_eq.mpr c90
                                        have c90b1 : ((bt a0 (ji31)) != 95) = false := bne_eq_false_iff_eq.mpr c90
                                        clear c90
                                        by_cases c91 : ((rd_T38 t231 x27_1).f0) = 3
                                        · rw [if_pos c91] at H
                                          have c91b0 : (((rd_T38 t231 x27_1).f0) == 3) = true := beq_iff_eq.mpr c91
                                          have c91b1 : (((rd_T38 t231 x27_1).f0) != 3) = false := bne_eq_false_iff_eq.mpr c91
                                          clear c91
                                          have H' := Aside0.mk H
                                          clear H
                                          have p34 : 0 ≤ ((ji31) : Int) := of_decide_eq_true (by first | (with_reducible assumption) | assumption)
                                          have q34 : (ji31) < (a0.size : Int) := of_decide_eq_true (by first | (with_reducible assumption) | assumption)
                                          have hx34 := bt_at a0 (ji31)
                                          replace p34 := eq_true p34
                                          replace q34 := eq_true q34
                                          have hcz92_0 : wc.cell? ⟨gb237, 0, none⟩ = some (.int .i64 ((rd_T38 t231 x27_1).f0)) := (blk_cell BK237.out 0).trans rfl
                                          have hcz92_1 : wc.cell? ⟨gb237, 1, none⟩ = some (.string ((rd_T38 t231 x27_1).f1)) := (blk_cell BK237.out 1).trans rfl
                                          have hcz92_2 : wc.cell? ⟨gb237, 2, none⟩ = some (.int .i64 ((rd_T38 t231 x27_1).f2)) := (blk_cell BK237.out 2).trans rfl
                                          have hcz92_3 : wc.cell? ⟨gb237, 3, none⟩ = some (.int .i64 ((rd_T38 t231 x27_1).f3)) := (blk_cell BK237.out 3).trans rfl
                                          have hfz92_0 := blk_frozen BK237.out 0
                                          have hfz92_1 := blk_frozen BK237.out 1
                                          have hfz92_2 := blk_frozen BK237.out 2
                                          have hfz92_3 := blk_frozen BK237.out 3
                                          go_wp2
                                          go_roundg kj13
                                          case measure => have := HK1.out; have := HJ13.out; omega
                                          case rel => exact ⟨(wrap64 (x27_1 + 1)), (by first | rfl | (simp; done) | (simp [*]; done)), H', ⟨by have := HK1.out; have := HJ13.out; omega⟩, ⟨by (with_reducible repeat (first | apply Kd.R_alloc | apply Kd.R_drewN | apply Kd.R_drew)); exact Kd.R_mono HO_25.out (fun _ hk => trivial)⟩, ⟨by repeat (first | (with_reducible first | exact HB.out | apply below_alloc | apply pw_below_drewN | apply below_drew1 | refine below_set ?_ GE237.out) | exact HB.out)⟩⟩
                                        · rw [if_neg c91] at H
                                          have c91b0 : (((rd_T38 t231 x27_1).f0) == 3) = false := beq_eq_false_iff_ne.mpr c91
                                          have c91b1 : (((rd_T38 t231 x27_1).f0) != 3) = true := bne_iff_ne.mpr c91
                                          obtain rfl := Option.some.inj H
                                          have p34 : 0 ≤ ((ji31) : Int) := of_decide_eq_true (by first | (with_reducible assumption) | assumption)
                                          have q34 : (ji31) < (a0.size : Int) := of_decide_eq_true (by first | (with_reducible assumption) | assumption)
                                          have hx34 := bt_at a0 (ji31)
                                          replace p34 := eq_true p34
                                          replace q34 := eq_true q34
                                          have hcz93_0 : wc.cell? ⟨gb237, 0, none⟩ = some (.int .i64 ((rd_T38 t231 x27_1).f0)) := (blk_cell BK237.out 0).trans rfl
                                          have hcz93_1 : wc.cell? ⟨gb237, 1, none⟩ = some (.string ((rd_T38 t231 x27_1).f1)) := (blk_cell BK237.out 1).trans rfl
                                          have hcz93_2 : wc.cell? ⟨gb237, 2, none⟩ = some (.int .i64 ((rd_T38 t231 x27_1).f2)) := (blk_cell BK237.out 2).trans rfl
                                          have hcz93_3 : wc.cell? ⟨gb237, 3, none⟩ = some (.int .i64 ((rd_T38 t231 x27_1).f3)) := (blk_cell BK237.out 3).trans rfl
                                          have hfz93_0 := blk_frozen BK237.out 0
                                          have hfz93_1 := blk_frozen BK237.out 1
                                          have hfz93_2 := blk_frozen BK237.out 2
                                          have hfz93_3 := blk_frozen BK237.out 3
                                          go_wp2
                                          go_ret
                                          exact ⟨by first | rfl | (simp [errW_none, errW_some] <;> rfl) | (simp only [← hji31]; first | rfl | (simp [errW_none, errW_some] <;> rfl)) | (simp [*, errW_none, errW_some] <;> rfl), by repeat (first | (with_reducible first | exact HB.out | apply below_alloc | apply pw_below_drewN | apply below_drew1 | refine below_set ?_ GE237.out) | exact HB.out)⟩
                                      · rw [if_neg c90] at H
                                        have c90b0 : ((bt a0 (ji31)) == 95) = false := beq_eq_false_iff_ne.mpr c90
                                        have c90b1 : ((bt a0 (ji31)) != 95) = true := bne_iff_ne.mpr c90
                                        have H' := Aside0.mk H
                                        clear H
                                        have p34 : 0 ≤ ((ji31) : Int) := of_decide_eq_true (by first | (with_reducible assumption) | assumption)
                                        have q34 : (ji31) < (a0.size : Int) := of_decide_eq_true (by first | (with_reducible assumption) | assumption)
                                        have hx34 := bt_at a0 (ji31)
                                        replace p34 := eq_true p34
                                        replace q34 := eq_true q34
                                        go_wp2
                                        go_roundg kj13
                                        case measure => have := HK1.out; have := HJ13.out; omega
                                        case rel => exact ⟨(wrap64 (x27_1 + 1)), (by first | rfl | (simp; done) | (simp [*]; done)), H', ⟨by have := HK1.out; have := HJ13.out; omega⟩, ⟨by (with_reducible repeat (first | apply Kd.R_alloc | apply Kd.R_drewN | apply Kd.R_drew)); exact Kd.R_mono HO_25.out (fun _ hk => trivial)⟩, ⟨by repeat (first | (with_reducible first | exact HB.out | apply below_alloc | apply pw_below_drewN | apply below_drew1 | refine below_set ?_ GE237.out) | exact HB.out)⟩⟩
                            · rw [if_neg c35] at H
                              have c35b0 : decide (48 ≤ (bt a0 (ji31))) = false := decide_eq_false c35
                              clear c35
                              by_cases c94 : (bt a0 (ji31)) ≥ 97
                              · rw [if_pos c94] at H
                                have c94b0 : decide (97 ≤ (bt a0 (ji31))) = true := decide_eq_true c94
                                clear c94
                                by_cases c95 : (bt a0 (ji31)) ≤ 122
                                · rw [if_pos c95] at H
                                  have c95b0 : decide ((bt a0 (ji31)) ≤ 122) = true := decide_eq_true c95
                                  clear c95
                                  by_cases c96 : ((rd_T38 t231 x27_1).f0) = 3
                                  · rw [if_pos c96] at H
                                    have c96b0 : (((rd_T38 t231 x27_1).f0) == 3) = true := beq_iff_eq.mpr c96
                                    have c96b1 : (((rd_T38 t231 x27_1).f0) != 3) = false := bne_eq_false_iff_eq.mpr c96
                                    clear c96
                                    have H' := Aside0.mk H
                                    clear H
                                    have p34 : 0 ≤ ((ji31) : Int) := of_decide_eq_true (by first | (with_reducible assumption) | assumption)
                                    have q34 : (ji31) < (a0.size : Int) := of_decide_eq_true (by first | (with_reducible assumption) | assumption)
                                    have hx34 := bt_at a0 (ji31)
                                    replace p34 := eq_true p34
                                    replace q34 := eq_true q34
                                    have hcz97_0 : wc.cell? ⟨gb237, 0, none⟩ = some (.int .i64 ((rd_T38 t231 x27_1).f0)) := (blk_cell BK237.out 0).trans rfl
                                    have hcz97_1 : wc.cell? ⟨gb237, 1, none⟩ = some (.string ((rd_T38 t231 x27_1).f1)) := (blk_cell BK237.out 1).trans rfl
                                    have hcz97_2 : wc.cell? ⟨gb237, 2, none⟩ = some (.int .i64 ((rd_T38 t231 x27_1).f2)) := (blk_cell BK237.out 2).trans rfl
                                    have hcz97_3 : wc.cell? ⟨gb237, 3, none⟩ = some (.int .i64 ((rd_T38 t231 x27_1).f3)) := (blk_cell BK237.out 3).trans rfl
                                    have hfz97_0 := blk_frozen BK237.out 0
                                    have hfz97_1 := blk_frozen BK237.out 1
                                    have hfz97_2 := blk_frozen BK237.out 2
                                    have hfz97_3 := blk_frozen BK237.out 3
                                    go_wp2
                                    go_roundg kj13
                                    case measure => have := HK1.out; have := HJ13.out; omega
                                    case rel => exact ⟨(wrap64 (x27_1 + 1)), (by first | rfl | (simp; done) | (simp [*]; done)), H', ⟨by have := HK1.out; have := HJ13.out; omega⟩, ⟨by (with_reducible repeat (first | apply Kd.R_alloc | apply Kd.R_drewN | apply Kd.R_drew)); exact Kd.R_mono HO_25.out (fun _ hk => trivial)⟩, ⟨by repeat (first | (with_reducible first | exact HB.out | apply below_alloc | apply pw_below_drewN | apply below_drew1 | refine below_set ?_ GE237.out) | exact HB.out)⟩⟩
                                  · rw [if_neg c96] at H
                                    have c96b0 : (((rd_T38 t231 x27_1).f0) == 3) = false := beq_eq_false_iff_ne.mpr c96
                                    have c96b1 : (((rd_T38 t231 x27_1).f0) != 3) = true := bne_iff_ne.mpr c96
                                    obtain rfl := Option.some.inj H
                                    have p34 : 0 ≤ ((ji31) : Int) := of_decide_eq_true (by first | (with_reducible assumption) | assumption)
                                    have q34 : (ji31) < (a0.size : Int) := of_decide_eq_true (by first | (with_reducible assumption) | assumption)
                                    have hx34 := bt_at a0 (ji31)
                                    replace p34 := eq_true p34
                                    replace q34 := eq_true q34
                                    have hcz98_0 : wc.cell? ⟨gb237, 0, none⟩ = some (.int .i64 ((rd_T38 t231 x27_1).f0)) := (blk_cell BK237.out 0).trans rfl
                                    have hcz98_1 : wc.cell? ⟨gb237, 1, none⟩ = some (.string ((rd_T38 t231 x27_1).f1)) := (blk_cell BK237.out 1).trans rfl
                                    have hcz98_2 : wc.cell? ⟨gb237, 2, none⟩ = some (.int .i64 ((rd_T38 t231 x27_1).f2)) := (blk_cell BK237.out 2).trans rfl
                                    have hcz98_3 : wc.cell? ⟨gb237, 3, none⟩ = some (.int .i64 ((rd_T38 t231 x27_1).f3)) := (blk_cell BK237.out 3).trans rfl
                                    have hfz98_0 := blk_frozen BK237.out 0
                                    have hfz98_1 := blk_frozen BK237.out 1
                                    have hfz98_2 := blk_frozen BK237.out 2
                                    have hfz98_3 := blk_frozen BK237.out 3
                                    go_wp2
                                    go_ret
                                    exact ⟨by first | rfl | (simp [errW_none, errW_some] <;> rfl) | (simp only [← hji31]; first | rfl | (simp [errW_none, errW_some] <;> rfl)) | (simp [*, errW_none, errW_some] <;> rfl), by repeat (first | (with_reducible first | exact HB.out | apply below_alloc | apply pw_below_drewN | apply below_drew1 | refine below_set ?_ GE237.out) | exact HB.out)⟩
                                · rw [if_neg c95] at H
                                  have c95b0 : decide ((bt a0 (ji31)) ≤ 122) = false := decide_eq_false c95
                                  clear c95
                                  by_cases c99 : (bt a0 (ji31)) ≥ 65
                                  · rw [if_pos c99] at H
                                    have c99b0 : decide (65 ≤ (bt a0 (ji31))) = true := decide_eq_true c99
                                    clear c99
                                    by_cases c100 : (bt a0 (ji31)) ≤ 90
                                    · rw [if_pos c100] at H
                                      have c100b0 : decide ((bt a0 (ji31)) ≤ 90) = true := decide_eq_true c100
                                      clear c100
                                      by_cases c101 : ((rd_T38 t231 x27_1).f0) = 3
                                      · rw [if_pos c101] at H
                                        have c101b0 : (((rd_T38 t231 x27_1).f0) == 3) = true := beq_iff_eq.mpr c101
                                        have c101b1 : (((rd_T38 t231 x27_1).f0) != 3) = false := bne_eq_false_iff_eq.mpr c101
                                        clear c101
                                        have H' := Aside0.mk H
                                        clear H
                                        have p34 : 0 ≤ ((ji31) : Int) := of_decide_eq_true (by first | (with_reducible assumption) | assumption)
                                        have q34 : (ji31) < (a0.size : Int) := of_decide_eq_true (by first | (with_reducible assumption) | assumption)
                                        have hx34 := bt_at a0 (ji31)
                                        replace p34 := eq_true p34
                                        replace q34 := eq_true q34
                                        have hcz102_0 : wc.cell? ⟨gb237, 0, none⟩ = some (.int .i64 ((rd_T38 t231 x27_1).f0)) := (blk_cell BK237.out 0).trans rfl
                                        have hcz102_1 : wc.cell? ⟨gb237, 1, none⟩ = some (.string ((rd_T38 t231 x27_1).f1)) := (blk_cell BK237.out 1).trans rfl
                                        have hcz102_2 : wc.cell? ⟨gb237, 2, none⟩ = some (.int .i64 ((rd_T38 t231 x27_1).f2)) := (blk_cell BK237.out 2).trans rfl
                                        have hcz102_3 : wc.cell? ⟨gb237, 3, none⟩ = some (.int .i64 ((rd_T38 t231 x27_1).f3)) := (blk_cell BK237.out 3).trans rfl
                                        have hfz102_0 := blk_frozen BK237.out 0
                                        have hfz102_1 := blk_frozen BK237.out 1
                                        have hfz102_2 := blk_frozen BK237.out 2
                                        have hfz102_3 := blk_frozen BK237.out 3
                                        go_wp2
                                        go_roundg kj13
                                        case measure => have := HK1.out; have := HJ13.out; omega
                                        case rel => exact ⟨(wrap64 (x27_1 + 1)), (by first | rfl | (simp; done) | (simp [*]; done)), H', ⟨by have := HK1.out; have := HJ13.out; omega⟩, ⟨by (with_reducible repeat (first | apply Kd.R_alloc | apply Kd.R_drewN | apply Kd.R_drew)); exact Kd.R_mono HO_25.out (fun _ hk => trivial)⟩, ⟨by repeat (first | (with_reducible first | exact HB.out | apply below_alloc | apply pw_below_drewN | apply below_drew1 | refine below_set ?_ GE237.out) | exact HB.out)⟩⟩
                                      · rw [if_neg c101] at H
                                        have c101b0 : (((rd_T38 t231 x27_1).f0) == 3) = false := beq_eq_false_iff_ne.mpr c101
                                        have c101b1 : (((rd_T38 t231 x27_1).f0) != 3) = true := bne_iff_ne.mpr c101
                                        obtain rfl := Option.some.inj H
                                        have p34 : 0 ≤ ((ji31) : Int) := of_decide_eq_true (by first | (with_reducible assumption) | assumption)
                                        have q34 : (ji31) < (a0.size : Int) := of_decide_eq_true (by first | (with_reducible assumption) | assumption)
                                        have hx34 := bt_at a0 (ji31)
                                        replace p34 := eq_true p34
                                        replace q34 := eq_true q34
                                        have hcz103_0 : wc.cell? ⟨gb237, 0, none⟩ = some (.int .i64 ((rd_T38 t231 x27_1).f0)) := (blk_cell BK237.out 0).trans rfl
                                        have hcz103_1 : wc.cell? ⟨gb237, 1, none⟩ = some (.string ((rd_T38 t231 x27_1).f1)) := (blk_cell BK237.out 1).trans rfl
                                        have hcz103_2 : wc.cell? ⟨gb237, 2, none⟩ = some (.int .i64 ((rd_T38 t231 x27_1).f2)) := (blk_cell BK237.out 2).trans rfl
                                        have hcz103_3 : wc.cell? ⟨gb237, 3, none⟩ = some (.int .i64 ((rd_T38 t231 x27_1).f3)) := (blk_cell BK237.out 3).trans rfl
                                        have hfz103_0 := blk_frozen BK237.out 0
                                        have hfz103_1 := blk_frozen BK237.out 1
                                        have hfz103_2 := blk_frozen BK237.out 2
                                        have hfz103_3 := blk_frozen BK237.out 3
                                        go_wp2
                                        go_ret
                                        exact ⟨by first | rfl | (simp [errW_none, errW_some] <;> rfl) | (simp only [← hji31]; first | rfl | (simp [errW_none, errW_some] <;> rfl)) | (simp [*, errW_none, errW_some] <;> rfl), by repeat (first | (with_reducible first | exact HB.out | apply below_alloc | apply pw_below_drewN | apply below_drew1 | refine below_set ?_ GE237.out) | exact HB.out)⟩
                                    · rw [if_neg c100] at H
                                      have c100b0 : decide ((bt a0 (ji31)) ≤ 90) = false := decide_eq_false c100
                                      clear c100
                                      by_cases c104 : (bt a0 (ji31)) = 45
                                      · rw [if_pos c104] at H
                                        have c104b0 : ((bt a0 (ji31)) == 45) = true := beq_iff_eq.mpr c104
                                        have c104b1 : ((bt a0 (ji31)) != 45) = false := bne_eq_false_iff_eq.mpr c104
                                        clear c104
                                        by_cases c105 : ((rd_T38 t231 x27_1).f0) = 3
                                        · rw [if_pos c105] at H
                                          have c105b0 : (((rd_T38 t231 x27_1).f0) == 3) = true := beq_iff_eq.mpr c105
                                          have c105b1 : (((rd_T38 t231 x27_1).f0) != 3) = false := bne_eq_false_iff_eq.mpr c105
                                          clear c105
                                          have H' := Aside0.mk H
                                          clear H
                                          have p34 : 0 ≤ ((ji31) : Int) := of_decide_eq_true (by first | (with_reducible assumption) | assumption)
                                          have q34 : (ji31) < (a0.size : Int) := of_decide_eq_true (by first | (with_reducible assumption) | assumption)
                                          have hx34 := bt_at a0 (ji31)
                                          replace p34 := eq_true p34
                                          replace q34 := eq_true q34
                                          have hcz106_0 : wc.cell? ⟨gb237, 0, none⟩ = some (.int .i64 ((rd_T38 t231 x27_1).f0)) := (blk_cell BK237.out 0).trans rfl
                                          have hcz106_1 : wc.cell? ⟨gb237, 1, none⟩ = some (.string ((rd_T38 t231 x27_1).f1)) := (blk_cell BK237.out 1).trans rfl
                                          have hcz106_2 : wc.cell? ⟨gb237, 2, none⟩ = some (.int .i64 ((rd_T38 t231 x27_1).f2)) := (blk_cell BK237.out 2).trans rfl
                                          have hcz106_3 : wc.cell? ⟨gb237, 3, none⟩ = some (.int .i64 ((rd_T38 t231 x27_1).f3)) := (blk_cell BK237.out 3).trans rfl
                                          have hfz106_0 := blk_frozen BK237.out 0
                                          have hfz106_1 := blk_frozen BK237.out 1
                                          have hfz106_2 := blk_frozen BK237.out 2
                                          have hfz106_3 := blk_frozen BK237.out 3
                                          go_wp2
                                          go_roundg kj13
                                          case measure => have := HK1.out; have := HJ13.out; omega
                                          case rel => exact ⟨(wrap64 (x27_1 + 1)), (by first | rfl | (simp; done) | (simp [*]; done)), H', ⟨by have := HK1.out; have := HJ13.out; omega⟩, ⟨by (with_reducible repeat (first | apply Kd.R_alloc | apply Kd.R_drewN | apply Kd.R_drew)); exact Kd.R_mono HO_25.out (fun _ hk => trivial)⟩, ⟨by repeat (first | (with_reducible first | exact HB.out | apply below_alloc | apply pw_below_drewN | apply below_drew1 | refine below_set ?_ GE237.out) | exact HB.out)⟩⟩
                                        · rw [if_neg c105] at H
                                          have c105b0 : (((rd_T38 t231 x27_1).f0) == 3) = false := beq_eq_false_iff_ne.mpr c105
                                          have c105b1 : (((rd_T38 t231 x27_1).f0) != 3) = true := bne_iff_ne.mpr c105
                                          obtain rfl := Option.some.inj H
                                          have p34 : 0 ≤ ((ji31) : Int) := of_decide_eq_true (by first | (with_reducible assumption) | assumption)
                                          have q34 : (ji31) < (a0.size : Int) := of_decide_eq_true (by first | (with_reducible assumption) | assumption)
                                          have hx34 := bt_at a0 (ji31)
                                          replace p34 := eq_true p34
                                          replace q34 := eq_true q34
                                          have hcz107_0 : wc.cell? ⟨gb237, 0, none⟩ = some (.int .i64 ((rd_T38 t231 x27_1).f0)) := (blk_cell BK237.out 0).trans rfl
                                          have hcz107_1 : wc.cell? ⟨gb237, 1, none⟩ = some (.string ((rd_T38 t231 x27_1).f1)) := (blk_cell BK237.out 1).trans rfl
                                          have hcz107_2 : wc.cell? ⟨gb237, 2, none⟩ = some (.int .i64 ((rd_T38 t231 x27_1).f2)) := (blk_cell BK237.out 2).trans rfl
                                          have hcz107_3 : wc.cell? ⟨gb237, 3, none⟩ = some (.int .i64 ((rd_T38 t231 x27_1).f3)) := (blk_cell BK237.out 3).trans rfl
                                          have hfz107_0 := blk_frozen BK237.out 0
                                          have hfz107_1 := blk_frozen BK237.out 1
                                          have hfz107_2 := blk_frozen BK237.out 2
                                          have hfz107_3 := blk_frozen BK237.out 3
                                          go_wp2
                                          go_ret
                                          exact ⟨by first | rfl | (simp [errW_none, errW_some] <;> rfl) | (simp only [← hji31]; first | rfl | (simp [errW_none, errW_some] <;> rfl)) | (simp [*, errW_none, errW_some] <;> rfl), by repeat (first | (with_reducible first | exact HB.out | apply below_alloc | apply pw_below_drewN | apply below_drew1 | refine below_set ?_ GE237.out) | exact HB.out)⟩
                                      · rw [if_neg c104] at H
                                        have c104b0 : ((bt a0 (ji31)) == 45) = false := beq_eq_false_iff_ne.mpr c104
                                        have c104b1 : ((bt a0 (ji31)) != 45) = true := bne_iff_ne.mpr c104
                                        by_cases c108 : (bt a0 (ji31)) = 95
                                        · rw [if_pos c108] at H
                                          have c108b0 : ((bt a0 (ji31)) == 95) = true := beq_iff_eq.mpr c108
                                          have c108b1 : ((bt a0 (ji31)) != 95) = false := bne_eq_false_iff_eq.mpr c108
                                          clear c108
                                          by_cases c109 : ((rd_T38 t231 x27_1).f0) = 3
                                          · rw [if_pos c109] at H
                                            have c109b0 : (((rd_T38 t231 x27_1).f0) == 3) = true := beq_iff_eq.mpr c109
                                            have c109b1 : (((rd_T38 t231 x27_1).f0) != 3) = false := bne_eq_false_iff_eq.mpr c109
                                            clear c109
                                            have H' := Aside0.mk H
                                            clear H
                                            have p34 : 0 ≤ ((ji31) : Int) := of_decide_eq_true (by first | (with_reducible assumption) | assumption)
                                            have q34 : (ji31) < (a0.size : Int) := of_decide_eq_true (by first | (with_reducible assumption) | assumption)
                                            have hx34 := bt_at a0 (ji31)
                                            replace p34 := eq_true p34
                                            replace q34 := eq_true q34
                                            have hcz110_0 : wc.cell? ⟨gb237, 0, none⟩ = some (.int .i64 ((rd_T38 t231 x27_1).f0)) := (blk_cell BK237.out 0).trans rfl
                                            have hcz110_1 : wc.cell? ⟨gb237, 1, none⟩ = some (.string ((rd_T38 t231 x27_1).f1)) := (blk_cell BK237.out 1).trans rfl
                                            have hcz110_2 : wc.cell? ⟨gb237, 2, none⟩ = some (.int .i64 ((rd_T38 t231 x27_1).f2)) := (blk_cell BK237.out 2).trans rfl
                                            have hcz110_3 : wc.cell? ⟨gb237, 3, none⟩ = some (.int .i64 ((rd_T38 t231 x27_1).f3)) := (blk_cell BK237.out 3).trans rfl
                                            have hfz110_0 := blk_frozen BK237.out 0
                                            have hfz110_1 := blk_frozen BK237.out 1
                                            have hfz110_2 := blk_frozen BK237.out 2
                                            have hfz110_3 := blk_frozen BK237.out 3
                                            go_wp2
                                            go_roundg kj13
                                            case measure => have := HK1.out; have := HJ13.out; omega
                                            case rel => exact ⟨(wrap64 (x27_1 + 1)), (by first | rfl | (simp; done) | (simp [*]; done)), H', ⟨by have := HK1.out; have := HJ13.out; omega⟩, ⟨by (with_reducible repeat (first | apply Kd.R_alloc | apply Kd.R_drewN | apply Kd.R_drew)); exact Kd.R_mono HO_25.out (fun _ hk => trivial)⟩, ⟨by repeat (first | (with_reducible first | exact HB.out | apply below_alloc | apply pw_below_drewN | apply below_drew1 | refine below_set ?_ GE237.out) | exact HB.out)⟩⟩
                                          · rw [if_neg c109] at H
                                            have c109b0 : (((rd_T38 t231 x27_1).f0) == 3) = false := beq_eq_false_iff_ne.mpr c109
                                            have c109b1 : (((rd_T38 t231 x27_1).f0) != 3) = true := bne_iff_ne.mpr c109
                                            obtain rfl := Option.some.inj H
                                            have p34 : 0 ≤ ((ji31) : Int) := of_decide_eq_true (by first | (with_reducible assumption) | assumption)
                                            have q34 : (ji31) < (a0.size : Int) := of_decide_eq_true (by first | (with_reducible assumption) | assumption)
                                            have hx34 := bt_at a0 (ji31)
                                            replace p34 := eq_true p34
                                            replace q34 := eq_true q34
                                            have hcz111_0 : wc.cell? ⟨gb237, 0, none⟩ = some (.int .i64 ((rd_T38 t231 x27_1).f0)) := (blk_cell BK237.out 0).trans rfl
                                            have hcz111_1 : wc.cell? ⟨gb237, 1, none⟩ = some (.string ((rd_T38 t231 x27_1).f1)) := (blk_cell BK237.out 1).trans rfl
                                            have hcz111_2 : wc.cell? ⟨gb237, 2, none⟩ = some (.int .i64 ((rd_T38 t231 x27_1).f2)) := (blk_cell BK237.out 2).trans rfl
                                            have hcz111_3 : wc.cell? ⟨gb237, 3, none⟩ = some (.int .i64 ((rd_T38 t231 x27_1).f3)) := (blk_cell BK237.out 3).trans rfl
                                            have hfz111_0 := blk_frozen BK237.out 0
                                            have hfz111_1 := blk_frozen BK237.out 1
                                            have hfz111_2 := blk_frozen BK237.out 2
                                            have hfz111_3 := blk_frozen BK237.out 3
                                            go_wp2
                                            go_ret
                                            exact ⟨by first | rfl | (simp [errW_none, errW_some] <;> rfl) | (simp only [← hji31]; first | rfl | (simp [errW_none, errW_some] <;> rfl)) | (simp [*, errW_none, errW_some] <;> rfl), by repeat (first | (with_reducible first | exact HB.out | apply below_alloc | apply pw_below_drewN | apply below_drew1 | refine below_set ?_ GE237.out) | exact HB.out)⟩
                                        · rw [if_neg c108] at H
                                          have c108b0 : ((bt a0 (ji31)) == 95) = false := beq_eq_false_iff_ne.mpr c108
                                          have c108b1 : ((bt a0 (ji31)) != 95) = true := bne_iff_ne.mpr c108
                                          have H' := Aside0.mk H
                                          clear H
                                          have p34 : 0 ≤ ((ji31) : Int) := of_decide_eq_true (by first | (with_reducible assumption) | assumption)
                                          have q34 : (ji31) < (a0.size : Int) := of_decide_eq_true (by first | (with_reducible assumption) | assumption)
                                          have hx34 := bt_at a0 (ji31)
                                          replace p34 := eq_true p34
                                          replace q34 := eq_true q34
                                          go_wp2
                                          go_roundg kj13
                                          case measure => have := HK1.out; have := HJ13.out; omega
                                          case rel => exact ⟨(wrap64 (x27_1 + 1)), (by first | rfl | (simp; done) | (simp [*]; done)), H', ⟨by have := HK1.out; have := HJ13.out; omega⟩, ⟨by (with_reducible repeat (first | apply Kd.R_alloc | apply Kd.R_drewN | apply Kd.R_drew)); exact Kd.R_mono HO_25.out (fun _ hk => trivial)⟩, ⟨by repeat (first | (with_reducible first | exact HB.out | apply below_alloc | apply pw_below_drewN | apply below_drew1 | refine below_set ?_ GE237.out) | exact HB.out)⟩⟩
                                  · rw [if_neg c99] at H
                                    have c99b0 : decide (65 ≤ (bt a0 (ji31))) = false := decide_eq_false c99
                                    clear c99
                                    by_cases c112 : (bt a0 (ji31)) = 45
                                    · rw [if_pos c112] at H
                                      have c112b0 : ((bt a0 (ji31)) == 45) = true := beq_iff_eq.mpr c112
                                      have c112b1 : ((bt a0 (ji31)) != 45) = false := bne_eq_false_iff_eq.mpr c112
                                      clear c112
                                      by_cases c113 : ((rd_T38 t231 x27_1).f0) = 3
                                      · rw [if_pos c113] at H
                                        have c113b0 : (((rd_T38 t231 x27_1).f0) == 3) = true := beq_iff_eq.mpr c113
                                        have c113b1 : (((rd_T38 t231 x27_1).f0) != 3) = false := bne_eq_false_iff_eq.mpr c113
                                        clear c113
                                        have H' := Aside0.mk H
                                        clear H
                                        have p34 : 0 ≤ ((ji31) : Int) := of_decide_eq_true (by first | (with_reducible assumption) | assumption)
                                        have q34 : (ji31) < (a0.size : Int) := of_decide_eq_true (by first | (with_reducible assumption) | assumption)
                                        have hx34 := bt_at a0 (ji31)
                                        replace p34 := eq_true p34
                                        replace q34 := eq_true q34
                                        have hcz114_0 : wc.cell? ⟨gb237, 0, none⟩ = some (.int .i64 ((rd_T38 t231 x27_1).f0)) := (blk_cell BK237.out 0).trans rfl
                                        have hcz114_1 : wc.cell? ⟨gb237, 1, none⟩ = some (.string ((rd_T38 t231 x27_1).f1)) := (blk_cell BK237.out 1).trans rfl
                                        have hcz114_2 : wc.cell? ⟨gb237, 2, none⟩ = some (.int .i64 ((rd_T38 t231 x27_1).f2)) := (blk_cell BK237.out 2).trans rfl
                                        have hcz114_3 : wc.cell? ⟨gb237, 3, none⟩ = some (.int .i64 ((rd_T38 t231 x27_1).f3)) := (blk_cell BK237.out 3).trans rfl
                                        have hfz114_0 := blk_frozen BK237.out 0
                                        have hfz114_1 := blk_frozen BK237.out 1
                                        have hfz114_2 := blk_frozen BK237.out 2
                                        have hfz114_3 := blk_frozen BK237.out 3
                                        go_wp2
                                        go_roundg kj13
                                        case measure => have := HK1.out; have := HJ13.out; omega
                                        case rel => exact ⟨(wrap64 (x27_1 + 1)), (by first | rfl | (simp; done) | (simp [*]; done)), H', ⟨by have := HK1.out; have := HJ13.out; omega⟩, ⟨by (with_reducible repeat (first | apply Kd.R_alloc | apply Kd.R_drewN | apply Kd.R_drew)); exact Kd.R_mono HO_25.out (fun _ hk => trivial)⟩, ⟨by repeat (first | (with_reducible first | exact HB.out | apply below_alloc | apply pw_below_drewN | apply below_drew1 | refine below_set ?_ GE237.out) | exact HB.out)⟩⟩
                                      · rw [if_neg c113] at H
                                        have c113b0 : (((rd_T38 t231 x27_1).f0) == 3) = false := beq_eq_false_iff_ne.mpr c113
                                        have c113b1 : (((rd_T38 t231 x27_1).f0) != 3) = true := bne_iff_ne.mpr c113
                                        obtain rfl := Option.some.inj H
                                        have p34 : 0 ≤ ((ji31) : Int) := of_decide_eq_true (by first | (with_reducible assumption) | assumption)
                                        have q34 : (ji31) < (a0.size : Int) := of_decide_eq_true (by first | (with_reducible assumption) | assumption)
                                        have hx34 := bt_at a0 (ji31)
                                        replace p34 := eq_true p34
                                        replace q34 := eq_true q34
                                        have hcz115_0 : wc.cell? ⟨gb237, 0, none⟩ = some (.int .i64 ((rd_T38 t231 x27_1).f0)) := (blk_cell BK237.out 0).trans rfl
                                        have hcz115_1 : wc.cell? ⟨gb237, 1, none⟩ = some (.string ((rd_T38 t231 x27_1).f1)) := (blk_cell BK237.out 1).trans rfl
                                        have hcz115_2 : wc.cell? ⟨gb237, 2, none⟩ = some (.int .i64 ((rd_T38 t231 x27_1).f2)) := (blk_cell BK237.out 2).trans rfl
                                        have hcz115_3 : wc.cell? ⟨gb237, 3, none⟩ = some (.int .i64 ((rd_T38 t231 x27_1).f3)) := (blk_cell BK237.out 3).trans rfl
                                        have hfz115_0 := blk_frozen BK237.out 0
                                        have hfz115_1 := blk_frozen BK237.out 1
                                        have hfz115_2 := blk_frozen BK237.out 2
                                        have hfz115_3 := blk_frozen BK237.out 3
                                        go_wp2
                                        go_ret
                                        exact ⟨by first | rfl | (simp [errW_none, errW_some] <;> rfl) | (simp only [← hji31]; first | rfl | (simp [errW_none, errW_some] <;> rfl)) | (simp [*, errW_none, errW_some] <;> rfl), by repeat (first | (with_reducible first | exact HB.out | apply below_alloc | apply pw_below_drewN | apply below_drew1 | refine below_set ?_ GE237.out) | exact HB.out)⟩
                                    · rw [if_neg c112] at H
                                      have c112b0 : ((bt a0 (ji31)) == 45) = false := beq_eq_false_iff_ne.mpr c112
                                      have c112b1 : ((bt a0 (ji31)) != 45) = true := bne_iff_ne.mpr c112
                                      by_cases c116 : (bt a0 (ji31)) = 95
                                      · rw [if_pos c116] at H
                                        have c116b0 : ((bt a0 (ji31)) == 95) = true := beq_iff_eq.mpr c116
                                        have c116b1 : ((bt a0 (ji31)) != 95) = false := bne_eq_false_iff_eq.mpr c116
                                        clear c116
                                        by_cases c117 : ((rd_T38 t231 x27_1).f0) = 3
                                        · rw [if_pos c117] at H
                                          have c117b0 : (((rd_T38 t231 x27_1).f0) == 3) = true := beq_iff_eq.mpr c117
                                          have c117b1 : (((rd_T38 t231 x27_1).f0) != 3) = false := bne_eq_false_iff_eq.mpr c117
                                          clear c117
                                          have H' := Aside0.mk H
                                          clear H
                                          have p34 : 0 ≤ ((ji31) : Int) := of_decide_eq_true (by first | (with_reducible assumption) | assumption)
                                          have q34 : (ji31) < (a0.size : Int) := of_decide_eq_true (by first | (with_reducible assumption) | assumption)
                                          have hx34 := bt_at a0 (ji31)
                                          replace p34 := eq_true p34
                                          replace q34 := eq_true q34
                                          have hcz118_0 : wc.cell? ⟨gb237, 0, none⟩ = some (.int .i64 ((rd_T38 t231 x27_1).f0)) := (blk_cell BK237.out 0).trans rfl
                                          have hcz118_1 : wc.cell? ⟨gb237, 1, none⟩ = some (.string ((rd_T38 t231 x27_1).f1)) := (blk_cell BK237.out 1).trans rfl
                                          have hcz118_2 : wc.cell? ⟨gb237, 2, none⟩ = some (.int .i64 ((rd_T38 t231 x27_1).f2)) := (blk_cell BK237.out 2).trans rfl
                                          have hcz118_3 : wc.cell? ⟨gb237, 3, none⟩ = some (.int .i64 ((rd_T38 t231 x27_1).f3)) := (blk_cell BK237.out 3).trans rfl
                                          have hfz118_0 := blk_frozen BK237.out 0
                                          have hfz118_1 := blk_frozen BK237.out 1
                                          have hfz118_2 := blk_frozen BK237.out 2
                                          have hfz118_3 := blk_frozen BK237.out 3
                                          go_wp2
                                          go_roundg kj13
                                          case measure => have := HK1.out; have := HJ13.out; omega
                                          case rel => exact ⟨(wrap64 (x27_1 + 1)), (by first | rfl | (simp; done) | (simp [*]; done)), H', ⟨by have := HK1.out; have := HJ13.out; omega⟩, ⟨by (with_reducible repeat (first | apply Kd.R_alloc | apply Kd.R_drewN | apply Kd.R_drew)); exact Kd.R_mono HO_25.out (fun _ hk => trivial)⟩, ⟨by repeat (first | (with_reducible first | exact HB.out | apply below_alloc | apply pw_below_drewN | apply below_drew1 | refine below_set ?_ GE237.out) | exact HB.out)⟩⟩
                                        · rw [if_neg c117] at H
                                          have c117b0 : (((rd_T38 t231 x27_1).f0) == 3) = false := beq_eq_false_iff_ne.mpr c117
                                          have c117b1 : (((rd_T38 t231 x27_1).f0) != 3) = true := bne_iff_ne.mpr c117
                                          obtain rfl := Option.some.inj H
                                          have p34 : 0 ≤ ((ji31) : Int) := of_decide_eq_true (by first | (with_reducible assumption) | assumption)
                                          have q34 : (ji31) < (a0.size : Int) := of_decide_eq_true (by first | (with_reducible assumption) | assumption)
                                          have hx34 := bt_at a0 (ji31)
                                          replace p34 := eq_true p34
                                          replace q34 := eq_true q34
                                          have hcz119_0 : wc.cell? ⟨gb237, 0, none⟩ = some (.int .i64 ((rd_T38 t231 x27_1).f0)) := (blk_cell BK237.out 0).trans rfl
                                          have hcz119_1 : wc.cell? ⟨gb237, 1, none⟩ = some (.string ((rd_T38 t231 x27_1).f1)) := (blk_cell BK237.out 1).trans rfl
                                          have hcz119_2 : wc.cell? ⟨gb237, 2, none⟩ = some (.int .i64 ((rd_T38 t231 x27_1).f2)) := (blk_cell BK237.out 2).trans rfl
                                          have hcz119_3 : wc.cell? ⟨gb237, 3, none⟩ = some (.int .i64 ((rd_T38 t231 x27_1).f3)) := (blk_cell BK237.out 3).trans rfl
                                          have hfz119_0 := blk_frozen BK237.out 0
                                          have hfz119_1 := blk_frozen BK237.out 1
                                          have hfz119_2 := blk_frozen BK237.out 2
                                          have hfz119_3 := blk_frozen BK237.out 3
                                          go_wp2
                                          go_ret
                                          exact ⟨by first | rfl | (simp [errW_none, errW_some] <;> rfl) | (simp only [← hji31]; first | rfl | (simp [errW_none, errW_some] <;> rfl)) | (simp [*, errW_none, errW_some] <;> rfl), by repeat (first | (with_reducible first | exact HB.out | apply below_alloc | apply pw_below_drewN | apply below_drew1 | refine below_set ?_ GE237.out) | exact HB.out)⟩
                                      · rw [if_neg c116] at H
                                        have c116b0 : ((bt a0 (ji31)) == 95) = false := beq_eq_false_iff_ne.mpr c116
                                        have c116b1 : ((bt a0 (ji31)) != 95) = true := bne_iff_ne.mpr c116
                                        have H' := Aside0.mk H
                                        clear H
                                        have p34 : 0 ≤ ((ji31) : Int) := of_decide_eq_true (by first | (with_reducible assumption) | assumption)
                                        have q34 : (ji31) < (a0.size : Int) := of_decide_eq_true (by first | (with_reducible assumption) | assumption)
                                        have hx34 := bt_at a0 (ji31)
                                        replace p34 := eq_true p34
                                        replace q34 := eq_true q34
                                        go_wp2
                                        go_roundg kj13
                                        case measure => have := HK1.out; have := HJ13.out; omega
                                        case rel => exact ⟨(wrap64 (x27_1 + 1)), (by first | rfl | (simp; done) | (simp [*]; done)), H', ⟨by have := HK1.out; have := HJ13.out; omega⟩, ⟨by (with_reducible repeat (first | apply Kd.R_alloc | apply Kd.R_drewN | apply Kd.R_drew)); exact Kd.R_mono HO_25.out (fun _ hk => trivial)⟩, ⟨by repeat (first | (with_reducible first | exact HB.out | apply below_alloc | apply pw_below_drewN | apply below_drew1 | refine below_set ?_ GE237.out) | exact HB.out)⟩⟩
                              · rw [if_neg c94] at H
                                have c94b0 : decide (97 ≤ (bt a0 (ji31))) = false := decide_eq_false c94
                                clear c94
                                by_cases c120 : (bt a0 (ji31)) ≥ 65
                                · rw [if_pos c120] at H
                                  have c120b0 : decide (65 ≤ (bt a0 (ji31))) = true := decide_eq_true c120
                                  clear c120
                                  by_cases c121 : (bt a0 (ji31)) ≤ 90
                                  · rw [if_pos c121] at H
                                    have c121b0 : decide ((bt a0 (ji31)) ≤ 90) = true := decide_eq_true c121
                                    clear c121
                                    by_cases c122 : ((rd_T38 t231 x27_1).f0) = 3
                                    · rw [if_pos c122] at H
                                      have c122b0 : (((rd_T38 t231 x27_1).f0) == 3) = true := beq_iff_eq.mpr c122
                                      have c122b1 : (((rd_T38 t231 x27_1).f0) != 3) = false := bne_eq_false_iff_eq.mpr c122
                                      clear c122
                                      have H' := Aside0.mk H
                                      clear H
                                      have p34 : 0 ≤ ((ji31) : Int) := of_decide_eq_true (by first | (with_reducible assumption) | assumption)
                                      have q34 : (ji31) < (a0.size : Int) := of_decide_eq_true (by first | (with_reducible assumption) | assumption)
                                      have hx34 := bt_at a0 (ji31)
                                      replace p34 := eq_true p34
                                      replace q34 := eq_true q34
                                      have hcz123_0 : wc.cell? ⟨gb237, 0, none⟩ = some (.int .i64 ((rd_T38 t231 x27_1).f0)) := (blk_cell BK237.out 0).trans rfl
                                      have hcz123_1 : wc.cell? ⟨gb237, 1, none⟩ = some (.string ((rd_T38 t231 x27_1).f1)) := (blk_cell BK237.out 1).trans rfl
                                      have hcz123_2 : wc.cell? ⟨gb237, 2, none⟩ = some (.int .i64 ((rd_T38 t231 x27_1).f2)) := (blk_cell BK237.out 2).trans rfl
                                      have hcz123_3 : wc.cell? ⟨gb237, 3, none⟩ = some (.int .i64 ((rd_T38 t231 x27_1).f3)) := (blk_cell BK237.out 3).trans rfl
                                      have hfz123_0 := blk_frozen BK237.out 0
                                      have hfz123_1 := blk_frozen BK237.out 1
                                      have hfz123_2 := blk_frozen BK237.out 2
                                      have hfz123_3 := blk_frozen BK237.out 3
                                      go_wp2
                                      go_roundg kj13
                                      case measure => have := HK1.out; have := HJ13.out; omega
                                      case rel => exact ⟨(wrap64 (x27_1 + 1)), (by first | rfl | (simp; done) | (simp [*]; done)), H', ⟨by have := HK1.out; have := HJ13.out; omega⟩, ⟨by (with_reducible repeat (first | apply Kd.R_alloc | apply Kd.R_drewN | apply Kd.R_drew)); exact Kd.R_mono HO_25.out (fun _ hk => trivial)⟩, ⟨by repeat (first | (with_reducible first | exact HB.out | apply below_alloc | apply pw_below_drewN | apply below_drew1 | refine below_set ?_ GE237.out) | exact HB.out)⟩⟩
                                    · rw [if_neg c122] at H
                                      have c122b0 : (((rd_T38 t231 x27_1).f0) == 3) = false := beq_eq_false_iff_ne.mpr c122
                                      have c122b1 : (((rd_T38 t231 x27_1).f0) != 3) = true := bne_iff_ne.mpr c122
                                      obtain rfl := Option.some.inj H
                                      have p34 : 0 ≤ ((ji31) : Int) := of_decide_eq_true (by first | (with_reducible assumption) | assumption)
                                      have q34 : (ji31) < (a0.size : Int) := of_decide_eq_true (by first | (with_reducible assumption) | assumption)
                                      have hx34 := bt_at a0 (ji31)
                                      replace p34 := eq_true p34
                                      replace q34 := eq_true q34
                                      have hcz124_0 : wc.cell? ⟨gb237, 0, none⟩ = some (.int .i64 ((rd_T38 t231 x27_1).f0)) := (blk_cell BK237.out 0).trans rfl
                                      have hcz124_1 : wc.cell? ⟨gb237, 1, none⟩ = some (.string ((rd_T38 t231 x27_1).f1)) := (blk_cell BK237.out 1).trans rfl
                                      have hcz124_2 : wc.cell? ⟨gb237, 2, none⟩ = some (.int .i64 ((rd_T38 t231 x27_1).f2)) := (blk_cell BK237.out 2).trans rfl
                                      have hcz124_3 : wc.cell? ⟨gb237, 3, none⟩ = some (.int .i64 ((rd_T38 t231 x27_1).f3)) := (blk_cell BK237.out 3).trans rfl
                                      have hfz124_0 := blk_frozen BK237.out 0
                                      have hfz124_1 := blk_frozen BK237.out 1
                                      have hfz124_2 := blk_frozen BK237.out 2
                                      have hfz124_3 := blk_frozen BK237.out 3
                                      go_wp2
                                      go_ret
                                      exact ⟨by first | rfl | (simp [errW_none, errW_some] <;> rfl) | (simp only [← hji31]; first | rfl | (simp [errW_none, errW_some] <;> rfl)) | (simp [*, errW_none, errW_some] <;> rfl), by repeat (first | (with_reducible first | exact HB.out | apply below_alloc | apply pw_below_drewN | apply below_drew1 | refine below_set ?_ GE237.out) | exact HB.out)⟩
                                  · rw [if_neg c121] at H
                                    have c121b0 : decide ((bt a0 (ji31)) ≤ 90) = false := decide_eq_false c121
                                    clear c121
                                    by_cases c125 : (bt a0 (ji31)) = 45
                                    · rw [if_pos c125] at H
                                      have c125b0 : ((bt a0 (ji31)) == 45) = true := beq_iff_eq.mpr c125
                                      have c125b1 : ((bt a0 (ji31)) != 45) = false := bne_eq_false_iff_eq.mpr c125
                                      clear c125
                                      by_cases c126 : ((rd_T38 t231 x27_1).f0) = 3
                                      · rw [if_pos c126] at H
                                        have c126b0 : (((rd_T38 t231 x27_1).f0) == 3) = true := beq_iff_eq.mpr c126
                                        have c126b1 : (((rd_T38 t231 x27_1).f0) != 3) = false := bne_eq_false_iff_eq.mpr c126
                                        clear c126
                                        have H' := Aside0.mk H
                                        clear H
                                        have p34 : 0 ≤ ((ji31) : Int) := of_decide_eq_true (by first | (with_reducible assumption) | assumption)
                                        have q34 : (ji31) < (a0.size : Int) := of_decide_eq_true (by first | (with_reducible assumption) | assumption)
                                        have hx34 := bt_at a0 (ji31)
                                        replace p34 := eq_true p34
                                        replace q34 := eq_true q34
                                        have hcz127_0 : wc.cell? ⟨gb237, 0, none⟩ = some (.int .i64 ((rd_T38 t231 x27_1).f0)) := (blk_cell BK237.out 0).trans rfl
                                        have hcz127_1 : wc.cell? ⟨gb237, 1, none⟩ = some (.string ((rd_T38 t231 x27_1).f1)) := (blk_cell BK237.out 1).trans rfl
                                        have hcz127_2 : wc.cell? ⟨gb237, 2, none⟩ = some (.int .i64 ((rd_T38 t231 x27_1).f2)) := (blk_cell BK237.out 2).trans rfl
                                        have hcz127_3 : wc.cell? ⟨gb237, 3, none⟩ = some (.int .i64 ((rd_T38 t231 x27_1).f3)) := (blk_cell BK237.out 3).trans rfl
                                        have hfz127_0 := blk_frozen BK237.out 0
                                        have hfz127_1 := blk_frozen BK237.out 1
                                        have hfz127_2 := blk_frozen BK237.out 2
                                        have hfz127_3 := blk_frozen BK237.out 3
                                        go_wp2
                                        go_roundg kj13
                                        case measure => have := HK1.out; have := HJ13.out; omega
                                        case rel => exact ⟨(wrap64 (x27_1 + 1)), (by first | rfl | (simp; done) | (simp [*]; done)), H', ⟨by have := HK1.out; have := HJ13.out; omega⟩, ⟨by (with_reducible repeat (first | apply Kd.R_alloc | apply Kd.R_drewN | apply Kd.R_drew)); exact Kd.R_mono HO_25.out (fun _ hk => trivial)⟩, ⟨by repeat (first | (with_reducible first | exact HB.out | apply below_alloc | apply pw_below_drewN | apply below_drew1 | refine below_set ?_ GE237.out) | exact HB.out)⟩⟩
                                      · rw [if_neg c126] at H
                                        have c126b0 : (((rd_T38 t231 x27_1).f0) == 3) = false := beq_eq_false_iff_ne.mpr c126
                                        have c126b1 : (((rd_T38 t231 x27_1).f0) != 3) = true := bne_iff_ne.mpr c126
                                        obtain rfl := Option.some.inj H
                                        have p34 : 0 ≤ ((ji31) : Int) := of_decide_eq_true (by first | (with_reducible assumption) | assumption)
                                        have q34 : (ji31) < (a0.size : Int) := of_decide_eq_true (by first | (with_reducible assumption) | assumption)
                                        have hx34 := bt_at a0 (ji31)
                                        replace p34 := eq_true p34
                                        replace q34 := eq_true q34
                                        have hcz128_0 : wc.cell? ⟨gb237, 0, none⟩ = some (.int .i64 ((rd_T38 t231 x27_1).f0)) := (blk_cell BK237.out 0).trans rfl
                                        have hcz128_1 : wc.cell? ⟨gb237, 1, none⟩ = some (.string ((rd_T38 t231 x27_1).f1)) := (blk_cell BK237.out 1).trans rfl
                                        have hcz128_2 : wc.cell? ⟨gb237, 2, none⟩ = some (.int .i64 ((rd_T38 t231 x27_1).f2)) := (blk_cell BK237.out 2).trans rfl
                                        have hcz128_3 : wc.cell? ⟨gb237, 3, none⟩ = some (.int .i64 ((rd_T38 t231 x27_1).f3)) := (blk_cell BK237.out 3).trans rfl
                                        have hfz128_0 := blk_frozen BK237.out 0
                                        have hfz128_1 := blk_frozen BK237.out 1
                                        have hfz128_2 := blk_frozen BK237.out 2
                                        have hfz128_3 := blk_frozen BK237.out 3
                                        go_wp2
                                        go_ret
                                        exact ⟨by first | rfl | (simp [errW_none, errW_some] <;> rfl) | (simp only [← hji31]; first | rfl | (simp [errW_none, errW_some] <;> rfl)) | (simp [*, errW_none, errW_some] <;> rfl), by repeat (first | (with_reducible first | exact HB.out | apply below_alloc | apply pw_below_drewN | apply below_drew1 | refine below_set ?_ GE237.out) | exact HB.out)⟩
                                    · rw [if_neg c125] at H
                                      have c125b0 : ((bt a0 (ji31)) == 45) = false := beq_eq_false_iff_ne.mpr c125
                                      have c125b1 : ((bt a0 (ji31)) != 45) = true := bne_iff_ne.mpr c125
                                      by_cases c129 : (bt a0 (ji31)) = 95
                                      · rw [if_pos c129] at H
                                        have c129b0 : ((bt a0 (ji31)) == 95) = true := beq_iff_eq.mpr c129
                                        have c129b1 : ((bt a0 (ji31)) != 95) = false := bne_eq_false_iff_eq.mpr c129
                                        clear c129
                                        by_cases c130 : ((rd_T38 t231 x27_1).f0) = 3
                                        · rw [if_pos c130] at H
                                          have c130b0 : (((rd_T38 t231 x27_1).f0) == 3) = true := beq_iff_eq.mpr c130
                                          have c130b1 : (((rd_T38 t231 x27_1).f0) != 3) = false := bne_eq_false_iff_eq.mpr c130
                                          clear c130
                                          have H' := Aside0.mk H
                                          clear H
                                          have p34 : 0 ≤ ((ji31) : Int) := of_decide_eq_true (by first | (with_reducible assumption) | assumption)
                                          have q34 : (ji31) < (a0.size : Int) := of_decide_eq_true (by first | (with_reducible assumption) | assumption)
                                          have hx34 := bt_at a0 (ji31)
                                          replace p34 := eq_true p34
                                          replace q34 := eq_true q34
                                          have hcz131_0 : wc.cell? ⟨gb237, 0, none⟩ = some (.int .i64 ((rd_T38 t231 x27_1).f0)) := (blk_cell BK237.out 0).trans rfl
                                          have hcz131_1 : wc.cell? ⟨gb237, 1, none⟩ = some (.string ((rd_T38 t231 x27_1).f1)) := (blk_cell BK237.out 1).trans rfl
                                          have hcz131_2 : wc.cell? ⟨gb237, 2, none⟩ = some (.int .i64 ((rd_T38 t231 x27_1).f2)) := (blk_cell BK237.out 2).trans rfl
                                          have hcz131_3 : wc.cell? ⟨gb237, 3, none⟩ = some (.int .i64 ((rd_T38 t231 x27_1).f3)) := (blk_cell BK237.out 3).trans rfl
                                          have hfz131_0 := blk_frozen BK237.out 0
                                          have hfz131_1 := blk_frozen BK237.out 1
                                          have hfz131_2 := blk_frozen BK237.out 2
                                          have hfz131_3 := blk_frozen BK237.out 3
                                          go_wp2
                                          go_roundg kj13
                                          case measure => have := HK1.out; have := HJ13.out; omega
                                          case rel => exact ⟨(wrap64 (x27_1 + 1)), (by first | rfl | (simp; done) | (simp [*]; done)), H', ⟨by have := HK1.out; have := HJ13.out; omega⟩, ⟨by (with_reducible repeat (first | apply Kd.R_alloc | apply Kd.R_drewN | apply Kd.R_drew)); exact Kd.R_mono HO_25.out (fun _ hk => trivial)⟩, ⟨by repeat (first | (with_reducible first | exact HB.out | apply below_alloc | apply pw_below_drewN | apply below_drew1 | refine below_set ?_ GE237.out) | exact HB.out)⟩⟩
                                        · rw [if_neg c130] at H
                                          have c130b0 : (((rd_T38 t231 x27_1).f0) == 3) = false := beq_eq_false_iff_ne.mpr c130
                                          have c130b1 : (((rd_T38 t231 x27_1).f0) != 3) = true := bne_iff_ne.mpr c130
                                          obtain rfl := Option.some.inj H
                                          have p34 : 0 ≤ ((ji31) : Int) := of_decide_eq_true (by first | (with_reducible assumption) | assumption)
                                          have q34 : (ji31) < (a0.size : Int) := of_decide_eq_true (by first | (with_reducible assumption) | assumption)
                                          have hx34 := bt_at a0 (ji31)
                                          replace p34 := eq_true p34
                                          replace q34 := eq_true q34
                                          have hcz132_0 : wc.cell? ⟨gb237, 0, none⟩ = some (.int .i64 ((rd_T38 t231 x27_1).f0)) := (blk_cell BK237.out 0).trans rfl
                                          have hcz132_1 : wc.cell? ⟨gb237, 1, none⟩ = some (.string ((rd_T38 t231 x27_1).f1)) := (blk_cell BK237.out 1).trans rfl
                                          have hcz132_2 : wc.cell? ⟨gb237, 2, none⟩ = some (.int .i64 ((rd_T38 t231 x27_1).f2)) := (blk_cell BK237.out 2).trans rfl
                                          have hcz132_3 : wc.cell? ⟨gb237, 3, none⟩ = some (.int .i64 ((rd_T38 t231 x27_1).f3)) := (blk_cell BK237.out 3).trans rfl
                                          have hfz132_0 := blk_frozen BK237.out 0
                                          have hfz132_1 := blk_frozen BK237.out 1
                                          have hfz132_2 := blk_frozen BK237.out 2
                                          have hfz132_3 := blk_frozen BK237.out 3
                                          go_wp2
                                          go_ret
                                          exact ⟨by first | rfl | (simp [errW_none, errW_some] <;> rfl) | (simp only [← hji31]; first | rfl | (simp [errW_none, errW_some] <;> rfl)) | (simp [*, errW_none, errW_some] <;> rfl), by repeat (first | (with_reducible first | exact HB.out | apply below_alloc | apply pw_below_drewN | apply below_drew1 | refine below_set ?_ GE237.out) | exact HB.out)⟩
                                      · rw [if_neg c129] at H
                                        have c129b0 : ((bt a0 (ji31)) == 95) = false := beq_eq_false_iff_ne.mpr c129
                                        have c129b1 : ((bt a0 (ji31)) != 95) = true := bne_iff_ne.mpr c129
                                        have H' := Aside0.mk H
                                        clear H
                                        have p34 : 0 ≤ ((ji31) : Int) := of_decide_eq_true (by first | (with_reducible assumption) | assumption)
                                        have q34 : (ji31) < (a0.size : Int) := of_decide_eq_true (by first | (with_reducible assumption) | assumption)
                                        have hx34 := bt_at a0 (ji31)
                                        replace p34 := eq_true p34
                                        replace q34 := eq_true q34
                                        go_wp2
                                        go_roundg kj13
                                        case measure => have := HK1.out; have := HJ13.out; omega
                                        case rel => exact ⟨(wrap64 (x27_1 + 1)), (by first | rfl | (simp; done) | (simp [*]; done)), H', ⟨by have := HK1.out; have := HJ13.out; omega⟩, ⟨by (with_reducible repeat (first | apply Kd.R_alloc | apply Kd.R_drewN | apply Kd.R_drew)); exact Kd.R_mono HO_25.out (fun _ hk => trivial)⟩, ⟨by repeat (first | (with_reducible first | exact HB.out | apply below_alloc | apply pw_below_drewN | apply below_drew1 | refine below_set ?_ GE237.out) | exact HB.out)⟩⟩
                                · rw [if_neg c120] at H
                                  have c120b0 : decide (65 ≤ (bt a0 (ji31))) = false := decide_eq_false c120
                                  clear c120
                                  by_cases c133 : (bt a0 (ji31)) = 45
                                  · rw [if_pos c133] at H
                                    have c133b0 : ((bt a0 (ji31)) == 45) = true := beq_iff_eq.mpr c133
                                    have c133b1 : ((bt a0 (ji31)) != 45) = false := bne_eq_false_iff_eq.mpr c133
                                    clear c133
                                    by_cases c134 : ((rd_T38 t231 x27_1).f0) = 3
                                    · rw [if_pos c134] at H
                                      have c134b0 : (((rd_T38 t231 x27_1).f0) == 3) = true := beq_iff_eq.mpr c134
                                      have c134b1 : (((rd_T38 t231 x27_1).f0) != 3) = false := bne_eq_false_iff_eq.mpr c134
                                      clear c134
                                      have H' := Aside0.mk H
                                      clear H
                                      have p34 : 0 ≤ ((ji31) : Int) := of_decide_eq_true (by first | (with_reducible assumption) | assumption)
                                      have q34 : (ji31) < (a0.size : Int) := of_decide_eq_true (by first | (with_reducible assumption) | assumption)
                                      have hx34 := bt_at a0 (ji31)
                                      replace p34 := eq_true p34
                                      replace q34 := eq_true q34
                                      have hcz135_0 : wc.cell? ⟨gb237, 0, none⟩ = some (.int .i64 ((rd_T38 t231 x27_1).f0)) := (blk_cell BK237.out 0).trans rfl
                                      have hcz135_1 : wc.cell? ⟨gb237, 1, none⟩ = some (.string ((rd_T38 t231 x27_1).f1)) := (blk_cell BK237.out 1).trans rfl
                                      have hcz135_2 : wc.cell? ⟨gb237, 2, none⟩ = some (.int .i64 ((rd_T38 t231 x27_1).f2)) := (blk_cell BK237.out 2).trans rfl
                                      have hcz135_3 : wc.cell? ⟨gb237, 3, none⟩ = some (.int .i64 ((rd_T38 t231 x27_1).f3)) := (blk_cell BK237.out 3).trans rfl
                                      have hfz135_0 := blk_frozen BK237.out 0
                                      have hfz135_1 := blk_frozen BK237.out 1
                                      have hfz135_2 := blk_frozen BK237.out 2
                                      have hfz135_3 := blk_frozen BK237.out 3
                                      go_wp2
                                      go_roundg kj13
                                      case measure => have := HK1.out; have := HJ13.out; omega
                                      case rel => exact ⟨(wrap64 (x27_1 + 1)), (by first | rfl | (simp; done) | (simp [*]; done)), H', ⟨by have := HK1.out; have := HJ13.out; omega⟩, ⟨by (with_reducible repeat (first | apply Kd.R_alloc | apply Kd.R_drewN | apply Kd.R_drew)); exact Kd.R_mono HO_25.out (fun _ hk => trivial)⟩, ⟨by repeat (first | (with_reducible first | exact HB.out | apply below_alloc | apply pw_below_drewN | apply below_drew1 | refine below_set ?_ GE237.out) | exact HB.out)⟩⟩
                                    · rw [if_neg c134] at H
                                      have c134b0 : (((rd_T38 t231 x27_1).f0) == 3) = false := beq_eq_false_iff_ne.mpr c134
                                      have c134b1 : (((rd_T38 t231 x27_1).f0) != 3) = true := bne_iff_ne.mpr c134
                                      obtain rfl := Option.some.inj H
                                      have p34 : 0 ≤ ((ji31) : Int) := of_decide_eq_true (by first | (with_reducible assumption) | assumption)
                                      have q34 : (ji31) < (a0.size : Int) := of_decide_eq_true (by first | (with_reducible assumption) | assumption)
                                      have hx34 := bt_at a0 (ji31)
                                      replace p34 := eq_true p34
                                      replace q34 := eq_true q34
                                      have hcz136_0 : wc.cell? ⟨gb237, 0, none⟩ = some (.int .i64 ((rd_T38 t231 x27_1).f0)) := (blk_cell BK237.out 0).trans rfl
                                      have hcz136_1 : wc.cell? ⟨gb237, 1, none⟩ = some (.string ((rd_T38 t231 x27_1).f1)) := (blk_cell BK237.out 1).trans rfl
                                      have hcz136_2 : wc.cell? ⟨gb237, 2, none⟩ = some (.int .i64 ((rd_T38 t231 x27_1).f2)) := (blk_cell BK237.out 2).trans rfl
                                      have hcz136_3 : wc.cell? ⟨gb237, 3, none⟩ = some (.int .i64 ((rd_T38 t231 x27_1).f3)) := (blk_cell BK237.out 3).trans rfl
                                      have hfz136_0 := blk_frozen BK237.out 0
                                      have hfz136_1 := blk_frozen BK237.out 1
                                      have hfz136_2 := blk_frozen BK237.out 2
                                      have hfz136_3 := blk_frozen BK237.out 3
                                      go_wp2
                                      go_ret
                                      exact ⟨by first | rfl | (simp [errW_none, errW_some] <;> rfl) | (simp only [← hji31]; first | rfl | (simp [errW_none, errW_some] <;> rfl)) | (simp [*, errW_none, errW_some] <;> rfl), by repeat (first | (with_reducible first | exact HB.out | apply below_alloc | apply pw_below_drewN | apply below_drew1 | refine below_set ?_ GE237.out) | exact HB.out)⟩
                                  · rw [if_neg c133] at H
                                    have c133b0 : ((bt a0 (ji31)) == 45) = false := beq_eq_false_iff_ne.mpr c133
                                    have c133b1 : ((bt a0 (ji31)) != 45) = true := bne_iff_ne.mpr c133
                                    by_cases c137 : (bt a0 (ji31)) = 95
                                    · rw [if_pos c137] at H
                                      have c137b0 : ((bt a0 (ji31)) == 95) = true := beq_iff_eq.mpr c137
                                      have c137b1 : ((bt a0 (ji31)) != 95) = false := bne_eq_false_iff_eq.mpr c137
                                      clear c137
                                      by_cases c138 : ((rd_T38 t231 x27_1).f0) = 3
                                      · rw [if_pos c138] at H
                                        have c138b0 : (((rd_T38 t231 x27_1).f0) == 3) = true := beq_iff_eq.mpr c138
                                        have c138b1 : (((rd_T38 t231 x27_1).f0) != 3) = false := bne_eq_false_iff_eq.mpr c138
                                        clear c138
                                        have H' := Aside0.mk H
                                        clear H
                                        have p34 : 0 ≤ ((ji31) : Int) := of_decide_eq_true (by first | (with_reducible assumption) | assumption)
                                        have q34 : (ji31) < (a0.size : Int) := of_decide_eq_true (by first | (with_reducible assumption) | assumption)
                                        have hx34 := bt_at a0 (ji31)
                                        replace p34 := eq_true p34
                                        replace q34 := eq_true q34
                                        have hcz139_0 : wc.cell? ⟨gb237, 0, none⟩ = some (.int .i64 ((rd_T38 t231 x27_1).f0)) := (blk_cell BK237.out 0).trans rfl
                                        have hcz139_1 : wc.cell? ⟨gb237, 1, none⟩ = some (.string ((rd_T38 t231 x27_1).f1)) := (blk_cell BK237.out 1).trans rfl
                                        have hcz139_2 : wc.cell? ⟨gb237, 2, none⟩ = some (.int .i64 ((rd_T38 t231 x27_1).f2)) := (blk_cell BK237.out 2).trans rfl
                                        have hcz139_3 : wc.cell? ⟨gb237, 3, none⟩ = some (.int .i64 ((rd_T38 t231 x27_1).f3)) := (blk_cell BK237.out 3).trans rfl
                                        have hfz139_0 := blk_frozen BK237.out 0
                                        have hfz139_1 := blk_frozen BK237.out 1
                                        have hfz139_2 := blk_frozen BK237.out 2
                                        have hfz139_3 := blk_frozen BK237.out 3
                                        go_wp2
                                        go_roundg kj13
                                        case measure => have := HK1.out; have := HJ13.out; omega
                                        case rel => exact ⟨(wrap64 (x27_1 + 1)), (by first | rfl | (simp; done) | (simp [*]; done)), H', ⟨by have := HK1.out; have := HJ13.out; omega⟩, ⟨by (with_reducible repeat (first | apply Kd.R_alloc | apply Kd.R_drewN | apply Kd.R_drew)); exact Kd.R_mono HO_25.out (fun _ hk => trivial)⟩, ⟨by repeat (first | (with_reducible first | exact HB.out | apply below_alloc | apply pw_below_drewN | apply below_drew1 | refine below_set ?_ GE237.out) | exact HB.out)⟩⟩
                                      · rw [if_neg c138] at H
                                        have c138b0 : (((rd_T38 t231 x27_1).f0) == 3) = false := beq_eq_false_iff_ne.mpr c138
                                        have c138b1 : (((rd_T38 t231 x27_1).f0) != 3) = true := bne_iff_ne.mpr c138
                                        obtain rfl := Option.some.inj H
                                        have p34 : 0 ≤ ((ji31) : Int) := of_decide_eq_true (by first | (with_reducible assumption) | assumption)
                                        have q34 : (ji31) < (a0.size : Int) := of_decide_eq_true (by first | (with_reducible assumption) | assumption)
                                        have hx34 := bt_at a0 (ji31)
                                        replace p34 := eq_true p34
                                        replace q34 := eq_true q34
                                        have hcz140_0 : wc.cell? ⟨gb237, 0, none⟩ = some (.int .i64 ((rd_T38 t231 x27_1).f0)) := (blk_cell BK237.out 0).trans rfl
                                        have hcz140_1 : wc.cell? ⟨gb237, 1, none⟩ = some (.string ((rd_T38 t231 x27_1).f1)) := (blk_cell BK237.out 1).trans rfl
                                        have hcz140_2 : wc.cell? ⟨gb237, 2, none⟩ = some (.int .i64 ((rd_T38 t231 x27_1).f2)) := (blk_cell BK237.out 2).trans rfl
                                        have hcz140_3 : wc.cell? ⟨gb237, 3, none⟩ = some (.int .i64 ((rd_T38 t231 x27_1).f3)) := (blk_cell BK237.out 3).trans rfl
                                        have hfz140_0 := blk_frozen BK237.out 0
                                        have hfz140_1 := blk_frozen BK237.out 1
                                        have hfz140_2 := blk_frozen BK237.out 2
                                        have hfz140_3 := blk_frozen BK237.out 3
                                        go_wp2
                                        go_ret
                                        exact ⟨by first | rfl | (simp [errW_none, errW_some] <;> rfl) | (simp only [← hji31]; first | rfl | (simp [errW_none, errW_some] <;> rfl)) | (simp [*, errW_none, errW_some] <;> rfl), by repeat (first | (with_reducible first | exact HB.out | apply below_alloc | apply pw_below_drewN | apply below_drew1 | refine below_set ?_ GE237.out) | exact HB.out)⟩
                                    · rw [if_neg c137] at H
                                      have c137b0 : ((bt a0 (ji31)) == 95) = false := beq_eq_false_iff_ne.mpr c137
                                      have c137b1 : ((bt a0 (ji31)) != 95) = true := bne_iff_ne.mpr c137
                                      have H' := Aside0.mk H
                                      clear H
                                      have p34 : 0 ≤ ((ji31) : Int) := of_decide_eq_true (by first | (with_reducible assumption) | assumption)
                                      have q34 : (ji31) < (a0.size : Int) := of_decide_eq_true (by first | (with_reducible assumption) | assumption)
                                      have hx34 := bt_at a0 (ji31)
                                      replace p34 := eq_true p34
                                      replace q34 := eq_true q34
                                      go_wp2
                                      go_roundg kj13
                                      case measure => have := HK1.out; have := HJ13.out; omega
                                      case rel => exact ⟨(wrap64 (x27_1 + 1)), (by first | rfl | (simp; done) | (simp [*]; done)), H', ⟨by have := HK1.out; have := HJ13.out; omega⟩, ⟨by (with_reducible repeat (first | apply Kd.R_alloc | apply Kd.R_drewN | apply Kd.R_drew)); exact Kd.R_mono HO_25.out (fun _ hk => trivial)⟩, ⟨by repeat (first | (with_reducible first | exact HB.out | apply below_alloc | apply pw_below_drewN | apply below_drew1 | refine below_set ?_ GE237.out) | exact HB.out)⟩⟩
                          · rw [if_neg c33] at H
                            exact absurd H (by simp)
                        · rw [if_neg c32] at H
                          exact absurd H (by simp)
                · rw [if_neg c13] at H
                  exact absurd H (by simp)
              · rw [if_neg c12] at H
                exact absurd H (by simp)
            · rw [if_neg c11] at H
              have c11b0 : decide (x27_1 < (t231.length : Int)) = false := decide_eq_false c11
              clear c11
              obtain rfl := Option.some.inj H
              go_wp2
              go_ret
              exact ⟨by first | rfl | (simp [errW_none, errW_some] <;> rfl) | (simp [*, errW_none, errW_some] <;> rfl), by repeat (first | (with_reducible first | exact HB.out | apply below_alloc | apply pw_below_drewN | apply below_drew1) | exact HB.out)⟩
      · rw [if_neg c7] at H
        have c7b0 : (t233 == 0) = false := beq_eq_false_iff_ne.mpr c7
        have c7b1 : (t233 != 0) = true := bne_iff_ne.mpr c7
        obtain rfl := Option.some.inj H
        go_enter Tryd.func7, Tryd.ntmps7
        go_wp2_with (first | ((with_reducible refine gate_callee (f := 10) rfl ?_); refine goesL_ (some 12) rfl rfl Tryd.func10 (by kernel_rfl) rfl #[] rfl (by (try simp only [List.map_toArray, List.map_cons, List.map_nil]); first | done | rfl | (simp only [List.length_drop, List.length_take]; rfl)) ?_; (with_reducible refine (culetlaw13_awake.calls k  true _ A2.out).mono ?_); rintro e w141 ⟨rfl, hb⟩; refine ⟨_, rfl, ?_⟩; have n0_ := Aside0.mk (below_step (by repeat (first | (with_reducible first | exact HB.out | apply below_alloc | apply pw_below_drewN | apply below_drew1) | exact HB.out)) hb); clear HB; have HB := n0_; clear n0_; (try clear hb); (try clear hb2); (try clear hk); (try clear hi)) | ((with_reducible refine gate_callee (f := 11) rfl ?_); refine goesL_ (some 19) rfl rfl Tryd.func11 (by kernel_rfl) rfl #[.string a0] rfl (by (try simp only [List.map_toArray, List.map_cons, List.map_nil]); first | done | rfl | (simp only [List.length_drop, List.length_take]; rfl)) ?_; (with_reducible refine (lexer_Lex.calls k a0 t231 t232 t233 _ A6.out).mono ?_); rintro e w142 ⟨v234, rfl, ho0, hb⟩; refine ⟨_, rfl, ?_⟩; have n0_ := Aside0.mk (Kd.R_lower ho0 (below_size (by repeat (first | (with_reducible first | exact HB.out | apply below_alloc | apply pw_below_drewN | apply below_drew1) | exact HB.out)))); have n1_ := Aside0.mk (below_step (by repeat (first | (with_reducible first | exact HB.out | apply below_alloc | apply pw_below_drewN | apply below_drew1) | exact HB.out)) hb); clear HB; have HO235 := n0_; have HB := n1_; clear n0_ n1_; (try clear hb); (try clear hb2); (try clear hk); (try clear hi); (try clear ho0)))
        go_ret
        exact ⟨by first | rfl | (simp [errW_none, errW_some] <;> rfl) | (simp [*, errW_none, errW_some] <;> rfl), by repeat (first | (with_reducible first | exact HB.out | apply below_alloc | apply pw_below_drewN | apply below_drew1) | exact HB.out)⟩
  · replace c3 := Bool.eq_false_iff.mpr c3
    subst c3
    have H1 : (some false) = some r := by rw [if_neg (show ¬ (false = true) by decide)] at H; exact H
    clear H
    have H := H1
    clear H1
    obtain rfl := Option.some.inj H
    go_enter Tryd.func7, Tryd.ntmps7
    go_wp2_with (first | ((with_reducible refine gate_callee (f := 10) rfl ?_); refine goesL_ (some 12) rfl rfl Tryd.func10 (by kernel_rfl) rfl #[] rfl (by (try simp only [List.map_toArray, List.map_cons, List.map_nil]); first | done | rfl | (simp only [List.length_drop, List.length_take]; rfl)) ?_; (with_reducible refine (culetlaw13_awake.calls k  false _ A2.out).mono ?_); rintro e w143 ⟨rfl, hb⟩; refine ⟨_, rfl, ?_⟩; have n0_ := Aside0.mk (below_step (by repeat (first | (with_reducible first | exact HB.out | apply below_alloc | apply pw_below_drewN | apply below_drew1) | exact HB.out)) hb); clear HB; have HB := n0_; clear n0_; (try clear hb); (try clear hb2); (try clear hk); (try clear hi)))
    go_ret
    exact ⟨by first | rfl | (simp [errW_none, errW_some] <;> rfl) | (simp [*, errW_none, errW_some] <;> rfl), by repeat (first | (with_reducible first | exact HB.out | apply below_alloc | apply pw_below_drewN | apply below_drew1) | exact HB.out)⟩

/-- THE ONE PURE STATEMENT of culetlaw13_LexerLongest: yours. -/
def culetlaw13_LexerLongest.Pure : Prop := ∀ (a0 : ByteArray), a0.size ≤ 140737488351232 → ∃ k, culetlaw13_LexerLongest.f k a0 = some true
theorem culetlaw13_LexerLongest.walk (P : culetlaw13_LexerLongest.Pure) (a0 : ByteArray) (w : World) (w0 : a0.size ≤ 140737488351232) :
    Calls Tryd.prog 7 #[.string a0] w fun e w' => e = .returned (.bool true) ∧ Below w.heap.size w w' := by
  obtain ⟨k, h⟩ := P a0 w0
  refine (culetlaw13_LexerLongest.calls k a0 true w h).mono ?_
  rintro e w' ⟨rfl, hd⟩
  exact ⟨rfl, hd⟩

end Go.Proofs.YthjmbagkomnpgaaDoor.L
