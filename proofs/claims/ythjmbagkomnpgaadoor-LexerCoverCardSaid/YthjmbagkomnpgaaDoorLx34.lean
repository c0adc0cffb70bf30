-- Written by this session's own program over the kit's printer, with hand-made contracts. Lean checks it.
import Derived.Test.YthjmbagkomnpgaaDoorLx0
import Derived.Test.YthjmbagkomnpgaaDoorLx17
import Derived.Test.YthjmbagkomnpgaaDoorLx18
import Derived.Test.YthjmbagkomnpgaaDoorLx32
import Derived.Test.YthjmbagkomnpgaaDoorLx33
namespace Go.Proofs.YthjmbagkomnpgaaDoor.L
open Go.RowKit Go.Proofs.YthjmbagkomnpgaaDoorW.PrintWords Go.Proofs.YthjmbagkomnpgaaDoorW.PrintLast Go.Proofs.YthjmbagkomnpgaaDoorW.PrintMore
attribute [local go_sem] max2_int min2_int max_two min_two max_three min_three max_four min_four   -- for this text's walks alone
set_option linter.unusedVariables false
set_option linter.unusedSimpArgs false

/-! ### culetlaw13_LexerCover: function 6 -/
mutual
def culetlaw13_LexerCover.l0 : Nat → ByteArray → Int → Int → List (S38) → Int → Int → Option (Bool)
  | 0, _, _, _, _, _, _ => none
  | k + 1, x0, x6, x7, x25, x26, x27 => if x27 < x26 then (if 0 ≤ x27 then (if x27 < (x25.length : Int) then ((culetref13_Source.f ((rd_T38 x25 x27).f0) ((rd_T38 x25 x27).f1) ((rd_T38 x25 x27).f2) ((rd_T38 x25 x27).f3)).bind fun t228 => (if ((rd_T38 x25 x27).f3) < x6 then (culetlaw13_LexerCover.j1 k x0 x6 x7 t228 x25 x26 x27 true ((rd_T38 x25 x27).f0) ((rd_T38 x25 x27).f1) ((rd_T38 x25 x27).f2) ((rd_T38 x25 x27).f3)) else (if t228.toList = ([] : List UInt8) then (culetlaw13_LexerCover.j1 k x0 x6 x7 t228 x25 x26 x27 true ((rd_T38 x25 x27).f0) ((rd_T38 x25 x27).f1) ((rd_T38 x25 x27).f2) ((rd_T38 x25 x27).f3)) else (if (wrap64 (((rd_T38 x25 x27).f3) + (t228.size : Int))) > (x0.size : Int) then (culetlaw13_LexerCover.j1 k x0 x6 x7 t228 x25 x26 x27 true ((rd_T38 x25 x27).f0) ((rd_T38 x25 x27).f1) ((rd_T38 x25 x27).f2) ((rd_T38 x25 x27).f3)) else (if 0 ≤ ((rd_T38 x25 x27).f3) then (if ((rd_T38 x25 x27).f3) ≤ (wrap64 (((rd_T38 x25 x27).f3) + (t228.size : Int))) then (if (wrap64 (((rd_T38 x25 x27).f3) + (t228.size : Int))) ≤ (x0.size : Int) then (if (x0.extract (((rd_T38 x25 x27).f3) : Int).toNat ((wrap64 (((rd_T38 x25 x27).f3) + (t228.size : Int))) : Int).toNat).toList = t228.toList then (if 0 ≤ x6 then (if x6 ≤ ((rd_T38 x25 x27).f3) then (if ((rd_T38 x25 x27).f3) ≤ (x0.size : Int) then ((culetlaw13_blank.f k (x0.extract (x6 : Int).toNat (((rd_T38 x25 x27).f3) : Int).toNat) false).bind fun t229 => (culetlaw13_LexerCover.j1 k x0 x6 x7 t228 x25 x26 x27 (!t229) ((rd_T38 x25 x27).f0) ((rd_T38 x25 x27).f1) ((rd_T38 x25 x27).f2) ((rd_T38 x25 x27).f3))) else (none)) else (none)) else (none)) else (culetlaw13_LexerCover.j1 k x0 x6 x7 t228 x25 x26 x27 true ((rd_T38 x25 x27).f0) ((rd_T38 x25 x27).f1) ((rd_T38 x25 x27).f2) ((rd_T38 x25 x27).f3))) else (none)) else (none)) else (none)))))) else (none)) else (none)) else (if 0 ≤ x6 then (if x6 ≤ (x0.size : Int) then ((culetlaw13_blank.f k (x0.extract (x6 : Int).toNat x0.size) true).bind fun t225 => (some t225)) else (none)) else (none))
def culetlaw13_LexerCover.j1 : Nat → ByteArray → Int → Int → ByteArray → List (S38) → Int → Int → Bool → Int → ByteArray → Int → Int → Option (Bool)
  | 0, _, _, _, _, _, _, _, _, _, _, _, _ => none
  | k + 1, x0, x6, x7, x10, x25, x26, x27, x72, x228000, x228001, x228002, x228003 => if x72 = true then (some false) else (culetlaw13_LexerCover.l1 k x0 x7 x10 x6 x25 x26 x27 x228000 x228001 x228002 x228003)
def culetlaw13_LexerCover.l1 : Nat → ByteArray → Int → ByteArray → Int → List (S38) → Int → Int → Int → ByteArray → Int → Int → Option (Bool)
  | 0, _, _, _, _, _, _, _, _, _, _, _ => none
  | k + 1, x0, x7, x10, x11, x25, x26, x27, x228000, x228001, x228002, x228003 => if x11 < x228003 then (if 0 ≤ x11 then (if x11 < (x0.size : Int) then (if (bt x0 x11) = 10 then (culetlaw13_LexerCover.l1 k x0 (wrap64 (x7 + 1)) x10 (wrap64 (x11 + 1)) x25 x26 x27 x228000 x228001 x228002 x228003) else (culetlaw13_LexerCover.l1 k x0 x7 x10 (wrap64 (x11 + 1)) x25 x26 x27 x228000 x228001 x228002 x228003)) else (none)) else (none)) else (if x228002 = x7 then (culetlaw13_LexerCover.l0 k x0 (wrap64 (x228003 + (x10.size : Int))) x7 x25 x26 (wrap64 (x27 + 1))) else (some false))
end
def culetlaw13_LexerCover.f (k : Nat) (a0 : ByteArray) : Option (Bool) := (culetlaw13_awake.f k).bind fun t219 => (if t219 = true then (if (a0.size : Int) > 400 then (some true) else ((lexer_Lex.f k a0).bind fun bt220 => (if bt220.2.2 = 0 then (culetlaw13_LexerCover.l0 k a0 0 1 bt220.1 (bt220.1.length : Int) 0) else (some true)))) else (some false))
theorem culetlaw13_LexerCover.mono_l : ∀ k, (∀ y0 y1 y2 y3 y4 y5, LeO (culetlaw13_LexerCover.l0 k y0 y1 y2 y3 y4 y5) (culetlaw13_LexerCover.l0 (k + 1) y0 y1 y2 y3 y4 y5)) ∧ (∀ y0 y1 y2 y3 y4 y5 y6 y7 y8 y9 y10 y11, LeO (culetlaw13_LexerCover.j1 k y0 y1 y2 y3 y4 y5 y6 y7 y8 y9 y10 y11) (culetlaw13_LexerCover.j1 (k + 1) y0 y1 y2 y3 y4 y5 y6 y7 y8 y9 y10 y11)) ∧ (∀ y0 y1 y2 y3 y4 y5 y6 y7 y8 y9 y10, LeO (culetlaw13_LexerCover.l1 k y0 y1 y2 y3 y4 y5 y6 y7 y8 y9 y10) (culetlaw13_LexerCover.l1 (k + 1) y0 y1 y2 y3 y4 y5 y6 y7 y8 y9 y10))
  | 0 => ⟨fun _ _ _ _ _ _ r h => by simp [culetlaw13_LexerCover.l0] at h, fun _ _ _ _ _ _ _ _ _ _ _ _ r h => by simp [culetlaw13_LexerCover.j1] at h, fun _ _ _ _ _ _ _ _ _ _ _ r h => by simp [culetlaw13_LexerCover.l1] at h⟩
  | k + 1 => by
    obtain ⟨ih0, ih1, ih2⟩ := culetlaw13_LexerCover.mono_l k
    refine ⟨?_, ?_, ?_⟩
    · intro y0 y1 y2 y3 y4 y5
      unfold culetlaw13_LexerCover.l0
      repeat' first
      | (with_reducible exact ih0 _ _ _ _ _ _)
      | (with_reducible exact ih1 _ _ _ _ _ _ _ _ _ _ _ _)
      | (with_reducible exact ih2 _ _ _ _ _ _ _ _ _ _ _)
      | (with_reducible exact culetlaw13_awake.mono _)
      | (with_reducible exact culetlaw13_blank.mono _ _ _)
      | (with_reducible exact lexer_Lex.mono _ _)
      | (with_reducible exact LeO.refl _)
      | (with_reducible exact LeO.none _)
      | (with_reducible refine LeO.ite ?_ ?_)
      | (with_reducible refine LeO.bind ?_ (fun _ => ?_))
      | exact ih0 _ _ _ _ _ _
      | exact ih1 _ _ _ _ _ _ _ _ _ _ _ _
      | exact ih2 _ _ _ _ _ _ _ _ _ _ _
      | exact culetlaw13_awake.mono _
      | exact culetlaw13_blank.mono _ _ _
      | exact lexer_Lex.mono _ _
      | exact LeO.none _
      | refine LeO.ite ?_ ?_
      | refine LeO.bind ?_ (fun _ => ?_)
    · intro y0 y1 y2 y3 y4 y5 y6 y7 y8 y9 y10 y11
      unfold culetlaw13_LexerCover.j1
      repeat' first
      | (with_reducible exact ih0 _ _ _ _ _ _)
      | (with_reducible exact ih1 _ _ _ _ _ _ _ _ _ _ _ _)
      | (with_reducible exact ih2 _ _ _ _ _ _ _ _ _ _ _)
      | (with_reducible exact culetlaw13_awake.mono _)
      | (with_reducible exact culetlaw13_blank.mono _ _ _)
      | (with_reducible exact lexer_Lex.mono _ _)
      | (with_reducible exact LeO.refl _)
      | (with_reducible exact LeO.none _)
      | (with_reducible refine LeO.ite ?_ ?_)
      | (with_reducible refine LeO.bind ?_ (fun _ => ?_))
      | exact ih0 _ _ _ _ _ _
      | exact ih1 _ _ _ _ _ _ _ _ _ _ _ _
      | exact ih2 _ _ _ _ _ _ _ _ _ _ _
      | exact culetlaw13_awake.mono _
      | exact culetlaw13_blank.mono _ _ _
      | exact lexer_Lex.mono _ _
      | exact LeO.none _
      | refine LeO.ite ?_ ?_
      | refine LeO.bind ?_ (fun _ => ?_)
    · intro y0 y1 y2 y3 y4 y5 y6 y7 y8 y9 y10
      unfold culetlaw13_LexerCover.l1
      repeat' first
      | (with_reducible exact ih0 _ _ _ _ _ _)
      | (with_reducible exact ih1 _ _ _ _ _ _ _ _ _ _ _ _)
      | (with_reducible exact ih2 _ _ _ _ _ _ _ _ _ _ _)
      | (with_reducible exact culetlaw13_awake.mono _)
      | (with_reducible exact culetlaw13_blank.mono _ _ _)
      | (with_reducible exact lexer_Lex.mono _ _)
      | (with_reducible exact LeO.refl _)
      | (with_reducible exact LeO.none _)
      | (with_reducible refine LeO.ite ?_ ?_)
      | (with_reducible refine LeO.bind ?_ (fun _ => ?_))
      | exact ih0 _ _ _ _ _ _
      | exact ih1 _ _ _ _ _ _ _ _ _ _ _ _
      | exact ih2 _ _ _ _ _ _ _ _ _ _ _
      | exact culetlaw13_awake.mono _
      | exact culetlaw13_blank.mono _ _ _
      | exact lexer_Lex.mono _ _
      | exact LeO.none _
      | refine LeO.ite ?_ ?_
      | refine LeO.bind ?_ (fun _ => ?_)
theorem culetlaw13_LexerCover.mono : ∀ a0 k, LeO (culetlaw13_LexerCover.f k a0) (culetlaw13_LexerCover.f (k + 1) a0) := by
  intro a0 k
  obtain ⟨ih0, ih1, ih2⟩ := culetlaw13_LexerCover.mono_l k
  unfold culetlaw13_LexerCover.f
  repeat' first
      | (with_reducible exact ih0 _ _ _ _ _ _)
      | (with_reducible exact ih1 _ _ _ _ _ _ _ _ _ _ _ _)
      | (with_reducible exact ih2 _ _ _ _ _ _ _ _ _ _ _)
      | (with_reducible exact culetlaw13_awake.mono _)
      | (with_reducible exact culetlaw13_blank.mono _ _ _)
      | (with_reducible exact lexer_Lex.mono _ _)
      | (with_reducible exact LeO.refl _)
      | (with_reducible exact LeO.none _)
      | (with_reducible refine LeO.ite ?_ ?_)
      | (with_reducible refine LeO.bind ?_ (fun _ => ?_))
      | exact ih0 _ _ _ _ _ _
      | exact ih1 _ _ _ _ _ _ _ _ _ _ _ _
      | exact ih2 _ _ _ _ _ _ _ _ _ _ _
      | exact culetlaw13_awake.mono _
      | exact culetlaw13_blank.mono _ _ _
      | exact lexer_Lex.mono _ _
      | exact LeO.none _
      | refine LeO.ite ?_ ?_
      | refine LeO.bind ?_ (fun _ => ?_)
set_option maxHeartbeats 8000000 in
set_option maxRecDepth 100000 in
theorem culetlaw13_LexerCover.calls (k : Nat) (a0 : ByteArray) (r : Bool) (w : World) (h : culetlaw13_LexerCover.f k a0 = some r) :
    Calls Tryd.prog 6 #[.string a0] w fun e w' => e = .returned (.bool r) ∧ Below w.heap.size w w' := by
  have hu38 := Tryd.underlying38
  have HB := Aside0.mk (Below.refl w.heap.size w)
  have H : ((culetlaw13_awake.f k).bind fun t219 => (if t219 = true then (if (a0.size : Int) > 400 then (some true) else ((lexer_Lex.f k a0).bind fun bt220 => (if bt220.2.2 = 0 then (culetlaw13_LexerCover.l0 k a0 0 1 bt220.1 (bt220.1.length : Int) 0) else (some true)))) else (some false))) = some r := h
  clear h
  replace H := Option.bind_eq_some_iff.mp H
  obtain ⟨t219, A20, H⟩ := H
  replace H : (if t219 = true then (if (a0.size : Int) > 400 then (some true) else ((lexer_Lex.f k a0).bind fun bt220 => (if bt220.2.2 = 0 then (culetlaw13_LexerCover.l0 k a0 0 1 bt220.1 (bt220.1.length : Int) 0) else (some true)))) else (some false)) = some r := H
  have A2 := Aside0.mk A20
  clear A20
  by_cases c3 : t219 = true
  · subst c3
    have H1 : (if (a0.size : Int) > 400 then (some true) else ((lexer_Lex.f k a0).bind fun bt220 => (if bt220.2.2 = 0 then (culetlaw13_LexerCover.l0 k a0 0 1 bt220.1 (bt220.1.length : Int) 0) else (some true)))) = some r := by rw [if_pos rfl] at H; exact H
    clear H
    have H := H1
    clear H1
    by_cases c4 : (a0.size : Int) > 400
    · rw [if_pos c4] at H
      have c4b0 : decide (400 < (a0.size : Int)) = true := decide_eq_true c4
      have c4b1 : decide (400 < a0.size) = true := decide_eq_true (by omega)
      clear c4
      obtain rfl := Option.some.inj H
      go_enter Tryd.func6, Tryd.ntmps6
      go_wp2_with (first | ((with_reducible refine gate_callee (f := 10) rfl ?_); refine goesL_ (some 12) rfl rfl Tryd.func10 (by kernel_rfl) rfl #[] rfl (by (try simp only [List.map_toArray, List.map_cons, List.map_nil]); first | done | rfl | (simp only [List.length_drop, List.length_take]; rfl)) ?_; (with_reducible refine (culetlaw13_awake.calls k  true _ A2.out).mono ?_); rintro e w5 ⟨rfl, hb⟩; refine ⟨_, rfl, ?_⟩; have n0_ := Aside0.mk (below_step (by repeat (first | (with_reducible first | exact HB.out | apply below_alloc | apply pw_below_drewN | apply below_drew1) | exact HB.out)) hb); clear HB; have HB := n0_; clear n0_; (try clear hb); (try clear hb2); (try clear hk); (try clear hi)))
      go_ret
      exact ⟨by first | rfl | (simp [errW_none, errW_some] <;> rfl) | (simp [*, errW_none, errW_some] <;> rfl), by repeat (first | (with_reducible first | exact HB.out | apply below_alloc | apply pw_below_drewN | apply below_drew1) | exact HB.out)⟩
    · rw [if_neg c4] at H
      have c4b0 : decide (400 < (a0.size : Int)) = false := decide_eq_false c4
      have c4b1 : decide (400 < a0.size) = false := decide_eq_false (by omega)
      clear c4
      replace H := Option.bind_eq_some_iff.mp H
      obtain ⟨⟨t220, t221, t222⟩, A60, H⟩ := H
      replace H : (if t222 = 0 then (culetlaw13_LexerCover.l0 k a0 0 1 t220 (t220.length : Int) 0) else (some true)) = some r := H
      have A6 := Aside0.mk A60
      clear A60
      by_cases c7 : t222 = 0
      · rw [if_pos c7] at H
        have c7b0 : (t222 == 0) = true := beq_iff_eq.mpr c7
        have c7b1 : (t222 != 0) = false := bne_eq_false_iff_eq.mpr c7
        clear c7
        have H' := Aside0.mk H
        clear H
        go_enter Tryd.func6, Tryd.ntmps6
        go_wp2_with (first | ((with_reducible refine gate_callee (f := 10) rfl ?_); refine goesL_ (some 12) rfl rfl Tryd.func10 (by kernel_rfl) rfl #[] rfl (by (try simp only [List.map_toArray, List.map_cons, List.map_nil]); first | done | rfl | (simp only [List.length_drop, List.length_take]; rfl)) ?_; (with_reducible refine (culetlaw13_awake.calls k  true _ A2.out).mono ?_); rintro e w8 ⟨rfl, hb⟩; refine ⟨_, rfl, ?_⟩; have n0_ := Aside0.mk (below_step (by repeat (first | (with_reducible first | exact HB.out | apply below_alloc | apply pw_below_drewN | apply below_drew1) | exact HB.out)) hb); clear HB; have HB := n0_; clear n0_; (try clear hb); (try clear hb2); (try clear hk); (try clear hi)) | ((with_reducible refine gate_callee (f := 11) rfl ?_); refine goesL_ (some 19) rfl rfl Tryd.func11 (by kernel_rfl) rfl #[.string a0] rfl (by (try simp only [List.map_toArray, List.map_cons, List.map_nil]); first | done | rfl | (simp only [List.length_drop, List.length_take]; rfl)) ?_; (with_reducible refine (lexer_Lex.calls k a0 t220 t221 t222 _ A6.out).mono ?_); rintro e w9 ⟨v223, rfl, ho0, hb⟩; refine ⟨_, rfl, ?_⟩; have n0_ := Aside0.mk (Kd.R_lower ho0 (below_size (by repeat (first | (with_reducible first | exact HB.out | apply below_alloc | apply pw_below_drewN | apply below_drew1) | exact HB.out)))); have n1_ := Aside0.mk (below_step (by repeat (first | (with_reducible first | exact HB.out | apply below_alloc | apply pw_below_drewN | apply below_drew1) | exact HB.out)) hb); clear HB; have HO224 := n0_; have HB := n1_; clear n0_ n1_; (try clear hb); (try clear hb2); (try clear hk); (try clear hi); (try clear ho0); obtain ⟨Ao10, co10, eo10⟩ := Kd.R_slice HO224.out; subst eo10))
        go_loopg [6, 7, 27] k (fun kq v6 v7 v27 w' => ∃ (x6_1 : Int) (x7_1 : Int) (x27_1 : Int), v6 = .int .i64 x6_1 ∧ v7 = .int .i64 x7_1 ∧ v27 = .int .i64 x27_1 ∧ Aside0 (culetlaw13_LexerCover.l0 kq a0 x6_1 x7_1 t220 (t220.length : Int) x27_1 = some r) ∧ Aside0 (kq ≤ k) ∧ Aside0 (Kd.R k38 38 w' w.heap.size (fun _ => True) (.slice Ao10 t220.length co10) t220) ∧ Aside0 (Below w.heap.size w w'))
        case atStart => exact ⟨(0), (1), (0), (by first | rfl | (simp; done) | (simp [*]; done)), (by first | rfl | (simp; done) | (simp [*]; done)), (by first | rfl | (simp; done) | (simp [*]; done)), H', ⟨Nat.le_refl _⟩, ⟨by (with_reducible repeat (first | apply Kd.R_alloc | apply Kd.R_drewN | apply Kd.R_drew)); exact HO224.out⟩, ⟨by repeat (first | (with_reducible first | exact HB.out | apply below_alloc | apply pw_below_drewN | apply below_drew1) | exact HB.out)⟩⟩
        case round =>
          clear H'
          try clear c1
          try clear p2
          try clear c3
          try clear c4
          try clear c4b0
          try clear c4b1
          try clear c6
          try clear c7
          try clear c7b0
          try clear c7b1
          try clear c10
          obtain ⟨x6_1, x7_1, x27_1, rfl, rfl, rfl, HA, HK1, HO_25, HB⟩ := hrel
          cases gk with
          | zero => exact absurd HA.out (by simp [culetlaw13_LexerCover.l0])
          | succ k1 =>
            have H := HA.out
            clear HA
            simp only [culetlaw13_LexerCover.l0] at H
            by_cases c11 : x27_1 < (t220.length : Int)
            · rw [if_pos c11] at H
              have c11b0 : decide (x27_1 < (t220.length : Int)) = true := decide_eq_true c11
              clear c11
              by_cases c12 : 0 ≤ x27_1
              · rw [if_pos c12] at H
                have c12b0 : decide (0 ≤ x27_1) = true := decide_eq_true c12
                clear c12
                by_cases c13 : x27_1 < (t220.length : Int)
                · rw [if_pos c13] at H
                  have c13b0 : decide (x27_1 < (t220.length : Int)) = true := decide_eq_true c13
                  clear c13
                  replace H := Option.bind_eq_some_iff.mp H
                  obtain ⟨t228, A140, H⟩ := H
                  replace H : (if ((rd_T38 t220 x27_1).f3) < x6_1 then (culetlaw13_LexerCover.j1 k1 a0 x6_1 x7_1 t228 t220 (t220.length : Int) x27_1 true ((rd_T38 t220 x27_1).f0) ((rd_T38 t220 x27_1).f1) ((rd_T38 t220 x27_1).f2) ((rd_T38 t220 x27_1).f3)) else (if t228.toList = ([] : List UInt8) then (culetlaw13_LexerCover.j1 k1 a0 x6_1 x7_1 t228 t220 (t220.length : Int) x27_1 true ((rd_T38 t220 x27_1).f0) ((rd_T38 t220 x27_1).f1) ((rd_T38 t220 x27_1).f2) ((rd_T38 t220 x27_1).f3)) else (if (wrap64 (((rd_T38 t220 x27_1).f3) + (t228.size : Int))) > (a0.size : Int) then (culetlaw13_LexerCover.j1 k1 a0 x6_1 x7_1 t228 t220 (t220.length : Int) x27_1 true ((rd_T38 t220 x27_1).f0) ((rd_T38 t220 x27_1).f1) ((rd_T38 t220 x27_1).f2) ((rd_T38 t220 x27_1).f3)) else (if 0 ≤ ((rd_T38 t220 x27_1).f3) then (if ((rd_T38 t220 x27_1).f3) ≤ (wrap64 (((rd_T38 t220 x27_1).f3) + (t228.size : Int))) then (if (wrap64 (((rd_T38 t220 x27_1).f3) + (t228.size : Int))) ≤ (a0.size : Int) then (if (a0.extract (((rd_T38 t220 x27_1).f3) : Int).toNat ((wrap64 (((rd_T38 t220 x27_1).f3) + (t228.size : Int))) : Int).toNat).toList = t228.toList then (if 0 ≤ x6_1 then (if x6_1 ≤ ((rd_T38 t220 x27_1).f3) then (if ((rd_T38 t220 x27_1).f3) ≤ (a0.size : Int) then ((culetlaw13_blank.f k1 (a0.extract (x6_1 : Int).toNat (((rd_T38 t220 x27_1).f3) : Int).toNat) false).bind fun t229 => (culetlaw13_LexerCover.j1 k1 a0 x6_1 x7_1 t228 t220 (t220.length : Int) x27_1 (!t229) ((rd_T38 t220 x27_1).f0) ((rd_T38 t220 x27_1).f1) ((rd_T38 t220 x27_1).f2) ((rd_T38 t220 x27_1).f3))) else (none)) else (none)) else (none)) else (culetlaw13_LexerCover.j1 k1 a0 x6_1 x7_1 t228 t220 (t220.length : Int) x27_1 true ((rd_T38 t220 x27_1).f0) ((rd_T38 t220 x27_1).f1) ((rd_T38 t220 x27_1).f2) ((rd_T38 t220 x27_1).f3))) else (none)) else (none)) else (none))))) = some r := H
                  have A14 := Aside0.mk A140
                  clear A140
                  have HC15 := Aside0.mk H
                  clear H
                  have p226 : 0 ≤ (x27_1 : Int) := of_decide_eq_true (by first | (with_reducible assumption) | assumption)
                  have q226 : x27_1 < (t220.length : Int) := of_decide_eq_true (by first | (with_reducible assumption) | assumption)
                  obtain ⟨ad226, e226, hx226_0, hx226_1, hx226_2, hx226_3⟩ := at_T38 (Kd.R_reads' HO_25.out).2.2 x27_1 p226 q226
                  cases e226
                  replace p226 := eq_true p226
                  replace q226 := eq_true q226
                  go_upto_region 13 with (first | ((with_reducible refine gate_dst (N := 9) rfl ?_); (try (refine gate_guard (by rfl) ?_; dsimp only)); refine box_event ?hg (N := 9) ?hd (cs := #[.int .i64 0, .string (⟨#[]⟩ : ByteArray), .int .i64 0, .int .i64 0]) (t := 38) ?hr ?_; (case hd => rfl); (case hg => rfl); (case hr => first | (go_simp; done) | (go_simp; rfl)); intro gb227 hg w16 hbox hb; have n0_ := Aside0.mk (Kd.R_below (Kd.R_elderB (by (with_reducible repeat (first | apply Kd.R_alloc | apply Kd.R_drewN | apply Kd.R_drew)); exact HO_25.out) gb227 (Nat.le_of_eq hg.symm)) hb); have n1_ := Aside0.mk (below_step (by repeat (first | (with_reducible first | exact HB.out | apply below_alloc | apply pw_below_drewN | apply below_drew1) | exact HB.out)) hb); have n2_ := Aside0.mk (hbox); have n3_ := Aside0.mk ((by rw [hg]; exact (below_size (by repeat (first | (with_reducible first | exact HB.out | apply below_alloc | apply pw_below_drewN | apply below_drew1) | exact HB.out))) : w.heap.size ≤ gb227)); have n4_ := Aside0.mk ((by rw [hg]; exact (below_size (by repeat (first | (with_reducible first | exact HB.out | apply below_alloc | apply pw_below_drewN | apply below_drew1) | exact HB.out))) : w.heap.size ≤ gb227)); clear HO_25; clear HB; have HO_25 := n0_; have HB := n1_; have BK227 := n2_; have GW227 := n3_; have GE227 := n4_; clear n0_ n1_ n2_ n3_ n4_; clear hb hbox hg; have hcz17_0 : w16.cell? ⟨gb227, 0, none⟩ = some (.int .i64 0) := (blk_cell BK227.out 0).trans rfl; have hcz17_1 : w16.cell? ⟨gb227, 1, none⟩ = some (.string (⟨#[]⟩ : ByteArray)) := (blk_cell BK227.out 1).trans rfl; have hcz17_2 : w16.cell? ⟨gb227, 2, none⟩ = some (.int .i64 0) := (blk_cell BK227.out 2).trans rfl; have hcz17_3 : w16.cell? ⟨gb227, 3, none⟩ = some (.int .i64 0) := (blk_cell BK227.out 3).trans rfl; have hfz17_0 := blk_frozen BK227.out 0; have hfz17_1 := blk_frozen BK227.out 1; have hfz17_2 := blk_frozen BK227.out 2; have hfz17_3 := blk_frozen BK227.out 3) | ((with_reducible refine gate_callee (f := 21) rfl ?_); refine goesL_ (some 32) rfl rfl Tryd.func21 (by kernel_rfl) rfl #[.agg #[.int .i64 ((rd_T38 t220 x27_1).f0), .string ((rd_T38 t220 x27_1).f1), .int .i64 ((rd_T38 t220 x27_1).f2), .int .i64 ((rd_T38 t220 x27_1).f3)]] rfl (by (try simp only [List.map_toArray, List.map_cons, List.map_nil]); first | done | rfl | (simp only [List.length_drop, List.length_take]; rfl)) ?_; (with_reducible refine (culetref13_Source.calls ((rd_T38 t220 x27_1).f0) ((rd_T38 t220 x27_1).f1) ((rd_T38 t220 x27_1).f2) ((rd_T38 t220 x27_1).f3) t228 _ A14.out).mono ?_); rintro e w18 ⟨rfl, hb⟩; refine ⟨_, rfl, ?_⟩; have n0_ := Aside0.mk (Kd.R_below (by (with_reducible repeat (first | apply Kd.R_alloc | apply Kd.R_drewN | apply Kd.R_drew)); exact (Kd.R_mono (Kd.R_far (p := ⟨gb227, 3, none⟩) (Kd.R_far (p := ⟨gb227, 2, none⟩) (Kd.R_far (p := ⟨gb227, 1, none⟩) (Kd.R_far (p := ⟨gb227, 0, none⟩) (Kd.R_mono HO_25.out (fun k_ hk => (⟨hk, hk.2⟩ : _ ∧ k_ ≠ gb227))) (fun _ hk => hk.2) (.int .i64 ((rd_T38 t220 x27_1).f0))) (fun _ hk => hk.2) (.string ((rd_T38 t220 x27_1).f1))) (fun _ hk => hk.2) (.int .i64 ((rd_T38 t220 x27_1).f2))) (fun _ hk => hk.2) (.int .i64 ((rd_T38 t220 x27_1).f3))) (fun _ h_ => h_.1))) hb); have n1_ := Aside0.mk (blk_below (g := gb227) (o := .cells #[.int .i64 ((rd_T38 t220 x27_1).f0), .string ((rd_T38 t220 x27_1).f1), .int .i64 ((rd_T38 t220 x27_1).f2), .int .i64 ((rd_T38 t220 x27_1).f3)] 38 (0, 0)) (by (with_reducible repeat (first | refine blk_drewN ?_ _ | refine blk_drew ?_ | refine blk_alloc ?_ _)); refine blk_put (cs := #[.int .i64 ((rd_T38 t220 x27_1).f0), .string ((rd_T38 t220 x27_1).f1), .int .i64 ((rd_T38 t220 x27_1).f2), .int .i64 0]) ?_ 3 _ rfl; (with_reducible repeat (first | refine blk_drewN ?_ _ | refine blk_drew ?_ | refine blk_alloc ?_ _)); refine blk_put (cs := #[.int .i64 ((rd_T38 t220 x27_1).f0), .string ((rd_T38 t220 x27_1).f1), .int .i64 0, .int .i64 0]) ?_ 2 _ rfl; (with_reducible repeat (first | refine blk_drewN ?_ _ | refine blk_drew ?_ | refine blk_alloc ?_ _)); refine blk_put (cs := #[.int .i64 ((rd_T38 t220 x27_1).f0), .string (⟨#[]⟩ : ByteArray), .int .i64 0, .int .i64 0]) ?_ 1 _ rfl; (with_reducible repeat (first | refine blk_drewN ?_ _ | refine blk_drew ?_ | refine blk_alloc ?_ _)); refine blk_put (cs := #[.int .i64 0, .string (⟨#[]⟩ : ByteArray), .int .i64 0, .int .i64 0]) ?_ 0 _ rfl; (with_reducible repeat (first | refine blk_drewN ?_ _ | refine blk_drew ?_ | refine blk_alloc ?_ _)); exact BK227.out) hb); have n2_ := Aside0.mk (below_step (by repeat (first | (with_reducible first | exact HB.out | apply below_alloc | apply pw_below_drewN | apply below_drew1 | refine below_set ?_ GE227.out) | exact HB.out)) hb); clear HO_25; clear BK227; clear HB; have HO_25 := n0_; have BK227 := n1_; have HB := n2_; clear n0_ n1_ n2_; (try clear hb); (try clear hb2); (try clear hk); (try clear hi)))
                  (try simp only [Act.put, List.setIfInBounds_toArray, List.set_cons_zero, List.set_cons_succ])
                  go_cut [72] (fun v72 wc => ∃ (kq : Nat) (x72_14 : Bool), v72 = .bool x72_14 ∧ Aside0 (culetlaw13_LexerCover.j1 kq a0 x6_1 x7_1 t228 t220 (t220.length : Int) x27_1 x72_14 ((rd_T38 t220 x27_1).f0) ((rd_T38 t220 x27_1).f1) ((rd_T38 t220 x27_1).f2) ((rd_T38 t220 x27_1).f3) = some r) ∧ Aside0 (kq ≤ k1) ∧ Aside0 (Kd.R k38 38 wc w.heap.size (fun k_ => k_ ≠ gb227) (.slice (some ad226) t220.length co10) t220) ∧ Aside0 (wc.heap[gb227]? = some (.cells #[.int .i64 ((rd_T38 t220 x27_1).f0), .string ((rd_T38 t220 x27_1).f1), .int .i64 ((rd_T38 t220 x27_1).f2), .int .i64 ((rd_T38 t220 x27_1).f3)] 38 (0, 0))) ∧ Aside0 (Below w.heap.size w wc))
                  case first =>
                    have H := HC15.out
                    clear HC15
                    by_cases c19 : ((rd_T38 t220 x27_1).f3) < x6_1
                    · rw [if_pos c19] at H
                      have c19b0 : decide (((rd_T38 t220 x27_1).f3) < x6_1) = true := decide_eq_true c19
                      clear c19
                      (first | rw [c19b0] | (simp only [i64_w, i32_w]; rw [c19b0]) | skip)
                      have H' := Aside0.mk H
                      clear H
                      have hcz20_0 : w18.cell? ⟨gb227, 0, none⟩ = some (.int .i64 ((rd_T38 t220 x27_1).f0)) := (blk_cell BK227.out 0).trans rfl
                      have hcz20_1 : w18.cell? ⟨gb227, 1, none⟩ = some (.string ((rd_T38 t220 x27_1).f1)) := (blk_cell BK227.out 1).trans rfl
                      have hcz20_2 : w18.cell? ⟨gb227, 2, none⟩ = some (.int .i64 ((rd_T38 t220 x27_1).f2)) := (blk_cell BK227.out 2).trans rfl
                      have hcz20_3 : w18.cell? ⟨gb227, 3, none⟩ = some (.int .i64 ((rd_T38 t220 x27_1).f3)) := (blk_cell BK227.out 3).trans rfl
                      have hfz20_0 := blk_frozen BK227.out 0
                      have hfz20_1 := blk_frozen BK227.out 1
                      have hfz20_2 := blk_frozen BK227.out 2
                      have hfz20_3 := blk_frozen BK227.out 3
                      go_wp2
                      go_meet
                      case rel => exact ⟨_, (true), (by first | rfl | (simp; done) | (simp [*]; done)), H', ⟨by have := HK1.out; first | omega | exact Nat.le_refl _⟩, ⟨by (with_reducible repeat (first | apply Kd.R_alloc | apply Kd.R_drewN | apply Kd.R_drew)); exact Kd.R_mono HO_25.out (fun _ hk => hk.2)⟩, ⟨by (with_reducible repeat (first | refine blk_drewN ?_ _ | refine blk_drew ?_ | refine blk_alloc ?_ _)); exact BK227.out⟩, ⟨by repeat (first | (with_reducible first | exact HB.out | apply below_alloc | apply pw_below_drewN | apply below_drew1 | refine below_set ?_ GE227.out) | exact HB.out)⟩⟩
                    · rw [if_neg c19] at H
                      have c19b0 : decide (((rd_T38 t220 x27_1).f3) < x6_1) = false := decide_eq_false c19
                      clear c19
                      (first | rw [c19b0] | (simp only [i64_w, i32_w]; rw [c19b0]) | skip)
                      by_cases c21 : t228.toList = ([] : List UInt8)
                      · rw [if_pos c21] at H
                        have c21b0 : (t228.toList == ([] : List UInt8)) = true := beq_iff_eq.mpr c21
                        have c21b1 : (t228.toList != ([] : List UInt8)) = false := bne_eq_false_iff_eq.mpr c21
                        clear c21
                        have H' := Aside0.mk H
                        clear H
                        have hcz22_0 : w18.cell? ⟨gb227, 0, none⟩ = some (.int .i64 ((rd_T38 t220 x27_1).f0)) := (blk_cell BK227.out 0).trans rfl
                        have hcz22_1 : w18.cell? ⟨gb227, 1, none⟩ = some (.string ((rd_T38 t220 x27_1).f1)) := (blk_cell BK227.out 1).trans rfl
                        have hcz22_2 : w18.cell? ⟨gb227, 2, none⟩ = some (.int .i64 ((rd_T38 t220 x27_1).f2)) := (blk_cell BK227.out 2).trans rfl
                        have hcz22_3 : w18.cell? ⟨gb227, 3, none⟩ = some (.int .i64 ((rd_T38 t220 x27_1).f3)) := (blk_cell BK227.out 3).trans rfl
                        have hfz22_0 := blk_frozen BK227.out 0
                        have hfz22_1 := blk_frozen BK227.out 1
                        have hfz22_2 := blk_frozen BK227.out 2
                        have hfz22_3 := blk_frozen BK227.out 3
                        go_wp2
                        go_meet
                        case rel => exact ⟨_, (true), (by first | rfl | (simp; done) | (simp [*]; done)), H', ⟨by have := HK1.out; first | omega | exact Nat.le_refl _⟩, ⟨by (with_reducible repeat (first | apply Kd.R_alloc | apply Kd.R_drewN | apply Kd.R_drew)); exact Kd.R_mono HO_25.out (fun _ hk => hk.2)⟩, ⟨by (with_reducible repeat (first | refine blk_drewN ?_ _ | refine blk_drew ?_ | refine blk_alloc ?_ _)); exact BK227.out⟩, ⟨by repeat (first | (with_reducible first | exact HB.out | apply below_alloc | apply pw_below_drewN | apply below_drew1 | refine below_set ?_ GE227.out) | exact HB.out)⟩⟩
                      · rw [if_neg c21] at H
                        have c21b0 : (t228.toList == ([] : List UInt8)) = false := beq_eq_false_iff_ne.mpr c21
                        have c21b1 : (t228.toList != ([] : List UInt8)) = true := bne_iff_ne.mpr c21
                        by_cases c23 : (wrap64 (((rd_T38 t220 x27_1).f3) + (t228.size : Int))) > (a0.size : Int)
                        · rw [if_pos c23] at H
                          have c23b0 : decide ((a0.size : Int) < (wrap64 (((rd_T38 t220 x27_1).f3) + (t228.size : Int)))) = true := decide_eq_true c23
                          clear c23
                          have H' := Aside0.mk H
                          clear H
                          have hcz24_0 : w18.cell? ⟨gb227, 0, none⟩ = some (.int .i64 ((rd_T38 t220 x27_1).f0)) := (blk_cell BK227.out 0).trans rfl
                          have hcz24_1 : w18.cell? ⟨gb227, 1, none⟩ = some (.string ((rd_T38 t220 x27_1).f1)) := (blk_cell BK227.out 1).trans rfl
                          have hcz24_2 : w18.cell? ⟨gb227, 2, none⟩ = some (.int .i64 ((rd_T38 t220 x27_1).f2)) := (blk_cell BK227.out 2).trans rfl
                          have hcz24_3 : w18.cell? ⟨gb227, 3, none⟩ = some (.int .i64 ((rd_T38 t220 x27_1).f3)) := (blk_cell BK227.out 3).trans rfl
                          have hfz24_0 := blk_frozen BK227.out 0
                          have hfz24_1 := blk_frozen BK227.out 1
                          have hfz24_2 := blk_frozen BK227.out 2
                          have hfz24_3 := blk_frozen BK227.out 3
                          go_wp2
                          go_meet
                          case rel => exact ⟨_, (true), (by first | rfl | (simp; done) | (simp [*]; done)), H', ⟨by have := HK1.out; first | omega | exact Nat.le_refl _⟩, ⟨by (with_reducible repeat (first | apply Kd.R_alloc | apply Kd.R_drewN | apply Kd.R_drew)); exact Kd.R_mono HO_25.out (fun _ hk => hk.2)⟩, ⟨by (with_reducible repeat (first | refine blk_drewN ?_ _ | refine blk_drew ?_ | refine blk_alloc ?_ _)); exact BK227.out⟩, ⟨by repeat (first | (with_reducible first | exact HB.out | apply below_alloc | apply pw_below_drewN | apply below_drew1 | refine below_set ?_ GE227.out) | exact HB.out)⟩⟩
                        · rw [if_neg c23] at H
                          have c23b0 : decide ((a0.size : Int) < (wrap64 (((rd_T38 t220 x27_1).f3) + (t228.size : Int)))) = false := decide_eq_false c23
                          clear c23
                          by_cases c25 : 0 ≤ ((rd_T38 t220 x27_1).f3)
                          · rw [if_pos c25] at H
                            have c25b0 := eq_true c25
                            have c25b1 : decide (0 ≤ ((rd_T38 t220 x27_1).f3)) = true := decide_eq_true c25
                            clear c25
                            by_cases c26 : ((rd_T38 t220 x27_1).f3) ≤ (wrap64 (((rd_T38 t220 x27_1).f3) + (t228.size : Int)))
                            · rw [if_pos c26] at H
                              have c26b0 := eq_true c26
                              have c26b1 : decide (((rd_T38 t220 x27_1).f3) ≤ (wrap64 (((rd_T38 t220 x27_1).f3) + (t228.size : Int)))) = true := decide_eq_true c26
                              by_cases c27 : (wrap64 (((rd_T38 t220 x27_1).f3) + (t228.size : Int))) ≤ (a0.size : Int)
                              · rw [if_pos c27] at H
                                have c27b0 := eq_true c27
                                have c27b1 : decide ((wrap64 (((rd_T38 t220 x27_1).f3) + (t228.size : Int))) ≤ (a0.size : Int)) = true := decide_eq_true c27
                                by_cases c28 : (a0.extract (((rd_T38 t220 x27_1).f3) : Int).toNat ((wrap64 (((rd_T38 t220 x27_1).f3) + (t228.size : Int))) : Int).toNat).toList = t228.toList
                                · rw [if_pos c28] at H
                                  have c28b0 : ((a0.extract (((rd_T38 t220 x27_1).f3) : Int).toNat ((wrap64 (((rd_T38 t220 x27_1).f3) + (t228.size : Int))) : Int).toNat).toList == t228.toList) = true := beq_iff_eq.mpr c28
                                  have c28b1 : ((a0.extract (((rd_T38 t220 x27_1).f3) : Int).toNat ((wrap64 (((rd_T38 t220 x27_1).f3) + (t228.size : Int))) : Int).toNat).toList != t228.toList) = false := bne_eq_false_iff_eq.mpr c28
                                  clear c28
                                  by_cases c29 : 0 ≤ x6_1
                                  · rw [if_pos c29] at H
                                    have c29b0 := eq_true c29
                                    have c29b1 : decide (0 ≤ x6_1) = true := decide_eq_true c29
                                    clear c29
                                    by_cases c30 : x6_1 ≤ ((rd_T38 t220 x27_1).f3)
                                    · rw [if_pos c30] at H
                                      have c30b0 := eq_true c30
                                      have c30b1 : decide (x6_1 ≤ ((rd_T38 t220 x27_1).f3)) = true := decide_eq_true c30
                                      clear c30
                                      by_cases c31 : ((rd_T38 t220 x27_1).f3) ≤ (a0.size : Int)
                                      · rw [if_pos c31] at H
                                        have c31b0 := eq_true c31
                                        have c31b1 : decide (((rd_T38 t220 x27_1).f3) ≤ (a0.size : Int)) = true := decide_eq_true c31
                                        clear c31
                                        replace H := Option.bind_eq_some_iff.mp H
                                        obtain ⟨t229, A320, H⟩ := H
                                        replace H : (culetlaw13_LexerCover.j1 k1 a0 x6_1 x7_1 t228 t220 (t220.length : Int) x27_1 (!t229) ((rd_T38 t220 x27_1).f0) ((rd_T38 t220 x27_1).f1) ((rd_T38 t220 x27_1).f2) ((rd_T38 t220 x27_1).f3)) = some r := H
                                        have A32 := Aside0.mk A320
                                        clear A320
                                        have H' := Aside0.mk H
                                        clear H
                                        have hcz33_0 : w18.cell? ⟨gb227, 0, none⟩ = some (.int .i64 ((rd_T38 t220 x27_1).f0)) := (blk_cell BK227.out 0).trans rfl
                                        have hcz33_1 : w18.cell? ⟨gb227, 1, none⟩ = some (.string ((rd_T38 t220 x27_1).f1)) := (blk_cell BK227.out 1).trans rfl
                                        have hcz33_2 : w18.cell? ⟨gb227, 2, none⟩ = some (.int .i64 ((rd_T38 t220 x27_1).f2)) := (blk_cell BK227.out 2).trans rfl
                                        have hcz33_3 : w18.cell? ⟨gb227, 3, none⟩ = some (.int .i64 ((rd_T38 t220 x27_1).f3)) := (blk_cell BK227.out 3).trans rfl
                                        have hfz33_0 := blk_frozen BK227.out 0
                                        have hfz33_1 := blk_frozen BK227.out 1
                                        have hfz33_2 := blk_frozen BK227.out 2
                                        have hfz33_3 := blk_frozen BK227.out 3
                                        go_wp2_with (first | (go_at_call 22; (with_reducible refine (culetlaw13_blank.calls k1 (a0.extract (x6_1 : Int).toNat (((rd_T38 t220 x27_1).f3) : Int).toNat) false t229 _ A32.out).mono ?_); rintro e w' ⟨rfl, ⟨nd, rfl⟩⟩))
                                        go_meet
                                        case rel => exact ⟨_, (!t229), (by first | rfl | (simp; done) | (simp [*]; done)), H', ⟨by have := HK1.out; first | omega | exact Nat.le_refl _⟩, ⟨by (with_reducible repeat (first | apply Kd.R_alloc | apply Kd.R_drewN | apply Kd.R_drew)); exact Kd.R_mono HO_25.out (fun _ hk => hk.2)⟩, ⟨by (with_reducible repeat (first | refine blk_drewN ?_ _ | refine blk_drew ?_ | refine blk_alloc ?_ _)); exact BK227.out⟩, ⟨by repeat (first | (with_reducible first | exact HB.out | apply below_alloc | apply pw_below_drewN | apply below_drew1 | refine below_set ?_ GE227.out) | exact HB.out)⟩⟩
                                      · rw [if_neg c31] at H
                                        exact absurd H (by simp)
                                    · rw [if_neg c30] at H
                                      exact absurd H (by simp)
                                  · rw [if_neg c29] at H
                                    exact absurd H (by simp)
                                · rw [if_neg c28] at H
                                  have c28b0 : ((a0.extract (((rd_T38 t220 x27_1).f3) : Int).toNat ((wrap64 (((rd_T38 t220 x27_1).f3) + (t228.size : Int))) : Int).toNat).toList == t228.toList) = false := beq_eq_false_iff_ne.mpr c28
                                  have c28b1 : ((a0.extract (((rd_T38 t220 x27_1).f3) : Int).toNat ((wrap64 (((rd_T38 t220 x27_1).f3) + (t228.size : Int))) : Int).toNat).toList != t228.toList) = true := bne_iff_ne.mpr c28
                                  have H' := Aside0.mk H
                                  clear H
                                  have hcz34_0 : w18.cell? ⟨gb227, 0, none⟩ = some (.int .i64 ((rd_T38 t220 x27_1).f0)) := (blk_cell BK227.out 0).trans rfl
                                  have hcz34_1 : w18.cell? ⟨gb227, 1, none⟩ = some (.string ((rd_T38 t220 x27_1).f1)) := (blk_cell BK227.out 1).trans rfl
                                  have hcz34_2 : w18.cell? ⟨gb227, 2, none⟩ = some (.int .i64 ((rd_T38 t220 x27_1).f2)) := (blk_cell BK227.out 2).trans rfl
                                  have hcz34_3 : w18.cell? ⟨gb227, 3, none⟩ = some (.int .i64 ((rd_T38 t220 x27_1).f3)) := (blk_cell BK227.out 3).trans rfl
                                  have hfz34_0 := blk_frozen BK227.out 0
                                  have hfz34_1 := blk_frozen BK227.out 1
                                  have hfz34_2 := blk_frozen BK227.out 2
                                  have hfz34_3 := blk_frozen BK227.out 3
                                  go_wp2
                                  go_meet
                                  case rel => exact ⟨_, (true), (by first | rfl | (simp; done) | (simp [*]; done)), H', ⟨by have := HK1.out; first | omega | exact Nat.le_refl _⟩, ⟨by (with_reducible repeat (first | apply Kd.R_alloc | apply Kd.R_drewN | apply Kd.R_drew)); exact Kd.R_mono HO_25.out (fun _ hk => hk.2)⟩, ⟨by (with_reducible repeat (first | refine blk_drewN ?_ _ | refine blk_drew ?_ | refine blk_alloc ?_ _)); exact BK227.out⟩, ⟨by repeat (first | (with_reducible first | exact HB.out | apply below_alloc | apply pw_below_drewN | apply below_drew1 | refine below_set ?_ GE227.out) | exact HB.out)⟩⟩
                              · rw [if_neg c27] at H
                                exact absurd H (by simp)
                            · rw [if_neg c26] at H
                              exact absurd H (by simp)
                          · rw [if_neg c25] at H
                            exact absurd H (by simp)
                  case rest =>
                    clear HC15
                    try clear c1
                    try clear c2
                    try clear p2
                    try clear q2
                    try clear hx2
                    try clear c3
                    try clear c4
                    try clear c4b0
                    try clear c4b1
                    try clear c6
                    try clear p6
                    try clear c7
                    try clear c7b0
                    try clear c7b1
                    try clear c10
                    try clear c11
                    try clear c11b0
                    try clear c12
                    try clear c12b0
                    try clear c13
                    try clear c13b0
                    try clear c19
                    try clear c19b0
                    try clear c21
                    try clear c21b0
                    try clear c21b1
                    try clear p22
                    try clear q22
                    try clear hx22
                    try clear c23
                    try clear c23b0
                    try clear c25
                    try clear c25b0
                    try clear c25b1
                    try clear c26
                    try clear c26b0
                    try clear c26b1
                    try clear c27
                    try clear c27b0
                    try clear c27b1
                    try clear c28
                    try clear c28b0
                    try clear c28b1
                    try clear c29
                    try clear c29b0
                    try clear c29b1
                    try clear c30
                    try clear c30b0
                    try clear c30b1
                    try clear c31
                    try clear c31b0
                    try clear c31b1
                    try clear hcz17_0
                    try clear hcz17_1
                    try clear hcz17_2
                    try clear hcz17_3
                    try clear hcz20_0
                    try clear hcz20_1
                    try clear hcz20_2
                    try clear hcz20_3
                    try clear hcz22_0
                    try clear hcz22_1
                    try clear hcz22_2
                    try clear hcz22_3
                    try clear hcz24_0
                    try clear hcz24_1
                    try clear hcz24_2
                    try clear hcz24_3
                    try clear hcz33_0
                    try clear hcz33_1
                    try clear hcz33_2
                    try clear hcz33_3
                    try clear hcz34_0
                    try clear hcz34_1
                    try clear hcz34_2
                    try clear hcz34_3
                    try clear hfz17_0
                    try clear hfz17_1
                    try clear hfz17_2
                    try clear hfz17_3
                    try clear hfz20_0
                    try clear hfz20_1
                    try clear hfz20_2
                    try clear hfz20_3
                    try clear hfz22_0
                    try clear hfz22_1
                    try clear hfz22_2
                    try clear hfz22_3
                    try clear hfz24_0
                    try clear hfz24_1
                    try clear hfz24_2
                    try clear hfz24_3
                    try clear hfz33_0
                    try clear hfz33_1
                    try clear hfz33_2
                    try clear hfz33_3
                    try clear hfz34_0
                    try clear hfz34_1
                    try clear hfz34_2
                    try clear hfz34_3
                    try clear hx226_0
                    try clear hx226_1
                    try clear hx226_2
                    try clear hx226_3
                    try clear p2
                    try clear p226
                    try clear q226
                    obtain ⟨kq, x72_14, rfl, HA, HJ14, HO_25, BK227, HB⟩ := hcut
                    cases kq with
                    | zero => exact absurd HA.out (by simp [culetlaw13_LexerCover.j1])
                    | succ kj14 =>
                      have H := HA.out
                      clear HA
                      simp only [culetlaw13_LexerCover.j1] at H
                      by_cases c35 : x72_14 = true
                      · subst c35
                        have H1 : (some false) = some r := by rw [if_pos rfl] at H; exact H
                        clear H
                        have H := H1
                        clear H1
                        obtain rfl := Option.some.inj H
                        go_wp2
                        go_ret
                        exact ⟨by first | rfl | (simp [errW_none, errW_some] <;> rfl) | (simp [*, errW_none, errW_some] <;> rfl), by repeat (first | (with_reducible first | exact HB.out | apply below_alloc | apply pw_below_drewN | apply below_drew1 | refine below_set ?_ GE227.out) | exact HB.out)⟩
                      · replace c35 := Bool.eq_false_iff.mpr c35
                        subst c35
                        have H1 : (culetlaw13_LexerCover.l1 kj14 a0 x7_1 t228 x6_1 t220 (t220.length : Int) x27_1 ((rd_T38 t220 x27_1).f0) ((rd_T38 t220 x27_1).f1) ((rd_T38 t220 x27_1).f2) ((rd_T38 t220 x27_1).f3)) = some r := by rw [if_neg (show ¬ (false = true) by decide)] at H; exact H
                        clear H
                        have H := H1
                        clear H1
                        have H' := Aside0.mk H
                        clear H
                        go_wp2
                        go_loopg [7, 11] kj14 (fun kq v7 v11 w' => ∃ (x7_3 : Int) (x11_3 : Int), v7 = .int .i64 x7_3 ∧ v11 = .int .i64 x11_3 ∧ Aside0 (culetlaw13_LexerCover.l1 kq a0 x7_3 t228 x11_3 t220 (t220.length : Int) x27_1 ((rd_T38 t220 x27_1).f0) ((rd_T38 t220 x27_1).f1) ((rd_T38 t220 x27_1).f2) ((rd_T38 t220 x27_1).f3) = some r) ∧ Aside0 (kq ≤ kj14) ∧ Aside0 (Kd.R k38 38 w' w.heap.size (fun k_ => k_ ≠ gb227) (.slice (some ad226) t220.length co10) t220) ∧ Aside0 (w'.heap[gb227]? = some (.cells #[.int .i64 ((rd_T38 t220 x27_1).f0), .string ((rd_T38 t220 x27_1).f1), .int .i64 ((rd_T38 t220 x27_1).f2), .int .i64 ((rd_T38 t220 x27_1).f3)] 38 (0, 0))) ∧ Aside0 (Below w.heap.size w w'))
                        case atStart => exact ⟨(x7_1), (x6_1), (by first | rfl | (simp; done) | (simp [*]; done)), (by first | rfl | (simp; done) | (simp [*]; done)), H', ⟨Nat.le_refl _⟩, ⟨by (with_reducible repeat (first | apply Kd.R_alloc | apply Kd.R_drewN | apply Kd.R_drew)); exact HO_25.out⟩, ⟨by (with_reducible repeat (first | refine blk_drewN ?_ _ | refine blk_drew ?_ | refine blk_alloc ?_ _)); exact BK227.out⟩, ⟨by repeat (first | (with_reducible first | exact HB.out | apply below_alloc | apply pw_below_drewN | apply below_drew1 | refine below_set ?_ GE227.out) | exact HB.out)⟩⟩
                        case round =>
                          clear H'
                          try clear c1
                          try clear c2
                          try clear p2
                          try clear q2
                          try clear hx2
                          try clear c3
                          try clear c4
                          try clear c4b0
                          try clear c4b1
                          try clear c6
                          try clear p6
                          try clear c7
                          try clear c7b0
                          try clear c7b1
                          try clear c10
                          try clear c11
                          try clear c11b0
                          try clear c12
                          try clear c12b0
                          try clear c13
                          try clear c13b0
                          try clear c19
                          try clear c19b0
                          try clear c21
                          try clear c21b0
                          try clear c21b1
                          try clear p22
                          try clear q22
                          try clear hx22
                          try clear c23
                          try clear c23b0
                          try clear c25
                          try clear c25b0
                          try clear c25b1
                          try clear c26
                          try clear c26b0
                          try clear c26b1
                          try clear c27
                          try clear c27b0
                          try clear c27b1
                          try clear c28
                          try clear c28b0
                          try clear c28b1
                          try clear c29
                          try clear c29b0
                          try clear c29b1
                          try clear c30
                          try clear c30b0
                          try clear c30b1
                          try clear c31
                          try clear c31b0
                          try clear c31b1
                          try clear c35
                          try clear hcz17_0
                          try clear hcz17_1
                          try clear hcz17_2
                          try clear hcz17_3
                          try clear hcz20_0
                          try clear hcz20_1
                          try clear hcz20_2
                          try clear hcz20_3
                          try clear hcz22_0
                          try clear hcz22_1
                          try clear hcz22_2
                          try clear hcz22_3
                          try clear hcz24_0
                          try clear hcz24_1
                          try clear hcz24_2
                          try clear hcz24_3
                          try clear hcz33_0
                          try clear hcz33_1
                          try clear hcz33_2
                          try clear hcz33_3
                          try clear hcz34_0
                          try clear hcz34_1
                          try clear hcz34_2
                          try clear hcz34_3
                          try clear hfz17_0
                          try clear hfz17_1
                          try clear hfz17_2
                          try clear hfz17_3
                          try clear hfz20_0
                          try clear hfz20_1
                          try clear hfz20_2
                          try clear hfz20_3
                          try clear hfz22_0
                          try clear hfz22_1
                          try clear hfz22_2
                          try clear hfz22_3
                          try clear hfz24_0
                          try clear hfz24_1
                          try clear hfz24_2
                          try clear hfz24_3
                          try clear hfz33_0
                          try clear hfz33_1
                          try clear hfz33_2
                          try clear hfz33_3
                          try clear hfz34_0
                          try clear hfz34_1
                          try clear hfz34_2
                          try clear hfz34_3
                          try clear hx226_0
                          try clear hx226_1
                          try clear hx226_2
                          try clear hx226_3
                          try clear p2
                          try clear p22
                          try clear p226
                          try clear p6
                          try clear q2
                          try clear q22
                          try clear q226
                          obtain ⟨x7_3, x11_3, rfl, rfl, HA, HK3, HO_25, BK227, HB⟩ := hrel
                          cases gk with
                          | zero => exact absurd HA.out (by simp [culetlaw13_LexerCover.l1])
                          | succ k3 =>
                            have H := HA.out
                            clear HA
                            simp only [culetlaw13_LexerCover.l1] at H
                            by_cases c36 : x11_3 < ((rd_T38 t220 x27_1).f3)
                            · rw [if_pos c36] at H
                              have c36b0 : decide (x11_3 < ((rd_T38 t220 x27_1).f3)) = true := decide_eq_true c36
                              clear c36
                              by_cases c37 : 0 ≤ x11_3
                              · rw [if_pos c37] at H
                                have c37b0 : decide (0 ≤ x11_3) = true := decide_eq_true c37
                                clear c37
                                by_cases c38 : x11_3 < (a0.size : Int)
                                · rw [if_pos c38] at H
                                  have c38b0 : decide (x11_3 < (a0.size : Int)) = true := decide_eq_true c38
                                  clear c38
                                  by_cases c40 : (bt a0 x11_3) = 10
                                  · rw [if_pos c40] at H
                                    have c40b0 : ((bt a0 x11_3) == 10) = true := beq_iff_eq.mpr c40
                                    have c40b1 : ((bt a0 x11_3) != 10) = false := bne_eq_false_iff_eq.mpr c40
                                    clear c40
                                    have H' := Aside0.mk H
                                    clear H
                                    have hcz41_0 : wr.cell? ⟨gb227, 0, none⟩ = some (.int .i64 ((rd_T38 t220 x27_1).f0)) := (blk_cell BK227.out 0).trans rfl
                                    have hcz41_1 : wr.cell? ⟨gb227, 1, none⟩ = some (.string ((rd_T38 t220 x27_1).f1)) := (blk_cell BK227.out 1).trans rfl
                                    have hcz41_2 : wr.cell? ⟨gb227, 2, none⟩ = some (.int .i64 ((rd_T38 t220 x27_1).f2)) := (blk_cell BK227.out 2).trans rfl
                                    have hcz41_3 : wr.cell? ⟨gb227, 3, none⟩ = some (.int .i64 ((rd_T38 t220 x27_1).f3)) := (blk_cell BK227.out 3).trans rfl
                                    have hfz41_0 := blk_frozen BK227.out 0
                                    have hfz41_1 := blk_frozen BK227.out 1
                                    have hfz41_2 := blk_frozen BK227.out 2
                                    have hfz41_3 := blk_frozen BK227.out 3
                                    have p39 : 0 ≤ (x11_3 : Int) := of_decide_eq_true (by first | (with_reducible assumption) | assumption)
                                    have q39 : x11_3 < (a0.size : Int) := of_decide_eq_true (by first | (with_reducible assumption) | assumption)
                                    have hx39 := bt_at a0 x11_3
                                    replace p39 := eq_true p39
                                    replace q39 := eq_true q39
                                    go_wp2
                                    go_roundg k3
                                    case measure => have := HK1.out; have := HJ14.out; have := HK3.out; omega
                                    case rel => exact ⟨(wrap64 (x7_3 + 1)), (wrap64 (x11_3 + 1)), (by first | rfl | (simp; done) | (simp [*]; done)), (by first | rfl | (simp; done) | (simp [*]; done)), H', ⟨by have := HK1.out; have := HJ14.out; have := HK3.out; omega⟩, ⟨by (with_reducible repeat (first | apply Kd.R_alloc | apply Kd.R_drewN | apply Kd.R_drew)); exact HO_25.out⟩, ⟨by (with_reducible repeat (first | refine blk_drewN ?_ _ | refine blk_drew ?_ | refine blk_alloc ?_ _)); exact BK227.out⟩, ⟨by repeat (first | (with_reducible first | exact HB.out | apply below_alloc | apply pw_below_drewN | apply below_drew1 | refine below_set ?_ GE227.out) | exact HB.out)⟩⟩
                                  · rw [if_neg c40] at H
                                    have c40b0 : ((bt a0 x11_3) == 10) = false := beq_eq_false_iff_ne.mpr c40
                                    have c40b1 : ((bt a0 x11_3) != 10) = true := bne_iff_ne.mpr c40
                                    have H' := Aside0.mk H
                                    clear H
                                    have hcz42_0 : wr.cell? ⟨gb227, 0, none⟩ = some (.int .i64 ((rd_T38 t220 x27_1).f0)) := (blk_cell BK227.out 0).trans rfl
                                    have hcz42_1 : wr.cell? ⟨gb227, 1, none⟩ = some (.string ((rd_T38 t220 x27_1).f1)) := (blk_cell BK227.out 1).trans rfl
                                    have hcz42_2 : wr.cell? ⟨gb227, 2, none⟩ = some (.int .i64 ((rd_T38 t220 x27_1).f2)) := (blk_cell BK227.out 2).trans rfl
                                    have hcz42_3 : wr.cell? ⟨gb227, 3, none⟩ = some (.int .i64 ((rd_T38 t220 x27_1).f3)) := (blk_cell BK227.out 3).trans rfl
                                    have hfz42_0 := blk_frozen BK227.out 0
                                    have hfz42_1 := blk_frozen BK227.out 1
                                    have hfz42_2 := blk_frozen BK227.out 2
                                    have hfz42_3 := blk_frozen BK227.out 3
                                    have p39 : 0 ≤ (x11_3 : Int) := of_decide_eq_true (by first | (with_reducible assumption) | assumption)
                                    have q39 : x11_3 < (a0.size : Int) := of_decide_eq_true (by first | (with_reducible assumption) | assumption)
                                    have hx39 := bt_at a0 x11_3
                                    replace p39 := eq_true p39
                                    replace q39 := eq_true q39
                                    go_wp2
                                    go_roundg k3
                                    case measure => have := HK1.out; have := HJ14.out; have := HK3.out; omega
                                    case rel => exact ⟨(x7_3), (wrap64 (x11_3 + 1)), (by first | rfl | (simp; done) | (simp [*]; done)), (by first | rfl | (simp; done) | (simp [*]; done)), H', ⟨by have := HK1.out; have := HJ14.out; have := HK3.out; omega⟩, ⟨by (with_reducible repeat (first | apply Kd.R_alloc | apply Kd.R_drewN | apply Kd.R_drew)); exact HO_25.out⟩, ⟨by (with_reducible repeat (first | refine blk_drewN ?_ _ | refine blk_drew ?_ | refine blk_alloc ?_ _)); exact BK227.out⟩, ⟨by repeat (first | (with_reducible first | exact HB.out | apply below_alloc | apply pw_below_drewN | apply below_drew1 | refine below_set ?_ GE227.out) | exact HB.out)⟩⟩
                                · rw [if_neg c38] at H
                                  exact absurd H (by simp)
                              · rw [if_neg c37] at H
                                exact absurd H (by simp)
                            · rw [if_neg c36] at H
                              have c36b0 : decide (x11_3 < ((rd_T38 t220 x27_1).f3)) = false := decide_eq_false c36
                              clear c36
                              by_cases c43 : ((rd_T38 t220 x27_1).f2) = x7_3
                              · rw [if_pos c43] at H
                                have c43b0 : (((rd_T38 t220 x27_1).f2) == x7_3) = true := beq_iff_eq.mpr c43
                                have c43b1 : (((rd_T38 t220 x27_1).f2) != x7_3) = false := bne_eq_false_iff_eq.mpr c43
                                clear c43
                                have H' := Aside0.mk H
                                clear H
                                have hcz44_0 : wr.cell? ⟨gb227, 0, none⟩ = some (.int .i64 ((rd_T38 t220 x27_1).f0)) := (blk_cell BK227.out 0).trans rfl
                                have hcz44_1 : wr.cell? ⟨gb227, 1, none⟩ = some (.string ((rd_T38 t220 x27_1).f1)) := (blk_cell BK227.out 1).trans rfl
                                have hcz44_2 : wr.cell? ⟨gb227, 2, none⟩ = some (.int .i64 ((rd_T38 t220 x27_1).f2)) := (blk_cell BK227.out 2).trans rfl
                                have hcz44_3 : wr.cell? ⟨gb227, 3, none⟩ = some (.int .i64 ((rd_T38 t220 x27_1).f3)) := (blk_cell BK227.out 3).trans rfl
                                have hfz44_0 := blk_frozen BK227.out 0
                                have hfz44_1 := blk_frozen BK227.out 1
                                have hfz44_2 := blk_frozen BK227.out 2
                                have hfz44_3 := blk_frozen BK227.out 3
                                go_wp2
                                go_roundg k3
                                case measure => have := HK1.out; have := HJ14.out; have := HK3.out; omega
                                case rel => exact ⟨(wrap64 (((rd_T38 t220 x27_1).f3) + (t228.size : Int))), (x7_3), (wrap64 (x27_1 + 1)), (by first | rfl | (simp; done) | (simp [*]; done)), (by first | rfl | (simp; done) | (simp [*]; done)), (by first | rfl | (simp; done) | (simp [*]; done)), H', ⟨by have := HK1.out; have := HJ14.out; have := HK3.out; omega⟩, ⟨by (with_reducible repeat (first | apply Kd.R_alloc | apply Kd.R_drewN | apply Kd.R_drew)); exact Kd.R_mono HO_25.out (fun _ hk => trivial)⟩, ⟨by repeat (first | (with_reducible first | exact HB.out | apply below_alloc | apply pw_below_drewN | apply below_drew1 | refine below_set ?_ GE227.out) | exact HB.out)⟩⟩
                              · rw [if_neg c43] at H
                                have c43b0 : (((rd_T38 t220 x27_1).f2) == x7_3) = false := beq_eq_false_iff_ne.mpr c43
                                have c43b1 : (((rd_T38 t220 x27_1).f2) != x7_3) = true := bne_iff_ne.mpr c43
                                obtain rfl := Option.some.inj H
                                have hcz45_0 : wr.cell? ⟨gb227, 0, none⟩ = some (.int .i64 ((rd_T38 t220 x27_1).f0)) := (blk_cell BK227.out 0).trans rfl
                                have hcz45_1 : wr.cell? ⟨gb227, 1, none⟩ = some (.string ((rd_T38 t220 x27_1).f1)) := (blk_cell BK227.out 1).trans rfl
                                have hcz45_2 : wr.cell? ⟨gb227, 2, none⟩ = some (.int .i64 ((rd_T38 t220 x27_1).f2)) := (blk_cell BK227.out 2).trans rfl
                                have hcz45_3 : wr.cell? ⟨gb227, 3, none⟩ = some (.int .i64 ((rd_T38 t220 x27_1).f3)) := (blk_cell BK227.out 3).trans rfl
                                have hfz45_0 := blk_frozen BK227.out 0
                                have hfz45_1 := blk_frozen BK227.out 1
                                have hfz45_2 := blk_frozen BK227.out 2
                                have hfz45_3 := blk_frozen BK227.out 3
                                go_wp2
                                go_ret
                                exact ⟨by first | rfl | (simp [errW_none, errW_some] <;> rfl) | (simp [*, errW_none, errW_some] <;> rfl), by repeat (first | (with_reducible first | exact HB.out | apply below_alloc | apply pw_below_drewN | apply below_drew1 | refine below_set ?_ GE227.out) | exact HB.out)⟩
                · rw [if_neg c13] at H
                  exact absurd H (by simp)
              · rw [if_neg c12] at H
                exact absurd H (by simp)
            · rw [if_neg c11] at H
              have c11b0 : decide (x27_1 < (t220.length : Int)) = false := decide_eq_false c11
              clear c11
              by_cases c46 : 0 ≤ x6_1
              · rw [if_pos c46] at H
                have c46b0 := eq_true c46
                have c46b1 : decide (0 ≤ x6_1) = true := decide_eq_true c46
                clear c46
                by_cases c47 : x6_1 ≤ (a0.size : Int)
                · rw [if_pos c47] at H
                  have c47b0 := eq_true c47
                  have c47b1 : decide (x6_1 ≤ (a0.size : Int)) = true := decide_eq_true c47
                  clear c47
                  replace H := Option.bind_eq_some_iff.mp H
                  obtain ⟨t225, A480, H⟩ := H
                  replace H : (some t225) = some r := H
                  have A48 := Aside0.mk A480
                  clear A480
                  obtain rfl := Option.some.inj H
                  go_wp2_with (first | ((with_reducible refine gate_callee (f := 22) rfl ?_); refine goesL_ (some 99) rfl rfl Tryd.func22 (by kernel_rfl) rfl #[.string (a0.extract (x6_1 : Int).toNat a0.size), .bool true] rfl (by (try simp only [List.map_toArray, List.map_cons, List.map_nil]); first | done | rfl | (simp only [List.length_drop, List.length_take]; rfl)) ?_; (with_reducible refine (culetlaw13_blank.calls k1 (a0.extract (x6_1 : Int).toNat a0.size) true t225 _ A48.out).mono ?_); rintro e w' ⟨rfl, ⟨nd, rfl⟩⟩; refine ⟨_, rfl, ?_⟩))
                  go_ret
                  exact ⟨by first | rfl | (simp [errW_none, errW_some] <;> rfl) | (simp [*, errW_none, errW_some] <;> rfl), by repeat (first | (with_reducible first | exact HB.out | apply below_alloc | apply pw_below_drewN | apply below_drew1) | exact HB.out)⟩
                · rw [if_neg c47] at H
                  exact absurd H (by simp)
              · rw [if_neg c46] at H
                exact absurd H (by simp)
      · rw [if_neg c7] at H
        have c7b0 : (t222 == 0) = false := beq_eq_false_iff_ne.mpr c7
        have c7b1 : (t222 != 0) = true := bne_iff_ne.mpr c7
        obtain rfl := Option.some.inj H
        go_enter Tryd.func6, Tryd.ntmps6
        go_wp2_with (first | ((with_reducible refine gate_callee (f := 10) rfl ?_); refine goesL_ (some 12) rfl rfl Tryd.func10 (by kernel_rfl) rfl #[] rfl (by (try simp only [List.map_toArray, List.map_cons, List.map_nil]); first | done | rfl | (simp only [List.length_drop, List.length_take]; rfl)) ?_; (with_reducible refine (culetlaw13_awake.calls k  true _ A2.out).mono ?_); rintro e w49 ⟨rfl, hb⟩; refine ⟨_, rfl, ?_⟩; have n0_ := Aside0.mk (below_step (by repeat (first | (with_reducible first | exact HB.out | apply below_alloc | apply pw_below_drewN | apply below_drew1) | exact HB.out)) hb); clear HB; have HB := n0_; clear n0_; (try clear hb); (try clear hb2); (try clear hk); (try clear hi)) | ((with_reducible refine gate_callee (f := 11) rfl ?_); refine goesL_ (some 19) rfl rfl Tryd.func11 (by kernel_rfl) rfl #[.string a0] rfl (by (try simp only [List.map_toArray, List.map_cons, List.map_nil]); first | done | rfl | (simp only [List.length_drop, List.length_take]; rfl)) ?_; (with_reducible refine (lexer_Lex.calls k a0 t220 t221 t222 _ A6.out).mono ?_); rintro e w50 ⟨v223, rfl, ho0, hb⟩; refine ⟨_, rfl, ?_⟩; have n0_ := Aside0.mk (Kd.R_lower ho0 (below_size (by repeat (first | (with_reducible first | exact HB.out | apply below_alloc | apply pw_below_drewN | apply below_drew1) | exact HB.out)))); have n1_ := Aside0.mk (below_step (by repeat (first | (with_reducible first | exact HB.out | apply below_alloc | apply pw_below_drewN | apply below_drew1) | exact HB.out)) hb); clear HB; have HO224 := n0_; have HB := n1_; clear n0_ n1_; (try clear hb); (try clear hb2); (try clear hk); (try clear hi); (try clear ho0)))
        go_ret
        exact ⟨by first | rfl | (simp [errW_none, errW_some] <;> rfl) | (simp [*, errW_none, errW_some] <;> rfl), by repeat (first | (with_reducible first | exact HB.out | apply below_alloc | apply pw_below_drewN | apply below_drew1) | exact HB.out)⟩
  · replace c3 := Bool.eq_false_iff.mpr c3
    subst c3
    have H1 : (some false) = some r := by rw [if_neg (show ¬ (false = true) by decide)] at H; exact H
    clear H
    have H := H1
    clear H1
    obtain rfl := Option.some.inj H
    go_enter Tryd.func6, Tryd.ntmps6
    go_wp2_with (first | ((with_reducible refine gate_callee (f := 10) rfl ?_); refine goesL_ (some 12) rfl rfl Tryd.func10 (by kernel_rfl) rfl #[] rfl (by (try simp only [List.map_toArray, List.map_cons, List.map_nil]); first | done | rfl | (simp only [List.length_drop, List.length_take]; rfl)) ?_; (with_reducible refine (culetlaw13_awake.calls k  false _ A2.out).mono ?_); rintro e w51 ⟨rfl, hb⟩; refine ⟨_, rfl, ?_⟩; have n0_ := Aside0.mk (below_step (by repeat (first | (with_reducible first | exact HB.out | apply below_alloc | apply pw_below_drewN | apply below_drew1) | exact HB.out)) hb); clear HB; have HB := n0_; clear n0_; (try clear hb); (try clear hb2); (try clear hk); (try clear hi)))
    go_ret
    exact ⟨by first | rfl | (simp [errW_none, errW_some] <;> rfl) | (simp [*, errW_none, errW_some] <;> rfl), by repeat (first | (with_reducible first | exact HB.out | apply below_alloc | apply pw_below_drewN | apply below_drew1) | exact HB.out)⟩

/-- THE ONE PURE STATEMENT of culetlaw13_LexerCover: yours. -/
def culetlaw13_LexerCover.Pure : Prop := ∀ (a0 : ByteArray), a0.size ≤ 140737488351232 → ∃ k, culetlaw13_LexerCover.f k a0 = some true
theorem culetlaw13_LexerCover.walk (P : culetlaw13_LexerCover.Pure) (a0 : ByteArray) (w : World) (w0 : a0.size ≤ 140737488351232) :
    Calls Tryd.prog 6 #[.string a0] w fun e w' => e = .returned (.bool true) ∧ Below w.heap.size w w' := by
  obtain ⟨k, h⟩ := P a0 w0
  refine (culetlaw13_LexerCover.calls k a0 true w h).mono ?_
  rintro e w' ⟨rfl, hd⟩
  exact ⟨rfl, hd⟩

end Go.Proofs.YthjmbagkomnpgaaDoor.L
