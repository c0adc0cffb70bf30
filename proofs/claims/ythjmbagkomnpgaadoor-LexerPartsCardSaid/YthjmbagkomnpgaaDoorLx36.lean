-- Written by this session's own program over the kit's printer, with hand-made contracts. Lean checks it.
import Derived.Test.YthjmbagkomnpgaaDoorLx0
import Derived.Test.YthjmbagkomnpgaaDoorLx17
import Derived.Test.YthjmbagkomnpgaaDoorLx18
import Derived.Test.YthjmbagkomnpgaaDoorMc
namespace Go.Proofs.YthjmbagkomnpgaaDoor.L
open Go.RowKit Go.Proofs.YthjmbagkomnpgaaDoorW.PrintWords Go.Proofs.YthjmbagkomnpgaaDoorW.PrintLast Go.Proofs.YthjmbagkomnpgaaDoorW.PrintMore
attribute [local go_sem] max2_int min2_int max_two min_two max_three min_three max_four min_four   -- for this text's walks alone
set_option linter.unusedVariables false
set_option linter.unusedSimpArgs false

/-! ### culetlaw13_LexerParts: function 8 -/
mutual
def culetlaw13_LexerParts.j0 : Nat → ByteArray → ByteArray → Bool → Option (Bool)
  | 0, _, _, _ => none
  | k + 1, x0, x1, x28 => if x28 = true then (some true) else ((lexer_Lex.f k x0).bind fun bt239 => ((lexer_Lex.f k x1).bind fun bt244 => (if x0.size + 1 ≤ 9223372036854775807 then (if (x0 ++ (⟨#[10]⟩ : ByteArray)).size + x1.size ≤ 9223372036854775807 then ((lexer_Lex.f k ((x0 ++ (⟨#[10]⟩ : ByteArray)) ++ x1)).bind fun bt249 => (if bt239.2.2 = 0 then (if bt244.2.2 = 0 then (culetlaw13_LexerParts.l0 k x0 bt239.1 bt244.1 bt249.1 bt249.2.2 1 (x0.size : Int) 0) else (if bt249.2.2 = bt244.2.2 then (if bt249.2.1 = (wrap64 ((wrap64 ((x0.size : Int) + 1)) + bt244.2.1)) then (some ((bt249.1.length : Int) == 0)) else (some false)) else (some false))) else (if bt249.2.2 = bt239.2.2 then (if bt249.2.1 = bt239.2.1 then (some ((bt249.1.length : Int) == 0)) else (some false)) else (some false)))) else (none)) else (none))))
def culetlaw13_LexerParts.l0 : Nat → ByteArray → List (S38) → List (S38) → List (S38) → Int → Int → Int → Int → Option (Bool)
  | 0, _, _, _, _, _, _, _, _ => none
  | k + 1, x0, x5, x8, x11, x13, x14, x85, x86 => if x86 < x85 then (if 0 ≤ x86 then (if x86 < (x0.size : Int) then (if (bt x0 x86) = 10 then (culetlaw13_LexerParts.l0 k x0 x5 x8 x11 x13 (wrap64 (x14 + 1)) x85 (wrap64 (x86 + 1))) else (culetlaw13_LexerParts.l0 k x0 x5 x8 x11 x13 x14 x85 (wrap64 (x86 + 1)))) else (none)) else (none)) else ((culetlaw13_theirs.f k x5).bind fun t254 => (culetlaw13_LexerParts.l1 k x0 x11 x13 x14 t254 x8 (x8.length : Int) 0))
def culetlaw13_LexerParts.l1 : Nat → ByteArray → List (S38) → Int → Int → List (S40) → List (S38) → Int → Int → Option (Bool)
  | 0, _, _, _, _, _, _, _, _ => none
  | k + 1, x0, x11, x13, x14, x16, x98, x99, x100 => if x100 < x99 then (if 0 ≤ x100 then (if x100 < (x98.length : Int) then (if x16.length < 3518437208883 then (culetlaw13_LexerParts.l1 k x0 x11 x13 x14 (x16 ++ [(⟨(rd_T38 x98 x100).f0, (rd_T38 x98 x100).f1, wrap64 (((rd_T38 x98 x100).f2) + x14), wrap64 ((wrap64 (((rd_T38 x98 x100).f3) + (x0.size : Int))) + 1)⟩ : S40)]) x98 x99 (wrap64 (x100 + 1))) else (none)) else (none)) else (none)) else (if x13 = 0 then ((culetlaw13_theirs.f k x11).bind fun t262 => ((culetref13_Same.f k t262 x16).bind fun t265 => (some t265))) else (some false))
end
def culetlaw13_LexerParts.f (k : Nat) (a0 : ByteArray) (a1 : ByteArray) : Option (Bool) := (culetlaw13_awake.f k).bind fun t238 => (if t238 = true then (if (a0.size : Int) > 200 then (culetlaw13_LexerParts.j0 k a0 a1 true) else (culetlaw13_LexerParts.j0 k a0 a1 (decide ((a1.size : Int) > 200)))) else (some false))
theorem culetlaw13_LexerParts.mono_l : ∀ k, (∀ y0 y1 y2, LeO (culetlaw13_LexerParts.j0 k y0 y1 y2) (culetlaw13_LexerParts.j0 (k + 1) y0 y1 y2)) ∧ (∀ y0 y1 y2 y3 y4 y5 y6 y7, LeO (culetlaw13_LexerParts.l0 k y0 y1 y2 y3 y4 y5 y6 y7) (culetlaw13_LexerParts.l0 (k + 1) y0 y1 y2 y3 y4 y5 y6 y7)) ∧ (∀ y0 y1 y2 y3 y4 y5 y6 y7, LeO (culetlaw13_LexerParts.l1 k y0 y1 y2 y3 y4 y5 y6 y7) (culetlaw13_LexerParts.l1 (k + 1) y0 y1 y2 y3 y4 y5 y6 y7))
  | 0 => ⟨fun _ _ _ r h => by simp [culetlaw13_LexerParts.j0] at h, fun _ _ _ _ _ _ _ _ r h => by simp [culetlaw13_LexerParts.l0] at h, fun _ _ _ _ _ _ _ _ r h => by simp [culetlaw13_LexerParts.l1] at h⟩
  | k + 1 => by
    obtain ⟨ih0, ih1, ih2⟩ := culetlaw13_LexerParts.mono_l k
    refine ⟨?_, ?_, ?_⟩
    · intro y0 y1 y2
      unfold culetlaw13_LexerParts.j0
      repeat' first
      | (with_reducible exact ih0 _ _ _)
      | (with_reducible exact ih1 _ _ _ _ _ _ _ _)
      | (with_reducible exact ih2 _ _ _ _ _ _ _ _)
      | (with_reducible exact culetlaw13_awake.mono _)
      | (with_reducible exact culetlaw13_theirs.mono _ _)
      | (with_reducible exact culetref13_Same.mono _ _ _)
      | (with_reducible exact lexer_Lex.mono _ _)
      | (with_reducible exact LeO.refl _)
      | (with_reducible exact LeO.none _)
      | (with_reducible refine LeO.ite ?_ ?_)
      | (with_reducible refine LeO.bind ?_ (fun _ => ?_))
      | exact ih0 _ _ _
      | exact ih1 _ _ _ _ _ _ _ _
      | exact ih2 _ _ _ _ _ _ _ _
      | exact culetlaw13_awake.mono _
      | exact culetlaw13_theirs.mono _ _
      | exact culetref13_Same.mono _ _ _
      | exact lexer_Lex.mono _ _
      | exact LeO.none _
      | refine LeO.ite ?_ ?_
      | refine LeO.bind ?_ (fun _ => ?_)
    · intro y0 y1 y2 y3 y4 y5 y6 y7
      unfold culetlaw13_LexerParts.l0
      repeat' first
      | (with_reducible exact ih0 _ _ _)
      | (with_reducible exact ih1 _ _ _ _ _ _ _ _)
      | (with_reducible exact ih2 _ _ _ _ _ _ _ _)
      | (with_reducible exact culetlaw13_awake.mono _)
      | (with_reducible exact culetlaw13_theirs.mono _ _)
      | (with_reducible exact culetref13_Same.mono _ _ _)
      | (with_reducible exact lexer_Lex.mono _ _)
      | (with_reducible exact LeO.refl _)
      | (with_reducible exact LeO.none _)
      | (with_reducible refine LeO.ite ?_ ?_)
      | (with_reducible refine LeO.bind ?_ (fun _ => ?_))
      | exact ih0 _ _ _
      | exact ih1 _ _ _ _ _ _ _ _
      | exact ih2 _ _ _ _ _ _ _ _
      | exact culetlaw13_awake.mono _
      | exact culetlaw13_theirs.mono _ _
      | exact culetref13_Same.mono _ _ _
      | exact lexer_Lex.mono _ _
      | exact LeO.none _
      | refine LeO.ite ?_ ?_
      | refine LeO.bind ?_ (fun _ => ?_)
    · intro y0 y1 y2 y3 y4 y5 y6 y7
      unfold culetlaw13_LexerParts.l1
      repeat' first
      | (with_reducible exact ih0 _ _ _)
      | (with_reducible exact ih1 _ _ _ _ _ _ _ _)
      | (with_reducible exact ih2 _ _ _ _ _ _ _ _)
      | (with_reducible exact culetlaw13_awake.mono _)
      | (with_reducible exact culetlaw13_theirs.mono _ _)
      | (with_reducible exact culetref13_Same.mono _ _ _)
      | (with_reducible exact lexer_Lex.mono _ _)
      | (with_reducible exact LeO.refl _)
      | (with_reducible exact LeO.none _)
      | (with_reducible refine LeO.ite ?_ ?_)
      | (with_reducible refine LeO.bind ?_ (fun _ => ?_))
      | exact ih0 _ _ _
      | exact ih1 _ _ _ _ _ _ _ _
      | exact ih2 _ _ _ _ _ _ _ _
      | exact culetlaw13_awake.mono _
      | exact culetlaw13_theirs.mono _ _
      | exact culetref13_Same.mono _ _ _
      | exact lexer_Lex.mono _ _
      | exact LeO.none _
      | refine LeO.ite ?_ ?_
      | refine LeO.bind ?_ (fun _ => ?_)
theorem culetlaw13_LexerParts.mono : ∀ a0 a1 k, LeO (culetlaw13_LexerParts.f k a0 a1) (culetlaw13_LexerParts.f (k + 1) a0 a1) := by
  intro a0 a1 k
  obtain ⟨ih0, ih1, ih2⟩ := culetlaw13_LexerParts.mono_l k
  unfold culetlaw13_LexerParts.f
  repeat' first
      | (with_reducible exact ih0 _ _ _)
      | (with_reducible exact ih1 _ _ _ _ _ _ _ _)
      | (with_reducible exact ih2 _ _ _ _ _ _ _ _)
      | (with_reducible exact culetlaw13_awake.mono _)
      | (with_reducible exact culetlaw13_theirs.mono _ _)
      | (with_reducible exact culetref13_Same.mono _ _ _)
      | (with_reducible exact lexer_Lex.mono _ _)
      | (with_reducible exact LeO.refl _)
      | (with_reducible exact LeO.none _)
      | (with_reducible refine LeO.ite ?_ ?_)
      | (with_reducible refine LeO.bind ?_ (fun _ => ?_))
      | exact ih0 _ _ _
      | exact ih1 _ _ _ _ _ _ _ _
      | exact ih2 _ _ _ _ _ _ _ _
      | exact culetlaw13_awake.mono _
      | exact culetlaw13_theirs.mono _ _
      | exact culetref13_Same.mono _ _ _
      | exact lexer_Lex.mono _ _
      | exact LeO.none _
      | refine LeO.ite ?_ ?_
      | refine LeO.bind ?_ (fun _ => ?_)
theorem st38 (W : World) (g : Nat) (a : Int) (b : ByteArray) (c d : Int) {o0 o1 o2 o3 : Value} (h0 : W.cell? ⟨g, 0, none⟩ = some o0) (h1 : W.cell? ⟨g, 1, none⟩ = some o1) (h2 : W.cell? ⟨g, 2, none⟩ = some o2) (h3 : W.cell? ⟨g, 3, none⟩ = some o3)
    (f0 : W.frozen? ⟨g, 0, none⟩ = false) (f1 : W.frozen? ⟨g, 1, none⟩ = false) (f2 : W.frozen? ⟨g, 2, none⟩ = false) (f3 : W.frozen? ⟨g, 3, none⟩ = false) :
    (do Instr.storeAt 38 (.pointer (some ⟨g, 0, none⟩)) (.agg #[.int .i64 a, .string b, .int .i64 c, .int .i64 d]); pure Next.skip : Sem Next).run Tryd.prog W = .ok .skip ((((W.setCell ⟨g, 0, none⟩ (.int .i64 a)).setCell ⟨g, 1, none⟩ (.string b)).setCell ⟨g, 2, none⟩ (.int .i64 c)).setCell ⟨g, 3, none⟩ (.int .i64 d)) := by
  have hu := Tryd.underlying38
  have hu3 := Tryd.underlying3
  have hu9 := Tryd.underlying9
  go_simp
theorem st3 (W : World) (g f : Nat) (v : Int) {old : Value} (hc : W.cell? ⟨g, f, none⟩ = some old) (hf : W.frozen? ⟨g, f, none⟩ = false) :
    (do Instr.storeAt 3 (.pointer (some ⟨g, f, none⟩)) (.int .i64 v); pure Next.skip : Sem Next).run Tryd.prog W = .ok .skip (W.setCell ⟨g, f, none⟩ (.int .i64 v)) := by
  have hu := Tryd.underlying3
  go_simp
set_option maxHeartbeats 8000000 in
set_option maxRecDepth 100000 in
theorem culetlaw13_LexerParts.calls (k : Nat) (a0 : ByteArray) (a1 : ByteArray) (r : Bool) (w : World) (h : culetlaw13_LexerParts.f k a0 a1 = some r) :
    Calls Tryd.prog 8 #[.string a0, .string a1] w fun e w' => e = .returned (.bool r) ∧ Below w.heap.size w w' := by
  have hu38 := Tryd.underlying38
  have HB := Aside0.mk (Below.refl w.heap.size w)
  have H : ((culetlaw13_awake.f k).bind fun t238 => (if t238 = true then (if (a0.size : Int) > 200 then (culetlaw13_LexerParts.j0 k a0 a1 true) else (culetlaw13_LexerParts.j0 k a0 a1 (decide ((a1.size : Int) > 200)))) else (some false))) = some r := h
  clear h
  replace H := Option.bind_eq_some_iff.mp H
  obtain ⟨t238, A30, H⟩ := H
  replace H : (if t238 = true then (if (a0.size : Int) > 200 then (culetlaw13_LexerParts.j0 k a0 a1 true) else (culetlaw13_LexerParts.j0 k a0 a1 (decide ((a1.size : Int) > 200)))) else (some false)) = some r := H
  have A3 := Aside0.mk A30
  clear A30
  by_cases c4 : t238 = true
  · subst c4
    have H1 : (if (a0.size : Int) > 200 then (culetlaw13_LexerParts.j0 k a0 a1 true) else (culetlaw13_LexerParts.j0 k a0 a1 (decide ((a1.size : Int) > 200)))) = some r := by rw [if_pos rfl] at H; exact H
    clear H
    have H := H1
    clear H1
    have HC5 := Aside0.mk H
    clear H
    go_enter Tryd.func8, Tryd.ntmps8
    go_upto_region 3 with (first | ((with_reducible refine gate_callee (f := 10) rfl ?_); refine goesL_ (some 19) rfl rfl Tryd.func10 (by kernel_rfl) rfl #[] rfl (by (try simp only [List.map_toArray, List.map_cons, List.map_nil]); first | done | rfl | (simp only [List.length_drop, List.length_take]; rfl)) ?_; (with_reducible refine (culetlaw13_awake.calls k  true _ A3.out).mono ?_); rintro e w6 ⟨rfl, hb⟩; refine ⟨_, rfl, ?_⟩; have n0_ := Aside0.mk (below_step (by repeat (first | (with_reducible first | exact HB.out | apply below_alloc | apply pw_below_drewN | apply below_drew1) | exact HB.out)) hb); clear HB; have HB := n0_; clear n0_; (try clear hb); (try clear hb2); (try clear hk); (try clear hi)))
    (try simp only [Act.put, List.setIfInBounds_toArray, List.set_cons_zero, List.set_cons_succ])
    go_cut [28] (fun v28 wc => ∃ (kq : Nat) (x28_4 : Bool), v28 = .bool x28_4 ∧ Aside0 (culetlaw13_LexerParts.j0 kq a0 a1 x28_4 = some r) ∧ Aside0 (kq ≤ k) ∧ Aside0 (Below w.heap.size w wc))
    case first =>
      have H := HC5.out
      clear HC5
      by_cases c7 : (a0.size : Int) > 200
      · rw [if_pos c7] at H
        have c7b0 : decide (200 < (a0.size : Int)) = true := decide_eq_true c7
        have c7b1 : decide (200 < a0.size) = true := decide_eq_true (by omega)
        clear c7
        (first | rw [c7b0] | (simp only [i64_w, i32_w]; rw [c7b0]) | skip)
        have H' := Aside0.mk H
        clear H
        go_wp2
        go_meet
        case rel => exact ⟨_, (true), (by first | rfl | (simp; done) | (simp [*]; done)), H', ⟨by first | omega | exact Nat.le_refl _⟩, ⟨by repeat (first | (with_reducible first | exact HB.out | apply below_alloc | apply pw_below_drewN | apply below_drew1) | exact HB.out)⟩⟩
      · rw [if_neg c7] at H
        have c7b0 : decide (200 < (a0.size : Int)) = false := decide_eq_false c7
        have c7b1 : decide (200 < a0.size) = false := decide_eq_false (by omega)
        clear c7
        (first | rw [c7b0] | (simp only [i64_w, i32_w]; rw [c7b0]) | skip)
        have H' := Aside0.mk H
        clear H
        go_wp2
        go_meet
        case rel => exact ⟨_, (decide ((a1.size : Int) > 200)), (by first | rfl | (simp; done) | (simp [*]; done)), H', ⟨by first | omega | exact Nat.le_refl _⟩, ⟨by repeat (first | (with_reducible first | exact HB.out | apply below_alloc | apply pw_below_drewN | apply below_drew1) | exact HB.out)⟩⟩
    case rest =>
      clear HC5
      try clear c1
      try clear p2
      try clear c4
      try clear c7
      try clear c7b0
      try clear c7b1
      obtain ⟨kq, x28_4, rfl, HA, HJ4, HB⟩ := hcut
      cases kq with
      | zero => exact absurd HA.out (by simp [culetlaw13_LexerParts.j0])
      | succ kj4 =>
        have H := HA.out
        clear HA
        simp only [culetlaw13_LexerParts.j0] at H
        by_cases c8 : x28_4 = true
        · subst c8
          have H1 : (some true) = some r := by rw [if_pos rfl] at H; exact H
          clear H
          have H := H1
          clear H1
          obtain rfl := Option.some.inj H
          go_wp2
          go_ret
          exact ⟨by first | rfl | (simp [errW_none, errW_some] <;> rfl) | (simp [*, errW_none, errW_some] <;> rfl), by repeat (first | (with_reducible first | exact HB.out | apply below_alloc | apply pw_below_drewN | apply below_drew1) | exact HB.out)⟩
        · replace c8 := Bool.eq_false_iff.mpr c8
          subst c8
          have H1 : ((lexer_Lex.f kj4 a0).bind fun bt239 => ((lexer_Lex.f kj4 a1).bind fun bt244 => (if a0.size + 1 ≤ 9223372036854775807 then (if (a0 ++ (⟨#[10]⟩ : ByteArray)).size + a1.size ≤ 9223372036854775807 then ((lexer_Lex.f kj4 ((a0 ++ (⟨#[10]⟩ : ByteArray)) ++ a1)).bind fun bt249 => (if bt239.2.2 = 0 then (if bt244.2.2 = 0 then (culetlaw13_LexerParts.l0 kj4 a0 bt239.1 bt244.1 bt249.1 bt249.2.2 1 (a0.size : Int) 0) else (if bt249.2.2 = bt244.2.2 then (if bt249.2.1 = (wrap64 ((wrap64 ((a0.size : Int) + 1)) + bt244.2.1)) then (some ((bt249.1.length : Int) == 0)) else (some false)) else (some false))) else (if bt249.2.2 = bt239.2.2 then (if bt249.2.1 = bt239.2.1 then (some ((bt249.1.length : Int) == 0)) else (some false)) else (some false)))) else (none)) else (none)))) = some r := by rw [if_neg (show ¬ (false = true) by decide)] at H; exact H
          clear H
          have H := H1
          clear H1
          replace H := Option.bind_eq_some_iff.mp H
          obtain ⟨⟨t239, t240, t241⟩, A90, H⟩ := H
          replace H : ((lexer_Lex.f kj4 a1).bind fun bt244 => (if a0.size + 1 ≤ 9223372036854775807 then (if (a0 ++ (⟨#[10]⟩ : ByteArray)).size + a1.size ≤ 9223372036854775807 then ((lexer_Lex.f kj4 ((a0 ++ (⟨#[10]⟩ : ByteArray)) ++ a1)).bind fun bt249 => (if t241 = 0 then (if bt244.2.2 = 0 then (culetlaw13_LexerParts.l0 kj4 a0 t239 bt244.1 bt249.1 bt249.2.2 1 (a0.size : Int) 0) else (if bt249.2.2 = bt244.2.2 then (if bt249.2.1 = (wrap64 ((wrap64 ((a0.size : Int) + 1)) + bt244.2.1)) then (some ((bt249.1.length : Int) == 0)) else (some false)) else (some false))) else (if bt249.2.2 = t241 then (if bt249.2.1 = t240 then (some ((bt249.1.length : Int) == 0)) else (some false)) else (some false)))) else (none)) else (none))) = some r := H
          have A9 := Aside0.mk A90
          clear A90
          replace H := Option.bind_eq_some_iff.mp H
          obtain ⟨⟨t244, t245, t246⟩, A100, H⟩ := H
          replace H : (if a0.size + 1 ≤ 9223372036854775807 then (if (a0 ++ (⟨#[10]⟩ : ByteArray)).size + a1.size ≤ 9223372036854775807 then ((lexer_Lex.f kj4 ((a0 ++ (⟨#[10]⟩ : ByteArray)) ++ a1)).bind fun bt249 => (if t241 = 0 then (if t246 = 0 then (culetlaw13_LexerParts.l0 kj4 a0 t239 t244 bt249.1 bt249.2.2 1 (a0.size : Int) 0) else (if bt249.2.2 = t246 then (if bt249.2.1 = (wrap64 ((wrap64 ((a0.size : Int) + 1)) + t245)) then (some ((bt249.1.length : Int) == 0)) else (some false)) else (some false))) else (if bt249.2.2 = t241 then (if bt249.2.1 = t240 then (some ((bt249.1.length : Int) == 0)) else (some false)) else (some false)))) else (none)) else (none)) = some r := H
          have A10 := Aside0.mk A100
          clear A100
          by_cases c11 : a0.size + 1 ≤ 9223372036854775807
          · rw [if_pos c11] at H
            have c11b0 := eq_true c11
            have c11b1 : decide (a0.size + 1 ≤ 9223372036854775807) = true := decide_eq_true c11
            try have c11b2 : (9223372036854775807 < a0.size + 1) = False := eq_false (Nat.not_lt.2 c11)
            by_cases c12 : (a0 ++ (⟨#[10]⟩ : ByteArray)).size + a1.size ≤ 9223372036854775807
            · rw [if_pos c12] at H
              have c12b0 := eq_true c12
              have c12b1 : decide ((a0 ++ (⟨#[10]⟩ : ByteArray)).size + a1.size ≤ 9223372036854775807) = true := decide_eq_true c12
              try have c12b2 : (9223372036854775807 < (a0 ++ (⟨#[10]⟩ : ByteArray)).size + a1.size) = False := eq_false (Nat.not_lt.2 c12)
              replace H := Option.bind_eq_some_iff.mp H
              obtain ⟨⟨t249, t250, t251⟩, A130, H⟩ := H
              replace H : (if t241 = 0 then (if t246 = 0 then (culetlaw13_LexerParts.l0 kj4 a0 t239 t244 t249 t251 1 (a0.size : Int) 0) else (if t251 = t246 then (if t250 = (wrap64 ((wrap64 ((a0.size : Int) + 1)) + t245)) then (some ((t249.length : Int) == 0)) else (some false)) else (some false))) else (if t251 = t241 then (if t250 = t240 then (some ((t249.length : Int) == 0)) else (some false)) else (some false))) = some r := H
              have A13 := Aside0.mk A130
              clear A130
              by_cases c14 : t241 = 0
              · rw [if_pos c14] at H
                have c14b0 : (t241 == 0) = true := beq_iff_eq.mpr c14
                have c14b1 : (t241 != 0) = false := bne_eq_false_iff_eq.mpr c14
                clear c14
                by_cases c15 : t246 = 0
                · rw [if_pos c15] at H
                  have c15b0 : (t246 == 0) = true := beq_iff_eq.mpr c15
                  have c15b1 : (t246 != 0) = false := bne_eq_false_iff_eq.mpr c15
                  clear c15
                  have H' := Aside0.mk H
                  clear H
                  go_wp2_with (first | ((with_reducible refine gate_callee (f := 11) rfl ?_); refine goesL_ (some 31) rfl rfl Tryd.func11 (by kernel_rfl) rfl #[.string a0] rfl (by (try simp only [List.map_toArray, List.map_cons, List.map_nil]); first | done | rfl | (simp only [List.length_drop, List.length_take]; rfl)) ?_; (with_reducible refine (lexer_Lex.calls kj4 a0 t239 t240 t241 _ A9.out).mono ?_); rintro e w16 ⟨v242, rfl, ho0, hb⟩; refine ⟨_, rfl, ?_⟩; have n0_ := Aside0.mk (Kd.R_lower ho0 (below_size (by repeat (first | (with_reducible first | exact HB.out | apply below_alloc | apply pw_below_drewN | apply below_drew1) | exact HB.out)))); have n1_ := Aside0.mk (below_step (by repeat (first | (with_reducible first | exact HB.out | apply below_alloc | apply pw_below_drewN | apply below_drew1) | exact HB.out)) hb); clear HB; have HO243 := n0_; have HB := n1_; clear n0_ n1_; (try clear hb); (try clear hb2); (try clear hk); (try clear hi); (try clear ho0)) | ((with_reducible refine gate_callee (f := 11) rfl ?_); refine goesL_ (some 37) rfl rfl Tryd.func11 (by kernel_rfl) rfl #[.string a1] rfl (by (try simp only [List.map_toArray, List.map_cons, List.map_nil]); first | done | rfl | (simp only [List.length_drop, List.length_take]; rfl)) ?_; (with_reducible refine (lexer_Lex.calls kj4 a1 t244 t245 t246 _ A10.out).mono ?_); rintro e w17 ⟨v247, rfl, ho0, hb⟩; refine ⟨_, rfl, ?_⟩; have n0_ := Aside0.mk (Kd.R_elder' (by (with_reducible repeat (first | apply Kd.R_alloc | apply Kd.R_drewN | apply Kd.R_drew)); exact HO243.out) (Kd.R_base ho0) hb); have n1_ := Aside0.mk (Kd.R_lower (Kd.R_new' ho0 (Kd.R_lt (by (with_reducible repeat (first | apply Kd.R_alloc | apply Kd.R_drewN | apply Kd.R_drew)); exact HO243.out))) (below_size (by repeat (first | (with_reducible first | exact HB.out | apply below_alloc | apply pw_below_drewN | apply below_drew1) | exact HB.out)))); have n2_ := Aside0.mk (below_step (by repeat (first | (with_reducible first | exact HB.out | apply below_alloc | apply pw_below_drewN | apply below_drew1) | exact HB.out)) hb); clear HO243; clear HB; have HO243 := n0_; have HO248 := n1_; have HB := n2_; clear n0_ n1_ n2_; (try clear hb); (try clear hb2); (try clear hk); (try clear hi); (try clear ho0)) | ((with_reducible refine gate_callee (f := 11) rfl ?_); refine goesL_ (some 46) rfl rfl Tryd.func11 (by kernel_rfl) rfl #[.string ((a0 ++ (⟨#[10]⟩ : ByteArray)) ++ a1)] rfl (by (try simp only [List.map_toArray, List.map_cons, List.map_nil]); first | done | rfl | (simp only [List.length_drop, List.length_take]; rfl)) ?_; (with_reducible refine (lexer_Lex.calls kj4 ((a0 ++ (⟨#[10]⟩ : ByteArray)) ++ a1) t249 t250 t251 _ A13.out).mono ?_); rintro e w18 ⟨v252, rfl, ho0, hb⟩; refine ⟨_, rfl, ?_⟩; have n0_ := Aside0.mk (Kd.R_elder' (by (with_reducible repeat (first | apply Kd.R_alloc | apply Kd.R_drewN | apply Kd.R_drew)); exact HO243.out) (Kd.R_base ho0) hb); have n1_ := Aside0.mk (Kd.R_elder' (by (with_reducible repeat (first | apply Kd.R_alloc | apply Kd.R_drewN | apply Kd.R_drew)); exact HO248.out) (Kd.R_base ho0) hb); have n2_ := Aside0.mk (Kd.R_lower (Kd.R_new' (Kd.R_new' ho0 (Kd.R_lt (by (with_reducible repeat (first | apply Kd.R_alloc | apply Kd.R_drewN | apply Kd.R_drew)); exact HO243.out))) (Kd.R_lt (by (with_reducible repeat (first | apply Kd.R_alloc | apply Kd.R_drewN | apply Kd.R_drew)); exact HO248.out))) (below_size (by repeat (first | (with_reducible first | exact HB.out | apply below_alloc | apply pw_below_drewN | apply below_drew1) | exact HB.out)))); have n3_ := Aside0.mk (below_step (by repeat (first | (with_reducible first | exact HB.out | apply below_alloc | apply pw_below_drewN | apply below_drew1) | exact HB.out)) hb); clear HO243; clear HO248; clear HB; have HO243 := n0_; have HO248 := n1_; have HO253 := n2_; have HB := n3_; clear n0_ n1_ n2_ n3_; (try clear hb); (try clear hb2); (try clear hk); (try clear hi); (try clear ho0)))
                  go_loopg [14, 86] kj4 (fun kq v14 v86 w' => ∃ (x14_2 : Int) (x86_2 : Int), v14 = .int .i64 x14_2 ∧ v86 = .int .i64 x86_2 ∧ Aside0 (culetlaw13_LexerParts.l0 kq a0 t239 t244 t249 t251 x14_2 (a0.size : Int) x86_2 = some r) ∧ Aside0 (kq ≤ kj4) ∧ Aside0 (Kd.R k38 38 w' w.heap.size (fun k_ => some k_ ≠ (v247 : Value).ownBlock ∧ some k_ ≠ (v252 : Value).ownBlock) v242 t239) ∧ Aside0 (Kd.R k38 38 w' w.heap.size (fun k_ => some k_ ≠ (v242 : Value).ownBlock ∧ some k_ ≠ (v252 : Value).ownBlock) v247 t244) ∧ Aside0 (Kd.R k38 38 w' w.heap.size (fun k_ => some k_ ≠ (v242 : Value).ownBlock ∧ some k_ ≠ (v247 : Value).ownBlock) v252 t249) ∧ Aside0 (Below w.heap.size w w'))
                  case atStart => exact ⟨(1), (0), (by first | rfl | (simp; done) | (simp [*]; done)), (by first | rfl | (simp; done) | (simp [*]; done)), H', ⟨Nat.le_refl _⟩, ⟨by (with_reducible repeat (first | apply Kd.R_alloc | apply Kd.R_drewN | apply Kd.R_drew)); exact Kd.R_mono HO243.out (fun _ hk => ⟨hk.1.2, hk.2⟩)⟩, ⟨by (with_reducible repeat (first | apply Kd.R_alloc | apply Kd.R_drewN | apply Kd.R_drew)); exact Kd.R_mono HO248.out (fun _ hk => ⟨hk.1.2, hk.2⟩)⟩, ⟨by (with_reducible repeat (first | apply Kd.R_alloc | apply Kd.R_drewN | apply Kd.R_drew)); exact Kd.R_mono HO253.out (fun _ hk => ⟨hk.1.2, hk.2⟩)⟩, ⟨by repeat (first | (with_reducible first | exact HB.out | apply below_alloc | apply pw_below_drewN | apply below_drew1) | exact HB.out)⟩⟩
                  case round =>
                    clear H'
                    try clear c1
                    try clear p2
                    try clear c4
                    try clear p6
                    try clear c7
                    try clear c7b0
                    try clear c7b1
                    try clear c8
                    try clear c10
                    try clear c11
                    try clear c11b0
                    try clear c11b1
                    try clear c11b2
                    try clear c12
                    try clear c12b0
                    try clear c12b1
                    try clear c12b2
                    try clear c14
                    try clear c14b0
                    try clear c14b1
                    try clear c15
                    try clear c15b0
                    try clear c15b1
                    try clear p2
                    obtain ⟨x14_2, x86_2, rfl, rfl, HA, HK2, HO_5, HO_8, HO_11, HB⟩ := hrel
                    cases gk with
                    | zero => exact absurd HA.out (by simp [culetlaw13_LexerParts.l0])
                    | succ k2 =>
                      have H := HA.out
                      clear HA
                      simp only [culetlaw13_LexerParts.l0] at H
                      by_cases c19 : x86_2 < (a0.size : Int)
                      · rw [if_pos c19] at H
                        have c19b0 : decide (x86_2 < (a0.size : Int)) = true := decide_eq_true c19
                        clear c19
                        by_cases c20 : 0 ≤ x86_2
                        · rw [if_pos c20] at H
                          have c20b0 : decide (0 ≤ x86_2) = true := decide_eq_true c20
                          clear c20
                          by_cases c21 : x86_2 < (a0.size : Int)
                          · rw [if_pos c21] at H
                            have c21b0 : decide (x86_2 < (a0.size : Int)) = true := decide_eq_true c21
                            clear c21
                            by_cases c23 : (bt a0 x86_2) = 10
                            · rw [if_pos c23] at H
                              have c23b0 : ((bt a0 x86_2) == 10) = true := beq_iff_eq.mpr c23
                              have c23b1 : ((bt a0 x86_2) != 10) = false := bne_eq_false_iff_eq.mpr c23
                              clear c23
                              have H' := Aside0.mk H
                              clear H
                              have p22 : 0 ≤ (x86_2 : Int) := of_decide_eq_true (by first | (with_reducible assumption) | assumption)
                              have q22 : x86_2 < (a0.size : Int) := of_decide_eq_true (by first | (with_reducible assumption) | assumption)
                              have hx22 := bt_at a0 x86_2
                              replace p22 := eq_true p22
                              replace q22 := eq_true q22
                              go_wp2
                              go_roundg k2
                              case measure => have := HJ4.out; have := HK2.out; omega
                              case rel => exact ⟨(wrap64 (x14_2 + 1)), (wrap64 (x86_2 + 1)), (by first | rfl | (simp; done) | (simp [*]; done)), (by first | rfl | (simp; done) | (simp [*]; done)), H', ⟨by have := HJ4.out; have := HK2.out; omega⟩, ⟨by (with_reducible repeat (first | apply Kd.R_alloc | apply Kd.R_drewN | apply Kd.R_drew)); exact HO_5.out⟩, ⟨by (with_reducible repeat (first | apply Kd.R_alloc | apply Kd.R_drewN | apply Kd.R_drew)); exact HO_8.out⟩, ⟨by (with_reducible repeat (first | apply Kd.R_alloc | apply Kd.R_drewN | apply Kd.R_drew)); exact HO_11.out⟩, ⟨by repeat (first | (with_reducible first | exact HB.out | apply below_alloc | apply pw_below_drewN | apply below_drew1) | exact HB.out)⟩⟩
                            · rw [if_neg c23] at H
                              have c23b0 : ((bt a0 x86_2) == 10) = false := beq_eq_false_iff_ne.mpr c23
                              have c23b1 : ((bt a0 x86_2) != 10) = true := bne_iff_ne.mpr c23
                              have H' := Aside0.mk H
                              clear H
                              have p22 : 0 ≤ (x86_2 : Int) := of_decide_eq_true (by first | (with_reducible assumption) | assumption)
                              have q22 : x86_2 < (a0.size : Int) := of_decide_eq_true (by first | (with_reducible assumption) | assumption)
                              have hx22 := bt_at a0 x86_2
                              replace p22 := eq_true p22
                              replace q22 := eq_true q22
                              go_wp2
                              go_roundg k2
                              case measure => have := HJ4.out; have := HK2.out; omega
                              case rel => exact ⟨(x14_2), (wrap64 (x86_2 + 1)), (by first | rfl | (simp; done) | (simp [*]; done)), (by first | rfl | (simp; done) | (simp [*]; done)), H', ⟨by have := HJ4.out; have := HK2.out; omega⟩, ⟨by (with_reducible repeat (first | apply Kd.R_alloc | apply Kd.R_drewN | apply Kd.R_drew)); exact HO_5.out⟩, ⟨by (with_reducible repeat (first | apply Kd.R_alloc | apply Kd.R_drewN | apply Kd.R_drew)); exact HO_8.out⟩, ⟨by (with_reducible repeat (first | apply Kd.R_alloc | apply Kd.R_drewN | apply Kd.R_drew)); exact HO_11.out⟩, ⟨by repeat (first | (with_reducible first | exact HB.out | apply below_alloc | apply pw_below_drewN | apply below_drew1) | exact HB.out)⟩⟩
                          · rw [if_neg c21] at H
                            exact absurd H (by simp)
                        · rw [if_neg c20] at H
                          exact absurd H (by simp)
                      · rw [if_neg c19] at H
                        have c19b0 : decide (x86_2 < (a0.size : Int)) = false := decide_eq_false c19
                        clear c19
                        replace H := Option.bind_eq_some_iff.mp H
                        obtain ⟨t254, A240, H⟩ := H
                        replace H : (culetlaw13_LexerParts.l1 k2 a0 t249 t251 x14_2 t254 t244 (t244.length : Int) 0) = some r := H
                        have A24 := Aside0.mk A240
                        clear A240
                        have H' := Aside0.mk H
                        clear H
                        obtain ⟨Ao25, co25, eo25⟩ := Kd.R_slice HO_5.out
                        subst eo25
                        go_wp2_with (first | ((with_reducible refine gate_callee (f := 14) rfl ?_); refine goesL_ (some 97) rfl rfl Tryd.func14 (by kernel_rfl) rfl #[.slice Ao25 t239.length co25] rfl (by (try simp only [List.map_toArray, List.map_cons, List.map_nil]); first | done | rfl | (simp only [List.length_drop, List.length_take]; rfl)) ?_; (with_reducible refine (culetlaw13_theirs.calls k2 _ _ t239 t254 _ ?side1 ?side2 A24.out).mono ?_); (case side1 => repeat (first | exact (Kd.R_reads' HO_5.out).2.2 | (with_reducible refine Kd.C_alloc ?_ _) | (with_reducible refine Kd.C_drewN ?_ _) | (with_reducible refine Kd.C_drew ?_))); (case side2 => exact (Kd.R_reads' HO_5.out).2.1); rintro e w26 ⟨v255, rfl, ho0, hb⟩; refine ⟨_, rfl, ?_⟩; have n0_ := Aside0.mk (Kd.R_below (by (with_reducible repeat (first | apply Kd.R_alloc | apply Kd.R_drewN | apply Kd.R_drew)); exact HO_5.out) hb); have n1_ := Aside0.mk (Kd.R_below (by (with_reducible repeat (first | apply Kd.R_alloc | apply Kd.R_drewN | apply Kd.R_drew)); exact HO_8.out) hb); have n2_ := Aside0.mk (Kd.R_below (by (with_reducible repeat (first | apply Kd.R_alloc | apply Kd.R_drewN | apply Kd.R_drew)); exact HO_11.out) hb); have n3_ := Aside0.mk (Kd.R_lower ho0 (below_size (by repeat (first | (with_reducible first | exact HB.out | apply below_alloc | apply pw_below_drewN | apply below_drew1) | exact HB.out)))); have n4_ := Aside0.mk (below_step (by repeat (first | (with_reducible first | exact HB.out | apply below_alloc | apply pw_below_drewN | apply below_drew1) | exact HB.out)) hb); clear HO_5; clear HO_8; clear HO_11; clear HB; have HO_5 := n0_; have HO_8 := n1_; have HO_11 := n2_; have HO256 := n3_; have HB := n4_; clear n0_ n1_ n2_ n3_ n4_; (try clear hb); (try clear hb2); (try clear hk); (try clear hi); (try clear ho0); obtain ⟨Ao27, co27, eo27⟩ := Kd.R_slice HO_8.out; subst eo27))
                        go_loopg [16, 100] k2 (fun kq v16 v100 w' => ∃ (x16_3 : List (S40)) (x100_3 : Int), v100 = .int .i64 x100_3 ∧ Aside0 (culetlaw13_LexerParts.l1 kq a0 t249 t251 x14_2 x16_3 t244 (t244.length : Int) x100_3 = some r) ∧ Aside0 (kq ≤ k2) ∧ Aside0 (Kd.R k38 38 w' w.heap.size (fun k_ => some k_ ≠ ((.slice Ao27 t244.length co27) : Value).ownBlock) v252 t249) ∧ Aside0 (Kd.R k40 40 w' w.heap.size (fun _ => True) v16 x16_3) ∧ Aside0 (Kd.R k38 38 w' w.heap.size (fun k_ => some k_ ≠ (v252 : Value).ownBlock) (.slice Ao27 t244.length co27) t244) ∧ Aside0 (Below w.heap.size w w'))
                        case atStart => exact ⟨(t254), (0), (by first | rfl | (simp; done) | (simp [*]; done)), H', ⟨Nat.le_refl _⟩, ⟨by (with_reducible repeat (first | apply Kd.R_alloc | apply Kd.R_drewN | apply Kd.R_drew)); exact Kd.R_mono HO_11.out (fun _ hk => hk.2)⟩, ⟨by (with_reducible repeat (first | apply Kd.R_alloc | apply Kd.R_drewN | apply Kd.R_drew)); exact HO256.out⟩, ⟨by (with_reducible repeat (first | apply Kd.R_alloc | apply Kd.R_drewN | apply Kd.R_drew)); exact Kd.R_mono HO_8.out (fun _ hk => hk.2)⟩, ⟨by repeat (first | (with_reducible first | exact HB.out | apply below_alloc | apply pw_below_drewN | apply below_drew1) | exact HB.out)⟩⟩
                        case round =>
                          clear H'
                          try clear c1
                          try clear c2
                          try clear p2
                          try clear q2
                          try clear hx2
                          try clear c4
                          try clear p6
                          try clear c7
                          try clear c7b0
                          try clear c7b1
                          try clear c8
                          try clear c10
                          try clear c11
                          try clear c11b0
                          try clear c11b1
                          try clear c11b2
                          try clear c12
                          try clear c12b0
                          try clear c12b1
                          try clear c12b2
                          try clear c14
                          try clear c14b0
                          try clear c14b1
                          try clear c15
                          try clear c15b0
                          try clear c15b1
                          try clear c19
                          try clear c19b0
                          try clear c20
                          try clear c20b0
                          try clear c21
                          try clear c21b0
                          try clear p22
                          try clear q22
                          try clear hx22
                          try clear c23
                          try clear c23b0
                          try clear c23b1
                          try clear p2
                          try clear p22
                          try clear p6
                          try clear q22
                          obtain ⟨x16_3, x100_3, rfl, HA, HK3, HO_11, HO_16, HO_98, HB⟩ := hrel
                          cases gk with
                          | zero => exact absurd HA.out (by simp [culetlaw13_LexerParts.l1])
                          | succ k3 =>
                            have H := HA.out
                            clear HA
                            simp only [culetlaw13_LexerParts.l1] at H
                            by_cases c28 : x100_3 < (t244.length : Int)
                            · rw [if_pos c28] at H
                              have c28b0 : decide (x100_3 < (t244.length : Int)) = true := decide_eq_true c28
                              clear c28
                              by_cases c29 : 0 ≤ x100_3
                              · rw [if_pos c29] at H
                                have c29b0 : decide (0 ≤ x100_3) = true := decide_eq_true c29
                                clear c29
                                by_cases c30 : x100_3 < (t244.length : Int)
                                · rw [if_pos c30] at H
                                  have c30b0 : decide (x100_3 < (t244.length : Int)) = true := decide_eq_true c30
                                  clear c30
                                  by_cases c31 : x16_3.length < 3518437208883
                                  · rw [if_pos c31] at H
                                    have LMc31 := Aside0.mk c31
                                    clear c31
                                    obtain ⟨y259, hy259⟩ : ∃ y_ : List (S40), y_ = (x16_3 ++ [(⟨(rd_T38 t244 x100_3).f0, (rd_T38 t244 x100_3).f1, wrap64 (((rd_T38 t244 x100_3).f2) + x14_2), wrap64 ((wrap64 (((rd_T38 t244 x100_3).f3) + (a0.size : Int))) + 1)⟩ : S40)]) := ⟨_, rfl⟩
                                    replace H : (culetlaw13_LexerParts.l1 k3 a0 t249 t251 x14_2 y259 t244 (t244.length : Int) (wrap64 (x100_3 + 1))) = some r := by first | (rw [hy259]; with_reducible exact H) | (have H2_ := (Option.bind_some _ _).symm.trans H; rw [hy259]; with_reducible exact H2_) | (have H2_ := (Option.bind_some _ _).symm.trans H; with_reducible exact H2_) | with_reducible exact H | (rw [hy259]; exact H) | exact H
                                    have Ny259 := Aside0.mk hy259
                                    clear hy259
                                    have H' := Aside0.mk H
                                    clear H
                                    have p257 : 0 ≤ (x100_3 : Int) := of_decide_eq_true (by first | (with_reducible assumption) | assumption)
                                    have q257 : x100_3 < (t244.length : Int) := of_decide_eq_true (by first | (with_reducible assumption) | assumption)
                                    obtain ⟨ad257, e257, hx257_0, hx257_1, hx257_2, hx257_3⟩ := at_T38 (Kd.R_reads' HO_98.out).2.2 x100_3 p257 q257
                                    cases e257
                                    replace p257 := eq_true p257
                                    replace q257 := eq_true q257
                                    go_wp2_with (first | ((with_reducible refine gate_dst (N := 18) rfl ?_); (try (refine gate_guard (by rfl) ?_; dsimp only)); refine box_event ?hg (N := 18) ?hd (cs := #[.int .i64 0, .string (⟨#[]⟩ : ByteArray), .int .i64 0, .int .i64 0]) (t := 38) ?hr ?_; (case hd => rfl); (case hg => rfl); (case hr => first | (go_simp; done) | (go_simp; rfl)); intro gb258 hg w32 hbox hb; have n0_ := Aside0.mk (Kd.R_below (Kd.R_elderB (by (with_reducible repeat (first | apply Kd.R_alloc | apply Kd.R_drewN | apply Kd.R_drew)); exact HO_11.out) gb258 (Nat.le_of_eq hg.symm)) hb); have n1_ := Aside0.mk (Kd.R_below (by (with_reducible repeat (first | apply Kd.R_alloc | apply Kd.R_drewN | apply Kd.R_drew)); exact HO_16.out) hb); have n2_ := Aside0.mk (Kd.R_below (Kd.R_elderB (by (with_reducible repeat (first | apply Kd.R_alloc | apply Kd.R_drewN | apply Kd.R_drew)); exact HO_98.out) gb258 (Nat.le_of_eq hg.symm)) hb); have n3_ := Aside0.mk (below_step (by repeat (first | (with_reducible first | exact HB.out | apply below_alloc | apply pw_below_drewN | apply below_drew1) | exact HB.out)) hb); have n4_ := Aside0.mk (hbox); have n5_ := Aside0.mk ((by rw [hg]; exact (below_size (by repeat (first | (with_reducible first | exact HB.out | apply below_alloc | apply pw_below_drewN | apply below_drew1) | exact HB.out))) : w.heap.size ≤ gb258)); have n6_ := Aside0.mk ((by rw [hg]; exact (below_size (by repeat (first | (with_reducible first | exact HB.out | apply below_alloc | apply pw_below_drewN | apply below_drew1) | exact HB.out))) : w.heap.size ≤ gb258)); clear HO_11; clear HO_16; clear HO_98; clear HB; have HO_11 := n0_; have HO_16 := n1_; have HO_98 := n2_; have HB := n3_; have BK258 := n4_; have GW258 := n5_; have GE258 := n6_; clear n0_ n1_ n2_ n3_ n4_ n5_ n6_; clear hb hbox hg; have hcz33_0 : w32.cell? ⟨gb258, 0, none⟩ = some (.int .i64 0) := (blk_cell BK258.out 0).trans rfl; have hcz33_1 : w32.cell? ⟨gb258, 1, none⟩ = some (.string (⟨#[]⟩ : ByteArray)) := (blk_cell BK258.out 1).trans rfl; have hcz33_2 : w32.cell? ⟨gb258, 2, none⟩ = some (.int .i64 0) := (blk_cell BK258.out 2).trans rfl; have hcz33_3 : w32.cell? ⟨gb258, 3, none⟩ = some (.int .i64 0) := (blk_cell BK258.out 3).trans rfl; have hfz33_0 := blk_frozen BK258.out 0; have hfz33_1 := blk_frozen BK258.out 1; have hfz33_2 := blk_frozen BK258.out 2; have hfz33_3 := blk_frozen BK258.out 3) | ((with_reducible refine gate_store (t := 38) (p := 18) rfl ?_); refine store_event (t := 38) (p := 18) (v := ?vo7) (w1 := ((((w32.setCell ⟨gb258, 0, none⟩ (.int .i64 ((rd_T38 t244 x100_3).f0))).setCell ⟨gb258, 1, none⟩ (.string ((rd_T38 t244 x100_3).f1))).setCell ⟨gb258, 2, none⟩ (.int .i64 ((rd_T38 t244 x100_3).f2))).setCell ⟨gb258, 3, none⟩ (.int .i64 ((rd_T38 t244 x100_3).f3)))) ?hg ?ho ?hn ?hr ?_; (case ho => rfl); (case hg => rfl); (case hn => rfl); (case hr => (simp only [execOp]); (rw [show Act.eval _ (.tmp 18) = .pointer (some ⟨gb258, 0, none⟩) from rfl, show Act.eval _ (.tmp 103) = .agg #[.int .i64 ((rd_T38 t244 x100_3).f0), .string ((rd_T38 t244 x100_3).f1), .int .i64 ((rd_T38 t244 x100_3).f2), .int .i64 ((rd_T38 t244 x100_3).f3)] from rfl]); exact st38 _ _ _ _ _ _ hcz33_0 hcz33_1 hcz33_2 hcz33_3 hfz33_0 hfz33_1 hfz33_2 hfz33_3); intro w97_ hw99_; have B5_ : Aside0 (w97_.heap[gb258]? = some (.cells #[.int .i64 ((rd_T38 t244 x100_3).f0), .string ((rd_T38 t244 x100_3).f1), .int .i64 ((rd_T38 t244 x100_3).f2), .int .i64 ((rd_T38 t244 x100_3).f3)] 38 (0, 0))) := ⟨by rw [hw99_]; refine blk_put (cs := #[.int .i64 ((rd_T38 t244 x100_3).f0), .string ((rd_T38 t244 x100_3).f1), .int .i64 ((rd_T38 t244 x100_3).f2), .int .i64 0]) ?_ 3 _ rfl; refine blk_put (cs := #[.int .i64 ((rd_T38 t244 x100_3).f0), .string ((rd_T38 t244 x100_3).f1), .int .i64 0, .int .i64 0]) ?_ 2 _ rfl; refine blk_put (cs := #[.int .i64 ((rd_T38 t244 x100_3).f0), .string (⟨#[]⟩ : ByteArray), .int .i64 0, .int .i64 0]) ?_ 1 _ rfl; refine blk_put (cs := #[.int .i64 0, .string (⟨#[]⟩ : ByteArray), .int .i64 0, .int .i64 0]) ?_ 0 _ rfl; exact BK258.out⟩; have hq0_ : w97_.cell? ⟨gb258, 0, none⟩ = some (.int .i64 ((rd_T38 t244 x100_3).f0)) := (blk_cell B5_.out 0).trans rfl; have hq1_ : w97_.cell? ⟨gb258, 1, none⟩ = some (.string ((rd_T38 t244 x100_3).f1)) := (blk_cell B5_.out 1).trans rfl; have hq2_ : w97_.cell? ⟨gb258, 2, none⟩ = some (.int .i64 ((rd_T38 t244 x100_3).f2)) := (blk_cell B5_.out 2).trans rfl; have hq3_ : w97_.cell? ⟨gb258, 3, none⟩ = some (.int .i64 ((rd_T38 t244 x100_3).f3)) := (blk_cell B5_.out 3).trans rfl; have hz0_ := blk_frozen B5_.out 0; have hz1_ := blk_frozen B5_.out 1; have hz2_ := blk_frozen B5_.out 2; have hz3_ := blk_frozen B5_.out 3; have O1_ : Aside0 (Kd.R k38 38 w97_ w.heap.size (fun k => some k ≠ (Value.slice (some ad257) t244.length co27).ownBlock ∧ k ≠ gb258) v252 t249) := ⟨by rw [hw99_]; (with_reducible repeat (first | apply Kd.R_alloc | apply Kd.R_drewN | apply Kd.R_drew)); exact Kd.R_mono (Kd.R_far (p := ⟨gb258, 3, none⟩) (Kd.R_far (p := ⟨gb258, 2, none⟩) (Kd.R_far (p := ⟨gb258, 1, none⟩) (Kd.R_far (p := ⟨gb258, 0, none⟩) (Kd.R_mono HO_11.out (fun k_ hk => (⟨hk, hk.2⟩ : _ ∧ k_ ≠ gb258))) (fun _ hk => hk.2) (.int .i64 ((rd_T38 t244 x100_3).f0))) (fun _ hk => hk.2) (.string ((rd_T38 t244 x100_3).f1))) (fun _ hk => hk.2) (.int .i64 ((rd_T38 t244 x100_3).f2))) (fun _ hk => hk.2) (.int .i64 ((rd_T38 t244 x100_3).f3))) (fun _ h_ => h_.1)⟩; have O2_ : Aside0 (Kd.R k40 40 w97_ w.heap.size (fun _ => True) u16 x16_3) := ⟨by rw [hw99_]; (with_reducible repeat (first | apply Kd.R_alloc | apply Kd.R_drewN | apply Kd.R_drew)); exact Kd.R_mono (Kd.R_far (p := ⟨gb258, 3, none⟩) (Kd.R_far (p := ⟨gb258, 2, none⟩) (Kd.R_far (p := ⟨gb258, 1, none⟩) (Kd.R_far (p := ⟨gb258, 0, none⟩) (Kd.R_types HO_16.out BK258.out (by decide)) (fun _ hk => hk.2) (.int .i64 ((rd_T38 t244 x100_3).f0))) (fun _ hk => hk.2) (.string ((rd_T38 t244 x100_3).f1))) (fun _ hk => hk.2) (.int .i64 ((rd_T38 t244 x100_3).f2))) (fun _ hk => hk.2) (.int .i64 ((rd_T38 t244 x100_3).f3))) (fun _ hk => trivial)⟩; have O3_ : Aside0 (Kd.R k38 38 w97_ w.heap.size (fun k => some k ≠ v252.ownBlock ∧ k ≠ gb258) (Value.slice (some ad257) t244.length co27) t244) := ⟨by rw [hw99_]; (with_reducible repeat (first | apply Kd.R_alloc | apply Kd.R_drewN | apply Kd.R_drew)); exact Kd.R_mono (Kd.R_far (p := ⟨gb258, 3, none⟩) (Kd.R_far (p := ⟨gb258, 2, none⟩) (Kd.R_far (p := ⟨gb258, 1, none⟩) (Kd.R_far (p := ⟨gb258, 0, none⟩) (Kd.R_mono HO_98.out (fun k_ hk => (⟨hk, hk.2⟩ : _ ∧ k_ ≠ gb258))) (fun _ hk => hk.2) (.int .i64 ((rd_T38 t244 x100_3).f0))) (fun _ hk => hk.2) (.string ((rd_T38 t244 x100_3).f1))) (fun _ hk => hk.2) (.int .i64 ((rd_T38 t244 x100_3).f2))) (fun _ hk => hk.2) (.int .i64 ((rd_T38 t244 x100_3).f3))) (fun _ h_ => h_.1)⟩; have L5_ : Aside0 (Below w.heap.size w w97_) := ⟨by rw [hw99_]; exact (by repeat (first | (with_reducible first | exact HB.out | apply below_alloc | apply pw_below_drewN | apply below_drew1 | refine below_set ?_ GE258.out) | exact HB.out))⟩; clear BK258; clear HB; clear HO_11; clear HO_16; clear HO_98; have BK258 := B5_; have HB := L5_; have HO_11 := O1_; have HO_16 := O2_; have HO_98 := O3_; clear B5_ O1_ O2_ O3_ L5_ hw99_; clear hcz33_0 hcz33_1 hcz33_2 hcz33_3 hfz33_0 hfz33_1 hfz33_2 hfz33_3; have hp0_ := hq0_; have hp1_ := hq1_; have hp2_ := hq2_; have hp3_ := hq3_; clear hq0_ hq1_ hq2_ hq3_; have hy0_ := hz0_; have hy1_ := hz1_; have hy2_ := hz2_; have hy3_ := hz3_; clear hz0_ hz1_ hz2_ hz3_) | ((with_reducible refine gate_store (t := 3) (p := 114) rfl ?_); refine store_event (t := 3) (p := 114) (v := ?vo8) (w1 := w97_.setCell ⟨gb258, 2, none⟩ (.int .i64 (wrap64 (((rd_T38 t244 x100_3).f2) + x14_2)))) ?hg ?ho ?hn ?hr ?_; (case ho => rfl); (case hg => rfl); (case hn => rfl); (case hr => (simp only [execOp]); (rw [show Act.eval _ (.tmp 114) = .pointer (some ⟨gb258, 2, none⟩) from rfl, show Act.eval _ (.tmp 107) = .int .i64 (wrap64 (((rd_T38 t244 x100_3).f2) + x14_2)) from rfl]); exact st3 _ _ _ _ ((blk_cell BK258.out 2).trans rfl) (blk_frozen BK258.out 2)); intro w98_ hw99_; have B5_ : Aside0 (w98_.heap[gb258]? = some (.cells #[.int .i64 ((rd_T38 t244 x100_3).f0), .string ((rd_T38 t244 x100_3).f1), .int .i64 (wrap64 (((rd_T38 t244 x100_3).f2) + x14_2)), .int .i64 ((rd_T38 t244 x100_3).f3)] 38 (0, 0))) := ⟨by rw [hw99_]; exact blk_put (cs := #[.int .i64 ((rd_T38 t244 x100_3).f0), .string ((rd_T38 t244 x100_3).f1), .int .i64 ((rd_T38 t244 x100_3).f2), .int .i64 ((rd_T38 t244 x100_3).f3)]) BK258.out 2 _ rfl⟩; have hq0_ : w98_.cell? ⟨gb258, 0, none⟩ = some (.int .i64 ((rd_T38 t244 x100_3).f0)) := (blk_cell B5_.out 0).trans rfl; have hq1_ : w98_.cell? ⟨gb258, 1, none⟩ = some (.string ((rd_T38 t244 x100_3).f1)) := (blk_cell B5_.out 1).trans rfl; have hq2_ : w98_.cell? ⟨gb258, 2, none⟩ = some (.int .i64 (wrap64 (((rd_T38 t244 x100_3).f2) + x14_2))) := (blk_cell B5_.out 2).trans rfl; have hq3_ : w98_.cell? ⟨gb258, 3, none⟩ = some (.int .i64 ((rd_T38 t244 x100_3).f3)) := (blk_cell B5_.out 3).trans rfl; have hz0_ := blk_frozen B5_.out 0; have hz1_ := blk_frozen B5_.out 1; have hz2_ := blk_frozen B5_.out 2; have hz3_ := blk_frozen B5_.out 3; have O1_ : Aside0 (Kd.R k38 38 w98_ w.heap.size (fun k => some k ≠ (Value.slice (some ad257) t244.length co27).ownBlock ∧ k ≠ gb258) v252 t249) := ⟨by rw [hw99_]; (with_reducible repeat (first | apply Kd.R_alloc | apply Kd.R_drewN | apply Kd.R_drew)); exact Kd.R_mono (Kd.R_far (p := ⟨gb258, 2, none⟩) (Kd.R_mono HO_11.out (fun k_ hk => (⟨hk, hk.2⟩ : _ ∧ k_ ≠ gb258))) (fun _ hk => hk.2) (.int .i64 (wrap64 (((rd_T38 t244 x100_3).f2) + x14_2)))) (fun _ h_ => h_.1)⟩; have O2_ : Aside0 (Kd.R k40 40 w98_ w.heap.size (fun _ => True) u16 x16_3) := ⟨by rw [hw99_]; (with_reducible repeat (first | apply Kd.R_alloc | apply Kd.R_drewN | apply Kd.R_drew)); exact Kd.R_mono (Kd.R_far (p := ⟨gb258, 2, none⟩) (Kd.R_types HO_16.out BK258.out (by decide)) (fun _ hk => hk.2) (.int .i64 (wrap64 (((rd_T38 t244 x100_3).f2) + x14_2)))) (fun _ hk => trivial)⟩; have O3_ : Aside0 (Kd.R k38 38 w98_ w.heap.size (fun k => some k ≠ v252.ownBlock ∧ k ≠ gb258) (Value.slice (some ad257) t244.length co27) t244) := ⟨by rw [hw99_]; (with_reducible repeat (first | apply Kd.R_alloc | apply Kd.R_drewN | apply Kd.R_drew)); exact Kd.R_mono (Kd.R_far (p := ⟨gb258, 2, none⟩) (Kd.R_mono HO_98.out (fun k_ hk => (⟨hk, hk.2⟩ : _ ∧ k_ ≠ gb258))) (fun _ hk => hk.2) (.int .i64 (wrap64 (((rd_T38 t244 x100_3).f2) + x14_2)))) (fun _ h_ => h_.1)⟩; have L5_ : Aside0 (Below w.heap.size w w98_) := ⟨by rw [hw99_]; exact (by repeat (first | (with_reducible first | exact HB.out | apply below_alloc | apply pw_below_drewN | apply below_drew1 | refine below_set ?_ GE258.out) | exact HB.out))⟩; clear BK258; clear HB; clear HO_11; clear HO_16; clear HO_98; have BK258 := B5_; have HB := L5_; have HO_11 := O1_; have HO_16 := O2_; have HO_98 := O3_; clear B5_ O1_ O2_ O3_ L5_ hw99_; clear hp0_ hp1_ hp2_ hp3_ hy0_ hy1_ hy2_ hy3_; have hr0_ := hq0_; have hr1_ := hq1_; have hr2_ := hq2_; have hr3_ := hq3_; clear hq0_ hq1_ hq2_ hq3_; have hx0_ := hz0_; have hx1_ := hz1_; have hx2_ := hz2_; have hx3_ := hz3_; clear hz0_ hz1_ hz2_ hz3_) | ((with_reducible refine gate_store (t := 3) (p := 115) rfl ?_); refine store_event (t := 3) (p := 115) (v := ?vo9) (w1 := w98_.setCell ⟨gb258, 3, none⟩ (.int .i64 (wrap64 ((wrap64 (((rd_T38 t244 x100_3).f3) + (a0.size : Int))) + 1)))) ?hg ?ho ?hn ?hr ?_; (case ho => rfl); (case hg => rfl); (case hn => rfl); (case hr => (simp only [execOp]); (rw [show Act.eval _ (.tmp 115) = .pointer (some ⟨gb258, 3, none⟩) from rfl, show Act.eval _ (.tmp 113) = .int .i64 (wrap64 ((wrap64 (((rd_T38 t244 x100_3).f3) + (a0.size : Int))) + 1)) from rfl]); exact st3 _ _ _ _ ((blk_cell BK258.out 3).trans rfl) (blk_frozen BK258.out 3)); intro w99_ hw99_; have B5_ : Aside0 (w99_.heap[gb258]? = some (.cells #[.int .i64 ((rd_T38 t244 x100_3).f0), .string ((rd_T38 t244 x100_3).f1), .int .i64 (wrap64 (((rd_T38 t244 x100_3).f2) + x14_2)), .int .i64 (wrap64 ((wrap64 (((rd_T38 t244 x100_3).f3) + (a0.size : Int))) + 1))] 38 (0, 0))) := ⟨by rw [hw99_]; exact blk_put (cs := #[.int .i64 ((rd_T38 t244 x100_3).f0), .string ((rd_T38 t244 x100_3).f1), .int .i64 (wrap64 (((rd_T38 t244 x100_3).f2) + x14_2)), .int .i64 ((rd_T38 t244 x100_3).f3)]) BK258.out 3 _ rfl⟩; have hq0_ : w99_.cell? ⟨gb258, 0, none⟩ = some (.int .i64 ((rd_T38 t244 x100_3).f0)) := (blk_cell B5_.out 0).trans rfl; have hq1_ : w99_.cell? ⟨gb258, 1, none⟩ = some (.string ((rd_T38 t244 x100_3).f1)) := (blk_cell B5_.out 1).trans rfl; have hq2_ : w99_.cell? ⟨gb258, 2, none⟩ = some (.int .i64 (wrap64 (((rd_T38 t244 x100_3).f2) + x14_2))) := (blk_cell B5_.out 2).trans rfl; have hq3_ : w99_.cell? ⟨gb258, 3, none⟩ = some (.int .i64 (wrap64 ((wrap64 (((rd_T38 t244 x100_3).f3) + (a0.size : Int))) + 1))) := (blk_cell B5_.out 3).trans rfl; have hz0_ := blk_frozen B5_.out 0; have hz1_ := blk_frozen B5_.out 1; have hz2_ := blk_frozen B5_.out 2; have hz3_ := blk_frozen B5_.out 3; have O1_ : Aside0 (Kd.R k38 38 w99_ w.heap.size (fun k => some k ≠ (Value.slice (some ad257) t244.length co27).ownBlock ∧ k ≠ gb258) v252 t249) := ⟨by rw [hw99_]; (with_reducible repeat (first | apply Kd.R_alloc | apply Kd.R_drewN | apply Kd.R_drew)); exact Kd.R_mono (Kd.R_far (p := ⟨gb258, 3, none⟩) (Kd.R_mono HO_11.out (fun k_ hk => (⟨hk, hk.2⟩ : _ ∧ k_ ≠ gb258))) (fun _ hk => hk.2) (.int .i64 (wrap64 ((wrap64 (((rd_T38 t244 x100_3).f3) + (a0.size : Int))) + 1)))) (fun _ h_ => h_.1)⟩; have O2_ : Aside0 (Kd.R k40 40 w99_ w.heap.size (fun _ => True) u16 x16_3) := ⟨by rw [hw99_]; (with_reducible repeat (first | apply Kd.R_alloc | apply Kd.R_drewN | apply Kd.R_drew)); exact Kd.R_mono (Kd.R_far (p := ⟨gb258, 3, none⟩) (Kd.R_types HO_16.out BK258.out (by decide)) (fun _ hk => hk.2) (.int .i64 (wrap64 ((wrap64 (((rd_T38 t244 x100_3).f3) + (a0.size : Int))) + 1)))) (fun _ hk => trivial)⟩; have O3_ : Aside0 (Kd.R k38 38 w99_ w.heap.size (fun k => some k ≠ v252.ownBlock ∧ k ≠ gb258) (Value.slice (some ad257) t244.length co27) t244) := ⟨by rw [hw99_]; (with_reducible repeat (first | apply Kd.R_alloc | apply Kd.R_drewN | apply Kd.R_drew)); exact Kd.R_mono (Kd.R_far (p := ⟨gb258, 3, none⟩) (Kd.R_mono HO_98.out (fun k_ hk => (⟨hk, hk.2⟩ : _ ∧ k_ ≠ gb258))) (fun _ hk => hk.2) (.int .i64 (wrap64 ((wrap64 (((rd_T38 t244 x100_3).f3) + (a0.size : Int))) + 1)))) (fun _ h_ => h_.1)⟩; have L5_ : Aside0 (Below w.heap.size w w99_) := ⟨by rw [hw99_]; exact (by repeat (first | (with_reducible first | exact HB.out | apply below_alloc | apply pw_below_drewN | apply below_drew1 | refine below_set ?_ GE258.out) | exact HB.out))⟩; clear BK258; clear HB; clear HO_11; clear HO_16; clear HO_98; have BK258 := B5_; have HB := L5_; have HO_11 := O1_; have HO_16 := O2_; have HO_98 := O3_; clear B5_ O1_ O2_ O3_ L5_ hw99_; clear hr0_ hr1_ hr2_ hr3_ hx0_ hx1_ hx2_ hx3_) | ((with_reducible refine gate_builtin (b := .append) (xs := #[.tmp 116, .tmp 118]) rfl ?_); (try (refine gate_guard (by rfl) ?_; dsimp only)); at_builtin; refine Kd.R_append k40 (w0 := w) w.heap.size rfl (.tmp 116) (.tmp 118) 27 40 (.agg #[(.int .i64 0), (.string ⟨#[]⟩), (.int .i64 0), (.int .i64 0)]) 40 rfl Tryd.underlying27 info40 rfl (by decide) (by omega) u16 x16_3 (⟨(rd_T38 t244 x100_3).f0, (rd_T38 t244 x100_3).f1, wrap64 (((rd_T38 t244 x100_3).f2) + x14_2), wrap64 ((wrap64 (((rd_T38 t244 x100_3).f3) + (a0.size : Int))) + 1)⟩ : S40) [.int .i64 ((rd_T38 t244 x100_3).f0), .string ((rd_T38 t244 x100_3).f1), .int .i64 (wrap64 (((rd_T38 t244 x100_3).f2) + x14_2)), .int .i64 (wrap64 ((wrap64 (((rd_T38 t244 x100_3).f3) + (a0.size : Int))) + 1))] (fun _ => True) (fun _ => False) rfl (by first | (go_simp; done) | (go_simp; rfl)) ?aP (fun _ hk => hk.elim) ?aF ?aO ?aB ?aS ?aL ?_; (case aP => exact k40_mkM _ _ _ (⟨(rd_T38 t244 x100_3).f0, (rd_T38 t244 x100_3).f1, wrap64 (((rd_T38 t244 x100_3).f2) + x14_2), wrap64 ((wrap64 (((rd_T38 t244 x100_3).f3) + (a0.size : Int))) + 1)⟩ : S40)); (case aB => exact (by repeat (first | (with_reducible first | exact HB.out | apply below_alloc | apply pw_below_drewN | apply below_drew1 | refine below_set ?_ GE258.out) | exact HB.out))); (case aF => exact (fun _ _ => trivial)); (case aO => exact (by (with_reducible repeat (first | apply Kd.R_alloc | apply Kd.R_drewN | apply Kd.R_drew)); exact HO_16.out)); (case aS => exact (below_size (by repeat (first | (with_reducible first | exact HB.out | apply below_alloc | apply pw_below_drewN | apply below_drew1 | refine below_set ?_ GE258.out) | exact HB.out)))); (case aL => have := LMc31.out; omega); intro v260 w34 ho hb hg hat; rw [← Ny259.out] at ho; have n0_ := Aside0.mk (Kd.R_over' (by (with_reducible repeat (first | apply Kd.R_alloc | apply Kd.R_drewN | apply Kd.R_drew)); exact HO_11.out) (Kd.R_typed (by (with_reducible repeat (first | apply Kd.R_alloc | apply Kd.R_drewN | apply Kd.R_drew)); exact (Kd.R_mono (Kd.R_types HO_16.out BK258.out (by decide)) (fun _ h_ => h_.1)))) (by decide) hg); have n1_ := Aside0.mk (Kd.R_over' (by (with_reducible repeat (first | apply Kd.R_alloc | apply Kd.R_drewN | apply Kd.R_drew)); exact HO_98.out) (Kd.R_typed (by (with_reducible repeat (first | apply Kd.R_alloc | apply Kd.R_drewN | apply Kd.R_drew)); exact (Kd.R_mono (Kd.R_types HO_16.out BK258.out (by decide)) (fun _ h_ => h_.1)))) (by decide) hg); have n2_ := Aside0.mk (blk_grown (g := gb258) (o := .cells #[.int .i64 ((rd_T38 t244 x100_3).f0), .string ((rd_T38 t244 x100_3).f1), .int .i64 (wrap64 (((rd_T38 t244 x100_3).f2) + x14_2)), .int .i64 (wrap64 ((wrap64 (((rd_T38 t244 x100_3).f3) + (a0.size : Int))) + 1))] 38 (0, 0)) (by (with_reducible repeat (first | refine blk_drewN ?_ _ | refine blk_drew ?_ | refine blk_alloc ?_ _)); exact BK258.out) hg (Kd.R_ne HO_16.out BK258.out (by decide))); have n3_ := Aside0.mk (hb); have n4_ := Aside0.mk (ho); clear HO_11; clear HO_98; clear BK258; clear HB; clear HO_16; have HO_11 := n0_; have HO_98 := n1_; have BK258 := n2_; have HB := n3_; have HO261 := n4_; clear n0_ n1_ n2_ n3_ n4_; clear ho hb hg hat))
                                    go_roundg k3
                                    case measure => have := HJ4.out; have := HK2.out; have := HK3.out; omega
                                    case rel => exact ⟨(y259), (wrap64 (x100_3 + 1)), (by first | rfl | (simp; done) | (simp [*]; done)), H', ⟨by have := HJ4.out; have := HK2.out; have := HK3.out; omega⟩, ⟨by (with_reducible repeat (first | apply Kd.R_alloc | apply Kd.R_drewN | apply Kd.R_drew)); exact Kd.R_mono HO_11.out (fun _ hk => hk.1)⟩, ⟨by (with_reducible repeat (first | apply Kd.R_alloc | apply Kd.R_drewN | apply Kd.R_drew)); exact HO261.out⟩, ⟨by (with_reducible repeat (first | apply Kd.R_alloc | apply Kd.R_drewN | apply Kd.R_drew)); exact Kd.R_mono HO_98.out (fun _ hk => hk.1)⟩, ⟨by repeat (first | (with_reducible first | exact HB.out | apply below_alloc | apply pw_below_drewN | apply below_drew1 | refine below_set ?_ GE258.out) | exact HB.out)⟩⟩
                                  · rw [if_neg c31] at H
                                    exact absurd H (by simp)
                                · rw [if_neg c30] at H
                                  exact absurd H (by simp)
                              · rw [if_neg c29] at H
                                exact absurd H (by simp)
                            · rw [if_neg c28] at H
                              have c28b0 : decide (x100_3 < (t244.length : Int)) = false := decide_eq_false c28
                              clear c28
                              by_cases c35 : t251 = 0
                              · rw [if_pos c35] at H
                                have c35b0 : (t251 == 0) = true := beq_iff_eq.mpr c35
                                have c35b1 : (t251 != 0) = false := bne_eq_false_iff_eq.mpr c35
                                clear c35
                                replace H := Option.bind_eq_some_iff.mp H
                                obtain ⟨t262, A360, H⟩ := H
                                replace H : ((culetref13_Same.f k3 t262 x16_3).bind fun t265 => (some t265)) = some r := H
                                have A36 := Aside0.mk A360
                                clear A360
                                replace H := Option.bind_eq_some_iff.mp H
                                obtain ⟨t265, A370, H⟩ := H
                                replace H : (some t265) = some r := H
                                have A37 := Aside0.mk A370
                                clear A370
                                obtain rfl := Option.some.inj H
                                obtain ⟨Ao38, co38, eo38⟩ := Kd.R_slice HO_11.out
                                subst eo38
                                go_wp2_with (first | (go_at_call 14; (with_reducible refine (culetlaw13_theirs.calls k3 _ _ t249 t262 _ ?side1 ?side2 A36.out).mono ?_); (case side1 => repeat (first | exact (Kd.R_reads' HO_11.out).2.2 | (with_reducible refine Kd.C_alloc ?_ _) | (with_reducible refine Kd.C_drewN ?_ _) | (with_reducible refine Kd.C_drew ?_))); (case side2 => exact (Kd.R_reads' HO_11.out).2.1); rintro e w39 ⟨v263, rfl, ho0, hb⟩; have n0_ := Aside0.mk (Kd.R_below (by (with_reducible repeat (first | apply Kd.R_alloc | apply Kd.R_drewN | apply Kd.R_drew)); exact HO_11.out) hb); have n1_ := Aside0.mk (Kd.R_elder' (by (with_reducible repeat (first | apply Kd.R_alloc | apply Kd.R_drewN | apply Kd.R_drew)); exact HO_16.out) (Kd.R_base ho0) hb); have n2_ := Aside0.mk (Kd.R_below (by (with_reducible repeat (first | apply Kd.R_alloc | apply Kd.R_drewN | apply Kd.R_drew)); exact HO_98.out) hb); have n3_ := Aside0.mk (Kd.R_lower (Kd.R_new' ho0 (Kd.R_lt (by (with_reducible repeat (first | apply Kd.R_alloc | apply Kd.R_drewN | apply Kd.R_drew)); exact HO_16.out))) (below_size (by repeat (first | (with_reducible first | exact HB.out | apply below_alloc | apply pw_below_drewN | apply below_drew1) | exact HB.out)))); have n4_ := Aside0.mk (below_step (by repeat (first | (with_reducible first | exact HB.out | apply below_alloc | apply pw_below_drewN | apply below_drew1) | exact HB.out)) hb); clear HO_11; clear HO_16; clear HO_98; clear HB; have HO_11 := n0_; have HO_16 := n1_; have HO_98 := n2_; have HO264 := n3_; have HB := n4_; clear n0_ n1_ n2_ n3_ n4_; (try clear hb); (try clear hb2); (try clear hk); (try clear hi); (try clear ho0); obtain ⟨Ao40, co40, eo40⟩ := Kd.R_slice HO264.out; subst eo40; obtain ⟨Ao41, co41, eo41⟩ := Kd.R_slice HO_16.out; subst eo41) | (go_at_call 13; (with_reducible refine (culetref13_Same.calls k3 _ _ t262 _ _ x16_3 t265 _ ?side1 ?side2 ?side3 ?side4 A37.out).mono ?_); (case side1 => repeat (first | exact (Kd.R_reads' HO264.out).2.2 | (with_reducible refine Kd.C_alloc ?_ _) | (with_reducible refine Kd.C_drewN ?_ _) | (with_reducible refine Kd.C_drew ?_))); (case side2 => exact (Kd.R_reads' HO264.out).2.1); (case side3 => repeat (first | exact (Kd.R_reads' HO_16.out).2.2 | (with_reducible refine Kd.C_alloc ?_ _) | (with_reducible refine Kd.C_drewN ?_ _) | (with_reducible refine Kd.C_drew ?_))); (case side4 => exact (Kd.R_reads' HO_16.out).2.1); rintro e w' ⟨rfl, ⟨nd, rfl⟩⟩))
                                go_ret
                                exact ⟨by first | rfl | (simp [errW_none, errW_some] <;> rfl) | (simp [*, errW_none, errW_some] <;> rfl), by repeat (first | (with_reducible first | exact HB.out | apply below_alloc | apply pw_below_drewN | apply below_drew1) | exact HB.out)⟩
                              · rw [if_neg c35] at H
                                have c35b0 : (t251 == 0) = false := beq_eq_false_iff_ne.mpr c35
                                have c35b1 : (t251 != 0) = true := bne_iff_ne.mpr c35
                                obtain rfl := Option.some.inj H
                                go_wp2
                                go_ret
                                exact ⟨by first | rfl | (simp [errW_none, errW_some] <;> rfl) | (simp [*, errW_none, errW_some] <;> rfl), by repeat (first | (with_reducible first | exact HB.out | apply below_alloc | apply pw_below_drewN | apply below_drew1) | exact HB.out)⟩
                · rw [if_neg c15] at H
                  have c15b0 : (t246 == 0) = false := beq_eq_false_iff_ne.mpr c15
                  have c15b1 : (t246 != 0) = true := bne_iff_ne.mpr c15
                  by_cases c42 : t251 = t246
                  · rw [if_pos c42] at H
                    have c42b0 : (t251 == t246) = true := beq_iff_eq.mpr c42
                    have c42b1 : (t251 != t246) = false := bne_eq_false_iff_eq.mpr c42
                    clear c42
                    obtain ⟨ji43, hji43⟩ : ∃ j_ : Int, (wrap64 ((wrap64 ((a0.size : Int) + 1)) + t245)) = j_ := ⟨_, rfl⟩
                    rw [hji43] at H
                    have hin43 : wrap64 ((a0.size : Int) + 1) = (a0.size : Int) + 1 := by unfold wrap64; omega
                    have hjw1 : IntKind.i64.wrap (IntKind.i64.wrap ((a0.size : Int) + 1) + t245) = ji43 := by rw [i64_w, i64_w]; exact hji43
                    have hjw2 : IntKind.i64.wrap ((a0.size : Int) + 1 + t245) = ji43 := by rw [i64_w, ← hin43]; exact hji43
                    clear hin43 hji43
                    by_cases c43 : t250 = ji43
                    · rw [if_pos c43] at H
                      have c43b0 : (t250 == ji43) = true := beq_iff_eq.mpr c43
                      have c43b1 : (t250 != ji43) = false := bne_eq_false_iff_eq.mpr c43
                      clear c43
                      obtain rfl := Option.some.inj H
                      go_wp2_with (first | ((with_reducible refine gate_callee (f := 11) rfl ?_); refine goesL_ (some 31) rfl rfl Tryd.func11 (by kernel_rfl) rfl #[.string a0] rfl (by (try simp only [List.map_toArray, List.map_cons, List.map_nil]); first | done | rfl | (simp only [List.length_drop, List.length_take]; rfl)) ?_; (with_reducible refine (lexer_Lex.calls kj4 a0 t239 t240 t241 _ A9.out).mono ?_); rintro e w44 ⟨v242, rfl, ho0, hb⟩; refine ⟨_, rfl, ?_⟩; have n0_ := Aside0.mk (Kd.R_lower ho0 (below_size (by repeat (first | (with_reducible first | exact HB.out | apply below_alloc | apply pw_below_drewN | apply below_drew1) | exact HB.out)))); have n1_ := Aside0.mk (below_step (by repeat (first | (with_reducible first | exact HB.out | apply below_alloc | apply pw_below_drewN | apply below_drew1) | exact HB.out)) hb); clear HB; have HO243 := n0_; have HB := n1_; clear n0_ n1_; (try clear hb); (try clear hb2); (try clear hk); (try clear hi); (try clear ho0)) | ((with_reducible refine gate_callee (f := 11) rfl ?_); refine goesL_ (some 37) rfl rfl Tryd.func11 (by kernel_rfl) rfl #[.string a1] rfl (by (try simp only [List.map_toArray, List.map_cons, List.map_nil]); first | done | rfl | (simp only [List.length_drop, List.length_take]; rfl)) ?_; (with_reducible refine (lexer_Lex.calls kj4 a1 t244 t245 t246 _ A10.out).mono ?_); rintro e w45 ⟨v247, rfl, ho0, hb⟩; refine ⟨_, rfl, ?_⟩; have n0_ := Aside0.mk (Kd.R_elder' (by (with_reducible repeat (first | apply Kd.R_alloc | apply Kd.R_drewN | apply Kd.R_drew)); exact HO243.out) (Kd.R_base ho0) hb); have n1_ := Aside0.mk (Kd.R_lower (Kd.R_new' ho0 (Kd.R_lt (by (with_reducible repeat (first | apply Kd.R_alloc | apply Kd.R_drewN | apply Kd.R_drew)); exact HO243.out))) (below_size (by repeat (first | (with_reducible first | exact HB.out | apply below_alloc | apply pw_below_drewN | apply below_drew1) | exact HB.out)))); have n2_ := Aside0.mk (below_step (by repeat (first | (with_reducible first | exact HB.out | apply below_alloc | apply pw_below_drewN | apply below_drew1) | exact HB.out)) hb); clear HO243; clear HB; have HO243 := n0_; have HO248 := n1_; have HB := n2_; clear n0_ n1_ n2_; (try clear hb); (try clear hb2); (try clear hk); (try clear hi); (try clear ho0)) | ((with_reducible refine gate_callee (f := 11) rfl ?_); refine goesL_ (some 46) rfl rfl Tryd.func11 (by kernel_rfl) rfl #[.string ((a0 ++ (⟨#[10]⟩ : ByteArray)) ++ a1)] rfl (by (try simp only [List.map_toArray, List.map_cons, List.map_nil]); first | done | rfl | (simp only [List.length_drop, List.length_take]; rfl)) ?_; (with_reducible refine (lexer_Lex.calls kj4 ((a0 ++ (⟨#[10]⟩ : ByteArray)) ++ a1) t249 t250 t251 _ A13.out).mono ?_); rintro e w46 ⟨v252, rfl, ho0, hb⟩; refine ⟨_, rfl, ?_⟩; have n0_ := Aside0.mk (Kd.R_elder' (by (with_reducible repeat (first | apply Kd.R_alloc | apply Kd.R_drewN | apply Kd.R_drew)); exact HO243.out) (Kd.R_base ho0) hb); have n1_ := Aside0.mk (Kd.R_elder' (by (with_reducible repeat (first | apply Kd.R_alloc | apply Kd.R_drewN | apply Kd.R_drew)); exact HO248.out) (Kd.R_base ho0) hb); have n2_ := Aside0.mk (Kd.R_lower (Kd.R_new' (Kd.R_new' ho0 (Kd.R_lt (by (with_reducible repeat (first | apply Kd.R_alloc | apply Kd.R_drewN | apply Kd.R_drew)); exact HO243.out))) (Kd.R_lt (by (with_reducible repeat (first | apply Kd.R_alloc | apply Kd.R_drewN | apply Kd.R_drew)); exact HO248.out))) (below_size (by repeat (first | (with_reducible first | exact HB.out | apply below_alloc | apply pw_below_drewN | apply below_drew1) | exact HB.out)))); have n3_ := Aside0.mk (below_step (by repeat (first | (with_reducible first | exact HB.out | apply below_alloc | apply pw_below_drewN | apply below_drew1) | exact HB.out)) hb); clear HO243; clear HO248; clear HB; have HO243 := n0_; have HO248 := n1_; have HO253 := n2_; have HB := n3_; clear n0_ n1_ n2_ n3_; (try clear hb); (try clear hb2); (try clear hk); (try clear hi); (try clear ho0); obtain ⟨Ao47, co47, eo47⟩ := Kd.R_slice HO253.out; subst eo47))
                      go_ret
                      exact ⟨by first | rfl | (simp [errW_none, errW_some] <;> rfl) | (simp [*, errW_none, errW_some] <;> rfl), by repeat (first | (with_reducible first | exact HB.out | apply below_alloc | apply pw_below_drewN | apply below_drew1) | exact HB.out)⟩
                    · rw [if_neg c43] at H
                      have c43b0 : (t250 == ji43) = false := beq_eq_false_iff_ne.mpr c43
                      have c43b1 : (t250 != ji43) = true := bne_iff_ne.mpr c43
                      obtain rfl := Option.some.inj H
                      go_wp2_with (first | ((with_reducible refine gate_callee (f := 11) rfl ?_); refine goesL_ (some 31) rfl rfl Tryd.func11 (by kernel_rfl) rfl #[.string a0] rfl (by (try simp only [List.map_toArray, List.map_cons, List.map_nil]); first | done | rfl | (simp only [List.length_drop, List.length_take]; rfl)) ?_; (with_reducible refine (lexer_Lex.calls kj4 a0 t239 t240 t241 _ A9.out).mono ?_); rintro e w48 ⟨v242, rfl, ho0, hb⟩; refine ⟨_, rfl, ?_⟩; have n0_ := Aside0.mk (Kd.R_lower ho0 (below_size (by repeat (first | (with_reducible first | exact HB.out | apply below_alloc | apply pw_below_drewN | apply below_drew1) | exact HB.out)))); have n1_ := Aside0.mk (below_step (by repeat (first | (with_reducible first | exact HB.out | apply below_alloc | apply pw_below_drewN | apply below_drew1) | exact HB.out)) hb); clear HB; have HO243 := n0_; have HB := n1_; clear n0_ n1_; (try clear hb); (try clear hb2); (try clear hk); (try clear hi); (try clear ho0)) | ((with_reducible refine gate_callee (f := 11) rfl ?_); refine goesL_ (some 37) rfl rfl Tryd.func11 (by kernel_rfl) rfl #[.string a1] rfl (by (try simp only [List.map_toArray, List.map_cons, List.map_nil]); first | done | rfl | (simp only [List.length_drop, List.length_take]; rfl)) ?_; (with_reducible refine (lexer_Lex.calls kj4 a1 t244 t245 t246 _ A10.out).mono ?_); rintro e w49 ⟨v247, rfl, ho0, hb⟩; refine ⟨_, rfl, ?_⟩; have n0_ := Aside0.mk (Kd.R_elder' (by (with_reducible repeat (first | apply Kd.R_alloc | apply Kd.R_drewN | apply Kd.R_drew)); exact HO243.out) (Kd.R_base ho0) hb); have n1_ := Aside0.mk (Kd.R_lower (Kd.R_new' ho0 (Kd.R_lt (by (with_reducible repeat (first | apply Kd.R_alloc | apply Kd.R_drewN | apply Kd.R_drew)); exact HO243.out))) (below_size (by repeat (first | (with_reducible first | exact HB.out | apply below_alloc | apply pw_below_drewN | apply below_drew1) | exact HB.out)))); have n2_ := Aside0.mk (below_step (by repeat (first | (with_reducible first | exact HB.out | apply below_alloc | apply pw_below_drewN | apply below_drew1) | exact HB.out)) hb); clear HO243; clear HB; have HO243 := n0_; have HO248 := n1_; have HB := n2_; clear n0_ n1_ n2_; (try clear hb); (try clear hb2); (try clear hk); (try clear hi); (try clear ho0)) | ((with_reducible refine gate_callee (f := 11) rfl ?_); refine goesL_ (some 46) rfl rfl Tryd.func11 (by kernel_rfl) rfl #[.string ((a0 ++ (⟨#[10]⟩ : ByteArray)) ++ a1)] rfl (by (try simp only [List.map_toArray, List.map_cons, List.map_nil]); first | done | rfl | (simp only [List.length_drop, List.length_take]; rfl)) ?_; (with_reducible refine (lexer_Lex.calls kj4 ((a0 ++ (⟨#[10]⟩ : ByteArray)) ++ a1) t249 t250 t251 _ A13.out).mono ?_); rintro e w50 ⟨v252, rfl, ho0, hb⟩; refine ⟨_, rfl, ?_⟩; have n0_ := Aside0.mk (Kd.R_elder' (by (with_reducible repeat (first | apply Kd.R_alloc | apply Kd.R_drewN | apply Kd.R_drew)); exact HO243.out) (Kd.R_base ho0) hb); have n1_ := Aside0.mk (Kd.R_elder' (by (with_reducible repeat (first | apply Kd.R_alloc | apply Kd.R_drewN | apply Kd.R_drew)); exact HO248.out) (Kd.R_base ho0) hb); have n2_ := Aside0.mk (Kd.R_lower (Kd.R_new' (Kd.R_new' ho0 (Kd.R_lt (by (with_reducible repeat (first | apply Kd.R_alloc | apply Kd.R_drewN | apply Kd.R_drew)); exact HO243.out))) (Kd.R_lt (by (with_reducible repeat (first | apply Kd.R_alloc | apply Kd.R_drewN | apply Kd.R_drew)); exact HO248.out))) (below_size (by repeat (first | (with_reducible first | exact HB.out | apply below_alloc | apply pw_below_drewN | apply below_drew1) | exact HB.out)))); have n3_ := Aside0.mk (below_step (by repeat (first | (with_reducible first | exact HB.out | apply below_alloc | apply pw_below_drewN | apply below_drew1) | exact HB.out)) hb); clear HO243; clear HO248; clear HB; have HO243 := n0_; have HO248 := n1_; have HO253 := n2_; have HB := n3_; clear n0_ n1_ n2_ n3_; (try clear hb); (try clear hb2); (try clear hk); (try clear hi); (try clear ho0)))
                      go_ret
                      exact ⟨by first | rfl | (simp [errW_none, errW_some] <;> rfl) | (simp [*, errW_none, errW_some] <;> rfl), by repeat (first | (with_reducible first | exact HB.out | apply below_alloc | apply pw_below_drewN | apply below_drew1) | exact HB.out)⟩
                  · rw [if_neg c42] at H
                    have c42b0 : (t251 == t246) = false := beq_eq_false_iff_ne.mpr c42
                    have c42b1 : (t251 != t246) = true := bne_iff_ne.mpr c42
                    obtain rfl := Option.some.inj H
                    go_wp2_with (first | ((with_reducible refine gate_callee (f := 11) rfl ?_); refine goesL_ (some 31) rfl rfl Tryd.func11 (by kernel_rfl) rfl #[.string a0] rfl (by (try simp only [List.map_toArray, List.map_cons, List.map_nil]); first | done | rfl | (simp only [List.length_drop, List.length_take]; rfl)) ?_; (with_reducible refine (lexer_Lex.calls kj4 a0 t239 t240 t241 _ A9.out).mono ?_); rintro e w51 ⟨v242, rfl, ho0, hb⟩; refine ⟨_, rfl, ?_⟩; have n0_ := Aside0.mk (Kd.R_lower ho0 (below_size (by repeat (first | (with_reducible first | exact HB.out | apply below_alloc | apply pw_below_drewN | apply below_drew1) | exact HB.out)))); have n1_ := Aside0.mk (below_step (by repeat (first | (with_reducible first | exact HB.out | apply below_alloc | apply pw_below_drewN | apply below_drew1) | exact HB.out)) hb); clear HB; have HO243 := n0_; have HB := n1_; clear n0_ n1_; (try clear hb); (try clear hb2); (try clear hk); (try clear hi); (try clear ho0)) | ((with_reducible refine gate_callee (f := 11) rfl ?_); refine goesL_ (some 37) rfl rfl Tryd.func11 (by kernel_rfl) rfl #[.string a1] rfl (by (try simp only [List.map_toArray, List.map_cons, List.map_nil]); first | done | rfl | (simp only [List.length_drop, List.length_take]; rfl)) ?_; (with_reducible refine (lexer_Lex.calls kj4 a1 t244 t245 t246 _ A10.out).mono ?_); rintro e w52 ⟨v247, rfl, ho0, hb⟩; refine ⟨_, rfl, ?_⟩; have n0_ := Aside0.mk (Kd.R_elder' (by (with_reducible repeat (first | apply Kd.R_alloc | apply Kd.R_drewN | apply Kd.R_drew)); exact HO243.out) (Kd.R_base ho0) hb); have n1_ := Aside0.mk (Kd.R_lower (Kd.R_new' ho0 (Kd.R_lt (by (with_reducible repeat (first | apply Kd.R_alloc | apply Kd.R_drewN | apply Kd.R_drew)); exact HO243.out))) (below_size (by repeat (first | (with_reducible first | exact HB.out | apply below_alloc | apply pw_below_drewN | apply below_drew1) | exact HB.out)))); have n2_ := Aside0.mk (below_step (by repeat (first | (with_reducible first | exact HB.out | apply below_alloc | apply pw_below_drewN | apply below_drew1) | exact HB.out)) hb); clear HO243; clear HB; have HO243 := n0_; have HO248 := n1_; have HB := n2_; clear n0_ n1_ n2_; (try clear hb); (try clear hb2); (try clear hk); (try clear hi); (try clear ho0)) | ((with_reducible refine gate_callee (f := 11) rfl ?_); refine goesL_ (some 46) rfl rfl Tryd.func11 (by kernel_rfl) rfl #[.string ((a0 ++ (⟨#[10]⟩ : ByteArray)) ++ a1)] rfl (by (try simp only [List.map_toArray, List.map_cons, List.map_nil]); first | done | rfl | (simp only [List.length_drop, List.length_take]; rfl)) ?_; (with_reducible refine (lexer_Lex.calls kj4 ((a0 ++ (⟨#[10]⟩ : ByteArray)) ++ a1) t249 t250 t251 _ A13.out).mono ?_); rintro e w53 ⟨v252, rfl, ho0, hb⟩; refine ⟨_, rfl, ?_⟩; have n0_ := Aside0.mk (Kd.R_elder' (by (with_reducible repeat (first | apply Kd.R_alloc | apply Kd.R_drewN | apply Kd.R_drew)); exact HO243.out) (Kd.R_base ho0) hb); have n1_ := Aside0.mk (Kd.R_elder' (by (with_reducible repeat (first | apply Kd.R_alloc | apply Kd.R_drewN | apply Kd.R_drew)); exact HO248.out) (Kd.R_base ho0) hb); have n2_ := Aside0.mk (Kd.R_lower (Kd.R_new' (Kd.R_new' ho0 (Kd.R_lt (by (with_reducible repeat (first | apply Kd.R_alloc | apply Kd.R_drewN | apply Kd.R_drew)); exact HO243.out))) (Kd.R_lt (by (with_reducible repeat (first | apply Kd.R_alloc | apply Kd.R_drewN | apply Kd.R_drew)); exact HO248.out))) (below_size (by repeat (first | (with_reducible first | exact HB.out | apply below_alloc | apply pw_below_drewN | apply below_drew1) | exact HB.out)))); have n3_ := Aside0.mk (below_step (by repeat (first | (with_reducible first | exact HB.out | apply below_alloc | apply pw_below_drewN | apply below_drew1) | exact HB.out)) hb); clear HO243; clear HO248; clear HB; have HO243 := n0_; have HO248 := n1_; have HO253 := n2_; have HB := n3_; clear n0_ n1_ n2_ n3_; (try clear hb); (try clear hb2); (try clear hk); (try clear hi); (try clear ho0)))
                    go_ret
                    exact ⟨by first | rfl | (simp [errW_none, errW_some] <;> rfl) | (simp [*, errW_none, errW_some] <;> rfl), by repeat (first | (with_reducible first | exact HB.out | apply below_alloc | apply pw_below_drewN | apply below_drew1) | exact HB.out)⟩
              · rw [if_neg c14] at H
                have c14b0 : (t241 == 0) = false := beq_eq_false_iff_ne.mpr c14
                have c14b1 : (t241 != 0) = true := bne_iff_ne.mpr c14
                by_cases c54 : t251 = t241
                · rw [if_pos c54] at H
                  have c54b0 : (t251 == t241) = true := beq_iff_eq.mpr c54
                  have c54b1 : (t251 != t241) = false := bne_eq_false_iff_eq.mpr c54
                  clear c54
                  by_cases c55 : t250 = t240
                  · rw [if_pos c55] at H
                    have c55b0 : (t250 == t240) = true := beq_iff_eq.mpr c55
                    have c55b1 : (t250 != t240) = false := bne_eq_false_iff_eq.mpr c55
                    clear c55
                    obtain rfl := Option.some.inj H
                    go_wp2_with (first | ((with_reducible refine gate_callee (f := 11) rfl ?_); refine goesL_ (some 31) rfl rfl Tryd.func11 (by kernel_rfl) rfl #[.string a0] rfl (by (try simp only [List.map_toArray, List.map_cons, List.map_nil]); first | done | rfl | (simp only [List.length_drop, List.length_take]; rfl)) ?_; (with_reducible refine (lexer_Lex.calls kj4 a0 t239 t240 t241 _ A9.out).mono ?_); rintro e w56 ⟨v242, rfl, ho0, hb⟩; refine ⟨_, rfl, ?_⟩; have n0_ := Aside0.mk (Kd.R_lower ho0 (below_size (by repeat (first | (with_reducible first | exact HB.out | apply below_alloc | apply pw_below_drewN | apply below_drew1) | exact HB.out)))); have n1_ := Aside0.mk (below_step (by repeat (first | (with_reducible first | exact HB.out | apply below_alloc | apply pw_below_drewN | apply below_drew1) | exact HB.out)) hb); clear HB; have HO243 := n0_; have HB := n1_; clear n0_ n1_; (try clear hb); (try clear hb2); (try clear hk); (try clear hi); (try clear ho0)) | ((with_reducible refine gate_callee (f := 11) rfl ?_); refine goesL_ (some 37) rfl rfl Tryd.func11 (by kernel_rfl) rfl #[.string a1] rfl (by (try simp only [List.map_toArray, List.map_cons, List.map_nil]); first | done | rfl | (simp only [List.length_drop, List.length_take]; rfl)) ?_; (with_reducible refine (lexer_Lex.calls kj4 a1 t244 t245 t246 _ A10.out).mono ?_); rintro e w57 ⟨v247, rfl, ho0, hb⟩; refine ⟨_, rfl, ?_⟩; have n0_ := Aside0.mk (Kd.R_elder' (by (with_reducible repeat (first | apply Kd.R_alloc | apply Kd.R_drewN | apply Kd.R_drew)); exact HO243.out) (Kd.R_base ho0) hb); have n1_ := Aside0.mk (Kd.R_lower (Kd.R_new' ho0 (Kd.R_lt (by (with_reducible repeat (first | apply Kd.R_alloc | apply Kd.R_drewN | apply Kd.R_drew)); exact HO243.out))) (below_size (by repeat (first | (with_reducible first | exact HB.out | apply below_alloc | apply pw_below_drewN | apply below_drew1) | exact HB.out)))); have n2_ := Aside0.mk (below_step (by repeat (first | (with_reducible first | exact HB.out | apply below_alloc | apply pw_below_drewN | apply below_drew1) | exact HB.out)) hb); clear HO243; clear HB; have HO243 := n0_; have HO248 := n1_; have HB := n2_; clear n0_ n1_ n2_; (try clear hb); (try clear hb2); (try clear hk); (try clear hi); (try clear ho0)) | ((with_reducible refine gate_callee (f := 11) rfl ?_); refine goesL_ (some 46) rfl rfl Tryd.func11 (by kernel_rfl) rfl #[.string ((a0 ++ (⟨#[10]⟩ : ByteArray)) ++ a1)] rfl (by (try simp only [List.map_toArray, List.map_cons, List.map_nil]); first | done | rfl | (simp only [List.length_drop, List.length_take]; rfl)) ?_; (with_reducible refine (lexer_Lex.calls kj4 ((a0 ++ (⟨#[10]⟩ : ByteArray)) ++ a1) t249 t250 t251 _ A13.out).mono ?_); rintro e w58 ⟨v252, rfl, ho0, hb⟩; refine ⟨_, rfl, ?_⟩; have n0_ := Aside0.mk (Kd.R_elder' (by (with_reducible repeat (first | apply Kd.R_alloc | apply Kd.R_drewN | apply Kd.R_drew)); exact HO243.out) (Kd.R_base ho0) hb); have n1_ := Aside0.mk (Kd.R_elder' (by (with_reducible repeat (first | apply Kd.R_alloc | apply Kd.R_drewN | apply Kd.R_drew)); exact HO248.out) (Kd.R_base ho0) hb); have n2_ := Aside0.mk (Kd.R_lower (Kd.R_new' (Kd.R_new' ho0 (Kd.R_lt (by (with_reducible repeat (first | apply Kd.R_alloc | apply Kd.R_drewN | apply Kd.R_drew)); exact HO243.out))) (Kd.R_lt (by (with_reducible repeat (first | apply Kd.R_alloc | apply Kd.R_drewN | apply Kd.R_drew)); exact HO248.out))) (below_size (by repeat (first | (with_reducible first | exact HB.out | apply below_alloc | apply pw_below_drewN | apply below_drew1) | exact HB.out)))); have n3_ := Aside0.mk (below_step (by repeat (first | (with_reducible first | exact HB.out | apply below_alloc | apply pw_below_drewN | apply below_drew1) | exact HB.out)) hb); clear HO243; clear HO248; clear HB; have HO243 := n0_; have HO248 := n1_; have HO253 := n2_; have HB := n3_; clear n0_ n1_ n2_ n3_; (try clear hb); (try clear hb2); (try clear hk); (try clear hi); (try clear ho0); obtain ⟨Ao59, co59, eo59⟩ := Kd.R_slice HO253.out; subst eo59))
                    go_ret
                    exact ⟨by first | rfl | (simp [errW_none, errW_some] <;> rfl) | (simp [*, errW_none, errW_some] <;> rfl), by repeat (first | (with_reducible first | exact HB.out | apply below_alloc | apply pw_below_drewN | apply below_drew1) | exact HB.out)⟩
                  · rw [if_neg c55] at H
                    have c55b0 : (t250 == t240) = false := beq_eq_false_iff_ne.mpr c55
                    have c55b1 : (t250 != t240) = true := bne_iff_ne.mpr c55
                    obtain rfl := Option.some.inj H
                    go_wp2_with (first | ((with_reducible refine gate_callee (f := 11) rfl ?_); refine goesL_ (some 31) rfl rfl Tryd.func11 (by kernel_rfl) rfl #[.string a0] rfl (by (try simp only [List.map_toArray, List.map_cons, List.map_nil]); first | done | rfl | (simp only [List.length_drop, List.length_take]; rfl)) ?_; (with_reducible refine (lexer_Lex.calls kj4 a0 t239 t240 t241 _ A9.out).mono ?_); rintro e w60 ⟨v242, rfl, ho0, hb⟩; refine ⟨_, rfl, ?_⟩; have n0_ := Aside0.mk (Kd.R_lower ho0 (below_size (by repeat (first | (with_reducible first | exact HB.out | apply below_alloc | apply pw_below_drewN | apply below_drew1) | exact HB.out)))); have n1_ := Aside0.mk (below_step (by repeat (first | (with_reducible first | exact HB.out | apply below_alloc | apply pw_below_drewN | apply below_drew1) | exact HB.out)) hb); clear HB; have HO243 := n0_; have HB := n1_; clear n0_ n1_; (try clear hb); (try clear hb2); (try clear hk); (try clear hi); (try clear ho0)) | ((with_reducible refine gate_callee (f := 11) rfl ?_); refine goesL_ (some 37) rfl rfl Tryd.func11 (by kernel_rfl) rfl #[.string a1] rfl (by (try simp only [List.map_toArray, List.map_cons, List.map_nil]); first | done | rfl | (simp only [List.length_drop, List.length_take]; rfl)) ?_; (with_reducible refine (lexer_Lex.calls kj4 a1 t244 t245 t246 _ A10.out).mono ?_); rintro e w61 ⟨v247, rfl, ho0, hb⟩; refine ⟨_, rfl, ?_⟩; have n0_ := Aside0.mk (Kd.R_elder' (by (with_reducible repeat (first | apply Kd.R_alloc | apply Kd.R_drewN | apply Kd.R_drew)); exact HO243.out) (Kd.R_base ho0) hb); have n1_ := Aside0.mk (Kd.R_lower (Kd.R_new' ho0 (Kd.R_lt (by (with_reducible repeat (first | apply Kd.R_alloc | apply Kd.R_drewN | apply Kd.R_drew)); exact HO243.out))) (below_size (by repeat (first | (with_reducible first | exact HB.out | apply below_alloc | apply pw_below_drewN | apply below_drew1) | exact HB.out)))); have n2_ := Aside0.mk (below_step (by repeat (first | (with_reducible first | exact HB.out | apply below_alloc | apply pw_below_drewN | apply below_drew1) | exact HB.out)) hb); clear HO243; clear HB; have HO243 := n0_; have HO248 := n1_; have HB := n2_; clear n0_ n1_ n2_; (try clear hb); (try clear hb2); (try clear hk); (try clear hi); (try clear ho0)) | ((with_reducible refine gate_callee (f := 11) rfl ?_); refine goesL_ (some 46) rfl rfl Tryd.func11 (by kernel_rfl) rfl #[.string ((a0 ++ (⟨#[10]⟩ : ByteArray)) ++ a1)] rfl (by (try simp only [List.map_toArray, List.map_cons, List.map_nil]); first | done | rfl | (simp only [List.length_drop, List.length_take]; rfl)) ?_; (with_reducible refine (lexer_Lex.calls kj4 ((a0 ++ (⟨#[10]⟩ : ByteArray)) ++ a1) t249 t250 t251 _ A13.out).mono ?_); rintro e w62 ⟨v252, rfl, ho0, hb⟩; refine ⟨_, rfl, ?_⟩; have n0_ := Aside0.mk (Kd.R_elder' (by (with_reducible repeat (first | apply Kd.R_alloc | apply Kd.R_drewN | apply Kd.R_drew)); exact HO243.out) (Kd.R_base ho0) hb); have n1_ := Aside0.mk (Kd.R_elder' (by (with_reducible repeat (first | apply Kd.R_alloc | apply Kd.R_drewN | apply Kd.R_drew)); exact HO248.out) (Kd.R_base ho0) hb); have n2_ := Aside0.mk (Kd.R_lower (Kd.R_new' (Kd.R_new' ho0 (Kd.R_lt (by (with_reducible repeat (first | apply Kd.R_alloc | apply Kd.R_drewN | apply Kd.R_drew)); exact HO243.out))) (Kd.R_lt (by (with_reducible repeat (first | apply Kd.R_alloc | apply Kd.R_drewN | apply Kd.R_drew)); exact HO248.out))) (below_size (by repeat (first | (with_reducible first | exact HB.out | apply below_alloc | apply pw_below_drewN | apply below_drew1) | exact HB.out)))); have n3_ := Aside0.mk (below_step (by repeat (first | (with_reducible first | exact HB.out | apply below_alloc | apply pw_below_drewN | apply below_drew1) | exact HB.out)) hb); clear HO243; clear HO248; clear HB; have HO243 := n0_; have HO248 := n1_; have HO253 := n2_; have HB := n3_; clear n0_ n1_ n2_ n3_; (try clear hb); (try clear hb2); (try clear hk); (try clear hi); (try clear ho0)))
                    go_ret
                    exact ⟨by first | rfl | (simp [errW_none, errW_some] <;> rfl) | (simp [*, errW_none, errW_some] <;> rfl), by repeat (first | (with_reducible first | exact HB.out | apply below_alloc | apply pw_below_drewN | apply below_drew1) | exact HB.out)⟩
                · rw [if_neg c54] at H
                  have c54b0 : (t251 == t241) = false := beq_eq_false_iff_ne.mpr c54
                  have c54b1 : (t251 != t241) = true := bne_iff_ne.mpr c54
                  obtain rfl := Option.some.inj H
                  go_wp2_with (first | ((with_reducible refine gate_callee (f := 11) rfl ?_); refine goesL_ (some 31) rfl rfl Tryd.func11 (by kernel_rfl) rfl #[.string a0] rfl (by (try simp only [List.map_toArray, List.map_cons, List.map_nil]); first | done | rfl | (simp only [List.length_drop, List.length_take]; rfl)) ?_; (with_reducible refine (lexer_Lex.calls kj4 a0 t239 t240 t241 _ A9.out).mono ?_); rintro e w63 ⟨v242, rfl, ho0, hb⟩; refine ⟨_, rfl, ?_⟩; have n0_ := Aside0.mk (Kd.R_lower ho0 (below_size (by repeat (first | (with_reducible first | exact HB.out | apply below_alloc | apply pw_below_drewN | apply below_drew1) | exact HB.out)))); have n1_ := Aside0.mk (below_step (by repeat (first | (with_reducible first | exact HB.out | apply below_alloc | apply pw_below_drewN | apply below_drew1) | exact HB.out)) hb); clear HB; have HO243 := n0_; have HB := n1_; clear n0_ n1_; (try clear hb); (try clear hb2); (try clear hk); (try clear hi); (try clear ho0)) | ((with_reducible refine gate_callee (f := 11) rfl ?_); refine goesL_ (some 37) rfl rfl Tryd.func11 (by kernel_rfl) rfl #[.string a1] rfl (by (try simp only [List.map_toArray, List.map_cons, List.map_nil]); first | done | rfl | (simp only [List.length_drop, List.length_take]; rfl)) ?_; (with_reducible refine (lexer_Lex.calls kj4 a1 t244 t245 t246 _ A10.out).mono ?_); rintro e w64 ⟨v247, rfl, ho0, hb⟩; refine ⟨_, rfl, ?_⟩; have n0_ := Aside0.mk (Kd.R_elder' (by (with_reducible repeat (first | apply Kd.R_alloc | apply Kd.R_drewN | apply Kd.R_drew)); exact HO243.out) (Kd.R_base ho0) hb); have n1_ := Aside0.mk (Kd.R_lower (Kd.R_new' ho0 (Kd.R_lt (by (with_reducible repeat (first | apply Kd.R_alloc | apply Kd.R_drewN | apply Kd.R_drew)); exact HO243.out))) (below_size (by repeat (first | (with_reducible first | exact HB.out | apply below_alloc | apply pw_below_drewN | apply below_drew1) | exact HB.out)))); have n2_ := Aside0.mk (below_step (by repeat (first | (with_reducible first | exact HB.out | apply below_alloc | apply pw_below_drewN | apply below_drew1) | exact HB.out)) hb); clear HO243; clear HB; have HO243 := n0_; have HO248 := n1_; have HB := n2_; clear n0_ n1_ n2_; (try clear hb); (try clear hb2); (try clear hk); (try clear hi); (try clear ho0)) | ((with_reducible refine gate_callee (f := 11) rfl ?_); refine goesL_ (some 46) rfl rfl Tryd.func11 (by kernel_rfl) rfl #[.string ((a0 ++ (⟨#[10]⟩ : ByteArray)) ++ a1)] rfl (by (try simp only [List.map_toArray, List.map_cons, List.map_nil]); first | done | rfl | (simp only [List.length_drop, List.length_take]; rfl)) ?_; (with_reducible refine (lexer_Lex.calls kj4 ((a0 ++ (⟨#[10]⟩ : ByteArray)) ++ a1) t249 t250 t251 _ A13.out).mono ?_); rintro e w65 ⟨v252, rfl, ho0, hb⟩; refine ⟨_, rfl, ?_⟩; have n0_ := Aside0.mk (Kd.R_elder' (by (with_reducible repeat (first | apply Kd.R_alloc | apply Kd.R_drewN | apply Kd.R_drew)); exact HO243.out) (Kd.R_base ho0) hb); have n1_ := Aside0.mk (Kd.R_elder' (by (with_reducible repeat (first | apply Kd.R_alloc | apply Kd.R_drewN | apply Kd.R_drew)); exact HO248.out) (Kd.R_base ho0) hb); have n2_ := Aside0.mk (Kd.R_lower (Kd.R_new' (Kd.R_new' ho0 (Kd.R_lt (by (with_reducible repeat (first | apply Kd.R_alloc | apply Kd.R_drewN | apply Kd.R_drew)); exact HO243.out))) (Kd.R_lt (by (with_reducible repeat (first | apply Kd.R_alloc | apply Kd.R_drewN | apply Kd.R_drew)); exact HO248.out))) (below_size (by repeat (first | (with_reducible first | exact HB.out | apply below_alloc | apply pw_below_drewN | apply below_drew1) | exact HB.out)))); have n3_ := Aside0.mk (below_step (by repeat (first | (with_reducible first | exact HB.out | apply below_alloc | apply pw_below_drewN | apply below_drew1) | exact HB.out)) hb); clear HO243; clear HO248; clear HB; have HO243 := n0_; have HO248 := n1_; have HO253 := n2_; have HB := n3_; clear n0_ n1_ n2_ n3_; (try clear hb); (try clear hb2); (try clear hk); (try clear hi); (try clear ho0)))
                  go_ret
                  exact ⟨by first | rfl | (simp [errW_none, errW_some] <;> rfl) | (simp [*, errW_none, errW_some] <;> rfl), by repeat (first | (with_reducible first | exact HB.out | apply below_alloc | apply pw_below_drewN | apply below_drew1) | exact HB.out)⟩
            · rw [if_neg c12] at H
              exact absurd H (by simp)
          · rw [if_neg c11] at H
            exact absurd H (by simp)
  · replace c4 := Bool.eq_false_iff.mpr c4
    subst c4
    have H1 : (some false) = some r := by rw [if_neg (show ¬ (false = true) by decide)] at H; exact H
    clear H
    have H := H1
    clear H1
    obtain rfl := Option.some.inj H
    go_enter Tryd.func8, Tryd.ntmps8
    go_wp2_with (first | ((with_reducible refine gate_callee (f := 10) rfl ?_); refine goesL_ (some 19) rfl rfl Tryd.func10 (by kernel_rfl) rfl #[] rfl (by (try simp only [List.map_toArray, List.map_cons, List.map_nil]); first | done | rfl | (simp only [List.length_drop, List.length_take]; rfl)) ?_; (with_reducible refine (culetlaw13_awake.calls k  false _ A3.out).mono ?_); rintro e w66 ⟨rfl, hb⟩; refine ⟨_, rfl, ?_⟩; have n0_ := Aside0.mk (below_step (by repeat (first | (with_reducible first | exact HB.out | apply below_alloc | apply pw_below_drewN | apply below_drew1) | exact HB.out)) hb); clear HB; have HB := n0_; clear n0_; (try clear hb); (try clear hb2); (try clear hk); (try clear hi)))
    go_ret
    exact ⟨by first | rfl | (simp [errW_none, errW_some] <;> rfl) | (simp [*, errW_none, errW_some] <;> rfl), by repeat (first | (with_reducible first | exact HB.out | apply below_alloc | apply pw_below_drewN | apply below_drew1) | exact HB.out)⟩

/-- THE ONE PURE STATEMENT of culetlaw13_LexerParts: yours. -/
def culetlaw13_LexerParts.Pure : Prop := ∀ (a0 : ByteArray) (a1 : ByteArray), a0.size ≤ 140737488351232 → a1.size ≤ 140737488351232 → ∃ k, culetlaw13_LexerParts.f k a0 a1 = some true
theorem culetlaw13_LexerParts.walk (P : culetlaw13_LexerParts.Pure) (a0 : ByteArray) (a1 : ByteArray) (w : World) (w0 : a0.size ≤ 140737488351232) (w1 : a1.size ≤ 140737488351232) :
    Calls Tryd.prog 8 #[.string a0, .string a1] w fun e w' => e = .returned (.bool true) ∧ Below w.heap.size w w' := by
  obtain ⟨k, h⟩ := P a0 a1 w0 w1
  refine (culetlaw13_LexerParts.calls k a0 a1 true w h).mono ?_
  rintro e w' ⟨rfl, hd⟩
  exact ⟨rfl, hd⟩

end Go.Proofs.YthjmbagkomnpgaaDoor.L
