-- Written by this session's own programs; what the law does not lean on is left out. Lean checks it.
import Derived.Test.YthjmbagkomnpgaaDoorJS
namespace Go.Proofs.YthjmbagkomnpgaaDoor.L
open Go.RowKit Go.Proofs.YthjmbagkomnpgaaDoorW.PrintWords Go.Proofs.YthjmbagkomnpgaaDoorW.PrintLast Go.Proofs.YthjmbagkomnpgaaDoorW.PrintMore
set_option linter.unusedVariables false
set_option linter.unusedSimpArgs false

def lexer_token.j0 : Nat → ByteArray → Int → Bool → Option (Int × Int)
 | 0, _, _, _ => none
 | k + 1, x0, x5, x28 => if x28 = true then (some (5, 1)) else (if x5 = 34 then (if 1 ≤ (x0.size : Int) then ((strings_IndexAny.f (x0.extract 1 x0.size) (⟨#[34, 10]⟩ : ByteArray)).bind fun t116 => (if t116 < 0 then (some (0, 0)) else (if 0 ≤ (wrap64 (1 + t116)) then (if (wrap64 (1 + t116)) < (x0.size : Int) then (if (bt x0 (wrap64 (1 + t116))) = 34 then (if t116 > 2000 then (some (0, 0)) else (some (4, wrap64 (t116 + 2)))) else (some (0, 0))) else (none)) else (none)))) else (none)) else ((strings_TrimPrefix.f x0 (⟨#[45]⟩ : ByteArray)).bind fun t117 => (if 0 ≤ (wrap64 ((x0.size : Int) - (t117.size : Int))) then (if (wrap64 ((x0.size : Int) - (t117.size : Int))) ≤ (x0.size : Int) then ((lexer_run_digit.f k (x0.extract ((wrap64 ((x0.size : Int) - (t117.size : Int))) : Int).toNat x0.size)).bind fun t118 => (if 0 ≤ (wrap64 ((wrap64 ((x0.size : Int) - (t117.size : Int))) + t118)) then (if (wrap64 ((wrap64 ((x0.size : Int) - (t117.size : Int))) + t118)) ≤ (x0.size : Int) then ((lexer_Value.f k (x0.extract 0 ((wrap64 ((wrap64 ((x0.size : Int) - (t117.size : Int))) + t118)) : Int).toNat)).bind fun bt119 => (if bt119.2 = true then (some (3, wrap64 ((wrap64 ((x0.size : Int) - (t117.size : Int))) + t118))) else (some (0, 0)))) else (none)) else (none))) else (none)) else (none))))
def lexer_token.f (k : Nat) (a0 : ByteArray) : Option (Int × Int) := (lexer_word.f k a0).bind fun t113 => (if t113 > 0 then (if 0 ≤ t113 then (if t113 ≤ (a0.size : Int) then ((lexer_Reserved.f (a0.extract 0 (t113 : Int).toNat)).bind fun t114 => (if t114 = true then (some (2, t113)) else ((lexer_IsName.f k (a0.extract 0 (t113 : Int).toNat)).bind fun t115 => (if t115 = true then (some (1, t113)) else (some (0, 0)))))) else (none)) else (none)) else (if 0 < (a0.size : Int) then (if (bt a0 0) = 47 then (lexer_token.j0 k a0 (bt a0 0) true) else (if (bt a0 0) = 44 then (lexer_token.j0 k a0 (bt a0 0) true) else (lexer_token.j0 k a0 (bt a0 0) ((bt a0 0) == 58)))) else (none)))
set_option maxHeartbeats 8000000 in
set_option maxRecDepth 100000 in
theorem lexer_token.calls (k : Nat) (a0 : ByteArray) (r1 : Int) (r2 : Int) (w : World) (h : lexer_token.f k a0 = some (r1, r2)) :
  Calls Tryd.prog 31 #[.string a0] w fun e w' => e = .returned (.tuple #[.int .i64 r1, .int .i64 r2]) ∧ Below w.heap.size w w' := by
 have HB := Aside0.mk (Below.refl w.heap.size w)
 have H : ((lexer_word.f k a0).bind fun t113 => (if t113 > 0 then (if 0 ≤ t113 then (if t113 ≤ (a0.size : Int) then ((lexer_Reserved.f (a0.extract 0 (t113 : Int).toNat)).bind fun t114 => (if t114 = true then (some (2, t113)) else ((lexer_IsName.f k (a0.extract 0 (t113 : Int).toNat)).bind fun t115 => (if t115 = true then (some (1, t113)) else (some (0, 0)))))) else (none)) else (none)) else (if 0 < (a0.size : Int) then (if (bt a0 0) = 47 then (lexer_token.j0 k a0 (bt a0 0) true) else (if (bt a0 0) = 44 then (lexer_token.j0 k a0 (bt a0 0) true) else (lexer_token.j0 k a0 (bt a0 0) ((bt a0 0) == 58)))) else (none)))) = some (r1, r2) := h
 clear h
 replace H := Option.bind_eq_some_iff.mp H
 obtain ⟨t113, A20, H⟩ := H
 replace H : (if t113 > 0 then (if 0 ≤ t113 then (if t113 ≤ (a0.size : Int) then ((lexer_Reserved.f (a0.extract 0 (t113 : Int).toNat)).bind fun t114 => (if t114 = true then (some (2, t113)) else ((lexer_IsName.f k (a0.extract 0 (t113 : Int).toNat)).bind fun t115 => (if t115 = true then (some (1, t113)) else (some (0, 0)))))) else (none)) else (none)) else (if 0 < (a0.size : Int) then (if (bt a0 0) = 47 then (lexer_token.j0 k a0 (bt a0 0) true) else (if (bt a0 0) = 44 then (lexer_token.j0 k a0 (bt a0 0) true) else (lexer_token.j0 k a0 (bt a0 0) ((bt a0 0) == 58)))) else (none))) = some (r1, r2) := H
 have A2 := Aside0.mk A20
 clear A20
 by_cases c3 : t113 > 0
 ·
  rw [if_pos c3] at H
  have c3b0 : decide (0 < t113) = true := decide_eq_true c3
  clear c3
  by_cases c4 : 0 ≤ t113
  ·
   rw [if_pos c4] at H
   have c4b0 := eq_true c4
   have c4b1 : decide (0 ≤ t113) = true := decide_eq_true c4
   clear c4
   by_cases c5 : t113 ≤ (a0.size : Int)
   ·
    rw [if_pos c5] at H
    have c5b0 := eq_true c5
    have c5b1 : decide (t113 ≤ (a0.size : Int)) = true := decide_eq_true c5
    clear c5
    replace H := Option.bind_eq_some_iff.mp H
    obtain ⟨t114, A60, H⟩ := H
    replace H : (if t114 = true then (some (2, t113)) else ((lexer_IsName.f k (a0.extract 0 (t113 : Int).toNat)).bind fun t115 => (if t115 = true then (some (1, t113)) else (some (0, 0))))) = some (r1, r2) := H
    have A6 := Aside0.mk A60
    clear A60
    by_cases c7 : t114 = true
    ·
     subst c7
     have H1 : (some (2, t113)) = some (r1, r2) := by rw [if_pos rfl] at H; exact H
     clear H
     have H := H1
     clear H1
     simp only [Option.some.injEq, Prod.mk.injEq] at H
     obtain ⟨rfl, rfl⟩ := H
     go_enter Tryd.func31, Tryd.ntmps31
     go_wp2_with (first | ((with_reducible refine gate_callee (f := 37) rfl ?_); refine goesL_ (some 11) rfl rfl Tryd.func37 (by kernel_rfl) rfl #[.string a0] rfl (by (try simp only [List.map_toArray, List.map_cons, List.map_nil]); first | done | rfl | (simp only [List.length_drop, List.length_take]; rfl)) ?_; (with_reducible refine (lexer_word.calls k a0 t113 _ A2.out).mono ?_); rintro e w' ⟨rfl, ⟨nd, rfl⟩⟩; refine ⟨_, rfl, ?_⟩) | ((with_reducible refine gate_callee (f := 17) rfl ?_); refine goesL_ (some 18) rfl rfl Tryd.func17 (by kernel_rfl) rfl #[.string (a0.extract 0 (t113 : Int).toNat)] rfl (by (try simp only [List.map_toArray, List.map_cons, List.map_nil]); first | done | rfl | (simp only [List.length_drop, List.length_take]; rfl)) ?_; (with_reducible refine (lexer_Reserved.calls (a0.extract 0 (t113 : Int).toNat) true _ A6.out).mono ?_); rintro e w' ⟨rfl, ⟨nd, rfl⟩⟩; refine ⟨_, rfl, ?_⟩))
     go_ret2
     exact ⟨by first | rfl | (simp [errW_none, errW_some] <;> rfl) | (simp [*, errW_none, errW_some] <;> rfl), by repeat (first | (with_reducible first | exact HB.out | apply below_alloc | apply pw_below_drewN | apply below_drew1) | exact HB.out)⟩
    ·
     replace c7 := Bool.eq_false_iff.mpr c7
     subst c7
     have H1 : ((lexer_IsName.f k (a0.extract 0 (t113 : Int).toNat)).bind fun t115 => (if t115 = true then (some (1, t113)) else (some (0, 0)))) = some (r1, r2) := by rw [if_neg (show ¬ (false = true) by decide)] at H; exact H
     clear H
     have H := H1
     clear H1
     have c8b0 := eq_true (of_decide_eq_true (by first | (with_reducible assumption) | assumption) : 0 ≤ t113)
     have c9b0 := eq_true (of_decide_eq_true (by first | (with_reducible assumption) | assumption) : t113 ≤ (a0.size : Int))
     replace H := Option.bind_eq_some_iff.mp H
     obtain ⟨t115, A100, H⟩ := H
     replace H : (if t115 = true then (some (1, t113)) else (some (0, 0))) = some (r1, r2) := H
     have A10 := Aside0.mk A100
     clear A100
     by_cases c11 : t115 = true
     ·
      subst c11
      have H1 : (some (1, t113)) = some (r1, r2) := by rw [if_pos rfl] at H; exact H
      clear H
      have H := H1
      clear H1
      simp only [Option.some.injEq, Prod.mk.injEq] at H
      obtain ⟨rfl, rfl⟩ := H
      go_enter Tryd.func31, Tryd.ntmps31
      go_wp2_with (first | ((with_reducible refine gate_callee (f := 37) rfl ?_); refine goesL_ (some 11) rfl rfl Tryd.func37 (by kernel_rfl) rfl #[.string a0] rfl (by (try simp only [List.map_toArray, List.map_cons, List.map_nil]); first | done | rfl | (simp only [List.length_drop, List.length_take]; rfl)) ?_; (with_reducible refine (lexer_word.calls k a0 t113 _ A2.out).mono ?_); rintro e w' ⟨rfl, ⟨nd, rfl⟩⟩; refine ⟨_, rfl, ?_⟩) | ((with_reducible refine gate_callee (f := 17) rfl ?_); refine goesL_ (some 18) rfl rfl Tryd.func17 (by kernel_rfl) rfl #[.string (a0.extract 0 (t113 : Int).toNat)] rfl (by (try simp only [List.map_toArray, List.map_cons, List.map_nil]); first | done | rfl | (simp only [List.length_drop, List.length_take]; rfl)) ?_; (with_reducible refine (lexer_Reserved.calls (a0.extract 0 (t113 : Int).toNat) false _ A6.out).mono ?_); rintro e w' ⟨rfl, ⟨nd, rfl⟩⟩; refine ⟨_, rfl, ?_⟩) | ((with_reducible refine gate_callee (f := 19) rfl ?_); refine goesL_ (some 24) rfl rfl Tryd.func19 (by kernel_rfl) rfl #[.string (a0.extract 0 (t113 : Int).toNat)] rfl (by (try simp only [List.map_toArray, List.map_cons, List.map_nil]); first | done | rfl | (simp only [List.length_drop, List.length_take]; rfl)) ?_; (with_reducible refine (lexer_IsName.calls k (a0.extract 0 (t113 : Int).toNat) true _ A10.out).mono ?_); rintro e w' ⟨rfl, ⟨nd, rfl⟩⟩; refine ⟨_, rfl, ?_⟩))
      go_ret2
      exact ⟨by first | rfl | (simp [errW_none, errW_some] <;> rfl) | (simp [*, errW_none, errW_some] <;> rfl), by repeat (first | (with_reducible first | exact HB.out | apply below_alloc | apply pw_below_drewN | apply below_drew1) | exact HB.out)⟩
     ·
      replace c11 := Bool.eq_false_iff.mpr c11
      subst c11
      have H1 : (some (0, 0)) = some (r1, r2) := by rw [if_neg (show ¬ (false = true) by decide)] at H; exact H
      clear H
      have H := H1
      clear H1
      simp only [Option.some.injEq, Prod.mk.injEq] at H
      obtain ⟨rfl, rfl⟩ := H
      go_enter Tryd.func31, Tryd.ntmps31
      go_wp2_with (first | ((with_reducible refine gate_callee (f := 37) rfl ?_); refine goesL_ (some 11) rfl rfl Tryd.func37 (by kernel_rfl) rfl #[.string a0] rfl (by (try simp only [List.map_toArray, List.map_cons, List.map_nil]); first | done | rfl | (simp only [List.length_drop, List.length_take]; rfl)) ?_; (with_reducible refine (lexer_word.calls k a0 t113 _ A2.out).mono ?_); rintro e w' ⟨rfl, ⟨nd, rfl⟩⟩; refine ⟨_, rfl, ?_⟩) | ((with_reducible refine gate_callee (f := 17) rfl ?_); refine goesL_ (some 18) rfl rfl Tryd.func17 (by kernel_rfl) rfl #[.string (a0.extract 0 (t113 : Int).toNat)] rfl (by (try simp only [List.map_toArray, List.map_cons, List.map_nil]); first | done | rfl | (simp only [List.length_drop, List.length_take]; rfl)) ?_; (with_reducible refine (lexer_Reserved.calls (a0.extract 0 (t113 : Int).toNat) false _ A6.out).mono ?_); rintro e w' ⟨rfl, ⟨nd, rfl⟩⟩; refine ⟨_, rfl, ?_⟩) | ((with_reducible refine gate_callee (f := 19) rfl ?_); refine goesL_ (some 24) rfl rfl Tryd.func19 (by kernel_rfl) rfl #[.string (a0.extract 0 (t113 : Int).toNat)] rfl (by (try simp only [List.map_toArray, List.map_cons, List.map_nil]); first | done | rfl | (simp only [List.length_drop, List.length_take]; rfl)) ?_; (with_reducible refine (lexer_IsName.calls k (a0.extract 0 (t113 : Int).toNat) false _ A10.out).mono ?_); rintro e w' ⟨rfl, ⟨nd, rfl⟩⟩; refine ⟨_, rfl, ?_⟩))
      go_ret2
      exact ⟨by first | rfl | (simp [errW_none, errW_some] <;> rfl) | (simp [*, errW_none, errW_some] <;> rfl), by repeat (first | (with_reducible first | exact HB.out | apply below_alloc | apply pw_below_drewN | apply below_drew1) | exact HB.out)⟩
   ·
    rw [if_neg c5] at H
    exact absurd H (by simp)
  ·
   rw [if_neg c4] at H
   exact absurd H (by simp)
 ·
  rw [if_neg c3] at H
  have c3b0 : decide (0 < t113) = false := decide_eq_false c3
  clear c3
  by_cases c12 : 0 < (a0.size : Int)
  ·
   rw [if_pos c12] at H
   have c12b0 : decide (0 < (a0.size : Int)) = true := decide_eq_true c12
   have c12b1 : decide (0 < a0.size) = true := decide_eq_true (by omega)
   clear c12
   have HC14 := Aside0.mk H
   clear H
   go_enter Tryd.func31, Tryd.ntmps31
   go_upto_region 9 with (first | ((with_reducible refine gate_callee (f := 37) rfl ?_); refine goesL_ (some 11) rfl rfl Tryd.func37 (by kernel_rfl) rfl #[.string a0] rfl (by (try simp only [List.map_toArray, List.map_cons, List.map_nil]); first | done | rfl | (simp only [List.length_drop, List.length_take]; rfl)) ?_; (with_reducible refine (lexer_word.calls k a0 t113 _ A2.out).mono ?_); rintro e w' ⟨rfl, ⟨nd, rfl⟩⟩; refine ⟨_, rfl, ?_⟩; have p13 : 0 ≤ (0 : Int) := (by omega); have q13 : 0 < a0.size := (by have : (0 : Int) < (a0.size : Int) := of_decide_eq_true (by first | (with_reducible assumption) | assumption); omega); have hx13 : ∀ h : 0 < a0.size, ((a0[0]'h).toNat : Int) = bt a0 0 := bt_at a0 0; clear p13; have qi13 : (0 < (a0.size : Int)) = True := eq_true (of_decide_eq_true (by first | (with_reducible assumption) | assumption)); replace q13 := eq_true q13))
   (try simp only [Act.put, List.setIfInBounds_toArray, List.set_cons_zero, List.set_cons_succ])
   go_cut [28] (fun v28 wc => ∃ (kq : Nat) (x28_13 : Bool), v28 = .bool x28_13 ∧ Aside0 (lexer_token.j0 kq a0 (bt a0 0) x28_13 = some (r1, r2)) ∧ Aside0 (kq ≤ k) ∧ Aside0 (Below w.heap.size w wc))
   case first =>
    have H := HC14.out
    clear HC14
    by_cases c15 : (bt a0 0) = 47
    ·
     rw [if_pos c15] at H
     have c15b0 : ((bt a0 0) == 47) = true := beq_iff_eq.mpr c15
     have c15b1 : ((bt a0 0) != 47) = false := bne_eq_false_iff_eq.mpr c15
     clear c15
     (first | rw [c15b0] | (simp only [i64_w, i32_w]; rw [c15b0]) | skip)
     have H' := Aside0.mk H
     clear H
     go_wp2
     go_meet
     case rel => exact ⟨_, (true), (by first | rfl | (simp; done) | (simp [*]; done)), H', ⟨by first | omega | exact Nat.le_refl _⟩, ⟨by repeat (first | (with_reducible first | exact HB.out | apply below_alloc | apply pw_below_drewN | apply below_drew1) | exact HB.out)⟩⟩
    ·
     rw [if_neg c15] at H
     have c15b0 : ((bt a0 0) == 47) = false := beq_eq_false_iff_ne.mpr c15
     have c15b1 : ((bt a0 0) != 47) = true := bne_iff_ne.mpr c15
     (first | rw [c15b0] | (simp only [i64_w, i32_w]; rw [c15b0]) | skip)
     by_cases c16 : (bt a0 0) = 44
     ·
      rw [if_pos c16] at H
      have c16b0 : ((bt a0 0) == 44) = true := beq_iff_eq.mpr c16
      have c16b1 : ((bt a0 0) != 44) = false := bne_eq_false_iff_eq.mpr c16
      clear c16
      have H' := Aside0.mk H
      clear H
      go_wp2
      go_meet
      case rel => exact ⟨_, (true), (by first | rfl | (simp; done) | (simp [*]; done)), H', ⟨by first | omega | exact Nat.le_refl _⟩, ⟨by repeat (first | (with_reducible first | exact HB.out | apply below_alloc | apply pw_below_drewN | apply below_drew1) | exact HB.out)⟩⟩
     ·
      rw [if_neg c16] at H
      have c16b0 : ((bt a0 0) == 44) = false := beq_eq_false_iff_ne.mpr c16
      have c16b1 : ((bt a0 0) != 44) = true := bne_iff_ne.mpr c16
      have H' := Aside0.mk H
      clear H
      go_wp2
      go_meet
      case rel => exact ⟨_, (((bt a0 0) == 58)), (by first | rfl | (simp; done) | (simp [*]; done)), H', ⟨by first | omega | exact Nat.le_refl _⟩, ⟨by repeat (first | (with_reducible first | exact HB.out | apply below_alloc | apply pw_below_drewN | apply below_drew1) | exact HB.out)⟩⟩
   case rest =>
    clear HC14
    try clear c1
    try clear p1
    try clear q1
    try clear hx1
    try clear qi1
    try clear p2
    try clear c3
    try clear c3b0
    try clear c4
    try clear c4b0
    try clear c4b1
    try clear c5
    try clear c5b0
    try clear c5b1
    try clear c7
    try clear c8
    try clear c8b0
    try clear c9
    try clear c9b0
    try clear c11
    try clear c12
    try clear c12b0
    try clear c12b1
    try clear p13
    try clear q13
    try clear hx13
    try clear qi13
    try clear c15
    try clear c15b0
    try clear c15b1
    try clear c16
    try clear c16b0
    try clear c16b1
    try clear p13
    try clear q13
    obtain ⟨kq, x28_13, rfl, HA, HJ13, HB⟩ := hcut
    cases kq with
    | zero => exact absurd HA.out (by simp [lexer_token.j0])
    | succ kj13 =>
     have H := HA.out
     clear HA
     simp only [lexer_token.j0] at H
     by_cases c17 : x28_13 = true
     ·
      subst c17
      have H1 : (some (5, 1)) = some (r1, r2) := by rw [if_pos rfl] at H; exact H
      clear H
      have H := H1
      clear H1
      simp only [Option.some.injEq, Prod.mk.injEq] at H
      obtain ⟨rfl, rfl⟩ := H
      go_wp2
      go_ret2
      exact ⟨by first | rfl | (simp [errW_none, errW_some] <;> rfl) | (simp [*, errW_none, errW_some] <;> rfl), by repeat (first | (with_reducible first | exact HB.out | apply below_alloc | apply pw_below_drewN | apply below_drew1) | exact HB.out)⟩
     ·
      replace c17 := Bool.eq_false_iff.mpr c17
      subst c17
      have H1 : (if (bt a0 0) = 34 then (if 1 ≤ (a0.size : Int) then ((strings_IndexAny.f (a0.extract 1 a0.size) (⟨#[34, 10]⟩ : ByteArray)).bind fun t116 => (if t116 < 0 then (some (0, 0)) else (if 0 ≤ (wrap64 (1 + t116)) then (if (wrap64 (1 + t116)) < (a0.size : Int) then (if (bt a0 (wrap64 (1 + t116))) = 34 then (if t116 > 2000 then (some (0, 0)) else (some (4, wrap64 (t116 + 2)))) else (some (0, 0))) else (none)) else (none)))) else (none)) else ((strings_TrimPrefix.f a0 (⟨#[45]⟩ : ByteArray)).bind fun t117 => (if 0 ≤ (wrap64 ((a0.size : Int) - (t117.size : Int))) then (if (wrap64 ((a0.size : Int) - (t117.size : Int))) ≤ (a0.size : Int) then ((lexer_run_digit.f kj13 (a0.extract ((wrap64 ((a0.size : Int) - (t117.size : Int))) : Int).toNat a0.size)).bind fun t118 => (if 0 ≤ (wrap64 ((wrap64 ((a0.size : Int) - (t117.size : Int))) + t118)) then (if (wrap64 ((wrap64 ((a0.size : Int) - (t117.size : Int))) + t118)) ≤ (a0.size : Int) then ((lexer_Value.f kj13 (a0.extract 0 ((wrap64 ((wrap64 ((a0.size : Int) - (t117.size : Int))) + t118)) : Int).toNat)).bind fun bt119 => (if bt119.2 = true then (some (3, wrap64 ((wrap64 ((a0.size : Int) - (t117.size : Int))) + t118))) else (some (0, 0)))) else (none)) else (none))) else (none)) else (none)))) = some (r1, r2) := by rw [if_neg (show ¬ (false = true) by decide)] at H; exact H
      clear H
      have H := H1
      clear H1
      by_cases c18 : (bt a0 0) = 34
      ·
       rw [if_pos c18] at H
       have c18b0 : ((bt a0 0) == 34) = true := beq_iff_eq.mpr c18
       have c18b1 : ((bt a0 0) != 34) = false := bne_eq_false_iff_eq.mpr c18
       clear c18
       by_cases c19 : 1 ≤ (a0.size : Int)
       ·
        rw [if_pos c19] at H
        have c19b0 := eq_true c19
        have c19b1 : decide (1 ≤ (a0.size : Int)) = true := decide_eq_true c19
        clear c19
        replace H := Option.bind_eq_some_iff.mp H
        obtain ⟨t116, A200, H⟩ := H
        replace H : (if t116 < 0 then (some (0, 0)) else (if 0 ≤ (wrap64 (1 + t116)) then (if (wrap64 (1 + t116)) < (a0.size : Int) then (if (bt a0 (wrap64 (1 + t116))) = 34 then (if t116 > 2000 then (some (0, 0)) else (some (4, wrap64 (t116 + 2)))) else (some (0, 0))) else (none)) else (none))) = some (r1, r2) := H
        have A20 := Aside0.mk A200
        clear A200
        by_cases c21 : t116 < 0
        ·
         rw [if_pos c21] at H
         have c21b0 : decide (t116 < 0) = true := decide_eq_true c21
         clear c21
         simp only [Option.some.injEq, Prod.mk.injEq] at H
         obtain ⟨rfl, rfl⟩ := H
         go_wp2_with (first | ((with_reducible refine gate_callee (f := 42) rfl ?_); refine goesL_ (some 44) rfl rfl Tryd.func42 (by kernel_rfl) rfl #[.string (a0.extract 1 a0.size), .string (⟨#[34, 10]⟩ : ByteArray)] rfl (by (try simp only [List.map_toArray, List.map_cons, List.map_nil]); first | done | rfl | (simp only [List.length_drop, List.length_take]; rfl)) ?_; (with_reducible refine (strings_IndexAny.calls (a0.extract 1 a0.size) (⟨#[34, 10]⟩ : ByteArray) t116 _ A20.out).mono ?_); rintro e w22 ⟨rfl, hb⟩; refine ⟨_, rfl, ?_⟩; have n0_ := Aside0.mk (below_step (by repeat (first | (with_reducible first | exact HB.out | apply below_alloc | apply pw_below_drewN | apply below_drew1) | exact HB.out)) hb); clear HB; have HB := n0_; clear n0_; (try clear hb); (try clear hb2); (try clear hk); (try clear hi)))
         go_ret2
         exact ⟨by first | rfl | (simp [errW_none, errW_some] <;> rfl) | (simp [*, errW_none, errW_some] <;> rfl), by repeat (first | (with_reducible first | exact HB.out | apply below_alloc | apply pw_below_drewN | apply below_drew1) | exact HB.out)⟩
        ·
         rw [if_neg c21] at H
         have c21b0 : decide (t116 < 0) = false := decide_eq_false c21
         clear c21
         obtain ⟨ji23, hji23⟩ : ∃ j_ : Int, (wrap64 (1 + t116)) = j_ := ⟨_, rfl⟩
         replace H : (if 0 ≤ (ji23) then (if (ji23) < (a0.size : Int) then (if (bt a0 (ji23)) = 34 then (if t116 > 2000 then (some (0, 0)) else (some (4, wrap64 (t116 + 2)))) else (some (0, 0))) else (none)) else (none)) = some (r1, r2) := by first | (rw [hji23] at H; exact H) | (simp only [hji23] at H ⊢; exact H)
         (try rw [hji23] at A20)
         have hji23w : (IntKind.i64.wrap (1 + t116)) = ji23 := (i64_w _).trans hji23
         by_cases c24 : 0 ≤ (ji23)
         ·
          rw [if_pos c24] at H
          have c24b0 : decide (0 ≤ (ji23)) = true := decide_eq_true c24
          clear c24
          by_cases c25 : (ji23) < (a0.size : Int)
          ·
           rw [if_pos c25] at H
           have c25b0 : decide ((ji23) < (a0.size : Int)) = true := decide_eq_true c25
           clear c25
           by_cases c27 : (bt a0 (ji23)) = 34
           ·
            rw [if_pos c27] at H
            have c27b0 : ((bt a0 (ji23)) == 34) = true := beq_iff_eq.mpr c27
            have c27b1 : ((bt a0 (ji23)) != 34) = false := bne_eq_false_iff_eq.mpr c27
            clear c27
            by_cases c28 : t116 > 2000
            ·
             rw [if_pos c28] at H
             have c28b0 : decide (2000 < t116) = true := decide_eq_true c28
             clear c28
             simp only [Option.some.injEq, Prod.mk.injEq] at H
             obtain ⟨rfl, rfl⟩ := H
             go_wp2_with (first | ((with_reducible refine gate_callee (f := 42) rfl ?_); refine goesL_ (some 44) rfl rfl Tryd.func42 (by kernel_rfl) rfl #[.string (a0.extract 1 a0.size), .string (⟨#[34, 10]⟩ : ByteArray)] rfl (by (try simp only [List.map_toArray, List.map_cons, List.map_nil]); first | done | rfl | (simp only [List.length_drop, List.length_take]; rfl)) ?_; (with_reducible refine (strings_IndexAny.calls (a0.extract 1 a0.size) (⟨#[34, 10]⟩ : ByteArray) t116 _ A20.out).mono ?_); rintro e w29 ⟨rfl, hb⟩; refine ⟨_, rfl, ?_⟩; have n0_ := Aside0.mk (below_step (by repeat (first | (with_reducible first | exact HB.out | apply below_alloc | apply pw_below_drewN | apply below_drew1) | exact HB.out)) hb); clear HB; have HB := n0_; clear n0_; (try clear hb); (try clear hb2); (try clear hk); (try clear hi); have p26 : 0 ≤ ((ji23) : Int) := of_decide_eq_true (by first | (with_reducible assumption) | assumption); have q26 : (ji23) < (a0.size : Int) := of_decide_eq_true (by first | (with_reducible assumption) | assumption); have hx26 := bt_at a0 (ji23); replace p26 := eq_true p26; replace q26 := eq_true q26))
             go_ret2
             exact ⟨by first | rfl | (simp [errW_none, errW_some] <;> rfl) | (simp only [← hji23]; first | rfl | (simp [errW_none, errW_some] <;> rfl)) | (simp [*, errW_none, errW_some] <;> rfl), by repeat (first | (with_reducible first | exact HB.out | apply below_alloc | apply pw_below_drewN | apply below_drew1) | exact HB.out)⟩
            ·
             rw [if_neg c28] at H
             have c28b0 : decide (2000 < t116) = false := decide_eq_false c28
             clear c28
             simp only [Option.some.injEq, Prod.mk.injEq] at H
             obtain ⟨rfl, rfl⟩ := H
             go_wp2_with (first | ((with_reducible refine gate_callee (f := 42) rfl ?_); refine goesL_ (some 44) rfl rfl Tryd.func42 (by kernel_rfl) rfl #[.string (a0.extract 1 a0.size), .string (⟨#[34, 10]⟩ : ByteArray)] rfl (by (try simp only [List.map_toArray, List.map_cons, List.map_nil]); first | done | rfl | (simp only [List.length_drop, List.length_take]; rfl)) ?_; (with_reducible refine (strings_IndexAny.calls (a0.extract 1 a0.size) (⟨#[34, 10]⟩ : ByteArray) t116 _ A20.out).mono ?_); rintro e w30 ⟨rfl, hb⟩; refine ⟨_, rfl, ?_⟩; have n0_ := Aside0.mk (below_step (by repeat (first | (with_reducible first | exact HB.out | apply below_alloc | apply pw_below_drewN | apply below_drew1) | exact HB.out)) hb); clear HB; have HB := n0_; clear n0_; (try clear hb); (try clear hb2); (try clear hk); (try clear hi); have p26 : 0 ≤ ((ji23) : Int) := of_decide_eq_true (by first | (with_reducible assumption) | assumption); have q26 : (ji23) < (a0.size : Int) := of_decide_eq_true (by first | (with_reducible assumption) | assumption); have hx26 := bt_at a0 (ji23); replace p26 := eq_true p26; replace q26 := eq_true q26))
             go_ret2
             exact ⟨by first | rfl | (simp [errW_none, errW_some] <;> rfl) | (simp only [← hji23]; first | rfl | (simp [errW_none, errW_some] <;> rfl)) | (simp [*, errW_none, errW_some] <;> rfl), by repeat (first | (with_reducible first | exact HB.out | apply below_alloc | apply pw_below_drewN | apply below_drew1) | exact HB.out)⟩
           ·
            rw [if_neg c27] at H
            have c27b0 : ((bt a0 (ji23)) == 34) = false := beq_eq_false_iff_ne.mpr c27
            have c27b1 : ((bt a0 (ji23)) != 34) = true := bne_iff_ne.mpr c27
            simp only [Option.some.injEq, Prod.mk.injEq] at H
            obtain ⟨rfl, rfl⟩ := H
            go_wp2_with (first | ((with_reducible refine gate_callee (f := 42) rfl ?_); refine goesL_ (some 44) rfl rfl Tryd.func42 (by kernel_rfl) rfl #[.string (a0.extract 1 a0.size), .string (⟨#[34, 10]⟩ : ByteArray)] rfl (by (try simp only [List.map_toArray, List.map_cons, List.map_nil]); first | done | rfl | (simp only [List.length_drop, List.length_take]; rfl)) ?_; (with_reducible refine (strings_IndexAny.calls (a0.extract 1 a0.size) (⟨#[34, 10]⟩ : ByteArray) t116 _ A20.out).mono ?_); rintro e w31 ⟨rfl, hb⟩; refine ⟨_, rfl, ?_⟩; have n0_ := Aside0.mk (below_step (by repeat (first | (with_reducible first | exact HB.out | apply below_alloc | apply pw_below_drewN | apply below_drew1) | exact HB.out)) hb); clear HB; have HB := n0_; clear n0_; (try clear hb); (try clear hb2); (try clear hk); (try clear hi); have p26 : 0 ≤ ((ji23) : Int) := of_decide_eq_true (by first | (with_reducible assumption) | assumption); have q26 : (ji23) < (a0.size : Int) := of_decide_eq_true (by first | (with_reducible assumption) | assumption); have hx26 := bt_at a0 (ji23); replace p26 := eq_true p26; replace q26 := eq_true q26))
            go_ret2
            exact ⟨by first | rfl | (simp [errW_none, errW_some] <;> rfl) | (simp only [← hji23]; first | rfl | (simp [errW_none, errW_some] <;> rfl)) | (simp [*, errW_none, errW_some] <;> rfl), by repeat (first | (with_reducible first | exact HB.out | apply below_alloc | apply pw_below_drewN | apply below_drew1) | exact HB.out)⟩
          ·
           rw [if_neg c25] at H
           exact absurd H (by simp)
         ·
          rw [if_neg c24] at H
          exact absurd H (by simp)
       ·
        rw [if_neg c19] at H
        exact absurd H (by simp)
      ·
       rw [if_neg c18] at H
       have c18b0 : ((bt a0 0) == 34) = false := beq_eq_false_iff_ne.mpr c18
       have c18b1 : ((bt a0 0) != 34) = true := bne_iff_ne.mpr c18
       replace H := Option.bind_eq_some_iff.mp H
       obtain ⟨t117, A320, H⟩ := H
       replace H : (if 0 ≤ (wrap64 ((a0.size : Int) - (t117.size : Int))) then (if (wrap64 ((a0.size : Int) - (t117.size : Int))) ≤ (a0.size : Int) then ((lexer_run_digit.f kj13 (a0.extract ((wrap64 ((a0.size : Int) - (t117.size : Int))) : Int).toNat a0.size)).bind fun t118 => (if 0 ≤ (wrap64 ((wrap64 ((a0.size : Int) - (t117.size : Int))) + t118)) then (if (wrap64 ((wrap64 ((a0.size : Int) - (t117.size : Int))) + t118)) ≤ (a0.size : Int) then ((lexer_Value.f kj13 (a0.extract 0 ((wrap64 ((wrap64 ((a0.size : Int) - (t117.size : Int))) + t118)) : Int).toNat)).bind fun bt119 => (if bt119.2 = true then (some (3, wrap64 ((wrap64 ((a0.size : Int) - (t117.size : Int))) + t118))) else (some (0, 0)))) else (none)) else (none))) else (none)) else (none)) = some (r1, r2) := H
       have A32 := Aside0.mk A320
       clear A320
       obtain ⟨ji33, hji33⟩ : ∃ j_ : Int, (wrap64 ((a0.size : Int) - (t117.size : Int))) = j_ := ⟨_, rfl⟩
       replace H : (if 0 ≤ (ji33) then (if (ji33) ≤ (a0.size : Int) then ((lexer_run_digit.f kj13 (a0.extract ((ji33) : Int).toNat a0.size)).bind fun t118 => (if 0 ≤ (wrap64 ((ji33) + t118)) then (if (wrap64 ((ji33) + t118)) ≤ (a0.size : Int) then ((lexer_Value.f kj13 (a0.extract 0 ((wrap64 ((ji33) + t118)) : Int).toNat)).bind fun bt119 => (if bt119.2 = true then (some (3, wrap64 ((ji33) + t118))) else (some (0, 0)))) else (none)) else (none))) else (none)) else (none)) = some (r1, r2) := by first | (rw [hji33] at H; exact H) | (simp only [hji33] at H ⊢; exact H)
       (try rw [hji33] at A32)
       have hji33w : (IntKind.i64.wrap ((a0.size : Int) - (t117.size : Int))) = ji33 := (i64_w _).trans hji33
       by_cases c34 : 0 ≤ (ji33)
       ·
        rw [if_pos c34] at H
        have c34b0 := eq_true c34
        have c34b1 : decide (0 ≤ (ji33)) = true := decide_eq_true c34
        clear c34
        by_cases c35 : (ji33) ≤ (a0.size : Int)
        ·
         rw [if_pos c35] at H
         have c35b0 := eq_true c35
         have c35b1 : decide ((ji33) ≤ (a0.size : Int)) = true := decide_eq_true c35
         clear c35
         replace H := Option.bind_eq_some_iff.mp H
         obtain ⟨t118, A360, H⟩ := H
         replace H : (if 0 ≤ (wrap64 ((ji33) + t118)) then (if (wrap64 ((ji33) + t118)) ≤ (a0.size : Int) then ((lexer_Value.f kj13 (a0.extract 0 ((wrap64 ((ji33) + t118)) : Int).toNat)).bind fun bt119 => (if bt119.2 = true then (some (3, wrap64 ((ji33) + t118))) else (some (0, 0)))) else (none)) else (none)) = some (r1, r2) := H
         have A36 := Aside0.mk A360
         clear A360
         obtain ⟨ji37, hji37⟩ : ∃ j_ : Int, (wrap64 ((ji33) + t118)) = j_ := ⟨_, rfl⟩
         replace H : (if 0 ≤ (ji37) then (if (ji37) ≤ (a0.size : Int) then ((lexer_Value.f kj13 (a0.extract 0 ((ji37) : Int).toNat)).bind fun bt119 => (if bt119.2 = true then (some (3, ji37)) else (some (0, 0)))) else (none)) else (none)) = some (r1, r2) := by first | (rw [hji37] at H; exact H) | (simp only [hji37] at H ⊢; exact H)
         (try rw [hji37] at A32)
         (try rw [hji37] at A36)
         have hji37w : (IntKind.i64.wrap ((ji33) + t118)) = ji37 := (i64_w _).trans hji37
         by_cases c38 : 0 ≤ (ji37)
         ·
          rw [if_pos c38] at H
          have c38b0 := eq_true c38
          have c38b1 : decide (0 ≤ (ji37)) = true := decide_eq_true c38
          clear c38
          by_cases c39 : (ji37) ≤ (a0.size : Int)
          ·
           rw [if_pos c39] at H
           have c39b0 := eq_true c39
           have c39b1 : decide ((ji37) ≤ (a0.size : Int)) = true := decide_eq_true c39
           clear c39
           replace H := Option.bind_eq_some_iff.mp H
           obtain ⟨⟨t119, t120⟩, A400, H⟩ := H
           replace H : (if t120 = true then (some (3, ji37)) else (some (0, 0))) = some (r1, r2) := H
           have A40 := Aside0.mk A400
           clear A400
           by_cases c41 : t120 = true
           ·
            subst c41
            have H1 : (some (3, ji37)) = some (r1, r2) := by rw [if_pos rfl] at H; exact H
            clear H
            have H := H1
            clear H1
            simp only [Option.some.injEq, Prod.mk.injEq] at H
            obtain ⟨rfl, rfl⟩ := H
            go_wp2_with (first | ((with_reducible refine gate_callee (f := 33) rfl ?_); refine goesL_ (some 63) rfl rfl Tryd.func33 (by kernel_rfl) rfl #[.string a0, .string (⟨#[45]⟩ : ByteArray)] rfl (by (try simp only [List.map_toArray, List.map_cons, List.map_nil]); first | done | rfl | (simp only [List.length_drop, List.length_take]; rfl)) ?_; (with_reducible refine (strings_TrimPrefix.calls a0 (⟨#[45]⟩ : ByteArray) t117 _ A32.out).mono ?_); rintro e w' ⟨rfl, ⟨nd, rfl⟩⟩; refine ⟨_, rfl, ?_⟩) | ((with_reducible refine gate_callee (f := 29) rfl ?_); refine goesL_ (some 70) rfl rfl Tryd.func29 (by kernel_rfl) rfl #[.string (a0.extract ((ji33) : Int).toNat a0.size), .func (.func 34) #[] #[]] rfl (by (try simp only [List.map_toArray, List.map_cons, List.map_nil]); first | done | (simp only [hji33]; rfl) | rfl | (simp only [List.length_drop, List.length_take]; rfl)) ?_; (with_reducible refine (lexer_run_digit.calls kj13 (a0.extract ((ji33) : Int).toNat a0.size) t118 _ A36.out).mono ?_); rintro e w' ⟨rfl, ⟨nd, rfl⟩⟩; refine ⟨_, rfl, ?_⟩) | ((with_reducible refine gate_callee (f := 15) rfl ?_); refine goesL_ (some 76) rfl rfl Tryd.func15 (by kernel_rfl) rfl #[.string (a0.extract 0 ((ji37) : Int).toNat)] rfl (by (try simp only [List.map_toArray, List.map_cons, List.map_nil]); first | done | (simp only [hji37]; rfl) | rfl | (simp only [List.length_drop, List.length_take]; rfl)) ?_; (with_reducible refine (lexer_Value.calls kj13 (a0.extract 0 ((ji37) : Int).toNat) t119 true _ A40.out).mono ?_); rintro e w42 ⟨rfl, hb⟩; refine ⟨_, rfl, ?_⟩; have n0_ := Aside0.mk (below_step (by repeat (first | (with_reducible first | exact HB.out | apply below_alloc | apply pw_below_drewN | apply below_drew1) | exact HB.out)) hb); clear HB; have HB := n0_; clear n0_; (try clear hb); (try clear hb2); (try clear hk); (try clear hi)))
            go_ret2
            exact ⟨by first | rfl | (simp [errW_none, errW_some] <;> rfl) | (simp only [← hji33, ← hji37]; first | rfl | (simp [errW_none, errW_some] <;> rfl)) | (simp [*, errW_none, errW_some] <;> rfl), by repeat (first | (with_reducible first | exact HB.out | apply below_alloc | apply pw_below_drewN | apply below_drew1) | exact HB.out)⟩
           ·
            replace c41 := Bool.eq_false_iff.mpr c41
            subst c41
            have H1 : (some (0, 0)) = some (r1, r2) := by rw [if_neg (show ¬ (false = true) by decide)] at H; exact H
            clear H
            have H := H1
            clear H1
            simp only [Option.some.injEq, Prod.mk.injEq] at H
            obtain ⟨rfl, rfl⟩ := H
            go_wp2_with (first | ((with_reducible refine gate_callee (f := 33) rfl ?_); refine goesL_ (some 63) rfl rfl Tryd.func33 (by kernel_rfl) rfl #[.string a0, .string (⟨#[45]⟩ : ByteArray)] rfl (by (try simp only [List.map_toArray, List.map_cons, List.map_nil]); first | done | rfl | (simp only [List.length_drop, List.length_take]; rfl)) ?_; (with_reducible refine (strings_TrimPrefix.calls a0 (⟨#[45]⟩ : ByteArray) t117 _ A32.out).mono ?_); rintro e w' ⟨rfl, ⟨nd, rfl⟩⟩; refine ⟨_, rfl, ?_⟩) | ((with_reducible refine gate_callee (f := 29) rfl ?_); refine goesL_ (some 70) rfl rfl Tryd.func29 (by kernel_rfl) rfl #[.string (a0.extract ((ji33) : Int).toNat a0.size), .func (.func 34) #[] #[]] rfl (by (try simp only [List.map_toArray, List.map_cons, List.map_nil]); first | done | (simp only [hji33]; rfl) | rfl | (simp only [List.length_drop, List.length_take]; rfl)) ?_; (with_reducible refine (lexer_run_digit.calls kj13 (a0.extract ((ji33) : Int).toNat a0.size) t118 _ A36.out).mono ?_); rintro e w' ⟨rfl, ⟨nd, rfl⟩⟩; refine ⟨_, rfl, ?_⟩) | ((with_reducible refine gate_callee (f := 15) rfl ?_); refine goesL_ (some 76) rfl rfl Tryd.func15 (by kernel_rfl) rfl #[.string (a0.extract 0 ((ji37) : Int).toNat)] rfl (by (try simp only [List.map_toArray, List.map_cons, List.map_nil]); first | done | (simp only [hji37]; rfl) | rfl | (simp only [List.length_drop, List.length_take]; rfl)) ?_; (with_reducible refine (lexer_Value.calls kj13 (a0.extract 0 ((ji37) : Int).toNat) t119 false _ A40.out).mono ?_); rintro e w43 ⟨rfl, hb⟩; refine ⟨_, rfl, ?_⟩; have n0_ := Aside0.mk (below_step (by repeat (first | (with_reducible first | exact HB.out | apply below_alloc | apply pw_below_drewN | apply below_drew1) | exact HB.out)) hb); clear HB; have HB := n0_; clear n0_; (try clear hb); (try clear hb2); (try clear hk); (try clear hi)))
            go_ret2
            exact ⟨by first | rfl | (simp [errW_none, errW_some] <;> rfl) | (simp only [← hji33, ← hji37]; first | rfl | (simp [errW_none, errW_some] <;> rfl)) | (simp [*, errW_none, errW_some] <;> rfl), by repeat (first | (with_reducible first | exact HB.out | apply below_alloc | apply pw_below_drewN | apply below_drew1) | exact HB.out)⟩
          ·
           rw [if_neg c39] at H
           exact absurd H (by simp)
         ·
          rw [if_neg c38] at H
          exact absurd H (by simp)
        ·
         rw [if_neg c35] at H
         exact absurd H (by simp)
       ·
        rw [if_neg c34] at H
        exact absurd H (by simp)
  ·
   rw [if_neg c12] at H
   exact absurd H (by simp)

end Go.Proofs.YthjmbagkomnpgaaDoor.L
