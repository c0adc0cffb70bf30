-- Written by this session's own programs; what the law does not lean on is left out. Lean checks it.
import Derived.Test.YthjmbagkomnpgaaDoorJS
import Derived.Test.YthjmbagkomnpgaaDoorJLx14
import Derived.Test.YthjmbagkomnpgaaDoorJLx15
namespace Go.Proofs.YthjmbagkomnpgaaDoor.L
open Go.RowKit Go.Proofs.YthjmbagkomnpgaaDoorW.PrintWords Go.Proofs.YthjmbagkomnpgaaDoorW.PrintLast Go.Proofs.YthjmbagkomnpgaaDoorW.PrintMore
set_option linter.unusedVariables false
set_option linter.unusedSimpArgs false
attribute [-simp] ByteArray.size_extract

mutual
def lexer_Lex.l0 : Nat → ByteArray → List (S38) → Int → Int → Option ((List (S38)) × Int × Int)
 | 0, _, _, _, _ => none
 | k + 1, x0, x2, x3, x5 => if x3 < (x0.size : Int) then (if 0 ≤ x3 then (if (bt x0 x3) = 10 then (lexer_Lex.l0 k x0 x2 (wrap64 (x3 + 1)) (wrap64 (x5 + 1))) else (if (bt x0 x3) = 32 then (lexer_Lex.j1 k x0 x2 x3 x5 (bt x0 x3) ((bt x0 x3) == 32)) else (lexer_Lex.j1 k x0 x2 x3 x5 (bt x0 x3) ((bt x0 x3) == 9)))) else (none)) else (some (x2, 0, 0))
def lexer_Lex.j1 : Nat → ByteArray → List (S38) → Int → Int → Int → Bool → Option ((List (S38)) × Int × Int)
 | 0, _, _, _, _, _, _ => none
 | k + 1, x0, x2, x3, x5, x18, x25 => if x25 = true then (lexer_Lex.l0 k x0 x2 (wrap64 (x3 + 1)) x5) else (if x18 = 35 then (if 0 ≤ x3 then (if x3 ≤ (x0.size : Int) then ((lexer_run_note.f k (x0.extract (x3 : Int).toNat x0.size)).bind fun t121 => (lexer_Lex.l0 k x0 x2 (wrap64 (x3 + t121)) x5)) else (none)) else (none)) else (if 0 ≤ x3 then (if x3 ≤ (x0.size : Int) then ((lexer_token.f k (x0.extract (x3 : Int).toNat x0.size)).bind fun bt122 => (if bt122.1 = 0 then (some (([] : List (S38)), x3, 4)) else (if x3 ≤ (wrap64 (x3 + bt122.2)) then (if (wrap64 (x3 + bt122.2)) ≤ (x0.size : Int) then (if bt122.1 = 4 then (if 1 ≤ (wrap64 (bt122.2 - 1)) then (if (wrap64 (bt122.2 - 1)) ≤ ((x0.extract (x3 : Int).toNat ((wrap64 (x3 + bt122.2)) : Int).toNat).size : Int) then (if x2.length < 3518437208883 then (lexer_Lex.l0 k x0 (x2 ++ [(⟨bt122.1, (x0.extract (x3 : Int).toNat ((wrap64 (x3 + bt122.2)) : Int).toNat).extract 1 ((wrap64 (bt122.2 - 1)) : Int).toNat, x5, x3⟩ : S38)]) (wrap64 (x3 + bt122.2)) x5) else (none)) else (none)) else (none)) else (if x2.length < 3518437208883 then (lexer_Lex.l0 k x0 (x2 ++ [(⟨bt122.1, x0.extract (x3 : Int).toNat ((wrap64 (x3 + bt122.2)) : Int).toNat, x5, x3⟩ : S38)]) (wrap64 (x3 + bt122.2)) x5) else (none))) else (none)) else (none)))) else (none)) else (none)))
end
def lexer_Lex.f (k : Nat) (a0 : ByteArray) : Option ((List (S38)) × Int × Int) := if (a0.size : Int) > 20000 then (some (([] : List (S38)), 0, 3)) else (lexer_Lex.l0 k a0 ([] : List (S38)) 0 1)
theorem st9 (W : World) (g : Nat) (v : ByteArray) {old : Value} (hc : W.cell? ⟨g, 1, none⟩ = some old) (hf : W.frozen? ⟨g, 1, none⟩ = false) :
  (do Instr.storeAt 9 (.pointer (some ⟨g, 1, none⟩)) (.string v); pure Next.skip : Sem Next).run Tryd.prog W = .ok .skip (W.setCell ⟨g, 1, none⟩ (.string v)) := by
 have hu := Tryd.underlying9
 go_simp
set_option maxHeartbeats 2000000 in
set_option maxRecDepth 100000 in
theorem lexer_Lex.calls (k : Nat) (a0 : ByteArray) (r1 : List (S38)) (r2 : Int) (r3 : Int) (w : World) (h : lexer_Lex.f k a0 = some (r1, r2, r3)) :
  Calls Tryd.prog 11 #[.string a0] w fun e w' => ∃ v0_ : Value, e = .returned (.tuple #[v0_, .int .i64 r2, .int .i64 r3]) ∧ Kd.R k38 38 w' w.heap.size (fun _ => True) v0_ r1 ∧ Below w.heap.size w w' := by
 have hu38 := Tryd.underlying38
 have HB := Aside0.mk (Below.refl w.heap.size w)
 have H : (if (a0.size : Int) > 20000 then (some (([] : List (S38)), 0, 3)) else (lexer_Lex.l0 k a0 ([] : List (S38)) 0 1)) = some (r1, r2, r3) := h
 clear h
 by_cases c2 : (a0.size : Int) > 20000
 ·
  rw [if_pos c2] at H
  have c2b0 : decide (20000 < (a0.size : Int)) = true := decide_eq_true c2
  have c2b1 : decide (20000 < a0.size) = true := decide_eq_true (by omega)
  clear c2
  simp only [Option.some.injEq, Prod.mk.injEq] at H
  obtain ⟨rfl, rfl, rfl⟩ := H
  go_enter Tryd.func11, Tryd.ntmps11
  go_wp2
  go_step3
  go_wp2
  (try rw [Exit.noGoto_ret])
  go_ret3
  exact ⟨_, by first | rfl | (simp [errW_none, errW_some] <;> rfl) | (simp [*, errW_none, errW_some] <;> rfl), by first | exact Kd.R_nil _ _ _ _ _ | exact Kd.N_nil _ _ _ _ _ | exact Kd.V_nil _ _ _ _ _ | exact Kd.Q_nil _ _ _ _ _ | exact Kd.S_nil _ _ _ _ _, by repeat (first | (with_reducible first | exact HB.out | apply below_alloc | apply pw_below_drewN | apply below_drew1) | exact HB.out)⟩
 ·
  rw [if_neg c2] at H
  have c2b0 : decide (20000 < (a0.size : Int)) = false := decide_eq_false c2
  have c2b1 : decide (20000 < a0.size) = false := decide_eq_false (by omega)
  clear c2
  have H' := Aside0.mk H
  clear H
  go_enter Tryd.func11, Tryd.ntmps11
  go_wp2
  go_step3
  go_wp2
  go_step3
  go_wp2
  go_loopg [2, 3, 5] k (fun kq v2 v3 v5 w' => ∃ (x2_1 : List (S38)) (x3_1 : Int) (x5_1 : Int), v3 = .int .i64 x3_1 ∧ v5 = .int .i64 x5_1 ∧ Aside0 (lexer_Lex.l0 kq a0 x2_1 x3_1 x5_1 = some (r1, r2, r3)) ∧ Aside0 (kq ≤ k) ∧ Aside0 (Kd.R k38 38 w' w.heap.size (fun _ => True) v2 x2_1) ∧ Aside0 (Below w.heap.size w w'))
  case atStart => exact ⟨(([] : List (S38))), (0), (1), (by first | rfl | (simp; done) | (simp [*]; done)), (by first | rfl | (simp; done) | (simp [*]; done)), H', ⟨Nat.le_refl _⟩, ⟨by first | exact Kd.R_nil _ _ _ _ _ | exact Kd.N_nil _ _ _ _ _ | exact Kd.V_nil _ _ _ _ _ | exact Kd.Q_nil _ _ _ _ _ | exact Kd.S_nil _ _ _ _ _⟩, ⟨by repeat (first | (with_reducible first | exact HB.out | apply below_alloc | apply pw_below_drewN | apply below_drew1) | exact HB.out)⟩⟩
  case round =>
   clear H'
   try clear c1
   try clear c2
   try clear c2b0
   try clear c2b1
   try clear p2
   obtain ⟨x2_1, x3_1, x5_1, rfl, rfl, HA, HK1, HO_2, HB⟩ := hrel
   cases gk with
   | zero => exact absurd HA.out (by simp [lexer_Lex.l0])
   | succ k1 =>
    have H := HA.out
    clear HA
    simp only [lexer_Lex.l0] at H
    by_cases c3 : x3_1 < (a0.size : Int)
    ·
     rw [if_pos c3] at H
     have c3b0 : decide (x3_1 < (a0.size : Int)) = true := decide_eq_true c3
     clear c3
     by_cases c4 : 0 ≤ x3_1
     ·
      rw [if_pos c4] at H
      have c4b0 : decide (0 ≤ x3_1) = true := decide_eq_true c4
      clear c4
      by_cases c6 : (bt a0 x3_1) = 10
      ·
       rw [if_pos c6] at H
       have c6b0 : ((bt a0 x3_1) == 10) = true := beq_iff_eq.mpr c6
       have c6b1 : ((bt a0 x3_1) != 10) = false := bne_eq_false_iff_eq.mpr c6
       clear c6
       have H' := Aside0.mk H
       clear H
       have p5 : 0 ≤ (x3_1 : Int) := of_decide_eq_true (by first | (with_reducible assumption) | assumption)
       have q5 : x3_1 < (a0.size : Int) := of_decide_eq_true (by first | (with_reducible assumption) | assumption)
       have hx5 := bt_at a0 x3_1
       replace p5 := eq_true p5
       replace q5 := eq_true q5
       go_wp2
       go_roundg k1
       case measure => have := HK1.out; omega
       case rel => exact ⟨(x2_1), (wrap64 (x3_1 + 1)), (wrap64 (x5_1 + 1)), (by first | rfl | (simp; done) | (simp [*]; done)), (by first | rfl | (simp; done) | (simp [*]; done)), H', ⟨by have := HK1.out; omega⟩, ⟨by (with_reducible repeat (first | apply Kd.R_alloc | apply Kd.R_drewN | apply Kd.R_drew)); exact HO_2.out⟩, ⟨by repeat (first | (with_reducible first | exact HB.out | apply below_alloc | apply pw_below_drewN | apply below_drew1) | exact HB.out)⟩⟩
      ·
       rw [if_neg c6] at H
       have c6b0 : ((bt a0 x3_1) == 10) = false := beq_eq_false_iff_ne.mpr c6
       have c6b1 : ((bt a0 x3_1) != 10) = true := bne_iff_ne.mpr c6
       have HC7 := Aside0.mk H
       clear H
       have p5 : 0 ≤ (x3_1 : Int) := of_decide_eq_true (by first | (with_reducible assumption) | assumption)
       have q5 : x3_1 < (a0.size : Int) := of_decide_eq_true (by first | (with_reducible assumption) | assumption)
       have hx5 := bt_at a0 x3_1
       replace p5 := eq_true p5
       replace q5 := eq_true q5
       go_upto_if 25 with (fail)
       go_cut [25] (fun v25 wc => ∃ (kq : Nat) (x25_6 : Bool), v25 = .bool x25_6 ∧ Aside0 (lexer_Lex.j1 kq a0 x2_1 x3_1 x5_1 (bt a0 x3_1) x25_6 = some (r1, r2, r3)) ∧ Aside0 (kq ≤ k1) ∧ Aside0 (Kd.R k38 38 wc w.heap.size (fun _ => True) u2 x2_1) ∧ Aside0 (Below w.heap.size w wc))
       case first =>
        have H := HC7.out
        clear HC7
        by_cases c8 : (bt a0 x3_1) = 32
        ·
         rw [if_pos c8] at H
         have c8b0 : ((bt a0 x3_1) == 32) = true := beq_iff_eq.mpr c8
         have c8b1 : ((bt a0 x3_1) != 32) = false := bne_eq_false_iff_eq.mpr c8
         clear c8
         (first | rw [c8b0] | (simp only [i64_w, i32_w]; rw [c8b0]) | skip)
         have H' := Aside0.mk H
         clear H
         go_wp2
         go_meet
         case rel => exact ⟨_, (((bt a0 x3_1) == 32)), (by first | rfl | (simp; done) | (simp [*]; done)), H', ⟨by have := HK1.out; first | omega | exact Nat.le_refl _⟩, ⟨by (with_reducible repeat (first | apply Kd.R_alloc | apply Kd.R_drewN | apply Kd.R_drew)); exact HO_2.out⟩, ⟨by repeat (first | (with_reducible first | exact HB.out | apply below_alloc | apply pw_below_drewN | apply below_drew1) | exact HB.out)⟩⟩
        ·
         rw [if_neg c8] at H
         have c8b0 : ((bt a0 x3_1) == 32) = false := beq_eq_false_iff_ne.mpr c8
         have c8b1 : ((bt a0 x3_1) != 32) = true := bne_iff_ne.mpr c8
         (first | rw [c8b0] | (simp only [i64_w, i32_w]; rw [c8b0]) | skip)
         have H' := Aside0.mk H
         clear H
         go_wp2
         go_meet
         case rel => exact ⟨_, (((bt a0 x3_1) == 9)), (by first | rfl | (simp; done) | (simp [*]; done)), H', ⟨by have := HK1.out; first | omega | exact Nat.le_refl _⟩, ⟨by (with_reducible repeat (first | apply Kd.R_alloc | apply Kd.R_drewN | apply Kd.R_drew)); exact HO_2.out⟩, ⟨by repeat (first | (with_reducible first | exact HB.out | apply below_alloc | apply pw_below_drewN | apply below_drew1) | exact HB.out)⟩⟩
       case rest =>
        clear HC7
        try clear c1
        try clear c2
        try clear c2b0
        try clear c2b1
        try clear p2
        try clear c3
        try clear c3b0
        try clear c4
        try clear c4b0
        try clear p5
        try clear q5
        try clear hx5
        try clear c6
        try clear c6b0
        try clear c6b1
        try clear p6
        try clear c8
        try clear c8b0
        try clear c8b1
        try clear p2
        try clear p5
        try clear q5
        obtain ⟨kq, x25_6, rfl, HA, HJ6, HO_2, HB⟩ := hcut
        cases kq with
        | zero => exact absurd HA.out (by simp [lexer_Lex.j1])
        | succ kj6 =>
         have H := HA.out
         clear HA
         simp only [lexer_Lex.j1] at H
         by_cases c9 : x25_6 = true
         ·
          subst c9
          have H1 : (lexer_Lex.l0 kj6 a0 x2_1 (wrap64 (x3_1 + 1)) x5_1) = some (r1, r2, r3) := by rw [if_pos rfl] at H; exact H
          clear H
          have H := H1
          clear H1
          have H' := Aside0.mk H
          clear H
          go_wp2
          go_roundg kj6
          case measure => have := HK1.out; have := HJ6.out; omega
          case rel => exact ⟨(x2_1), (wrap64 (x3_1 + 1)), (x5_1), (by first | rfl | (simp; done) | (simp [*]; done)), (by first | rfl | (simp; done) | (simp [*]; done)), H', ⟨by have := HK1.out; have := HJ6.out; omega⟩, ⟨by (with_reducible repeat (first | apply Kd.R_alloc | apply Kd.R_drewN | apply Kd.R_drew)); exact HO_2.out⟩, ⟨by repeat (first | (with_reducible first | exact HB.out | apply below_alloc | apply pw_below_drewN | apply below_drew1) | exact HB.out)⟩⟩
         ·
          replace c9 := Bool.eq_false_iff.mpr c9
          subst c9
          have H1 : (if (bt a0 x3_1) = 35 then (if 0 ≤ x3_1 then (if x3_1 ≤ (a0.size : Int) then ((lexer_run_note.f kj6 (a0.extract (x3_1 : Int).toNat a0.size)).bind fun t121 => (lexer_Lex.l0 kj6 a0 x2_1 (wrap64 (x3_1 + t121)) x5_1)) else (none)) else (none)) else (if 0 ≤ x3_1 then (if x3_1 ≤ (a0.size : Int) then ((lexer_token.f kj6 (a0.extract (x3_1 : Int).toNat a0.size)).bind fun bt122 => (if bt122.1 = 0 then (some (([] : List (S38)), x3_1, 4)) else (if x3_1 ≤ (wrap64 (x3_1 + bt122.2)) then (if (wrap64 (x3_1 + bt122.2)) ≤ (a0.size : Int) then (if bt122.1 = 4 then (if 1 ≤ (wrap64 (bt122.2 - 1)) then (if (wrap64 (bt122.2 - 1)) ≤ ((a0.extract (x3_1 : Int).toNat ((wrap64 (x3_1 + bt122.2)) : Int).toNat).size : Int) then (if x2_1.length < 3518437208883 then (lexer_Lex.l0 kj6 a0 (x2_1 ++ [(⟨bt122.1, (a0.extract (x3_1 : Int).toNat ((wrap64 (x3_1 + bt122.2)) : Int).toNat).extract 1 ((wrap64 (bt122.2 - 1)) : Int).toNat, x5_1, x3_1⟩ : S38)]) (wrap64 (x3_1 + bt122.2)) x5_1) else (none)) else (none)) else (none)) else (if x2_1.length < 3518437208883 then (lexer_Lex.l0 kj6 a0 (x2_1 ++ [(⟨bt122.1, a0.extract (x3_1 : Int).toNat ((wrap64 (x3_1 + bt122.2)) : Int).toNat, x5_1, x3_1⟩ : S38)]) (wrap64 (x3_1 + bt122.2)) x5_1) else (none))) else (none)) else (none)))) else (none)) else (none))) = some (r1, r2, r3) := by rw [if_neg (show ¬ (false = true) by decide)] at H; exact H
          clear H
          have H := H1
          clear H1
          by_cases c10 : (bt a0 x3_1) = 35
          ·
           rw [if_pos c10] at H
           have c10b0 : ((bt a0 x3_1) == 35) = true := beq_iff_eq.mpr c10
           have c10b1 : ((bt a0 x3_1) != 35) = false := bne_eq_false_iff_eq.mpr c10
           clear c10
           by_cases c11 : 0 ≤ x3_1
           ·
            rw [if_pos c11] at H
            have c11b0 := eq_true c11
            have c11b1 : decide (0 ≤ x3_1) = true := decide_eq_true c11
            clear c11
            by_cases c12 : x3_1 ≤ (a0.size : Int)
            ·
             rw [if_pos c12] at H
             have c12b0 := eq_true c12
             have c12b1 : decide (x3_1 ≤ (a0.size : Int)) = true := decide_eq_true c12
             clear c12
             replace H := Option.bind_eq_some_iff.mp H
             obtain ⟨t121, A130, H⟩ := H
             replace H : (lexer_Lex.l0 kj6 a0 x2_1 (wrap64 (x3_1 + t121)) x5_1) = some (r1, r2, r3) := H
             have A13 := Aside0.mk A130
             clear A130
             have H' := Aside0.mk H
             clear H
             go_wp2_with (first | ((with_reducible refine gate_callee (f := 29) rfl ?_); refine goesL_ (some 36) rfl rfl Tryd.func29 (by kernel_rfl) rfl #[.string (a0.extract (x3_1 : Int).toNat a0.size), .func (.func 30) #[] #[]] rfl (by (try simp only [List.map_toArray, List.map_cons, List.map_nil]); first | done | rfl | (simp only [List.length_drop, List.length_take]; rfl)) ?_; (with_reducible refine (lexer_run_note.calls kj6 (a0.extract (x3_1 : Int).toNat a0.size) t121 _ A13.out).mono ?_); rintro e w' ⟨rfl, ⟨nd, rfl⟩⟩; refine ⟨_, rfl, ?_⟩))
             go_roundg kj6
             case measure => have := HK1.out; have := HJ6.out; omega
             case rel => exact ⟨(x2_1), (wrap64 (x3_1 + t121)), (x5_1), (by first | rfl | (simp; done) | (simp [*]; done)), (by first | rfl | (simp; done) | (simp [*]; done)), H', ⟨by have := HK1.out; have := HJ6.out; omega⟩, ⟨by (with_reducible repeat (first | apply Kd.R_alloc | apply Kd.R_drewN | apply Kd.R_drew)); exact HO_2.out⟩, ⟨by repeat (first | (with_reducible first | exact HB.out | apply below_alloc | apply pw_below_drewN | apply below_drew1) | exact HB.out)⟩⟩
            ·
             rw [if_neg c12] at H
             exact absurd H (by simp)
           ·
            rw [if_neg c11] at H
            exact absurd H (by simp)
          ·
           rw [if_neg c10] at H
           have c10b0 : ((bt a0 x3_1) == 35) = false := beq_eq_false_iff_ne.mpr c10
           have c10b1 : ((bt a0 x3_1) != 35) = true := bne_iff_ne.mpr c10
           by_cases c14 : 0 ≤ x3_1
           ·
            rw [if_pos c14] at H
            have c14b0 := eq_true c14
            have c14b1 : decide (0 ≤ x3_1) = true := decide_eq_true c14
            clear c14
            by_cases c15 : x3_1 ≤ (a0.size : Int)
            ·
             rw [if_pos c15] at H
             have c15b0 := eq_true c15
             have c15b1 : decide (x3_1 ≤ (a0.size : Int)) = true := decide_eq_true c15
             clear c15
             replace H := Option.bind_eq_some_iff.mp H
             obtain ⟨⟨t122, t123⟩, A160, H⟩ := H
             replace H : (if t122 = 0 then (some (([] : List (S38)), x3_1, 4)) else (if x3_1 ≤ (wrap64 (x3_1 + t123)) then (if (wrap64 (x3_1 + t123)) ≤ (a0.size : Int) then (if t122 = 4 then (if 1 ≤ (wrap64 (t123 - 1)) then (if (wrap64 (t123 - 1)) ≤ ((a0.extract (x3_1 : Int).toNat ((wrap64 (x3_1 + t123)) : Int).toNat).size : Int) then (if x2_1.length < 3518437208883 then (lexer_Lex.l0 kj6 a0 (x2_1 ++ [(⟨t122, (a0.extract (x3_1 : Int).toNat ((wrap64 (x3_1 + t123)) : Int).toNat).extract 1 ((wrap64 (t123 - 1)) : Int).toNat, x5_1, x3_1⟩ : S38)]) (wrap64 (x3_1 + t123)) x5_1) else (none)) else (none)) else (none)) else (if x2_1.length < 3518437208883 then (lexer_Lex.l0 kj6 a0 (x2_1 ++ [(⟨t122, a0.extract (x3_1 : Int).toNat ((wrap64 (x3_1 + t123)) : Int).toNat, x5_1, x3_1⟩ : S38)]) (wrap64 (x3_1 + t123)) x5_1) else (none))) else (none)) else (none))) = some (r1, r2, r3) := H
             have A16 := Aside0.mk A160
             clear A160
             by_cases c17 : t122 = 0
             ·
              rw [if_pos c17] at H
              have c17b0 : (t122 == 0) = true := beq_iff_eq.mpr c17
              have c17b1 : (t122 != 0) = false := bne_eq_false_iff_eq.mpr c17
              clear c17
              simp only [Option.some.injEq, Prod.mk.injEq] at H
              obtain ⟨rfl, rfl, rfl⟩ := H
              go_wp2_with (first | ((with_reducible refine gate_callee (f := 31) rfl ?_); refine goesL_ (some 42) rfl rfl Tryd.func31 (by kernel_rfl) rfl #[.string (a0.extract (x3_1 : Int).toNat a0.size)] rfl (by (try simp only [List.map_toArray, List.map_cons, List.map_nil]); first | done | rfl | (simp only [List.length_drop, List.length_take]; rfl)) ?_; (with_reducible refine (lexer_token.calls kj6 (a0.extract (x3_1 : Int).toNat a0.size) t122 t123 _ A16.out).mono ?_); rintro e w18 ⟨rfl, hb⟩; refine ⟨_, rfl, ?_⟩; have n0_ := Aside0.mk (Kd.R_below (by (with_reducible repeat (first | apply Kd.R_alloc | apply Kd.R_drewN | apply Kd.R_drew)); exact HO_2.out) hb); have n1_ := Aside0.mk (below_step (by repeat (first | (with_reducible first | exact HB.out | apply below_alloc | apply pw_below_drewN | apply below_drew1) | exact HB.out)) hb); clear HO_2; clear HB; have HO_2 := n0_; have HB := n1_; clear n0_ n1_; (try clear hb); (try clear hb2); (try clear hk); (try clear hi)))
              (try rw [Exit.noGoto_ret])
              go_ret3
              exact ⟨_, by first | rfl | (simp [errW_none, errW_some] <;> rfl) | (simp [*, errW_none, errW_some] <;> rfl), by first | exact Kd.R_nil _ _ _ _ _ | exact Kd.N_nil _ _ _ _ _ | exact Kd.V_nil _ _ _ _ _ | exact Kd.Q_nil _ _ _ _ _ | exact Kd.S_nil _ _ _ _ _, by repeat (first | (with_reducible first | exact HB.out | apply below_alloc | apply pw_below_drewN | apply below_drew1) | exact HB.out)⟩
             ·
              rw [if_neg c17] at H
              have c17b0 : (t122 == 0) = false := beq_eq_false_iff_ne.mpr c17
              have c17b1 : (t122 != 0) = true := bne_iff_ne.mpr c17
              have c19b0 := eq_true (of_decide_eq_true (by first | (with_reducible assumption) | assumption) : 0 ≤ x3_1)
              by_cases c20 : x3_1 ≤ (wrap64 (x3_1 + t123))
              ·
               rw [if_pos c20] at H
               have c20b0 := eq_true c20
               have c20b1 : decide (x3_1 ≤ (wrap64 (x3_1 + t123))) = true := decide_eq_true c20
               by_cases c21 : (wrap64 (x3_1 + t123)) ≤ (a0.size : Int)
               ·
                rw [if_pos c21] at H
                have c21b0 := eq_true c21
                have c21b1 : decide ((wrap64 (x3_1 + t123)) ≤ (a0.size : Int)) = true := decide_eq_true c21
                by_cases c22 : t122 = 4
                ·
                 rw [if_pos c22] at H
                 have c22b0 : (t122 == 4) = true := beq_iff_eq.mpr c22
                 have c22b1 : (t122 != 4) = false := bne_eq_false_iff_eq.mpr c22
                 clear c22
                 by_cases c23 : 1 ≤ (wrap64 (t123 - 1))
                 ·
                  rw [if_pos c23] at H
                  have c23b0 := eq_true c23
                  have c23b1 : decide (1 ≤ (wrap64 (t123 - 1))) = true := decide_eq_true c23
                  clear c23
                  by_cases c24 : (wrap64 (t123 - 1)) ≤ ((a0.extract (x3_1 : Int).toNat ((wrap64 (x3_1 + t123)) : Int).toNat).size : Int)
                  ·
                   rw [if_pos c24] at H
                   have c24b0 := eq_true c24
                   have c24b1 : decide ((wrap64 (t123 - 1)) ≤ ((a0.extract (x3_1 : Int).toNat ((wrap64 (x3_1 + t123)) : Int).toNat).size : Int)) = true := decide_eq_true c24
                   obtain ⟨sx, hsx⟩ : ∃ s_ : ByteArray, a0.extract (x3_1 : Int).toNat ((wrap64 (x3_1 + t123)) : Int).toNat = s_ := ⟨_, rfl⟩
                   rw [hsx] at c24 c24b0 c24b1 H
                   obtain ⟨sy, hsy⟩ : ∃ s_ : ByteArray, sx.extract 1 ((wrap64 (t123 - 1)) : Int).toNat = s_ := ⟨_, rfl⟩
                   rw [hsy] at H
                   clear c24
                   by_cases c25 : x2_1.length < 3518437208883
                   ·
                    rw [if_pos c25] at H
                    have LMc25 := Aside0.mk c25
                    clear c25
                    obtain ⟨y125, hy125⟩ : ∃ y_ : List (S38), y_ = (x2_1 ++ [(⟨t122, sy, x5_1, x3_1⟩ : S38)]) := ⟨_, rfl⟩
                    replace H : (lexer_Lex.l0 kj6 a0 y125 (wrap64 (x3_1 + t123)) x5_1) = some (r1, r2, r3) := by first | (rw [hy125]; with_reducible exact H) | (have H2_ := (Option.bind_some _ _).symm.trans H; rw [hy125]; with_reducible exact H2_) | (have H2_ := (Option.bind_some _ _).symm.trans H; with_reducible exact H2_) | with_reducible exact H | (rw [hy125]; exact H) | exact H
                    have Ny125 := Aside0.mk hy125
                    clear hy125
                    have H' := Aside0.mk H
                    clear H
                    go_wp2_with (first | ((with_reducible refine gate_callee (f := 31) rfl ?_); refine goesL_ (some 42) rfl rfl Tryd.func31 (by kernel_rfl) rfl #[.string (a0.extract (x3_1 : Int).toNat a0.size)] rfl (by (try simp only [List.map_toArray, List.map_cons, List.map_nil]); first | done | rfl | (simp only [List.length_drop, List.length_take]; rfl)) ?_; (with_reducible refine (lexer_token.calls kj6 (a0.extract (x3_1 : Int).toNat a0.size) t122 t123 _ A16.out).mono ?_); rintro e w26 ⟨rfl, hb⟩; refine ⟨_, rfl, ?_⟩; have n0_ := Aside0.mk (Kd.R_below (by (with_reducible repeat (first | apply Kd.R_alloc | apply Kd.R_drewN | apply Kd.R_drew)); exact HO_2.out) hb); have n1_ := Aside0.mk (below_step (by repeat (first | (with_reducible first | exact HB.out | apply below_alloc | apply pw_below_drewN | apply below_drew1) | exact HB.out)) hb); clear HO_2; clear HB; have HO_2 := n0_; have HB := n1_; clear n0_ n1_; (try clear hb); (try clear hb2); (try clear hk); (try clear hi)) | ((with_reducible refine gate_dst (N := 8) rfl ?_); refine box_event ?hg (N := 8) ?hd (cs := #[.int .i64 0, .string (⟨#[]⟩ : ByteArray), .int .i64 0, .int .i64 0]) (t := 38) ?hr ?_; (case hd => rfl); (case hg => rfl); (case hr => first | (go_simp; done) | (go_simp; rfl)); intro gb124 hg w27 hbox hb; have n0_ := Aside0.mk (Kd.R_below (Kd.R_elderB (by (with_reducible repeat (first | apply Kd.R_alloc | apply Kd.R_drewN | apply Kd.R_drew)); exact HO_2.out) gb124 (Nat.le_of_eq hg.symm)) hb); have n1_ := Aside0.mk (below_step (by repeat (first | (with_reducible first | exact HB.out | apply below_alloc | apply pw_below_drewN | apply below_drew1) | exact HB.out)) hb); have n2_ := Aside0.mk (hbox); have n3_ := Aside0.mk ((by rw [hg]; exact (below_size (by repeat (first | (with_reducible first | exact HB.out | apply below_alloc | apply pw_below_drewN | apply below_drew1) | exact HB.out))) : w.heap.size ≤ gb124)); have n4_ := Aside0.mk ((by rw [hg]; exact (below_size (by repeat (first | (with_reducible first | exact HB.out | apply below_alloc | apply pw_below_drewN | apply below_drew1) | exact HB.out))) : w.heap.size ≤ gb124)); clear HO_2; clear HB; have HO_2 := n0_; have HB := n1_; have BK124 := n2_; have GW124 := n3_; have GE124 := n4_; clear n0_ n1_ n2_ n3_ n4_; clear hb hbox hg; have hcz28_0 : w27.cell? ⟨gb124, 0, none⟩ = some (.int .i64 0) := (blk_cell BK124.out 0).trans rfl; have hcz28_1 : w27.cell? ⟨gb124, 1, none⟩ = some (.string (⟨#[]⟩ : ByteArray)) := (blk_cell BK124.out 1).trans rfl; have hcz28_2 : w27.cell? ⟨gb124, 2, none⟩ = some (.int .i64 0) := (blk_cell BK124.out 2).trans rfl; have hcz28_3 : w27.cell? ⟨gb124, 3, none⟩ = some (.int .i64 0) := (blk_cell BK124.out 3).trans rfl; have hfz28_0 := blk_frozen BK124.out 0; have hfz28_1 := blk_frozen BK124.out 1; have hfz28_2 := blk_frozen BK124.out 2; have hfz28_3 := blk_frozen BK124.out 3) | ((with_reducible refine gate_store (t := 9) (p := 65) rfl ?_); have B4_ : ((((w27.setCell ⟨gb124, 0, none⟩ (.int .i64 t122)).setCell ⟨gb124, 1, none⟩ (.string sx)).setCell ⟨gb124, 2, none⟩ (.int .i64 x5_1)).setCell ⟨gb124, 3, none⟩ (.int .i64 x3_1)).heap[gb124]? = some (.cells #[.int .i64 t122, .string sx, .int .i64 x5_1, .int .i64 x3_1] 38 (0, 0)) := (by refine blk_put (cs := #[.int .i64 t122, .string sx, .int .i64 x5_1, .int .i64 0]) ?_ 3 _ rfl; refine blk_put (cs := #[.int .i64 t122, .string sx, .int .i64 0, .int .i64 0]) ?_ 2 _ rfl; refine blk_put (cs := #[.int .i64 t122, .string (⟨#[]⟩ : ByteArray), .int .i64 0, .int .i64 0]) ?_ 1 _ rfl; refine blk_put (cs := #[.int .i64 0, .string (⟨#[]⟩ : ByteArray), .int .i64 0, .int .i64 0]) ?_ 0 _ rfl; exact BK124.out); refine store_event (t := 9) (p := 65) (v := ?vo9) (w1 := ((((w27.setCell ⟨gb124, 0, none⟩ (.int .i64 t122)).setCell ⟨gb124, 1, none⟩ (.string sx)).setCell ⟨gb124, 2, none⟩ (.int .i64 x5_1)).setCell ⟨gb124, 3, none⟩ (.int .i64 x3_1)).setCell ⟨gb124, 1, none⟩ (.string sy)) ?hg ?ho ?hn ?hr ?_; (case ho => rfl); (case hg => rfl); (case hn => rfl); (case hr => (simp only [execOp]); (rw [show Act.eval _ (.tmp 65) = .pointer (some ⟨gb124, 1, none⟩) from rfl, show Act.eval _ (.tmp 64) = .string sy from rfl]); exact st9 _ _ _ ((blk_cell B4_ 1).trans rfl) (blk_frozen B4_ 1)); intro w99_ hw99_; have B5_ : Aside0 (w99_.heap[gb124]? = some (.cells #[.int .i64 t122, .string sy, .int .i64 x5_1, .int .i64 x3_1] 38 (0, 0))) := ⟨by rw [hw99_]; exact blk_put (cs := #[.int .i64 t122, .string sx, .int .i64 x5_1, .int .i64 x3_1]) B4_ 1 _ rfl⟩; have hq0_ : w99_.cell? ⟨gb124, 0, none⟩ = some (.int .i64 t122) := (blk_cell B5_.out 0).trans rfl; have hq1_ : w99_.cell? ⟨gb124, 1, none⟩ = some (.string sy) := (blk_cell B5_.out 1).trans rfl; have hq2_ : w99_.cell? ⟨gb124, 2, none⟩ = some (.int .i64 x5_1) := (blk_cell B5_.out 2).trans rfl; have hq3_ : w99_.cell? ⟨gb124, 3, none⟩ = some (.int .i64 x3_1) := (blk_cell B5_.out 3).trans rfl; have O5_ : Aside0 (Kd.R k38 38 w99_ w.heap.size (fun k_ => k_ ≠ gb124) u2 x2_1) := ⟨by rw [hw99_]; exact (by (with_reducible repeat (first | apply Kd.R_alloc | apply Kd.R_drewN | apply Kd.R_drew)); exact Kd.R_mono (Kd.R_far (p := ⟨gb124, 1, none⟩) (Kd.R_far (p := ⟨gb124, 3, none⟩) (Kd.R_far (p := ⟨gb124, 2, none⟩) (Kd.R_far (p := ⟨gb124, 1, none⟩) (Kd.R_far (p := ⟨gb124, 0, none⟩) (Kd.R_mono HO_2.out (fun k_ hk => (⟨hk, hk.2⟩ : _ ∧ k_ ≠ gb124))) (fun _ hk => hk.2) (.int .i64 t122)) (fun _ hk => hk.2) (.string sx)) (fun _ hk => hk.2) (.int .i64 x5_1)) (fun _ hk => hk.2) (.int .i64 x3_1)) (fun _ hk => hk.2) (.string sy)) (fun _ hk => hk.1.2))⟩; have L5_ : Aside0 (Below w.heap.size w w99_) := ⟨by rw [hw99_]; exact (by repeat (first | (with_reducible first | exact HB.out | apply below_alloc | apply pw_below_drewN | apply below_drew1 | refine below_set ?_ GE124.out) | exact HB.out))⟩; clear BK124; clear HB; clear HO_2; have BK124 := B5_; have HB := L5_; have HO_2 := O5_; clear B4_ B5_ O5_ L5_ hw99_ hcz28_0 hcz28_1 hcz28_2 hcz28_3 hfz28_0 hfz28_1 hfz28_2 hfz28_3) | ((with_reducible refine gate_builtin (b := .append) (xs := #[.tmp 66, .tmp 68]) rfl ?_); at_builtin; refine Kd.R_append k38 (w0 := w) w.heap.size rfl (.tmp 66) (.tmp 68) 23 38 (.agg #[(.int .i64 0), (.string ⟨#[]⟩), (.int .i64 0), (.int .i64 0)]) 40 rfl Tryd.underlying23 info38 rfl (by decide) (by omega) u2 x2_1 (⟨t122, sy, x5_1, x3_1⟩ : S38) [.int .i64 t122, .string sy, .int .i64 x5_1, .int .i64 x3_1] (fun k_ => k_ ≠ gb124) (fun _ => False) rfl (by first | (go_simp; done) | (go_simp; rfl)) ?aP (fun _ hk => hk.elim) ?aF ?aO ?aB ?aS ?aL ?_; (case aP => exact k38_mkM _ _ _ (⟨t122, sy, x5_1, x3_1⟩ : S38)); (case aB => exact (by repeat (first | (with_reducible first | exact HB.out | apply below_alloc | apply pw_below_drewN | apply below_drew1 | refine below_set ?_ GE124.out) | exact HB.out))); (case aF => exact (fun k_ hk => Kd.freshB (g := gb124) (o := .cells #[.int .i64 t122, .string sy, .int .i64 x5_1, .int .i64 x3_1] 38 (0, 0)) (by (with_reducible repeat (first | refine blk_drewN ?_ _ | refine blk_drew ?_ | refine blk_alloc ?_ _)); exact BK124.out) k_ hk)); (case aO => exact (by (with_reducible repeat (first | apply Kd.R_alloc | apply Kd.R_drewN | apply Kd.R_drew)); exact HO_2.out)); (case aS => exact (below_size (by repeat (first | (with_reducible first | exact HB.out | apply below_alloc | apply pw_below_drewN | apply below_drew1 | refine below_set ?_ GE124.out) | exact HB.out)))); (case aL => have := LMc25.out; omega); intro v126 w29 ho hb hg hat; rw [← Ny125.out] at ho; have n0_ := Aside0.mk (blk_grown (g := gb124) (o := .cells #[.int .i64 t122, .string sy, .int .i64 x5_1, .int .i64 x3_1] 38 (0, 0)) (by (with_reducible repeat (first | refine blk_drewN ?_ _ | refine blk_drew ?_ | refine blk_alloc ?_ _)); exact BK124.out) hg (Kd.R_away HO_2.out (fun _ hk => hk))); have n1_ := Aside0.mk (hb); have n2_ := Aside0.mk (ho); clear BK124; clear HB; clear HO_2; have BK124 := n0_; have HB := n1_; have HO127 := n2_; clear n0_ n1_ n2_; clear ho hb hg hat))
                    go_roundg kj6
                    case measure => have := HK1.out; have := HJ6.out; omega
                    case rel => exact ⟨(y125), (wrap64 (x3_1 + t123)), (x5_1), (by first | rfl | (simp; done) | (simp [*]; done)), (by first | rfl | (simp; done) | (simp [*]; done)), H', ⟨by have := HK1.out; have := HJ6.out; omega⟩, ⟨by (with_reducible repeat (first | apply Kd.R_alloc | apply Kd.R_drewN | apply Kd.R_drew)); exact Kd.R_mono HO127.out (fun _ hk => trivial)⟩, ⟨by repeat (first | (with_reducible first | exact HB.out | apply below_alloc | apply pw_below_drewN | apply below_drew1 | refine below_set ?_ GE124.out) | exact HB.out)⟩⟩
                   ·
                    rw [if_neg c25] at H
                    exact absurd H (by simp)
                  ·
                   rw [if_neg c24] at H
                   exact absurd H (by simp)
                 ·
                  rw [if_neg c23] at H
                  exact absurd H (by simp)
                ·
                 rw [if_neg c22] at H
                 have c22b0 : (t122 == 4) = false := beq_eq_false_iff_ne.mpr c22
                 have c22b1 : (t122 != 4) = true := bne_iff_ne.mpr c22
                 by_cases c30 : x2_1.length < 3518437208883
                 ·
                  rw [if_pos c30] at H
                  have LMc30 := Aside0.mk c30
                  clear c30
                  obtain ⟨y128, hy128⟩ : ∃ y_ : List (S38), y_ = (x2_1 ++ [(⟨t122, a0.extract (x3_1 : Int).toNat ((wrap64 (x3_1 + t123)) : Int).toNat, x5_1, x3_1⟩ : S38)]) := ⟨_, rfl⟩
                  replace H : (lexer_Lex.l0 kj6 a0 y128 (wrap64 (x3_1 + t123)) x5_1) = some (r1, r2, r3) := by first | (rw [hy128]; with_reducible exact H) | (have H2_ := (Option.bind_some _ _).symm.trans H; rw [hy128]; with_reducible exact H2_) | (have H2_ := (Option.bind_some _ _).symm.trans H; with_reducible exact H2_) | with_reducible exact H | (rw [hy128]; exact H) | exact H
                  have Ny128 := Aside0.mk hy128
                  clear hy128
                  have H' := Aside0.mk H
                  clear H
                  go_wp2_with (first | ((with_reducible refine gate_callee (f := 31) rfl ?_); refine goesL_ (some 42) rfl rfl Tryd.func31 (by kernel_rfl) rfl #[.string (a0.extract (x3_1 : Int).toNat a0.size)] rfl (by (try simp only [List.map_toArray, List.map_cons, List.map_nil]); first | done | rfl | (simp only [List.length_drop, List.length_take]; rfl)) ?_; (with_reducible refine (lexer_token.calls kj6 (a0.extract (x3_1 : Int).toNat a0.size) t122 t123 _ A16.out).mono ?_); rintro e w31 ⟨rfl, hb⟩; refine ⟨_, rfl, ?_⟩; have n0_ := Aside0.mk (Kd.R_below (by (with_reducible repeat (first | apply Kd.R_alloc | apply Kd.R_drewN | apply Kd.R_drew)); exact HO_2.out) hb); have n1_ := Aside0.mk (below_step (by repeat (first | (with_reducible first | exact HB.out | apply below_alloc | apply pw_below_drewN | apply below_drew1) | exact HB.out)) hb); clear HO_2; clear HB; have HO_2 := n0_; have HB := n1_; clear n0_ n1_; (try clear hb); (try clear hb2); (try clear hk); (try clear hi)) | ((with_reducible refine gate_dst (N := 8) rfl ?_); refine box_event ?hg (N := 8) ?hd (cs := #[.int .i64 0, .string (⟨#[]⟩ : ByteArray), .int .i64 0, .int .i64 0]) (t := 38) ?hr ?_; (case hd => rfl); (case hg => rfl); (case hr => first | (go_simp; done) | (go_simp; rfl)); intro gb124 hg w32 hbox hb; have n0_ := Aside0.mk (Kd.R_below (Kd.R_elderB (by (with_reducible repeat (first | apply Kd.R_alloc | apply Kd.R_drewN | apply Kd.R_drew)); exact HO_2.out) gb124 (Nat.le_of_eq hg.symm)) hb); have n1_ := Aside0.mk (below_step (by repeat (first | (with_reducible first | exact HB.out | apply below_alloc | apply pw_below_drewN | apply below_drew1) | exact HB.out)) hb); have n2_ := Aside0.mk (hbox); have n3_ := Aside0.mk ((by rw [hg]; exact (below_size (by repeat (first | (with_reducible first | exact HB.out | apply below_alloc | apply pw_below_drewN | apply below_drew1) | exact HB.out))) : w.heap.size ≤ gb124)); have n4_ := Aside0.mk ((by rw [hg]; exact (below_size (by repeat (first | (with_reducible first | exact HB.out | apply below_alloc | apply pw_below_drewN | apply below_drew1) | exact HB.out))) : w.heap.size ≤ gb124)); clear HO_2; clear HB; have HO_2 := n0_; have HB := n1_; have BK124 := n2_; have GW124 := n3_; have GE124 := n4_; clear n0_ n1_ n2_ n3_ n4_; clear hb hbox hg; have hcz33_0 : w32.cell? ⟨gb124, 0, none⟩ = some (.int .i64 0) := (blk_cell BK124.out 0).trans rfl; have hcz33_1 : w32.cell? ⟨gb124, 1, none⟩ = some (.string (⟨#[]⟩ : ByteArray)) := (blk_cell BK124.out 1).trans rfl; have hcz33_2 : w32.cell? ⟨gb124, 2, none⟩ = some (.int .i64 0) := (blk_cell BK124.out 2).trans rfl; have hcz33_3 : w32.cell? ⟨gb124, 3, none⟩ = some (.int .i64 0) := (blk_cell BK124.out 3).trans rfl; have hfz33_0 := blk_frozen BK124.out 0; have hfz33_1 := blk_frozen BK124.out 1; have hfz33_2 := blk_frozen BK124.out 2; have hfz33_3 := blk_frozen BK124.out 3) | ((with_reducible refine gate_builtin (b := .append) (xs := #[.tmp 66, .tmp 68]) rfl ?_); at_builtin; refine Kd.R_append k38 (w0 := w) w.heap.size rfl (.tmp 66) (.tmp 68) 23 38 (.agg #[(.int .i64 0), (.string ⟨#[]⟩), (.int .i64 0), (.int .i64 0)]) 40 rfl Tryd.underlying23 info38 rfl (by decide) (by omega) u2 x2_1 (⟨t122, a0.extract (x3_1 : Int).toNat ((wrap64 (x3_1 + t123)) : Int).toNat, x5_1, x3_1⟩ : S38) [.int .i64 t122, .string (a0.extract (x3_1 : Int).toNat ((wrap64 (x3_1 + t123)) : Int).toNat), .int .i64 x5_1, .int .i64 x3_1] (fun k_ => k_ ≠ gb124) (fun _ => False) rfl (by first | (go_simp; done) | (go_simp; rfl)) ?aP (fun _ hk => hk.elim) ?aF ?aO ?aB ?aS ?aL ?_; (case aP => exact k38_mkM _ _ _ (⟨t122, a0.extract (x3_1 : Int).toNat ((wrap64 (x3_1 + t123)) : Int).toNat, x5_1, x3_1⟩ : S38)); (case aB => exact (by repeat (first | (with_reducible first | exact HB.out | apply below_alloc | apply pw_below_drewN | apply below_drew1 | refine below_set ?_ GE124.out) | exact HB.out))); (case aF => exact (fun k_ hk => Kd.freshB (g := gb124) (o := .cells #[.int .i64 t122, .string (a0.extract (x3_1 : Int).toNat ((wrap64 (x3_1 + t123)) : Int).toNat), .int .i64 x5_1, .int .i64 x3_1] 38 (0, 0)) (by (with_reducible repeat (first | refine blk_drewN ?_ _ | refine blk_drew ?_ | refine blk_alloc ?_ _)); refine blk_put (cs := #[.int .i64 t122, .string (a0.extract (x3_1 : Int).toNat ((wrap64 (x3_1 + t123)) : Int).toNat), .int .i64 x5_1, .int .i64 0]) ?_ 3 _ rfl; (with_reducible repeat (first | refine blk_drewN ?_ _ | refine blk_drew ?_ | refine blk_alloc ?_ _)); refine blk_put (cs := #[.int .i64 t122, .string (a0.extract (x3_1 : Int).toNat ((wrap64 (x3_1 + t123)) : Int).toNat), .int .i64 0, .int .i64 0]) ?_ 2 _ rfl; (with_reducible repeat (first | refine blk_drewN ?_ _ | refine blk_drew ?_ | refine blk_alloc ?_ _)); refine blk_put (cs := #[.int .i64 t122, .string (⟨#[]⟩ : ByteArray), .int .i64 0, .int .i64 0]) ?_ 1 _ rfl; (with_reducible repeat (first | refine blk_drewN ?_ _ | refine blk_drew ?_ | refine blk_alloc ?_ _)); refine blk_put (cs := #[.int .i64 0, .string (⟨#[]⟩ : ByteArray), .int .i64 0, .int .i64 0]) ?_ 0 _ rfl; (with_reducible repeat (first | refine blk_drewN ?_ _ | refine blk_drew ?_ | refine blk_alloc ?_ _)); exact BK124.out) k_ hk)); (case aO => exact (by (with_reducible repeat (first | apply Kd.R_alloc | apply Kd.R_drewN | apply Kd.R_drew)); exact Kd.R_mono (Kd.R_far (p := ⟨gb124, 3, none⟩) (Kd.R_far (p := ⟨gb124, 2, none⟩) (Kd.R_far (p := ⟨gb124, 1, none⟩) (Kd.R_far (p := ⟨gb124, 0, none⟩) (Kd.R_mono HO_2.out (fun k_ hk => (⟨hk, hk.2⟩ : _ ∧ k_ ≠ gb124))) (fun _ hk => hk.2) (.int .i64 t122)) (fun _ hk => hk.2) (.string (a0.extract (x3_1 : Int).toNat ((wrap64 (x3_1 + t123)) : Int).toNat))) (fun _ hk => hk.2) (.int .i64 x5_1)) (fun _ hk => hk.2) (.int .i64 x3_1)) (fun _ hk => hk.1.2))); (case aS => exact (below_size (by repeat (first | (with_reducible first | exact HB.out | apply below_alloc | apply pw_below_drewN | apply below_drew1 | refine below_set ?_ GE124.out) | exact HB.out)))); (case aL => have := LMc30.out; omega); intro v129 w34 ho hb hg hat; rw [← Ny128.out] at ho; have n0_ := Aside0.mk (blk_grown (g := gb124) (o := .cells #[.int .i64 t122, .string (a0.extract (x3_1 : Int).toNat ((wrap64 (x3_1 + t123)) : Int).toNat), .int .i64 x5_1, .int .i64 x3_1] 38 (0, 0)) (by (with_reducible repeat (first | refine blk_drewN ?_ _ | refine blk_drew ?_ | refine blk_alloc ?_ _)); refine blk_put (cs := #[.int .i64 t122, .string (a0.extract (x3_1 : Int).toNat ((wrap64 (x3_1 + t123)) : Int).toNat), .int .i64 x5_1, .int .i64 0]) ?_ 3 _ rfl; (with_reducible repeat (first | refine blk_drewN ?_ _ | refine blk_drew ?_ | refine blk_alloc ?_ _)); refine blk_put (cs := #[.int .i64 t122, .string (a0.extract (x3_1 : Int).toNat ((wrap64 (x3_1 + t123)) : Int).toNat), .int .i64 0, .int .i64 0]) ?_ 2 _ rfl; (with_reducible repeat (first | refine blk_drewN ?_ _ | refine blk_drew ?_ | refine blk_alloc ?_ _)); refine blk_put (cs := #[.int .i64 t122, .string (⟨#[]⟩ : ByteArray), .int .i64 0, .int .i64 0]) ?_ 1 _ rfl; (with_reducible repeat (first | refine blk_drewN ?_ _ | refine blk_drew ?_ | refine blk_alloc ?_ _)); refine blk_put (cs := #[.int .i64 0, .string (⟨#[]⟩ : ByteArray), .int .i64 0, .int .i64 0]) ?_ 0 _ rfl; (with_reducible repeat (first | refine blk_drewN ?_ _ | refine blk_drew ?_ | refine blk_alloc ?_ _)); exact BK124.out) hg (Kd.R_away HO_2.out (fun _ hk => hk.2))); have n1_ := Aside0.mk (hb); have n2_ := Aside0.mk (ho); clear BK124; clear HB; clear HO_2; have BK124 := n0_; have HB := n1_; have HO130 := n2_; clear n0_ n1_ n2_; clear ho hb hg hat))
                  go_roundg kj6
                  case measure => have := HK1.out; have := HJ6.out; omega
                  case rel => exact ⟨(y128), (wrap64 (x3_1 + t123)), (x5_1), (by first | rfl | (simp; done) | (simp [*]; done)), (by first | rfl | (simp; done) | (simp [*]; done)), H', ⟨by have := HK1.out; have := HJ6.out; omega⟩, ⟨by (with_reducible repeat (first | apply Kd.R_alloc | apply Kd.R_drewN | apply Kd.R_drew)); exact Kd.R_mono HO130.out (fun _ hk => trivial)⟩, ⟨by repeat (first | (with_reducible first | exact HB.out | apply below_alloc | apply pw_below_drewN | apply below_drew1 | refine below_set ?_ GE124.out) | exact HB.out)⟩⟩
                 ·
                  rw [if_neg c30] at H
                  exact absurd H (by simp)
               ·
                rw [if_neg c21] at H
                exact absurd H (by simp)
              ·
               rw [if_neg c20] at H
               exact absurd H (by simp)
            ·
             rw [if_neg c15] at H
             exact absurd H (by simp)
           ·
            rw [if_neg c14] at H
            exact absurd H (by simp)
     ·
      rw [if_neg c4] at H
      exact absurd H (by simp)
    ·
     rw [if_neg c3] at H
     have c3b0 : decide (x3_1 < (a0.size : Int)) = false := decide_eq_false c3
     clear c3
     simp only [Option.some.injEq, Prod.mk.injEq] at H
     obtain ⟨rfl, rfl, rfl⟩ := H
     go_wp2
     (try rw [Exit.noGoto_ret])
     go_ret3
     exact ⟨_, by first | rfl | (simp [errW_none, errW_some] <;> rfl) | (simp [*, errW_none, errW_some] <;> rfl), by (with_reducible repeat (first | apply Kd.R_alloc | apply Kd.R_drewN | apply Kd.R_drew)); exact HO_2.out, by repeat (first | (with_reducible first | exact HB.out | apply below_alloc | apply pw_below_drewN | apply below_drew1) | exact HB.out)⟩

end Go.Proofs.YthjmbagkomnpgaaDoor.L
