-- Written by this session's own programs; what the law does not lean on is left out. Lean checks it.
import Derived.Test.YthjmbagkomnpgaaDoorJS
import Derived.Test.YthjmbagkomnpgaaDoorJLx27
namespace Go.Proofs.YthjmbagkomnpgaaDoor.L
open Go.RowKit Go.Proofs.YthjmbagkomnpgaaDoorW.PrintWords Go.Proofs.YthjmbagkomnpgaaDoorW.PrintLast Go.Proofs.YthjmbagkomnpgaaDoorW.PrintMore
set_option linter.unusedVariables false
set_option linter.unusedSimpArgs false
attribute [-simp] ByteArray.size_extract

mutual
def culetref13_Lex.l0 : Nat → ByteArray → List (S40) → Int → Int → Option ((List (S40)) × Int × Int)
 | 0, _, _, _, _ => none
 | k + 1, x0, x2, x5, x6 => if x6 < (x0.size : Int) then (if 0 ≤ x6 then (if (bt x0 x6) = 10 then (culetref13_Lex.l0 k x0 x2 (wrap64 (x5 + 1)) (wrap64 (x6 + 1))) else (if (bt x0 x6) = 32 then (culetref13_Lex.j1 k x0 x2 x5 x6 (bt x0 x6) true) else (culetref13_Lex.j1 k x0 x2 x5 x6 (bt x0 x6) ((bt x0 x6) == 9)))) else (none)) else (some (x2, 0, 0))
def culetref13_Lex.j1 : Nat → ByteArray → List (S40) → Int → Int → Int → Bool → Option ((List (S40)) × Int × Int)
 | 0, _, _, _, _, _, _ => none
 | k + 1, x0, x2, x5, x6, x7, x65 => if x65 = true then (culetref13_Lex.l0 k x0 x2 x5 (wrap64 (x6 + 1))) else (if x7 = 35 then (culetref13_Lex.l1 k x0 x2 x5 x6) else ((culetref13_length.f k x0 x6).bind fun bt163 => (if bt163.2 = 0 then (some (([] : List (S40)), x6, 4)) else (if 0 ≤ x6 then (if x6 ≤ (wrap64 (x6 + bt163.2)) then (if (wrap64 (x6 + bt163.2)) ≤ (x0.size : Int) then (if bt163.1 = 4 then (if 0 ≤ (wrap64 (x6 + 1)) then (if (wrap64 (x6 + 1)) ≤ (wrap64 ((wrap64 (x6 + bt163.2)) - 1)) then (if (wrap64 ((wrap64 (x6 + bt163.2)) - 1)) ≤ (x0.size : Int) then (if x2.length < 3518437208883 then (culetref13_Lex.l0 k x0 (x2 ++ [(⟨bt163.1, x0.extract ((wrap64 (x6 + 1)) : Int).toNat ((wrap64 ((wrap64 (x6 + bt163.2)) - 1)) : Int).toNat, x5, x6⟩ : S40)]) x5 (wrap64 (x6 + bt163.2))) else (none)) else (none)) else (none)) else (none)) else (if x2.length < 3518437208883 then (culetref13_Lex.l0 k x0 (x2 ++ [(⟨bt163.1, x0.extract (x6 : Int).toNat ((wrap64 (x6 + bt163.2)) : Int).toNat, x5, x6⟩ : S40)]) x5 (wrap64 (x6 + bt163.2))) else (none))) else (none)) else (none)) else (none)))))
def culetref13_Lex.l1 : Nat → ByteArray → List (S40) → Int → Int → Option ((List (S40)) × Int × Int)
 | 0, _, _, _, _ => none
 | k + 1, x0, x2, x5, x6 => if x6 < (x0.size : Int) then (if 0 ≤ x6 then (if (bt x0 x6) = 10 then (culetref13_Lex.l0 k x0 x2 x5 x6) else (culetref13_Lex.l1 k x0 x2 x5 (wrap64 (x6 + 1)))) else (none)) else (culetref13_Lex.l0 k x0 x2 x5 x6)
end
def culetref13_Lex.f (k : Nat) (a0 : ByteArray) : Option ((List (S40)) × Int × Int) := if (a0.size : Int) > 20000 then (some (([] : List (S40)), 0, 3)) else (culetref13_Lex.l0 k a0 ([] : List (S40)) 1 0)
theorem st9r (W : World) (g : Nat) (v : ByteArray) {old : Value} (hc : W.cell? ⟨g, 1, none⟩ = some old) (hf : W.frozen? ⟨g, 1, none⟩ = false) :
  (do Instr.storeAt 9 (.pointer (some ⟨g, 1, none⟩)) (.string v); pure Next.skip : Sem Next).run Tryd.prog W = .ok .skip (W.setCell ⟨g, 1, none⟩ (.string v)) := by
 have hu := Tryd.underlying9
 go_simp
set_option maxHeartbeats 8000000 in
set_option maxRecDepth 100000 in
theorem culetref13_Lex.calls (k : Nat) (a0 : ByteArray) (r1 : List (S40)) (r2 : Int) (r3 : Int) (w : World) (h : culetref13_Lex.f k a0 = some (r1, r2, r3)) :
  Calls Tryd.prog 12 #[.string a0] w fun e w' => ∃ v0_ : Value, e = .returned (.tuple #[v0_, .int .i64 r2, .int .i64 r3]) ∧ Kd.R k40 40 w' w.heap.size (fun _ => True) v0_ r1 ∧ Below w.heap.size w w' := by
 have hu40 := Tryd.underlying40
 have HB := Aside0.mk (Below.refl w.heap.size w)
 have H : (if (a0.size : Int) > 20000 then (some (([] : List (S40)), 0, 3)) else (culetref13_Lex.l0 k a0 ([] : List (S40)) 1 0)) = some (r1, r2, r3) := h
 clear h
 by_cases c2 : (a0.size : Int) > 20000
 ·
  rw [if_pos c2] at H
  have c2b0 : decide (20000 < (a0.size : Int)) = true := decide_eq_true c2
  have c2b1 : decide (20000 < a0.size) = true := decide_eq_true (by omega)
  clear c2
  simp only [Option.some.injEq, Prod.mk.injEq] at H
  obtain ⟨rfl, rfl, rfl⟩ := H
  go_enter Tryd.func12, Tryd.ntmps12
  go_wp2
  go_ret3
  exact ⟨_, by first | rfl | (simp [errW_none, errW_some] <;> rfl) | (simp [*, errW_none, errW_some] <;> rfl), by first | exact Kd.R_nil _ _ _ _ _ | exact Kd.N_nil _ _ _ _ _ | exact Kd.V_nil _ _ _ _ _ | exact Kd.Q_nil _ _ _ _ _ | exact Kd.S_nil _ _ _ _ _, by repeat (first | (with_reducible first | exact HB.out | apply below_alloc | apply pw_below_drewN | apply below_drew1) | exact HB.out)⟩
 ·
  rw [if_neg c2] at H
  have c2b0 : decide (20000 < (a0.size : Int)) = false := decide_eq_false c2
  have c2b1 : decide (20000 < a0.size) = false := decide_eq_false (by omega)
  clear c2
  have H' := Aside0.mk H
  clear H
  go_enter Tryd.func12, Tryd.ntmps12
  go_wp2
  go_loopg [2, 5, 6] k (fun kq v2 v5 v6 w' => ∃ (x2_1 : List (S40)) (x5_1 : Int) (x6_1 : Int), v5 = .int .i64 x5_1 ∧ v6 = .int .i64 x6_1 ∧ Aside0 (culetref13_Lex.l0 kq a0 x2_1 x5_1 x6_1 = some (r1, r2, r3)) ∧ Aside0 (kq ≤ k) ∧ Aside0 (Kd.R k40 40 w' w.heap.size (fun _ => True) v2 x2_1) ∧ Aside0 (Below w.heap.size w w'))
  case atStart => exact ⟨(([] : List (S40))), (1), (0), (by first | rfl | (simp; done) | (simp [*]; done)), (by first | rfl | (simp; done) | (simp [*]; done)), H', ⟨Nat.le_refl _⟩, ⟨by first | exact Kd.R_nil _ _ _ _ _ | exact Kd.N_nil _ _ _ _ _ | exact Kd.V_nil _ _ _ _ _ | exact Kd.Q_nil _ _ _ _ _ | exact Kd.S_nil _ _ _ _ _⟩, ⟨by repeat (first | (with_reducible first | exact HB.out | apply below_alloc | apply pw_below_drewN | apply below_drew1) | exact HB.out)⟩⟩
  case round =>
   clear H'
   try clear c1
   try clear c2
   try clear c2b0
   try clear c2b1
   try clear p2
   obtain ⟨x2_1, x5_1, x6_1, rfl, rfl, HA, HK1, HO_2, HB⟩ := hrel
   cases gk with
   | zero => exact absurd HA.out (by simp [culetref13_Lex.l0])
   | succ k1 =>
    have H := HA.out
    clear HA
    simp only [culetref13_Lex.l0] at H
    by_cases c3 : x6_1 < (a0.size : Int)
    ·
     rw [if_pos c3] at H
     have c3b0 : decide (x6_1 < (a0.size : Int)) = true := decide_eq_true c3
     clear c3
     by_cases c4 : 0 ≤ x6_1
     ·
      rw [if_pos c4] at H
      have c4b0 : decide (0 ≤ x6_1) = true := decide_eq_true c4
      clear c4
      by_cases c6 : (bt a0 x6_1) = 10
      ·
       rw [if_pos c6] at H
       have c6b0 : ((bt a0 x6_1) == 10) = true := beq_iff_eq.mpr c6
       have c6b1 : ((bt a0 x6_1) != 10) = false := bne_eq_false_iff_eq.mpr c6
       clear c6
       have H' := Aside0.mk H
       clear H
       have p5 : 0 ≤ (x6_1 : Int) := of_decide_eq_true (by first | (with_reducible assumption) | assumption)
       have q5 : x6_1 < (a0.size : Int) := of_decide_eq_true (by first | (with_reducible assumption) | assumption)
       have hx5 := bt_at a0 x6_1
       replace p5 := eq_true p5
       replace q5 := eq_true q5
       go_wp2
       go_roundg k1
       case measure => have := HK1.out; omega
       case rel => exact ⟨(x2_1), (wrap64 (x5_1 + 1)), (wrap64 (x6_1 + 1)), (by first | rfl | (simp; done) | (simp [*]; done)), (by first | rfl | (simp; done) | (simp [*]; done)), H', ⟨by have := HK1.out; omega⟩, ⟨by (with_reducible repeat (first | apply Kd.R_alloc | apply Kd.R_drewN | apply Kd.R_drew)); exact HO_2.out⟩, ⟨by repeat (first | (with_reducible first | exact HB.out | apply below_alloc | apply pw_below_drewN | apply below_drew1) | exact HB.out)⟩⟩
      ·
       rw [if_neg c6] at H
       have c6b0 : ((bt a0 x6_1) == 10) = false := beq_eq_false_iff_ne.mpr c6
       have c6b1 : ((bt a0 x6_1) != 10) = true := bne_iff_ne.mpr c6
       have HC7 := Aside0.mk H
       clear H
       have p5 : 0 ≤ (x6_1 : Int) := of_decide_eq_true (by first | (with_reducible assumption) | assumption)
       have q5 : x6_1 < (a0.size : Int) := of_decide_eq_true (by first | (with_reducible assumption) | assumption)
       have hx5 := bt_at a0 x6_1
       replace p5 := eq_true p5
       replace q5 := eq_true q5
       go_upto_region 18 with (fail)
       go_cut [65] (fun v65 wc => ∃ (kq : Nat) (x65_6 : Bool), v65 = .bool x65_6 ∧ Aside0 (culetref13_Lex.j1 kq a0 x2_1 x5_1 x6_1 (bt a0 x6_1) x65_6 = some (r1, r2, r3)) ∧ Aside0 (kq ≤ k1) ∧ Aside0 (Kd.R k40 40 wc w.heap.size (fun _ => True) u2 x2_1) ∧ Aside0 (Below w.heap.size w wc))
       case first =>
        have H := HC7.out
        clear HC7
        by_cases c8 : (bt a0 x6_1) = 32
        ·
         rw [if_pos c8] at H
         have c8b0 : ((bt a0 x6_1) == 32) = true := beq_iff_eq.mpr c8
         have c8b1 : ((bt a0 x6_1) != 32) = false := bne_eq_false_iff_eq.mpr c8
         clear c8
         (first | rw [c8b0] | (simp only [i64_w, i32_w]; rw [c8b0]) | skip)
         have H' := Aside0.mk H
         clear H
         go_wp2
         go_meet
         case rel => exact ⟨_, (true), (by first | rfl | (simp; done) | (simp [*]; done)), H', ⟨by have := HK1.out; first | omega | exact Nat.le_refl _⟩, ⟨by (with_reducible repeat (first | apply Kd.R_alloc | apply Kd.R_drewN | apply Kd.R_drew)); exact HO_2.out⟩, ⟨by repeat (first | (with_reducible first | exact HB.out | apply below_alloc | apply pw_below_drewN | apply below_drew1) | exact HB.out)⟩⟩
        ·
         rw [if_neg c8] at H
         have c8b0 : ((bt a0 x6_1) == 32) = false := beq_eq_false_iff_ne.mpr c8
         have c8b1 : ((bt a0 x6_1) != 32) = true := bne_iff_ne.mpr c8
         (first | rw [c8b0] | (simp only [i64_w, i32_w]; rw [c8b0]) | skip)
         have H' := Aside0.mk H
         clear H
         go_wp2
         go_meet
         case rel => exact ⟨_, (((bt a0 x6_1) == 9)), (by first | rfl | (simp; done) | (simp [*]; done)), H', ⟨by have := HK1.out; first | omega | exact Nat.le_refl _⟩, ⟨by (with_reducible repeat (first | apply Kd.R_alloc | apply Kd.R_drewN | apply Kd.R_drew)); exact HO_2.out⟩, ⟨by repeat (first | (with_reducible first | exact HB.out | apply below_alloc | apply pw_below_drewN | apply below_drew1) | exact HB.out)⟩⟩
       case rest =>
        clear HC7
        try clear c1
        try clear c2
        try clear c2b0
        try clear c2b1
        try clear p2
        try clear c3
        try clear c3b0
        try clear c4
        try clear c4b0
        try clear p5
        try clear q5
        try clear hx5
        try clear c6
        try clear c6b0
        try clear c6b1
        try clear p6
        try clear c8
        try clear c8b0
        try clear c8b1
        try clear p2
        try clear p5
        try clear q5
        obtain ⟨kq, x65_6, rfl, HA, HJ6, HO_2, HB⟩ := hcut
        cases kq with
        | zero => exact absurd HA.out (by simp [culetref13_Lex.j1])
        | succ kj6 =>
         have H := HA.out
         clear HA
         simp only [culetref13_Lex.j1] at H
         by_cases c9 : x65_6 = true
         ·
          subst c9
          have H1 : (culetref13_Lex.l0 kj6 a0 x2_1 x5_1 (wrap64 (x6_1 + 1))) = some (r1, r2, r3) := by rw [if_pos rfl] at H; exact H
          clear H
          have H := H1
          clear H1
          have H' := Aside0.mk H
          clear H
          go_wp2
          go_roundg kj6
          case measure => have := HK1.out; have := HJ6.out; omega
          case rel => exact ⟨(x2_1), (x5_1), (wrap64 (x6_1 + 1)), (by first | rfl | (simp; done) | (simp [*]; done)), (by first | rfl | (simp; done) | (simp [*]; done)), H', ⟨by have := HK1.out; have := HJ6.out; omega⟩, ⟨by (with_reducible repeat (first | apply Kd.R_alloc | apply Kd.R_drewN | apply Kd.R_drew)); exact HO_2.out⟩, ⟨by repeat (first | (with_reducible first | exact HB.out | apply below_alloc | apply pw_below_drewN | apply below_drew1) | exact HB.out)⟩⟩
         ·
          replace c9 := Bool.eq_false_iff.mpr c9
          subst c9
          have H1 : (if (bt a0 x6_1) = 35 then (culetref13_Lex.l1 kj6 a0 x2_1 x5_1 x6_1) else ((culetref13_length.f kj6 a0 x6_1).bind fun bt163 => (if bt163.2 = 0 then (some (([] : List (S40)), x6_1, 4)) else (if 0 ≤ x6_1 then (if x6_1 ≤ (wrap64 (x6_1 + bt163.2)) then (if (wrap64 (x6_1 + bt163.2)) ≤ (a0.size : Int) then (if bt163.1 = 4 then (if 0 ≤ (wrap64 (x6_1 + 1)) then (if (wrap64 (x6_1 + 1)) ≤ (wrap64 ((wrap64 (x6_1 + bt163.2)) - 1)) then (if (wrap64 ((wrap64 (x6_1 + bt163.2)) - 1)) ≤ (a0.size : Int) then (if x2_1.length < 3518437208883 then (culetref13_Lex.l0 kj6 a0 (x2_1 ++ [(⟨bt163.1, a0.extract ((wrap64 (x6_1 + 1)) : Int).toNat ((wrap64 ((wrap64 (x6_1 + bt163.2)) - 1)) : Int).toNat, x5_1, x6_1⟩ : S40)]) x5_1 (wrap64 (x6_1 + bt163.2))) else (none)) else (none)) else (none)) else (none)) else (if x2_1.length < 3518437208883 then (culetref13_Lex.l0 kj6 a0 (x2_1 ++ [(⟨bt163.1, a0.extract (x6_1 : Int).toNat ((wrap64 (x6_1 + bt163.2)) : Int).toNat, x5_1, x6_1⟩ : S40)]) x5_1 (wrap64 (x6_1 + bt163.2))) else (none))) else (none)) else (none)) else (none))))) = some (r1, r2, r3) := by rw [if_neg (show ¬ (false = true) by decide)] at H; exact H
          clear H
          have H := H1
          clear H1
          by_cases c10 : (bt a0 x6_1) = 35
          ·
           rw [if_pos c10] at H
           have c10b0 : ((bt a0 x6_1) == 35) = true := beq_iff_eq.mpr c10
           have c10b1 : ((bt a0 x6_1) != 35) = false := bne_eq_false_iff_eq.mpr c10
           clear c10
           have H' := Aside0.mk H
           clear H
           go_wp2
           go_loopg [6] kj6 (fun kq v6 w' => ∃ (x6_3 : Int), v6 = .int .i64 x6_3 ∧ Aside0 (culetref13_Lex.l1 kq a0 x2_1 x5_1 x6_3 = some (r1, r2, r3)) ∧ Aside0 (kq ≤ kj6) ∧ Aside0 (Kd.R k40 40 w' w.heap.size (fun _ => True) u2 x2_1) ∧ Aside0 (Below w.heap.size w w'))
           case atStart => exact ⟨(x6_1), (by first | rfl | (simp; done) | (simp [*]; done)), H', ⟨Nat.le_refl _⟩, ⟨by (with_reducible repeat (first | apply Kd.R_alloc | apply Kd.R_drewN | apply Kd.R_drew)); exact HO_2.out⟩, ⟨by repeat (first | (with_reducible first | exact HB.out | apply below_alloc | apply pw_below_drewN | apply below_drew1) | exact HB.out)⟩⟩
           case round =>
            clear H'
            try clear c1
            try clear c2
            try clear c2b0
            try clear c2b1
            try clear p2
            try clear c3
            try clear c3b0
            try clear c4
            try clear c4b0
            try clear p5
            try clear q5
            try clear hx5
            try clear c6
            try clear c6b0
            try clear c6b1
            try clear p6
            try clear c8
            try clear c8b0
            try clear c8b1
            try clear c9
            try clear c10
            try clear c10b0
            try clear c10b1
            try clear p2
            try clear p5
            try clear p6
            try clear q5
            obtain ⟨x6_3, rfl, HA, HK3, HO_2, HB⟩ := hrel
            cases gk with
            | zero => exact absurd HA.out (by simp [culetref13_Lex.l1])
            | succ k3 =>
             have H := HA.out
             clear HA
             simp only [culetref13_Lex.l1] at H
             by_cases c11 : x6_3 < (a0.size : Int)
             ·
              rw [if_pos c11] at H
              have c11b0 : decide (x6_3 < (a0.size : Int)) = true := decide_eq_true c11
              clear c11
              by_cases c12 : 0 ≤ x6_3
              ·
               rw [if_pos c12] at H
               have c12b0 : decide (0 ≤ x6_3) = true := decide_eq_true c12
               clear c12
               by_cases c14 : (bt a0 x6_3) = 10
               ·
                rw [if_pos c14] at H
                have c14b0 : ((bt a0 x6_3) == 10) = true := beq_iff_eq.mpr c14
                have c14b1 : ((bt a0 x6_3) != 10) = false := bne_eq_false_iff_eq.mpr c14
                clear c14
                have H' := Aside0.mk H
                clear H
                have p13 : 0 ≤ (x6_3 : Int) := of_decide_eq_true (by first | (with_reducible assumption) | assumption)
                have q13 : x6_3 < (a0.size : Int) := of_decide_eq_true (by first | (with_reducible assumption) | assumption)
                have hx13 := bt_at a0 x6_3
                replace p13 := eq_true p13
                replace q13 := eq_true q13
                go_wp2
                go_roundg k3
                case measure => have := HK1.out; have := HJ6.out; have := HK3.out; omega
                case rel => exact ⟨(x2_1), (x5_1), (x6_3), (by first | rfl | (simp; done) | (simp [*]; done)), (by first | rfl | (simp; done) | (simp [*]; done)), H', ⟨by have := HK1.out; have := HJ6.out; have := HK3.out; omega⟩, ⟨by (with_reducible repeat (first | apply Kd.R_alloc | apply Kd.R_drewN | apply Kd.R_drew)); exact HO_2.out⟩, ⟨by repeat (first | (with_reducible first | exact HB.out | apply below_alloc | apply pw_below_drewN | apply below_drew1) | exact HB.out)⟩⟩
               ·
                rw [if_neg c14] at H
                have c14b0 : ((bt a0 x6_3) == 10) = false := beq_eq_false_iff_ne.mpr c14
                have c14b1 : ((bt a0 x6_3) != 10) = true := bne_iff_ne.mpr c14
                have H' := Aside0.mk H
                clear H
                have p13 : 0 ≤ (x6_3 : Int) := of_decide_eq_true (by first | (with_reducible assumption) | assumption)
                have q13 : x6_3 < (a0.size : Int) := of_decide_eq_true (by first | (with_reducible assumption) | assumption)
                have hx13 := bt_at a0 x6_3
                replace p13 := eq_true p13
                replace q13 := eq_true q13
                go_wp2
                go_roundg k3
                case measure => have := HK1.out; have := HJ6.out; have := HK3.out; omega
                case rel => exact ⟨(wrap64 (x6_3 + 1)), (by first | rfl | (simp; done) | (simp [*]; done)), H', ⟨by have := HK1.out; have := HJ6.out; have := HK3.out; omega⟩, ⟨by (with_reducible repeat (first | apply Kd.R_alloc | apply Kd.R_drewN | apply Kd.R_drew)); exact HO_2.out⟩, ⟨by repeat (first | (with_reducible first | exact HB.out | apply below_alloc | apply pw_below_drewN | apply below_drew1) | exact HB.out)⟩⟩
              ·
               rw [if_neg c12] at H
               exact absurd H (by simp)
             ·
              rw [if_neg c11] at H
              have c11b0 : decide (x6_3 < (a0.size : Int)) = false := decide_eq_false c11
              clear c11
              have H' := Aside0.mk H
              clear H
              go_wp2
              go_roundg k3
              case measure => have := HK1.out; have := HJ6.out; have := HK3.out; omega
              case rel => exact ⟨(x2_1), (x5_1), (x6_3), (by first | rfl | (simp; done) | (simp [*]; done)), (by first | rfl | (simp; done) | (simp [*]; done)), H', ⟨by have := HK1.out; have := HJ6.out; have := HK3.out; omega⟩, ⟨by (with_reducible repeat (first | apply Kd.R_alloc | apply Kd.R_drewN | apply Kd.R_drew)); exact HO_2.out⟩, ⟨by repeat (first | (with_reducible first | exact HB.out | apply below_alloc | apply pw_below_drewN | apply below_drew1) | exact HB.out)⟩⟩
          ·
           rw [if_neg c10] at H
           have c10b0 : ((bt a0 x6_1) == 35) = false := beq_eq_false_iff_ne.mpr c10
           have c10b1 : ((bt a0 x6_1) != 35) = true := bne_iff_ne.mpr c10
           replace H := Option.bind_eq_some_iff.mp H
           obtain ⟨⟨t163, t164⟩, A150, H⟩ := H
           replace H : (if t164 = 0 then (some (([] : List (S40)), x6_1, 4)) else (if 0 ≤ x6_1 then (if x6_1 ≤ (wrap64 (x6_1 + t164)) then (if (wrap64 (x6_1 + t164)) ≤ (a0.size : Int) then (if t163 = 4 then (if 0 ≤ (wrap64 (x6_1 + 1)) then (if (wrap64 (x6_1 + 1)) ≤ (wrap64 ((wrap64 (x6_1 + t164)) - 1)) then (if (wrap64 ((wrap64 (x6_1 + t164)) - 1)) ≤ (a0.size : Int) then (if x2_1.length < 3518437208883 then (culetref13_Lex.l0 kj6 a0 (x2_1 ++ [(⟨t163, a0.extract ((wrap64 (x6_1 + 1)) : Int).toNat ((wrap64 ((wrap64 (x6_1 + t164)) - 1)) : Int).toNat, x5_1, x6_1⟩ : S40)]) x5_1 (wrap64 (x6_1 + t164))) else (none)) else (none)) else (none)) else (none)) else (if x2_1.length < 3518437208883 then (culetref13_Lex.l0 kj6 a0 (x2_1 ++ [(⟨t163, a0.extract (x6_1 : Int).toNat ((wrap64 (x6_1 + t164)) : Int).toNat, x5_1, x6_1⟩ : S40)]) x5_1 (wrap64 (x6_1 + t164))) else (none))) else (none)) else (none)) else (none))) = some (r1, r2, r3) := H
           have A15 := Aside0.mk A150
           clear A150
           by_cases c16 : t164 = 0
           ·
            rw [if_pos c16] at H
            have c16b0 : (t164 == 0) = true := beq_iff_eq.mpr c16
            have c16b1 : (t164 != 0) = false := bne_eq_false_iff_eq.mpr c16
            clear c16
            simp only [Option.some.injEq, Prod.mk.injEq] at H
            obtain ⟨rfl, rfl, rfl⟩ := H
            go_wp2_with (first | ((with_reducible refine gate_callee (f := 32) rfl ?_); refine goesL_ (some 24) rfl rfl Tryd.func32 (by kernel_rfl) rfl #[.string a0, .int .i64 x6_1] rfl (by (try simp only [List.map_toArray, List.map_cons, List.map_nil]); first | done | rfl | (simp only [List.length_drop, List.length_take]; rfl)) ?_; (with_reducible refine (culetref13_length.calls kj6 a0 x6_1 t163 t164 _ A15.out).mono ?_); rintro e w17 ⟨rfl, hb⟩; refine ⟨_, rfl, ?_⟩; have n0_ := Aside0.mk (Kd.R_below (by (with_reducible repeat (first | apply Kd.R_alloc | apply Kd.R_drewN | apply Kd.R_drew)); exact HO_2.out) hb); have n1_ := Aside0.mk (below_step (by repeat (first | (with_reducible first | exact HB.out | apply below_alloc | apply pw_below_drewN | apply below_drew1) | exact HB.out)) hb); clear HO_2; clear HB; have HO_2 := n0_; have HB := n1_; clear n0_ n1_; (try clear hb); (try clear hb2); (try clear hk); (try clear hi)))
            go_ret3
            exact ⟨_, by first | rfl | (simp [errW_none, errW_some] <;> rfl) | (simp [*, errW_none, errW_some] <;> rfl), by first | exact Kd.R_nil _ _ _ _ _ | exact Kd.N_nil _ _ _ _ _ | exact Kd.V_nil _ _ _ _ _ | exact Kd.Q_nil _ _ _ _ _ | exact Kd.S_nil _ _ _ _ _, by repeat (first | (with_reducible first | exact HB.out | apply below_alloc | apply pw_below_drewN | apply below_drew1) | exact HB.out)⟩
           ·
            rw [if_neg c16] at H
            have c16b0 : (t164 == 0) = false := beq_eq_false_iff_ne.mpr c16
            have c16b1 : (t164 != 0) = true := bne_iff_ne.mpr c16
            by_cases c18 : 0 ≤ x6_1
            ·
             rw [if_pos c18] at H
             have c18b0 := eq_true c18
             have c18b1 : decide (0 ≤ x6_1) = true := decide_eq_true c18
             clear c18
             by_cases c19 : x6_1 ≤ (wrap64 (x6_1 + t164))
             ·
              rw [if_pos c19] at H
              have c19b0 := eq_true c19
              have c19b1 : decide (x6_1 ≤ (wrap64 (x6_1 + t164))) = true := decide_eq_true c19
              by_cases c20 : (wrap64 (x6_1 + t164)) ≤ (a0.size : Int)
              ·
               rw [if_pos c20] at H
               have c20b0 := eq_true c20
               have c20b1 : decide ((wrap64 (x6_1 + t164)) ≤ (a0.size : Int)) = true := decide_eq_true c20
               by_cases c21 : t163 = 4
               ·
                rw [if_pos c21] at H
                have c21b0 : (t163 == 4) = true := beq_iff_eq.mpr c21
                have c21b1 : (t163 != 4) = false := bne_eq_false_iff_eq.mpr c21
                clear c21
                obtain ⟨ji22, hji22⟩ : ∃ j_ : Int, (wrap64 (x6_1 + 1)) = j_ := ⟨_, rfl⟩
                replace H : (if 0 ≤ (ji22) then (if (ji22) ≤ (wrap64 ((wrap64 (x6_1 + t164)) - 1)) then (if (wrap64 ((wrap64 (x6_1 + t164)) - 1)) ≤ (a0.size : Int) then (if x2_1.length < 3518437208883 then (culetref13_Lex.l0 kj6 a0 (x2_1 ++ [(⟨t163, a0.extract ((ji22) : Int).toNat ((wrap64 ((wrap64 (x6_1 + t164)) - 1)) : Int).toNat, x5_1, x6_1⟩ : S40)]) x5_1 (wrap64 (x6_1 + t164))) else (none)) else (none)) else (none)) else (none)) = some (r1, r2, r3) := by first | (rw [hji22] at H; exact H) | (simp only [hji22] at H ⊢; exact H)
                (try rw [hji22] at A15)
                have hji22w : (IntKind.i64.wrap (x6_1 + 1)) = ji22 := (i64_w _).trans hji22
                by_cases c23 : 0 ≤ (ji22)
                ·
                 rw [if_pos c23] at H
                 have c23b0 := eq_true c23
                 have c23b1 : decide (0 ≤ (ji22)) = true := decide_eq_true c23
                 clear c23
                 by_cases c24 : (ji22) ≤ (wrap64 ((wrap64 (x6_1 + t164)) - 1))
                 ·
                  rw [if_pos c24] at H
                  have c24b0 := eq_true c24
                  have c24b1 : decide ((ji22) ≤ (wrap64 ((wrap64 (x6_1 + t164)) - 1))) = true := decide_eq_true c24
                  by_cases c25 : (wrap64 ((wrap64 (x6_1 + t164)) - 1)) ≤ (a0.size : Int)
                  ·
                   rw [if_pos c25] at H
                   have c25b0 := eq_true c25
                   have c25b1 : decide ((wrap64 ((wrap64 (x6_1 + t164)) - 1)) ≤ (a0.size : Int)) = true := decide_eq_true c25
                   obtain ⟨sx, hsx⟩ : ∃ s_ : ByteArray, a0.extract (x6_1 : Int).toNat ((wrap64 (x6_1 + t164)) : Int).toNat = s_ := ⟨_, rfl⟩
                   obtain ⟨sy, hsy⟩ : ∃ s_ : ByteArray, a0.extract ((ji22) : Int).toNat ((wrap64 ((wrap64 (x6_1 + t164)) - 1)) : Int).toNat = s_ := ⟨_, rfl⟩
                   rw [hsy] at H
                   by_cases c26 : x2_1.length < 3518437208883
                   ·
                    rw [if_pos c26] at H
                    have LMc26 := Aside0.mk c26
                    clear c26
                    obtain ⟨y166, hy166⟩ : ∃ y_ : List (S40), y_ = (x2_1 ++ [(⟨t163, sy, x5_1, x6_1⟩ : S40)]) := ⟨_, rfl⟩
                    replace H : (culetref13_Lex.l0 kj6 a0 y166 x5_1 (wrap64 (x6_1 + t164))) = some (r1, r2, r3) := by first | (rw [hy166]; with_reducible exact H) | (have H2_ := (Option.bind_some _ _).symm.trans H; rw [hy166]; with_reducible exact H2_) | (have H2_ := (Option.bind_some _ _).symm.trans H; with_reducible exact H2_) | with_reducible exact H | (rw [hy166]; exact H) | exact H
                    have Ny166 := Aside0.mk hy166
                    clear hy166
                    have H' := Aside0.mk H
                    clear H
                    go_wp2_with (first | ((with_reducible refine gate_callee (f := 32) rfl ?_); refine goesL_ (some 24) rfl rfl Tryd.func32 (by kernel_rfl) rfl #[.string a0, .int .i64 x6_1] rfl (by (try simp only [List.map_toArray, List.map_cons, List.map_nil]); first | done | rfl | (simp only [List.length_drop, List.length_take]; rfl)) ?_; (with_reducible refine (culetref13_length.calls kj6 a0 x6_1 t163 t164 _ A15.out).mono ?_); rintro e w27 ⟨rfl, hb⟩; refine ⟨_, rfl, ?_⟩; have n0_ := Aside0.mk (Kd.R_below (by (with_reducible repeat (first | apply Kd.R_alloc | apply Kd.R_drewN | apply Kd.R_drew)); exact HO_2.out) hb); have n1_ := Aside0.mk (below_step (by repeat (first | (with_reducible first | exact HB.out | apply below_alloc | apply pw_below_drewN | apply below_drew1) | exact HB.out)) hb); clear HO_2; clear HB; have HO_2 := n0_; have HB := n1_; clear n0_ n1_; (try clear hb); (try clear hb2); (try clear hk); (try clear hi)) | ((with_reducible refine gate_dst (N := 10) rfl ?_); refine box_event ?hg (N := 10) ?hd (cs := #[.int .i64 0, .string (⟨#[]⟩ : ByteArray), .int .i64 0, .int .i64 0]) (t := 40) ?hr ?_; (case hd => rfl); (case hg => rfl); (case hr => first | (go_simp; done) | (go_simp; rfl)); intro gb165 hg w28 hbox hb; have n0_ := Aside0.mk (Kd.R_below (Kd.R_elderB (by (with_reducible repeat (first | apply Kd.R_alloc | apply Kd.R_drewN | apply Kd.R_drew)); exact HO_2.out) gb165 (Nat.le_of_eq hg.symm)) hb); have n1_ := Aside0.mk (below_step (by repeat (first | (with_reducible first | exact HB.out | apply below_alloc | apply pw_below_drewN | apply below_drew1) | exact HB.out)) hb); have n2_ := Aside0.mk (hbox); have n3_ := Aside0.mk ((by rw [hg]; exact (below_size (by repeat (first | (with_reducible first | exact HB.out | apply below_alloc | apply pw_below_drewN | apply below_drew1) | exact HB.out))) : w.heap.size ≤ gb165)); have n4_ := Aside0.mk ((by rw [hg]; exact (below_size (by repeat (first | (with_reducible first | exact HB.out | apply below_alloc | apply pw_below_drewN | apply below_drew1) | exact HB.out))) : w.heap.size ≤ gb165)); clear HO_2; clear HB; have HO_2 := n0_; have HB := n1_; have BK165 := n2_; have GW165 := n3_; have GE165 := n4_; clear n0_ n1_ n2_ n3_ n4_; clear hb hbox hg; have hcz29_0 : w28.cell? ⟨gb165, 0, none⟩ = some (.int .i64 0) := (blk_cell BK165.out 0).trans rfl; have hcz29_1 : w28.cell? ⟨gb165, 1, none⟩ = some (.string (⟨#[]⟩ : ByteArray)) := (blk_cell BK165.out 1).trans rfl; have hcz29_2 : w28.cell? ⟨gb165, 2, none⟩ = some (.int .i64 0) := (blk_cell BK165.out 2).trans rfl; have hcz29_3 : w28.cell? ⟨gb165, 3, none⟩ = some (.int .i64 0) := (blk_cell BK165.out 3).trans rfl; have hfz29_0 := blk_frozen BK165.out 0; have hfz29_1 := blk_frozen BK165.out 1; have hfz29_2 := blk_frozen BK165.out 2; have hfz29_3 := blk_frozen BK165.out 3) | ((with_reducible refine gate_store (t := 9) (p := 50) rfl ?_); have B4_ : ((((w28.setCell ⟨gb165, 0, none⟩ (.int .i64 t163)).setCell ⟨gb165, 1, none⟩ (.string sx)).setCell ⟨gb165, 2, none⟩ (.int .i64 x5_1)).setCell ⟨gb165, 3, none⟩ (.int .i64 x6_1)).heap[gb165]? = some (.cells #[.int .i64 t163, .string sx, .int .i64 x5_1, .int .i64 x6_1] 40 (0, 0)) := (by refine blk_put (cs := #[.int .i64 t163, .string sx, .int .i64 x5_1, .int .i64 0]) ?_ 3 _ rfl; refine blk_put (cs := #[.int .i64 t163, .string sx, .int .i64 0, .int .i64 0]) ?_ 2 _ rfl; refine blk_put (cs := #[.int .i64 t163, .string (⟨#[]⟩ : ByteArray), .int .i64 0, .int .i64 0]) ?_ 1 _ rfl; refine blk_put (cs := #[.int .i64 0, .string (⟨#[]⟩ : ByteArray), .int .i64 0, .int .i64 0]) ?_ 0 _ rfl; exact BK165.out); refine store_event (t := 9) (p := 50) (v := ?vo9) (w1 := ((((w28.setCell ⟨gb165, 0, none⟩ (.int .i64 t163)).setCell ⟨gb165, 1, none⟩ (.string sx)).setCell ⟨gb165, 2, none⟩ (.int .i64 x5_1)).setCell ⟨gb165, 3, none⟩ (.int .i64 x6_1)).setCell ⟨gb165, 1, none⟩ (.string sy)) ?hg ?ho ?hn ?hr ?_; (case ho => rfl); (case hg => rfl); (case hn => rfl); (case hr => (simp only [execOp]); (rw [show Act.eval _ (.tmp 50) = .pointer (some ⟨gb165, 1, none⟩) from rfl, show Act.eval _ (.tmp 49) = .string sy from rfl]); exact st9r _ _ _ ((blk_cell B4_ 1).trans rfl) (blk_frozen B4_ 1)); intro w99_ hw99_; have B5_ : Aside0 (w99_.heap[gb165]? = some (.cells #[.int .i64 t163, .string sy, .int .i64 x5_1, .int .i64 x6_1] 40 (0, 0))) := ⟨by rw [hw99_]; exact blk_put (cs := #[.int .i64 t163, .string sx, .int .i64 x5_1, .int .i64 x6_1]) B4_ 1 _ rfl⟩; have hq0_ : w99_.cell? ⟨gb165, 0, none⟩ = some (.int .i64 t163) := (blk_cell B5_.out 0).trans rfl; have hq1_ : w99_.cell? ⟨gb165, 1, none⟩ = some (.string sy) := (blk_cell B5_.out 1).trans rfl; have hq2_ : w99_.cell? ⟨gb165, 2, none⟩ = some (.int .i64 x5_1) := (blk_cell B5_.out 2).trans rfl; have hq3_ : w99_.cell? ⟨gb165, 3, none⟩ = some (.int .i64 x6_1) := (blk_cell B5_.out 3).trans rfl; have O5_ : Aside0 (Kd.R k40 40 w99_ w.heap.size (fun k_ => k_ ≠ gb165) u2 x2_1) := ⟨by rw [hw99_]; exact (by (with_reducible repeat (first | apply Kd.R_alloc | apply Kd.R_drewN | apply Kd.R_drew)); exact Kd.R_mono (Kd.R_far (p := ⟨gb165, 1, none⟩) (Kd.R_far (p := ⟨gb165, 3, none⟩) (Kd.R_far (p := ⟨gb165, 2, none⟩) (Kd.R_far (p := ⟨gb165, 1, none⟩) (Kd.R_far (p := ⟨gb165, 0, none⟩) (Kd.R_mono HO_2.out (fun k_ hk => (⟨hk, hk.2⟩ : _ ∧ k_ ≠ gb165))) (fun _ hk => hk.2) (.int .i64 t163)) (fun _ hk => hk.2) (.string sx)) (fun _ hk => hk.2) (.int .i64 x5_1)) (fun _ hk => hk.2) (.int .i64 x6_1)) (fun _ hk => hk.2) (.string sy)) (fun _ hk => hk.1.2))⟩; have L5_ : Aside0 (Below w.heap.size w w99_) := ⟨by rw [hw99_]; exact (by repeat (first | (with_reducible first | exact HB.out | apply below_alloc | apply pw_below_drewN | apply below_drew1 | refine below_set ?_ GE165.out) | exact HB.out))⟩; clear BK165; clear HB; clear HO_2; have BK165 := B5_; have HB := L5_; have HO_2 := O5_; clear B4_ B5_ O5_ L5_ hw99_ hcz29_0 hcz29_1 hcz29_2 hcz29_3 hfz29_0 hfz29_1 hfz29_2 hfz29_3) | ((with_reducible refine gate_builtin (b := .append) (xs := #[.tmp 51, .tmp 53]) rfl ?_); at_builtin; refine Kd.R_append k40 (w0 := w) w.heap.size rfl (.tmp 51) (.tmp 53) 27 40 (.agg #[(.int .i64 0), (.string ⟨#[]⟩), (.int .i64 0), (.int .i64 0)]) 40 rfl Tryd.underlying27 info40 rfl (by decide) (by omega) u2 x2_1 (⟨t163, sy, x5_1, x6_1⟩ : S40) [.int .i64 t163, .string sy, .int .i64 x5_1, .int .i64 x6_1] (fun k_ => k_ ≠ gb165) (fun _ => False) rfl (by first | (go_simp; done) | (go_simp; rfl)) ?aP (fun _ hk => hk.elim) ?aF ?aO ?aB ?aS ?aL ?_; (case aP => exact k40_mkM _ _ _ (⟨t163, sy, x5_1, x6_1⟩ : S40)); (case aB => exact (by repeat (first | (with_reducible first | exact HB.out | apply below_alloc | apply pw_below_drewN | apply below_drew1 | refine below_set ?_ GE165.out) | exact HB.out))); (case aF => exact (fun k_ hk => Kd.freshB (g := gb165) (o := .cells #[.int .i64 t163, .string sy, .int .i64 x5_1, .int .i64 x6_1] 40 (0, 0)) (by (with_reducible repeat (first | refine blk_drewN ?_ _ | refine blk_drew ?_ | refine blk_alloc ?_ _)); exact BK165.out) k_ hk)); (case aO => exact (by (with_reducible repeat (first | apply Kd.R_alloc | apply Kd.R_drewN | apply Kd.R_drew)); exact HO_2.out)); (case aS => exact (below_size (by repeat (first | (with_reducible first | exact HB.out | apply below_alloc | apply pw_below_drewN | apply below_drew1 | refine below_set ?_ GE165.out) | exact HB.out)))); (case aL => have := LMc26.out; omega); intro v167 w30 ho hb hg hat; rw [← Ny166.out] at ho; have n0_ := Aside0.mk (blk_grown (g := gb165) (o := .cells #[.int .i64 t163, .string sy, .int .i64 x5_1, .int .i64 x6_1] 40 (0, 0)) (by (with_reducible repeat (first | refine blk_drewN ?_ _ | refine blk_drew ?_ | refine blk_alloc ?_ _)); exact BK165.out) hg (Kd.R_away HO_2.out (fun _ hk => hk))); have n1_ := Aside0.mk (hb); have n2_ := Aside0.mk (ho); clear BK165; clear HB; clear HO_2; have BK165 := n0_; have HB := n1_; have HO168 := n2_; clear n0_ n1_ n2_; clear ho hb hg hat))
                    go_roundg kj6
                    case measure => have := HK1.out; have := HJ6.out; omega
                    case rel => exact ⟨(y166), (x5_1), (wrap64 (x6_1 + t164)), (by first | rfl | (simp; done) | (simp [*]; done)), (by first | rfl | (simp; done) | (simp [*]; done)), H', ⟨by have := HK1.out; have := HJ6.out; omega⟩, ⟨by (with_reducible repeat (first | apply Kd.R_alloc | apply Kd.R_drewN | apply Kd.R_drew)); exact Kd.R_mono HO168.out (fun _ hk => trivial)⟩, ⟨by repeat (first | (with_reducible first | exact HB.out | apply below_alloc | apply pw_below_drewN | apply below_drew1 | refine below_set ?_ GE165.out) | exact HB.out)⟩⟩
                   ·
                    rw [if_neg c26] at H
                    exact absurd H (by simp)
                  ·
                   rw [if_neg c25] at H
                   exact absurd H (by simp)
                 ·
                  rw [if_neg c24] at H
                  exact absurd H (by simp)
                ·
                 rw [if_neg c23] at H
                 exact absurd H (by simp)
               ·
                rw [if_neg c21] at H
                have c21b0 : (t163 == 4) = false := beq_eq_false_iff_ne.mpr c21
                have c21b1 : (t163 != 4) = true := bne_iff_ne.mpr c21
                by_cases c31 : x2_1.length < 3518437208883
                ·
                 rw [if_pos c31] at H
                 have LMc31 := Aside0.mk c31
                 clear c31
                 obtain ⟨y169, hy169⟩ : ∃ y_ : List (S40), y_ = (x2_1 ++ [(⟨t163, a0.extract (x6_1 : Int).toNat ((wrap64 (x6_1 + t164)) : Int).toNat, x5_1, x6_1⟩ : S40)]) := ⟨_, rfl⟩
                 replace H : (culetref13_Lex.l0 kj6 a0 y169 x5_1 (wrap64 (x6_1 + t164))) = some (r1, r2, r3) := by first | (rw [hy169]; with_reducible exact H) | (have H2_ := (Option.bind_some _ _).symm.trans H; rw [hy169]; with_reducible exact H2_) | (have H2_ := (Option.bind_some _ _).symm.trans H; with_reducible exact H2_) | with_reducible exact H | (rw [hy169]; exact H) | exact H
                 have Ny169 := Aside0.mk hy169
                 clear hy169
                 have H' := Aside0.mk H
                 clear H
                 go_wp2_with (first | ((with_reducible refine gate_callee (f := 32) rfl ?_); refine goesL_ (some 24) rfl rfl Tryd.func32 (by kernel_rfl) rfl #[.string a0, .int .i64 x6_1] rfl (by (try simp only [List.map_toArray, List.map_cons, List.map_nil]); first | done | rfl | (simp only [List.length_drop, List.length_take]; rfl)) ?_; (with_reducible refine (culetref13_length.calls kj6 a0 x6_1 t163 t164 _ A15.out).mono ?_); rintro e w32 ⟨rfl, hb⟩; refine ⟨_, rfl, ?_⟩; have n0_ := Aside0.mk (Kd.R_below (by (with_reducible repeat (first | apply Kd.R_alloc | apply Kd.R_drewN | apply Kd.R_drew)); exact HO_2.out) hb); have n1_ := Aside0.mk (below_step (by repeat (first | (with_reducible first | exact HB.out | apply below_alloc | apply pw_below_drewN | apply below_drew1) | exact HB.out)) hb); clear HO_2; clear HB; have HO_2 := n0_; have HB := n1_; clear n0_ n1_; (try clear hb); (try clear hb2); (try clear hk); (try clear hi)) | ((with_reducible refine gate_dst (N := 10) rfl ?_); refine box_event ?hg (N := 10) ?hd (cs := #[.int .i64 0, .string (⟨#[]⟩ : ByteArray), .int .i64 0, .int .i64 0]) (t := 40) ?hr ?_; (case hd => rfl); (case hg => rfl); (case hr => first | (go_simp; done) | (go_simp; rfl)); intro gb165 hg w33 hbox hb; have n0_ := Aside0.mk (Kd.R_below (Kd.R_elderB (by (with_reducible repeat (first | apply Kd.R_alloc | apply Kd.R_drewN | apply Kd.R_drew)); exact HO_2.out) gb165 (Nat.le_of_eq hg.symm)) hb); have n1_ := Aside0.mk (below_step (by repeat (first | (with_reducible first | exact HB.out | apply below_alloc | apply pw_below_drewN | apply below_drew1) | exact HB.out)) hb); have n2_ := Aside0.mk (hbox); have n3_ := Aside0.mk ((by rw [hg]; exact (below_size (by repeat (first | (with_reducible first | exact HB.out | apply below_alloc | apply pw_below_drewN | apply below_drew1) | exact HB.out))) : w.heap.size ≤ gb165)); have n4_ := Aside0.mk ((by rw [hg]; exact (below_size (by repeat (first | (with_reducible first | exact HB.out | apply below_alloc | apply pw_below_drewN | apply below_drew1) | exact HB.out))) : w.heap.size ≤ gb165)); clear HO_2; clear HB; have HO_2 := n0_; have HB := n1_; have BK165 := n2_; have GW165 := n3_; have GE165 := n4_; clear n0_ n1_ n2_ n3_ n4_; clear hb hbox hg; have hcz34_0 : w33.cell? ⟨gb165, 0, none⟩ = some (.int .i64 0) := (blk_cell BK165.out 0).trans rfl; have hcz34_1 : w33.cell? ⟨gb165, 1, none⟩ = some (.string (⟨#[]⟩ : ByteArray)) := (blk_cell BK165.out 1).trans rfl; have hcz34_2 : w33.cell? ⟨gb165, 2, none⟩ = some (.int .i64 0) := (blk_cell BK165.out 2).trans rfl; have hcz34_3 : w33.cell? ⟨gb165, 3, none⟩ = some (.int .i64 0) := (blk_cell BK165.out 3).trans rfl; have hfz34_0 := blk_frozen BK165.out 0; have hfz34_1 := blk_frozen BK165.out 1; have hfz34_2 := blk_frozen BK165.out 2; have hfz34_3 := blk_frozen BK165.out 3) | ((with_reducible refine gate_builtin (b := .append) (xs := #[.tmp 51, .tmp 53]) rfl ?_); at_builtin; refine Kd.R_append k40 (w0 := w) w.heap.size rfl (.tmp 51) (.tmp 53) 27 40 (.agg #[(.int .i64 0), (.string ⟨#[]⟩), (.int .i64 0), (.int .i64 0)]) 40 rfl Tryd.underlying27 info40 rfl (by decide) (by omega) u2 x2_1 (⟨t163, a0.extract (x6_1 : Int).toNat ((wrap64 (x6_1 + t164)) : Int).toNat, x5_1, x6_1⟩ : S40) [.int .i64 t163, .string (a0.extract (x6_1 : Int).toNat ((wrap64 (x6_1 + t164)) : Int).toNat), .int .i64 x5_1, .int .i64 x6_1] (fun k_ => k_ ≠ gb165) (fun _ => False) rfl (by first | (go_simp; done) | (go_simp; rfl)) ?aP (fun _ hk => hk.elim) ?aF ?aO ?aB ?aS ?aL ?_; (case aP => exact k40_mkM _ _ _ (⟨t163, a0.extract (x6_1 : Int).toNat ((wrap64 (x6_1 + t164)) : Int).toNat, x5_1, x6_1⟩ : S40)); (case aB => exact (by repeat (first | (with_reducible first | exact HB.out | apply below_alloc | apply pw_below_drewN | apply below_drew1 | refine below_set ?_ GE165.out) | exact HB.out))); (case aF => exact (fun k_ hk => Kd.freshB (g := gb165) (o := .cells #[.int .i64 t163, .string (a0.extract (x6_1 : Int).toNat ((wrap64 (x6_1 + t164)) : Int).toNat), .int .i64 x5_1, .int .i64 x6_1] 40 (0, 0)) (by (with_reducible repeat (first | refine blk_drewN ?_ _ | refine blk_drew ?_ | refine blk_alloc ?_ _)); refine blk_put (cs := #[.int .i64 t163, .string (a0.extract (x6_1 : Int).toNat ((wrap64 (x6_1 + t164)) : Int).toNat), .int .i64 x5_1, .int .i64 0]) ?_ 3 _ rfl; (with_reducible repeat (first | refine blk_drewN ?_ _ | refine blk_drew ?_ | refine blk_alloc ?_ _)); refine blk_put (cs := #[.int .i64 t163, .string (a0.extract (x6_1 : Int).toNat ((wrap64 (x6_1 + t164)) : Int).toNat), .int .i64 0, .int .i64 0]) ?_ 2 _ rfl; (with_reducible repeat (first | refine blk_drewN ?_ _ | refine blk_drew ?_ | refine blk_alloc ?_ _)); refine blk_put (cs := #[.int .i64 t163, .string (⟨#[]⟩ : ByteArray), .int .i64 0, .int .i64 0]) ?_ 1 _ rfl; (with_reducible repeat (first | refine blk_drewN ?_ _ | refine blk_drew ?_ | refine blk_alloc ?_ _)); refine blk_put (cs := #[.int .i64 0, .string (⟨#[]⟩ : ByteArray), .int .i64 0, .int .i64 0]) ?_ 0 _ rfl; (with_reducible repeat (first | refine blk_drewN ?_ _ | refine blk_drew ?_ | refine blk_alloc ?_ _)); exact BK165.out) k_ hk)); (case aO => exact (by (with_reducible repeat (first | apply Kd.R_alloc | apply Kd.R_drewN | apply Kd.R_drew)); exact Kd.R_mono (Kd.R_far (p := ⟨gb165, 3, none⟩) (Kd.R_far (p := ⟨gb165, 2, none⟩) (Kd.R_far (p := ⟨gb165, 1, none⟩) (Kd.R_far (p := ⟨gb165, 0, none⟩) (Kd.R_mono HO_2.out (fun k_ hk => (⟨hk, hk.2⟩ : _ ∧ k_ ≠ gb165))) (fun _ hk => hk.2) (.int .i64 t163)) (fun _ hk => hk.2) (.string (a0.extract (x6_1 : Int).toNat ((wrap64 (x6_1 + t164)) : Int).toNat))) (fun _ hk => hk.2) (.int .i64 x5_1)) (fun _ hk => hk.2) (.int .i64 x6_1)) (fun _ hk => hk.1.2))); (case aS => exact (below_size (by repeat (first | (with_reducible first | exact HB.out | apply below_alloc | apply pw_below_drewN | apply below_drew1 | refine below_set ?_ GE165.out) | exact HB.out)))); (case aL => have := LMc31.out; omega); intro v170 w35 ho hb hg hat; rw [← Ny169.out] at ho; have n0_ := Aside0.mk (blk_grown (g := gb165) (o := .cells #[.int .i64 t163, .string (a0.extract (x6_1 : Int).toNat ((wrap64 (x6_1 + t164)) : Int).toNat), .int .i64 x5_1, .int .i64 x6_1] 40 (0, 0)) (by (with_reducible repeat (first | refine blk_drewN ?_ _ | refine blk_drew ?_ | refine blk_alloc ?_ _)); refine blk_put (cs := #[.int .i64 t163, .string (a0.extract (x6_1 : Int).toNat ((wrap64 (x6_1 + t164)) : Int).toNat), .int .i64 x5_1, .int .i64 0]) ?_ 3 _ rfl; (with_reducible repeat (first | refine blk_drewN ?_ _ | refine blk_drew ?_ | refine blk_alloc ?_ _)); refine blk_put (cs := #[.int .i64 t163, .string (a0.extract (x6_1 : Int).toNat ((wrap64 (x6_1 + t164)) : Int).toNat), .int .i64 0, .int .i64 0]) ?_ 2 _ rfl; (with_reducible repeat (first | refine blk_drewN ?_ _ | refine blk_drew ?_ | refine blk_alloc ?_ _)); refine blk_put (cs := #[.int .i64 t163, .string (⟨#[]⟩ : ByteArray), .int .i64 0, .int .i64 0]) ?_ 1 _ rfl; (with_reducible repeat (first | refine blk_drewN ?_ _ | refine blk_drew ?_ | refine blk_alloc ?_ _)); refine blk_put (cs := #[.int .i64 0, .string (⟨#[]⟩ : ByteArray), .int .i64 0, .int .i64 0]) ?_ 0 _ rfl; (with_reducible repeat (first | refine blk_drewN ?_ _ | refine blk_drew ?_ | refine blk_alloc ?_ _)); exact BK165.out) hg (Kd.R_away HO_2.out (fun _ hk => hk.2))); have n1_ := Aside0.mk (hb); have n2_ := Aside0.mk (ho); clear BK165; clear HB; clear HO_2; have BK165 := n0_; have HB := n1_; have HO171 := n2_; clear n0_ n1_ n2_; clear ho hb hg hat))
                 go_roundg kj6
                 case measure => have := HK1.out; have := HJ6.out; omega
                 case rel => exact ⟨(y169), (x5_1), (wrap64 (x6_1 + t164)), (by first | rfl | (simp; done) | (simp [*]; done)), (by first | rfl | (simp; done) | (simp [*]; done)), H', ⟨by have := HK1.out; have := HJ6.out; omega⟩, ⟨by (with_reducible repeat (first | apply Kd.R_alloc | apply Kd.R_drewN | apply Kd.R_drew)); exact Kd.R_mono HO171.out (fun _ hk => trivial)⟩, ⟨by repeat (first | (with_reducible first | exact HB.out | apply below_alloc | apply pw_below_drewN | apply below_drew1 | refine below_set ?_ GE165.out) | exact HB.out)⟩⟩
                ·
                 rw [if_neg c31] at H
                 exact absurd H (by simp)
              ·
               rw [if_neg c20] at H
               exact absurd H (by simp)
             ·
              rw [if_neg c19] at H
              exact absurd H (by simp)
            ·
             rw [if_neg c18] at H
             exact absurd H (by simp)
     ·
      rw [if_neg c4] at H
      exact absurd H (by simp)
    ·
     rw [if_neg c3] at H
     have c3b0 : decide (x6_1 < (a0.size : Int)) = false := decide_eq_false c3
     clear c3
     simp only [Option.some.injEq, Prod.mk.injEq] at H
     obtain ⟨rfl, rfl, rfl⟩ := H
     go_wp2
     go_ret3
     exact ⟨_, by first | rfl | (simp [errW_none, errW_some] <;> rfl) | (simp [*, errW_none, errW_some] <;> rfl), by (with_reducible repeat (first | apply Kd.R_alloc | apply Kd.R_drewN | apply Kd.R_drew)); exact HO_2.out, by repeat (first | (with_reducible first | exact HB.out | apply below_alloc | apply pw_below_drewN | apply below_drew1) | exact HB.out)⟩

end Go.Proofs.YthjmbagkomnpgaaDoor.L
