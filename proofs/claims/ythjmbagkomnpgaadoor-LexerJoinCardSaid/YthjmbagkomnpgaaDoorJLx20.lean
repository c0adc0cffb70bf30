-- Written by this session's own programs; what the law does not lean on is left out. Lean checks it.
import Derived.Test.YthjmbagkomnpgaaDoorJS
import Derived.Test.YthjmbagkomnpgaaDoorJLx16
import Derived.Test.YthjmbagkomnpgaaDoorJR
import Derived.Test.YthjmbagkomnpgaaDoorJDr
namespace Go.Proofs.YthjmbagkomnpgaaDoor.L
open Go.RowKit Go.Proofs.YthjmbagkomnpgaaDoorW.PrintWords Go.Proofs.YthjmbagkomnpgaaDoorW.PrintLast Go.Proofs.YthjmbagkomnpgaaDoorW.PrintMore Go.Proofs.YthjmbagkomnpgaaDoorD Go.Proofs.YthjmbagkomnpgaaDoorD
set_option linter.unusedVariables false
set_option linter.unusedSimpArgs false

def lexer_Apart.f (k : Nat) (a0_0 : Int) (a0_1 : ByteArray) (a0_2 : Int) (a0_3 : Int) (a1_0 : Int) (a1_1 : ByteArray) (a1_2 : Int) (a1_3 : Int) : Option (Bool) := (lexer_Source.f a0_0 a0_1 a0_2 a0_3).bind fun t147 => ((lexer_Source.f a1_0 a1_1 a1_2 a1_3).bind fun t148 => (if t147.size + t148.size ≤ 9223372036854775807 then ((lexer_Lex.f k (t147 ++ t148)).bind fun bt149 => (if bt149.2.2 = 0 then (if (bt149.1.length : Int) = 2 then (if 0 < (bt149.1.length : Int) then (if ((rd_T38 bt149.1 0).f0) = a0_0 then (if ((rd_T38 bt149.1 0).f1).toList = a0_1.toList then (if 1 < (bt149.1.length : Int) then (if ((rd_T38 bt149.1 1).f0) = a1_0 then (some (((rd_T38 bt149.1 1).f1).toList != a1_1.toList)) else (some true)) else (none)) else (some true)) else (some true)) else (none)) else (some true)) else (some true))) else (none)))
def lexer_Apart.T1 : Bool × List (List Nat × List Nat) := (true, [([], []), ([0], [0]), ([], []), ([2, 1], [2]), ([1, 3], [1, 3]), ([4, 3], [4]), ([5], [5]), ([6], [6]), ([6], [6]), ([6], [6]), ([7, 5, 0, 1, 2, 3, 4, 5, 6, 7], [7]), ([8, 10, 0, 1, 2, 3, 4, 5, 6, 7, 8, 10], [8]), ([9, 11, 0, 1, 2, 3, 4, 5, 6, 7, 8, 9, 10, 11], [9])])
def lexer_Apart.B1 : List Nat := [0, 1, 0, 7, 15, 31, 63, 127, 127, 127, 255, 1535, 4095]
theorem lexer_Apart.tab1 : rtab .any (opsOf Tryd.f24 1) = lexer_Apart.T1 := by kernel_rfl
theorem lexer_Apart.bits1 : waitsOk lexer_Apart.T1.2 lexer_Apart.B1 = true := by kernel_rfl
def lexer_Apart.T4 : Bool × List (List Nat × List Nat) := (true, [([], []), ([0], [0]), ([1], [1]), ([2], [2]), ([], []), ([4], [4]), ([3, 5], [3, 5]), ([6], [6]), ([7], [7]), ([8, 7], [7, 8]), ([9, 7], [7, 9]), ([10, 7], [7, 10]), ([7], [7]), ([12, 7], [7, 12]), ([11, 13, 7], [7, 11, 13]), ([7, 14], [7, 14]), ([15, 7], [15]), ([16], [16]), ([17, 16], [16, 17]), ([18, 16], [16, 18]), ([19, 16], [16, 19]), ([16], [16]), ([21, 16], [16, 21]), ([20, 22, 16], [16, 20, 22]), ([16, 23], [16, 23]), ([24, 16], [24]), ([25], [25]), ([26, 25], [25, 26]), ([27, 25], [25, 27]), ([28, 25], [25, 28]), ([25], [25]), ([30, 25], [25, 30]), ([29, 31, 25], [25, 29, 31]), ([25, 32], [25, 32]), ([33, 25, 0, 1, 2, 3, 4, 5, 6, 7, 8, 9, 10, 11, 12, 13, 14, 15, 16, 17, 18, 19, 20, 21, 22, 23, 24, 25, 26, 27, 28, 29, 30, 31, 32, 33], [33])])
def lexer_Apart.B4 : List Nat := [0, 1, 3, 7, 0, 16, 63, 127, 255, 511, 1023, 2047, 255, 4351, 16383, 32767, 65535, 131071, 262143, 524287, 1048575, 131071, 2228223, 8388607, 16777215, 33554431, 67108863, 134217727, 268435455, 536870911, 67108863, 1140850687, 4294967295, 8589934591, 17179869183]
theorem lexer_Apart.tab4 : rtab .any (opsOf Tryd.f24 4) = lexer_Apart.T4 := by kernel_rfl
theorem lexer_Apart.bits4 : waitsOk lexer_Apart.T4.2 lexer_Apart.B4 = true := by kernel_rfl
set_option maxHeartbeats 8000000 in
set_option maxRecDepth 100000 in
theorem lexer_Apart.calls (k : Nat) (a0_0 : Int) (a0_1 : ByteArray) (a0_2 : Int) (a0_3 : Int) (a1_0 : Int) (a1_1 : ByteArray) (a1_2 : Int) (a1_3 : Int) (r : Bool) (w : World) (h : lexer_Apart.f k a0_0 a0_1 a0_2 a0_3 a1_0 a1_1 a1_2 a1_3 = some r) :
  Calls Tryd.prog 24 #[.agg #[.int .i64 a0_0, .string a0_1, .int .i64 a0_2, .int .i64 a0_3], .agg #[.int .i64 a1_0, .string a1_1, .int .i64 a1_2, .int .i64 a1_3]] w fun e w' => e = .returned (.bool r) ∧ Below w.heap.size w w' := by
 have hu38 := Tryd.underlying38
 have HB := am_ (Below.refl w.heap.size w)
 have H : ((lexer_Source.f a0_0 a0_1 a0_2 a0_3).bind fun t147 => ((lexer_Source.f a1_0 a1_1 a1_2 a1_3).bind fun t148 => (if t147.size + t148.size ≤ 9223372036854775807 then ((lexer_Lex.f k (t147 ++ t148)).bind fun bt149 => (if bt149.2.2 = 0 then (if (bt149.1.length : Int) = 2 then (if 0 < (bt149.1.length : Int) then (if ((rd_T38 bt149.1 0).f0) = a0_0 then (if ((rd_T38 bt149.1 0).f1).toList = a0_1.toList then (if 1 < (bt149.1.length : Int) then (if ((rd_T38 bt149.1 1).f0) = a1_0 then (some (((rd_T38 bt149.1 1).f1).toList != a1_1.toList)) else (some true)) else (none)) else (some true)) else (some true)) else (none)) else (some true)) else (some true))) else (none)))) = some r := h
 clear h
 replace H := Option.bind_eq_some_iff.mp H
 obtain ⟨t147, A30, H⟩ := H
 replace H : ((lexer_Source.f a1_0 a1_1 a1_2 a1_3).bind fun t148 => (if t147.size + t148.size ≤ 9223372036854775807 then ((lexer_Lex.f k (t147 ++ t148)).bind fun bt149 => (if bt149.2.2 = 0 then (if (bt149.1.length : Int) = 2 then (if 0 < (bt149.1.length : Int) then (if ((rd_T38 bt149.1 0).f0) = a0_0 then (if ((rd_T38 bt149.1 0).f1).toList = a0_1.toList then (if 1 < (bt149.1.length : Int) then (if ((rd_T38 bt149.1 1).f0) = a1_0 then (some (((rd_T38 bt149.1 1).f1).toList != a1_1.toList)) else (some true)) else (none)) else (some true)) else (some true)) else (none)) else (some true)) else (some true))) else (none))) = some r := H
 have A3 := am_ A30
 clear A30
 replace H := Option.bind_eq_some_iff.mp H
 obtain ⟨t148, A40, H⟩ := H
 replace H : (if t147.size + t148.size ≤ 9223372036854775807 then ((lexer_Lex.f k (t147 ++ t148)).bind fun bt149 => (if bt149.2.2 = 0 then (if (bt149.1.length : Int) = 2 then (if 0 < (bt149.1.length : Int) then (if ((rd_T38 bt149.1 0).f0) = a0_0 then (if ((rd_T38 bt149.1 0).f1).toList = a0_1.toList then (if 1 < (bt149.1.length : Int) then (if ((rd_T38 bt149.1 1).f0) = a1_0 then (some (((rd_T38 bt149.1 1).f1).toList != a1_1.toList)) else (some true)) else (none)) else (some true)) else (some true)) else (none)) else (some true)) else (some true))) else (none)) = some r := H
 have A4 := am_ A40
 clear A40
 by_cases c5 : t147.size + t148.size ≤ 9223372036854775807
 ·
  rw [if_pos c5] at H
  have c5b0 := eq_true c5
  have c5b1 : decide (t147.size + t148.size ≤ 9223372036854775807) = true := decide_eq_true c5
  try have c5b2 : (9223372036854775807 < t147.size + t148.size) = False := eq_false (Nat.not_lt.2 c5)
  replace H := Option.bind_eq_some_iff.mp H
  obtain ⟨⟨t149, t150, t151⟩, A60, H⟩ := H
  replace H : (if t151 = 0 then (if (t149.length : Int) = 2 then (if 0 < (t149.length : Int) then (if ((rd_T38 t149 0).f0) = a0_0 then (if ((rd_T38 t149 0).f1).toList = a0_1.toList then (if 1 < (t149.length : Int) then (if ((rd_T38 t149 1).f0) = a1_0 then (some (((rd_T38 t149 1).f1).toList != a1_1.toList)) else (some true)) else (none)) else (some true)) else (some true)) else (none)) else (some true)) else (some true)) = some r := H
  have A6 := am_ A60
  clear A60
  by_cases c7 : t151 = 0
  ·
   rw [if_pos c7] at H
   have c7b0 : (t151 == 0) = true := beq_iff_eq.mpr c7
   have c7b1 : (t151 != 0) = false := bne_eq_false_iff_eq.mpr c7
   clear c7
   by_cases c8 : (t149.length : Int) = 2
   ·
    rw [if_pos c8] at H
    have c8b0 : ((t149.length : Int) == 2) = true := beq_iff_eq.mpr c8
    have c8b1 : ((t149.length : Int) != 2) = false := bne_eq_false_iff_eq.mpr c8
    clear c8
    by_cases c9 : 0 < (t149.length : Int)
    ·
     rw [if_pos c9] at H
     have c9b0 : decide (0 < (t149.length : Int)) = true := decide_eq_true c9
     have c9b1 : decide (0 < t149.length) = true := decide_eq_true (by omega)
     clear c9
     by_cases c10 : ((rd_T38 t149 0).f0) = a0_0
     ·
      rw [if_pos c10] at H
      have c10b0 : (((rd_T38 t149 0).f0) == a0_0) = true := beq_iff_eq.mpr c10
      have c10b1 : (((rd_T38 t149 0).f0) != a0_0) = false := bne_eq_false_iff_eq.mpr c10
      clear c10
      by_cases c11 : ((rd_T38 t149 0).f1).toList = a0_1.toList
      ·
       rw [if_pos c11] at H
       have c11b0 : (((rd_T38 t149 0).f1).toList == a0_1.toList) = true := beq_iff_eq.mpr c11
       have c11b1 : (((rd_T38 t149 0).f1).toList != a0_1.toList) = false := bne_eq_false_iff_eq.mpr c11
       clear c11
       by_cases c12 : 1 < (t149.length : Int)
       ·
        rw [if_pos c12] at H
        have c12b0 : decide (1 < (t149.length : Int)) = true := decide_eq_true c12
        have c12b1 : decide (1 < t149.length) = true := decide_eq_true (by omega)
        clear c12
        by_cases c13 : ((rd_T38 t149 1).f0) = a1_0
        ·
         rw [if_pos c13] at H
         have c13b0 : (((rd_T38 t149 1).f0) == a1_0) = true := beq_iff_eq.mpr c13
         have c13b1 : (((rd_T38 t149 1).f0) != a1_0) = false := bne_eq_false_iff_eq.mpr c13
         clear c13
         obtain rfl := Option.some.inj H
         go_enter Tryd.func24, Tryd.ntmps24
         try go_wp2_with (first | ((with_reducible refine gate_dst (N := 2) rfl ?_); (try (refine gate_guard (by rfl) ?_; dsimp only)); refine bev (N := 2) (cs := #[.int .i64 a0_0, .string a0_1, .int .i64 a0_2, .int .i64 a0_3]) (t := 38) ?_; intro gb145 hg w14 hbox hb; have n0_ := am_ (below_step (mb_ HB.out) hb); have n1_ := am_ (hbox); have n2_ := am_ ((bz_ hg (mb_ HB.out) : w.heap.size ≤ gb145)); have n3_ := am_ ((bz_ hg (mb_ HB.out) : w.heap.size ≤ gb145)); clear HB; have HB := n0_; have BK145 := n1_; have GW145 := n2_; have GE145 := n3_; clear n0_ n1_ n2_ n3_; clear hb hbox hg) | ((with_reducible refine gate_dst (N := 3) rfl ?_); (try (refine gate_guard (by rfl) ?_; dsimp only)); refine bev (N := 3) (cs := #[.int .i64 a1_0, .string a1_1, .int .i64 a1_2, .int .i64 a1_3]) (t := 38) ?_; intro gb146 hg w15 hbox hb; have n0_ := am_ (blk_below (mk_ BK145.out) hb); have n1_ := am_ (below_step (mb_ HB.out) hb); have n2_ := am_ (hbox); have n3_ := am_ ((bz_ hg (mb_ HB.out) : w.heap.size ≤ gb146)); have n4_ := am_ ((bz_ hg (mb_ HB.out) : w.heap.size ≤ gb146)); have n5_ := am_ ((nl_ hg (mk_ BK145.out) : gb145 ≠ gb146)); have n6_ := am_ ((ng_ hg (mk_ BK145.out) : gb146 ≠ gb145)); clear BK145 HB; have BK145 := n0_; have HB := n1_; have BK146 := n2_; have GW146 := n3_; have GE146 := n4_; have NB145_146 := n5_; have NB146_145 := n6_; clear n0_ n1_ n2_ n3_ n4_ n5_ n6_; clear hb hbox hg))
         have z_ := aI (am_ (blk_drew BK145.out)) (aI (am_ (blk_drew BK146.out)) (am_ (below_drew1 HB.out)))
         clear BK145 BK146 HB
         obtain ⟨BK145, BK146, HB⟩ := z_
         refine start_ (n := 13) (S := fun w' => w'.cell? ⟨gb145, 0, none⟩ = some (.int .i64 a0_0) ∧ w'.cell? ⟨gb145, 1, none⟩ = some (.string a0_1) ∧ w'.cell? ⟨gb145, 2, none⟩ = some (.int .i64 a0_2) ∧ w'.cell? ⟨gb145, 3, none⟩ = some (.int .i64 a0_3) ∧ w'.cell? ⟨gb146, 0, none⟩ = some (.int .i64 a1_0) ∧ w'.cell? ⟨gb146, 1, none⟩ = some (.string a1_1) ∧ w'.cell? ⟨gb146, 2, none⟩ = some (.int .i64 a1_2) ∧ w'.cell? ⟨gb146, 3, none⟩ = some (.int .i64 a1_3)) (ds := []) #[false, false, false, false, false, false, false, false, false, false, false, false, false] (by kernel_rfl) rfl rfl ⟨(blk_cell BK145.out 0).trans rfl, (blk_cell BK145.out 1).trans rfl, (blk_cell BK145.out 2).trans rfl, (blk_cell BK145.out 3).trans rfl, (blk_cell BK146.out 0).trans rfl, (blk_cell BK146.out 1).trans rfl, (blk_cell BK146.out 2).trans rfl, (blk_cell BK146.out 3).trans rfl⟩ (fun hHeld => ?_); refine with_tabW lexer_Apart.tab1 lexer_Apart.bits1 (fun HT_ HW_ => ?_)
         generalize w15.drew = w16 at BK145 BK146 HB hHeld ⊢
         refine take_ (i := 0) (N := some 9) (v := ?_) (a' := ?_) #[true, false, false, false, false, false, false, false, false, false, false, false, false] rfl rfl (take_ofW HT_.out HW_.out (by kernel_rfl)) (fun _ _ _ h => h) (Or.inl ⟨by rfl, ?_⟩) hHeld ?_ ?_
         rotate_left
         ·
          rintro w' ⟨s0, s1, s2, s3, s4, s5, s6, s7⟩
          go_simp
          with_reducible rfl
         rotate_left
         ·
          simp only [Act.put, List.setIfInBounds_toArray, List.set_cons_zero, List.set_cons_succ, i64_w, i32_w]
          rfl
         refine take_ (i := 2) (N := some 11) (v := ?_) (a' := ?_) #[true, false, true, false, false, false, false, false, false, false, false, false, false] rfl rfl (take_ofW HT_.out HW_.out (by kernel_rfl)) (fun _ _ _ h => h) (Or.inl ⟨by rfl, ?_⟩) hHeld ?_ ?_
         rotate_left
         ·
          rintro w' ⟨s0, s1, s2, s3, s4, s5, s6, s7⟩
          go_simp
          with_reducible rfl
         rotate_left
         ·
          simp only [Act.put, List.setIfInBounds_toArray, List.set_cons_zero, List.set_cons_succ, i64_w, i32_w]
          rfl
         refine one_ (i := 1) (N := some 10) #[true, true, true, false, false, false, false, false, false, false, false, false, false] rfl rfl (one_of HT_.out (by kernel_rfl)) (by decide) (fun K hK => ?_)
         refine goes_ Tryd.func23 (by kernel_rfl) rfl #[.agg #[.int .i64 a0_0, .string a0_1, .int .i64 a0_2, .int .i64 a0_3]] (by rfl) rfl rfl (by (try simp only [List.map_toArray, List.map_cons, List.map_nil]); first | done | rfl | (simp only [List.length_drop, List.length_take]; rfl)) ?_
         with_reducible refine (lexer_Source.calls a0_0 a0_1 a0_2 a0_3 t147 _ A3.out).mono ?_
         rintro e w17 ⟨rfl, hb⟩
         refine ⟨_, rfl, ?_⟩
         have z_ := aI (am_ (blk_below (mk_ BK145.out) hb)) (aI (am_ (blk_below (mk_ BK146.out) hb)) (am_ (below_step (mb_ HB.out) hb)))
         clear BK145 BK146 HB
         obtain ⟨BK145, BK146, HB⟩ := z_
         (try clear hb)
         (try clear hb2)
         (try clear hk)
         (try clear hi)
         refine hK.out _ _ ⟨(blk_cell BK145.out 0).trans rfl, (blk_cell BK145.out 1).trans rfl, (blk_cell BK145.out 2).trans rfl, (blk_cell BK145.out 3).trans rfl, (blk_cell BK146.out 0).trans rfl, (blk_cell BK146.out 1).trans rfl, (blk_cell BK146.out 2).trans rfl, (blk_cell BK146.out 3).trans rfl⟩ (fun hHeld => ?_)
         clear hK K
         refine norm_ (a' := ?_) ?_ ?_
         rotate_left
         ·
          show Act.put _ (some 10) _ = _
          simp only [Act.put, List.setIfInBounds_toArray, List.set_cons_zero, List.set_cons_succ, i64_w, i32_w]
          rfl
         refine one_ (i := 3) (N := some 12) #[true, true, true, true, false, false, false, false, false, false, false, false, false] rfl rfl (one_of HT_.out (by kernel_rfl)) (by decide) (fun K hK => ?_)
         refine goes_ Tryd.func23 (by kernel_rfl) rfl #[.agg #[.int .i64 a1_0, .string a1_1, .int .i64 a1_2, .int .i64 a1_3]] (by rfl) rfl rfl (by (try simp only [List.map_toArray, List.map_cons, List.map_nil]); first | done | rfl | (simp only [List.length_drop, List.length_take]; rfl)) ?_
         with_reducible refine (lexer_Source.calls a1_0 a1_1 a1_2 a1_3 t148 _ A4.out).mono ?_
         rintro e w18 ⟨rfl, hb⟩
         refine ⟨_, rfl, ?_⟩
         have z_ := aI (am_ (blk_below (mk_ BK145.out) hb)) (aI (am_ (blk_below (mk_ BK146.out) hb)) (am_ (below_step (mb_ HB.out) hb)))
         clear BK145 BK146 HB
         obtain ⟨BK145, BK146, HB⟩ := z_
         (try clear hb)
         (try clear hb2)
         (try clear hk)
         (try clear hi)
         refine hK.out _ _ ⟨(blk_cell BK145.out 0).trans rfl, (blk_cell BK145.out 1).trans rfl, (blk_cell BK145.out 2).trans rfl, (blk_cell BK145.out 3).trans rfl, (blk_cell BK146.out 0).trans rfl, (blk_cell BK146.out 1).trans rfl, (blk_cell BK146.out 2).trans rfl, (blk_cell BK146.out 3).trans rfl⟩ (fun hHeld => ?_)
         clear hK K
         refine norm_ (a' := ?_) ?_ ?_
         rotate_left
         ·
          show Act.put _ (some 12) _ = _
          simp only [Act.put, List.setIfInBounds_toArray, List.set_cons_zero, List.set_cons_succ, i64_w, i32_w]
          rfl
         refine pure_ (i := 4) (N := some 13) (v := ?_) (a' := ?_) #[true, true, true, true, true, false, false, false, false, false, false, false, false] rfl rfl (any_of HT_.out (by kernel_rfl)) (fun _ _ _ h => h) (Or.inl ⟨by rfl, ?_⟩) ?_ ?_
         rotate_left
         ·
          intro w'
          go_simp
          with_reducible rfl
         rotate_left
         ·
          simp only [Act.put, List.setIfInBounds_toArray, List.set_cons_zero, List.set_cons_succ, i64_w, i32_w]
          rfl
         refine one_ (i := 5) (N := some 14) #[true, true, true, true, true, true, false, false, false, false, false, false, false] rfl rfl (one_of HT_.out (by kernel_rfl)) (by decide) (fun K hK => ?_)
         refine goes_ Tryd.func11 (by kernel_rfl) rfl #[.string (t147 ++ t148)] (by rfl) rfl rfl (by (try simp only [List.map_toArray, List.map_cons, List.map_nil]); first | done | rfl | (simp only [List.length_drop, List.length_take]; rfl)) ?_
         with_reducible refine (lexer_Lex.calls k (t147 ++ t148) t149 t150 t151 _ A6.out).mono ?_
         rintro e w19 ⟨v152, rfl, ho0, hb⟩
         refine ⟨_, rfl, ?_⟩
         have z_ := aI (am_ (Kd.R_lower (Kd.R_newB (Kd.R_newB ho0 (g := gb145) (o := .cells #[.int .i64 a0_0, .string a0_1, .int .i64 a0_2, .int .i64 a0_3] 38 (0, 0)) (mk_ BK145.out)) (g := gb146) (o := .cells #[.int .i64 a1_0, .string a1_1, .int .i64 a1_2, .int .i64 a1_3] 38 (0, 0)) (mk_ BK146.out)) (below_size (mb_ HB.out)))) (aI (am_ (blk_below (mk_ BK145.out) hb)) (aI (am_ (blk_below (mk_ BK146.out) hb)) (am_ (below_step (mb_ HB.out) hb))))
         clear BK145 BK146 HB
         obtain ⟨HO153, BK145, BK146, HB⟩ := z_
         (try clear hb)
         (try clear hb2)
         (try clear hk)
         (try clear hi)
         (try clear ho0)
         refine hK.out _ _ ⟨(blk_cell BK145.out 0).trans rfl, (blk_cell BK145.out 1).trans rfl, (blk_cell BK145.out 2).trans rfl, (blk_cell BK145.out 3).trans rfl, (blk_cell BK146.out 0).trans rfl, (blk_cell BK146.out 1).trans rfl, (blk_cell BK146.out 2).trans rfl, (blk_cell BK146.out 3).trans rfl⟩ (fun hHeld => ?_)
         clear hK K
         refine norm_ (a' := ?_) ?_ ?_
         rotate_left
         ·
          show Act.put _ (some 14) _ = _
          simp only [Act.put, List.setIfInBounds_toArray, List.set_cons_zero, List.set_cons_succ, i64_w, i32_w]
          rfl
         refine ltd (o := [0, 1, 2, 3, 4, 5, 6, 7, 8, 9, 10, 11, 12]) (n := 6) (m := 13) (by kernel_rfl) ?_
         iterate 7 (first | (refine pnd (v := ?_) (a' := ?_) rfl rfl (any_of HT_.out (by kernel_rfl)) (fun _ _ _ h => h) (Or.inl ⟨by rfl, ?_⟩) ?_ ?_; rotate_left; (· (intro w'; go_simp; with_reducible rfl)); rotate_left; (· (show Act.put _ (some _) _ = _; simp only [Act.put, List.setIfInBounds_toArray, List.set_cons_zero, List.set_cons_succ, i64_w, i32_w]; rfl))))
         refine done_ (done_of HT_.out (by kernel_rfl)) ?_
         obtain ⟨Ao20, co20, eo20⟩ := Kd.R_slice HO153.out
         subst eo20
         try go_wp2
         have z_ := aI (am_ (Kd.R_drew HO153.out)) (aI (am_ (blk_drew BK145.out)) (aI (am_ (blk_drew BK146.out)) (am_ (below_drew1 HB.out))))
         clear HO153 BK145 BK146 HB
         obtain ⟨HO153, BK145, BK146, HB⟩ := z_
         have p154 : 0 ≤ (0 : Int) := (by omega)
         have q154 : 0 < (t149.length : Int) := of_decide_eq_true (by first | (with_reducible assumption) | assumption)
         obtain ⟨ad154, e154, hx154_0, hx154_1, hx154_2, hx154_3⟩ := at_T38 (Kd.R_reads' HO153.out).2.2 0 p154 q154
         cases e154
         have qi154 : (0 < t149.length) = True := eq_true (by omega)
         (try rw [show ((0 : Int)).toNat = 0 from rfl] at hx154_0)
         (try rw [show 0 * 4 = 0 from rfl] at hx154_0)
         (try rw [Addr.add_zero'] at hx154_0)
         (try rw [show ((0 : Int)).toNat = 0 from rfl] at hx154_1)
         (try rw [show 0 * 4 = 0 from rfl] at hx154_1)
         (try rw [Addr.add_zero'] at hx154_1)
         (try rw [show ((0 : Int)).toNat = 0 from rfl] at hx154_2)
         (try rw [show 0 * 4 = 0 from rfl] at hx154_2)
         (try rw [Addr.add_zero'] at hx154_2)
         (try rw [show ((0 : Int)).toNat = 0 from rfl] at hx154_3)
         (try rw [show 0 * 4 = 0 from rfl] at hx154_3)
         (try rw [Addr.add_zero'] at hx154_3)
         replace p154 := eq_true p154
         replace q154 := eq_true q154
         have p155 : 0 ≤ (0 : Int) := (by omega)
         have q155 : 0 < (t149.length : Int) := of_decide_eq_true (by first | (with_reducible assumption) | assumption)
         obtain ⟨ad155, e155, hx155_0, hx155_1, hx155_2, hx155_3⟩ := at_T38 (Kd.R_reads' HO153.out).2.2 0 p155 q155
         obtain rfl : ad154 = ad155 := (by injection e155)
         have qi155 : (0 < t149.length) = True := eq_true (by omega)
         (try rw [show ((0 : Int)).toNat = 0 from rfl] at hx155_0)
         (try rw [show 0 * 4 = 0 from rfl] at hx155_0)
         (try rw [Addr.add_zero'] at hx155_0)
         (try rw [show ((0 : Int)).toNat = 0 from rfl] at hx155_1)
         (try rw [show 0 * 4 = 0 from rfl] at hx155_1)
         (try rw [Addr.add_zero'] at hx155_1)
         (try rw [show ((0 : Int)).toNat = 0 from rfl] at hx155_2)
         (try rw [show 0 * 4 = 0 from rfl] at hx155_2)
         (try rw [Addr.add_zero'] at hx155_2)
         (try rw [show ((0 : Int)).toNat = 0 from rfl] at hx155_3)
         (try rw [show 0 * 4 = 0 from rfl] at hx155_3)
         (try rw [Addr.add_zero'] at hx155_3)
         replace p155 := eq_true p155
         replace q155 := eq_true q155
         have p156 : 0 ≤ (1 : Int) := (by omega)
         have q156 : 1 < (t149.length : Int) := of_decide_eq_true (by first | (with_reducible assumption) | assumption)
         obtain ⟨ad156, e156, hx156_0, hx156_1, hx156_2, hx156_3⟩ := at_T38 (Kd.R_reads' HO153.out).2.2 1 p156 q156
         obtain rfl : ad154 = ad156 := (by injection e156)
         (try simp only [show (1 : Int).toNat = 1 from rfl, Nat.reduceMul, Nat.reduceEqDiff, Go.Addr.add, ↓reduceIte] at hx156_0)
         (try simp only [show (1 : Int).toNat = 1 from rfl, Nat.reduceMul, Nat.reduceEqDiff, Go.Addr.add, ↓reduceIte] at hx156_1)
         (try simp only [show (1 : Int).toNat = 1 from rfl, Nat.reduceMul, Nat.reduceEqDiff, Go.Addr.add, ↓reduceIte] at hx156_2)
         (try simp only [show (1 : Int).toNat = 1 from rfl, Nat.reduceMul, Nat.reduceEqDiff, Go.Addr.add, ↓reduceIte] at hx156_3)
         have qi156 : (1 < t149.length) = True := eq_true (by omega)
         (try rw [show ((1 : Int)).toNat = 1 from rfl] at hx156_0)
         (try rw [show 1 * 4 = 4 from rfl] at hx156_0)
         (try rw [show ((1 : Int)).toNat = 1 from rfl] at hx156_1)
         (try rw [show 1 * 4 = 4 from rfl] at hx156_1)
         (try rw [show ((1 : Int)).toNat = 1 from rfl] at hx156_2)
         (try rw [show 1 * 4 = 4 from rfl] at hx156_2)
         (try rw [show ((1 : Int)).toNat = 1 from rfl] at hx156_3)
         (try rw [show 1 * 4 = 4 from rfl] at hx156_3)
         replace p156 := eq_true p156
         replace q156 := eq_true q156
         have p157 : 0 ≤ (1 : Int) := (by omega)
         have q157 : 1 < (t149.length : Int) := of_decide_eq_true (by first | (with_reducible assumption) | assumption)
         obtain ⟨ad157, e157, hx157_0, hx157_1, hx157_2, hx157_3⟩ := at_T38 (Kd.R_reads' HO153.out).2.2 1 p157 q157
         obtain rfl : ad154 = ad157 := (by injection e157)
         (try simp only [show (1 : Int).toNat = 1 from rfl, Nat.reduceMul, Nat.reduceEqDiff, Go.Addr.add, ↓reduceIte] at hx157_0)
         (try simp only [show (1 : Int).toNat = 1 from rfl, Nat.reduceMul, Nat.reduceEqDiff, Go.Addr.add, ↓reduceIte] at hx157_1)
         (try simp only [show (1 : Int).toNat = 1 from rfl, Nat.reduceMul, Nat.reduceEqDiff, Go.Addr.add, ↓reduceIte] at hx157_2)
         (try simp only [show (1 : Int).toNat = 1 from rfl, Nat.reduceMul, Nat.reduceEqDiff, Go.Addr.add, ↓reduceIte] at hx157_3)
         have qi157 : (1 < t149.length) = True := eq_true (by omega)
         (try rw [show ((1 : Int)).toNat = 1 from rfl] at hx157_0)
         (try rw [show 1 * 4 = 4 from rfl] at hx157_0)
         (try rw [show ((1 : Int)).toNat = 1 from rfl] at hx157_1)
         (try rw [show 1 * 4 = 4 from rfl] at hx157_1)
         (try rw [show ((1 : Int)).toNat = 1 from rfl] at hx157_2)
         (try rw [show 1 * 4 = 4 from rfl] at hx157_2)
         (try rw [show ((1 : Int)).toNat = 1 from rfl] at hx157_3)
         (try rw [show 1 * 4 = 4 from rfl] at hx157_3)
         replace p157 := eq_true p157
         replace q157 := eq_true q157
         refine start_ (n := 35) (S := fun w' => w'.cell? ⟨gb145, 0, none⟩ = some (.int .i64 a0_0) ∧ w'.cell? ⟨gb145, 1, none⟩ = some (.string a0_1) ∧ w'.cell? ⟨gb145, 2, none⟩ = some (.int .i64 a0_2) ∧ w'.cell? ⟨gb145, 3, none⟩ = some (.int .i64 a0_3) ∧ w'.cell? ⟨gb146, 0, none⟩ = some (.int .i64 a1_0) ∧ w'.cell? ⟨gb146, 1, none⟩ = some (.string a1_1) ∧ w'.cell? ⟨gb146, 2, none⟩ = some (.int .i64 a1_2) ∧ w'.cell? ⟨gb146, 3, none⟩ = some (.int .i64 a1_3) ∧ w'.cell? ad154 = some (.int .i64 ((rd_T38 t149 0).f0)) ∧ w'.cell? ⟨ad154.block, ad154.off + 1, none⟩ = some (.string ((rd_T38 t149 0).f1)) ∧ w'.cell? ⟨ad154.block, ad154.off + 2, none⟩ = some (.int .i64 ((rd_T38 t149 0).f2)) ∧ w'.cell? ⟨ad154.block, ad154.off + 3, none⟩ = some (.int .i64 ((rd_T38 t149 0).f3)) ∧ w'.cell? ad154 = some (.int .i64 ((rd_T38 t149 0).f0)) ∧ w'.cell? ⟨ad154.block, ad154.off + 1, none⟩ = some (.string ((rd_T38 t149 0).f1)) ∧ w'.cell? ⟨ad154.block, ad154.off + 2, none⟩ = some (.int .i64 ((rd_T38 t149 0).f2)) ∧ w'.cell? ⟨ad154.block, ad154.off + 3, none⟩ = some (.int .i64 ((rd_T38 t149 0).f3)) ∧ w'.cell? ⟨ad154.block, ad154.off + 4, none⟩ = some (.int .i64 ((rd_T38 t149 1).f0)) ∧ w'.cell? ⟨ad154.block, ad154.off + 4 + 1, none⟩ = some (.string ((rd_T38 t149 1).f1)) ∧ w'.cell? ⟨ad154.block, ad154.off + 4 + 2, none⟩ = some (.int .i64 ((rd_T38 t149 1).f2)) ∧ w'.cell? ⟨ad154.block, ad154.off + 4 + 3, none⟩ = some (.int .i64 ((rd_T38 t149 1).f3)) ∧ w'.cell? ⟨ad154.block, ad154.off + 4, none⟩ = some (.int .i64 ((rd_T38 t149 1).f0)) ∧ w'.cell? ⟨ad154.block, ad154.off + 4 + 1, none⟩ = some (.string ((rd_T38 t149 1).f1)) ∧ w'.cell? ⟨ad154.block, ad154.off + 4 + 2, none⟩ = some (.int .i64 ((rd_T38 t149 1).f2)) ∧ w'.cell? ⟨ad154.block, ad154.off + 4 + 3, none⟩ = some (.int .i64 ((rd_T38 t149 1).f3))) (ds := []) #[false, false, false, false, false, false, false, false, false, false, false, false, false, false, false, false, false, false, false, false, false, false, false, false, false, false, false, false, false, false, false, false, false, false, false] (by kernel_rfl) rfl rfl ⟨(blk_cell BK145.out 0).trans rfl, (blk_cell BK145.out 1).trans rfl, (blk_cell BK145.out 2).trans rfl, (blk_cell BK145.out 3).trans rfl, (blk_cell BK146.out 0).trans rfl, (blk_cell BK146.out 1).trans rfl, (blk_cell BK146.out 2).trans rfl, (blk_cell BK146.out 3).trans rfl, hx154_0, hx154_1, hx154_2, hx154_3, hx155_0, hx155_1, hx155_2, hx155_3, hx156_0, hx156_1, hx156_2, hx156_3, hx157_0, hx157_1, hx157_2, hx157_3⟩ (fun hHeld => ?_); refine with_tabW lexer_Apart.tab4 lexer_Apart.bits4 (fun HT_ HW_ => ?_)
         generalize w19.drew = w21 at HO153 BK145 BK146 HB hx154_0 hx154_1 hx154_2 hx154_3 hx155_0 hx155_1 hx155_2 hx155_3 hx156_0 hx156_1 hx156_2 hx156_3 hx157_0 hx157_1 hx157_2 hx157_3 hHeld ⊢
         refine ltd (o := [0, 1, 2, 4, 3, 5, 6, 7, 8, 9, 10, 12, 11, 13, 14, 15, 16, 17, 18, 19, 21, 20, 22, 23, 24, 25, 26, 27, 28, 30, 29, 31, 32, 33, 34]) (n := 0) (m := 35) (by kernel_rfl) ?_
         iterate 35 (first | (refine tnd (v := ?_) (a' := ?_) rfl rfl (take_ofW HT_.out HW_.out (by kernel_rfl)) (fun _ _ _ h => h) (Or.inl ⟨by rfl, ?_⟩) hHeld ?_ ?_; rotate_left; (· (rintro w' ⟨s0, s1, s2, s3, s4, s5, s6, s7, s8, s9, s10, s11, s12, s13, s14, s15, s16, s17, s18, s19, s20, s21, s22, s23⟩; go_simp; with_reducible rfl)); rotate_left; (· (show Act.put _ (some _) _ = _; simp only [Act.put, List.setIfInBounds_toArray, List.set_cons_zero, List.set_cons_succ, i64_w, i32_w]; rfl))) | (refine pnd (v := ?_) (a' := ?_) rfl rfl (any_of HT_.out (by kernel_rfl)) (fun _ _ _ h => h) (Or.inl ⟨by rfl, ?_⟩) ?_ ?_; rotate_left; (· (intro w'; go_simp; with_reducible rfl)); rotate_left; (· (show Act.put _ (some _) _ = _; simp only [Act.put, List.setIfInBounds_toArray, List.set_cons_zero, List.set_cons_succ, i64_w, i32_w]; rfl))))
         refine done_ (done_of HT_.out (by kernel_rfl)) ?_
         try go_wp2
         go_ret
         exact ⟨by first | rfl | (simp [errW_none, errW_some] <;> rfl) | (simp [*, errW_none, errW_some] <;> rfl), mb_ HB.out⟩
        ·
         rw [if_neg c13] at H
         have c13b0 : (((rd_T38 t149 1).f0) == a1_0) = false := beq_eq_false_iff_ne.mpr c13
         have c13b1 : (((rd_T38 t149 1).f0) != a1_0) = true := bne_iff_ne.mpr c13
         obtain rfl := Option.some.inj H
         go_enter Tryd.func24, Tryd.ntmps24
         try go_wp2_with (first | ((with_reducible refine gate_dst (N := 2) rfl ?_); (try (refine gate_guard (by rfl) ?_; dsimp only)); refine bev (N := 2) (cs := #[.int .i64 a0_0, .string a0_1, .int .i64 a0_2, .int .i64 a0_3]) (t := 38) ?_; intro gb145 hg w22 hbox hb; have n0_ := am_ (below_step (mb_ HB.out) hb); have n1_ := am_ (hbox); have n2_ := am_ ((bz_ hg (mb_ HB.out) : w.heap.size ≤ gb145)); have n3_ := am_ ((bz_ hg (mb_ HB.out) : w.heap.size ≤ gb145)); clear HB; have HB := n0_; have BK145 := n1_; have GW145 := n2_; have GE145 := n3_; clear n0_ n1_ n2_ n3_; clear hb hbox hg) | ((with_reducible refine gate_dst (N := 3) rfl ?_); (try (refine gate_guard (by rfl) ?_; dsimp only)); refine bev (N := 3) (cs := #[.int .i64 a1_0, .string a1_1, .int .i64 a1_2, .int .i64 a1_3]) (t := 38) ?_; intro gb146 hg w23 hbox hb; have n0_ := am_ (blk_below (mk_ BK145.out) hb); have n1_ := am_ (below_step (mb_ HB.out) hb); have n2_ := am_ (hbox); have n3_ := am_ ((bz_ hg (mb_ HB.out) : w.heap.size ≤ gb146)); have n4_ := am_ ((bz_ hg (mb_ HB.out) : w.heap.size ≤ gb146)); have n5_ := am_ ((nl_ hg (mk_ BK145.out) : gb145 ≠ gb146)); have n6_ := am_ ((ng_ hg (mk_ BK145.out) : gb146 ≠ gb145)); clear BK145 HB; have BK145 := n0_; have HB := n1_; have BK146 := n2_; have GW146 := n3_; have GE146 := n4_; have NB145_146 := n5_; have NB146_145 := n6_; clear n0_ n1_ n2_ n3_ n4_ n5_ n6_; clear hb hbox hg))
         have z_ := aI (am_ (blk_drew BK145.out)) (aI (am_ (blk_drew BK146.out)) (am_ (below_drew1 HB.out)))
         clear BK145 BK146 HB
         obtain ⟨BK145, BK146, HB⟩ := z_
         refine start_ (n := 13) (S := fun w' => w'.cell? ⟨gb145, 0, none⟩ = some (.int .i64 a0_0) ∧ w'.cell? ⟨gb145, 1, none⟩ = some (.string a0_1) ∧ w'.cell? ⟨gb145, 2, none⟩ = some (.int .i64 a0_2) ∧ w'.cell? ⟨gb145, 3, none⟩ = some (.int .i64 a0_3) ∧ w'.cell? ⟨gb146, 0, none⟩ = some (.int .i64 a1_0) ∧ w'.cell? ⟨gb146, 1, none⟩ = some (.string a1_1) ∧ w'.cell? ⟨gb146, 2, none⟩ = some (.int .i64 a1_2) ∧ w'.cell? ⟨gb146, 3, none⟩ = some (.int .i64 a1_3)) (ds := []) #[false, false, false, false, false, false, false, false, false, false, false, false, false] (by kernel_rfl) rfl rfl ⟨(blk_cell BK145.out 0).trans rfl, (blk_cell BK145.out 1).trans rfl, (blk_cell BK145.out 2).trans rfl, (blk_cell BK145.out 3).trans rfl, (blk_cell BK146.out 0).trans rfl, (blk_cell BK146.out 1).trans rfl, (blk_cell BK146.out 2).trans rfl, (blk_cell BK146.out 3).trans rfl⟩ (fun hHeld => ?_); refine with_tabW lexer_Apart.tab1 lexer_Apart.bits1 (fun HT_ HW_ => ?_)
         generalize w23.drew = w24 at BK145 BK146 HB hHeld ⊢
         refine take_ (i := 0) (N := some 9) (v := ?_) (a' := ?_) #[true, false, false, false, false, false, false, false, false, false, false, false, false] rfl rfl (take_ofW HT_.out HW_.out (by kernel_rfl)) (fun _ _ _ h => h) (Or.inl ⟨by rfl, ?_⟩) hHeld ?_ ?_
         rotate_left
         ·
          rintro w' ⟨s0, s1, s2, s3, s4, s5, s6, s7⟩
          go_simp
          with_reducible rfl
         rotate_left
         ·
          simp only [Act.put, List.setIfInBounds_toArray, List.set_cons_zero, List.set_cons_succ, i64_w, i32_w]
          rfl
         refine take_ (i := 2) (N := some 11) (v := ?_) (a' := ?_) #[true, false, true, false, false, false, false, false, false, false, false, false, false] rfl rfl (take_ofW HT_.out HW_.out (by kernel_rfl)) (fun _ _ _ h => h) (Or.inl ⟨by rfl, ?_⟩) hHeld ?_ ?_
         rotate_left
         ·
          rintro w' ⟨s0, s1, s2, s3, s4, s5, s6, s7⟩
          go_simp
          with_reducible rfl
         rotate_left
         ·
          simp only [Act.put, List.setIfInBounds_toArray, List.set_cons_zero, List.set_cons_succ, i64_w, i32_w]
          rfl
         refine one_ (i := 1) (N := some 10) #[true, true, true, false, false, false, false, false, false, false, false, false, false] rfl rfl (one_of HT_.out (by kernel_rfl)) (by decide) (fun K hK => ?_)
         refine goes_ Tryd.func23 (by kernel_rfl) rfl #[.agg #[.int .i64 a0_0, .string a0_1, .int .i64 a0_2, .int .i64 a0_3]] (by rfl) rfl rfl (by (try simp only [List.map_toArray, List.map_cons, List.map_nil]); first | done | rfl | (simp only [List.length_drop, List.length_take]; rfl)) ?_
         with_reducible refine (lexer_Source.calls a0_0 a0_1 a0_2 a0_3 t147 _ A3.out).mono ?_
         rintro e w25 ⟨rfl, hb⟩
         refine ⟨_, rfl, ?_⟩
         have z_ := aI (am_ (blk_below (mk_ BK145.out) hb)) (aI (am_ (blk_below (mk_ BK146.out) hb)) (am_ (below_step (mb_ HB.out) hb)))
         clear BK145 BK146 HB
         obtain ⟨BK145, BK146, HB⟩ := z_
         (try clear hb)
         (try clear hb2)
         (try clear hk)
         (try clear hi)
         refine hK.out _ _ ⟨(blk_cell BK145.out 0).trans rfl, (blk_cell BK145.out 1).trans rfl, (blk_cell BK145.out 2).trans rfl, (blk_cell BK145.out 3).trans rfl, (blk_cell BK146.out 0).trans rfl, (blk_cell BK146.out 1).trans rfl, (blk_cell BK146.out 2).trans rfl, (blk_cell BK146.out 3).trans rfl⟩ (fun hHeld => ?_)
         clear hK K
         refine norm_ (a' := ?_) ?_ ?_
         rotate_left
         ·
          show Act.put _ (some 10) _ = _
          simp only [Act.put, List.setIfInBounds_toArray, List.set_cons_zero, List.set_cons_succ, i64_w, i32_w]
          rfl
         refine one_ (i := 3) (N := some 12) #[true, true, true, true, false, false, false, false, false, false, false, false, false] rfl rfl (one_of HT_.out (by kernel_rfl)) (by decide) (fun K hK => ?_)
         refine goes_ Tryd.func23 (by kernel_rfl) rfl #[.agg #[.int .i64 a1_0, .string a1_1, .int .i64 a1_2, .int .i64 a1_3]] (by rfl) rfl rfl (by (try simp only [List.map_toArray, List.map_cons, List.map_nil]); first | done | rfl | (simp only [List.length_drop, List.length_take]; rfl)) ?_
         with_reducible refine (lexer_Source.calls a1_0 a1_1 a1_2 a1_3 t148 _ A4.out).mono ?_
         rintro e w26 ⟨rfl, hb⟩
         refine ⟨_, rfl, ?_⟩
         have z_ := aI (am_ (blk_below (mk_ BK145.out) hb)) (aI (am_ (blk_below (mk_ BK146.out) hb)) (am_ (below_step (mb_ HB.out) hb)))
         clear BK145 BK146 HB
         obtain ⟨BK145, BK146, HB⟩ := z_
         (try clear hb)
         (try clear hb2)
         (try clear hk)
         (try clear hi)
         refine hK.out _ _ ⟨(blk_cell BK145.out 0).trans rfl, (blk_cell BK145.out 1).trans rfl, (blk_cell BK145.out 2).trans rfl, (blk_cell BK145.out 3).trans rfl, (blk_cell BK146.out 0).trans rfl, (blk_cell BK146.out 1).trans rfl, (blk_cell BK146.out 2).trans rfl, (blk_cell BK146.out 3).trans rfl⟩ (fun hHeld => ?_)
         clear hK K
         refine norm_ (a' := ?_) ?_ ?_
         rotate_left
         ·
          show Act.put _ (some 12) _ = _
          simp only [Act.put, List.setIfInBounds_toArray, List.set_cons_zero, List.set_cons_succ, i64_w, i32_w]
          rfl
         refine pure_ (i := 4) (N := some 13) (v := ?_) (a' := ?_) #[true, true, true, true, true, false, false, false, false, false, false, false, false] rfl rfl (any_of HT_.out (by kernel_rfl)) (fun _ _ _ h => h) (Or.inl ⟨by rfl, ?_⟩) ?_ ?_
         rotate_left
         ·
          intro w'
          go_simp
          with_reducible rfl
         rotate_left
         ·
          simp only [Act.put, List.setIfInBounds_toArray, List.set_cons_zero, List.set_cons_succ, i64_w, i32_w]
          rfl
         refine one_ (i := 5) (N := some 14) #[true, true, true, true, true, true, false, false, false, false, false, false, false] rfl rfl (one_of HT_.out (by kernel_rfl)) (by decide) (fun K hK => ?_)
         refine goes_ Tryd.func11 (by kernel_rfl) rfl #[.string (t147 ++ t148)] (by rfl) rfl rfl (by (try simp only [List.map_toArray, List.map_cons, List.map_nil]); first | done | rfl | (simp only [List.length_drop, List.length_take]; rfl)) ?_
         with_reducible refine (lexer_Lex.calls k (t147 ++ t148) t149 t150 t151 _ A6.out).mono ?_
         rintro e w27 ⟨v152, rfl, ho0, hb⟩
         refine ⟨_, rfl, ?_⟩
         have z_ := aI (am_ (Kd.R_lower (Kd.R_newB (Kd.R_newB ho0 (g := gb145) (o := .cells #[.int .i64 a0_0, .string a0_1, .int .i64 a0_2, .int .i64 a0_3] 38 (0, 0)) (mk_ BK145.out)) (g := gb146) (o := .cells #[.int .i64 a1_0, .string a1_1, .int .i64 a1_2, .int .i64 a1_3] 38 (0, 0)) (mk_ BK146.out)) (below_size (mb_ HB.out)))) (aI (am_ (blk_below (mk_ BK145.out) hb)) (aI (am_ (blk_below (mk_ BK146.out) hb)) (am_ (below_step (mb_ HB.out) hb))))
         clear BK145 BK146 HB
         obtain ⟨HO153, BK145, BK146, HB⟩ := z_
         (try clear hb)
         (try clear hb2)
         (try clear hk)
         (try clear hi)
         (try clear ho0)
         refine hK.out _ _ ⟨(blk_cell BK145.out 0).trans rfl, (blk_cell BK145.out 1).trans rfl, (blk_cell BK145.out 2).trans rfl, (blk_cell BK145.out 3).trans rfl, (blk_cell BK146.out 0).trans rfl, (blk_cell BK146.out 1).trans rfl, (blk_cell BK146.out 2).trans rfl, (blk_cell BK146.out 3).trans rfl⟩ (fun hHeld => ?_)
         clear hK K
         refine norm_ (a' := ?_) ?_ ?_
         rotate_left
         ·
          show Act.put _ (some 14) _ = _
          simp only [Act.put, List.setIfInBounds_toArray, List.set_cons_zero, List.set_cons_succ, i64_w, i32_w]
          rfl
         refine ltd (o := [0, 1, 2, 3, 4, 5, 6, 7, 8, 9, 10, 11, 12]) (n := 6) (m := 13) (by kernel_rfl) ?_
         iterate 7 (first | (refine pnd (v := ?_) (a' := ?_) rfl rfl (any_of HT_.out (by kernel_rfl)) (fun _ _ _ h => h) (Or.inl ⟨by rfl, ?_⟩) ?_ ?_; rotate_left; (· (intro w'; go_simp; with_reducible rfl)); rotate_left; (· (show Act.put _ (some _) _ = _; simp only [Act.put, List.setIfInBounds_toArray, List.set_cons_zero, List.set_cons_succ, i64_w, i32_w]; rfl))))
         refine done_ (done_of HT_.out (by kernel_rfl)) ?_
         obtain ⟨Ao28, co28, eo28⟩ := Kd.R_slice HO153.out
         subst eo28
         try go_wp2
         have z_ := aI (am_ (Kd.R_drew HO153.out)) (aI (am_ (blk_drew BK145.out)) (aI (am_ (blk_drew BK146.out)) (am_ (below_drew1 HB.out))))
         clear HO153 BK145 BK146 HB
         obtain ⟨HO153, BK145, BK146, HB⟩ := z_
         have p154 : 0 ≤ (0 : Int) := (by omega)
         have q154 : 0 < (t149.length : Int) := of_decide_eq_true (by first | (with_reducible assumption) | assumption)
         obtain ⟨ad154, e154, hx154_0, hx154_1, hx154_2, hx154_3⟩ := at_T38 (Kd.R_reads' HO153.out).2.2 0 p154 q154
         cases e154
         have qi154 : (0 < t149.length) = True := eq_true (by omega)
         (try rw [show ((0 : Int)).toNat = 0 from rfl] at hx154_0)
         (try rw [show 0 * 4 = 0 from rfl] at hx154_0)
         (try rw [Addr.add_zero'] at hx154_0)
         (try rw [show ((0 : Int)).toNat = 0 from rfl] at hx154_1)
         (try rw [show 0 * 4 = 0 from rfl] at hx154_1)
         (try rw [Addr.add_zero'] at hx154_1)
         (try rw [show ((0 : Int)).toNat = 0 from rfl] at hx154_2)
         (try rw [show 0 * 4 = 0 from rfl] at hx154_2)
         (try rw [Addr.add_zero'] at hx154_2)
         (try rw [show ((0 : Int)).toNat = 0 from rfl] at hx154_3)
         (try rw [show 0 * 4 = 0 from rfl] at hx154_3)
         (try rw [Addr.add_zero'] at hx154_3)
         replace p154 := eq_true p154
         replace q154 := eq_true q154
         have p155 : 0 ≤ (0 : Int) := (by omega)
         have q155 : 0 < (t149.length : Int) := of_decide_eq_true (by first | (with_reducible assumption) | assumption)
         obtain ⟨ad155, e155, hx155_0, hx155_1, hx155_2, hx155_3⟩ := at_T38 (Kd.R_reads' HO153.out).2.2 0 p155 q155
         obtain rfl : ad154 = ad155 := (by injection e155)
         have qi155 : (0 < t149.length) = True := eq_true (by omega)
         (try rw [show ((0 : Int)).toNat = 0 from rfl] at hx155_0)
         (try rw [show 0 * 4 = 0 from rfl] at hx155_0)
         (try rw [Addr.add_zero'] at hx155_0)
         (try rw [show ((0 : Int)).toNat = 0 from rfl] at hx155_1)
         (try rw [show 0 * 4 = 0 from rfl] at hx155_1)
         (try rw [Addr.add_zero'] at hx155_1)
         (try rw [show ((0 : Int)).toNat = 0 from rfl] at hx155_2)
         (try rw [show 0 * 4 = 0 from rfl] at hx155_2)
         (try rw [Addr.add_zero'] at hx155_2)
         (try rw [show ((0 : Int)).toNat = 0 from rfl] at hx155_3)
         (try rw [show 0 * 4 = 0 from rfl] at hx155_3)
         (try rw [Addr.add_zero'] at hx155_3)
         replace p155 := eq_true p155
         replace q155 := eq_true q155
         have p156 : 0 ≤ (1 : Int) := (by omega)
         have q156 : 1 < (t149.length : Int) := of_decide_eq_true (by first | (with_reducible assumption) | assumption)
         obtain ⟨ad156, e156, hx156_0, hx156_1, hx156_2, hx156_3⟩ := at_T38 (Kd.R_reads' HO153.out).2.2 1 p156 q156
         obtain rfl : ad154 = ad156 := (by injection e156)
         (try simp only [show (1 : Int).toNat = 1 from rfl, Nat.reduceMul, Nat.reduceEqDiff, Go.Addr.add, ↓reduceIte] at hx156_0)
         (try simp only [show (1 : Int).toNat = 1 from rfl, Nat.reduceMul, Nat.reduceEqDiff, Go.Addr.add, ↓reduceIte] at hx156_1)
         (try simp only [show (1 : Int).toNat = 1 from rfl, Nat.reduceMul, Nat.reduceEqDiff, Go.Addr.add, ↓reduceIte] at hx156_2)
         (try simp only [show (1 : Int).toNat = 1 from rfl, Nat.reduceMul, Nat.reduceEqDiff, Go.Addr.add, ↓reduceIte] at hx156_3)
         have qi156 : (1 < t149.length) = True := eq_true (by omega)
         (try rw [show ((1 : Int)).toNat = 1 from rfl] at hx156_0)
         (try rw [show 1 * 4 = 4 from rfl] at hx156_0)
         (try rw [show ((1 : Int)).toNat = 1 from rfl] at hx156_1)
         (try rw [show 1 * 4 = 4 from rfl] at hx156_1)
         (try rw [show ((1 : Int)).toNat = 1 from rfl] at hx156_2)
         (try rw [show 1 * 4 = 4 from rfl] at hx156_2)
         (try rw [show ((1 : Int)).toNat = 1 from rfl] at hx156_3)
         (try rw [show 1 * 4 = 4 from rfl] at hx156_3)
         replace p156 := eq_true p156
         replace q156 := eq_true q156
         refine start_ (n := 35) (S := fun w' => w'.cell? ⟨gb145, 0, none⟩ = some (.int .i64 a0_0) ∧ w'.cell? ⟨gb145, 1, none⟩ = some (.string a0_1) ∧ w'.cell? ⟨gb145, 2, none⟩ = some (.int .i64 a0_2) ∧ w'.cell? ⟨gb145, 3, none⟩ = some (.int .i64 a0_3) ∧ w'.cell? ⟨gb146, 0, none⟩ = some (.int .i64 a1_0) ∧ w'.cell? ⟨gb146, 1, none⟩ = some (.string a1_1) ∧ w'.cell? ⟨gb146, 2, none⟩ = some (.int .i64 a1_2) ∧ w'.cell? ⟨gb146, 3, none⟩ = some (.int .i64 a1_3) ∧ w'.cell? ad154 = some (.int .i64 ((rd_T38 t149 0).f0)) ∧ w'.cell? ⟨ad154.block, ad154.off + 1, none⟩ = some (.string ((rd_T38 t149 0).f1)) ∧ w'.cell? ⟨ad154.block, ad154.off + 2, none⟩ = some (.int .i64 ((rd_T38 t149 0).f2)) ∧ w'.cell? ⟨ad154.block, ad154.off + 3, none⟩ = some (.int .i64 ((rd_T38 t149 0).f3)) ∧ w'.cell? ad154 = some (.int .i64 ((rd_T38 t149 0).f0)) ∧ w'.cell? ⟨ad154.block, ad154.off + 1, none⟩ = some (.string ((rd_T38 t149 0).f1)) ∧ w'.cell? ⟨ad154.block, ad154.off + 2, none⟩ = some (.int .i64 ((rd_T38 t149 0).f2)) ∧ w'.cell? ⟨ad154.block, ad154.off + 3, none⟩ = some (.int .i64 ((rd_T38 t149 0).f3)) ∧ w'.cell? ⟨ad154.block, ad154.off + 4, none⟩ = some (.int .i64 ((rd_T38 t149 1).f0)) ∧ w'.cell? ⟨ad154.block, ad154.off + 4 + 1, none⟩ = some (.string ((rd_T38 t149 1).f1)) ∧ w'.cell? ⟨ad154.block, ad154.off + 4 + 2, none⟩ = some (.int .i64 ((rd_T38 t149 1).f2)) ∧ w'.cell? ⟨ad154.block, ad154.off + 4 + 3, none⟩ = some (.int .i64 ((rd_T38 t149 1).f3))) (ds := []) #[false, false, false, false, false, false, false, false, false, false, false, false, false, false, false, false, false, false, false, false, false, false, false, false, false, false, false, false, false, false, false, false, false, false, false] (by kernel_rfl) rfl rfl ⟨(blk_cell BK145.out 0).trans rfl, (blk_cell BK145.out 1).trans rfl, (blk_cell BK145.out 2).trans rfl, (blk_cell BK145.out 3).trans rfl, (blk_cell BK146.out 0).trans rfl, (blk_cell BK146.out 1).trans rfl, (blk_cell BK146.out 2).trans rfl, (blk_cell BK146.out 3).trans rfl, hx154_0, hx154_1, hx154_2, hx154_3, hx155_0, hx155_1, hx155_2, hx155_3, hx156_0, hx156_1, hx156_2, hx156_3⟩ (fun hHeld => ?_); refine with_tabW lexer_Apart.tab4 lexer_Apart.bits4 (fun HT_ HW_ => ?_)
         generalize w27.drew = w29 at HO153 BK145 BK146 HB hx154_0 hx154_1 hx154_2 hx154_3 hx155_0 hx155_1 hx155_2 hx155_3 hx156_0 hx156_1 hx156_2 hx156_3 hHeld ⊢
         refine ltd (o := [0, 1, 2, 4, 3, 5, 6, 7, 8, 9, 10, 12, 11, 13, 14, 15, 16, 17, 18, 19, 21, 20, 22, 23, 24, 25, 26, 27, 28, 29, 30, 31, 32, 33, 34]) (n := 0) (m := 35) (by kernel_rfl) ?_
         iterate 35 (first | (refine pnd rfl rfl (any_of HT_.out (by kernel_rfl)) (fun _ _ _ h => h) (Or.inr ⟨by rfl, rfl⟩) (a' := ?_) ?_ ?_; rotate_left; (· (show Act.put _ (some _) _ = _; simp only [Act.put, List.setIfInBounds_toArray, List.set_cons_zero, List.set_cons_succ, i64_w, i32_w]; rfl))) | (refine tnd (v := ?_) (a' := ?_) rfl rfl (take_ofW HT_.out HW_.out (by kernel_rfl)) (fun _ _ _ h => h) (Or.inl ⟨by rfl, ?_⟩) hHeld ?_ ?_; rotate_left; (· (rintro w' ⟨s0, s1, s2, s3, s4, s5, s6, s7, s8, s9, s10, s11, s12, s13, s14, s15, s16, s17, s18, s19⟩; go_simp; with_reducible rfl)); rotate_left; (· (show Act.put _ (some _) _ = _; simp only [Act.put, List.setIfInBounds_toArray, List.set_cons_zero, List.set_cons_succ, i64_w, i32_w]; rfl))) | (refine pnd (v := ?_) (a' := ?_) rfl rfl (any_of HT_.out (by kernel_rfl)) (fun _ _ _ h => h) (Or.inl ⟨by rfl, ?_⟩) ?_ ?_; rotate_left; (· (intro w'; go_simp; with_reducible rfl)); rotate_left; (· (show Act.put _ (some _) _ = _; simp only [Act.put, List.setIfInBounds_toArray, List.set_cons_zero, List.set_cons_succ, i64_w, i32_w]; rfl))))
         refine done_ (done_of HT_.out (by kernel_rfl)) ?_
         try go_wp2
         go_ret
         exact ⟨by first | rfl | (simp [errW_none, errW_some] <;> rfl) | (simp [*, errW_none, errW_some] <;> rfl), mb_ HB.out⟩
       ·
        rw [if_neg c12] at H
        exact absurd H (by simp)
      ·
       rw [if_neg c11] at H
       have c11b0 : (((rd_T38 t149 0).f1).toList == a0_1.toList) = false := beq_eq_false_iff_ne.mpr c11
       have c11b1 : (((rd_T38 t149 0).f1).toList != a0_1.toList) = true := bne_iff_ne.mpr c11
       obtain rfl := Option.some.inj H
       go_enter Tryd.func24, Tryd.ntmps24
       try go_wp2_with (first | ((with_reducible refine gate_dst (N := 2) rfl ?_); (try (refine gate_guard (by rfl) ?_; dsimp only)); refine bev (N := 2) (cs := #[.int .i64 a0_0, .string a0_1, .int .i64 a0_2, .int .i64 a0_3]) (t := 38) ?_; intro gb145 hg w30 hbox hb; have n0_ := am_ (below_step (mb_ HB.out) hb); have n1_ := am_ (hbox); have n2_ := am_ ((bz_ hg (mb_ HB.out) : w.heap.size ≤ gb145)); have n3_ := am_ ((bz_ hg (mb_ HB.out) : w.heap.size ≤ gb145)); clear HB; have HB := n0_; have BK145 := n1_; have GW145 := n2_; have GE145 := n3_; clear n0_ n1_ n2_ n3_; clear hb hbox hg) | ((with_reducible refine gate_dst (N := 3) rfl ?_); (try (refine gate_guard (by rfl) ?_; dsimp only)); refine bev (N := 3) (cs := #[.int .i64 a1_0, .string a1_1, .int .i64 a1_2, .int .i64 a1_3]) (t := 38) ?_; intro gb146 hg w31 hbox hb; have n0_ := am_ (blk_below (mk_ BK145.out) hb); have n1_ := am_ (below_step (mb_ HB.out) hb); have n2_ := am_ (hbox); have n3_ := am_ ((bz_ hg (mb_ HB.out) : w.heap.size ≤ gb146)); have n4_ := am_ ((bz_ hg (mb_ HB.out) : w.heap.size ≤ gb146)); have n5_ := am_ ((nl_ hg (mk_ BK145.out) : gb145 ≠ gb146)); have n6_ := am_ ((ng_ hg (mk_ BK145.out) : gb146 ≠ gb145)); clear BK145 HB; have BK145 := n0_; have HB := n1_; have BK146 := n2_; have GW146 := n3_; have GE146 := n4_; have NB145_146 := n5_; have NB146_145 := n6_; clear n0_ n1_ n2_ n3_ n4_ n5_ n6_; clear hb hbox hg))
       have z_ := aI (am_ (blk_drew BK145.out)) (aI (am_ (blk_drew BK146.out)) (am_ (below_drew1 HB.out)))
       clear BK145 BK146 HB
       obtain ⟨BK145, BK146, HB⟩ := z_
       refine start_ (n := 13) (S := fun w' => w'.cell? ⟨gb145, 0, none⟩ = some (.int .i64 a0_0) ∧ w'.cell? ⟨gb145, 1, none⟩ = some (.string a0_1) ∧ w'.cell? ⟨gb145, 2, none⟩ = some (.int .i64 a0_2) ∧ w'.cell? ⟨gb145, 3, none⟩ = some (.int .i64 a0_3) ∧ w'.cell? ⟨gb146, 0, none⟩ = some (.int .i64 a1_0) ∧ w'.cell? ⟨gb146, 1, none⟩ = some (.string a1_1) ∧ w'.cell? ⟨gb146, 2, none⟩ = some (.int .i64 a1_2) ∧ w'.cell? ⟨gb146, 3, none⟩ = some (.int .i64 a1_3)) (ds := []) #[false, false, false, false, false, false, false, false, false, false, false, false, false] (by kernel_rfl) rfl rfl ⟨(blk_cell BK145.out 0).trans rfl, (blk_cell BK145.out 1).trans rfl, (blk_cell BK145.out 2).trans rfl, (blk_cell BK145.out 3).trans rfl, (blk_cell BK146.out 0).trans rfl, (blk_cell BK146.out 1).trans rfl, (blk_cell BK146.out 2).trans rfl, (blk_cell BK146.out 3).trans rfl⟩ (fun hHeld => ?_); refine with_tabW lexer_Apart.tab1 lexer_Apart.bits1 (fun HT_ HW_ => ?_)
       generalize w31.drew = w32 at BK145 BK146 HB hHeld ⊢
       refine take_ (i := 0) (N := some 9) (v := ?_) (a' := ?_) #[true, false, false, false, false, false, false, false, false, false, false, false, false] rfl rfl (take_ofW HT_.out HW_.out (by kernel_rfl)) (fun _ _ _ h => h) (Or.inl ⟨by rfl, ?_⟩) hHeld ?_ ?_
       rotate_left
       ·
        rintro w' ⟨s0, s1, s2, s3, s4, s5, s6, s7⟩
        go_simp
        with_reducible rfl
       rotate_left
       ·
        simp only [Act.put, List.setIfInBounds_toArray, List.set_cons_zero, List.set_cons_succ, i64_w, i32_w]
        rfl
       refine take_ (i := 2) (N := some 11) (v := ?_) (a' := ?_) #[true, false, true, false, false, false, false, false, false, false, false, false, false] rfl rfl (take_ofW HT_.out HW_.out (by kernel_rfl)) (fun _ _ _ h => h) (Or.inl ⟨by rfl, ?_⟩) hHeld ?_ ?_
       rotate_left
       ·
        rintro w' ⟨s0, s1, s2, s3, s4, s5, s6, s7⟩
        go_simp
        with_reducible rfl
       rotate_left
       ·
        simp only [Act.put, List.setIfInBounds_toArray, List.set_cons_zero, List.set_cons_succ, i64_w, i32_w]
        rfl
       refine one_ (i := 1) (N := some 10) #[true, true, true, false, false, false, false, false, false, false, false, false, false] rfl rfl (one_of HT_.out (by kernel_rfl)) (by decide) (fun K hK => ?_)
       refine goes_ Tryd.func23 (by kernel_rfl) rfl #[.agg #[.int .i64 a0_0, .string a0_1, .int .i64 a0_2, .int .i64 a0_3]] (by rfl) rfl rfl (by (try simp only [List.map_toArray, List.map_cons, List.map_nil]); first | done | rfl | (simp only [List.length_drop, List.length_take]; rfl)) ?_
       with_reducible refine (lexer_Source.calls a0_0 a0_1 a0_2 a0_3 t147 _ A3.out).mono ?_
       rintro e w33 ⟨rfl, hb⟩
       refine ⟨_, rfl, ?_⟩
       have z_ := aI (am_ (blk_below (mk_ BK145.out) hb)) (aI (am_ (blk_below (mk_ BK146.out) hb)) (am_ (below_step (mb_ HB.out) hb)))
       clear BK145 BK146 HB
       obtain ⟨BK145, BK146, HB⟩ := z_
       (try clear hb)
       (try clear hb2)
       (try clear hk)
       (try clear hi)
       refine hK.out _ _ ⟨(blk_cell BK145.out 0).trans rfl, (blk_cell BK145.out 1).trans rfl, (blk_cell BK145.out 2).trans rfl, (blk_cell BK145.out 3).trans rfl, (blk_cell BK146.out 0).trans rfl, (blk_cell BK146.out 1).trans rfl, (blk_cell BK146.out 2).trans rfl, (blk_cell BK146.out 3).trans rfl⟩ (fun hHeld => ?_)
       clear hK K
       refine norm_ (a' := ?_) ?_ ?_
       rotate_left
       ·
        show Act.put _ (some 10) _ = _
        simp only [Act.put, List.setIfInBounds_toArray, List.set_cons_zero, List.set_cons_succ, i64_w, i32_w]
        rfl
       refine one_ (i := 3) (N := some 12) #[true, true, true, true, false, false, false, false, false, false, false, false, false] rfl rfl (one_of HT_.out (by kernel_rfl)) (by decide) (fun K hK => ?_)
       refine goes_ Tryd.func23 (by kernel_rfl) rfl #[.agg #[.int .i64 a1_0, .string a1_1, .int .i64 a1_2, .int .i64 a1_3]] (by rfl) rfl rfl (by (try simp only [List.map_toArray, List.map_cons, List.map_nil]); first | done | rfl | (simp only [List.length_drop, List.length_take]; rfl)) ?_
       with_reducible refine (lexer_Source.calls a1_0 a1_1 a1_2 a1_3 t148 _ A4.out).mono ?_
       rintro e w34 ⟨rfl, hb⟩
       refine ⟨_, rfl, ?_⟩
       have z_ := aI (am_ (blk_below (mk_ BK145.out) hb)) (aI (am_ (blk_below (mk_ BK146.out) hb)) (am_ (below_step (mb_ HB.out) hb)))
       clear BK145 BK146 HB
       obtain ⟨BK145, BK146, HB⟩ := z_
       (try clear hb)
       (try clear hb2)
       (try clear hk)
       (try clear hi)
       refine hK.out _ _ ⟨(blk_cell BK145.out 0).trans rfl, (blk_cell BK145.out 1).trans rfl, (blk_cell BK145.out 2).trans rfl, (blk_cell BK145.out 3).trans rfl, (blk_cell BK146.out 0).trans rfl, (blk_cell BK146.out 1).trans rfl, (blk_cell BK146.out 2).trans rfl, (blk_cell BK146.out 3).trans rfl⟩ (fun hHeld => ?_)
       clear hK K
       refine norm_ (a' := ?_) ?_ ?_
       rotate_left
       ·
        show Act.put _ (some 12) _ = _
        simp only [Act.put, List.setIfInBounds_toArray, List.set_cons_zero, List.set_cons_succ, i64_w, i32_w]
        rfl
       refine pure_ (i := 4) (N := some 13) (v := ?_) (a' := ?_) #[true, true, true, true, true, false, false, false, false, false, false, false, false] rfl rfl (any_of HT_.out (by kernel_rfl)) (fun _ _ _ h => h) (Or.inl ⟨by rfl, ?_⟩) ?_ ?_
       rotate_left
       ·
        intro w'
        go_simp
        with_reducible rfl
       rotate_left
       ·
        simp only [Act.put, List.setIfInBounds_toArray, List.set_cons_zero, List.set_cons_succ, i64_w, i32_w]
        rfl
       refine one_ (i := 5) (N := some 14) #[true, true, true, true, true, true, false, false, false, false, false, false, false] rfl rfl (one_of HT_.out (by kernel_rfl)) (by decide) (fun K hK => ?_)
       refine goes_ Tryd.func11 (by kernel_rfl) rfl #[.string (t147 ++ t148)] (by rfl) rfl rfl (by (try simp only [List.map_toArray, List.map_cons, List.map_nil]); first | done | rfl | (simp only [List.length_drop, List.length_take]; rfl)) ?_
       with_reducible refine (lexer_Lex.calls k (t147 ++ t148) t149 t150 t151 _ A6.out).mono ?_
       rintro e w35 ⟨v152, rfl, ho0, hb⟩
       refine ⟨_, rfl, ?_⟩
       have z_ := aI (am_ (Kd.R_lower (Kd.R_newB (Kd.R_newB ho0 (g := gb145) (o := .cells #[.int .i64 a0_0, .string a0_1, .int .i64 a0_2, .int .i64 a0_3] 38 (0, 0)) (mk_ BK145.out)) (g := gb146) (o := .cells #[.int .i64 a1_0, .string a1_1, .int .i64 a1_2, .int .i64 a1_3] 38 (0, 0)) (mk_ BK146.out)) (below_size (mb_ HB.out)))) (aI (am_ (blk_below (mk_ BK145.out) hb)) (aI (am_ (blk_below (mk_ BK146.out) hb)) (am_ (below_step (mb_ HB.out) hb))))
       clear BK145 BK146 HB
       obtain ⟨HO153, BK145, BK146, HB⟩ := z_
       (try clear hb)
       (try clear hb2)
       (try clear hk)
       (try clear hi)
       (try clear ho0)
       refine hK.out _ _ ⟨(blk_cell BK145.out 0).trans rfl, (blk_cell BK145.out 1).trans rfl, (blk_cell BK145.out 2).trans rfl, (blk_cell BK145.out 3).trans rfl, (blk_cell BK146.out 0).trans rfl, (blk_cell BK146.out 1).trans rfl, (blk_cell BK146.out 2).trans rfl, (blk_cell BK146.out 3).trans rfl⟩ (fun hHeld => ?_)
       clear hK K
       refine norm_ (a' := ?_) ?_ ?_
       rotate_left
       ·
        show Act.put _ (some 14) _ = _
        simp only [Act.put, List.setIfInBounds_toArray, List.set_cons_zero, List.set_cons_succ, i64_w, i32_w]
        rfl
       refine ltd (o := [0, 1, 2, 3, 4, 5, 6, 7, 8, 9, 10, 11, 12]) (n := 6) (m := 13) (by kernel_rfl) ?_
       iterate 7 (first | (refine pnd (v := ?_) (a' := ?_) rfl rfl (any_of HT_.out (by kernel_rfl)) (fun _ _ _ h => h) (Or.inl ⟨by rfl, ?_⟩) ?_ ?_; rotate_left; (· (intro w'; go_simp; with_reducible rfl)); rotate_left; (· (show Act.put _ (some _) _ = _; simp only [Act.put, List.setIfInBounds_toArray, List.set_cons_zero, List.set_cons_succ, i64_w, i32_w]; rfl))))
       refine done_ (done_of HT_.out (by kernel_rfl)) ?_
       obtain ⟨Ao36, co36, eo36⟩ := Kd.R_slice HO153.out
       subst eo36
       try go_wp2
       have z_ := aI (am_ (Kd.R_drew HO153.out)) (aI (am_ (blk_drew BK145.out)) (aI (am_ (blk_drew BK146.out)) (am_ (below_drew1 HB.out))))
       clear HO153 BK145 BK146 HB
       obtain ⟨HO153, BK145, BK146, HB⟩ := z_
       have p154 : 0 ≤ (0 : Int) := (by omega)
       have q154 : 0 < (t149.length : Int) := of_decide_eq_true (by first | (with_reducible assumption) | assumption)
       obtain ⟨ad154, e154, hx154_0, hx154_1, hx154_2, hx154_3⟩ := at_T38 (Kd.R_reads' HO153.out).2.2 0 p154 q154
       cases e154
       have qi154 : (0 < t149.length) = True := eq_true (by omega)
       (try rw [show ((0 : Int)).toNat = 0 from rfl] at hx154_0)
       (try rw [show 0 * 4 = 0 from rfl] at hx154_0)
       (try rw [Addr.add_zero'] at hx154_0)
       (try rw [show ((0 : Int)).toNat = 0 from rfl] at hx154_1)
       (try rw [show 0 * 4 = 0 from rfl] at hx154_1)
       (try rw [Addr.add_zero'] at hx154_1)
       (try rw [show ((0 : Int)).toNat = 0 from rfl] at hx154_2)
       (try rw [show 0 * 4 = 0 from rfl] at hx154_2)
       (try rw [Addr.add_zero'] at hx154_2)
       (try rw [show ((0 : Int)).toNat = 0 from rfl] at hx154_3)
       (try rw [show 0 * 4 = 0 from rfl] at hx154_3)
       (try rw [Addr.add_zero'] at hx154_3)
       replace p154 := eq_true p154
       replace q154 := eq_true q154
       have p155 : 0 ≤ (0 : Int) := (by omega)
       have q155 : 0 < (t149.length : Int) := of_decide_eq_true (by first | (with_reducible assumption) | assumption)
       obtain ⟨ad155, e155, hx155_0, hx155_1, hx155_2, hx155_3⟩ := at_T38 (Kd.R_reads' HO153.out).2.2 0 p155 q155
       obtain rfl : ad154 = ad155 := (by injection e155)
       have qi155 : (0 < t149.length) = True := eq_true (by omega)
       (try rw [show ((0 : Int)).toNat = 0 from rfl] at hx155_0)
       (try rw [show 0 * 4 = 0 from rfl] at hx155_0)
       (try rw [Addr.add_zero'] at hx155_0)
       (try rw [show ((0 : Int)).toNat = 0 from rfl] at hx155_1)
       (try rw [show 0 * 4 = 0 from rfl] at hx155_1)
       (try rw [Addr.add_zero'] at hx155_1)
       (try rw [show ((0 : Int)).toNat = 0 from rfl] at hx155_2)
       (try rw [show 0 * 4 = 0 from rfl] at hx155_2)
       (try rw [Addr.add_zero'] at hx155_2)
       (try rw [show ((0 : Int)).toNat = 0 from rfl] at hx155_3)
       (try rw [show 0 * 4 = 0 from rfl] at hx155_3)
       (try rw [Addr.add_zero'] at hx155_3)
       replace p155 := eq_true p155
       replace q155 := eq_true q155
       refine start_ (n := 35) (S := fun w' => w'.cell? ⟨gb145, 0, none⟩ = some (.int .i64 a0_0) ∧ w'.cell? ⟨gb145, 1, none⟩ = some (.string a0_1) ∧ w'.cell? ⟨gb145, 2, none⟩ = some (.int .i64 a0_2) ∧ w'.cell? ⟨gb145, 3, none⟩ = some (.int .i64 a0_3) ∧ w'.cell? ad154 = some (.int .i64 ((rd_T38 t149 0).f0)) ∧ w'.cell? ⟨ad154.block, ad154.off + 1, none⟩ = some (.string ((rd_T38 t149 0).f1)) ∧ w'.cell? ⟨ad154.block, ad154.off + 2, none⟩ = some (.int .i64 ((rd_T38 t149 0).f2)) ∧ w'.cell? ⟨ad154.block, ad154.off + 3, none⟩ = some (.int .i64 ((rd_T38 t149 0).f3)) ∧ w'.cell? ad154 = some (.int .i64 ((rd_T38 t149 0).f0)) ∧ w'.cell? ⟨ad154.block, ad154.off + 1, none⟩ = some (.string ((rd_T38 t149 0).f1)) ∧ w'.cell? ⟨ad154.block, ad154.off + 2, none⟩ = some (.int .i64 ((rd_T38 t149 0).f2)) ∧ w'.cell? ⟨ad154.block, ad154.off + 3, none⟩ = some (.int .i64 ((rd_T38 t149 0).f3))) (ds := []) #[false, false, false, false, false, false, false, false, false, false, false, false, false, false, false, false, false, false, false, false, false, false, false, false, false, false, false, false, false, false, false, false, false, false, false] (by kernel_rfl) rfl rfl ⟨(blk_cell BK145.out 0).trans rfl, (blk_cell BK145.out 1).trans rfl, (blk_cell BK145.out 2).trans rfl, (blk_cell BK145.out 3).trans rfl, hx154_0, hx154_1, hx154_2, hx154_3, hx155_0, hx155_1, hx155_2, hx155_3⟩ (fun hHeld => ?_); refine with_tabW lexer_Apart.tab4 lexer_Apart.bits4 (fun HT_ HW_ => ?_)
       generalize w35.drew = w37 at HO153 BK145 BK146 HB hx154_0 hx154_1 hx154_2 hx154_3 hx155_0 hx155_1 hx155_2 hx155_3 hHeld ⊢
       refine ltd (o := [0, 1, 2, 4, 3, 5, 6, 7, 8, 9, 10, 12, 11, 13, 14, 15, 16, 17, 18, 19, 20, 21, 22, 23, 24, 25, 26, 27, 28, 29, 30, 31, 32, 33, 34]) (n := 0) (m := 35) (by kernel_rfl) ?_
       iterate 35 (first | (refine pnd rfl rfl (any_of HT_.out (by kernel_rfl)) (fun _ _ _ h => h) (Or.inr ⟨by rfl, rfl⟩) (a' := ?_) ?_ ?_; rotate_left; (· (show Act.put _ (some _) _ = _; simp only [Act.put, List.setIfInBounds_toArray, List.set_cons_zero, List.set_cons_succ, i64_w, i32_w]; rfl))) | (refine tnd (v := ?_) (a' := ?_) rfl rfl (take_ofW HT_.out HW_.out (by kernel_rfl)) (fun _ _ _ h => h) (Or.inl ⟨by rfl, ?_⟩) hHeld ?_ ?_; rotate_left; (· (rintro w' ⟨s0, s1, s2, s3, s4, s5, s6, s7, s8, s9, s10, s11⟩; go_simp; with_reducible rfl)); rotate_left; (· (show Act.put _ (some _) _ = _; simp only [Act.put, List.setIfInBounds_toArray, List.set_cons_zero, List.set_cons_succ, i64_w, i32_w]; rfl))) | (refine pnd (v := ?_) (a' := ?_) rfl rfl (any_of HT_.out (by kernel_rfl)) (fun _ _ _ h => h) (Or.inl ⟨by rfl, ?_⟩) ?_ ?_; rotate_left; (· (intro w'; go_simp; with_reducible rfl)); rotate_left; (· (show Act.put _ (some _) _ = _; simp only [Act.put, List.setIfInBounds_toArray, List.set_cons_zero, List.set_cons_succ, i64_w, i32_w]; rfl))))
       refine done_ (done_of HT_.out (by kernel_rfl)) ?_
       try go_wp2
       go_ret
       exact ⟨by first | rfl | (simp [errW_none, errW_some] <;> rfl) | (simp [*, errW_none, errW_some] <;> rfl), mb_ HB.out⟩
     ·
      rw [if_neg c10] at H
      have c10b0 : (((rd_T38 t149 0).f0) == a0_0) = false := beq_eq_false_iff_ne.mpr c10
      have c10b1 : (((rd_T38 t149 0).f0) != a0_0) = true := bne_iff_ne.mpr c10
      obtain rfl := Option.some.inj H
      go_enter Tryd.func24, Tryd.ntmps24
      try go_wp2_with (first | ((with_reducible refine gate_dst (N := 2) rfl ?_); (try (refine gate_guard (by rfl) ?_; dsimp only)); refine bev (N := 2) (cs := #[.int .i64 a0_0, .string a0_1, .int .i64 a0_2, .int .i64 a0_3]) (t := 38) ?_; intro gb145 hg w38 hbox hb; have n0_ := am_ (below_step (mb_ HB.out) hb); have n1_ := am_ (hbox); have n2_ := am_ ((bz_ hg (mb_ HB.out) : w.heap.size ≤ gb145)); have n3_ := am_ ((bz_ hg (mb_ HB.out) : w.heap.size ≤ gb145)); clear HB; have HB := n0_; have BK145 := n1_; have GW145 := n2_; have GE145 := n3_; clear n0_ n1_ n2_ n3_; clear hb hbox hg) | ((with_reducible refine gate_dst (N := 3) rfl ?_); (try (refine gate_guard (by rfl) ?_; dsimp only)); refine bev (N := 3) (cs := #[.int .i64 a1_0, .string a1_1, .int .i64 a1_2, .int .i64 a1_3]) (t := 38) ?_; intro gb146 hg w39 hbox hb; have n0_ := am_ (blk_below (mk_ BK145.out) hb); have n1_ := am_ (below_step (mb_ HB.out) hb); have n2_ := am_ (hbox); have n3_ := am_ ((bz_ hg (mb_ HB.out) : w.heap.size ≤ gb146)); have n4_ := am_ ((bz_ hg (mb_ HB.out) : w.heap.size ≤ gb146)); have n5_ := am_ ((nl_ hg (mk_ BK145.out) : gb145 ≠ gb146)); have n6_ := am_ ((ng_ hg (mk_ BK145.out) : gb146 ≠ gb145)); clear BK145 HB; have BK145 := n0_; have HB := n1_; have BK146 := n2_; have GW146 := n3_; have GE146 := n4_; have NB145_146 := n5_; have NB146_145 := n6_; clear n0_ n1_ n2_ n3_ n4_ n5_ n6_; clear hb hbox hg))
      have z_ := aI (am_ (blk_drew BK145.out)) (aI (am_ (blk_drew BK146.out)) (am_ (below_drew1 HB.out)))
      clear BK145 BK146 HB
      obtain ⟨BK145, BK146, HB⟩ := z_
      refine start_ (n := 13) (S := fun w' => w'.cell? ⟨gb145, 0, none⟩ = some (.int .i64 a0_0) ∧ w'.cell? ⟨gb145, 1, none⟩ = some (.string a0_1) ∧ w'.cell? ⟨gb145, 2, none⟩ = some (.int .i64 a0_2) ∧ w'.cell? ⟨gb145, 3, none⟩ = some (.int .i64 a0_3) ∧ w'.cell? ⟨gb146, 0, none⟩ = some (.int .i64 a1_0) ∧ w'.cell? ⟨gb146, 1, none⟩ = some (.string a1_1) ∧ w'.cell? ⟨gb146, 2, none⟩ = some (.int .i64 a1_2) ∧ w'.cell? ⟨gb146, 3, none⟩ = some (.int .i64 a1_3)) (ds := []) #[false, false, false, false, false, false, false, false, false, false, false, false, false] (by kernel_rfl) rfl rfl ⟨(blk_cell BK145.out 0).trans rfl, (blk_cell BK145.out 1).trans rfl, (blk_cell BK145.out 2).trans rfl, (blk_cell BK145.out 3).trans rfl, (blk_cell BK146.out 0).trans rfl, (blk_cell BK146.out 1).trans rfl, (blk_cell BK146.out 2).trans rfl, (blk_cell BK146.out 3).trans rfl⟩ (fun hHeld => ?_); refine with_tabW lexer_Apart.tab1 lexer_Apart.bits1 (fun HT_ HW_ => ?_)
      generalize w39.drew = w40 at BK145 BK146 HB hHeld ⊢
      refine take_ (i := 0) (N := some 9) (v := ?_) (a' := ?_) #[true, false, false, false, false, false, false, false, false, false, false, false, false] rfl rfl (take_ofW HT_.out HW_.out (by kernel_rfl)) (fun _ _ _ h => h) (Or.inl ⟨by rfl, ?_⟩) hHeld ?_ ?_
      rotate_left
      ·
       rintro w' ⟨s0, s1, s2, s3, s4, s5, s6, s7⟩
       go_simp
       with_reducible rfl
      rotate_left
      ·
       simp only [Act.put, List.setIfInBounds_toArray, List.set_cons_zero, List.set_cons_succ, i64_w, i32_w]
       rfl
      refine take_ (i := 2) (N := some 11) (v := ?_) (a' := ?_) #[true, false, true, false, false, false, false, false, false, false, false, false, false] rfl rfl (take_ofW HT_.out HW_.out (by kernel_rfl)) (fun _ _ _ h => h) (Or.inl ⟨by rfl, ?_⟩) hHeld ?_ ?_
      rotate_left
      ·
       rintro w' ⟨s0, s1, s2, s3, s4, s5, s6, s7⟩
       go_simp
       with_reducible rfl
      rotate_left
      ·
       simp only [Act.put, List.setIfInBounds_toArray, List.set_cons_zero, List.set_cons_succ, i64_w, i32_w]
       rfl
      refine one_ (i := 1) (N := some 10) #[true, true, true, false, false, false, false, false, false, false, false, false, false] rfl rfl (one_of HT_.out (by kernel_rfl)) (by decide) (fun K hK => ?_)
      refine goes_ Tryd.func23 (by kernel_rfl) rfl #[.agg #[.int .i64 a0_0, .string a0_1, .int .i64 a0_2, .int .i64 a0_3]] (by rfl) rfl rfl (by (try simp only [List.map_toArray, List.map_cons, List.map_nil]); first | done | rfl | (simp only [List.length_drop, List.length_take]; rfl)) ?_
      with_reducible refine (lexer_Source.calls a0_0 a0_1 a0_2 a0_3 t147 _ A3.out).mono ?_
      rintro e w41 ⟨rfl, hb⟩
      refine ⟨_, rfl, ?_⟩
      have z_ := aI (am_ (blk_below (mk_ BK145.out) hb)) (aI (am_ (blk_below (mk_ BK146.out) hb)) (am_ (below_step (mb_ HB.out) hb)))
      clear BK145 BK146 HB
      obtain ⟨BK145, BK146, HB⟩ := z_
      (try clear hb)
      (try clear hb2)
      (try clear hk)
      (try clear hi)
      refine hK.out _ _ ⟨(blk_cell BK145.out 0).trans rfl, (blk_cell BK145.out 1).trans rfl, (blk_cell BK145.out 2).trans rfl, (blk_cell BK145.out 3).trans rfl, (blk_cell BK146.out 0).trans rfl, (blk_cell BK146.out 1).trans rfl, (blk_cell BK146.out 2).trans rfl, (blk_cell BK146.out 3).trans rfl⟩ (fun hHeld => ?_)
      clear hK K
      refine norm_ (a' := ?_) ?_ ?_
      rotate_left
      ·
       show Act.put _ (some 10) _ = _
       simp only [Act.put, List.setIfInBounds_toArray, List.set_cons_zero, List.set_cons_succ, i64_w, i32_w]
       rfl
      refine one_ (i := 3) (N := some 12) #[true, true, true, true, false, false, false, false, false, false, false, false, false] rfl rfl (one_of HT_.out (by kernel_rfl)) (by decide) (fun K hK => ?_)
      refine goes_ Tryd.func23 (by kernel_rfl) rfl #[.agg #[.int .i64 a1_0, .string a1_1, .int .i64 a1_2, .int .i64 a1_3]] (by rfl) rfl rfl (by (try simp only [List.map_toArray, List.map_cons, List.map_nil]); first | done | rfl | (simp only [List.length_drop, List.length_take]; rfl)) ?_
      with_reducible refine (lexer_Source.calls a1_0 a1_1 a1_2 a1_3 t148 _ A4.out).mono ?_
      rintro e w42 ⟨rfl, hb⟩
      refine ⟨_, rfl, ?_⟩
      have z_ := aI (am_ (blk_below (mk_ BK145.out) hb)) (aI (am_ (blk_below (mk_ BK146.out) hb)) (am_ (below_step (mb_ HB.out) hb)))
      clear BK145 BK146 HB
      obtain ⟨BK145, BK146, HB⟩ := z_
      (try clear hb)
      (try clear hb2)
      (try clear hk)
      (try clear hi)
      refine hK.out _ _ ⟨(blk_cell BK145.out 0).trans rfl, (blk_cell BK145.out 1).trans rfl, (blk_cell BK145.out 2).trans rfl, (blk_cell BK145.out 3).trans rfl, (blk_cell BK146.out 0).trans rfl, (blk_cell BK146.out 1).trans rfl, (blk_cell BK146.out 2).trans rfl, (blk_cell BK146.out 3).trans rfl⟩ (fun hHeld => ?_)
      clear hK K
      refine norm_ (a' := ?_) ?_ ?_
      rotate_left
      ·
       show Act.put _ (some 12) _ = _
       simp only [Act.put, List.setIfInBounds_toArray, List.set_cons_zero, List.set_cons_succ, i64_w, i32_w]
       rfl
      refine pure_ (i := 4) (N := some 13) (v := ?_) (a' := ?_) #[true, true, true, true, true, false, false, false, false, false, false, false, false] rfl rfl (any_of HT_.out (by kernel_rfl)) (fun _ _ _ h => h) (Or.inl ⟨by rfl, ?_⟩) ?_ ?_
      rotate_left
      ·
       intro w'
       go_simp
       with_reducible rfl
      rotate_left
      ·
       simp only [Act.put, List.setIfInBounds_toArray, List.set_cons_zero, List.set_cons_succ, i64_w, i32_w]
       rfl
      refine one_ (i := 5) (N := some 14) #[true, true, true, true, true, true, false, false, false, false, false, false, false] rfl rfl (one_of HT_.out (by kernel_rfl)) (by decide) (fun K hK => ?_)
      refine goes_ Tryd.func11 (by kernel_rfl) rfl #[.string (t147 ++ t148)] (by rfl) rfl rfl (by (try simp only [List.map_toArray, List.map_cons, List.map_nil]); first | done | rfl | (simp only [List.length_drop, List.length_take]; rfl)) ?_
      with_reducible refine (lexer_Lex.calls k (t147 ++ t148) t149 t150 t151 _ A6.out).mono ?_
      rintro e w43 ⟨v152, rfl, ho0, hb⟩
      refine ⟨_, rfl, ?_⟩
      have z_ := aI (am_ (Kd.R_lower (Kd.R_newB (Kd.R_newB ho0 (g := gb145) (o := .cells #[.int .i64 a0_0, .string a0_1, .int .i64 a0_2, .int .i64 a0_3] 38 (0, 0)) (mk_ BK145.out)) (g := gb146) (o := .cells #[.int .i64 a1_0, .string a1_1, .int .i64 a1_2, .int .i64 a1_3] 38 (0, 0)) (mk_ BK146.out)) (below_size (mb_ HB.out)))) (aI (am_ (blk_below (mk_ BK145.out) hb)) (aI (am_ (blk_below (mk_ BK146.out) hb)) (am_ (below_step (mb_ HB.out) hb))))
      clear BK145 BK146 HB
      obtain ⟨HO153, BK145, BK146, HB⟩ := z_
      (try clear hb)
      (try clear hb2)
      (try clear hk)
      (try clear hi)
      (try clear ho0)
      refine hK.out _ _ ⟨(blk_cell BK145.out 0).trans rfl, (blk_cell BK145.out 1).trans rfl, (blk_cell BK145.out 2).trans rfl, (blk_cell BK145.out 3).trans rfl, (blk_cell BK146.out 0).trans rfl, (blk_cell BK146.out 1).trans rfl, (blk_cell BK146.out 2).trans rfl, (blk_cell BK146.out 3).trans rfl⟩ (fun hHeld => ?_)
      clear hK K
      refine norm_ (a' := ?_) ?_ ?_
      rotate_left
      ·
       show Act.put _ (some 14) _ = _
       simp only [Act.put, List.setIfInBounds_toArray, List.set_cons_zero, List.set_cons_succ, i64_w, i32_w]
       rfl
      refine ltd (o := [0, 1, 2, 3, 4, 5, 6, 7, 8, 9, 10, 11, 12]) (n := 6) (m := 13) (by kernel_rfl) ?_
      iterate 7 (first | (refine pnd (v := ?_) (a' := ?_) rfl rfl (any_of HT_.out (by kernel_rfl)) (fun _ _ _ h => h) (Or.inl ⟨by rfl, ?_⟩) ?_ ?_; rotate_left; (· (intro w'; go_simp; with_reducible rfl)); rotate_left; (· (show Act.put _ (some _) _ = _; simp only [Act.put, List.setIfInBounds_toArray, List.set_cons_zero, List.set_cons_succ, i64_w, i32_w]; rfl))))
      refine done_ (done_of HT_.out (by kernel_rfl)) ?_
      obtain ⟨Ao44, co44, eo44⟩ := Kd.R_slice HO153.out
      subst eo44
      try go_wp2
      have z_ := aI (am_ (Kd.R_drew HO153.out)) (aI (am_ (blk_drew BK145.out)) (aI (am_ (blk_drew BK146.out)) (am_ (below_drew1 HB.out))))
      clear HO153 BK145 BK146 HB
      obtain ⟨HO153, BK145, BK146, HB⟩ := z_
      have p154 : 0 ≤ (0 : Int) := (by omega)
      have q154 : 0 < (t149.length : Int) := of_decide_eq_true (by first | (with_reducible assumption) | assumption)
      obtain ⟨ad154, e154, hx154_0, hx154_1, hx154_2, hx154_3⟩ := at_T38 (Kd.R_reads' HO153.out).2.2 0 p154 q154
      cases e154
      have qi154 : (0 < t149.length) = True := eq_true (by omega)
      (try rw [show ((0 : Int)).toNat = 0 from rfl] at hx154_0)
      (try rw [show 0 * 4 = 0 from rfl] at hx154_0)
      (try rw [Addr.add_zero'] at hx154_0)
      (try rw [show ((0 : Int)).toNat = 0 from rfl] at hx154_1)
      (try rw [show 0 * 4 = 0 from rfl] at hx154_1)
      (try rw [Addr.add_zero'] at hx154_1)
      (try rw [show ((0 : Int)).toNat = 0 from rfl] at hx154_2)
      (try rw [show 0 * 4 = 0 from rfl] at hx154_2)
      (try rw [Addr.add_zero'] at hx154_2)
      (try rw [show ((0 : Int)).toNat = 0 from rfl] at hx154_3)
      (try rw [show 0 * 4 = 0 from rfl] at hx154_3)
      (try rw [Addr.add_zero'] at hx154_3)
      replace p154 := eq_true p154
      replace q154 := eq_true q154
      refine start_ (n := 35) (S := fun w' => w'.cell? ⟨gb145, 0, none⟩ = some (.int .i64 a0_0) ∧ w'.cell? ⟨gb145, 1, none⟩ = some (.string a0_1) ∧ w'.cell? ⟨gb145, 2, none⟩ = some (.int .i64 a0_2) ∧ w'.cell? ⟨gb145, 3, none⟩ = some (.int .i64 a0_3) ∧ w'.cell? ad154 = some (.int .i64 ((rd_T38 t149 0).f0)) ∧ w'.cell? ⟨ad154.block, ad154.off + 1, none⟩ = some (.string ((rd_T38 t149 0).f1)) ∧ w'.cell? ⟨ad154.block, ad154.off + 2, none⟩ = some (.int .i64 ((rd_T38 t149 0).f2)) ∧ w'.cell? ⟨ad154.block, ad154.off + 3, none⟩ = some (.int .i64 ((rd_T38 t149 0).f3))) (ds := []) #[false, false, false, false, false, false, false, false, false, false, false, false, false, false, false, false, false, false, false, false, false, false, false, false, false, false, false, false, false, false, false, false, false, false, false] (by kernel_rfl) rfl rfl ⟨(blk_cell BK145.out 0).trans rfl, (blk_cell BK145.out 1).trans rfl, (blk_cell BK145.out 2).trans rfl, (blk_cell BK145.out 3).trans rfl, hx154_0, hx154_1, hx154_2, hx154_3⟩ (fun hHeld => ?_); refine with_tabW lexer_Apart.tab4 lexer_Apart.bits4 (fun HT_ HW_ => ?_)
      generalize w43.drew = w45 at HO153 BK145 BK146 HB hx154_0 hx154_1 hx154_2 hx154_3 hHeld ⊢
      refine ltd (o := [0, 1, 2, 4, 3, 5, 6, 7, 8, 9, 10, 11, 12, 13, 14, 15, 16, 17, 18, 19, 20, 21, 22, 23, 24, 25, 26, 27, 28, 29, 30, 31, 32, 33, 34]) (n := 0) (m := 35) (by kernel_rfl) ?_
      iterate 35 (first | (refine pnd rfl rfl (any_of HT_.out (by kernel_rfl)) (fun _ _ _ h => h) (Or.inr ⟨by rfl, rfl⟩) (a' := ?_) ?_ ?_; rotate_left; (· (show Act.put _ (some _) _ = _; simp only [Act.put, List.setIfInBounds_toArray, List.set_cons_zero, List.set_cons_succ, i64_w, i32_w]; rfl))) | (refine tnd (v := ?_) (a' := ?_) rfl rfl (take_ofW HT_.out HW_.out (by kernel_rfl)) (fun _ _ _ h => h) (Or.inl ⟨by rfl, ?_⟩) hHeld ?_ ?_; rotate_left; (· (rintro w' ⟨s0, s1, s2, s3, s4, s5, s6, s7⟩; go_simp; with_reducible rfl)); rotate_left; (· (show Act.put _ (some _) _ = _; simp only [Act.put, List.setIfInBounds_toArray, List.set_cons_zero, List.set_cons_succ, i64_w, i32_w]; rfl))) | (refine pnd (v := ?_) (a' := ?_) rfl rfl (any_of HT_.out (by kernel_rfl)) (fun _ _ _ h => h) (Or.inl ⟨by rfl, ?_⟩) ?_ ?_; rotate_left; (· (intro w'; go_simp; with_reducible rfl)); rotate_left; (· (show Act.put _ (some _) _ = _; simp only [Act.put, List.setIfInBounds_toArray, List.set_cons_zero, List.set_cons_succ, i64_w, i32_w]; rfl))))
      refine done_ (done_of HT_.out (by kernel_rfl)) ?_
      try go_wp2
      go_ret
      exact ⟨by first | rfl | (simp [errW_none, errW_some] <;> rfl) | (simp [*, errW_none, errW_some] <;> rfl), mb_ HB.out⟩
    ·
     rw [if_neg c9] at H
     exact absurd H (by simp)
   ·
    rw [if_neg c8] at H
    have c8b0 : ((t149.length : Int) == 2) = false := beq_eq_false_iff_ne.mpr c8
    have c8b1 : ((t149.length : Int) != 2) = true := bne_iff_ne.mpr c8
    obtain rfl := Option.some.inj H
    go_enter Tryd.func24, Tryd.ntmps24
    try go_wp2_with (first | ((with_reducible refine gate_dst (N := 2) rfl ?_); (try (refine gate_guard (by rfl) ?_; dsimp only)); refine bev (N := 2) (cs := #[.int .i64 a0_0, .string a0_1, .int .i64 a0_2, .int .i64 a0_3]) (t := 38) ?_; intro gb145 hg w46 hbox hb; have n0_ := am_ (below_step (mb_ HB.out) hb); have n1_ := am_ (hbox); have n2_ := am_ ((bz_ hg (mb_ HB.out) : w.heap.size ≤ gb145)); have n3_ := am_ ((bz_ hg (mb_ HB.out) : w.heap.size ≤ gb145)); clear HB; have HB := n0_; have BK145 := n1_; have GW145 := n2_; have GE145 := n3_; clear n0_ n1_ n2_ n3_; clear hb hbox hg) | ((with_reducible refine gate_dst (N := 3) rfl ?_); (try (refine gate_guard (by rfl) ?_; dsimp only)); refine bev (N := 3) (cs := #[.int .i64 a1_0, .string a1_1, .int .i64 a1_2, .int .i64 a1_3]) (t := 38) ?_; intro gb146 hg w47 hbox hb; have n0_ := am_ (blk_below (mk_ BK145.out) hb); have n1_ := am_ (below_step (mb_ HB.out) hb); have n2_ := am_ (hbox); have n3_ := am_ ((bz_ hg (mb_ HB.out) : w.heap.size ≤ gb146)); have n4_ := am_ ((bz_ hg (mb_ HB.out) : w.heap.size ≤ gb146)); have n5_ := am_ ((nl_ hg (mk_ BK145.out) : gb145 ≠ gb146)); have n6_ := am_ ((ng_ hg (mk_ BK145.out) : gb146 ≠ gb145)); clear BK145 HB; have BK145 := n0_; have HB := n1_; have BK146 := n2_; have GW146 := n3_; have GE146 := n4_; have NB145_146 := n5_; have NB146_145 := n6_; clear n0_ n1_ n2_ n3_ n4_ n5_ n6_; clear hb hbox hg))
    have z_ := aI (am_ (blk_drew BK145.out)) (aI (am_ (blk_drew BK146.out)) (am_ (below_drew1 HB.out)))
    clear BK145 BK146 HB
    obtain ⟨BK145, BK146, HB⟩ := z_
    refine start_ (n := 13) (S := fun w' => w'.cell? ⟨gb145, 0, none⟩ = some (.int .i64 a0_0) ∧ w'.cell? ⟨gb145, 1, none⟩ = some (.string a0_1) ∧ w'.cell? ⟨gb145, 2, none⟩ = some (.int .i64 a0_2) ∧ w'.cell? ⟨gb145, 3, none⟩ = some (.int .i64 a0_3) ∧ w'.cell? ⟨gb146, 0, none⟩ = some (.int .i64 a1_0) ∧ w'.cell? ⟨gb146, 1, none⟩ = some (.string a1_1) ∧ w'.cell? ⟨gb146, 2, none⟩ = some (.int .i64 a1_2) ∧ w'.cell? ⟨gb146, 3, none⟩ = some (.int .i64 a1_3)) (ds := []) #[false, false, false, false, false, false, false, false, false, false, false, false, false] (by kernel_rfl) rfl rfl ⟨(blk_cell BK145.out 0).trans rfl, (blk_cell BK145.out 1).trans rfl, (blk_cell BK145.out 2).trans rfl, (blk_cell BK145.out 3).trans rfl, (blk_cell BK146.out 0).trans rfl, (blk_cell BK146.out 1).trans rfl, (blk_cell BK146.out 2).trans rfl, (blk_cell BK146.out 3).trans rfl⟩ (fun hHeld => ?_); refine with_tabW lexer_Apart.tab1 lexer_Apart.bits1 (fun HT_ HW_ => ?_)
    generalize w47.drew = w48 at BK145 BK146 HB hHeld ⊢
    refine take_ (i := 0) (N := some 9) (v := ?_) (a' := ?_) #[true, false, false, false, false, false, false, false, false, false, false, false, false] rfl rfl (take_ofW HT_.out HW_.out (by kernel_rfl)) (fun _ _ _ h => h) (Or.inl ⟨by rfl, ?_⟩) hHeld ?_ ?_
    rotate_left
    ·
     rintro w' ⟨s0, s1, s2, s3, s4, s5, s6, s7⟩
     go_simp
     with_reducible rfl
    rotate_left
    ·
     simp only [Act.put, List.setIfInBounds_toArray, List.set_cons_zero, List.set_cons_succ, i64_w, i32_w]
     rfl
    refine take_ (i := 2) (N := some 11) (v := ?_) (a' := ?_) #[true, false, true, false, false, false, false, false, false, false, false, false, false] rfl rfl (take_ofW HT_.out HW_.out (by kernel_rfl)) (fun _ _ _ h => h) (Or.inl ⟨by rfl, ?_⟩) hHeld ?_ ?_
    rotate_left
    ·
     rintro w' ⟨s0, s1, s2, s3, s4, s5, s6, s7⟩
     go_simp
     with_reducible rfl
    rotate_left
    ·
     simp only [Act.put, List.setIfInBounds_toArray, List.set_cons_zero, List.set_cons_succ, i64_w, i32_w]
     rfl
    refine one_ (i := 1) (N := some 10) #[true, true, true, false, false, false, false, false, false, false, false, false, false] rfl rfl (one_of HT_.out (by kernel_rfl)) (by decide) (fun K hK => ?_)
    refine goes_ Tryd.func23 (by kernel_rfl) rfl #[.agg #[.int .i64 a0_0, .string a0_1, .int .i64 a0_2, .int .i64 a0_3]] (by rfl) rfl rfl (by (try simp only [List.map_toArray, List.map_cons, List.map_nil]); first | done | rfl | (simp only [List.length_drop, List.length_take]; rfl)) ?_
    with_reducible refine (lexer_Source.calls a0_0 a0_1 a0_2 a0_3 t147 _ A3.out).mono ?_
    rintro e w49 ⟨rfl, hb⟩
    refine ⟨_, rfl, ?_⟩
    have z_ := aI (am_ (blk_below (mk_ BK145.out) hb)) (aI (am_ (blk_below (mk_ BK146.out) hb)) (am_ (below_step (mb_ HB.out) hb)))
    clear BK145 BK146 HB
    obtain ⟨BK145, BK146, HB⟩ := z_
    (try clear hb)
    (try clear hb2)
    (try clear hk)
    (try clear hi)
    refine hK.out _ _ ⟨(blk_cell BK145.out 0).trans rfl, (blk_cell BK145.out 1).trans rfl, (blk_cell BK145.out 2).trans rfl, (blk_cell BK145.out 3).trans rfl, (blk_cell BK146.out 0).trans rfl, (blk_cell BK146.out 1).trans rfl, (blk_cell BK146.out 2).trans rfl, (blk_cell BK146.out 3).trans rfl⟩ (fun hHeld => ?_)
    clear hK K
    refine norm_ (a' := ?_) ?_ ?_
    rotate_left
    ·
     show Act.put _ (some 10) _ = _
     simp only [Act.put, List.setIfInBounds_toArray, List.set_cons_zero, List.set_cons_succ, i64_w, i32_w]
     rfl
    refine one_ (i := 3) (N := some 12) #[true, true, true, true, false, false, false, false, false, false, false, false, false] rfl rfl (one_of HT_.out (by kernel_rfl)) (by decide) (fun K hK => ?_)
    refine goes_ Tryd.func23 (by kernel_rfl) rfl #[.agg #[.int .i64 a1_0, .string a1_1, .int .i64 a1_2, .int .i64 a1_3]] (by rfl) rfl rfl (by (try simp only [List.map_toArray, List.map_cons, List.map_nil]); first | done | rfl | (simp only [List.length_drop, List.length_take]; rfl)) ?_
    with_reducible refine (lexer_Source.calls a1_0 a1_1 a1_2 a1_3 t148 _ A4.out).mono ?_
    rintro e w50 ⟨rfl, hb⟩
    refine ⟨_, rfl, ?_⟩
    have z_ := aI (am_ (blk_below (mk_ BK145.out) hb)) (aI (am_ (blk_below (mk_ BK146.out) hb)) (am_ (below_step (mb_ HB.out) hb)))
    clear BK145 BK146 HB
    obtain ⟨BK145, BK146, HB⟩ := z_
    (try clear hb)
    (try clear hb2)
    (try clear hk)
    (try clear hi)
    refine hK.out _ _ ⟨(blk_cell BK145.out 0).trans rfl, (blk_cell BK145.out 1).trans rfl, (blk_cell BK145.out 2).trans rfl, (blk_cell BK145.out 3).trans rfl, (blk_cell BK146.out 0).trans rfl, (blk_cell BK146.out 1).trans rfl, (blk_cell BK146.out 2).trans rfl, (blk_cell BK146.out 3).trans rfl⟩ (fun hHeld => ?_)
    clear hK K
    refine norm_ (a' := ?_) ?_ ?_
    rotate_left
    ·
     show Act.put _ (some 12) _ = _
     simp only [Act.put, List.setIfInBounds_toArray, List.set_cons_zero, List.set_cons_succ, i64_w, i32_w]
     rfl
    refine pure_ (i := 4) (N := some 13) (v := ?_) (a' := ?_) #[true, true, true, true, true, false, false, false, false, false, false, false, false] rfl rfl (any_of HT_.out (by kernel_rfl)) (fun _ _ _ h => h) (Or.inl ⟨by rfl, ?_⟩) ?_ ?_
    rotate_left
    ·
     intro w'
     go_simp
     with_reducible rfl
    rotate_left
    ·
     simp only [Act.put, List.setIfInBounds_toArray, List.set_cons_zero, List.set_cons_succ, i64_w, i32_w]
     rfl
    refine one_ (i := 5) (N := some 14) #[true, true, true, true, true, true, false, false, false, false, false, false, false] rfl rfl (one_of HT_.out (by kernel_rfl)) (by decide) (fun K hK => ?_)
    refine goes_ Tryd.func11 (by kernel_rfl) rfl #[.string (t147 ++ t148)] (by rfl) rfl rfl (by (try simp only [List.map_toArray, List.map_cons, List.map_nil]); first | done | rfl | (simp only [List.length_drop, List.length_take]; rfl)) ?_
    with_reducible refine (lexer_Lex.calls k (t147 ++ t148) t149 t150 t151 _ A6.out).mono ?_
    rintro e w51 ⟨v152, rfl, ho0, hb⟩
    refine ⟨_, rfl, ?_⟩
    have z_ := aI (am_ (Kd.R_lower (Kd.R_newB (Kd.R_newB ho0 (g := gb145) (o := .cells #[.int .i64 a0_0, .string a0_1, .int .i64 a0_2, .int .i64 a0_3] 38 (0, 0)) (mk_ BK145.out)) (g := gb146) (o := .cells #[.int .i64 a1_0, .string a1_1, .int .i64 a1_2, .int .i64 a1_3] 38 (0, 0)) (mk_ BK146.out)) (below_size (mb_ HB.out)))) (aI (am_ (blk_below (mk_ BK145.out) hb)) (aI (am_ (blk_below (mk_ BK146.out) hb)) (am_ (below_step (mb_ HB.out) hb))))
    clear BK145 BK146 HB
    obtain ⟨HO153, BK145, BK146, HB⟩ := z_
    (try clear hb)
    (try clear hb2)
    (try clear hk)
    (try clear hi)
    (try clear ho0)
    refine hK.out _ _ ⟨(blk_cell BK145.out 0).trans rfl, (blk_cell BK145.out 1).trans rfl, (blk_cell BK145.out 2).trans rfl, (blk_cell BK145.out 3).trans rfl, (blk_cell BK146.out 0).trans rfl, (blk_cell BK146.out 1).trans rfl, (blk_cell BK146.out 2).trans rfl, (blk_cell BK146.out 3).trans rfl⟩ (fun hHeld => ?_)
    clear hK K
    refine norm_ (a' := ?_) ?_ ?_
    rotate_left
    ·
     show Act.put _ (some 14) _ = _
     simp only [Act.put, List.setIfInBounds_toArray, List.set_cons_zero, List.set_cons_succ, i64_w, i32_w]
     rfl
    refine ltd (o := [0, 1, 2, 3, 4, 5, 6, 7, 8, 9, 10, 11, 12]) (n := 6) (m := 13) (by kernel_rfl) ?_
    iterate 7 (first | (refine pnd (v := ?_) (a' := ?_) rfl rfl (any_of HT_.out (by kernel_rfl)) (fun _ _ _ h => h) (Or.inl ⟨by rfl, ?_⟩) ?_ ?_; rotate_left; (· (intro w'; go_simp; with_reducible rfl)); rotate_left; (· (show Act.put _ (some _) _ = _; simp only [Act.put, List.setIfInBounds_toArray, List.set_cons_zero, List.set_cons_succ, i64_w, i32_w]; rfl))))
    refine done_ (done_of HT_.out (by kernel_rfl)) ?_
    obtain ⟨Ao52, co52, eo52⟩ := Kd.R_slice HO153.out
    subst eo52
    try go_wp2
    go_ret
    exact ⟨by first | rfl | (simp [errW_none, errW_some] <;> rfl) | (simp [*, errW_none, errW_some] <;> rfl), mb_ HB.out⟩
  ·
   rw [if_neg c7] at H
   have c7b0 : (t151 == 0) = false := beq_eq_false_iff_ne.mpr c7
   have c7b1 : (t151 != 0) = true := bne_iff_ne.mpr c7
   obtain rfl := Option.some.inj H
   go_enter Tryd.func24, Tryd.ntmps24
   try go_wp2_with (first | ((with_reducible refine gate_dst (N := 2) rfl ?_); (try (refine gate_guard (by rfl) ?_; dsimp only)); refine bev (N := 2) (cs := #[.int .i64 a0_0, .string a0_1, .int .i64 a0_2, .int .i64 a0_3]) (t := 38) ?_; intro gb145 hg w53 hbox hb; have n0_ := am_ (below_step (mb_ HB.out) hb); have n1_ := am_ (hbox); have n2_ := am_ ((bz_ hg (mb_ HB.out) : w.heap.size ≤ gb145)); have n3_ := am_ ((bz_ hg (mb_ HB.out) : w.heap.size ≤ gb145)); clear HB; have HB := n0_; have BK145 := n1_; have GW145 := n2_; have GE145 := n3_; clear n0_ n1_ n2_ n3_; clear hb hbox hg) | ((with_reducible refine gate_dst (N := 3) rfl ?_); (try (refine gate_guard (by rfl) ?_; dsimp only)); refine bev (N := 3) (cs := #[.int .i64 a1_0, .string a1_1, .int .i64 a1_2, .int .i64 a1_3]) (t := 38) ?_; intro gb146 hg w54 hbox hb; have n0_ := am_ (blk_below (mk_ BK145.out) hb); have n1_ := am_ (below_step (mb_ HB.out) hb); have n2_ := am_ (hbox); have n3_ := am_ ((bz_ hg (mb_ HB.out) : w.heap.size ≤ gb146)); have n4_ := am_ ((bz_ hg (mb_ HB.out) : w.heap.size ≤ gb146)); have n5_ := am_ ((nl_ hg (mk_ BK145.out) : gb145 ≠ gb146)); have n6_ := am_ ((ng_ hg (mk_ BK145.out) : gb146 ≠ gb145)); clear BK145 HB; have BK145 := n0_; have HB := n1_; have BK146 := n2_; have GW146 := n3_; have GE146 := n4_; have NB145_146 := n5_; have NB146_145 := n6_; clear n0_ n1_ n2_ n3_ n4_ n5_ n6_; clear hb hbox hg))
   have z_ := aI (am_ (blk_drew BK145.out)) (aI (am_ (blk_drew BK146.out)) (am_ (below_drew1 HB.out)))
   clear BK145 BK146 HB
   obtain ⟨BK145, BK146, HB⟩ := z_
   refine start_ (n := 13) (S := fun w' => w'.cell? ⟨gb145, 0, none⟩ = some (.int .i64 a0_0) ∧ w'.cell? ⟨gb145, 1, none⟩ = some (.string a0_1) ∧ w'.cell? ⟨gb145, 2, none⟩ = some (.int .i64 a0_2) ∧ w'.cell? ⟨gb145, 3, none⟩ = some (.int .i64 a0_3) ∧ w'.cell? ⟨gb146, 0, none⟩ = some (.int .i64 a1_0) ∧ w'.cell? ⟨gb146, 1, none⟩ = some (.string a1_1) ∧ w'.cell? ⟨gb146, 2, none⟩ = some (.int .i64 a1_2) ∧ w'.cell? ⟨gb146, 3, none⟩ = some (.int .i64 a1_3)) (ds := []) #[false, false, false, false, false, false, false, false, false, false, false, false, false] (by kernel_rfl) rfl rfl ⟨(blk_cell BK145.out 0).trans rfl, (blk_cell BK145.out 1).trans rfl, (blk_cell BK145.out 2).trans rfl, (blk_cell BK145.out 3).trans rfl, (blk_cell BK146.out 0).trans rfl, (blk_cell BK146.out 1).trans rfl, (blk_cell BK146.out 2).trans rfl, (blk_cell BK146.out 3).trans rfl⟩ (fun hHeld => ?_); refine with_tabW lexer_Apart.tab1 lexer_Apart.bits1 (fun HT_ HW_ => ?_)
   generalize w54.drew = w55 at BK145 BK146 HB hHeld ⊢
   refine take_ (i := 0) (N := some 9) (v := ?_) (a' := ?_) #[true, false, false, false, false, false, false, false, false, false, false, false, false] rfl rfl (take_ofW HT_.out HW_.out (by kernel_rfl)) (fun _ _ _ h => h) (Or.inl ⟨by rfl, ?_⟩) hHeld ?_ ?_
   rotate_left
   ·
    rintro w' ⟨s0, s1, s2, s3, s4, s5, s6, s7⟩
    go_simp
    with_reducible rfl
   rotate_left
   ·
    simp only [Act.put, List.setIfInBounds_toArray, List.set_cons_zero, List.set_cons_succ, i64_w, i32_w]
    rfl
   refine take_ (i := 2) (N := some 11) (v := ?_) (a' := ?_) #[true, false, true, false, false, false, false, false, false, false, false, false, false] rfl rfl (take_ofW HT_.out HW_.out (by kernel_rfl)) (fun _ _ _ h => h) (Or.inl ⟨by rfl, ?_⟩) hHeld ?_ ?_
   rotate_left
   ·
    rintro w' ⟨s0, s1, s2, s3, s4, s5, s6, s7⟩
    go_simp
    with_reducible rfl
   rotate_left
   ·
    simp only [Act.put, List.setIfInBounds_toArray, List.set_cons_zero, List.set_cons_succ, i64_w, i32_w]
    rfl
   refine one_ (i := 1) (N := some 10) #[true, true, true, false, false, false, false, false, false, false, false, false, false] rfl rfl (one_of HT_.out (by kernel_rfl)) (by decide) (fun K hK => ?_)
   refine goes_ Tryd.func23 (by kernel_rfl) rfl #[.agg #[.int .i64 a0_0, .string a0_1, .int .i64 a0_2, .int .i64 a0_3]] (by rfl) rfl rfl (by (try simp only [List.map_toArray, List.map_cons, List.map_nil]); first | done | rfl | (simp only [List.length_drop, List.length_take]; rfl)) ?_
   with_reducible refine (lexer_Source.calls a0_0 a0_1 a0_2 a0_3 t147 _ A3.out).mono ?_
   rintro e w56 ⟨rfl, hb⟩
   refine ⟨_, rfl, ?_⟩
   have z_ := aI (am_ (blk_below (mk_ BK145.out) hb)) (aI (am_ (blk_below (mk_ BK146.out) hb)) (am_ (below_step (mb_ HB.out) hb)))
   clear BK145 BK146 HB
   obtain ⟨BK145, BK146, HB⟩ := z_
   (try clear hb)
   (try clear hb2)
   (try clear hk)
   (try clear hi)
   refine hK.out _ _ ⟨(blk_cell BK145.out 0).trans rfl, (blk_cell BK145.out 1).trans rfl, (blk_cell BK145.out 2).trans rfl, (blk_cell BK145.out 3).trans rfl, (blk_cell BK146.out 0).trans rfl, (blk_cell BK146.out 1).trans rfl, (blk_cell BK146.out 2).trans rfl, (blk_cell BK146.out 3).trans rfl⟩ (fun hHeld => ?_)
   clear hK K
   refine norm_ (a' := ?_) ?_ ?_
   rotate_left
   ·
    show Act.put _ (some 10) _ = _
    simp only [Act.put, List.setIfInBounds_toArray, List.set_cons_zero, List.set_cons_succ, i64_w, i32_w]
    rfl
   refine one_ (i := 3) (N := some 12) #[true, true, true, true, false, false, false, false, false, false, false, false, false] rfl rfl (one_of HT_.out (by kernel_rfl)) (by decide) (fun K hK => ?_)
   refine goes_ Tryd.func23 (by kernel_rfl) rfl #[.agg #[.int .i64 a1_0, .string a1_1, .int .i64 a1_2, .int .i64 a1_3]] (by rfl) rfl rfl (by (try simp only [List.map_toArray, List.map_cons, List.map_nil]); first | done | rfl | (simp only [List.length_drop, List.length_take]; rfl)) ?_
   with_reducible refine (lexer_Source.calls a1_0 a1_1 a1_2 a1_3 t148 _ A4.out).mono ?_
   rintro e w57 ⟨rfl, hb⟩
   refine ⟨_, rfl, ?_⟩
   have z_ := aI (am_ (blk_below (mk_ BK145.out) hb)) (aI (am_ (blk_below (mk_ BK146.out) hb)) (am_ (below_step (mb_ HB.out) hb)))
   clear BK145 BK146 HB
   obtain ⟨BK145, BK146, HB⟩ := z_
   (try clear hb)
   (try clear hb2)
   (try clear hk)
   (try clear hi)
   refine hK.out _ _ ⟨(blk_cell BK145.out 0).trans rfl, (blk_cell BK145.out 1).trans rfl, (blk_cell BK145.out 2).trans rfl, (blk_cell BK145.out 3).trans rfl, (blk_cell BK146.out 0).trans rfl, (blk_cell BK146.out 1).trans rfl, (blk_cell BK146.out 2).trans rfl, (blk_cell BK146.out 3).trans rfl⟩ (fun hHeld => ?_)
   clear hK K
   refine norm_ (a' := ?_) ?_ ?_
   rotate_left
   ·
    show Act.put _ (some 12) _ = _
    simp only [Act.put, List.setIfInBounds_toArray, List.set_cons_zero, List.set_cons_succ, i64_w, i32_w]
    rfl
   refine pure_ (i := 4) (N := some 13) (v := ?_) (a' := ?_) #[true, true, true, true, true, false, false, false, false, false, false, false, false] rfl rfl (any_of HT_.out (by kernel_rfl)) (fun _ _ _ h => h) (Or.inl ⟨by rfl, ?_⟩) ?_ ?_
   rotate_left
   ·
    intro w'
    go_simp
    with_reducible rfl
   rotate_left
   ·
    simp only [Act.put, List.setIfInBounds_toArray, List.set_cons_zero, List.set_cons_succ, i64_w, i32_w]
    rfl
   refine one_ (i := 5) (N := some 14) #[true, true, true, true, true, true, false, false, false, false, false, false, false] rfl rfl (one_of HT_.out (by kernel_rfl)) (by decide) (fun K hK => ?_)
   refine goes_ Tryd.func11 (by kernel_rfl) rfl #[.string (t147 ++ t148)] (by rfl) rfl rfl (by (try simp only [List.map_toArray, List.map_cons, List.map_nil]); first | done | rfl | (simp only [List.length_drop, List.length_take]; rfl)) ?_
   with_reducible refine (lexer_Lex.calls k (t147 ++ t148) t149 t150 t151 _ A6.out).mono ?_
   rintro e w58 ⟨v152, rfl, ho0, hb⟩
   refine ⟨_, rfl, ?_⟩
   have z_ := aI (am_ (Kd.R_lower (Kd.R_newB (Kd.R_newB ho0 (g := gb145) (o := .cells #[.int .i64 a0_0, .string a0_1, .int .i64 a0_2, .int .i64 a0_3] 38 (0, 0)) (mk_ BK145.out)) (g := gb146) (o := .cells #[.int .i64 a1_0, .string a1_1, .int .i64 a1_2, .int .i64 a1_3] 38 (0, 0)) (mk_ BK146.out)) (below_size (mb_ HB.out)))) (aI (am_ (blk_below (mk_ BK145.out) hb)) (aI (am_ (blk_below (mk_ BK146.out) hb)) (am_ (below_step (mb_ HB.out) hb))))
   clear BK145 BK146 HB
   obtain ⟨HO153, BK145, BK146, HB⟩ := z_
   (try clear hb)
   (try clear hb2)
   (try clear hk)
   (try clear hi)
   (try clear ho0)
   refine hK.out _ _ ⟨(blk_cell BK145.out 0).trans rfl, (blk_cell BK145.out 1).trans rfl, (blk_cell BK145.out 2).trans rfl, (blk_cell BK145.out 3).trans rfl, (blk_cell BK146.out 0).trans rfl, (blk_cell BK146.out 1).trans rfl, (blk_cell BK146.out 2).trans rfl, (blk_cell BK146.out 3).trans rfl⟩ (fun hHeld => ?_)
   clear hK K
   refine norm_ (a' := ?_) ?_ ?_
   rotate_left
   ·
    show Act.put _ (some 14) _ = _
    simp only [Act.put, List.setIfInBounds_toArray, List.set_cons_zero, List.set_cons_succ, i64_w, i32_w]
    rfl
   refine ltd (o := [0, 1, 2, 3, 4, 5, 6, 7, 8, 9, 10, 11, 12]) (n := 6) (m := 13) (by kernel_rfl) ?_
   iterate 7 (first | (refine pnd (v := ?_) (a' := ?_) rfl rfl (any_of HT_.out (by kernel_rfl)) (fun _ _ _ h => h) (Or.inl ⟨by rfl, ?_⟩) ?_ ?_; rotate_left; (· (intro w'; go_simp; with_reducible rfl)); rotate_left; (· (show Act.put _ (some _) _ = _; simp only [Act.put, List.setIfInBounds_toArray, List.set_cons_zero, List.set_cons_succ, i64_w, i32_w]; rfl))))
   refine done_ (done_of HT_.out (by kernel_rfl)) ?_
   try go_wp2
   go_ret
   exact ⟨by first | rfl | (simp [errW_none, errW_some] <;> rfl) | (simp [*, errW_none, errW_some] <;> rfl), mb_ HB.out⟩
 ·
  rw [if_neg c5] at H
  exact absurd H (by simp)

end Go.Proofs.YthjmbagkomnpgaaDoor.L
