-- Written by this session's own programs; what the law does not lean on is left out. Lean checks it.
import Derived.Test.YthjmbagkomnpgaaDoorJS
import Derived.Test.YthjmbagkomnpgaaDoorJR
import Derived.Test.YthjmbagkomnpgaaDoorJLx28
import Derived.Test.YthjmbagkomnpgaaDoorJDr
namespace Go.Proofs.YthjmbagkomnpgaaDoor.L
open Go.RowKit Go.Proofs.YthjmbagkomnpgaaDoorW.PrintWords Go.Proofs.YthjmbagkomnpgaaDoorW.PrintLast Go.Proofs.YthjmbagkomnpgaaDoorW.PrintMore Go.Proofs.YthjmbagkomnpgaaDoorD Go.Proofs.YthjmbagkomnpgaaDoorD
set_option linter.unusedVariables false
set_option linter.unusedSimpArgs false

def culetref13_Apart.f (k : Nat) (a0_0 : Int) (a0_1 : ByteArray) (a0_2 : Int) (a0_3 : Int) (a1_0 : Int) (a1_1 : ByteArray) (a1_2 : Int) (a1_3 : Int) : Option (Bool) := (culetref13_Source.f a0_0 a0_1 a0_2 a0_3).bind fun t189 => ((culetref13_Source.f a1_0 a1_1 a1_2 a1_3).bind fun t190 => (if t189.size + t190.size ≤ 9223372036854775807 then ((culetref13_Lex.f k (t189 ++ t190)).bind fun bt191 => (if bt191.2.2 = 0 then (if (bt191.1.length : Int) = 2 then (if 0 < (bt191.1.length : Int) then (if ((rd_T40 bt191.1 0).f0) = a0_0 then (if ((rd_T40 bt191.1 0).f1).toList = a0_1.toList then (if 1 < (bt191.1.length : Int) then (if ((rd_T40 bt191.1 1).f0) = a1_0 then (some (((rd_T40 bt191.1 1).f1).toList != a1_1.toList)) else (some true)) else (none)) else (some true)) else (some true)) else (none)) else (some true)) else (some true))) else (none)))
def culetref13_Apart.T1 : Bool × List (List Nat × List Nat) := (true, [([], []), ([0], [0]), ([], []), ([2, 1], [2]), ([1, 3], [1, 3]), ([4, 3], [4]), ([5], [5]), ([6], [6]), ([6], [6]), ([6], [6]), ([7, 5, 0, 1, 2, 3, 4, 5, 6, 7], [7]), ([8, 10, 0, 1, 2, 3, 4, 5, 6, 7, 8, 10], [8]), ([9, 11, 0, 1, 2, 3, 4, 5, 6, 7, 8, 9, 10, 11], [9])])
def culetref13_Apart.B1 : List Nat := [0, 1, 0, 7, 15, 31, 63, 127, 127, 127, 255, 1535, 4095]
theorem culetref13_Apart.tab1 : rtab .any (opsOf Tryd.f25 1) = culetref13_Apart.T1 := by kernel_rfl
theorem culetref13_Apart.bits1 : waitsOk culetref13_Apart.T1.2 culetref13_Apart.B1 = true := by kernel_rfl
def culetref13_Apart.T2 : Bool × List (List Nat × List Nat) := (true, [([], []), ([0], [0]), ([1], [1]), ([2], [2]), ([3, 2], [2, 3]), ([4, 2], [2, 4]), ([2, 5], [2, 5]), ([6, 2], [6]), ([7], [7]), ([8, 7], [7, 8]), ([9, 7], [7, 9]), ([10, 7], [7, 10]), ([7], [7]), ([12, 7], [7, 12]), ([11, 13, 7], [7, 11, 13]), ([7, 14], [7, 14]), ([15, 7], [15]), ([16], [16]), ([17, 16], [16, 17]), ([18, 16], [16, 18]), ([19, 16], [16, 19]), ([16], [16]), ([21, 16], [16, 21]), ([20, 22, 16], [16, 20, 22]), ([16, 23], [16, 23]), ([24, 16], [24]), ([25], [25]), ([26, 25], [25, 26]), ([27, 25], [25, 27]), ([28, 25], [25, 28]), ([25], [25]), ([30, 25], [25, 30]), ([29, 31, 25], [25, 29, 31]), ([25, 32], [25, 32]), ([33, 25], [33]), ([34], [34]), ([35, 34], [34, 35]), ([36, 34], [34, 36]), ([37, 34], [34, 37]), ([34], [34]), ([39, 34], [34, 39]), ([38, 40, 34], [34, 38, 40]), ([34, 41], [34, 41]), ([42, 34, 0, 1, 2, 3, 4, 5, 6, 7, 8, 9, 10, 11, 12, 13, 14, 15, 16, 17, 18, 19, 20, 21, 22, 23, 24, 25, 26, 27, 28, 29, 30, 31, 32, 33, 34, 35, 36, 37, 38, 39, 40, 41, 42], [42])])
def culetref13_Apart.B2 : List Nat := [0, 1, 3, 7, 15, 31, 63, 127, 255, 511, 1023, 2047, 255, 4351, 16383, 32767, 65535, 131071, 262143, 524287, 1048575, 131071, 2228223, 8388607, 16777215, 33554431, 67108863, 134217727, 268435455, 536870911, 67108863, 1140850687, 4294967295, 8589934591, 17179869183, 34359738367, 68719476735, 137438953471, 274877906943, 34359738367, 584115552255, 2199023255551, 4398046511103, 8796093022207]
theorem culetref13_Apart.tab2 : rtab .any (opsOf Tryd.f25 2) = culetref13_Apart.T2 := by kernel_rfl
theorem culetref13_Apart.bits2 : waitsOk culetref13_Apart.T2.2 culetref13_Apart.B2 = true := by kernel_rfl
set_option maxHeartbeats 8000000 in
set_option maxRecDepth 100000 in
theorem culetref13_Apart.calls (k : Nat) (a0_0 : Int) (a0_1 : ByteArray) (a0_2 : Int) (a0_3 : Int) (a1_0 : Int) (a1_1 : ByteArray) (a1_2 : Int) (a1_3 : Int) (r : Bool) (w : World) (h : culetref13_Apart.f k a0_0 a0_1 a0_2 a0_3 a1_0 a1_1 a1_2 a1_3 = some r) :
  Calls Tryd.prog 25 #[.agg #[.int .i64 a0_0, .string a0_1, .int .i64 a0_2, .int .i64 a0_3], .agg #[.int .i64 a1_0, .string a1_1, .int .i64 a1_2, .int .i64 a1_3]] w fun e w' => e = .returned (.bool r) ∧ Below w.heap.size w w' := by
 have hu40 := Tryd.underlying40
 have HB := am_ (Below.refl w.heap.size w)
 have H : ((culetref13_Source.f a0_0 a0_1 a0_2 a0_3).bind fun t189 => ((culetref13_Source.f a1_0 a1_1 a1_2 a1_3).bind fun t190 => (if t189.size + t190.size ≤ 9223372036854775807 then ((culetref13_Lex.f k (t189 ++ t190)).bind fun bt191 => (if bt191.2.2 = 0 then (if (bt191.1.length : Int) = 2 then (if 0 < (bt191.1.length : Int) then (if ((rd_T40 bt191.1 0).f0) = a0_0 then (if ((rd_T40 bt191.1 0).f1).toList = a0_1.toList then (if 1 < (bt191.1.length : Int) then (if ((rd_T40 bt191.1 1).f0) = a1_0 then (some (((rd_T40 bt191.1 1).f1).toList != a1_1.toList)) else (some true)) else (none)) else (some true)) else (some true)) else (none)) else (some true)) else (some true))) else (none)))) = some r := h
 clear h
 replace H := Option.bind_eq_some_iff.mp H
 obtain ⟨t189, A30, H⟩ := H
 replace H : ((culetref13_Source.f a1_0 a1_1 a1_2 a1_3).bind fun t190 => (if t189.size + t190.size ≤ 9223372036854775807 then ((culetref13_Lex.f k (t189 ++ t190)).bind fun bt191 => (if bt191.2.2 = 0 then (if (bt191.1.length : Int) = 2 then (if 0 < (bt191.1.length : Int) then (if ((rd_T40 bt191.1 0).f0) = a0_0 then (if ((rd_T40 bt191.1 0).f1).toList = a0_1.toList then (if 1 < (bt191.1.length : Int) then (if ((rd_T40 bt191.1 1).f0) = a1_0 then (some (((rd_T40 bt191.1 1).f1).toList != a1_1.toList)) else (some true)) else (none)) else (some true)) else (some true)) else (none)) else (some true)) else (some true))) else (none))) = some r := H
 have A3 := am_ A30
 clear A30
 replace H := Option.bind_eq_some_iff.mp H
 obtain ⟨t190, A40, H⟩ := H
 replace H : (if t189.size + t190.size ≤ 9223372036854775807 then ((culetref13_Lex.f k (t189 ++ t190)).bind fun bt191 => (if bt191.2.2 = 0 then (if (bt191.1.length : Int) = 2 then (if 0 < (bt191.1.length : Int) then (if ((rd_T40 bt191.1 0).f0) = a0_0 then (if ((rd_T40 bt191.1 0).f1).toList = a0_1.toList then (if 1 < (bt191.1.length : Int) then (if ((rd_T40 bt191.1 1).f0) = a1_0 then (some (((rd_T40 bt191.1 1).f1).toList != a1_1.toList)) else (some true)) else (none)) else (some true)) else (some true)) else (none)) else (some true)) else (some true))) else (none)) = some r := H
 have A4 := am_ A40
 clear A40
 by_cases c5 : t189.size + t190.size ≤ 9223372036854775807
 ·
  rw [if_pos c5] at H
  have c5b0 := eq_true c5
  have c5b1 : decide (t189.size + t190.size ≤ 9223372036854775807) = true := decide_eq_true c5
  try have c5b2 : (9223372036854775807 < t189.size + t190.size) = False := eq_false (Nat.not_lt.2 c5)
  replace H := Option.bind_eq_some_iff.mp H
  obtain ⟨⟨t191, t192, t193⟩, A60, H⟩ := H
  replace H : (if t193 = 0 then (if (t191.length : Int) = 2 then (if 0 < (t191.length : Int) then (if ((rd_T40 t191 0).f0) = a0_0 then (if ((rd_T40 t191 0).f1).toList = a0_1.toList then (if 1 < (t191.length : Int) then (if ((rd_T40 t191 1).f0) = a1_0 then (some (((rd_T40 t191 1).f1).toList != a1_1.toList)) else (some true)) else (none)) else (some true)) else (some true)) else (none)) else (some true)) else (some true)) = some r := H
  have A6 := am_ A60
  clear A60
  by_cases c7 : t193 = 0
  ·
   rw [if_pos c7] at H
   have c7b0 : (t193 == 0) = true := beq_iff_eq.mpr c7
   have c7b1 : (t193 != 0) = false := bne_eq_false_iff_eq.mpr c7
   clear c7
   by_cases c8 : (t191.length : Int) = 2
   ·
    rw [if_pos c8] at H
    have c8b0 : ((t191.length : Int) == 2) = true := beq_iff_eq.mpr c8
    have c8b1 : ((t191.length : Int) != 2) = false := bne_eq_false_iff_eq.mpr c8
    clear c8
    by_cases c9 : 0 < (t191.length : Int)
    ·
     rw [if_pos c9] at H
     have c9b0 : decide (0 < (t191.length : Int)) = true := decide_eq_true c9
     have c9b1 : decide (0 < t191.length) = true := decide_eq_true (by omega)
     clear c9
     by_cases c10 : ((rd_T40 t191 0).f0) = a0_0
     ·
      rw [if_pos c10] at H
      have c10b0 : (((rd_T40 t191 0).f0) == a0_0) = true := beq_iff_eq.mpr c10
      have c10b1 : (((rd_T40 t191 0).f0) != a0_0) = false := bne_eq_false_iff_eq.mpr c10
      clear c10
      by_cases c11 : ((rd_T40 t191 0).f1).toList = a0_1.toList
      ·
       rw [if_pos c11] at H
       have c11b0 : (((rd_T40 t191 0).f1).toList == a0_1.toList) = true := beq_iff_eq.mpr c11
       have c11b1 : (((rd_T40 t191 0).f1).toList != a0_1.toList) = false := bne_eq_false_iff_eq.mpr c11
       clear c11
       by_cases c12 : 1 < (t191.length : Int)
       ·
        rw [if_pos c12] at H
        have c12b0 : decide (1 < (t191.length : Int)) = true := decide_eq_true c12
        have c12b1 : decide (1 < t191.length) = true := decide_eq_true (by omega)
        clear c12
        by_cases c13 : ((rd_T40 t191 1).f0) = a1_0
        ·
         rw [if_pos c13] at H
         have c13b0 : (((rd_T40 t191 1).f0) == a1_0) = true := beq_iff_eq.mpr c13
         have c13b1 : (((rd_T40 t191 1).f0) != a1_0) = false := bne_eq_false_iff_eq.mpr c13
         clear c13
         obtain rfl := Option.some.inj H
         go_enter Tryd.func25, Tryd.ntmps25
         try go_wp2_with (first | ((with_reducible refine gate_dst (N := 2) rfl ?_); (try (refine gate_guard (by rfl) ?_; dsimp only)); refine bev (N := 2) (cs := #[.int .i64 a0_0, .string a0_1, .int .i64 a0_2, .int .i64 a0_3]) (t := 40) ?_; intro gb187 hg w14 hbox hb; have n0_ := am_ (below_step (mb_ HB.out) hb); have n1_ := am_ (hbox); have n2_ := am_ ((bz_ hg (mb_ HB.out) : w.heap.size ≤ gb187)); have n3_ := am_ ((bz_ hg (mb_ HB.out) : w.heap.size ≤ gb187)); clear HB; have HB := n0_; have BK187 := n1_; have GW187 := n2_; have GE187 := n3_; clear n0_ n1_ n2_ n3_; clear hb hbox hg) | ((with_reducible refine gate_dst (N := 3) rfl ?_); (try (refine gate_guard (by rfl) ?_; dsimp only)); refine bev (N := 3) (cs := #[.int .i64 a1_0, .string a1_1, .int .i64 a1_2, .int .i64 a1_3]) (t := 40) ?_; intro gb188 hg w15 hbox hb; have n0_ := am_ (blk_below (mk_ BK187.out) hb); have n1_ := am_ (below_step (mb_ HB.out) hb); have n2_ := am_ (hbox); have n3_ := am_ ((bz_ hg (mb_ HB.out) : w.heap.size ≤ gb188)); have n4_ := am_ ((bz_ hg (mb_ HB.out) : w.heap.size ≤ gb188)); have n5_ := am_ ((nl_ hg (mk_ BK187.out) : gb187 ≠ gb188)); have n6_ := am_ ((ng_ hg (mk_ BK187.out) : gb188 ≠ gb187)); clear BK187 HB; have BK187 := n0_; have HB := n1_; have BK188 := n2_; have GW188 := n3_; have GE188 := n4_; have NB187_188 := n5_; have NB188_187 := n6_; clear n0_ n1_ n2_ n3_ n4_ n5_ n6_; clear hb hbox hg))
         have z_ := aI (am_ (blk_drew BK187.out)) (aI (am_ (blk_drew BK188.out)) (am_ (below_drew1 HB.out)))
         clear BK187 BK188 HB
         obtain ⟨BK187, BK188, HB⟩ := z_
         refine start_ (n := 13) (S := fun w' => w'.cell? ⟨gb187, 0, none⟩ = some (.int .i64 a0_0) ∧ w'.cell? ⟨gb187, 1, none⟩ = some (.string a0_1) ∧ w'.cell? ⟨gb187, 2, none⟩ = some (.int .i64 a0_2) ∧ w'.cell? ⟨gb187, 3, none⟩ = some (.int .i64 a0_3) ∧ w'.cell? ⟨gb188, 0, none⟩ = some (.int .i64 a1_0) ∧ w'.cell? ⟨gb188, 1, none⟩ = some (.string a1_1) ∧ w'.cell? ⟨gb188, 2, none⟩ = some (.int .i64 a1_2) ∧ w'.cell? ⟨gb188, 3, none⟩ = some (.int .i64 a1_3)) (ds := []) #[false, false, false, false, false, false, false, false, false, false, false, false, false] (by kernel_rfl) rfl rfl ⟨(blk_cell BK187.out 0).trans rfl, (blk_cell BK187.out 1).trans rfl, (blk_cell BK187.out 2).trans rfl, (blk_cell BK187.out 3).trans rfl, (blk_cell BK188.out 0).trans rfl, (blk_cell BK188.out 1).trans rfl, (blk_cell BK188.out 2).trans rfl, (blk_cell BK188.out 3).trans rfl⟩ (fun hHeld => ?_); refine with_tabW culetref13_Apart.tab1 culetref13_Apart.bits1 (fun HT_ HW_ => ?_)
         generalize w15.drew = w16 at BK187 BK188 HB hHeld ⊢
         refine take_ (i := 0) (N := some 9) (v := ?_) (a' := ?_) #[true, false, false, false, false, false, false, false, false, false, false, false, false] rfl rfl (take_ofW HT_.out HW_.out (by kernel_rfl)) (fun _ _ _ h => h) (Or.inl ⟨by rfl, ?_⟩) hHeld ?_ ?_
         rotate_left
         ·
          rintro w' ⟨s0, s1, s2, s3, s4, s5, s6, s7⟩
          go_simp
          with_reducible rfl
         rotate_left
         ·
          simp only [Act.put, List.setIfInBounds_toArray, List.set_cons_zero, List.set_cons_succ, i64_w, i32_w]
          rfl
         refine take_ (i := 2) (N := some 11) (v := ?_) (a' := ?_) #[true, false, true, false, false, false, false, false, false, false, false, false, false] rfl rfl (take_ofW HT_.out HW_.out (by kernel_rfl)) (fun _ _ _ h => h) (Or.inl ⟨by rfl, ?_⟩) hHeld ?_ ?_
         rotate_left
         ·
          rintro w' ⟨s0, s1, s2, s3, s4, s5, s6, s7⟩
          go_simp
          with_reducible rfl
         rotate_left
         ·
          simp only [Act.put, List.setIfInBounds_toArray, List.set_cons_zero, List.set_cons_succ, i64_w, i32_w]
          rfl
         refine one_ (i := 1) (N := some 10) #[true, true, true, false, false, false, false, false, false, false, false, false, false] rfl rfl (one_of HT_.out (by kernel_rfl)) (by decide) (fun K hK => ?_)
         refine goes_ Tryd.func21 (by kernel_rfl) rfl #[.agg #[.int .i64 a0_0, .string a0_1, .int .i64 a0_2, .int .i64 a0_3]] (by rfl) rfl rfl (by (try simp only [List.map_toArray, List.map_cons, List.map_nil]); first | done | rfl | (simp only [List.length_drop, List.length_take]; rfl)) ?_
         with_reducible refine (culetref13_Source.calls a0_0 a0_1 a0_2 a0_3 t189 _ A3.out).mono ?_
         rintro e w17 ⟨rfl, hb⟩
         refine ⟨_, rfl, ?_⟩
         have z_ := aI (am_ (blk_below (mk_ BK187.out) hb)) (aI (am_ (blk_below (mk_ BK188.out) hb)) (am_ (below_step (mb_ HB.out) hb)))
         clear BK187 BK188 HB
         obtain ⟨BK187, BK188, HB⟩ := z_
         (try clear hb)
         (try clear hb2)
         (try clear hk)
         (try clear hi)
         refine hK.out _ _ ⟨(blk_cell BK187.out 0).trans rfl, (blk_cell BK187.out 1).trans rfl, (blk_cell BK187.out 2).trans rfl, (blk_cell BK187.out 3).trans rfl, (blk_cell BK188.out 0).trans rfl, (blk_cell BK188.out 1).trans rfl, (blk_cell BK188.out 2).trans rfl, (blk_cell BK188.out 3).trans rfl⟩ (fun hHeld => ?_)
         clear hK K
         refine norm_ (a' := ?_) ?_ ?_
         rotate_left
         ·
          show Act.put _ (some 10) _ = _
          simp only [Act.put, List.setIfInBounds_toArray, List.set_cons_zero, List.set_cons_succ, i64_w, i32_w]
          rfl
         refine one_ (i := 3) (N := some 12) #[true, true, true, true, false, false, false, false, false, false, false, false, false] rfl rfl (one_of HT_.out (by kernel_rfl)) (by decide) (fun K hK => ?_)
         refine goes_ Tryd.func21 (by kernel_rfl) rfl #[.agg #[.int .i64 a1_0, .string a1_1, .int .i64 a1_2, .int .i64 a1_3]] (by rfl) rfl rfl (by (try simp only [List.map_toArray, List.map_cons, List.map_nil]); first | done | rfl | (simp only [List.length_drop, List.length_take]; rfl)) ?_
         with_reducible refine (culetref13_Source.calls a1_0 a1_1 a1_2 a1_3 t190 _ A4.out).mono ?_
         rintro e w18 ⟨rfl, hb⟩
         refine ⟨_, rfl, ?_⟩
         have z_ := aI (am_ (blk_below (mk_ BK187.out) hb)) (aI (am_ (blk_below (mk_ BK188.out) hb)) (am_ (below_step (mb_ HB.out) hb)))
         clear BK187 BK188 HB
         obtain ⟨BK187, BK188, HB⟩ := z_
         (try clear hb)
         (try clear hb2)
         (try clear hk)
         (try clear hi)
         refine hK.out _ _ ⟨(blk_cell BK187.out 0).trans rfl, (blk_cell BK187.out 1).trans rfl, (blk_cell BK187.out 2).trans rfl, (blk_cell BK187.out 3).trans rfl, (blk_cell BK188.out 0).trans rfl, (blk_cell BK188.out 1).trans rfl, (blk_cell BK188.out 2).trans rfl, (blk_cell BK188.out 3).trans rfl⟩ (fun hHeld => ?_)
         clear hK K
         refine norm_ (a' := ?_) ?_ ?_
         rotate_left
         ·
          show Act.put _ (some 12) _ = _
          simp only [Act.put, List.setIfInBounds_toArray, List.set_cons_zero, List.set_cons_succ, i64_w, i32_w]
          rfl
         refine pure_ (i := 4) (N := some 13) (v := ?_) (a' := ?_) #[true, true, true, true, true, false, false, false, false, false, false, false, false] rfl rfl (any_of HT_.out (by kernel_rfl)) (fun _ _ _ h => h) (Or.inl ⟨by rfl, ?_⟩) ?_ ?_
         rotate_left
         ·
          intro w'
          go_simp
          with_reducible rfl
         rotate_left
         ·
          simp only [Act.put, List.setIfInBounds_toArray, List.set_cons_zero, List.set_cons_succ, i64_w, i32_w]
          rfl
         refine one_ (i := 5) (N := some 14) #[true, true, true, true, true, true, false, false, false, false, false, false, false] rfl rfl (one_of HT_.out (by kernel_rfl)) (by decide) (fun K hK => ?_)
         refine goes_ Tryd.func12 (by kernel_rfl) rfl #[.string (t189 ++ t190)] (by rfl) rfl rfl (by (try simp only [List.map_toArray, List.map_cons, List.map_nil]); first | done | rfl | (simp only [List.length_drop, List.length_take]; rfl)) ?_
         with_reducible refine (culetref13_Lex.calls k (t189 ++ t190) t191 t192 t193 _ A6.out).mono ?_
         rintro e w19 ⟨v194, rfl, ho0, hb⟩
         refine ⟨_, rfl, ?_⟩
         have z_ := aI (am_ (Kd.R_lower (Kd.R_newB (Kd.R_newB ho0 (g := gb187) (o := .cells #[.int .i64 a0_0, .string a0_1, .int .i64 a0_2, .int .i64 a0_3] 40 (0, 0)) (mk_ BK187.out)) (g := gb188) (o := .cells #[.int .i64 a1_0, .string a1_1, .int .i64 a1_2, .int .i64 a1_3] 40 (0, 0)) (mk_ BK188.out)) (below_size (mb_ HB.out)))) (aI (am_ (blk_below (mk_ BK187.out) hb)) (aI (am_ (blk_below (mk_ BK188.out) hb)) (am_ (below_step (mb_ HB.out) hb))))
         clear BK187 BK188 HB
         obtain ⟨HO195, BK187, BK188, HB⟩ := z_
         (try clear hb)
         (try clear hb2)
         (try clear hk)
         (try clear hi)
         (try clear ho0)
         refine hK.out _ _ ⟨(blk_cell BK187.out 0).trans rfl, (blk_cell BK187.out 1).trans rfl, (blk_cell BK187.out 2).trans rfl, (blk_cell BK187.out 3).trans rfl, (blk_cell BK188.out 0).trans rfl, (blk_cell BK188.out 1).trans rfl, (blk_cell BK188.out 2).trans rfl, (blk_cell BK188.out 3).trans rfl⟩ (fun hHeld => ?_)
         clear hK K
         refine norm_ (a' := ?_) ?_ ?_
         rotate_left
         ·
          show Act.put _ (some 14) _ = _
          simp only [Act.put, List.setIfInBounds_toArray, List.set_cons_zero, List.set_cons_succ, i64_w, i32_w]
          rfl
         refine ltd (o := [0, 1, 2, 3, 4, 5, 6, 7, 8, 9, 10, 11, 12]) (n := 6) (m := 13) (by kernel_rfl) ?_
         iterate 7 (first | (refine pnd (v := ?_) (a' := ?_) rfl rfl (any_of HT_.out (by kernel_rfl)) (fun _ _ _ h => h) (Or.inl ⟨by rfl, ?_⟩) ?_ ?_; rotate_left; (· (intro w'; go_simp; with_reducible rfl)); rotate_left; (· (show Act.put _ (some _) _ = _; simp only [Act.put, List.setIfInBounds_toArray, List.set_cons_zero, List.set_cons_succ, i64_w, i32_w]; rfl))))
         refine done_ (done_of HT_.out (by kernel_rfl)) ?_
         try go_wp2
         have z_ := aI (am_ (Kd.R_drew HO195.out)) (aI (am_ (blk_drew BK187.out)) (aI (am_ (blk_drew BK188.out)) (am_ (below_drew1 HB.out))))
         clear HO195 BK187 BK188 HB
         obtain ⟨HO195, BK187, BK188, HB⟩ := z_
         obtain ⟨Ao21, co21, eo21⟩ := Kd.R_slice HO195.out
         (first | subst eo21 | (injection eo21 with f1_ f2_ f3_; have f4_ := f1_.symm; have f5_ := f3_.symm; clear f1_ f2_ f3_; subst f4_; subst f5_))
         have p196 : 0 ≤ (0 : Int) := (by omega)
         have q196 : 0 < (t191.length : Int) := of_decide_eq_true (by first | (with_reducible assumption) | assumption)
         obtain ⟨ad196, e196, hx196_0, hx196_1, hx196_2, hx196_3⟩ := at_T40 (Kd.R_reads' HO195.out).2.2 0 p196 q196
         cases e196
         have qi196 : (0 < t191.length) = True := eq_true (by omega)
         (try rw [show ((0 : Int)).toNat = 0 from rfl] at hx196_0)
         (try rw [show 0 * 4 = 0 from rfl] at hx196_0)
         (try rw [Addr.add_zero'] at hx196_0)
         (try rw [show ((0 : Int)).toNat = 0 from rfl] at hx196_1)
         (try rw [show 0 * 4 = 0 from rfl] at hx196_1)
         (try rw [Addr.add_zero'] at hx196_1)
         (try rw [show ((0 : Int)).toNat = 0 from rfl] at hx196_2)
         (try rw [show 0 * 4 = 0 from rfl] at hx196_2)
         (try rw [Addr.add_zero'] at hx196_2)
         (try rw [show ((0 : Int)).toNat = 0 from rfl] at hx196_3)
         (try rw [show 0 * 4 = 0 from rfl] at hx196_3)
         (try rw [Addr.add_zero'] at hx196_3)
         replace p196 := eq_true p196
         replace q196 := eq_true q196
         have p197 : 0 ≤ (0 : Int) := (by omega)
         have q197 : 0 < (t191.length : Int) := of_decide_eq_true (by first | (with_reducible assumption) | assumption)
         obtain ⟨ad197, e197, hx197_0, hx197_1, hx197_2, hx197_3⟩ := at_T40 (Kd.R_reads' HO195.out).2.2 0 p197 q197
         obtain rfl : ad196 = ad197 := (by injection e197)
         have qi197 : (0 < t191.length) = True := eq_true (by omega)
         (try rw [show ((0 : Int)).toNat = 0 from rfl] at hx197_0)
         (try rw [show 0 * 4 = 0 from rfl] at hx197_0)
         (try rw [Addr.add_zero'] at hx197_0)
         (try rw [show ((0 : Int)).toNat = 0 from rfl] at hx197_1)
         (try rw [show 0 * 4 = 0 from rfl] at hx197_1)
         (try rw [Addr.add_zero'] at hx197_1)
         (try rw [show ((0 : Int)).toNat = 0 from rfl] at hx197_2)
         (try rw [show 0 * 4 = 0 from rfl] at hx197_2)
         (try rw [Addr.add_zero'] at hx197_2)
         (try rw [show ((0 : Int)).toNat = 0 from rfl] at hx197_3)
         (try rw [show 0 * 4 = 0 from rfl] at hx197_3)
         (try rw [Addr.add_zero'] at hx197_3)
         replace p197 := eq_true p197
         replace q197 := eq_true q197
         have p198 : 0 ≤ (1 : Int) := (by omega)
         have q198 : 1 < (t191.length : Int) := of_decide_eq_true (by first | (with_reducible assumption) | assumption)
         obtain ⟨ad198, e198, hx198_0, hx198_1, hx198_2, hx198_3⟩ := at_T40 (Kd.R_reads' HO195.out).2.2 1 p198 q198
         obtain rfl : ad196 = ad198 := (by injection e198)
         (try simp only [show (1 : Int).toNat = 1 from rfl, Nat.reduceMul, Nat.reduceEqDiff, Go.Addr.add, ↓reduceIte] at hx198_0)
         (try simp only [show (1 : Int).toNat = 1 from rfl, Nat.reduceMul, Nat.reduceEqDiff, Go.Addr.add, ↓reduceIte] at hx198_1)
         (try simp only [show (1 : Int).toNat = 1 from rfl, Nat.reduceMul, Nat.reduceEqDiff, Go.Addr.add, ↓reduceIte] at hx198_2)
         (try simp only [show (1 : Int).toNat = 1 from rfl, Nat.reduceMul, Nat.reduceEqDiff, Go.Addr.add, ↓reduceIte] at hx198_3)
         have qi198 : (1 < t191.length) = True := eq_true (by omega)
         (try rw [show ((1 : Int)).toNat = 1 from rfl] at hx198_0)
         (try rw [show 1 * 4 = 4 from rfl] at hx198_0)
         (try rw [show ((1 : Int)).toNat = 1 from rfl] at hx198_1)
         (try rw [show 1 * 4 = 4 from rfl] at hx198_1)
         (try rw [show ((1 : Int)).toNat = 1 from rfl] at hx198_2)
         (try rw [show 1 * 4 = 4 from rfl] at hx198_2)
         (try rw [show ((1 : Int)).toNat = 1 from rfl] at hx198_3)
         (try rw [show 1 * 4 = 4 from rfl] at hx198_3)
         replace p198 := eq_true p198
         replace q198 := eq_true q198
         have p199 : 0 ≤ (1 : Int) := (by omega)
         have q199 : 1 < (t191.length : Int) := of_decide_eq_true (by first | (with_reducible assumption) | assumption)
         obtain ⟨ad199, e199, hx199_0, hx199_1, hx199_2, hx199_3⟩ := at_T40 (Kd.R_reads' HO195.out).2.2 1 p199 q199
         obtain rfl : ad196 = ad199 := (by injection e199)
         (try simp only [show (1 : Int).toNat = 1 from rfl, Nat.reduceMul, Nat.reduceEqDiff, Go.Addr.add, ↓reduceIte] at hx199_0)
         (try simp only [show (1 : Int).toNat = 1 from rfl, Nat.reduceMul, Nat.reduceEqDiff, Go.Addr.add, ↓reduceIte] at hx199_1)
         (try simp only [show (1 : Int).toNat = 1 from rfl, Nat.reduceMul, Nat.reduceEqDiff, Go.Addr.add, ↓reduceIte] at hx199_2)
         (try simp only [show (1 : Int).toNat = 1 from rfl, Nat.reduceMul, Nat.reduceEqDiff, Go.Addr.add, ↓reduceIte] at hx199_3)
         have qi199 : (1 < t191.length) = True := eq_true (by omega)
         (try rw [show ((1 : Int)).toNat = 1 from rfl] at hx199_0)
         (try rw [show 1 * 4 = 4 from rfl] at hx199_0)
         (try rw [show ((1 : Int)).toNat = 1 from rfl] at hx199_1)
         (try rw [show 1 * 4 = 4 from rfl] at hx199_1)
         (try rw [show ((1 : Int)).toNat = 1 from rfl] at hx199_2)
         (try rw [show 1 * 4 = 4 from rfl] at hx199_2)
         (try rw [show ((1 : Int)).toNat = 1 from rfl] at hx199_3)
         (try rw [show 1 * 4 = 4 from rfl] at hx199_3)
         replace p199 := eq_true p199
         replace q199 := eq_true q199
         refine start_ (n := 44) (S := fun w' => w'.cell? ⟨gb187, 0, none⟩ = some (.int .i64 a0_0) ∧ w'.cell? ⟨gb187, 1, none⟩ = some (.string a0_1) ∧ w'.cell? ⟨gb187, 2, none⟩ = some (.int .i64 a0_2) ∧ w'.cell? ⟨gb187, 3, none⟩ = some (.int .i64 a0_3) ∧ w'.cell? ⟨gb188, 0, none⟩ = some (.int .i64 a1_0) ∧ w'.cell? ⟨gb188, 1, none⟩ = some (.string a1_1) ∧ w'.cell? ⟨gb188, 2, none⟩ = some (.int .i64 a1_2) ∧ w'.cell? ⟨gb188, 3, none⟩ = some (.int .i64 a1_3) ∧ w'.cell? ad196 = some (.int .i64 ((rd_T40 t191 0).f0)) ∧ w'.cell? ⟨ad196.block, ad196.off + 1, none⟩ = some (.string ((rd_T40 t191 0).f1)) ∧ w'.cell? ⟨ad196.block, ad196.off + 2, none⟩ = some (.int .i64 ((rd_T40 t191 0).f2)) ∧ w'.cell? ⟨ad196.block, ad196.off + 3, none⟩ = some (.int .i64 ((rd_T40 t191 0).f3)) ∧ w'.cell? ad196 = some (.int .i64 ((rd_T40 t191 0).f0)) ∧ w'.cell? ⟨ad196.block, ad196.off + 1, none⟩ = some (.string ((rd_T40 t191 0).f1)) ∧ w'.cell? ⟨ad196.block, ad196.off + 2, none⟩ = some (.int .i64 ((rd_T40 t191 0).f2)) ∧ w'.cell? ⟨ad196.block, ad196.off + 3, none⟩ = some (.int .i64 ((rd_T40 t191 0).f3)) ∧ w'.cell? ⟨ad196.block, ad196.off + 4, none⟩ = some (.int .i64 ((rd_T40 t191 1).f0)) ∧ w'.cell? ⟨ad196.block, ad196.off + 4 + 1, none⟩ = some (.string ((rd_T40 t191 1).f1)) ∧ w'.cell? ⟨ad196.block, ad196.off + 4 + 2, none⟩ = some (.int .i64 ((rd_T40 t191 1).f2)) ∧ w'.cell? ⟨ad196.block, ad196.off + 4 + 3, none⟩ = some (.int .i64 ((rd_T40 t191 1).f3)) ∧ w'.cell? ⟨ad196.block, ad196.off + 4, none⟩ = some (.int .i64 ((rd_T40 t191 1).f0)) ∧ w'.cell? ⟨ad196.block, ad196.off + 4 + 1, none⟩ = some (.string ((rd_T40 t191 1).f1)) ∧ w'.cell? ⟨ad196.block, ad196.off + 4 + 2, none⟩ = some (.int .i64 ((rd_T40 t191 1).f2)) ∧ w'.cell? ⟨ad196.block, ad196.off + 4 + 3, none⟩ = some (.int .i64 ((rd_T40 t191 1).f3))) (ds := []) #[false, false, false, false, false, false, false, false, false, false, false, false, false, false, false, false, false, false, false, false, false, false, false, false, false, false, false, false, false, false, false, false, false, false, false, false, false, false, false, false, false, false, false, false] (by kernel_rfl) rfl rfl ⟨(blk_cell BK187.out 0).trans rfl, (blk_cell BK187.out 1).trans rfl, (blk_cell BK187.out 2).trans rfl, (blk_cell BK187.out 3).trans rfl, (blk_cell BK188.out 0).trans rfl, (blk_cell BK188.out 1).trans rfl, (blk_cell BK188.out 2).trans rfl, (blk_cell BK188.out 3).trans rfl, hx196_0, hx196_1, hx196_2, hx196_3, hx197_0, hx197_1, hx197_2, hx197_3, hx198_0, hx198_1, hx198_2, hx198_3, hx199_0, hx199_1, hx199_2, hx199_3⟩ (fun hHeld => ?_); refine with_tabW culetref13_Apart.tab2 culetref13_Apart.bits2 (fun HT_ HW_ => ?_)
         generalize w19.drew = w20 at HO195 BK187 BK188 HB hx196_0 hx196_1 hx196_2 hx196_3 hx197_0 hx197_1 hx197_2 hx197_3 hx198_0 hx198_1 hx198_2 hx198_3 hx199_0 hx199_1 hx199_2 hx199_3 hHeld ⊢
         refine ltd (o := [0, 1, 2, 3, 4, 5, 6, 7, 8, 9, 10, 12, 11, 13, 14, 15, 16, 17, 18, 19, 21, 20, 22, 23, 24, 25, 26, 27, 28, 30, 29, 31, 32, 33, 34, 35, 36, 37, 39, 38, 40, 41, 42, 43]) (n := 0) (m := 44) (by kernel_rfl) ?_
         iterate 44 (first | (refine tnd (v := ?_) (a' := ?_) rfl rfl (take_ofW HT_.out HW_.out (by kernel_rfl)) (fun _ _ _ h => h) (Or.inl ⟨by rfl, ?_⟩) hHeld ?_ ?_; rotate_left; (· (rintro w' ⟨s0, s1, s2, s3, s4, s5, s6, s7, s8, s9, s10, s11, s12, s13, s14, s15, s16, s17, s18, s19, s20, s21, s22, s23⟩; go_simp; with_reducible rfl)); rotate_left; (· (show Act.put _ (some _) _ = _; simp only [Act.put, List.setIfInBounds_toArray, List.set_cons_zero, List.set_cons_succ, i64_w, i32_w]; rfl))) | (refine pnd (v := ?_) (a' := ?_) rfl rfl (any_of HT_.out (by kernel_rfl)) (fun _ _ _ h => h) (Or.inl ⟨by rfl, ?_⟩) ?_ ?_; rotate_left; (· (intro w'; go_simp; with_reducible rfl)); rotate_left; (· (show Act.put _ (some _) _ = _; simp only [Act.put, List.setIfInBounds_toArray, List.set_cons_zero, List.set_cons_succ, i64_w, i32_w]; rfl))))
         refine done_ (done_of HT_.out (by kernel_rfl)) ?_
         try go_wp2
         go_ret
         exact ⟨by first | rfl | (simp [errW_none, errW_some] <;> rfl) | (simp [*, errW_none, errW_some] <;> rfl), mb_ HB.out⟩
        ·
         rw [if_neg c13] at H
         have c13b0 : (((rd_T40 t191 1).f0) == a1_0) = false := beq_eq_false_iff_ne.mpr c13
         have c13b1 : (((rd_T40 t191 1).f0) != a1_0) = true := bne_iff_ne.mpr c13
         obtain rfl := Option.some.inj H
         go_enter Tryd.func25, Tryd.ntmps25
         try go_wp2_with (first | ((with_reducible refine gate_dst (N := 2) rfl ?_); (try (refine gate_guard (by rfl) ?_; dsimp only)); refine bev (N := 2) (cs := #[.int .i64 a0_0, .string a0_1, .int .i64 a0_2, .int .i64 a0_3]) (t := 40) ?_; intro gb187 hg w22 hbox hb; have n0_ := am_ (below_step (mb_ HB.out) hb); have n1_ := am_ (hbox); have n2_ := am_ ((bz_ hg (mb_ HB.out) : w.heap.size ≤ gb187)); have n3_ := am_ ((bz_ hg (mb_ HB.out) : w.heap.size ≤ gb187)); clear HB; have HB := n0_; have BK187 := n1_; have GW187 := n2_; have GE187 := n3_; clear n0_ n1_ n2_ n3_; clear hb hbox hg) | ((with_reducible refine gate_dst (N := 3) rfl ?_); (try (refine gate_guard (by rfl) ?_; dsimp only)); refine bev (N := 3) (cs := #[.int .i64 a1_0, .string a1_1, .int .i64 a1_2, .int .i64 a1_3]) (t := 40) ?_; intro gb188 hg w23 hbox hb; have n0_ := am_ (blk_below (mk_ BK187.out) hb); have n1_ := am_ (below_step (mb_ HB.out) hb); have n2_ := am_ (hbox); have n3_ := am_ ((bz_ hg (mb_ HB.out) : w.heap.size ≤ gb188)); have n4_ := am_ ((bz_ hg (mb_ HB.out) : w.heap.size ≤ gb188)); have n5_ := am_ ((nl_ hg (mk_ BK187.out) : gb187 ≠ gb188)); have n6_ := am_ ((ng_ hg (mk_ BK187.out) : gb188 ≠ gb187)); clear BK187 HB; have BK187 := n0_; have HB := n1_; have BK188 := n2_; have GW188 := n3_; have GE188 := n4_; have NB187_188 := n5_; have NB188_187 := n6_; clear n0_ n1_ n2_ n3_ n4_ n5_ n6_; clear hb hbox hg))
         have z_ := aI (am_ (blk_drew BK187.out)) (aI (am_ (blk_drew BK188.out)) (am_ (below_drew1 HB.out)))
         clear BK187 BK188 HB
         obtain ⟨BK187, BK188, HB⟩ := z_
         refine start_ (n := 13) (S := fun w' => w'.cell? ⟨gb187, 0, none⟩ = some (.int .i64 a0_0) ∧ w'.cell? ⟨gb187, 1, none⟩ = some (.string a0_1) ∧ w'.cell? ⟨gb187, 2, none⟩ = some (.int .i64 a0_2) ∧ w'.cell? ⟨gb187, 3, none⟩ = some (.int .i64 a0_3) ∧ w'.cell? ⟨gb188, 0, none⟩ = some (.int .i64 a1_0) ∧ w'.cell? ⟨gb188, 1, none⟩ = some (.string a1_1) ∧ w'.cell? ⟨gb188, 2, none⟩ = some (.int .i64 a1_2) ∧ w'.cell? ⟨gb188, 3, none⟩ = some (.int .i64 a1_3)) (ds := []) #[false, false, false, false, false, false, false, false, false, false, false, false, false] (by kernel_rfl) rfl rfl ⟨(blk_cell BK187.out 0).trans rfl, (blk_cell BK187.out 1).trans rfl, (blk_cell BK187.out 2).trans rfl, (blk_cell BK187.out 3).trans rfl, (blk_cell BK188.out 0).trans rfl, (blk_cell BK188.out 1).trans rfl, (blk_cell BK188.out 2).trans rfl, (blk_cell BK188.out 3).trans rfl⟩ (fun hHeld => ?_); refine with_tabW culetref13_Apart.tab1 culetref13_Apart.bits1 (fun HT_ HW_ => ?_)
         generalize w23.drew = w24 at BK187 BK188 HB hHeld ⊢
         refine take_ (i := 0) (N := some 9) (v := ?_) (a' := ?_) #[true, false, false, false, false, false, false, false, false, false, false, false, false] rfl rfl (take_ofW HT_.out HW_.out (by kernel_rfl)) (fun _ _ _ h => h) (Or.inl ⟨by rfl, ?_⟩) hHeld ?_ ?_
         rotate_left
         ·
          rintro w' ⟨s0, s1, s2, s3, s4, s5, s6, s7⟩
          go_simp
          with_reducible rfl
         rotate_left
         ·
          simp only [Act.put, List.setIfInBounds_toArray, List.set_cons_zero, List.set_cons_succ, i64_w, i32_w]
          rfl
         refine take_ (i := 2) (N := some 11) (v := ?_) (a' := ?_) #[true, false, true, false, false, false, false, false, false, false, false, false, false] rfl rfl (take_ofW HT_.out HW_.out (by kernel_rfl)) (fun _ _ _ h => h) (Or.inl ⟨by rfl, ?_⟩) hHeld ?_ ?_
         rotate_left
         ·
          rintro w' ⟨s0, s1, s2, s3, s4, s5, s6, s7⟩
          go_simp
          with_reducible rfl
         rotate_left
         ·
          simp only [Act.put, List.setIfInBounds_toArray, List.set_cons_zero, List.set_cons_succ, i64_w, i32_w]
          rfl
         refine one_ (i := 1) (N := some 10) #[true, true, true, false, false, false, false, false, false, false, false, false, false] rfl rfl (one_of HT_.out (by kernel_rfl)) (by decide) (fun K hK => ?_)
         refine goes_ Tryd.func21 (by kernel_rfl) rfl #[.agg #[.int .i64 a0_0, .string a0_1, .int .i64 a0_2, .int .i64 a0_3]] (by rfl) rfl rfl (by (try simp only [List.map_toArray, List.map_cons, List.map_nil]); first | done | rfl | (simp only [List.length_drop, List.length_take]; rfl)) ?_
         with_reducible refine (culetref13_Source.calls a0_0 a0_1 a0_2 a0_3 t189 _ A3.out).mono ?_
         rintro e w25 ⟨rfl, hb⟩
         refine ⟨_, rfl, ?_⟩
         have z_ := aI (am_ (blk_below (mk_ BK187.out) hb)) (aI (am_ (blk_below (mk_ BK188.out) hb)) (am_ (below_step (mb_ HB.out) hb)))
         clear BK187 BK188 HB
         obtain ⟨BK187, BK188, HB⟩ := z_
         (try clear hb)
         (try clear hb2)
         (try clear hk)
         (try clear hi)
         refine hK.out _ _ ⟨(blk_cell BK187.out 0).trans rfl, (blk_cell BK187.out 1).trans rfl, (blk_cell BK187.out 2).trans rfl, (blk_cell BK187.out 3).trans rfl, (blk_cell BK188.out 0).trans rfl, (blk_cell BK188.out 1).trans rfl, (blk_cell BK188.out 2).trans rfl, (blk_cell BK188.out 3).trans rfl⟩ (fun hHeld => ?_)
         clear hK K
         refine norm_ (a' := ?_) ?_ ?_
         rotate_left
         ·
          show Act.put _ (some 10) _ = _
          simp only [Act.put, List.setIfInBounds_toArray, List.set_cons_zero, List.set_cons_succ, i64_w, i32_w]
          rfl
         refine one_ (i := 3) (N := some 12) #[true, true, true, true, false, false, false, false, false, false, false, false, false] rfl rfl (one_of HT_.out (by kernel_rfl)) (by decide) (fun K hK => ?_)
         refine goes_ Tryd.func21 (by kernel_rfl) rfl #[.agg #[.int .i64 a1_0, .string a1_1, .int .i64 a1_2, .int .i64 a1_3]] (by rfl) rfl rfl (by (try simp only [List.map_toArray, List.map_cons, List.map_nil]); first | done | rfl | (simp only [List.length_drop, List.length_take]; rfl)) ?_
         with_reducible refine (culetref13_Source.calls a1_0 a1_1 a1_2 a1_3 t190 _ A4.out).mono ?_
         rintro e w26 ⟨rfl, hb⟩
         refine ⟨_, rfl, ?_⟩
         have z_ := aI (am_ (blk_below (mk_ BK187.out) hb)) (aI (am_ (blk_below (mk_ BK188.out) hb)) (am_ (below_step (mb_ HB.out) hb)))
         clear BK187 BK188 HB
         obtain ⟨BK187, BK188, HB⟩ := z_
         (try clear hb)
         (try clear hb2)
         (try clear hk)
         (try clear hi)
         refine hK.out _ _ ⟨(blk_cell BK187.out 0).trans rfl, (blk_cell BK187.out 1).trans rfl, (blk_cell BK187.out 2).trans rfl, (blk_cell BK187.out 3).trans rfl, (blk_cell BK188.out 0).trans rfl, (blk_cell BK188.out 1).trans rfl, (blk_cell BK188.out 2).trans rfl, (blk_cell BK188.out 3).trans rfl⟩ (fun hHeld => ?_)
         clear hK K
         refine norm_ (a' := ?_) ?_ ?_
         rotate_left
         ·
          show Act.put _ (some 12) _ = _
          simp only [Act.put, List.setIfInBounds_toArray, List.set_cons_zero, List.set_cons_succ, i64_w, i32_w]
          rfl
         refine pure_ (i := 4) (N := some 13) (v := ?_) (a' := ?_) #[true, true, true, true, true, false, false, false, false, false, false, false, false] rfl rfl (any_of HT_.out (by kernel_rfl)) (fun _ _ _ h => h) (Or.inl ⟨by rfl, ?_⟩) ?_ ?_
         rotate_left
         ·
          intro w'
          go_simp
          with_reducible rfl
         rotate_left
         ·
          simp only [Act.put, List.setIfInBounds_toArray, List.set_cons_zero, List.set_cons_succ, i64_w, i32_w]
          rfl
         refine one_ (i := 5) (N := some 14) #[true, true, true, true, true, true, false, false, false, false, false, false, false] rfl rfl (one_of HT_.out (by kernel_rfl)) (by decide) (fun K hK => ?_)
         refine goes_ Tryd.func12 (by kernel_rfl) rfl #[.string (t189 ++ t190)] (by rfl) rfl rfl (by (try simp only [List.map_toArray, List.map_cons, List.map_nil]); first | done | rfl | (simp only [List.length_drop, List.length_take]; rfl)) ?_
         with_reducible refine (culetref13_Lex.calls k (t189 ++ t190) t191 t192 t193 _ A6.out).mono ?_
         rintro e w27 ⟨v194, rfl, ho0, hb⟩
         refine ⟨_, rfl, ?_⟩
         have z_ := aI (am_ (Kd.R_lower (Kd.R_newB (Kd.R_newB ho0 (g := gb187) (o := .cells #[.int .i64 a0_0, .string a0_1, .int .i64 a0_2, .int .i64 a0_3] 40 (0, 0)) (mk_ BK187.out)) (g := gb188) (o := .cells #[.int .i64 a1_0, .string a1_1, .int .i64 a1_2, .int .i64 a1_3] 40 (0, 0)) (mk_ BK188.out)) (below_size (mb_ HB.out)))) (aI (am_ (blk_below (mk_ BK187.out) hb)) (aI (am_ (blk_below (mk_ BK188.out) hb)) (am_ (below_step (mb_ HB.out) hb))))
         clear BK187 BK188 HB
         obtain ⟨HO195, BK187, BK188, HB⟩ := z_
         (try clear hb)
         (try clear hb2)
         (try clear hk)
         (try clear hi)
         (try clear ho0)
         refine hK.out _ _ ⟨(blk_cell BK187.out 0).trans rfl, (blk_cell BK187.out 1).trans rfl, (blk_cell BK187.out 2).trans rfl, (blk_cell BK187.out 3).trans rfl, (blk_cell BK188.out 0).trans rfl, (blk_cell BK188.out 1).trans rfl, (blk_cell BK188.out 2).trans rfl, (blk_cell BK188.out 3).trans rfl⟩ (fun hHeld => ?_)
         clear hK K
         refine norm_ (a' := ?_) ?_ ?_
         rotate_left
         ·
          show Act.put _ (some 14) _ = _
          simp only [Act.put, List.setIfInBounds_toArray, List.set_cons_zero, List.set_cons_succ, i64_w, i32_w]
          rfl
         refine ltd (o := [0, 1, 2, 3, 4, 5, 6, 7, 8, 9, 10, 11, 12]) (n := 6) (m := 13) (by kernel_rfl) ?_
         iterate 7 (first | (refine pnd (v := ?_) (a' := ?_) rfl rfl (any_of HT_.out (by kernel_rfl)) (fun _ _ _ h => h) (Or.inl ⟨by rfl, ?_⟩) ?_ ?_; rotate_left; (· (intro w'; go_simp; with_reducible rfl)); rotate_left; (· (show Act.put _ (some _) _ = _; simp only [Act.put, List.setIfInBounds_toArray, List.set_cons_zero, List.set_cons_succ, i64_w, i32_w]; rfl))))
         refine done_ (done_of HT_.out (by kernel_rfl)) ?_
         try go_wp2
         have z_ := aI (am_ (Kd.R_drew HO195.out)) (aI (am_ (blk_drew BK187.out)) (aI (am_ (blk_drew BK188.out)) (am_ (below_drew1 HB.out))))
         clear HO195 BK187 BK188 HB
         obtain ⟨HO195, BK187, BK188, HB⟩ := z_
         obtain ⟨Ao29, co29, eo29⟩ := Kd.R_slice HO195.out
         (first | subst eo29 | (injection eo29 with f1_ f2_ f3_; have f4_ := f1_.symm; have f5_ := f3_.symm; clear f1_ f2_ f3_; subst f4_; subst f5_))
         have p196 : 0 ≤ (0 : Int) := (by omega)
         have q196 : 0 < (t191.length : Int) := of_decide_eq_true (by first | (with_reducible assumption) | assumption)
         obtain ⟨ad196, e196, hx196_0, hx196_1, hx196_2, hx196_3⟩ := at_T40 (Kd.R_reads' HO195.out).2.2 0 p196 q196
         cases e196
         have qi196 : (0 < t191.length) = True := eq_true (by omega)
         (try rw [show ((0 : Int)).toNat = 0 from rfl] at hx196_0)
         (try rw [show 0 * 4 = 0 from rfl] at hx196_0)
         (try rw [Addr.add_zero'] at hx196_0)
         (try rw [show ((0 : Int)).toNat = 0 from rfl] at hx196_1)
         (try rw [show 0 * 4 = 0 from rfl] at hx196_1)
         (try rw [Addr.add_zero'] at hx196_1)
         (try rw [show ((0 : Int)).toNat = 0 from rfl] at hx196_2)
         (try rw [show 0 * 4 = 0 from rfl] at hx196_2)
         (try rw [Addr.add_zero'] at hx196_2)
         (try rw [show ((0 : Int)).toNat = 0 from rfl] at hx196_3)
         (try rw [show 0 * 4 = 0 from rfl] at hx196_3)
         (try rw [Addr.add_zero'] at hx196_3)
         replace p196 := eq_true p196
         replace q196 := eq_true q196
         have p197 : 0 ≤ (0 : Int) := (by omega)
         have q197 : 0 < (t191.length : Int) := of_decide_eq_true (by first | (with_reducible assumption) | assumption)
         obtain ⟨ad197, e197, hx197_0, hx197_1, hx197_2, hx197_3⟩ := at_T40 (Kd.R_reads' HO195.out).2.2 0 p197 q197
         obtain rfl : ad196 = ad197 := (by injection e197)
         have qi197 : (0 < t191.length) = True := eq_true (by omega)
         (try rw [show ((0 : Int)).toNat = 0 from rfl] at hx197_0)
         (try rw [show 0 * 4 = 0 from rfl] at hx197_0)
         (try rw [Addr.add_zero'] at hx197_0)
         (try rw [show ((0 : Int)).toNat = 0 from rfl] at hx197_1)
         (try rw [show 0 * 4 = 0 from rfl] at hx197_1)
         (try rw [Addr.add_zero'] at hx197_1)
         (try rw [show ((0 : Int)).toNat = 0 from rfl] at hx197_2)
         (try rw [show 0 * 4 = 0 from rfl] at hx197_2)
         (try rw [Addr.add_zero'] at hx197_2)
         (try rw [show ((0 : Int)).toNat = 0 from rfl] at hx197_3)
         (try rw [show 0 * 4 = 0 from rfl] at hx197_3)
         (try rw [Addr.add_zero'] at hx197_3)
         replace p197 := eq_true p197
         replace q197 := eq_true q197
         have p198 : 0 ≤ (1 : Int) := (by omega)
         have q198 : 1 < (t191.length : Int) := of_decide_eq_true (by first | (with_reducible assumption) | assumption)
         obtain ⟨ad198, e198, hx198_0, hx198_1, hx198_2, hx198_3⟩ := at_T40 (Kd.R_reads' HO195.out).2.2 1 p198 q198
         obtain rfl : ad196 = ad198 := (by injection e198)
         (try simp only [show (1 : Int).toNat = 1 from rfl, Nat.reduceMul, Nat.reduceEqDiff, Go.Addr.add, ↓reduceIte] at hx198_0)
         (try simp only [show (1 : Int).toNat = 1 from rfl, Nat.reduceMul, Nat.reduceEqDiff, Go.Addr.add, ↓reduceIte] at hx198_1)
         (try simp only [show (1 : Int).toNat = 1 from rfl, Nat.reduceMul, Nat.reduceEqDiff, Go.Addr.add, ↓reduceIte] at hx198_2)
         (try simp only [show (1 : Int).toNat = 1 from rfl, Nat.reduceMul, Nat.reduceEqDiff, Go.Addr.add, ↓reduceIte] at hx198_3)
         have qi198 : (1 < t191.length) = True := eq_true (by omega)
         (try rw [show ((1 : Int)).toNat = 1 from rfl] at hx198_0)
         (try rw [show 1 * 4 = 4 from rfl] at hx198_0)
         (try rw [show ((1 : Int)).toNat = 1 from rfl] at hx198_1)
         (try rw [show 1 * 4 = 4 from rfl] at hx198_1)
         (try rw [show ((1 : Int)).toNat = 1 from rfl] at hx198_2)
         (try rw [show 1 * 4 = 4 from rfl] at hx198_2)
         (try rw [show ((1 : Int)).toNat = 1 from rfl] at hx198_3)
         (try rw [show 1 * 4 = 4 from rfl] at hx198_3)
         replace p198 := eq_true p198
         replace q198 := eq_true q198
         refine start_ (n := 44) (S := fun w' => w'.cell? ⟨gb187, 0, none⟩ = some (.int .i64 a0_0) ∧ w'.cell? ⟨gb187, 1, none⟩ = some (.string a0_1) ∧ w'.cell? ⟨gb187, 2, none⟩ = some (.int .i64 a0_2) ∧ w'.cell? ⟨gb187, 3, none⟩ = some (.int .i64 a0_3) ∧ w'.cell? ⟨gb188, 0, none⟩ = some (.int .i64 a1_0) ∧ w'.cell? ⟨gb188, 1, none⟩ = some (.string a1_1) ∧ w'.cell? ⟨gb188, 2, none⟩ = some (.int .i64 a1_2) ∧ w'.cell? ⟨gb188, 3, none⟩ = some (.int .i64 a1_3) ∧ w'.cell? ad196 = some (.int .i64 ((rd_T40 t191 0).f0)) ∧ w'.cell? ⟨ad196.block, ad196.off + 1, none⟩ = some (.string ((rd_T40 t191 0).f1)) ∧ w'.cell? ⟨ad196.block, ad196.off + 2, none⟩ = some (.int .i64 ((rd_T40 t191 0).f2)) ∧ w'.cell? ⟨ad196.block, ad196.off + 3, none⟩ = some (.int .i64 ((rd_T40 t191 0).f3)) ∧ w'.cell? ad196 = some (.int .i64 ((rd_T40 t191 0).f0)) ∧ w'.cell? ⟨ad196.block, ad196.off + 1, none⟩ = some (.string ((rd_T40 t191 0).f1)) ∧ w'.cell? ⟨ad196.block, ad196.off + 2, none⟩ = some (.int .i64 ((rd_T40 t191 0).f2)) ∧ w'.cell? ⟨ad196.block, ad196.off + 3, none⟩ = some (.int .i64 ((rd_T40 t191 0).f3)) ∧ w'.cell? ⟨ad196.block, ad196.off + 4, none⟩ = some (.int .i64 ((rd_T40 t191 1).f0)) ∧ w'.cell? ⟨ad196.block, ad196.off + 4 + 1, none⟩ = some (.string ((rd_T40 t191 1).f1)) ∧ w'.cell? ⟨ad196.block, ad196.off + 4 + 2, none⟩ = some (.int .i64 ((rd_T40 t191 1).f2)) ∧ w'.cell? ⟨ad196.block, ad196.off + 4 + 3, none⟩ = some (.int .i64 ((rd_T40 t191 1).f3))) (ds := []) #[false, false, false, false, false, false, false, false, false, false, false, false, false, false, false, false, false, false, false, false, false, false, false, false, false, false, false, false, false, false, false, false, false, false, false, false, false, false, false, false, false, false, false, false] (by kernel_rfl) rfl rfl ⟨(blk_cell BK187.out 0).trans rfl, (blk_cell BK187.out 1).trans rfl, (blk_cell BK187.out 2).trans rfl, (blk_cell BK187.out 3).trans rfl, (blk_cell BK188.out 0).trans rfl, (blk_cell BK188.out 1).trans rfl, (blk_cell BK188.out 2).trans rfl, (blk_cell BK188.out 3).trans rfl, hx196_0, hx196_1, hx196_2, hx196_3, hx197_0, hx197_1, hx197_2, hx197_3, hx198_0, hx198_1, hx198_2, hx198_3⟩ (fun hHeld => ?_); refine with_tabW culetref13_Apart.tab2 culetref13_Apart.bits2 (fun HT_ HW_ => ?_)
         generalize w27.drew = w28 at HO195 BK187 BK188 HB hx196_0 hx196_1 hx196_2 hx196_3 hx197_0 hx197_1 hx197_2 hx197_3 hx198_0 hx198_1 hx198_2 hx198_3 hHeld ⊢
         refine ltd (o := [0, 1, 2, 3, 4, 5, 6, 7, 8, 9, 10, 12, 11, 13, 14, 15, 16, 17, 18, 19, 21, 20, 22, 23, 24, 25, 26, 27, 28, 30, 29, 31, 32, 33, 34, 35, 36, 37, 38, 39, 40, 41, 42, 43]) (n := 0) (m := 44) (by kernel_rfl) ?_
         iterate 44 (first | (refine pnd rfl rfl (any_of HT_.out (by kernel_rfl)) (fun _ _ _ h => h) (Or.inr ⟨by rfl, rfl⟩) (a' := ?_) ?_ ?_; rotate_left; (· (show Act.put _ (some _) _ = _; simp only [Act.put, List.setIfInBounds_toArray, List.set_cons_zero, List.set_cons_succ, i64_w, i32_w]; rfl))) | (refine tnd (v := ?_) (a' := ?_) rfl rfl (take_ofW HT_.out HW_.out (by kernel_rfl)) (fun _ _ _ h => h) (Or.inl ⟨by rfl, ?_⟩) hHeld ?_ ?_; rotate_left; (· (rintro w' ⟨s0, s1, s2, s3, s4, s5, s6, s7, s8, s9, s10, s11, s12, s13, s14, s15, s16, s17, s18, s19⟩; go_simp; with_reducible rfl)); rotate_left; (· (show Act.put _ (some _) _ = _; simp only [Act.put, List.setIfInBounds_toArray, List.set_cons_zero, List.set_cons_succ, i64_w, i32_w]; rfl))) | (refine pnd (v := ?_) (a' := ?_) rfl rfl (any_of HT_.out (by kernel_rfl)) (fun _ _ _ h => h) (Or.inl ⟨by rfl, ?_⟩) ?_ ?_; rotate_left; (· (intro w'; go_simp; with_reducible rfl)); rotate_left; (· (show Act.put _ (some _) _ = _; simp only [Act.put, List.setIfInBounds_toArray, List.set_cons_zero, List.set_cons_succ, i64_w, i32_w]; rfl))))
         refine done_ (done_of HT_.out (by kernel_rfl)) ?_
         try go_wp2
         go_ret
         exact ⟨by first | rfl | (simp [errW_none, errW_some] <;> rfl) | (simp [*, errW_none, errW_some] <;> rfl), mb_ HB.out⟩
       ·
        rw [if_neg c12] at H
        exact absurd H (by simp)
      ·
       rw [if_neg c11] at H
       have c11b0 : (((rd_T40 t191 0).f1).toList == a0_1.toList) = false := beq_eq_false_iff_ne.mpr c11
       have c11b1 : (((rd_T40 t191 0).f1).toList != a0_1.toList) = true := bne_iff_ne.mpr c11
       obtain rfl := Option.some.inj H
       go_enter Tryd.func25, Tryd.ntmps25
       try go_wp2_with (first | ((with_reducible refine gate_dst (N := 2) rfl ?_); (try (refine gate_guard (by rfl) ?_; dsimp only)); refine bev (N := 2) (cs := #[.int .i64 a0_0, .string a0_1, .int .i64 a0_2, .int .i64 a0_3]) (t := 40) ?_; intro gb187 hg w30 hbox hb; have n0_ := am_ (below_step (mb_ HB.out) hb); have n1_ := am_ (hbox); have n2_ := am_ ((bz_ hg (mb_ HB.out) : w.heap.size ≤ gb187)); have n3_ := am_ ((bz_ hg (mb_ HB.out) : w.heap.size ≤ gb187)); clear HB; have HB := n0_; have BK187 := n1_; have GW187 := n2_; have GE187 := n3_; clear n0_ n1_ n2_ n3_; clear hb hbox hg) | ((with_reducible refine gate_dst (N := 3) rfl ?_); (try (refine gate_guard (by rfl) ?_; dsimp only)); refine bev (N := 3) (cs := #[.int .i64 a1_0, .string a1_1, .int .i64 a1_2, .int .i64 a1_3]) (t := 40) ?_; intro gb188 hg w31 hbox hb; have n0_ := am_ (blk_below (mk_ BK187.out) hb); have n1_ := am_ (below_step (mb_ HB.out) hb); have n2_ := am_ (hbox); have n3_ := am_ ((bz_ hg (mb_ HB.out) : w.heap.size ≤ gb188)); have n4_ := am_ ((bz_ hg (mb_ HB.out) : w.heap.size ≤ gb188)); have n5_ := am_ ((nl_ hg (mk_ BK187.out) : gb187 ≠ gb188)); have n6_ := am_ ((ng_ hg (mk_ BK187.out) : gb188 ≠ gb187)); clear BK187 HB; have BK187 := n0_; have HB := n1_; have BK188 := n2_; have GW188 := n3_; have GE188 := n4_; have NB187_188 := n5_; have NB188_187 := n6_; clear n0_ n1_ n2_ n3_ n4_ n5_ n6_; clear hb hbox hg))
       have z_ := aI (am_ (blk_drew BK187.out)) (aI (am_ (blk_drew BK188.out)) (am_ (below_drew1 HB.out)))
       clear BK187 BK188 HB
       obtain ⟨BK187, BK188, HB⟩ := z_
       refine start_ (n := 13) (S := fun w' => w'.cell? ⟨gb187, 0, none⟩ = some (.int .i64 a0_0) ∧ w'.cell? ⟨gb187, 1, none⟩ = some (.string a0_1) ∧ w'.cell? ⟨gb187, 2, none⟩ = some (.int .i64 a0_2) ∧ w'.cell? ⟨gb187, 3, none⟩ = some (.int .i64 a0_3) ∧ w'.cell? ⟨gb188, 0, none⟩ = some (.int .i64 a1_0) ∧ w'.cell? ⟨gb188, 1, none⟩ = some (.string a1_1) ∧ w'.cell? ⟨gb188, 2, none⟩ = some (.int .i64 a1_2) ∧ w'.cell? ⟨gb188, 3, none⟩ = some (.int .i64 a1_3)) (ds := []) #[false, false, false, false, false, false, false, false, false, false, false, false, false] (by kernel_rfl) rfl rfl ⟨(blk_cell BK187.out 0).trans rfl, (blk_cell BK187.out 1).trans rfl, (blk_cell BK187.out 2).trans rfl, (blk_cell BK187.out 3).trans rfl, (blk_cell BK188.out 0).trans rfl, (blk_cell BK188.out 1).trans rfl, (blk_cell BK188.out 2).trans rfl, (blk_cell BK188.out 3).trans rfl⟩ (fun hHeld => ?_); refine with_tabW culetref13_Apart.tab1 culetref13_Apart.bits1 (fun HT_ HW_ => ?_)
       generalize w31.drew = w32 at BK187 BK188 HB hHeld ⊢
       refine take_ (i := 0) (N := some 9) (v := ?_) (a' := ?_) #[true, false, false, false, false, false, false, false, false, false, false, false, false] rfl rfl (take_ofW HT_.out HW_.out (by kernel_rfl)) (fun _ _ _ h => h) (Or.inl ⟨by rfl, ?_⟩) hHeld ?_ ?_
       rotate_left
       ·
        rintro w' ⟨s0, s1, s2, s3, s4, s5, s6, s7⟩
        go_simp
        with_reducible rfl
       rotate_left
       ·
        simp only [Act.put, List.setIfInBounds_toArray, List.set_cons_zero, List.set_cons_succ, i64_w, i32_w]
        rfl
       refine take_ (i := 2) (N := some 11) (v := ?_) (a' := ?_) #[true, false, true, false, false, false, false, false, false, false, false, false, false] rfl rfl (take_ofW HT_.out HW_.out (by kernel_rfl)) (fun _ _ _ h => h) (Or.inl ⟨by rfl, ?_⟩) hHeld ?_ ?_
       rotate_left
       ·
        rintro w' ⟨s0, s1, s2, s3, s4, s5, s6, s7⟩
        go_simp
        with_reducible rfl
       rotate_left
       ·
        simp only [Act.put, List.setIfInBounds_toArray, List.set_cons_zero, List.set_cons_succ, i64_w, i32_w]
        rfl
       refine one_ (i := 1) (N := some 10) #[true, true, true, false, false, false, false, false, false, false, false, false, false] rfl rfl (one_of HT_.out (by kernel_rfl)) (by decide) (fun K hK => ?_)
       refine goes_ Tryd.func21 (by kernel_rfl) rfl #[.agg #[.int .i64 a0_0, .string a0_1, .int .i64 a0_2, .int .i64 a0_3]] (by rfl) rfl rfl (by (try simp only [List.map_toArray, List.map_cons, List.map_nil]); first | done | rfl | (simp only [List.length_drop, List.length_take]; rfl)) ?_
       with_reducible refine (culetref13_Source.calls a0_0 a0_1 a0_2 a0_3 t189 _ A3.out).mono ?_
       rintro e w33 ⟨rfl, hb⟩
       refine ⟨_, rfl, ?_⟩
       have z_ := aI (am_ (blk_below (mk_ BK187.out) hb)) (aI (am_ (blk_below (mk_ BK188.out) hb)) (am_ (below_step (mb_ HB.out) hb)))
       clear BK187 BK188 HB
       obtain ⟨BK187, BK188, HB⟩ := z_
       (try clear hb)
       (try clear hb2)
       (try clear hk)
       (try clear hi)
       refine hK.out _ _ ⟨(blk_cell BK187.out 0).trans rfl, (blk_cell BK187.out 1).trans rfl, (blk_cell BK187.out 2).trans rfl, (blk_cell BK187.out 3).trans rfl, (blk_cell BK188.out 0).trans rfl, (blk_cell BK188.out 1).trans rfl, (blk_cell BK188.out 2).trans rfl, (blk_cell BK188.out 3).trans rfl⟩ (fun hHeld => ?_)
       clear hK K
       refine norm_ (a' := ?_) ?_ ?_
       rotate_left
       ·
        show Act.put _ (some 10) _ = _
        simp only [Act.put, List.setIfInBounds_toArray, List.set_cons_zero, List.set_cons_succ, i64_w, i32_w]
        rfl
       refine one_ (i := 3) (N := some 12) #[true, true, true, true, false, false, false, false, false, false, false, false, false] rfl rfl (one_of HT_.out (by kernel_rfl)) (by decide) (fun K hK => ?_)
       refine goes_ Tryd.func21 (by kernel_rfl) rfl #[.agg #[.int .i64 a1_0, .string a1_1, .int .i64 a1_2, .int .i64 a1_3]] (by rfl) rfl rfl (by (try simp only [List.map_toArray, List.map_cons, List.map_nil]); first | done | rfl | (simp only [List.length_drop, List.length_take]; rfl)) ?_
       with_reducible refine (culetref13_Source.calls a1_0 a1_1 a1_2 a1_3 t190 _ A4.out).mono ?_
       rintro e w34 ⟨rfl, hb⟩
       refine ⟨_, rfl, ?_⟩
       have z_ := aI (am_ (blk_below (mk_ BK187.out) hb)) (aI (am_ (blk_below (mk_ BK188.out) hb)) (am_ (below_step (mb_ HB.out) hb)))
       clear BK187 BK188 HB
       obtain ⟨BK187, BK188, HB⟩ := z_
       (try clear hb)
       (try clear hb2)
       (try clear hk)
       (try clear hi)
       refine hK.out _ _ ⟨(blk_cell BK187.out 0).trans rfl, (blk_cell BK187.out 1).trans rfl, (blk_cell BK187.out 2).trans rfl, (blk_cell BK187.out 3).trans rfl, (blk_cell BK188.out 0).trans rfl, (blk_cell BK188.out 1).trans rfl, (blk_cell BK188.out 2).trans rfl, (blk_cell BK188.out 3).trans rfl⟩ (fun hHeld => ?_)
       clear hK K
       refine norm_ (a' := ?_) ?_ ?_
       rotate_left
       ·
        show Act.put _ (some 12) _ = _
        simp only [Act.put, List.setIfInBounds_toArray, List.set_cons_zero, List.set_cons_succ, i64_w, i32_w]
        rfl
       refine pure_ (i := 4) (N := some 13) (v := ?_) (a' := ?_) #[true, true, true, true, true, false, false, false, false, false, false, false, false] rfl rfl (any_of HT_.out (by kernel_rfl)) (fun _ _ _ h => h) (Or.inl ⟨by rfl, ?_⟩) ?_ ?_
       rotate_left
       ·
        intro w'
        go_simp
        with_reducible rfl
       rotate_left
       ·
        simp only [Act.put, List.setIfInBounds_toArray, List.set_cons_zero, List.set_cons_succ, i64_w, i32_w]
        rfl
       refine one_ (i := 5) (N := some 14) #[true, true, true, true, true, true, false, false, false, false, false, false, false] rfl rfl (one_of HT_.out (by kernel_rfl)) (by decide) (fun K hK => ?_)
       refine goes_ Tryd.func12 (by kernel_rfl) rfl #[.string (t189 ++ t190)] (by rfl) rfl rfl (by (try simp only [List.map_toArray, List.map_cons, List.map_nil]); first | done | rfl | (simp only [List.length_drop, List.length_take]; rfl)) ?_
       with_reducible refine (culetref13_Lex.calls k (t189 ++ t190) t191 t192 t193 _ A6.out).mono ?_
       rintro e w35 ⟨v194, rfl, ho0, hb⟩
       refine ⟨_, rfl, ?_⟩
       have z_ := aI (am_ (Kd.R_lower (Kd.R_newB (Kd.R_newB ho0 (g := gb187) (o := .cells #[.int .i64 a0_0, .string a0_1, .int .i64 a0_2, .int .i64 a0_3] 40 (0, 0)) (mk_ BK187.out)) (g := gb188) (o := .cells #[.int .i64 a1_0, .string a1_1, .int .i64 a1_2, .int .i64 a1_3] 40 (0, 0)) (mk_ BK188.out)) (below_size (mb_ HB.out)))) (aI (am_ (blk_below (mk_ BK187.out) hb)) (aI (am_ (blk_below (mk_ BK188.out) hb)) (am_ (below_step (mb_ HB.out) hb))))
       clear BK187 BK188 HB
       obtain ⟨HO195, BK187, BK188, HB⟩ := z_
       (try clear hb)
       (try clear hb2)
       (try clear hk)
       (try clear hi)
       (try clear ho0)
       refine hK.out _ _ ⟨(blk_cell BK187.out 0).trans rfl, (blk_cell BK187.out 1).trans rfl, (blk_cell BK187.out 2).trans rfl, (blk_cell BK187.out 3).trans rfl, (blk_cell BK188.out 0).trans rfl, (blk_cell BK188.out 1).trans rfl, (blk_cell BK188.out 2).trans rfl, (blk_cell BK188.out 3).trans rfl⟩ (fun hHeld => ?_)
       clear hK K
       refine norm_ (a' := ?_) ?_ ?_
       rotate_left
       ·
        show Act.put _ (some 14) _ = _
        simp only [Act.put, List.setIfInBounds_toArray, List.set_cons_zero, List.set_cons_succ, i64_w, i32_w]
        rfl
       refine ltd (o := [0, 1, 2, 3, 4, 5, 6, 7, 8, 9, 10, 11, 12]) (n := 6) (m := 13) (by kernel_rfl) ?_
       iterate 7 (first | (refine pnd (v := ?_) (a' := ?_) rfl rfl (any_of HT_.out (by kernel_rfl)) (fun _ _ _ h => h) (Or.inl ⟨by rfl, ?_⟩) ?_ ?_; rotate_left; (· (intro w'; go_simp; with_reducible rfl)); rotate_left; (· (show Act.put _ (some _) _ = _; simp only [Act.put, List.setIfInBounds_toArray, List.set_cons_zero, List.set_cons_succ, i64_w, i32_w]; rfl))))
       refine done_ (done_of HT_.out (by kernel_rfl)) ?_
       try go_wp2
       have z_ := aI (am_ (Kd.R_drew HO195.out)) (aI (am_ (blk_drew BK187.out)) (aI (am_ (blk_drew BK188.out)) (am_ (below_drew1 HB.out))))
       clear HO195 BK187 BK188 HB
       obtain ⟨HO195, BK187, BK188, HB⟩ := z_
       obtain ⟨Ao37, co37, eo37⟩ := Kd.R_slice HO195.out
       (first | subst eo37 | (injection eo37 with f1_ f2_ f3_; have f4_ := f1_.symm; have f5_ := f3_.symm; clear f1_ f2_ f3_; subst f4_; subst f5_))
       have p196 : 0 ≤ (0 : Int) := (by omega)
       have q196 : 0 < (t191.length : Int) := of_decide_eq_true (by first | (with_reducible assumption) | assumption)
       obtain ⟨ad196, e196, hx196_0, hx196_1, hx196_2, hx196_3⟩ := at_T40 (Kd.R_reads' HO195.out).2.2 0 p196 q196
       cases e196
       have qi196 : (0 < t191.length) = True := eq_true (by omega)
       (try rw [show ((0 : Int)).toNat = 0 from rfl] at hx196_0)
       (try rw [show 0 * 4 = 0 from rfl] at hx196_0)
       (try rw [Addr.add_zero'] at hx196_0)
       (try rw [show ((0 : Int)).toNat = 0 from rfl] at hx196_1)
       (try rw [show 0 * 4 = 0 from rfl] at hx196_1)
       (try rw [Addr.add_zero'] at hx196_1)
       (try rw [show ((0 : Int)).toNat = 0 from rfl] at hx196_2)
       (try rw [show 0 * 4 = 0 from rfl] at hx196_2)
       (try rw [Addr.add_zero'] at hx196_2)
       (try rw [show ((0 : Int)).toNat = 0 from rfl] at hx196_3)
       (try rw [show 0 * 4 = 0 from rfl] at hx196_3)
       (try rw [Addr.add_zero'] at hx196_3)
       replace p196 := eq_true p196
       replace q196 := eq_true q196
       have p197 : 0 ≤ (0 : Int) := (by omega)
       have q197 : 0 < (t191.length : Int) := of_decide_eq_true (by first | (with_reducible assumption) | assumption)
       obtain ⟨ad197, e197, hx197_0, hx197_1, hx197_2, hx197_3⟩ := at_T40 (Kd.R_reads' HO195.out).2.2 0 p197 q197
       obtain rfl : ad196 = ad197 := (by injection e197)
       have qi197 : (0 < t191.length) = True := eq_true (by omega)
       (try rw [show ((0 : Int)).toNat = 0 from rfl] at hx197_0)
       (try rw [show 0 * 4 = 0 from rfl] at hx197_0)
       (try rw [Addr.add_zero'] at hx197_0)
       (try rw [show ((0 : Int)).toNat = 0 from rfl] at hx197_1)
       (try rw [show 0 * 4 = 0 from rfl] at hx197_1)
       (try rw [Addr.add_zero'] at hx197_1)
       (try rw [show ((0 : Int)).toNat = 0 from rfl] at hx197_2)
       (try rw [show 0 * 4 = 0 from rfl] at hx197_2)
       (try rw [Addr.add_zero'] at hx197_2)
       (try rw [show ((0 : Int)).toNat = 0 from rfl] at hx197_3)
       (try rw [show 0 * 4 = 0 from rfl] at hx197_3)
       (try rw [Addr.add_zero'] at hx197_3)
       replace p197 := eq_true p197
       replace q197 := eq_true q197
       refine start_ (n := 44) (S := fun w' => w'.cell? ⟨gb187, 0, none⟩ = some (.int .i64 a0_0) ∧ w'.cell? ⟨gb187, 1, none⟩ = some (.string a0_1) ∧ w'.cell? ⟨gb187, 2, none⟩ = some (.int .i64 a0_2) ∧ w'.cell? ⟨gb187, 3, none⟩ = some (.int .i64 a0_3) ∧ w'.cell? ad196 = some (.int .i64 ((rd_T40 t191 0).f0)) ∧ w'.cell? ⟨ad196.block, ad196.off + 1, none⟩ = some (.string ((rd_T40 t191 0).f1)) ∧ w'.cell? ⟨ad196.block, ad196.off + 2, none⟩ = some (.int .i64 ((rd_T40 t191 0).f2)) ∧ w'.cell? ⟨ad196.block, ad196.off + 3, none⟩ = some (.int .i64 ((rd_T40 t191 0).f3)) ∧ w'.cell? ad196 = some (.int .i64 ((rd_T40 t191 0).f0)) ∧ w'.cell? ⟨ad196.block, ad196.off + 1, none⟩ = some (.string ((rd_T40 t191 0).f1)) ∧ w'.cell? ⟨ad196.block, ad196.off + 2, none⟩ = some (.int .i64 ((rd_T40 t191 0).f2)) ∧ w'.cell? ⟨ad196.block, ad196.off + 3, none⟩ = some (.int .i64 ((rd_T40 t191 0).f3))) (ds := []) #[false, false, false, false, false, false, false, false, false, false, false, false, false, false, false, false, false, false, false, false, false, false, false, false, false, false, false, false, false, false, false, false, false, false, false, false, false, false, false, false, false, false, false, false] (by kernel_rfl) rfl rfl ⟨(blk_cell BK187.out 0).trans rfl, (blk_cell BK187.out 1).trans rfl, (blk_cell BK187.out 2).trans rfl, (blk_cell BK187.out 3).trans rfl, hx196_0, hx196_1, hx196_2, hx196_3, hx197_0, hx197_1, hx197_2, hx197_3⟩ (fun hHeld => ?_); refine with_tabW culetref13_Apart.tab2 culetref13_Apart.bits2 (fun HT_ HW_ => ?_)
       generalize w35.drew = w36 at HO195 BK187 BK188 HB hx196_0 hx196_1 hx196_2 hx196_3 hx197_0 hx197_1 hx197_2 hx197_3 hHeld ⊢
       refine ltd (o := [0, 1, 2, 3, 4, 5, 6, 7, 8, 9, 10, 12, 11, 13, 14, 15, 16, 17, 18, 19, 21, 20, 22, 23, 24, 25, 26, 27, 28, 29, 30, 31, 32, 33, 34, 35, 36, 37, 38, 39, 40, 41, 42, 43]) (n := 0) (m := 44) (by kernel_rfl) ?_
       iterate 44 (first | (refine pnd rfl rfl (any_of HT_.out (by kernel_rfl)) (fun _ _ _ h => h) (Or.inr ⟨by rfl, rfl⟩) (a' := ?_) ?_ ?_; rotate_left; (· (show Act.put _ (some _) _ = _; simp only [Act.put, List.setIfInBounds_toArray, List.set_cons_zero, List.set_cons_succ, i64_w, i32_w]; rfl))) | (refine tnd (v := ?_) (a' := ?_) rfl rfl (take_ofW HT_.out HW_.out (by kernel_rfl)) (fun _ _ _ h => h) (Or.inl ⟨by rfl, ?_⟩) hHeld ?_ ?_; rotate_left; (· (rintro w' ⟨s0, s1, s2, s3, s4, s5, s6, s7, s8, s9, s10, s11⟩; go_simp; with_reducible rfl)); rotate_left; (· (show Act.put _ (some _) _ = _; simp only [Act.put, List.setIfInBounds_toArray, List.set_cons_zero, List.set_cons_succ, i64_w, i32_w]; rfl))) | (refine pnd (v := ?_) (a' := ?_) rfl rfl (any_of HT_.out (by kernel_rfl)) (fun _ _ _ h => h) (Or.inl ⟨by rfl, ?_⟩) ?_ ?_; rotate_left; (· (intro w'; go_simp; with_reducible rfl)); rotate_left; (· (show Act.put _ (some _) _ = _; simp only [Act.put, List.setIfInBounds_toArray, List.set_cons_zero, List.set_cons_succ, i64_w, i32_w]; rfl))))
       refine done_ (done_of HT_.out (by kernel_rfl)) ?_
       try go_wp2
       go_ret
       exact ⟨by first | rfl | (simp [errW_none, errW_some] <;> rfl) | (simp [*, errW_none, errW_some] <;> rfl), mb_ HB.out⟩
     ·
      rw [if_neg c10] at H
      have c10b0 : (((rd_T40 t191 0).f0) == a0_0) = false := beq_eq_false_iff_ne.mpr c10
      have c10b1 : (((rd_T40 t191 0).f0) != a0_0) = true := bne_iff_ne.mpr c10
      obtain rfl := Option.some.inj H
      go_enter Tryd.func25, Tryd.ntmps25
      try go_wp2_with (first | ((with_reducible refine gate_dst (N := 2) rfl ?_); (try (refine gate_guard (by rfl) ?_; dsimp only)); refine bev (N := 2) (cs := #[.int .i64 a0_0, .string a0_1, .int .i64 a0_2, .int .i64 a0_3]) (t := 40) ?_; intro gb187 hg w38 hbox hb; have n0_ := am_ (below_step (mb_ HB.out) hb); have n1_ := am_ (hbox); have n2_ := am_ ((bz_ hg (mb_ HB.out) : w.heap.size ≤ gb187)); have n3_ := am_ ((bz_ hg (mb_ HB.out) : w.heap.size ≤ gb187)); clear HB; have HB := n0_; have BK187 := n1_; have GW187 := n2_; have GE187 := n3_; clear n0_ n1_ n2_ n3_; clear hb hbox hg) | ((with_reducible refine gate_dst (N := 3) rfl ?_); (try (refine gate_guard (by rfl) ?_; dsimp only)); refine bev (N := 3) (cs := #[.int .i64 a1_0, .string a1_1, .int .i64 a1_2, .int .i64 a1_3]) (t := 40) ?_; intro gb188 hg w39 hbox hb; have n0_ := am_ (blk_below (mk_ BK187.out) hb); have n1_ := am_ (below_step (mb_ HB.out) hb); have n2_ := am_ (hbox); have n3_ := am_ ((bz_ hg (mb_ HB.out) : w.heap.size ≤ gb188)); have n4_ := am_ ((bz_ hg (mb_ HB.out) : w.heap.size ≤ gb188)); have n5_ := am_ ((nl_ hg (mk_ BK187.out) : gb187 ≠ gb188)); have n6_ := am_ ((ng_ hg (mk_ BK187.out) : gb188 ≠ gb187)); clear BK187 HB; have BK187 := n0_; have HB := n1_; have BK188 := n2_; have GW188 := n3_; have GE188 := n4_; have NB187_188 := n5_; have NB188_187 := n6_; clear n0_ n1_ n2_ n3_ n4_ n5_ n6_; clear hb hbox hg))
      have z_ := aI (am_ (blk_drew BK187.out)) (aI (am_ (blk_drew BK188.out)) (am_ (below_drew1 HB.out)))
      clear BK187 BK188 HB
      obtain ⟨BK187, BK188, HB⟩ := z_
      refine start_ (n := 13) (S := fun w' => w'.cell? ⟨gb187, 0, none⟩ = some (.int .i64 a0_0) ∧ w'.cell? ⟨gb187, 1, none⟩ = some (.string a0_1) ∧ w'.cell? ⟨gb187, 2, none⟩ = some (.int .i64 a0_2) ∧ w'.cell? ⟨gb187, 3, none⟩ = some (.int .i64 a0_3) ∧ w'.cell? ⟨gb188, 0, none⟩ = some (.int .i64 a1_0) ∧ w'.cell? ⟨gb188, 1, none⟩ = some (.string a1_1) ∧ w'.cell? ⟨gb188, 2, none⟩ = some (.int .i64 a1_2) ∧ w'.cell? ⟨gb188, 3, none⟩ = some (.int .i64 a1_3)) (ds := []) #[false, false, false, false, false, false, false, false, false, false, false, false, false] (by kernel_rfl) rfl rfl ⟨(blk_cell BK187.out 0).trans rfl, (blk_cell BK187.out 1).trans rfl, (blk_cell BK187.out 2).trans rfl, (blk_cell BK187.out 3).trans rfl, (blk_cell BK188.out 0).trans rfl, (blk_cell BK188.out 1).trans rfl, (blk_cell BK188.out 2).trans rfl, (blk_cell BK188.out 3).trans rfl⟩ (fun hHeld => ?_); refine with_tabW culetref13_Apart.tab1 culetref13_Apart.bits1 (fun HT_ HW_ => ?_)
      generalize w39.drew = w40 at BK187 BK188 HB hHeld ⊢
      refine take_ (i := 0) (N := some 9) (v := ?_) (a' := ?_) #[true, false, false, false, false, false, false, false, false, false, false, false, false] rfl rfl (take_ofW HT_.out HW_.out (by kernel_rfl)) (fun _ _ _ h => h) (Or.inl ⟨by rfl, ?_⟩) hHeld ?_ ?_
      rotate_left
      ·
       rintro w' ⟨s0, s1, s2, s3, s4, s5, s6, s7⟩
       go_simp
       with_reducible rfl
      rotate_left
      ·
       simp only [Act.put, List.setIfInBounds_toArray, List.set_cons_zero, List.set_cons_succ, i64_w, i32_w]
       rfl
      refine take_ (i := 2) (N := some 11) (v := ?_) (a' := ?_) #[true, false, true, false, false, false, false, false, false, false, false, false, false] rfl rfl (take_ofW HT_.out HW_.out (by kernel_rfl)) (fun _ _ _ h => h) (Or.inl ⟨by rfl, ?_⟩) hHeld ?_ ?_
      rotate_left
      ·
       rintro w' ⟨s0, s1, s2, s3, s4, s5, s6, s7⟩
       go_simp
       with_reducible rfl
      rotate_left
      ·
       simp only [Act.put, List.setIfInBounds_toArray, List.set_cons_zero, List.set_cons_succ, i64_w, i32_w]
       rfl
      refine one_ (i := 1) (N := some 10) #[true, true, true, false, false, false, false, false, false, false, false, false, false] rfl rfl (one_of HT_.out (by kernel_rfl)) (by decide) (fun K hK => ?_)
      refine goes_ Tryd.func21 (by kernel_rfl) rfl #[.agg #[.int .i64 a0_0, .string a0_1, .int .i64 a0_2, .int .i64 a0_3]] (by rfl) rfl rfl (by (try simp only [List.map_toArray, List.map_cons, List.map_nil]); first | done | rfl | (simp only [List.length_drop, List.length_take]; rfl)) ?_
      with_reducible refine (culetref13_Source.calls a0_0 a0_1 a0_2 a0_3 t189 _ A3.out).mono ?_
      rintro e w41 ⟨rfl, hb⟩
      refine ⟨_, rfl, ?_⟩
      have z_ := aI (am_ (blk_below (mk_ BK187.out) hb)) (aI (am_ (blk_below (mk_ BK188.out) hb)) (am_ (below_step (mb_ HB.out) hb)))
      clear BK187 BK188 HB
      obtain ⟨BK187, BK188, HB⟩ := z_
      (try clear hb)
      (try clear hb2)
      (try clear hk)
      (try clear hi)
      refine hK.out _ _ ⟨(blk_cell BK187.out 0).trans rfl, (blk_cell BK187.out 1).trans rfl, (blk_cell BK187.out 2).trans rfl, (blk_cell BK187.out 3).trans rfl, (blk_cell BK188.out 0).trans rfl, (blk_cell BK188.out 1).trans rfl, (blk_cell BK188.out 2).trans rfl, (blk_cell BK188.out 3).trans rfl⟩ (fun hHeld => ?_)
      clear hK K
      refine norm_ (a' := ?_) ?_ ?_
      rotate_left
      ·
       show Act.put _ (some 10) _ = _
       simp only [Act.put, List.setIfInBounds_toArray, List.set_cons_zero, List.set_cons_succ, i64_w, i32_w]
       rfl
      refine one_ (i := 3) (N := some 12) #[true, true, true, true, false, false, false, false, false, false, false, false, false] rfl rfl (one_of HT_.out (by kernel_rfl)) (by decide) (fun K hK => ?_)
      refine goes_ Tryd.func21 (by kernel_rfl) rfl #[.agg #[.int .i64 a1_0, .string a1_1, .int .i64 a1_2, .int .i64 a1_3]] (by rfl) rfl rfl (by (try simp only [List.map_toArray, List.map_cons, List.map_nil]); first | done | rfl | (simp only [List.length_drop, List.length_take]; rfl)) ?_
      with_reducible refine (culetref13_Source.calls a1_0 a1_1 a1_2 a1_3 t190 _ A4.out).mono ?_
      rintro e w42 ⟨rfl, hb⟩
      refine ⟨_, rfl, ?_⟩
      have z_ := aI (am_ (blk_below (mk_ BK187.out) hb)) (aI (am_ (blk_below (mk_ BK188.out) hb)) (am_ (below_step (mb_ HB.out) hb)))
      clear BK187 BK188 HB
      obtain ⟨BK187, BK188, HB⟩ := z_
      (try clear hb)
      (try clear hb2)
      (try clear hk)
      (try clear hi)
      refine hK.out _ _ ⟨(blk_cell BK187.out 0).trans rfl, (blk_cell BK187.out 1).trans rfl, (blk_cell BK187.out 2).trans rfl, (blk_cell BK187.out 3).trans rfl, (blk_cell BK188.out 0).trans rfl, (blk_cell BK188.out 1).trans rfl, (blk_cell BK188.out 2).trans rfl, (blk_cell BK188.out 3).trans rfl⟩ (fun hHeld => ?_)
      clear hK K
      refine norm_ (a' := ?_) ?_ ?_
      rotate_left
      ·
       show Act.put _ (some 12) _ = _
       simp only [Act.put, List.setIfInBounds_toArray, List.set_cons_zero, List.set_cons_succ, i64_w, i32_w]
       rfl
      refine pure_ (i := 4) (N := some 13) (v := ?_) (a' := ?_) #[true, true, true, true, true, false, false, false, false, false, false, false, false] rfl rfl (any_of HT_.out (by kernel_rfl)) (fun _ _ _ h => h) (Or.inl ⟨by rfl, ?_⟩) ?_ ?_
      rotate_left
      ·
       intro w'
       go_simp
       with_reducible rfl
      rotate_left
      ·
       simp only [Act.put, List.setIfInBounds_toArray, List.set_cons_zero, List.set_cons_succ, i64_w, i32_w]
       rfl
      refine one_ (i := 5) (N := some 14) #[true, true, true, true, true, true, false, false, false, false, false, false, false] rfl rfl (one_of HT_.out (by kernel_rfl)) (by decide) (fun K hK => ?_)
      refine goes_ Tryd.func12 (by kernel_rfl) rfl #[.string (t189 ++ t190)] (by rfl) rfl rfl (by (try simp only [List.map_toArray, List.map_cons, List.map_nil]); first | done | rfl | (simp only [List.length_drop, List.length_take]; rfl)) ?_
      with_reducible refine (culetref13_Lex.calls k (t189 ++ t190) t191 t192 t193 _ A6.out).mono ?_
      rintro e w43 ⟨v194, rfl, ho0, hb⟩
      refine ⟨_, rfl, ?_⟩
      have z_ := aI (am_ (Kd.R_lower (Kd.R_newB (Kd.R_newB ho0 (g := gb187) (o := .cells #[.int .i64 a0_0, .string a0_1, .int .i64 a0_2, .int .i64 a0_3] 40 (0, 0)) (mk_ BK187.out)) (g := gb188) (o := .cells #[.int .i64 a1_0, .string a1_1, .int .i64 a1_2, .int .i64 a1_3] 40 (0, 0)) (mk_ BK188.out)) (below_size (mb_ HB.out)))) (aI (am_ (blk_below (mk_ BK187.out) hb)) (aI (am_ (blk_below (mk_ BK188.out) hb)) (am_ (below_step (mb_ HB.out) hb))))
      clear BK187 BK188 HB
      obtain ⟨HO195, BK187, BK188, HB⟩ := z_
      (try clear hb)
      (try clear hb2)
      (try clear hk)
      (try clear hi)
      (try clear ho0)
      refine hK.out _ _ ⟨(blk_cell BK187.out 0).trans rfl, (blk_cell BK187.out 1).trans rfl, (blk_cell BK187.out 2).trans rfl, (blk_cell BK187.out 3).trans rfl, (blk_cell BK188.out 0).trans rfl, (blk_cell BK188.out 1).trans rfl, (blk_cell BK188.out 2).trans rfl, (blk_cell BK188.out 3).trans rfl⟩ (fun hHeld => ?_)
      clear hK K
      refine norm_ (a' := ?_) ?_ ?_
      rotate_left
      ·
       show Act.put _ (some 14) _ = _
       simp only [Act.put, List.setIfInBounds_toArray, List.set_cons_zero, List.set_cons_succ, i64_w, i32_w]
       rfl
      refine ltd (o := [0, 1, 2, 3, 4, 5, 6, 7, 8, 9, 10, 11, 12]) (n := 6) (m := 13) (by kernel_rfl) ?_
      iterate 7 (first | (refine pnd (v := ?_) (a' := ?_) rfl rfl (any_of HT_.out (by kernel_rfl)) (fun _ _ _ h => h) (Or.inl ⟨by rfl, ?_⟩) ?_ ?_; rotate_left; (· (intro w'; go_simp; with_reducible rfl)); rotate_left; (· (show Act.put _ (some _) _ = _; simp only [Act.put, List.setIfInBounds_toArray, List.set_cons_zero, List.set_cons_succ, i64_w, i32_w]; rfl))))
      refine done_ (done_of HT_.out (by kernel_rfl)) ?_
      try go_wp2
      have z_ := aI (am_ (Kd.R_drew HO195.out)) (aI (am_ (blk_drew BK187.out)) (aI (am_ (blk_drew BK188.out)) (am_ (below_drew1 HB.out))))
      clear HO195 BK187 BK188 HB
      obtain ⟨HO195, BK187, BK188, HB⟩ := z_
      obtain ⟨Ao45, co45, eo45⟩ := Kd.R_slice HO195.out
      (first | subst eo45 | (injection eo45 with f1_ f2_ f3_; have f4_ := f1_.symm; have f5_ := f3_.symm; clear f1_ f2_ f3_; subst f4_; subst f5_))
      have p196 : 0 ≤ (0 : Int) := (by omega)
      have q196 : 0 < (t191.length : Int) := of_decide_eq_true (by first | (with_reducible assumption) | assumption)
      obtain ⟨ad196, e196, hx196_0, hx196_1, hx196_2, hx196_3⟩ := at_T40 (Kd.R_reads' HO195.out).2.2 0 p196 q196
      cases e196
      have qi196 : (0 < t191.length) = True := eq_true (by omega)
      (try rw [show ((0 : Int)).toNat = 0 from rfl] at hx196_0)
      (try rw [show 0 * 4 = 0 from rfl] at hx196_0)
      (try rw [Addr.add_zero'] at hx196_0)
      (try rw [show ((0 : Int)).toNat = 0 from rfl] at hx196_1)
      (try rw [show 0 * 4 = 0 from rfl] at hx196_1)
      (try rw [Addr.add_zero'] at hx196_1)
      (try rw [show ((0 : Int)).toNat = 0 from rfl] at hx196_2)
      (try rw [show 0 * 4 = 0 from rfl] at hx196_2)
      (try rw [Addr.add_zero'] at hx196_2)
      (try rw [show ((0 : Int)).toNat = 0 from rfl] at hx196_3)
      (try rw [show 0 * 4 = 0 from rfl] at hx196_3)
      (try rw [Addr.add_zero'] at hx196_3)
      replace p196 := eq_true p196
      replace q196 := eq_true q196
      refine start_ (n := 44) (S := fun w' => w'.cell? ⟨gb187, 0, none⟩ = some (.int .i64 a0_0) ∧ w'.cell? ⟨gb187, 1, none⟩ = some (.string a0_1) ∧ w'.cell? ⟨gb187, 2, none⟩ = some (.int .i64 a0_2) ∧ w'.cell? ⟨gb187, 3, none⟩ = some (.int .i64 a0_3) ∧ w'.cell? ad196 = some (.int .i64 ((rd_T40 t191 0).f0)) ∧ w'.cell? ⟨ad196.block, ad196.off + 1, none⟩ = some (.string ((rd_T40 t191 0).f1)) ∧ w'.cell? ⟨ad196.block, ad196.off + 2, none⟩ = some (.int .i64 ((rd_T40 t191 0).f2)) ∧ w'.cell? ⟨ad196.block, ad196.off + 3, none⟩ = some (.int .i64 ((rd_T40 t191 0).f3))) (ds := []) #[false, false, false, false, false, false, false, false, false, false, false, false, false, false, false, false, false, false, false, false, false, false, false, false, false, false, false, false, false, false, false, false, false, false, false, false, false, false, false, false, false, false, false, false] (by kernel_rfl) rfl rfl ⟨(blk_cell BK187.out 0).trans rfl, (blk_cell BK187.out 1).trans rfl, (blk_cell BK187.out 2).trans rfl, (blk_cell BK187.out 3).trans rfl, hx196_0, hx196_1, hx196_2, hx196_3⟩ (fun hHeld => ?_); refine with_tabW culetref13_Apart.tab2 culetref13_Apart.bits2 (fun HT_ HW_ => ?_)
      generalize w43.drew = w44 at HO195 BK187 BK188 HB hx196_0 hx196_1 hx196_2 hx196_3 hHeld ⊢
      refine ltd (o := [0, 1, 2, 3, 4, 5, 6, 7, 8, 9, 10, 12, 11, 13, 14, 15, 16, 17, 18, 19, 20, 21, 22, 23, 24, 25, 26, 27, 28, 29, 30, 31, 32, 33, 34, 35, 36, 37, 38, 39, 40, 41, 42, 43]) (n := 0) (m := 44) (by kernel_rfl) ?_
      iterate 44 (first | (refine pnd rfl rfl (any_of HT_.out (by kernel_rfl)) (fun _ _ _ h => h) (Or.inr ⟨by rfl, rfl⟩) (a' := ?_) ?_ ?_; rotate_left; (· (show Act.put _ (some _) _ = _; simp only [Act.put, List.setIfInBounds_toArray, List.set_cons_zero, List.set_cons_succ, i64_w, i32_w]; rfl))) | (refine tnd (v := ?_) (a' := ?_) rfl rfl (take_ofW HT_.out HW_.out (by kernel_rfl)) (fun _ _ _ h => h) (Or.inl ⟨by rfl, ?_⟩) hHeld ?_ ?_; rotate_left; (· (rintro w' ⟨s0, s1, s2, s3, s4, s5, s6, s7⟩; go_simp; with_reducible rfl)); rotate_left; (· (show Act.put _ (some _) _ = _; simp only [Act.put, List.setIfInBounds_toArray, List.set_cons_zero, List.set_cons_succ, i64_w, i32_w]; rfl))) | (refine pnd (v := ?_) (a' := ?_) rfl rfl (any_of HT_.out (by kernel_rfl)) (fun _ _ _ h => h) (Or.inl ⟨by rfl, ?_⟩) ?_ ?_; rotate_left; (· (intro w'; go_simp; with_reducible rfl)); rotate_left; (· (show Act.put _ (some _) _ = _; simp only [Act.put, List.setIfInBounds_toArray, List.set_cons_zero, List.set_cons_succ, i64_w, i32_w]; rfl))))
      refine done_ (done_of HT_.out (by kernel_rfl)) ?_
      try go_wp2
      go_ret
      exact ⟨by first | rfl | (simp [errW_none, errW_some] <;> rfl) | (simp [*, errW_none, errW_some] <;> rfl), mb_ HB.out⟩
    ·
     rw [if_neg c9] at H
     exact absurd H (by simp)
   ·
    rw [if_neg c8] at H
    have c8b0 : ((t191.length : Int) == 2) = false := beq_eq_false_iff_ne.mpr c8
    have c8b1 : ((t191.length : Int) != 2) = true := bne_iff_ne.mpr c8
    obtain rfl := Option.some.inj H
    go_enter Tryd.func25, Tryd.ntmps25
    try go_wp2_with (first | ((with_reducible refine gate_dst (N := 2) rfl ?_); (try (refine gate_guard (by rfl) ?_; dsimp only)); refine bev (N := 2) (cs := #[.int .i64 a0_0, .string a0_1, .int .i64 a0_2, .int .i64 a0_3]) (t := 40) ?_; intro gb187 hg w46 hbox hb; have n0_ := am_ (below_step (mb_ HB.out) hb); have n1_ := am_ (hbox); have n2_ := am_ ((bz_ hg (mb_ HB.out) : w.heap.size ≤ gb187)); have n3_ := am_ ((bz_ hg (mb_ HB.out) : w.heap.size ≤ gb187)); clear HB; have HB := n0_; have BK187 := n1_; have GW187 := n2_; have GE187 := n3_; clear n0_ n1_ n2_ n3_; clear hb hbox hg) | ((with_reducible refine gate_dst (N := 3) rfl ?_); (try (refine gate_guard (by rfl) ?_; dsimp only)); refine bev (N := 3) (cs := #[.int .i64 a1_0, .string a1_1, .int .i64 a1_2, .int .i64 a1_3]) (t := 40) ?_; intro gb188 hg w47 hbox hb; have n0_ := am_ (blk_below (mk_ BK187.out) hb); have n1_ := am_ (below_step (mb_ HB.out) hb); have n2_ := am_ (hbox); have n3_ := am_ ((bz_ hg (mb_ HB.out) : w.heap.size ≤ gb188)); have n4_ := am_ ((bz_ hg (mb_ HB.out) : w.heap.size ≤ gb188)); have n5_ := am_ ((nl_ hg (mk_ BK187.out) : gb187 ≠ gb188)); have n6_ := am_ ((ng_ hg (mk_ BK187.out) : gb188 ≠ gb187)); clear BK187 HB; have BK187 := n0_; have HB := n1_; have BK188 := n2_; have GW188 := n3_; have GE188 := n4_; have NB187_188 := n5_; have NB188_187 := n6_; clear n0_ n1_ n2_ n3_ n4_ n5_ n6_; clear hb hbox hg))
    have z_ := aI (am_ (blk_drew BK187.out)) (aI (am_ (blk_drew BK188.out)) (am_ (below_drew1 HB.out)))
    clear BK187 BK188 HB
    obtain ⟨BK187, BK188, HB⟩ := z_
    refine start_ (n := 13) (S := fun w' => w'.cell? ⟨gb187, 0, none⟩ = some (.int .i64 a0_0) ∧ w'.cell? ⟨gb187, 1, none⟩ = some (.string a0_1) ∧ w'.cell? ⟨gb187, 2, none⟩ = some (.int .i64 a0_2) ∧ w'.cell? ⟨gb187, 3, none⟩ = some (.int .i64 a0_3) ∧ w'.cell? ⟨gb188, 0, none⟩ = some (.int .i64 a1_0) ∧ w'.cell? ⟨gb188, 1, none⟩ = some (.string a1_1) ∧ w'.cell? ⟨gb188, 2, none⟩ = some (.int .i64 a1_2) ∧ w'.cell? ⟨gb188, 3, none⟩ = some (.int .i64 a1_3)) (ds := []) #[false, false, false, false, false, false, false, false, false, false, false, false, false] (by kernel_rfl) rfl rfl ⟨(blk_cell BK187.out 0).trans rfl, (blk_cell BK187.out 1).trans rfl, (blk_cell BK187.out 2).trans rfl, (blk_cell BK187.out 3).trans rfl, (blk_cell BK188.out 0).trans rfl, (blk_cell BK188.out 1).trans rfl, (blk_cell BK188.out 2).trans rfl, (blk_cell BK188.out 3).trans rfl⟩ (fun hHeld => ?_); refine with_tabW culetref13_Apart.tab1 culetref13_Apart.bits1 (fun HT_ HW_ => ?_)
    generalize w47.drew = w48 at BK187 BK188 HB hHeld ⊢
    refine take_ (i := 0) (N := some 9) (v := ?_) (a' := ?_) #[true, false, false, false, false, false, false, false, false, false, false, false, false] rfl rfl (take_ofW HT_.out HW_.out (by kernel_rfl)) (fun _ _ _ h => h) (Or.inl ⟨by rfl, ?_⟩) hHeld ?_ ?_
    rotate_left
    ·
     rintro w' ⟨s0, s1, s2, s3, s4, s5, s6, s7⟩
     go_simp
     with_reducible rfl
    rotate_left
    ·
     simp only [Act.put, List.setIfInBounds_toArray, List.set_cons_zero, List.set_cons_succ, i64_w, i32_w]
     rfl
    refine take_ (i := 2) (N := some 11) (v := ?_) (a' := ?_) #[true, false, true, false, false, false, false, false, false, false, false, false, false] rfl rfl (take_ofW HT_.out HW_.out (by kernel_rfl)) (fun _ _ _ h => h) (Or.inl ⟨by rfl, ?_⟩) hHeld ?_ ?_
    rotate_left
    ·
     rintro w' ⟨s0, s1, s2, s3, s4, s5, s6, s7⟩
     go_simp
     with_reducible rfl
    rotate_left
    ·
     simp only [Act.put, List.setIfInBounds_toArray, List.set_cons_zero, List.set_cons_succ, i64_w, i32_w]
     rfl
    refine one_ (i := 1) (N := some 10) #[true, true, true, false, false, false, false, false, false, false, false, false, false] rfl rfl (one_of HT_.out (by kernel_rfl)) (by decide) (fun K hK => ?_)
    refine goes_ Tryd.func21 (by kernel_rfl) rfl #[.agg #[.int .i64 a0_0, .string a0_1, .int .i64 a0_2, .int .i64 a0_3]] (by rfl) rfl rfl (by (try simp only [List.map_toArray, List.map_cons, List.map_nil]); first | done | rfl | (simp only [List.length_drop, List.length_take]; rfl)) ?_
    with_reducible refine (culetref13_Source.calls a0_0 a0_1 a0_2 a0_3 t189 _ A3.out).mono ?_
    rintro e w49 ⟨rfl, hb⟩
    refine ⟨_, rfl, ?_⟩
    have z_ := aI (am_ (blk_below (mk_ BK187.out) hb)) (aI (am_ (blk_below (mk_ BK188.out) hb)) (am_ (below_step (mb_ HB.out) hb)))
    clear BK187 BK188 HB
    obtain ⟨BK187, BK188, HB⟩ := z_
    (try clear hb)
    (try clear hb2)
    (try clear hk)
    (try clear hi)
    refine hK.out _ _ ⟨(blk_cell BK187.out 0).trans rfl, (blk_cell BK187.out 1).trans rfl, (blk_cell BK187.out 2).trans rfl, (blk_cell BK187.out 3).trans rfl, (blk_cell BK188.out 0).trans rfl, (blk_cell BK188.out 1).trans rfl, (blk_cell BK188.out 2).trans rfl, (blk_cell BK188.out 3).trans rfl⟩ (fun hHeld => ?_)
    clear hK K
    refine norm_ (a' := ?_) ?_ ?_
    rotate_left
    ·
     show Act.put _ (some 10) _ = _
     simp only [Act.put, List.setIfInBounds_toArray, List.set_cons_zero, List.set_cons_succ, i64_w, i32_w]
     rfl
    refine one_ (i := 3) (N := some 12) #[true, true, true, true, false, false, false, false, false, false, false, false, false] rfl rfl (one_of HT_.out (by kernel_rfl)) (by decide) (fun K hK => ?_)
    refine goes_ Tryd.func21 (by kernel_rfl) rfl #[.agg #[.int .i64 a1_0, .string a1_1, .int .i64 a1_2, .int .i64 a1_3]] (by rfl) rfl rfl (by (try simp only [List.map_toArray, List.map_cons, List.map_nil]); first | done | rfl | (simp only [List.length_drop, List.length_take]; rfl)) ?_
    with_reducible refine (culetref13_Source.calls a1_0 a1_1 a1_2 a1_3 t190 _ A4.out).mono ?_
    rintro e w50 ⟨rfl, hb⟩
    refine ⟨_, rfl, ?_⟩
    have z_ := aI (am_ (blk_below (mk_ BK187.out) hb)) (aI (am_ (blk_below (mk_ BK188.out) hb)) (am_ (below_step (mb_ HB.out) hb)))
    clear BK187 BK188 HB
    obtain ⟨BK187, BK188, HB⟩ := z_
    (try clear hb)
    (try clear hb2)
    (try clear hk)
    (try clear hi)
    refine hK.out _ _ ⟨(blk_cell BK187.out 0).trans rfl, (blk_cell BK187.out 1).trans rfl, (blk_cell BK187.out 2).trans rfl, (blk_cell BK187.out 3).trans rfl, (blk_cell BK188.out 0).trans rfl, (blk_cell BK188.out 1).trans rfl, (blk_cell BK188.out 2).trans rfl, (blk_cell BK188.out 3).trans rfl⟩ (fun hHeld => ?_)
    clear hK K
    refine norm_ (a' := ?_) ?_ ?_
    rotate_left
    ·
     show Act.put _ (some 12) _ = _
     simp only [Act.put, List.setIfInBounds_toArray, List.set_cons_zero, List.set_cons_succ, i64_w, i32_w]
     rfl
    refine pure_ (i := 4) (N := some 13) (v := ?_) (a' := ?_) #[true, true, true, true, true, false, false, false, false, false, false, false, false] rfl rfl (any_of HT_.out (by kernel_rfl)) (fun _ _ _ h => h) (Or.inl ⟨by rfl, ?_⟩) ?_ ?_
    rotate_left
    ·
     intro w'
     go_simp
     with_reducible rfl
    rotate_left
    ·
     simp only [Act.put, List.setIfInBounds_toArray, List.set_cons_zero, List.set_cons_succ, i64_w, i32_w]
     rfl
    refine one_ (i := 5) (N := some 14) #[true, true, true, true, true, true, false, false, false, false, false, false, false] rfl rfl (one_of HT_.out (by kernel_rfl)) (by decide) (fun K hK => ?_)
    refine goes_ Tryd.func12 (by kernel_rfl) rfl #[.string (t189 ++ t190)] (by rfl) rfl rfl (by (try simp only [List.map_toArray, List.map_cons, List.map_nil]); first | done | rfl | (simp only [List.length_drop, List.length_take]; rfl)) ?_
    with_reducible refine (culetref13_Lex.calls k (t189 ++ t190) t191 t192 t193 _ A6.out).mono ?_
    rintro e w51 ⟨v194, rfl, ho0, hb⟩
    refine ⟨_, rfl, ?_⟩
    have z_ := aI (am_ (Kd.R_lower (Kd.R_newB (Kd.R_newB ho0 (g := gb187) (o := .cells #[.int .i64 a0_0, .string a0_1, .int .i64 a0_2, .int .i64 a0_3] 40 (0, 0)) (mk_ BK187.out)) (g := gb188) (o := .cells #[.int .i64 a1_0, .string a1_1, .int .i64 a1_2, .int .i64 a1_3] 40 (0, 0)) (mk_ BK188.out)) (below_size (mb_ HB.out)))) (aI (am_ (blk_below (mk_ BK187.out) hb)) (aI (am_ (blk_below (mk_ BK188.out) hb)) (am_ (below_step (mb_ HB.out) hb))))
    clear BK187 BK188 HB
    obtain ⟨HO195, BK187, BK188, HB⟩ := z_
    (try clear hb)
    (try clear hb2)
    (try clear hk)
    (try clear hi)
    (try clear ho0)
    refine hK.out _ _ ⟨(blk_cell BK187.out 0).trans rfl, (blk_cell BK187.out 1).trans rfl, (blk_cell BK187.out 2).trans rfl, (blk_cell BK187.out 3).trans rfl, (blk_cell BK188.out 0).trans rfl, (blk_cell BK188.out 1).trans rfl, (blk_cell BK188.out 2).trans rfl, (blk_cell BK188.out 3).trans rfl⟩ (fun hHeld => ?_)
    clear hK K
    refine norm_ (a' := ?_) ?_ ?_
    rotate_left
    ·
     show Act.put _ (some 14) _ = _
     simp only [Act.put, List.setIfInBounds_toArray, List.set_cons_zero, List.set_cons_succ, i64_w, i32_w]
     rfl
    refine ltd (o := [0, 1, 2, 3, 4, 5, 6, 7, 8, 9, 10, 11, 12]) (n := 6) (m := 13) (by kernel_rfl) ?_
    iterate 7 (first | (refine pnd (v := ?_) (a' := ?_) rfl rfl (any_of HT_.out (by kernel_rfl)) (fun _ _ _ h => h) (Or.inl ⟨by rfl, ?_⟩) ?_ ?_; rotate_left; (· (intro w'; go_simp; with_reducible rfl)); rotate_left; (· (show Act.put _ (some _) _ = _; simp only [Act.put, List.setIfInBounds_toArray, List.set_cons_zero, List.set_cons_succ, i64_w, i32_w]; rfl))))
    refine done_ (done_of HT_.out (by kernel_rfl)) ?_
    try go_wp2
    have z_ := aI (am_ (Kd.R_drew HO195.out)) (aI (am_ (blk_drew BK187.out)) (aI (am_ (blk_drew BK188.out)) (am_ (below_drew1 HB.out))))
    clear HO195 BK187 BK188 HB
    obtain ⟨HO195, BK187, BK188, HB⟩ := z_
    obtain ⟨Ao53, co53, eo53⟩ := Kd.R_slice HO195.out
    (first | subst eo53 | (injection eo53 with f1_ f2_ f3_; have f4_ := f1_.symm; have f5_ := f3_.symm; clear f1_ f2_ f3_; subst f4_; subst f5_))
    refine start_ (n := 44) (S := fun w' => True) (ds := []) #[false, false, false, false, false, false, false, false, false, false, false, false, false, false, false, false, false, false, false, false, false, false, false, false, false, false, false, false, false, false, false, false, false, false, false, false, false, false, false, false, false, false, false, false] (by kernel_rfl) rfl rfl trivial (fun hHeld => ?_); refine with_tabW culetref13_Apart.tab2 culetref13_Apart.bits2 (fun HT_ HW_ => ?_)
    generalize w51.drew = w52 at HO195 BK187 BK188 HB hHeld ⊢
    refine ltd (o := [0, 1, 2, 3, 4, 5, 6, 7, 8, 9, 10, 11, 12, 13, 14, 15, 16, 17, 18, 19, 20, 21, 22, 23, 24, 25, 26, 27, 28, 29, 30, 31, 32, 33, 34, 35, 36, 37, 38, 39, 40, 41, 42, 43]) (n := 0) (m := 44) (by kernel_rfl) ?_
    iterate 44 (first | (refine pnd rfl rfl (any_of HT_.out (by kernel_rfl)) (fun _ _ _ h => h) (Or.inr ⟨by rfl, rfl⟩) (a' := ?_) ?_ ?_; rotate_left; (· (show Act.put _ (some _) _ = _; simp only [Act.put, List.setIfInBounds_toArray, List.set_cons_zero, List.set_cons_succ, i64_w, i32_w]; rfl))) | (refine pnd (v := ?_) (a' := ?_) rfl rfl (any_of HT_.out (by kernel_rfl)) (fun _ _ _ h => h) (Or.inl ⟨by rfl, ?_⟩) ?_ ?_; rotate_left; (· (intro w'; go_simp; with_reducible rfl)); rotate_left; (· (show Act.put _ (some _) _ = _; simp only [Act.put, List.setIfInBounds_toArray, List.set_cons_zero, List.set_cons_succ, i64_w, i32_w]; rfl))))
    refine done_ (done_of HT_.out (by kernel_rfl)) ?_
    try go_wp2
    go_ret
    exact ⟨by first | rfl | (simp [errW_none, errW_some] <;> rfl) | (simp [*, errW_none, errW_some] <;> rfl), mb_ HB.out⟩
  ·
   rw [if_neg c7] at H
   have c7b0 : (t193 == 0) = false := beq_eq_false_iff_ne.mpr c7
   have c7b1 : (t193 != 0) = true := bne_iff_ne.mpr c7
   obtain rfl := Option.some.inj H
   go_enter Tryd.func25, Tryd.ntmps25
   try go_wp2_with (first | ((with_reducible refine gate_dst (N := 2) rfl ?_); (try (refine gate_guard (by rfl) ?_; dsimp only)); refine bev (N := 2) (cs := #[.int .i64 a0_0, .string a0_1, .int .i64 a0_2, .int .i64 a0_3]) (t := 40) ?_; intro gb187 hg w54 hbox hb; have n0_ := am_ (below_step (mb_ HB.out) hb); have n1_ := am_ (hbox); have n2_ := am_ ((bz_ hg (mb_ HB.out) : w.heap.size ≤ gb187)); have n3_ := am_ ((bz_ hg (mb_ HB.out) : w.heap.size ≤ gb187)); clear HB; have HB := n0_; have BK187 := n1_; have GW187 := n2_; have GE187 := n3_; clear n0_ n1_ n2_ n3_; clear hb hbox hg) | ((with_reducible refine gate_dst (N := 3) rfl ?_); (try (refine gate_guard (by rfl) ?_; dsimp only)); refine bev (N := 3) (cs := #[.int .i64 a1_0, .string a1_1, .int .i64 a1_2, .int .i64 a1_3]) (t := 40) ?_; intro gb188 hg w55 hbox hb; have n0_ := am_ (blk_below (mk_ BK187.out) hb); have n1_ := am_ (below_step (mb_ HB.out) hb); have n2_ := am_ (hbox); have n3_ := am_ ((bz_ hg (mb_ HB.out) : w.heap.size ≤ gb188)); have n4_ := am_ ((bz_ hg (mb_ HB.out) : w.heap.size ≤ gb188)); have n5_ := am_ ((nl_ hg (mk_ BK187.out) : gb187 ≠ gb188)); have n6_ := am_ ((ng_ hg (mk_ BK187.out) : gb188 ≠ gb187)); clear BK187 HB; have BK187 := n0_; have HB := n1_; have BK188 := n2_; have GW188 := n3_; have GE188 := n4_; have NB187_188 := n5_; have NB188_187 := n6_; clear n0_ n1_ n2_ n3_ n4_ n5_ n6_; clear hb hbox hg))
   have z_ := aI (am_ (blk_drew BK187.out)) (aI (am_ (blk_drew BK188.out)) (am_ (below_drew1 HB.out)))
   clear BK187 BK188 HB
   obtain ⟨BK187, BK188, HB⟩ := z_
   refine start_ (n := 13) (S := fun w' => w'.cell? ⟨gb187, 0, none⟩ = some (.int .i64 a0_0) ∧ w'.cell? ⟨gb187, 1, none⟩ = some (.string a0_1) ∧ w'.cell? ⟨gb187, 2, none⟩ = some (.int .i64 a0_2) ∧ w'.cell? ⟨gb187, 3, none⟩ = some (.int .i64 a0_3) ∧ w'.cell? ⟨gb188, 0, none⟩ = some (.int .i64 a1_0) ∧ w'.cell? ⟨gb188, 1, none⟩ = some (.string a1_1) ∧ w'.cell? ⟨gb188, 2, none⟩ = some (.int .i64 a1_2) ∧ w'.cell? ⟨gb188, 3, none⟩ = some (.int .i64 a1_3)) (ds := []) #[false, false, false, false, false, false, false, false, false, false, false, false, false] (by kernel_rfl) rfl rfl ⟨(blk_cell BK187.out 0).trans rfl, (blk_cell BK187.out 1).trans rfl, (blk_cell BK187.out 2).trans rfl, (blk_cell BK187.out 3).trans rfl, (blk_cell BK188.out 0).trans rfl, (blk_cell BK188.out 1).trans rfl, (blk_cell BK188.out 2).trans rfl, (blk_cell BK188.out 3).trans rfl⟩ (fun hHeld => ?_); refine with_tabW culetref13_Apart.tab1 culetref13_Apart.bits1 (fun HT_ HW_ => ?_)
   generalize w55.drew = w56 at BK187 BK188 HB hHeld ⊢
   refine take_ (i := 0) (N := some 9) (v := ?_) (a' := ?_) #[true, false, false, false, false, false, false, false, false, false, false, false, false] rfl rfl (take_ofW HT_.out HW_.out (by kernel_rfl)) (fun _ _ _ h => h) (Or.inl ⟨by rfl, ?_⟩) hHeld ?_ ?_
   rotate_left
   ·
    rintro w' ⟨s0, s1, s2, s3, s4, s5, s6, s7⟩
    go_simp
    with_reducible rfl
   rotate_left
   ·
    simp only [Act.put, List.setIfInBounds_toArray, List.set_cons_zero, List.set_cons_succ, i64_w, i32_w]
    rfl
   refine take_ (i := 2) (N := some 11) (v := ?_) (a' := ?_) #[true, false, true, false, false, false, false, false, false, false, false, false, false] rfl rfl (take_ofW HT_.out HW_.out (by kernel_rfl)) (fun _ _ _ h => h) (Or.inl ⟨by rfl, ?_⟩) hHeld ?_ ?_
   rotate_left
   ·
    rintro w' ⟨s0, s1, s2, s3, s4, s5, s6, s7⟩
    go_simp
    with_reducible rfl
   rotate_left
   ·
    simp only [Act.put, List.setIfInBounds_toArray, List.set_cons_zero, List.set_cons_succ, i64_w, i32_w]
    rfl
   refine one_ (i := 1) (N := some 10) #[true, true, true, false, false, false, false, false, false, false, false, false, false] rfl rfl (one_of HT_.out (by kernel_rfl)) (by decide) (fun K hK => ?_)
   refine goes_ Tryd.func21 (by kernel_rfl) rfl #[.agg #[.int .i64 a0_0, .string a0_1, .int .i64 a0_2, .int .i64 a0_3]] (by rfl) rfl rfl (by (try simp only [List.map_toArray, List.map_cons, List.map_nil]); first | done | rfl | (simp only [List.length_drop, List.length_take]; rfl)) ?_
   with_reducible refine (culetref13_Source.calls a0_0 a0_1 a0_2 a0_3 t189 _ A3.out).mono ?_
   rintro e w57 ⟨rfl, hb⟩
   refine ⟨_, rfl, ?_⟩
   have z_ := aI (am_ (blk_below (mk_ BK187.out) hb)) (aI (am_ (blk_below (mk_ BK188.out) hb)) (am_ (below_step (mb_ HB.out) hb)))
   clear BK187 BK188 HB
   obtain ⟨BK187, BK188, HB⟩ := z_
   (try clear hb)
   (try clear hb2)
   (try clear hk)
   (try clear hi)
   refine hK.out _ _ ⟨(blk_cell BK187.out 0).trans rfl, (blk_cell BK187.out 1).trans rfl, (blk_cell BK187.out 2).trans rfl, (blk_cell BK187.out 3).trans rfl, (blk_cell BK188.out 0).trans rfl, (blk_cell BK188.out 1).trans rfl, (blk_cell BK188.out 2).trans rfl, (blk_cell BK188.out 3).trans rfl⟩ (fun hHeld => ?_)
   clear hK K
   refine norm_ (a' := ?_) ?_ ?_
   rotate_left
   ·
    show Act.put _ (some 10) _ = _
    simp only [Act.put, List.setIfInBounds_toArray, List.set_cons_zero, List.set_cons_succ, i64_w, i32_w]
    rfl
   refine one_ (i := 3) (N := some 12) #[true, true, true, true, false, false, false, false, false, false, false, false, false] rfl rfl (one_of HT_.out (by kernel_rfl)) (by decide) (fun K hK => ?_)
   refine goes_ Tryd.func21 (by kernel_rfl) rfl #[.agg #[.int .i64 a1_0, .string a1_1, .int .i64 a1_2, .int .i64 a1_3]] (by rfl) rfl rfl (by (try simp only [List.map_toArray, List.map_cons, List.map_nil]); first | done | rfl | (simp only [List.length_drop, List.length_take]; rfl)) ?_
   with_reducible refine (culetref13_Source.calls a1_0 a1_1 a1_2 a1_3 t190 _ A4.out).mono ?_
   rintro e w58 ⟨rfl, hb⟩
   refine ⟨_, rfl, ?_⟩
   have z_ := aI (am_ (blk_below (mk_ BK187.out) hb)) (aI (am_ (blk_below (mk_ BK188.out) hb)) (am_ (below_step (mb_ HB.out) hb)))
   clear BK187 BK188 HB
   obtain ⟨BK187, BK188, HB⟩ := z_
   (try clear hb)
   (try clear hb2)
   (try clear hk)
   (try clear hi)
   refine hK.out _ _ ⟨(blk_cell BK187.out 0).trans rfl, (blk_cell BK187.out 1).trans rfl, (blk_cell BK187.out 2).trans rfl, (blk_cell BK187.out 3).trans rfl, (blk_cell BK188.out 0).trans rfl, (blk_cell BK188.out 1).trans rfl, (blk_cell BK188.out 2).trans rfl, (blk_cell BK188.out 3).trans rfl⟩ (fun hHeld => ?_)
   clear hK K
   refine norm_ (a' := ?_) ?_ ?_
   rotate_left
   ·
    show Act.put _ (some 12) _ = _
    simp only [Act.put, List.setIfInBounds_toArray, List.set_cons_zero, List.set_cons_succ, i64_w, i32_w]
    rfl
   refine pure_ (i := 4) (N := some 13) (v := ?_) (a' := ?_) #[true, true, true, true, true, false, false, false, false, false, false, false, false] rfl rfl (any_of HT_.out (by kernel_rfl)) (fun _ _ _ h => h) (Or.inl ⟨by rfl, ?_⟩) ?_ ?_
   rotate_left
   ·
    intro w'
    go_simp
    with_reducible rfl
   rotate_left
   ·
    simp only [Act.put, List.setIfInBounds_toArray, List.set_cons_zero, List.set_cons_succ, i64_w, i32_w]
    rfl
   refine one_ (i := 5) (N := some 14) #[true, true, true, true, true, true, false, false, false, false, false, false, false] rfl rfl (one_of HT_.out (by kernel_rfl)) (by decide) (fun K hK => ?_)
   refine goes_ Tryd.func12 (by kernel_rfl) rfl #[.string (t189 ++ t190)] (by rfl) rfl rfl (by (try simp only [List.map_toArray, List.map_cons, List.map_nil]); first | done | rfl | (simp only [List.length_drop, List.length_take]; rfl)) ?_
   with_reducible refine (culetref13_Lex.calls k (t189 ++ t190) t191 t192 t193 _ A6.out).mono ?_
   rintro e w59 ⟨v194, rfl, ho0, hb⟩
   refine ⟨_, rfl, ?_⟩
   have z_ := aI (am_ (Kd.R_lower (Kd.R_newB (Kd.R_newB ho0 (g := gb187) (o := .cells #[.int .i64 a0_0, .string a0_1, .int .i64 a0_2, .int .i64 a0_3] 40 (0, 0)) (mk_ BK187.out)) (g := gb188) (o := .cells #[.int .i64 a1_0, .string a1_1, .int .i64 a1_2, .int .i64 a1_3] 40 (0, 0)) (mk_ BK188.out)) (below_size (mb_ HB.out)))) (aI (am_ (blk_below (mk_ BK187.out) hb)) (aI (am_ (blk_below (mk_ BK188.out) hb)) (am_ (below_step (mb_ HB.out) hb))))
   clear BK187 BK188 HB
   obtain ⟨HO195, BK187, BK188, HB⟩ := z_
   (try clear hb)
   (try clear hb2)
   (try clear hk)
   (try clear hi)
   (try clear ho0)
   refine hK.out _ _ ⟨(blk_cell BK187.out 0).trans rfl, (blk_cell BK187.out 1).trans rfl, (blk_cell BK187.out 2).trans rfl, (blk_cell BK187.out 3).trans rfl, (blk_cell BK188.out 0).trans rfl, (blk_cell BK188.out 1).trans rfl, (blk_cell BK188.out 2).trans rfl, (blk_cell BK188.out 3).trans rfl⟩ (fun hHeld => ?_)
   clear hK K
   refine norm_ (a' := ?_) ?_ ?_
   rotate_left
   ·
    show Act.put _ (some 14) _ = _
    simp only [Act.put, List.setIfInBounds_toArray, List.set_cons_zero, List.set_cons_succ, i64_w, i32_w]
    rfl
   refine ltd (o := [0, 1, 2, 3, 4, 5, 6, 7, 8, 9, 10, 11, 12]) (n := 6) (m := 13) (by kernel_rfl) ?_
   iterate 7 (first | (refine pnd (v := ?_) (a' := ?_) rfl rfl (any_of HT_.out (by kernel_rfl)) (fun _ _ _ h => h) (Or.inl ⟨by rfl, ?_⟩) ?_ ?_; rotate_left; (· (intro w'; go_simp; with_reducible rfl)); rotate_left; (· (show Act.put _ (some _) _ = _; simp only [Act.put, List.setIfInBounds_toArray, List.set_cons_zero, List.set_cons_succ, i64_w, i32_w]; rfl))))
   refine done_ (done_of HT_.out (by kernel_rfl)) ?_
   try go_wp2
   have z_ := aI (am_ (Kd.R_drew HO195.out)) (aI (am_ (blk_drew BK187.out)) (aI (am_ (blk_drew BK188.out)) (am_ (below_drew1 HB.out))))
   clear HO195 BK187 BK188 HB
   obtain ⟨HO195, BK187, BK188, HB⟩ := z_
   refine start_ (n := 44) (S := fun w' => True) (ds := []) #[false, false, false, false, false, false, false, false, false, false, false, false, false, false, false, false, false, false, false, false, false, false, false, false, false, false, false, false, false, false, false, false, false, false, false, false, false, false, false, false, false, false, false, false] (by kernel_rfl) rfl rfl trivial (fun hHeld => ?_); refine with_tabW culetref13_Apart.tab2 culetref13_Apart.bits2 (fun HT_ HW_ => ?_)
   generalize w59.drew = w60 at HO195 BK187 BK188 HB hHeld ⊢
   refine ltd (o := [0, 1, 2, 3, 4, 5, 6, 7, 8, 9, 10, 11, 12, 13, 14, 15, 16, 17, 18, 19, 20, 21, 22, 23, 24, 25, 26, 27, 28, 29, 30, 31, 32, 33, 34, 35, 36, 37, 38, 39, 40, 41, 42, 43]) (n := 0) (m := 44) (by kernel_rfl) ?_
   iterate 44 (first | (refine pnd rfl rfl (any_of HT_.out (by kernel_rfl)) (fun _ _ _ h => h) (Or.inr ⟨by rfl, rfl⟩) (a' := ?_) ?_ ?_; rotate_left; (· (show Act.put _ (some _) _ = _; simp only [Act.put, List.setIfInBounds_toArray, List.set_cons_zero, List.set_cons_succ, i64_w, i32_w]; rfl))) | (refine pnd (v := ?_) (a' := ?_) rfl rfl (any_of HT_.out (by kernel_rfl)) (fun _ _ _ h => h) (Or.inl ⟨by rfl, ?_⟩) ?_ ?_; rotate_left; (· (intro w'; go_simp; with_reducible rfl)); rotate_left; (· (show Act.put _ (some _) _ = _; simp only [Act.put, List.setIfInBounds_toArray, List.set_cons_zero, List.set_cons_succ, i64_w, i32_w]; rfl))))
   refine done_ (done_of HT_.out (by kernel_rfl)) ?_
   try go_wp2
   go_ret
   exact ⟨by first | rfl | (simp [errW_none, errW_some] <;> rfl) | (simp [*, errW_none, errW_some] <;> rfl), mb_ HB.out⟩
 ·
  rw [if_neg c5] at H
  exact absurd H (by simp)

end Go.Proofs.YthjmbagkomnpgaaDoor.L
