-- Written by this session's own programs; what the law does not lean on is left out. Lean checks it.
import Derived.Test.YthjmbagkomnpgaaDoorJS
import Derived.Test.YthjmbagkomnpgaaDoorJR
import Derived.Test.YthjmbagkomnpgaaDoorJLx29
import Derived.Test.YthjmbagkomnpgaaDoorJDr
namespace Go.Proofs.YthjmbagkomnpgaaDoor.L
open Go.RowKit Go.Proofs.YthjmbagkomnpgaaDoorW.PrintWords Go.Proofs.YthjmbagkomnpgaaDoorW.PrintLast Go.Proofs.YthjmbagkomnpgaaDoorW.PrintMore Go.Proofs.YthjmbagkomnpgaaDoorD Go.Proofs.YthjmbagkomnpgaaDoorD
set_option linter.unusedVariables false
set_option linter.unusedSimpArgs false

def culetref13_Join.l0 : Nat → List (S40) → ByteArray → Int → Option (ByteArray)
 | 0, _, _, _ => none
 | k + 1, x0, x3, x4 => if x4 < (x0.length : Int) then (if x4 > 0 then (if 0 ≤ (wrap64 (x4 - 1)) then (if (wrap64 (x4 - 1)) < (x0.length : Int) then (if 0 ≤ x4 then ((culetref13_Apart.f k ((rd_T40 x0 (wrap64 (x4 - 1))).f0) ((rd_T40 x0 (wrap64 (x4 - 1))).f1) ((rd_T40 x0 (wrap64 (x4 - 1))).f2) ((rd_T40 x0 (wrap64 (x4 - 1))).f3) ((rd_T40 x0 x4).f0) ((rd_T40 x0 x4).f1) ((rd_T40 x0 x4).f2) ((rd_T40 x0 x4).f3)).bind fun t214 => (if t214 = true then (if x3.size + 1 ≤ 9223372036854775807 then ((culetref13_Source.f ((rd_T40 x0 x4).f0) ((rd_T40 x0 x4).f1) ((rd_T40 x0 x4).f2) ((rd_T40 x0 x4).f3)).bind fun t216 => (if (x3 ++ (⟨#[32]⟩ : ByteArray)).size + t216.size ≤ 9223372036854775807 then (culetref13_Join.l0 k x0 ((x3 ++ (⟨#[32]⟩ : ByteArray)) ++ t216) (wrap64 (x4 + 1))) else (none))) else (none)) else ((culetref13_Source.f ((rd_T40 x0 x4).f0) ((rd_T40 x0 x4).f1) ((rd_T40 x0 x4).f2) ((rd_T40 x0 x4).f3)).bind fun t218 => (if x3.size + t218.size ≤ 9223372036854775807 then (culetref13_Join.l0 k x0 (x3 ++ t218) (wrap64 (x4 + 1))) else (none))))) else (none)) else (none)) else (none)) else (if 0 ≤ x4 then ((culetref13_Source.f ((rd_T40 x0 x4).f0) ((rd_T40 x0 x4).f1) ((rd_T40 x0 x4).f2) ((rd_T40 x0 x4).f3)).bind fun t220 => (if x3.size + t220.size ≤ 9223372036854775807 then (culetref13_Join.l0 k x0 (x3 ++ t220) (wrap64 (x4 + 1))) else (none))) else (none))) else (some x3)
def culetref13_Join.f (k : Nat) (l0 : List (S40)) : Option (ByteArray) := culetref13_Join.l0 k l0 (⟨#[]⟩ : ByteArray) 0
def culetref13_Join.T5 : Bool × List (List Nat × List Nat) := (true, [([], []), ([0], [0]), ([1], [1]), ([2], [2]), ([2], [2]), ([4, 2], [2, 4]), ([3, 5, 2], [2, 3, 5]), ([6, 2], [2, 6]), ([2], [2]), ([2], [2]), ([8, 9, 2], [2, 8, 9]), ([10, 2], [2, 10]), ([7, 11, 2, 2], [2, 7, 11]), ([2, 12], [2, 12])])
def culetref13_Join.B5 : List Nat := [0, 1, 3, 7, 7, 23, 63, 127, 7, 7, 775, 1799, 4095, 8191]
theorem culetref13_Join.tab5 : rtab .any (opsOf Tryd.f28 5) = culetref13_Join.T5 := by kernel_rfl
theorem culetref13_Join.bits5 : waitsOk culetref13_Join.T5.2 culetref13_Join.B5 = true := by kernel_rfl
set_option maxHeartbeats 8000000 in
set_option maxRecDepth 100000 in
theorem culetref13_Join.calls (k : Nat) (A0 : Option Addr) (c0 : Nat) (l0 : List (S40)) (r : ByteArray) (w : World) (hr0 : Kd.C k40 w A0 l0.length l0) (hc0 : l0.length ≤ c0) (h : culetref13_Join.f k l0 = some r) :
  Calls Tryd.prog 28 #[.slice A0 l0.length c0] w fun e w' => e = .returned (.string r) ∧ Below w.heap.size w w' := by
 have hu40 := Tryd.underlying40
 have HR0 := am_ hr0
 have HC0 := am_ hc0
 clear hr0 hc0
 have HB := am_ (Below.refl w.heap.size w)
 have H : (culetref13_Join.l0 k l0 (⟨#[]⟩ : ByteArray) 0) = some r := h
 clear h
 have H' := am_ H
 clear H
 go_enter Tryd.func28, Tryd.ntmps28
 go_wp2
 go_loopg [3, 4] k (fun kq v3 v4 w' => ∃ (x3_1 : ByteArray) (x4_1 : Int), v3 = .string x3_1 ∧ v4 = .int .i64 x4_1 ∧ Aside0 (culetref13_Join.l0 kq l0 x3_1 x4_1 = some r) ∧ Aside0 (kq ≤ k) ∧ Aside0 (Below w.heap.size w w'))
 case atStart => exact ⟨((⟨#[]⟩ : ByteArray)), (0), (by first | rfl | (simp; done) | (simp [*]; done)), (by first | rfl | (simp; done) | (simp [*]; done)), H', ⟨Nat.le_refl _⟩, ⟨mb_ HB.out⟩⟩
 case round =>
  clear H'
  obtain ⟨x3_1, x4_1, rfl, rfl, HA, HK1, HB⟩ := hrel
  cases gk with
  | zero => exact absurd HA.out (by simp [culetref13_Join.l0])
  | succ k1 =>
   have H := HA.out
   clear HA
   simp only [culetref13_Join.l0] at H
   by_cases c2 : x4_1 < (l0.length : Int)
   ·
    rw [if_pos c2] at H
    have c2b0 : decide (x4_1 < (l0.length : Int)) = true := decide_eq_true c2
    clear c2
    by_cases c3 : x4_1 > 0
    ·
     rw [if_pos c3] at H
     have c3b0 : decide (0 < x4_1) = true := decide_eq_true c3
     clear c3
     obtain ⟨ji4, hji4⟩ : ∃ j_ : Int, (wrap64 (x4_1 - 1)) = j_ := ⟨_, rfl⟩
     replace H : (if 0 ≤ (ji4) then (if (ji4) < (l0.length : Int) then (if 0 ≤ x4_1 then ((culetref13_Apart.f k1 ((rd_T40 l0 (ji4)).f0) ((rd_T40 l0 (ji4)).f1) ((rd_T40 l0 (ji4)).f2) ((rd_T40 l0 (ji4)).f3) ((rd_T40 l0 x4_1).f0) ((rd_T40 l0 x4_1).f1) ((rd_T40 l0 x4_1).f2) ((rd_T40 l0 x4_1).f3)).bind fun t214 => (if t214 = true then (if x3_1.size + 1 ≤ 9223372036854775807 then ((culetref13_Source.f ((rd_T40 l0 x4_1).f0) ((rd_T40 l0 x4_1).f1) ((rd_T40 l0 x4_1).f2) ((rd_T40 l0 x4_1).f3)).bind fun t216 => (if (x3_1 ++ (⟨#[32]⟩ : ByteArray)).size + t216.size ≤ 9223372036854775807 then (culetref13_Join.l0 k1 l0 ((x3_1 ++ (⟨#[32]⟩ : ByteArray)) ++ t216) (wrap64 (x4_1 + 1))) else (none))) else (none)) else ((culetref13_Source.f ((rd_T40 l0 x4_1).f0) ((rd_T40 l0 x4_1).f1) ((rd_T40 l0 x4_1).f2) ((rd_T40 l0 x4_1).f3)).bind fun t218 => (if x3_1.size + t218.size ≤ 9223372036854775807 then (culetref13_Join.l0 k1 l0 (x3_1 ++ t218) (wrap64 (x4_1 + 1))) else (none))))) else (none)) else (none)) else (none)) = some r := by first | (rw [hji4] at H; exact H) | (simp only [hji4] at H ⊢; exact H)
     have hji4w : (IntKind.i64.wrap (x4_1 - 1)) = ji4 := (i64_w _).trans hji4
     by_cases c5 : 0 ≤ (ji4)
     ·
      rw [if_pos c5] at H
      have c5b0 : decide (0 ≤ (ji4)) = true := decide_eq_true c5
      clear c5
      by_cases c6 : (ji4) < (l0.length : Int)
      ·
       rw [if_pos c6] at H
       have c6b0 : decide ((ji4) < (l0.length : Int)) = true := decide_eq_true c6
       clear c6
       by_cases c7 : 0 ≤ x4_1
       ·
        rw [if_pos c7] at H
        have c7b0 : decide (0 ≤ x4_1) = true := decide_eq_true c7
        clear c7
        replace H := Option.bind_eq_some_iff.mp H
        obtain ⟨t214, A80, H⟩ := H
        replace H : (if t214 = true then (if x3_1.size + 1 ≤ 9223372036854775807 then ((culetref13_Source.f ((rd_T40 l0 x4_1).f0) ((rd_T40 l0 x4_1).f1) ((rd_T40 l0 x4_1).f2) ((rd_T40 l0 x4_1).f3)).bind fun t216 => (if (x3_1 ++ (⟨#[32]⟩ : ByteArray)).size + t216.size ≤ 9223372036854775807 then (culetref13_Join.l0 k1 l0 ((x3_1 ++ (⟨#[32]⟩ : ByteArray)) ++ t216) (wrap64 (x4_1 + 1))) else (none))) else (none)) else ((culetref13_Source.f ((rd_T40 l0 x4_1).f0) ((rd_T40 l0 x4_1).f1) ((rd_T40 l0 x4_1).f2) ((rd_T40 l0 x4_1).f3)).bind fun t218 => (if x3_1.size + t218.size ≤ 9223372036854775807 then (culetref13_Join.l0 k1 l0 (x3_1 ++ t218) (wrap64 (x4_1 + 1))) else (none)))) = some r := H
        have A8 := am_ A80
        clear A80
        by_cases c9 : t214 = true
        ·
         subst c9
         have H1 : (if x3_1.size + 1 ≤ 9223372036854775807 then ((culetref13_Source.f ((rd_T40 l0 x4_1).f0) ((rd_T40 l0 x4_1).f1) ((rd_T40 l0 x4_1).f2) ((rd_T40 l0 x4_1).f3)).bind fun t216 => (if (x3_1 ++ (⟨#[32]⟩ : ByteArray)).size + t216.size ≤ 9223372036854775807 then (culetref13_Join.l0 k1 l0 ((x3_1 ++ (⟨#[32]⟩ : ByteArray)) ++ t216) (wrap64 (x4_1 + 1))) else (none))) else (none)) = some r := by rw [if_pos rfl] at H; exact H
         clear H
         have H := H1
         clear H1
         by_cases c10 : x3_1.size + 1 ≤ 9223372036854775807
         ·
          rw [if_pos c10] at H
          have c10b0 := eq_true c10
          have c10b1 : decide (x3_1.size + 1 ≤ 9223372036854775807) = true := decide_eq_true c10
          try have c10b2 : (9223372036854775807 < x3_1.size + 1) = False := eq_false (Nat.not_lt.2 c10)
          replace H := Option.bind_eq_some_iff.mp H
          obtain ⟨t216, A110, H⟩ := H
          replace H : (if (x3_1 ++ (⟨#[32]⟩ : ByteArray)).size + t216.size ≤ 9223372036854775807 then (culetref13_Join.l0 k1 l0 ((x3_1 ++ (⟨#[32]⟩ : ByteArray)) ++ t216) (wrap64 (x4_1 + 1))) else (none)) = some r := H
          have A11 := am_ A110
          clear A110
          by_cases c12 : (x3_1 ++ (⟨#[32]⟩ : ByteArray)).size + t216.size ≤ 9223372036854775807
          ·
           rw [if_pos c12] at H
           have c12b0 := eq_true c12
           have c12b1 : decide ((x3_1 ++ (⟨#[32]⟩ : ByteArray)).size + t216.size ≤ 9223372036854775807) = true := decide_eq_true c12
           try have c12b2 : (9223372036854775807 < (x3_1 ++ (⟨#[32]⟩ : ByteArray)).size + t216.size) = False := eq_false (Nat.not_lt.2 c12)
           have c12b3 : (9223372036854775807 < x3_1.size + 1 + t216.size) = False := eq_false (by have h := c12; rw [ByteArray.size_append] at h; exact Nat.not_lt.2 h)
           have H' := am_ H
           clear H
           try go_wp2
           have n0_ := am_ (below_drew1 HB.out)
           clear HB
           have HB := n0_
           clear n0_
           have p212 : 0 ≤ ((ji4) : Int) := of_decide_eq_true (by first | (with_reducible assumption) | assumption)
           have q212 : (ji4) < (l0.length : Int) := of_decide_eq_true (by first | (with_reducible assumption) | assumption)
           obtain ⟨ad212, e212, hx212_0, hx212_1, hx212_2, hx212_3⟩ := at_T40 HR0.out (ji4) p212 q212
           have hw212_3 := hx212_3
           have hw212_2 := hx212_2
           have hw212_1 := hx212_1
           have hw212_0 := hx212_0
           cases e212
           replace hx212_0 := (HB.out.cell (World.block_lt_of_cell? w _ hx212_0)).trans hx212_0
           replace hx212_1 := (HB.out.cell (World.block_lt_of_cell? w _ hx212_1)).trans hx212_1
           replace hx212_2 := (HB.out.cell (World.block_lt_of_cell? w _ hx212_2)).trans hx212_2
           replace hx212_3 := (HB.out.cell (World.block_lt_of_cell? w _ hx212_3)).trans hx212_3
           replace p212 := eq_true p212
           replace q212 := eq_true q212
           have p213 : 0 ≤ (x4_1 : Int) := of_decide_eq_true (by first | (with_reducible assumption) | assumption)
           have q213 : x4_1 < (l0.length : Int) := of_decide_eq_true (by first | (with_reducible assumption) | assumption)
           obtain ⟨ad213, e213, hx213_0, hx213_1, hx213_2, hx213_3⟩ := at_T40 HR0.out x4_1 p213 q213
           have hw213_3 := hx213_3
           have hw213_2 := hx213_2
           have hw213_1 := hx213_1
           have hw213_0 := hx213_0
           obtain rfl : ad212 = ad213 := (by injection e213)
           replace hx213_0 := (HB.out.cell (World.block_lt_of_cell? w _ hx213_0)).trans hx213_0
           replace hx213_1 := (HB.out.cell (World.block_lt_of_cell? w _ hx213_1)).trans hx213_1
           replace hx213_2 := (HB.out.cell (World.block_lt_of_cell? w _ hx213_2)).trans hx213_2
           replace hx213_3 := (HB.out.cell (World.block_lt_of_cell? w _ hx213_3)).trans hx213_3
           replace p213 := eq_true p213
           replace q213 := eq_true q213
           refine start_ (n := 14) (S := fun w' => w'.cell? (ad212.add (((ji4)).toNat * 4)) = some (.int .i64 ((rd_T40 l0 (ji4)).f0)) ∧ w'.cell? ⟨(ad212.add (((ji4)).toNat * 4)).block, (ad212.add (((ji4)).toNat * 4)).off + 1, none⟩ = some (.string ((rd_T40 l0 (ji4)).f1)) ∧ w'.cell? ⟨(ad212.add (((ji4)).toNat * 4)).block, (ad212.add (((ji4)).toNat * 4)).off + 2, none⟩ = some (.int .i64 ((rd_T40 l0 (ji4)).f2)) ∧ w'.cell? ⟨(ad212.add (((ji4)).toNat * 4)).block, (ad212.add (((ji4)).toNat * 4)).off + 3, none⟩ = some (.int .i64 ((rd_T40 l0 (ji4)).f3)) ∧ w'.cell? (ad212.add ((x4_1).toNat * 4)) = some (.int .i64 ((rd_T40 l0 x4_1).f0)) ∧ w'.cell? ⟨(ad212.add ((x4_1).toNat * 4)).block, (ad212.add ((x4_1).toNat * 4)).off + 1, none⟩ = some (.string ((rd_T40 l0 x4_1).f1)) ∧ w'.cell? ⟨(ad212.add ((x4_1).toNat * 4)).block, (ad212.add ((x4_1).toNat * 4)).off + 2, none⟩ = some (.int .i64 ((rd_T40 l0 x4_1).f2)) ∧ w'.cell? ⟨(ad212.add ((x4_1).toNat * 4)).block, (ad212.add ((x4_1).toNat * 4)).off + 3, none⟩ = some (.int .i64 ((rd_T40 l0 x4_1).f3))) (ds := []) #[false, false, false, false, false, false, false, false, false, false, false, false, false, false] (by kernel_rfl) rfl rfl ⟨((HB.out.cell (World.block_lt_of_cell? w _ hw212_0)).trans hw212_0), ((HB.out.cell (World.block_lt_of_cell? w _ hw212_1)).trans hw212_1), ((HB.out.cell (World.block_lt_of_cell? w _ hw212_2)).trans hw212_2), ((HB.out.cell (World.block_lt_of_cell? w _ hw212_3)).trans hw212_3), ((HB.out.cell (World.block_lt_of_cell? w _ hw213_0)).trans hw213_0), ((HB.out.cell (World.block_lt_of_cell? w _ hw213_1)).trans hw213_1), ((HB.out.cell (World.block_lt_of_cell? w _ hw213_2)).trans hw213_2), ((HB.out.cell (World.block_lt_of_cell? w _ hw213_3)).trans hw213_3)⟩ (fun hHeld => ?_); refine with_tabW culetref13_Join.tab5 culetref13_Join.bits5 (fun HT_ HW_ => ?_)
           generalize wr.drew = w13 at HB hx212_0 hx212_1 hx212_2 hx212_3 hx213_0 hx213_1 hx213_2 hx213_3 hHeld ⊢
           refine ltd (o := [0, 1, 2, 3, 4, 5, 6, 8, 9, 10, 7, 11]) (n := 0) (m := 14) (by kernel_rfl) ?_
           iterate 12 (first | (refine tnd (v := ?_) (a' := ?_) rfl rfl (take_ofW HT_.out HW_.out (by kernel_rfl)) (fun _ _ _ h => h) (Or.inl ⟨by rfl, ?_⟩) hHeld ?_ ?_; rotate_left; (· (rintro w' ⟨s0, s1, s2, s3, s4, s5, s6, s7⟩; go_simp; with_reducible rfl)); rotate_left; (· (show Act.put _ (some _) _ = _; simp only [Act.put, List.setIfInBounds_toArray, List.set_cons_zero, List.set_cons_succ, i64_w, i32_w]; rfl))) | (refine pnd (v := ?_) (a' := ?_) rfl rfl (any_of HT_.out (by kernel_rfl)) (fun _ _ _ h => h) (Or.inl ⟨by rfl, ?_⟩) ?_ ?_; rotate_left; (· (intro w'; go_simp; with_reducible rfl)); rotate_left; (· (show Act.put _ (some _) _ = _; simp only [Act.put, List.setIfInBounds_toArray, List.set_cons_zero, List.set_cons_succ, i64_w, i32_w]; rfl))))
           refine one_ (i := 12) (N := some 23) #[true, true, true, true, true, true, true, true, true, true, true, true, true, false] rfl rfl (one_of HT_.out (by kernel_rfl)) (by decide) (fun K hK => ?_)
           refine goes_ Tryd.func25 (by kernel_rfl) rfl #[.agg #[.int .i64 ((rd_T40 l0 (ji4)).f0), .string ((rd_T40 l0 (ji4)).f1), .int .i64 ((rd_T40 l0 (ji4)).f2), .int .i64 ((rd_T40 l0 (ji4)).f3)], .agg #[.int .i64 ((rd_T40 l0 x4_1).f0), .string ((rd_T40 l0 x4_1).f1), .int .i64 ((rd_T40 l0 x4_1).f2), .int .i64 ((rd_T40 l0 x4_1).f3)]] (by rfl) rfl rfl (by (try simp only [List.map_toArray, List.map_cons, List.map_nil]); first | done | (simp only [hji4]; rfl) | rfl | (simp only [List.length_drop, List.length_take]; rfl)) ?_
           with_reducible refine (culetref13_Apart.calls k1 ((rd_T40 l0 (ji4)).f0) ((rd_T40 l0 (ji4)).f1) ((rd_T40 l0 (ji4)).f2) ((rd_T40 l0 (ji4)).f3) ((rd_T40 l0 x4_1).f0) ((rd_T40 l0 x4_1).f1) ((rd_T40 l0 x4_1).f2) ((rd_T40 l0 x4_1).f3) true _ A8.out).mono ?_
           rintro e w14 ⟨rfl, hb⟩
           refine ⟨_, rfl, ?_⟩
           have n0_ := am_ (below_step (mb_ HB.out) hb)
           clear HB
           have HB := n0_
           clear n0_
           (try clear hb)
           (try clear hb2)
           (try clear hk)
           (try clear hi)
           refine hK.out _ _ ⟨((HB.out.cell (World.block_lt_of_cell? w _ hw212_0)).trans hw212_0), ((HB.out.cell (World.block_lt_of_cell? w _ hw212_1)).trans hw212_1), ((HB.out.cell (World.block_lt_of_cell? w _ hw212_2)).trans hw212_2), ((HB.out.cell (World.block_lt_of_cell? w _ hw212_3)).trans hw212_3), ((HB.out.cell (World.block_lt_of_cell? w _ hw213_0)).trans hw213_0), ((HB.out.cell (World.block_lt_of_cell? w _ hw213_1)).trans hw213_1), ((HB.out.cell (World.block_lt_of_cell? w _ hw213_2)).trans hw213_2), ((HB.out.cell (World.block_lt_of_cell? w _ hw213_3)).trans hw213_3)⟩ (fun hHeld => ?_)
           clear hK K
           refine norm_ (a' := ?_) ?_ ?_
           rotate_left
           ·
            show Act.put _ (some 23) _ = _
            simp only [Act.put, List.setIfInBounds_toArray, List.set_cons_zero, List.set_cons_succ, i64_w, i32_w]
            rfl
           refine pure_ (i := 13) (N := some 24) (v := ?_) (a' := ?_) #[true, true, true, true, true, true, true, true, true, true, true, true, true, true] rfl rfl (any_of HT_.out (by kernel_rfl)) (fun _ _ _ h => h) (Or.inl ⟨by rfl, ?_⟩) ?_ ?_
           rotate_left
           ·
            intro w'
            go_simp
            with_reducible rfl
           rotate_left
           ·
            simp only [Act.put, List.setIfInBounds_toArray, List.set_cons_zero, List.set_cons_succ, i64_w, i32_w]
            rfl
           refine done_ (done_of HT_.out (by kernel_rfl)) ?_
           have p215 : 0 ≤ (x4_1 : Int) := of_decide_eq_true (by first | (with_reducible assumption) | assumption)
           have q215 : x4_1 < (l0.length : Int) := of_decide_eq_true (by first | (with_reducible assumption) | assumption)
           obtain ⟨ad215, e215, hx215_0, hx215_1, hx215_2, hx215_3⟩ := at_T40 HR0.out x4_1 p215 q215
           obtain rfl : ad212 = ad215 := (by injection e215)
           replace hx215_0 := (HB.out.cell (World.block_lt_of_cell? w _ hx215_0)).trans hx215_0
           replace hx215_1 := (HB.out.cell (World.block_lt_of_cell? w _ hx215_1)).trans hx215_1
           replace hx215_2 := (HB.out.cell (World.block_lt_of_cell? w _ hx215_2)).trans hx215_2
           replace hx215_3 := (HB.out.cell (World.block_lt_of_cell? w _ hx215_3)).trans hx215_3
           replace p215 := eq_true p215
           replace q215 := eq_true q215
           try go_wp2_with (first | ((with_reducible refine gate_callee (f := 21) rfl ?_); refine goesL_ (some 32) rfl rfl Tryd.func21 (by kernel_rfl) rfl #[.agg #[.int .i64 ((rd_T40 l0 x4_1).f0), .string ((rd_T40 l0 x4_1).f1), .int .i64 ((rd_T40 l0 x4_1).f2), .int .i64 ((rd_T40 l0 x4_1).f3)]] rfl (by (try simp only [List.map_toArray, List.map_cons, List.map_nil]); first | done | rfl | (simp only [List.length_drop, List.length_take]; rfl)) ?_; (with_reducible refine (culetref13_Source.calls ((rd_T40 l0 x4_1).f0) ((rd_T40 l0 x4_1).f1) ((rd_T40 l0 x4_1).f2) ((rd_T40 l0 x4_1).f3) t216 _ A11.out).mono ?_); rintro e w15 ⟨rfl, hb⟩; refine ⟨_, rfl, ?_⟩; have n0_ := am_ (below_step (mb_ HB.out) hb); clear HB; have HB := n0_; clear n0_; (try clear hb); (try clear hb2); (try clear hk); (try clear hi)))
           go_roundg k1
           case measure => have := HK1.out; omega
           case rel => exact ⟨((x3_1 ++ (⟨#[32]⟩ : ByteArray)) ++ t216), (wrap64 (x4_1 + 1)), (by first | rfl | (simp; done) | (simp [*]; done)), (by first | rfl | (simp; done) | (simp [*]; done)), H', ⟨by have := HK1.out; omega⟩, ⟨mb_ HB.out⟩⟩
          ·
           rw [if_neg c12] at H
           exact absurd H (by simp)
         ·
          rw [if_neg c10] at H
          exact absurd H (by simp)
        ·
         replace c9 := Bool.eq_false_iff.mpr c9
         subst c9
         have H1 : ((culetref13_Source.f ((rd_T40 l0 x4_1).f0) ((rd_T40 l0 x4_1).f1) ((rd_T40 l0 x4_1).f2) ((rd_T40 l0 x4_1).f3)).bind fun t218 => (if x3_1.size + t218.size ≤ 9223372036854775807 then (culetref13_Join.l0 k1 l0 (x3_1 ++ t218) (wrap64 (x4_1 + 1))) else (none))) = some r := by rw [if_neg (show ¬ (false = true) by decide)] at H; exact H
         clear H
         have H := H1
         clear H1
         replace H := Option.bind_eq_some_iff.mp H
         obtain ⟨t218, A160, H⟩ := H
         replace H : (if x3_1.size + t218.size ≤ 9223372036854775807 then (culetref13_Join.l0 k1 l0 (x3_1 ++ t218) (wrap64 (x4_1 + 1))) else (none)) = some r := H
         have A16 := am_ A160
         clear A160
         by_cases c17 : x3_1.size + t218.size ≤ 9223372036854775807
         ·
          rw [if_pos c17] at H
          have c17b0 := eq_true c17
          have c17b1 : decide (x3_1.size + t218.size ≤ 9223372036854775807) = true := decide_eq_true c17
          try have c17b2 : (9223372036854775807 < x3_1.size + t218.size) = False := eq_false (Nat.not_lt.2 c17)
          have H' := am_ H
          clear H
          try go_wp2
          have n0_ := am_ (below_drew1 HB.out)
          clear HB
          have HB := n0_
          clear n0_
          have p212 : 0 ≤ ((ji4) : Int) := of_decide_eq_true (by first | (with_reducible assumption) | assumption)
          have q212 : (ji4) < (l0.length : Int) := of_decide_eq_true (by first | (with_reducible assumption) | assumption)
          obtain ⟨ad212, e212, hx212_0, hx212_1, hx212_2, hx212_3⟩ := at_T40 HR0.out (ji4) p212 q212
          have hw212_3 := hx212_3
          have hw212_2 := hx212_2
          have hw212_1 := hx212_1
          have hw212_0 := hx212_0
          cases e212
          replace hx212_0 := (HB.out.cell (World.block_lt_of_cell? w _ hx212_0)).trans hx212_0
          replace hx212_1 := (HB.out.cell (World.block_lt_of_cell? w _ hx212_1)).trans hx212_1
          replace hx212_2 := (HB.out.cell (World.block_lt_of_cell? w _ hx212_2)).trans hx212_2
          replace hx212_3 := (HB.out.cell (World.block_lt_of_cell? w _ hx212_3)).trans hx212_3
          replace p212 := eq_true p212
          replace q212 := eq_true q212
          have p213 : 0 ≤ (x4_1 : Int) := of_decide_eq_true (by first | (with_reducible assumption) | assumption)
          have q213 : x4_1 < (l0.length : Int) := of_decide_eq_true (by first | (with_reducible assumption) | assumption)
          obtain ⟨ad213, e213, hx213_0, hx213_1, hx213_2, hx213_3⟩ := at_T40 HR0.out x4_1 p213 q213
          have hw213_3 := hx213_3
          have hw213_2 := hx213_2
          have hw213_1 := hx213_1
          have hw213_0 := hx213_0
          obtain rfl : ad212 = ad213 := (by injection e213)
          replace hx213_0 := (HB.out.cell (World.block_lt_of_cell? w _ hx213_0)).trans hx213_0
          replace hx213_1 := (HB.out.cell (World.block_lt_of_cell? w _ hx213_1)).trans hx213_1
          replace hx213_2 := (HB.out.cell (World.block_lt_of_cell? w _ hx213_2)).trans hx213_2
          replace hx213_3 := (HB.out.cell (World.block_lt_of_cell? w _ hx213_3)).trans hx213_3
          replace p213 := eq_true p213
          replace q213 := eq_true q213
          refine start_ (n := 14) (S := fun w' => w'.cell? (ad212.add (((ji4)).toNat * 4)) = some (.int .i64 ((rd_T40 l0 (ji4)).f0)) ∧ w'.cell? ⟨(ad212.add (((ji4)).toNat * 4)).block, (ad212.add (((ji4)).toNat * 4)).off + 1, none⟩ = some (.string ((rd_T40 l0 (ji4)).f1)) ∧ w'.cell? ⟨(ad212.add (((ji4)).toNat * 4)).block, (ad212.add (((ji4)).toNat * 4)).off + 2, none⟩ = some (.int .i64 ((rd_T40 l0 (ji4)).f2)) ∧ w'.cell? ⟨(ad212.add (((ji4)).toNat * 4)).block, (ad212.add (((ji4)).toNat * 4)).off + 3, none⟩ = some (.int .i64 ((rd_T40 l0 (ji4)).f3)) ∧ w'.cell? (ad212.add ((x4_1).toNat * 4)) = some (.int .i64 ((rd_T40 l0 x4_1).f0)) ∧ w'.cell? ⟨(ad212.add ((x4_1).toNat * 4)).block, (ad212.add ((x4_1).toNat * 4)).off + 1, none⟩ = some (.string ((rd_T40 l0 x4_1).f1)) ∧ w'.cell? ⟨(ad212.add ((x4_1).toNat * 4)).block, (ad212.add ((x4_1).toNat * 4)).off + 2, none⟩ = some (.int .i64 ((rd_T40 l0 x4_1).f2)) ∧ w'.cell? ⟨(ad212.add ((x4_1).toNat * 4)).block, (ad212.add ((x4_1).toNat * 4)).off + 3, none⟩ = some (.int .i64 ((rd_T40 l0 x4_1).f3))) (ds := []) #[false, false, false, false, false, false, false, false, false, false, false, false, false, false] (by kernel_rfl) rfl rfl ⟨((HB.out.cell (World.block_lt_of_cell? w _ hw212_0)).trans hw212_0), ((HB.out.cell (World.block_lt_of_cell? w _ hw212_1)).trans hw212_1), ((HB.out.cell (World.block_lt_of_cell? w _ hw212_2)).trans hw212_2), ((HB.out.cell (World.block_lt_of_cell? w _ hw212_3)).trans hw212_3), ((HB.out.cell (World.block_lt_of_cell? w _ hw213_0)).trans hw213_0), ((HB.out.cell (World.block_lt_of_cell? w _ hw213_1)).trans hw213_1), ((HB.out.cell (World.block_lt_of_cell? w _ hw213_2)).trans hw213_2), ((HB.out.cell (World.block_lt_of_cell? w _ hw213_3)).trans hw213_3)⟩ (fun hHeld => ?_); refine with_tabW culetref13_Join.tab5 culetref13_Join.bits5 (fun HT_ HW_ => ?_)
          generalize wr.drew = w18 at HB hx212_0 hx212_1 hx212_2 hx212_3 hx213_0 hx213_1 hx213_2 hx213_3 hHeld ⊢
          refine ltd (o := [0, 1, 2, 3, 4, 5, 6, 8, 9, 10, 7, 11]) (n := 0) (m := 14) (by kernel_rfl) ?_
          iterate 12 (first | (refine tnd (v := ?_) (a' := ?_) rfl rfl (take_ofW HT_.out HW_.out (by kernel_rfl)) (fun _ _ _ h => h) (Or.inl ⟨by rfl, ?_⟩) hHeld ?_ ?_; rotate_left; (· (rintro w' ⟨s0, s1, s2, s3, s4, s5, s6, s7⟩; go_simp; with_reducible rfl)); rotate_left; (· (show Act.put _ (some _) _ = _; simp only [Act.put, List.setIfInBounds_toArray, List.set_cons_zero, List.set_cons_succ, i64_w, i32_w]; rfl))) | (refine pnd (v := ?_) (a' := ?_) rfl rfl (any_of HT_.out (by kernel_rfl)) (fun _ _ _ h => h) (Or.inl ⟨by rfl, ?_⟩) ?_ ?_; rotate_left; (· (intro w'; go_simp; with_reducible rfl)); rotate_left; (· (show Act.put _ (some _) _ = _; simp only [Act.put, List.setIfInBounds_toArray, List.set_cons_zero, List.set_cons_succ, i64_w, i32_w]; rfl))))
          refine one_ (i := 12) (N := some 23) #[true, true, true, true, true, true, true, true, true, true, true, true, true, false] rfl rfl (one_of HT_.out (by kernel_rfl)) (by decide) (fun K hK => ?_)
          refine goes_ Tryd.func25 (by kernel_rfl) rfl #[.agg #[.int .i64 ((rd_T40 l0 (ji4)).f0), .string ((rd_T40 l0 (ji4)).f1), .int .i64 ((rd_T40 l0 (ji4)).f2), .int .i64 ((rd_T40 l0 (ji4)).f3)], .agg #[.int .i64 ((rd_T40 l0 x4_1).f0), .string ((rd_T40 l0 x4_1).f1), .int .i64 ((rd_T40 l0 x4_1).f2), .int .i64 ((rd_T40 l0 x4_1).f3)]] (by rfl) rfl rfl (by (try simp only [List.map_toArray, List.map_cons, List.map_nil]); first | done | (simp only [hji4]; rfl) | rfl | (simp only [List.length_drop, List.length_take]; rfl)) ?_
          with_reducible refine (culetref13_Apart.calls k1 ((rd_T40 l0 (ji4)).f0) ((rd_T40 l0 (ji4)).f1) ((rd_T40 l0 (ji4)).f2) ((rd_T40 l0 (ji4)).f3) ((rd_T40 l0 x4_1).f0) ((rd_T40 l0 x4_1).f1) ((rd_T40 l0 x4_1).f2) ((rd_T40 l0 x4_1).f3) false _ A8.out).mono ?_
          rintro e w19 ⟨rfl, hb⟩
          refine ⟨_, rfl, ?_⟩
          have n0_ := am_ (below_step (mb_ HB.out) hb)
          clear HB
          have HB := n0_
          clear n0_
          (try clear hb)
          (try clear hb2)
          (try clear hk)
          (try clear hi)
          refine hK.out _ _ ⟨((HB.out.cell (World.block_lt_of_cell? w _ hw212_0)).trans hw212_0), ((HB.out.cell (World.block_lt_of_cell? w _ hw212_1)).trans hw212_1), ((HB.out.cell (World.block_lt_of_cell? w _ hw212_2)).trans hw212_2), ((HB.out.cell (World.block_lt_of_cell? w _ hw212_3)).trans hw212_3), ((HB.out.cell (World.block_lt_of_cell? w _ hw213_0)).trans hw213_0), ((HB.out.cell (World.block_lt_of_cell? w _ hw213_1)).trans hw213_1), ((HB.out.cell (World.block_lt_of_cell? w _ hw213_2)).trans hw213_2), ((HB.out.cell (World.block_lt_of_cell? w _ hw213_3)).trans hw213_3)⟩ (fun hHeld => ?_)
          clear hK K
          refine norm_ (a' := ?_) ?_ ?_
          rotate_left
          ·
           show Act.put _ (some 23) _ = _
           simp only [Act.put, List.setIfInBounds_toArray, List.set_cons_zero, List.set_cons_succ, i64_w, i32_w]
           rfl
          refine pure_ (i := 13) (N := some 24) (v := ?_) (a' := ?_) #[true, true, true, true, true, true, true, true, true, true, true, true, true, true] rfl rfl (any_of HT_.out (by kernel_rfl)) (fun _ _ _ h => h) (Or.inl ⟨by rfl, ?_⟩) ?_ ?_
          rotate_left
          ·
           intro w'
           go_simp
           with_reducible rfl
          rotate_left
          ·
           simp only [Act.put, List.setIfInBounds_toArray, List.set_cons_zero, List.set_cons_succ, i64_w, i32_w]
           rfl
          refine done_ (done_of HT_.out (by kernel_rfl)) ?_
          have p217 : 0 ≤ (x4_1 : Int) := of_decide_eq_true (by first | (with_reducible assumption) | assumption)
          have q217 : x4_1 < (l0.length : Int) := of_decide_eq_true (by first | (with_reducible assumption) | assumption)
          obtain ⟨ad217, e217, hx217_0, hx217_1, hx217_2, hx217_3⟩ := at_T40 HR0.out x4_1 p217 q217
          obtain rfl : ad212 = ad217 := (by injection e217)
          replace hx217_0 := (HB.out.cell (World.block_lt_of_cell? w _ hx217_0)).trans hx217_0
          replace hx217_1 := (HB.out.cell (World.block_lt_of_cell? w _ hx217_1)).trans hx217_1
          replace hx217_2 := (HB.out.cell (World.block_lt_of_cell? w _ hx217_2)).trans hx217_2
          replace hx217_3 := (HB.out.cell (World.block_lt_of_cell? w _ hx217_3)).trans hx217_3
          replace p217 := eq_true p217
          replace q217 := eq_true q217
          try go_wp2_with (first | ((with_reducible refine gate_callee (f := 21) rfl ?_); refine goesL_ (some 32) rfl rfl Tryd.func21 (by kernel_rfl) rfl #[.agg #[.int .i64 ((rd_T40 l0 x4_1).f0), .string ((rd_T40 l0 x4_1).f1), .int .i64 ((rd_T40 l0 x4_1).f2), .int .i64 ((rd_T40 l0 x4_1).f3)]] rfl (by (try simp only [List.map_toArray, List.map_cons, List.map_nil]); first | done | rfl | (simp only [List.length_drop, List.length_take]; rfl)) ?_; (with_reducible refine (culetref13_Source.calls ((rd_T40 l0 x4_1).f0) ((rd_T40 l0 x4_1).f1) ((rd_T40 l0 x4_1).f2) ((rd_T40 l0 x4_1).f3) t218 _ A16.out).mono ?_); rintro e w20 ⟨rfl, hb⟩; refine ⟨_, rfl, ?_⟩; have n0_ := am_ (below_step (mb_ HB.out) hb); clear HB; have HB := n0_; clear n0_; (try clear hb); (try clear hb2); (try clear hk); (try clear hi)))
          go_roundg k1
          case measure => have := HK1.out; omega
          case rel => exact ⟨(x3_1 ++ t218), (wrap64 (x4_1 + 1)), (by first | rfl | (simp; done) | (simp [*]; done)), (by first | rfl | (simp; done) | (simp [*]; done)), H', ⟨by have := HK1.out; omega⟩, ⟨mb_ HB.out⟩⟩
         ·
          rw [if_neg c17] at H
          exact absurd H (by simp)
       ·
        rw [if_neg c7] at H
        exact absurd H (by simp)
      ·
       rw [if_neg c6] at H
       exact absurd H (by simp)
     ·
      rw [if_neg c5] at H
      exact absurd H (by simp)
    ·
     rw [if_neg c3] at H
     have c3b0 : decide (0 < x4_1) = false := decide_eq_false c3
     clear c3
     by_cases c21 : 0 ≤ x4_1
     ·
      rw [if_pos c21] at H
      have c21b0 : decide (0 ≤ x4_1) = true := decide_eq_true c21
      clear c21
      replace H := Option.bind_eq_some_iff.mp H
      obtain ⟨t220, A220, H⟩ := H
      replace H : (if x3_1.size + t220.size ≤ 9223372036854775807 then (culetref13_Join.l0 k1 l0 (x3_1 ++ t220) (wrap64 (x4_1 + 1))) else (none)) = some r := H
      have A22 := am_ A220
      clear A220
      by_cases c23 : x3_1.size + t220.size ≤ 9223372036854775807
      ·
       rw [if_pos c23] at H
       have c23b0 := eq_true c23
       have c23b1 : decide (x3_1.size + t220.size ≤ 9223372036854775807) = true := decide_eq_true c23
       try have c23b2 : (9223372036854775807 < x3_1.size + t220.size) = False := eq_false (Nat.not_lt.2 c23)
       have H' := am_ H
       clear H
       try go_wp2
       have n0_ := am_ (below_drew1 HB.out)
       clear HB
       have HB := n0_
       clear n0_
       refine start_ (n := 14) (S := fun w' => True) (ds := []) #[false, false, false, false, false, false, false, false, false, false, false, false, false, false] (by kernel_rfl) rfl rfl trivial (fun hHeld => ?_); refine with_tabW culetref13_Join.tab5 culetref13_Join.bits5 (fun HT_ HW_ => ?_)
       generalize wr.drew = w24 at HB hHeld ⊢
       refine ltd (o := [0, 1, 2, 3, 4, 5, 6, 7, 8, 9, 10, 11, 12, 13]) (n := 0) (m := 14) (by kernel_rfl) ?_
       iterate 14 (first | (refine pnd rfl rfl (any_of HT_.out (by kernel_rfl)) (fun _ _ _ h => h) (Or.inr ⟨by rfl, rfl⟩) (a' := ?_) ?_ ?_; rotate_left; (· (show Act.put _ (some _) _ = _; simp only [Act.put, List.setIfInBounds_toArray, List.set_cons_zero, List.set_cons_succ, i64_w, i32_w]; rfl))) | (refine pnd (v := ?_) (a' := ?_) rfl rfl (any_of HT_.out (by kernel_rfl)) (fun _ _ _ h => h) (Or.inl ⟨by rfl, ?_⟩) ?_ ?_; rotate_left; (· (intro w'; go_simp; with_reducible rfl)); rotate_left; (· (show Act.put _ (some _) _ = _; simp only [Act.put, List.setIfInBounds_toArray, List.set_cons_zero, List.set_cons_succ, i64_w, i32_w]; rfl))))
       refine done_ (done_of HT_.out (by kernel_rfl)) ?_
       have p219 : 0 ≤ (x4_1 : Int) := of_decide_eq_true (by first | (with_reducible assumption) | assumption)
       have q219 : x4_1 < (l0.length : Int) := of_decide_eq_true (by first | (with_reducible assumption) | assumption)
       obtain ⟨ad219, e219, hx219_0, hx219_1, hx219_2, hx219_3⟩ := at_T40 HR0.out x4_1 p219 q219
       cases e219
       replace hx219_0 := (HB.out.cell (World.block_lt_of_cell? w _ hx219_0)).trans hx219_0
       replace hx219_1 := (HB.out.cell (World.block_lt_of_cell? w _ hx219_1)).trans hx219_1
       replace hx219_2 := (HB.out.cell (World.block_lt_of_cell? w _ hx219_2)).trans hx219_2
       replace hx219_3 := (HB.out.cell (World.block_lt_of_cell? w _ hx219_3)).trans hx219_3
       replace p219 := eq_true p219
       replace q219 := eq_true q219
       try go_wp2_with (first | ((with_reducible refine gate_callee (f := 21) rfl ?_); refine goesL_ (some 32) rfl rfl Tryd.func21 (by kernel_rfl) rfl #[.agg #[.int .i64 ((rd_T40 l0 x4_1).f0), .string ((rd_T40 l0 x4_1).f1), .int .i64 ((rd_T40 l0 x4_1).f2), .int .i64 ((rd_T40 l0 x4_1).f3)]] rfl (by (try simp only [List.map_toArray, List.map_cons, List.map_nil]); first | done | rfl | (simp only [List.length_drop, List.length_take]; rfl)) ?_; (with_reducible refine (culetref13_Source.calls ((rd_T40 l0 x4_1).f0) ((rd_T40 l0 x4_1).f1) ((rd_T40 l0 x4_1).f2) ((rd_T40 l0 x4_1).f3) t220 _ A22.out).mono ?_); rintro e w25 ⟨rfl, hb⟩; refine ⟨_, rfl, ?_⟩; have n0_ := am_ (below_step (mb_ HB.out) hb); clear HB; have HB := n0_; clear n0_; (try clear hb); (try clear hb2); (try clear hk); (try clear hi)))
       go_roundg k1
       case measure => have := HK1.out; omega
       case rel => exact ⟨(x3_1 ++ t220), (wrap64 (x4_1 + 1)), (by first | rfl | (simp; done) | (simp [*]; done)), (by first | rfl | (simp; done) | (simp [*]; done)), H', ⟨by have := HK1.out; omega⟩, ⟨mb_ HB.out⟩⟩
      ·
       rw [if_neg c23] at H
       exact absurd H (by simp)
     ·
      rw [if_neg c21] at H
      exact absurd H (by simp)
   ·
    rw [if_neg c2] at H
    have c2b0 : decide (x4_1 < (l0.length : Int)) = false := decide_eq_false c2
    clear c2
    obtain rfl := Option.some.inj H
    go_wp2
    go_ret
    exact ⟨by first | rfl | (simp [errW_none, errW_some] <;> rfl) | (simp [*, errW_none, errW_some] <;> rfl), mb_ HB.out⟩

end Go.Proofs.YthjmbagkomnpgaaDoor.L
