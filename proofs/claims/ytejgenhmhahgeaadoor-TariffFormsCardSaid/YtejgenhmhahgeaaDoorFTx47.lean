-- Written by this session's own programs; what the law does not lean on is left out. Lean checks it.
import Derived.Test.YtejgenhmhahgeaaDoorFS
import Derived.Test.YtejgenhmhahgeaaDoorFTx36
import Derived.Test.YtejgenhmhahgeaaDoorFTx46
namespace Go.Proofs.YtejgenhmhahgeaaDoor.T
open Go.RowKit Go.Proofs.YtejgenhmhahgeaaDoorW.PrintWords Go.Proofs.YtejgenhmhahgeaaDoorW.PrintLast Go.Proofs.YtejgenhmhahgeaaDoorW.PrintMore
set_option linter.unusedVariables false
set_option linter.unusedSimpArgs false

def culetref44_Print.l0 : Nat → ByteArray → Int → ByteArray → List (S42) → Option (ByteArray × Int)
 | 0, _, _, _, _ => none
 | k + 1, x4, x5, x330000, x330001 => if x5 < (x330001.length : Int) then (if x5 > 0 then (if x4.size + 1 ≤ 9223372036854775807 then (if 0 ≤ x5 then ((culetref44_Itoa.f k ((rd_T42 x330001 x5).f0)).bind fun t332 => (if 1 + t332.size ≤ 9223372036854775807 then (if ((⟨#[32]⟩ : ByteArray) ++ t332).size + 1 ≤ 9223372036854775807 then ((culetref44_Itoa.f k ((rd_T42 x330001 x5).f1)).bind fun t334 => (if (((⟨#[32]⟩ : ByteArray) ++ t332) ++ (⟨#[64]⟩ : ByteArray)).size + t334.size ≤ 9223372036854775807 then (if (x4 ++ (⟨#[44]⟩ : ByteArray)).size + ((((⟨#[32]⟩ : ByteArray) ++ t332) ++ (⟨#[64]⟩ : ByteArray)) ++ t334).size ≤ 9223372036854775807 then (culetref44_Print.l0 k ((x4 ++ (⟨#[44]⟩ : ByteArray)) ++ ((((⟨#[32]⟩ : ByteArray) ++ t332) ++ (⟨#[64]⟩ : ByteArray)) ++ t334)) (wrap64 (x5 + 1)) x330000 x330001) else (none)) else (none))) else (none)) else (none))) else (none)) else (none)) else (if 0 ≤ x5 then ((culetref44_Itoa.f k ((rd_T42 x330001 x5).f0)).bind fun t336 => (if 1 + t336.size ≤ 9223372036854775807 then (if ((⟨#[32]⟩ : ByteArray) ++ t336).size + 1 ≤ 9223372036854775807 then ((culetref44_Itoa.f k ((rd_T42 x330001 x5).f1)).bind fun t338 => (if (((⟨#[32]⟩ : ByteArray) ++ t336) ++ (⟨#[64]⟩ : ByteArray)).size + t338.size ≤ 9223372036854775807 then (if x4.size + ((((⟨#[32]⟩ : ByteArray) ++ t336) ++ (⟨#[64]⟩ : ByteArray)) ++ t338).size ≤ 9223372036854775807 then (culetref44_Print.l0 k (x4 ++ ((((⟨#[32]⟩ : ByteArray) ++ t336) ++ (⟨#[64]⟩ : ByteArray)) ++ t338)) (wrap64 (x5 + 1)) x330000 x330001) else (none)) else (none))) else (none)) else (none))) else (none))) else (some (x4, 0))
def culetref44_Print.f (k : Nat) (a0_0 : ByteArray) (l0_1 : List (S42)) : Option (ByteArray × Int) := (culetref44_Valid.f k a0_0 l0_1).bind fun t330 => (if t330 = true then (if a0_0.size + 1 ≤ 9223372036854775807 then (culetref44_Print.l0 k (a0_0 ++ (⟨#[58]⟩ : ByteArray)) 0 a0_0 l0_1) else (none)) else (some ((⟨#[]⟩ : ByteArray), 1)))
def culetref44_Print.T9 : Bool × List (List Nat × List Nat) := (true, [([], []), ([], []), ([1], [1]), ([], []), ([2, 3], [2, 3]), ([4], [4]), ([5], [5]), ([6], [6]), ([7], [7]), ([8], [8]), ([], []), ([10], [10]), ([], []), ([11, 12], [11, 12]), ([13], [13]), ([14], [14]), ([15, 7], [15]), ([9, 16], [9, 16]), ([0, 17], [0, 17]), ([18, 16, 0, 1, 2, 3, 4, 5, 6, 7, 8, 9, 10, 11, 12, 13, 14, 15, 16, 17, 18], [0, 18])])
def culetref44_Print.B9 : List Nat := [0, 0, 2, 0, 14, 30, 62, 126, 254, 510, 0, 1024, 0, 7168, 15360, 31744, 64766, 131070, 262143, 524287]
theorem culetref44_Print.tab9 : rtab .any (opsOf Tryd.f22 9) = culetref44_Print.T9 := by kernel_rfl
theorem culetref44_Print.bits9 : waitsOk culetref44_Print.T9.2 culetref44_Print.B9 = true := by kernel_rfl
set_option maxHeartbeats 8000000 in
set_option maxRecDepth 100000 in
theorem culetref44_Print.calls (k : Nat) (a0_0 : ByteArray) (A0_1 : Option Addr) (c0_1 : Nat) (l0_1 : List (S42)) (r1 : ByteArray) (r2 : Int) (w : World) (hr0_1 : Kd.C k42 w A0_1 l0_1.length l0_1) (hc0_1 : l0_1.length ≤ c0_1) (h : culetref44_Print.f k a0_0 l0_1 = some (r1, r2)) :
  Calls Tryd.prog 22 #[.agg #[.string a0_0, .slice A0_1 l0_1.length c0_1]] w fun e w' => e = .returned (.tuple #[.string r1, .int .i64 r2]) ∧ Below w.heap.size w w' := by
 have hu24 := Tryd.underlying24
 have HR0_1 := Aside0.mk hr0_1
 have HC0_1 := Aside0.mk hc0_1
 clear hr0_1 hc0_1
 have HB := Aside0.mk (Below.refl w.heap.size w)
 have H : ((culetref44_Valid.f k a0_0 l0_1).bind fun t330 => (if t330 = true then (if a0_0.size + 1 ≤ 9223372036854775807 then (culetref44_Print.l0 k (a0_0 ++ (⟨#[58]⟩ : ByteArray)) 0 a0_0 l0_1) else (none)) else (some ((⟨#[]⟩ : ByteArray), 1)))) = some (r1, r2) := h
 clear h
 replace H := Option.bind_eq_some_iff.mp H
 obtain ⟨t330, A20, H⟩ := H
 replace H : (if t330 = true then (if a0_0.size + 1 ≤ 9223372036854775807 then (culetref44_Print.l0 k (a0_0 ++ (⟨#[58]⟩ : ByteArray)) 0 a0_0 l0_1) else (none)) else (some ((⟨#[]⟩ : ByteArray), 1))) = some (r1, r2) := H
 have A2 := Aside0.mk A20
 clear A20
 by_cases c3 : t330 = true
 ·
  subst c3
  have H1 : (if a0_0.size + 1 ≤ 9223372036854775807 then (culetref44_Print.l0 k (a0_0 ++ (⟨#[58]⟩ : ByteArray)) 0 a0_0 l0_1) else (none)) = some (r1, r2) := by rw [if_pos rfl] at H; exact H
  clear H
  have H := H1
  clear H1
  by_cases c4 : a0_0.size + 1 ≤ 9223372036854775807
  ·
   rw [if_pos c4] at H
   have c4b0 := eq_true c4
   have c4b1 : decide (a0_0.size + 1 ≤ 9223372036854775807) = true := decide_eq_true c4
   try have c4b2 : (9223372036854775807 < a0_0.size + 1) = False := eq_false (Nat.not_lt.2 c4)
   have H' := Aside0.mk H
   clear H
   go_enter Tryd.func22, Tryd.ntmps22
   go_wp2_with (first | ((with_reducible refine gate_dst (N := 1) rfl ?_); refine box_event ?hg (N := 1) ?hd (cs := #[.string a0_0, .slice A0_1 l0_1.length c0_1]) (t := 24) ?hr ?_; (case hd => rfl); (case hg => rfl); (case hr => first | (go_simp; done) | (go_simp; rfl)); intro gb329 hg w5 hbox hb; have n0_ := Aside0.mk (below_step (by repeat (first | (with_reducible first | exact HB.out | apply below_alloc | apply pw_below_drewN | apply below_drew1) | exact HB.out)) hb); have n1_ := Aside0.mk (hbox); have n2_ := Aside0.mk ((by rw [hg]; exact (below_size (by repeat (first | (with_reducible first | exact HB.out | apply below_alloc | apply pw_below_drewN | apply below_drew1) | exact HB.out))) : w.heap.size ≤ gb329)); have n3_ := Aside0.mk ((by rw [hg]; exact (below_size (by repeat (first | (with_reducible first | exact HB.out | apply below_alloc | apply pw_below_drewN | apply below_drew1) | exact HB.out))) : w.heap.size ≤ gb329)); clear HB; have HB := n0_; have BK329 := n1_; have GW329 := n2_; have GE329 := n3_; clear n0_ n1_ n2_ n3_; clear hb hbox hg; have hcz6_0 : w5.cell? ⟨gb329, 0, none⟩ = some (.string a0_0) := (blk_cell BK329.out 0).trans rfl; have hcz6_1 : w5.cell? ⟨gb329, 1, none⟩ = some (.slice A0_1 l0_1.length c0_1) := (blk_cell BK329.out 1).trans rfl; have hfz6_0 := blk_frozen BK329.out 0; have hfz6_1 := blk_frozen BK329.out 1) | ((with_reducible refine gate_callee (f := 17) rfl ?_); refine goesL_ (some 7) rfl rfl Tryd.func17 (by kernel_rfl) rfl #[.agg #[.string a0_0, .slice A0_1 l0_1.length c0_1]] rfl (by (try simp only [List.map_toArray, List.map_cons, List.map_nil]); first | done | rfl | (simp only [List.length_drop, List.length_take]; rfl)) ?_; (with_reducible refine (culetref44_Valid.calls k a0_0 _ _ l0_1 true _ ?side1 ?side2 A2.out).mono ?_); (case side1 => repeat (first | exact (Kd.C_below HR0_1.out HB.out) | (with_reducible refine Kd.C_alloc ?_ _) | (with_reducible refine Kd.C_drewN ?_ _) | (with_reducible refine Kd.C_drew ?_))); (case side2 => exact HC0_1.out); rintro e w7 ⟨rfl, hb⟩; refine ⟨_, rfl, ?_⟩; have n0_ := Aside0.mk (blk_below (g := gb329) (o := .cells #[.string a0_0, .slice A0_1 l0_1.length c0_1] 24 (0, 0)) (by (with_reducible repeat (first | refine blk_drewN ?_ _ | refine blk_drew ?_ | refine blk_alloc ?_ _)); exact BK329.out) hb); have n1_ := Aside0.mk (below_step (by repeat (first | (with_reducible first | exact HB.out | apply below_alloc | apply pw_below_drewN | apply below_drew1 | refine below_set ?_ GE329.out) | exact HB.out)) hb); clear BK329; clear HB; have BK329 := n0_; have HB := n1_; clear n0_ n1_; (try clear hb); (try clear hb2); (try clear hk); (try clear hi); have hcz8_0 : w7.cell? ⟨gb329, 0, none⟩ = some (.string a0_0) := (blk_cell BK329.out 0).trans rfl; have hcz8_1 : w7.cell? ⟨gb329, 1, none⟩ = some (.slice A0_1 l0_1.length c0_1) := (blk_cell BK329.out 1).trans rfl; have hfz8_0 := blk_frozen BK329.out 0; have hfz8_1 := blk_frozen BK329.out 1))
   go_loopg [4, 5] k (fun kq v4 v5 w' => ∃ (x4_1 : ByteArray) (x5_1 : Int), v4 = .string x4_1 ∧ v5 = .int .i64 x5_1 ∧ Aside0 (culetref44_Print.l0 kq x4_1 x5_1 a0_0 l0_1 = some (r1, r2)) ∧ Aside0 (kq ≤ k) ∧ Aside0 (w'.heap[gb329]? = some (.cells #[.string a0_0, (.slice A0_1 l0_1.length c0_1)] 24 (0, 0))) ∧ Aside0 (Below w.heap.size w w'))
   case atStart => exact ⟨(a0_0 ++ (⟨#[58]⟩ : ByteArray)), (0), (by first | rfl | (simp; done) | (simp [*]; done)), (by first | rfl | (simp; done) | (simp [*]; done)), H', ⟨Nat.le_refl _⟩, ⟨by (with_reducible repeat (first | refine blk_drewN ?_ _ | refine blk_drew ?_ | refine blk_alloc ?_ _)); exact BK329.out⟩, ⟨by repeat (first | (with_reducible first | exact HB.out | apply below_alloc | apply pw_below_drewN | apply below_drew1 | refine below_set ?_ GE329.out) | exact HB.out)⟩⟩
   case round =>
    clear H'
    try clear c1
    try clear c2
    try clear p2
    try clear c3
    try clear c4
    try clear c4b0
    try clear c4b1
    try clear c4b2
    try clear hcz6_0
    try clear hcz6_1
    try clear hcz8_0
    try clear hcz8_1
    try clear hfz6_0
    try clear hfz6_1
    try clear hfz8_0
    try clear hfz8_1
    obtain ⟨x4_1, x5_1, rfl, rfl, HA, HK1, BK329, HB⟩ := hrel
    cases gk with
    | zero => exact absurd HA.out (by simp [culetref44_Print.l0])
    | succ k1 =>
     have H := HA.out
     clear HA
     simp only [culetref44_Print.l0] at H
     by_cases c9 : x5_1 < (l0_1.length : Int)
     ·
      rw [if_pos c9] at H
      have c9b0 : decide (x5_1 < (l0_1.length : Int)) = true := decide_eq_true c9
      clear c9
      by_cases c10 : x5_1 > 0
      ·
       rw [if_pos c10] at H
       have c10b0 : decide (0 < x5_1) = true := decide_eq_true c10
       clear c10
       by_cases c11 : x4_1.size + 1 ≤ 9223372036854775807
       ·
        rw [if_pos c11] at H
        have c11b0 := eq_true c11
        have c11b1 : decide (x4_1.size + 1 ≤ 9223372036854775807) = true := decide_eq_true c11
        try have c11b2 : (9223372036854775807 < x4_1.size + 1) = False := eq_false (Nat.not_lt.2 c11)
        by_cases c12 : 0 ≤ x5_1
        ·
         rw [if_pos c12] at H
         have c12b0 : decide (0 ≤ x5_1) = true := decide_eq_true c12
         clear c12
         replace H := Option.bind_eq_some_iff.mp H
         obtain ⟨t332, A130, H⟩ := H
         replace H : (if 1 + t332.size ≤ 9223372036854775807 then (if ((⟨#[32]⟩ : ByteArray) ++ t332).size + 1 ≤ 9223372036854775807 then ((culetref44_Itoa.f k1 ((rd_T42 l0_1 x5_1).f1)).bind fun t334 => (if (((⟨#[32]⟩ : ByteArray) ++ t332) ++ (⟨#[64]⟩ : ByteArray)).size + t334.size ≤ 9223372036854775807 then (if (x4_1 ++ (⟨#[44]⟩ : ByteArray)).size + ((((⟨#[32]⟩ : ByteArray) ++ t332) ++ (⟨#[64]⟩ : ByteArray)) ++ t334).size ≤ 9223372036854775807 then (culetref44_Print.l0 k1 ((x4_1 ++ (⟨#[44]⟩ : ByteArray)) ++ ((((⟨#[32]⟩ : ByteArray) ++ t332) ++ (⟨#[64]⟩ : ByteArray)) ++ t334)) (wrap64 (x5_1 + 1)) a0_0 l0_1) else (none)) else (none))) else (none)) else (none)) = some (r1, r2) := H
         have A13 := Aside0.mk A130
         clear A130
         by_cases c14 : 1 + t332.size ≤ 9223372036854775807
         ·
          rw [if_pos c14] at H
          have c14b0 := eq_true c14
          have c14b1 : decide (1 + t332.size ≤ 9223372036854775807) = true := decide_eq_true c14
          try have c14b2 : (9223372036854775807 < 1 + t332.size) = False := eq_false (Nat.not_lt.2 c14)
          by_cases c15 : ((⟨#[32]⟩ : ByteArray) ++ t332).size + 1 ≤ 9223372036854775807
          ·
           rw [if_pos c15] at H
           have c15b0 := eq_true c15
           have c15b1 : decide (((⟨#[32]⟩ : ByteArray) ++ t332).size + 1 ≤ 9223372036854775807) = true := decide_eq_true c15
           try have c15b2 : (9223372036854775807 < ((⟨#[32]⟩ : ByteArray) ++ t332).size + 1) = False := eq_false (Nat.not_lt.2 c15)
           try have c15b3 := c15b2
           try simp only [ByteArray.size_append, show (⟨#[32]⟩ : ByteArray).size = 1 from rfl] at c15b3
           replace H := Option.bind_eq_some_iff.mp H
           obtain ⟨t334, A160, H⟩ := H
           replace H : (if (((⟨#[32]⟩ : ByteArray) ++ t332) ++ (⟨#[64]⟩ : ByteArray)).size + t334.size ≤ 9223372036854775807 then (if (x4_1 ++ (⟨#[44]⟩ : ByteArray)).size + ((((⟨#[32]⟩ : ByteArray) ++ t332) ++ (⟨#[64]⟩ : ByteArray)) ++ t334).size ≤ 9223372036854775807 then (culetref44_Print.l0 k1 ((x4_1 ++ (⟨#[44]⟩ : ByteArray)) ++ ((((⟨#[32]⟩ : ByteArray) ++ t332) ++ (⟨#[64]⟩ : ByteArray)) ++ t334)) (wrap64 (x5_1 + 1)) a0_0 l0_1) else (none)) else (none)) = some (r1, r2) := H
           have A16 := Aside0.mk A160
           clear A160
           by_cases c17 : (((⟨#[32]⟩ : ByteArray) ++ t332) ++ (⟨#[64]⟩ : ByteArray)).size + t334.size ≤ 9223372036854775807
           ·
            rw [if_pos c17] at H
            have c17b0 := eq_true c17
            have c17b1 : decide ((((⟨#[32]⟩ : ByteArray) ++ t332) ++ (⟨#[64]⟩ : ByteArray)).size + t334.size ≤ 9223372036854775807) = true := decide_eq_true c17
            try have c17b2 : (9223372036854775807 < (((⟨#[32]⟩ : ByteArray) ++ t332) ++ (⟨#[64]⟩ : ByteArray)).size + t334.size) = False := eq_false (Nat.not_lt.2 c17)
            try have c17b3 := c17b2
            try simp only [ByteArray.size_append, show (⟨#[32]⟩ : ByteArray).size = 1 from rfl, show (⟨#[64]⟩ : ByteArray).size = 1 from rfl] at c17b3
            by_cases c18 : (x4_1 ++ (⟨#[44]⟩ : ByteArray)).size + ((((⟨#[32]⟩ : ByteArray) ++ t332) ++ (⟨#[64]⟩ : ByteArray)) ++ t334).size ≤ 9223372036854775807
            ·
             rw [if_pos c18] at H
             have c18b0 := eq_true c18
             have c18b1 : decide ((x4_1 ++ (⟨#[44]⟩ : ByteArray)).size + ((((⟨#[32]⟩ : ByteArray) ++ t332) ++ (⟨#[64]⟩ : ByteArray)) ++ t334).size ≤ 9223372036854775807) = true := decide_eq_true c18
             try have c18b2 : (9223372036854775807 < (x4_1 ++ (⟨#[44]⟩ : ByteArray)).size + ((((⟨#[32]⟩ : ByteArray) ++ t332) ++ (⟨#[64]⟩ : ByteArray)) ++ t334).size) = False := eq_false (Nat.not_lt.2 c18)
             try have c18b3 := c18b2
             try simp only [ByteArray.size_append, show (⟨#[32]⟩ : ByteArray).size = 1 from rfl, show (⟨#[44]⟩ : ByteArray).size = 1 from rfl, show (⟨#[64]⟩ : ByteArray).size = 1 from rfl] at c18b3
             have H' := Aside0.mk H
             clear H
             have hcz19_0 : wr.cell? ⟨gb329, 0, none⟩ = some (.string a0_0) := (blk_cell BK329.out 0).trans rfl
             have hcz19_1 : wr.cell? ⟨gb329, 1, none⟩ = some (.slice A0_1 l0_1.length c0_1) := (blk_cell BK329.out 1).trans rfl
             have hfz19_0 := blk_frozen BK329.out 0
             have hfz19_1 := blk_frozen BK329.out 1
             try go_wp2
             have n0_ := Aside0.mk (blk_drew BK329.out)
             have n1_ := Aside0.mk (below_drew1 HB.out)
             clear BK329
             clear HB
             have BK329 := n0_
             have HB := n1_
             clear n0_ n1_
             have p331 : 0 ≤ (x5_1 : Int) := of_decide_eq_true (by first | (with_reducible assumption) | assumption)
             have q331 : x5_1 < (l0_1.length : Int) := of_decide_eq_true (by first | (with_reducible assumption) | assumption)
             obtain ⟨ad331, e331, hx331_0, hx331_1⟩ := at_T42 HR0_1.out x5_1 p331 q331
             have hw331_1 := hx331_1
             have hw331_0 := hx331_0
             cases e331
             replace hx331_0 := (HB.out.cell (World.block_lt_of_cell? w _ hx331_0)).trans hx331_0
             replace hx331_1 := (HB.out.cell (World.block_lt_of_cell? w _ hx331_1)).trans hx331_1
             replace p331 := eq_true p331
             replace q331 := eq_true q331
             have p333 : 0 ≤ (x5_1 : Int) := of_decide_eq_true (by first | (with_reducible assumption) | assumption)
             have q333 : x5_1 < (l0_1.length : Int) := of_decide_eq_true (by first | (with_reducible assumption) | assumption)
             obtain ⟨ad333, e333, hx333_0, hx333_1⟩ := at_T42 HR0_1.out x5_1 p333 q333
             have hw333_1 := hx333_1
             have hw333_0 := hx333_0
             obtain rfl : ad331 = ad333 := (by injection e333)
             replace hx333_0 := (HB.out.cell (World.block_lt_of_cell? w _ hx333_0)).trans hx333_0
             replace hx333_1 := (HB.out.cell (World.block_lt_of_cell? w _ hx333_1)).trans hx333_1
             replace p333 := eq_true p333
             replace q333 := eq_true q333
             refine start_ (n := 20) (S := fun w' => w'.cell? ⟨gb329, 0, none⟩ = some (.string a0_0) ∧ w'.cell? ⟨gb329, 1, none⟩ = some (.slice (some ad331) l0_1.length c0_1) ∧ w'.cell? (ad331.add ((x5_1).toNat * 2)) = some (.int .i64 ((rd_T42 l0_1 x5_1).f0)) ∧ w'.cell? ⟨(ad331.add ((x5_1).toNat * 2)).block, (ad331.add ((x5_1).toNat * 2)).off + 1, none⟩ = some (.int .i64 ((rd_T42 l0_1 x5_1).f1)) ∧ w'.cell? (ad331.add ((x5_1).toNat * 2)) = some (.int .i64 ((rd_T42 l0_1 x5_1).f0)) ∧ w'.cell? ⟨(ad331.add ((x5_1).toNat * 2)).block, (ad331.add ((x5_1).toNat * 2)).off + 1, none⟩ = some (.int .i64 ((rd_T42 l0_1 x5_1).f1))) (ds := []) #[false, false, false, false, false, false, false, false, false, false, false, false, false, false, false, false, false, false, false, false] (by kernel_rfl) rfl rfl ⟨(blk_cell BK329.out 0).trans rfl, (blk_cell BK329.out 1).trans rfl, ((HB.out.cell (World.block_lt_of_cell? w _ hw331_0)).trans hw331_0), ((HB.out.cell (World.block_lt_of_cell? w _ hw331_1)).trans hw331_1), ((HB.out.cell (World.block_lt_of_cell? w _ hw333_0)).trans hw333_0), ((HB.out.cell (World.block_lt_of_cell? w _ hw333_1)).trans hw333_1)⟩ (fun hHeld => ?_); refine with_tabW culetref44_Print.tab9 culetref44_Print.bits9 (fun HT_ HW_ => ?_)
             generalize wr.drew = w20 at BK329 HB hx331_0 hx331_1 hx333_0 hx333_1 hHeld ⊢
             refine pure_ (i := 0) (N := some 23) (v := ?_) (a' := ?_) #[true, false, false, false, false, false, false, false, false, false, false, false, false, false, false, false, false, false, false, false] rfl rfl (any_of HT_.out (by kernel_rfl)) (fun _ _ _ h => h) (Or.inl ⟨by rfl, ?_⟩) ?_ ?_
             rotate_left
             ·
              intro w'
              go_simp
              with_reducible rfl
             rotate_left
             ·
              simp only [Act.put, List.setIfInBounds_toArray, List.set_cons_zero, List.set_cons_succ, i64_w, i32_w]
              rfl
             refine pure_ (i := 1) (N := some 24) (v := ?_) (a' := ?_) #[true, true, false, false, false, false, false, false, false, false, false, false, false, false, false, false, false, false, false, false] rfl rfl (any_of HT_.out (by kernel_rfl)) (fun _ _ _ h => h) (Or.inl ⟨by rfl, ?_⟩) ?_ ?_
             rotate_left
             ·
              intro w'
              go_simp
              with_reducible rfl
             rotate_left
             ·
              simp only [Act.put, List.setIfInBounds_toArray, List.set_cons_zero, List.set_cons_succ, i64_w, i32_w]
              rfl
             refine pure_ (i := 3) (N := some 26) (v := ?_) (a' := ?_) #[true, true, false, true, false, false, false, false, false, false, false, false, false, false, false, false, false, false, false, false] rfl rfl (any_of HT_.out (by kernel_rfl)) (fun _ _ _ h => h) (Or.inl ⟨by rfl, ?_⟩) ?_ ?_
             rotate_left
             ·
              intro w'
              go_simp
              with_reducible rfl
             rotate_left
             ·
              simp only [Act.put, List.setIfInBounds_toArray, List.set_cons_zero, List.set_cons_succ, i64_w, i32_w]
              rfl
             refine pure_ (i := 10) (N := some 33) (v := ?_) (a' := ?_) #[true, true, false, true, false, false, false, false, false, false, true, false, false, false, false, false, false, false, false, false] rfl rfl (any_of HT_.out (by kernel_rfl)) (fun _ _ _ h => h) (Or.inl ⟨by rfl, ?_⟩) ?_ ?_
             rotate_left
             ·
              intro w'
              go_simp
              with_reducible rfl
             rotate_left
             ·
              simp only [Act.put, List.setIfInBounds_toArray, List.set_cons_zero, List.set_cons_succ, i64_w, i32_w]
              rfl
             refine pure_ (i := 12) (N := some 35) (v := ?_) (a' := ?_) #[true, true, false, true, false, false, false, false, false, false, true, false, true, false, false, false, false, false, false, false] rfl rfl (any_of HT_.out (by kernel_rfl)) (fun _ _ _ h => h) (Or.inl ⟨by rfl, ?_⟩) ?_ ?_
             rotate_left
             ·
              intro w'
              go_simp
              with_reducible rfl
             rotate_left
             ·
              simp only [Act.put, List.setIfInBounds_toArray, List.set_cons_zero, List.set_cons_succ, i64_w, i32_w]
              rfl
             refine take_ (i := 2) (N := some 25) (v := ?_) (a' := ?_) #[true, true, true, true, false, false, false, false, false, false, true, false, true, false, false, false, false, false, false, false] rfl rfl (take_ofW HT_.out HW_.out (by kernel_rfl)) (fun _ _ _ h => h) (Or.inl ⟨by rfl, ?_⟩) hHeld ?_ ?_
             rotate_left
             ·
              rintro w' ⟨s0, s1, s2, s3, s4, s5⟩
              go_simp
              with_reducible rfl
             rotate_left
             ·
              simp only [Act.put, List.setIfInBounds_toArray, List.set_cons_zero, List.set_cons_succ, i64_w, i32_w]
              rfl
             refine pure_ (i := 4) (N := some 27) (v := ?_) (a' := ?_) #[true, true, true, true, true, false, false, false, false, false, true, false, true, false, false, false, false, false, false, false] rfl rfl (any_of HT_.out (by kernel_rfl)) (fun _ _ _ h => h) (Or.inl ⟨by rfl, ?_⟩) ?_ ?_
             rotate_left
             ·
              intro w'
              go_simp
              with_reducible rfl
             rotate_left
             ·
              simp only [Act.put, List.setIfInBounds_toArray, List.set_cons_zero, List.set_cons_succ, i64_w, i32_w]
              rfl
             refine pure_ (i := 5) (N := some 28) (v := ?_) (a' := ?_) #[true, true, true, true, true, true, false, false, false, false, true, false, true, false, false, false, false, false, false, false] rfl rfl (any_of HT_.out (by kernel_rfl)) (fun _ _ _ h => h) (Or.inl ⟨by rfl, ?_⟩) ?_ ?_
             rotate_left
             ·
              intro w'
              go_simp
              with_reducible rfl
             rotate_left
             ·
              simp only [Act.put, List.setIfInBounds_toArray, List.set_cons_zero, List.set_cons_succ, i64_w, i32_w]
              rfl
             refine take_ (i := 6) (N := some 29) (v := ?_) (a' := ?_) #[true, true, true, true, true, true, true, false, false, false, true, false, true, false, false, false, false, false, false, false] rfl rfl (take_ofW HT_.out HW_.out (by kernel_rfl)) (fun _ _ _ h => h) (Or.inl ⟨by rfl, ?_⟩) hHeld ?_ ?_
             rotate_left
             ·
              rintro w' ⟨s0, s1, s2, s3, s4, s5⟩
              go_simp
              with_reducible rfl
             rotate_left
             ·
              simp only [Act.put, List.setIfInBounds_toArray, List.set_cons_zero, List.set_cons_succ, i64_w, i32_w]
              rfl
             refine take_ (i := 11) (N := some 34) (v := ?_) (a' := ?_) #[true, true, true, true, true, true, true, false, false, false, true, true, true, false, false, false, false, false, false, false] rfl rfl (take_ofW HT_.out HW_.out (by kernel_rfl)) (fun _ _ _ h => h) (Or.inl ⟨by rfl, ?_⟩) hHeld ?_ ?_
             rotate_left
             ·
              rintro w' ⟨s0, s1, s2, s3, s4, s5⟩
              go_simp
              with_reducible rfl
             rotate_left
             ·
              simp only [Act.put, List.setIfInBounds_toArray, List.set_cons_zero, List.set_cons_succ, i64_w, i32_w]
              rfl
             refine pure_ (i := 13) (N := some 36) (v := ?_) (a' := ?_) #[true, true, true, true, true, true, true, false, false, false, true, true, true, true, false, false, false, false, false, false] rfl rfl (any_of HT_.out (by kernel_rfl)) (fun _ _ _ h => h) (Or.inl ⟨by rfl, ?_⟩) ?_ ?_
             rotate_left
             ·
              intro w'
              go_simp
              with_reducible rfl
             rotate_left
             ·
              simp only [Act.put, List.setIfInBounds_toArray, List.set_cons_zero, List.set_cons_succ, i64_w, i32_w]
              rfl
             refine pure_ (i := 14) (N := some 37) (v := ?_) (a' := ?_) #[true, true, true, true, true, true, true, false, false, false, true, true, true, true, true, false, false, false, false, false] rfl rfl (any_of HT_.out (by kernel_rfl)) (fun _ _ _ h => h) (Or.inl ⟨by rfl, ?_⟩) ?_ ?_
             rotate_left
             ·
              intro w'
              go_simp
              with_reducible rfl
             rotate_left
             ·
              simp only [Act.put, List.setIfInBounds_toArray, List.set_cons_zero, List.set_cons_succ, i64_w, i32_w]
              rfl
             refine take_ (i := 15) (N := some 38) (v := ?_) (a' := ?_) #[true, true, true, true, true, true, true, false, false, false, true, true, true, true, true, true, false, false, false, false] rfl rfl (take_ofW HT_.out HW_.out (by kernel_rfl)) (fun _ _ _ h => h) (Or.inl ⟨by rfl, ?_⟩) hHeld ?_ ?_
             rotate_left
             ·
              rintro w' ⟨s0, s1, s2, s3, s4, s5⟩
              go_simp
              with_reducible rfl
             rotate_left
             ·
              simp only [Act.put, List.setIfInBounds_toArray, List.set_cons_zero, List.set_cons_succ, i64_w, i32_w]
              rfl
             refine one_ (i := 7) (N := some 30) #[true, true, true, true, true, true, true, true, false, false, true, true, true, true, true, true, false, false, false, false] rfl rfl (one_of HT_.out (by kernel_rfl)) (by decide) (fun K hK => ?_)
             refine goes_ Tryd.func42 (by kernel_rfl) rfl #[.int .i64 ((rd_T42 l0_1 x5_1).f0)] (by rfl) rfl rfl (by (try simp only [List.map_toArray, List.map_cons, List.map_nil]); first | done | rfl | (simp only [List.length_drop, List.length_take]; rfl)) ?_
             with_reducible refine (culetref44_Itoa.calls k1 ((rd_T42 l0_1 x5_1).f0) t332 _ A13.out).mono ?_
             rintro e w21 ⟨rfl, hb⟩
             refine ⟨_, rfl, ?_⟩
             have n0_ := Aside0.mk (blk_below (g := gb329) (o := .cells #[.string a0_0, .slice (some ad331) l0_1.length c0_1] 24 (0, 0)) (by (with_reducible repeat (first | refine blk_drewN ?_ _ | refine blk_drew ?_ | refine blk_alloc ?_ _)); exact BK329.out) hb)
             have n1_ := Aside0.mk (below_step (by repeat (first | (with_reducible first | exact HB.out | apply below_alloc | apply pw_below_drewN | apply below_drew1 | refine below_set ?_ GE329.out) | exact HB.out)) hb)
             clear BK329
             clear HB
             have BK329 := n0_
             have HB := n1_
             clear n0_ n1_
             (try clear hb)
             (try clear hb2)
             (try clear hk)
             (try clear hi)
             refine hK.out _ _ ⟨(blk_cell BK329.out 0).trans rfl, (blk_cell BK329.out 1).trans rfl, ((HB.out.cell (World.block_lt_of_cell? w _ hw331_0)).trans hw331_0), ((HB.out.cell (World.block_lt_of_cell? w _ hw331_1)).trans hw331_1), ((HB.out.cell (World.block_lt_of_cell? w _ hw333_0)).trans hw333_0), ((HB.out.cell (World.block_lt_of_cell? w _ hw333_1)).trans hw333_1)⟩ (fun hHeld => ?_)
             clear hK K
             refine norm_ (a' := ?_) ?_ ?_
             rotate_left
             ·
              show Act.put _ (some 30) _ = _
              simp only [Act.put, List.setIfInBounds_toArray, List.set_cons_zero, List.set_cons_succ, i64_w, i32_w]
              rfl
             refine pure_ (i := 8) (N := some 31) (v := ?_) (a' := ?_) #[true, true, true, true, true, true, true, true, true, false, true, true, true, true, true, true, false, false, false, false] rfl rfl (any_of HT_.out (by kernel_rfl)) (fun _ _ _ h => h) (Or.inl ⟨by rfl, ?_⟩) ?_ ?_
             rotate_left
             ·
              intro w'
              go_simp
              with_reducible rfl
             rotate_left
             ·
              simp only [Act.put, List.setIfInBounds_toArray, List.set_cons_zero, List.set_cons_succ, i64_w, i32_w]
              rfl
             refine pure_ (i := 9) (N := some 32) (v := ?_) (a' := ?_) #[true, true, true, true, true, true, true, true, true, true, true, true, true, true, true, true, false, false, false, false] rfl rfl (any_of HT_.out (by kernel_rfl)) (fun _ _ _ h => h) (Or.inl ⟨by rfl, ?_⟩) ?_ ?_
             rotate_left
             ·
              intro w'
              go_simp
              with_reducible rfl
             rotate_left
             ·
              simp only [Act.put, List.setIfInBounds_toArray, List.set_cons_zero, List.set_cons_succ, i64_w, i32_w]
              rfl
             refine one_ (i := 16) (N := some 39) #[true, true, true, true, true, true, true, true, true, true, true, true, true, true, true, true, true, false, false, false] rfl rfl (one_of HT_.out (by kernel_rfl)) (by decide) (fun K hK => ?_)
             refine goes_ Tryd.func42 (by kernel_rfl) rfl #[.int .i64 ((rd_T42 l0_1 x5_1).f1)] (by rfl) rfl rfl (by (try simp only [List.map_toArray, List.map_cons, List.map_nil]); first | done | rfl | (simp only [List.length_drop, List.length_take]; rfl)) ?_
             with_reducible refine (culetref44_Itoa.calls k1 ((rd_T42 l0_1 x5_1).f1) t334 _ A16.out).mono ?_
             rintro e w22 ⟨rfl, hb⟩
             refine ⟨_, rfl, ?_⟩
             have n0_ := Aside0.mk (blk_below (g := gb329) (o := .cells #[.string a0_0, .slice (some ad331) l0_1.length c0_1] 24 (0, 0)) (by (with_reducible repeat (first | refine blk_drewN ?_ _ | refine blk_drew ?_ | refine blk_alloc ?_ _)); exact BK329.out) hb)
             have n1_ := Aside0.mk (below_step (by repeat (first | (with_reducible first | exact HB.out | apply below_alloc | apply pw_below_drewN | apply below_drew1 | refine below_set ?_ GE329.out) | exact HB.out)) hb)
             clear BK329
             clear HB
             have BK329 := n0_
             have HB := n1_
             clear n0_ n1_
             (try clear hb)
             (try clear hb2)
             (try clear hk)
             (try clear hi)
             refine hK.out _ _ ⟨(blk_cell BK329.out 0).trans rfl, (blk_cell BK329.out 1).trans rfl, ((HB.out.cell (World.block_lt_of_cell? w _ hw331_0)).trans hw331_0), ((HB.out.cell (World.block_lt_of_cell? w _ hw331_1)).trans hw331_1), ((HB.out.cell (World.block_lt_of_cell? w _ hw333_0)).trans hw333_0), ((HB.out.cell (World.block_lt_of_cell? w _ hw333_1)).trans hw333_1)⟩ (fun hHeld => ?_)
             clear hK K
             refine norm_ (a' := ?_) ?_ ?_
             rotate_left
             ·
              show Act.put _ (some 39) _ = _
              simp only [Act.put, List.setIfInBounds_toArray, List.set_cons_zero, List.set_cons_succ, i64_w, i32_w]
              rfl
             refine pure_ (i := 17) (N := some 40) (v := ?_) (a' := ?_) #[true, true, true, true, true, true, true, true, true, true, true, true, true, true, true, true, true, true, false, false] rfl rfl (any_of HT_.out (by kernel_rfl)) (fun _ _ _ h => h) (Or.inl ⟨by rfl, ?_⟩) ?_ ?_
             rotate_left
             ·
              intro w'
              go_simp
              with_reducible rfl
             rotate_left
             ·
              simp only [Act.put, List.setIfInBounds_toArray, List.set_cons_zero, List.set_cons_succ, i64_w, i32_w]
              rfl
             refine pure_ (i := 18) (N := some 41) (v := ?_) (a' := ?_) #[true, true, true, true, true, true, true, true, true, true, true, true, true, true, true, true, true, true, true, false] rfl rfl (any_of HT_.out (by kernel_rfl)) (fun _ _ _ h => h) (Or.inl ⟨by rfl, ?_⟩) ?_ ?_
             rotate_left
             ·
              intro w'
              go_simp
              with_reducible rfl
             rotate_left
             ·
              simp only [Act.put, List.setIfInBounds_toArray, List.set_cons_zero, List.set_cons_succ, i64_w, i32_w]
              rfl
             refine pure_ (i := 19) (N := some 4) (v := ?_) (a' := ?_) #[true, true, true, true, true, true, true, true, true, true, true, true, true, true, true, true, true, true, true, true] rfl rfl (any_of HT_.out (by kernel_rfl)) (fun _ _ _ h => h) (Or.inl ⟨by rfl, ?_⟩) ?_ ?_
             rotate_left
             ·
              intro w'
              go_simp
              with_reducible rfl
             rotate_left
             ·
              simp only [Act.put, List.setIfInBounds_toArray, List.set_cons_zero, List.set_cons_succ, i64_w, i32_w]
              rfl
             refine done_ (done_of HT_.out (by kernel_rfl)) ?_
             try go_wp2
             go_roundg k1
             case measure => have := HK1.out; omega
             case rel => exact ⟨((x4_1 ++ (⟨#[44]⟩ : ByteArray)) ++ ((((⟨#[32]⟩ : ByteArray) ++ t332) ++ (⟨#[64]⟩ : ByteArray)) ++ t334)), (wrap64 (x5_1 + 1)), (by first | rfl | (simp; done) | (simp [*]; done)), (by first | rfl | (simp; done) | (simp [*]; done)), H', ⟨by have := HK1.out; omega⟩, ⟨by (with_reducible repeat (first | refine blk_drewN ?_ _ | refine blk_drew ?_ | refine blk_alloc ?_ _)); exact BK329.out⟩, ⟨by repeat (first | (with_reducible first | exact HB.out | apply below_alloc | apply pw_below_drewN | apply below_drew1 | refine below_set ?_ GE329.out) | exact HB.out)⟩⟩
            ·
             rw [if_neg c18] at H
             exact absurd H (by simp)
           ·
            rw [if_neg c17] at H
            exact absurd H (by simp)
          ·
           rw [if_neg c15] at H
           exact absurd H (by simp)
         ·
          rw [if_neg c14] at H
          exact absurd H (by simp)
        ·
         rw [if_neg c12] at H
         exact absurd H (by simp)
       ·
        rw [if_neg c11] at H
        exact absurd H (by simp)
      ·
       rw [if_neg c10] at H
       have c10b0 : decide (0 < x5_1) = false := decide_eq_false c10
       clear c10
       by_cases c23 : 0 ≤ x5_1
       ·
        rw [if_pos c23] at H
        have c23b0 : decide (0 ≤ x5_1) = true := decide_eq_true c23
        clear c23
        replace H := Option.bind_eq_some_iff.mp H
        obtain ⟨t336, A240, H⟩ := H
        replace H : (if 1 + t336.size ≤ 9223372036854775807 then (if ((⟨#[32]⟩ : ByteArray) ++ t336).size + 1 ≤ 9223372036854775807 then ((culetref44_Itoa.f k1 ((rd_T42 l0_1 x5_1).f1)).bind fun t338 => (if (((⟨#[32]⟩ : ByteArray) ++ t336) ++ (⟨#[64]⟩ : ByteArray)).size + t338.size ≤ 9223372036854775807 then (if x4_1.size + ((((⟨#[32]⟩ : ByteArray) ++ t336) ++ (⟨#[64]⟩ : ByteArray)) ++ t338).size ≤ 9223372036854775807 then (culetref44_Print.l0 k1 (x4_1 ++ ((((⟨#[32]⟩ : ByteArray) ++ t336) ++ (⟨#[64]⟩ : ByteArray)) ++ t338)) (wrap64 (x5_1 + 1)) a0_0 l0_1) else (none)) else (none))) else (none)) else (none)) = some (r1, r2) := H
        have A24 := Aside0.mk A240
        clear A240
        by_cases c25 : 1 + t336.size ≤ 9223372036854775807
        ·
         rw [if_pos c25] at H
         have c25b0 := eq_true c25
         have c25b1 : decide (1 + t336.size ≤ 9223372036854775807) = true := decide_eq_true c25
         try have c25b2 : (9223372036854775807 < 1 + t336.size) = False := eq_false (Nat.not_lt.2 c25)
         by_cases c26 : ((⟨#[32]⟩ : ByteArray) ++ t336).size + 1 ≤ 9223372036854775807
         ·
          rw [if_pos c26] at H
          have c26b0 := eq_true c26
          have c26b1 : decide (((⟨#[32]⟩ : ByteArray) ++ t336).size + 1 ≤ 9223372036854775807) = true := decide_eq_true c26
          try have c26b2 : (9223372036854775807 < ((⟨#[32]⟩ : ByteArray) ++ t336).size + 1) = False := eq_false (Nat.not_lt.2 c26)
          try have c26b3 := c26b2
          try simp only [ByteArray.size_append, show (⟨#[32]⟩ : ByteArray).size = 1 from rfl] at c26b3
          replace H := Option.bind_eq_some_iff.mp H
          obtain ⟨t338, A270, H⟩ := H
          replace H : (if (((⟨#[32]⟩ : ByteArray) ++ t336) ++ (⟨#[64]⟩ : ByteArray)).size + t338.size ≤ 9223372036854775807 then (if x4_1.size + ((((⟨#[32]⟩ : ByteArray) ++ t336) ++ (⟨#[64]⟩ : ByteArray)) ++ t338).size ≤ 9223372036854775807 then (culetref44_Print.l0 k1 (x4_1 ++ ((((⟨#[32]⟩ : ByteArray) ++ t336) ++ (⟨#[64]⟩ : ByteArray)) ++ t338)) (wrap64 (x5_1 + 1)) a0_0 l0_1) else (none)) else (none)) = some (r1, r2) := H
          have A27 := Aside0.mk A270
          clear A270
          by_cases c28 : (((⟨#[32]⟩ : ByteArray) ++ t336) ++ (⟨#[64]⟩ : ByteArray)).size + t338.size ≤ 9223372036854775807
          ·
           rw [if_pos c28] at H
           have c28b0 := eq_true c28
           have c28b1 : decide ((((⟨#[32]⟩ : ByteArray) ++ t336) ++ (⟨#[64]⟩ : ByteArray)).size + t338.size ≤ 9223372036854775807) = true := decide_eq_true c28
           try have c28b2 : (9223372036854775807 < (((⟨#[32]⟩ : ByteArray) ++ t336) ++ (⟨#[64]⟩ : ByteArray)).size + t338.size) = False := eq_false (Nat.not_lt.2 c28)
           try have c28b3 := c28b2
           try simp only [ByteArray.size_append, show (⟨#[32]⟩ : ByteArray).size = 1 from rfl, show (⟨#[64]⟩ : ByteArray).size = 1 from rfl] at c28b3
           by_cases c29 : x4_1.size + ((((⟨#[32]⟩ : ByteArray) ++ t336) ++ (⟨#[64]⟩ : ByteArray)) ++ t338).size ≤ 9223372036854775807
           ·
            rw [if_pos c29] at H
            have c29b0 := eq_true c29
            have c29b1 : decide (x4_1.size + ((((⟨#[32]⟩ : ByteArray) ++ t336) ++ (⟨#[64]⟩ : ByteArray)) ++ t338).size ≤ 9223372036854775807) = true := decide_eq_true c29
            try have c29b2 : (9223372036854775807 < x4_1.size + ((((⟨#[32]⟩ : ByteArray) ++ t336) ++ (⟨#[64]⟩ : ByteArray)) ++ t338).size) = False := eq_false (Nat.not_lt.2 c29)
            try have c29b3 := c29b2
            try simp only [ByteArray.size_append, show (⟨#[32]⟩ : ByteArray).size = 1 from rfl, show (⟨#[64]⟩ : ByteArray).size = 1 from rfl] at c29b3
            have H' := Aside0.mk H
            clear H
            have hcz30_0 : wr.cell? ⟨gb329, 0, none⟩ = some (.string a0_0) := (blk_cell BK329.out 0).trans rfl
            have hcz30_1 : wr.cell? ⟨gb329, 1, none⟩ = some (.slice A0_1 l0_1.length c0_1) := (blk_cell BK329.out 1).trans rfl
            have hfz30_0 := blk_frozen BK329.out 0
            have hfz30_1 := blk_frozen BK329.out 1
            try go_wp2
            have n0_ := Aside0.mk (blk_drew BK329.out)
            have n1_ := Aside0.mk (below_drew1 HB.out)
            clear BK329
            clear HB
            have BK329 := n0_
            have HB := n1_
            clear n0_ n1_
            have p335 : 0 ≤ (x5_1 : Int) := of_decide_eq_true (by first | (with_reducible assumption) | assumption)
            have q335 : x5_1 < (l0_1.length : Int) := of_decide_eq_true (by first | (with_reducible assumption) | assumption)
            obtain ⟨ad335, e335, hx335_0, hx335_1⟩ := at_T42 HR0_1.out x5_1 p335 q335
            have hw335_1 := hx335_1
            have hw335_0 := hx335_0
            cases e335
            replace hx335_0 := (HB.out.cell (World.block_lt_of_cell? w _ hx335_0)).trans hx335_0
            replace hx335_1 := (HB.out.cell (World.block_lt_of_cell? w _ hx335_1)).trans hx335_1
            replace p335 := eq_true p335
            replace q335 := eq_true q335
            have p337 : 0 ≤ (x5_1 : Int) := of_decide_eq_true (by first | (with_reducible assumption) | assumption)
            have q337 : x5_1 < (l0_1.length : Int) := of_decide_eq_true (by first | (with_reducible assumption) | assumption)
            obtain ⟨ad337, e337, hx337_0, hx337_1⟩ := at_T42 HR0_1.out x5_1 p337 q337
            have hw337_1 := hx337_1
            have hw337_0 := hx337_0
            obtain rfl : ad335 = ad337 := (by injection e337)
            replace hx337_0 := (HB.out.cell (World.block_lt_of_cell? w _ hx337_0)).trans hx337_0
            replace hx337_1 := (HB.out.cell (World.block_lt_of_cell? w _ hx337_1)).trans hx337_1
            replace p337 := eq_true p337
            replace q337 := eq_true q337
            refine start_ (n := 20) (S := fun w' => w'.cell? ⟨gb329, 0, none⟩ = some (.string a0_0) ∧ w'.cell? ⟨gb329, 1, none⟩ = some (.slice (some ad335) l0_1.length c0_1) ∧ w'.cell? (ad335.add ((x5_1).toNat * 2)) = some (.int .i64 ((rd_T42 l0_1 x5_1).f0)) ∧ w'.cell? ⟨(ad335.add ((x5_1).toNat * 2)).block, (ad335.add ((x5_1).toNat * 2)).off + 1, none⟩ = some (.int .i64 ((rd_T42 l0_1 x5_1).f1)) ∧ w'.cell? (ad335.add ((x5_1).toNat * 2)) = some (.int .i64 ((rd_T42 l0_1 x5_1).f0)) ∧ w'.cell? ⟨(ad335.add ((x5_1).toNat * 2)).block, (ad335.add ((x5_1).toNat * 2)).off + 1, none⟩ = some (.int .i64 ((rd_T42 l0_1 x5_1).f1))) (ds := []) #[false, false, false, false, false, false, false, false, false, false, false, false, false, false, false, false, false, false, false, false] (by kernel_rfl) rfl rfl ⟨(blk_cell BK329.out 0).trans rfl, (blk_cell BK329.out 1).trans rfl, ((HB.out.cell (World.block_lt_of_cell? w _ hw335_0)).trans hw335_0), ((HB.out.cell (World.block_lt_of_cell? w _ hw335_1)).trans hw335_1), ((HB.out.cell (World.block_lt_of_cell? w _ hw337_0)).trans hw337_0), ((HB.out.cell (World.block_lt_of_cell? w _ hw337_1)).trans hw337_1)⟩ (fun hHeld => ?_); refine with_tabW culetref44_Print.tab9 culetref44_Print.bits9 (fun HT_ HW_ => ?_)
            generalize wr.drew = w31 at BK329 HB hx335_0 hx335_1 hx337_0 hx337_1 hHeld ⊢
            refine pure_ (i := 0) (N := some 23) (v := ?_) (a' := ?_) #[true, false, false, false, false, false, false, false, false, false, false, false, false, false, false, false, false, false, false, false] rfl rfl (any_of HT_.out (by kernel_rfl)) (fun _ _ _ h => h) (Or.inl ⟨by rfl, ?_⟩) ?_ ?_
            rotate_left
            ·
             intro w'
             go_simp
             with_reducible rfl
            rotate_left
            ·
             simp only [Act.put, List.setIfInBounds_toArray, List.set_cons_zero, List.set_cons_succ, i64_w, i32_w]
             rfl
            refine pure_ (i := 1) (N := some 24) (v := ?_) (a' := ?_) #[true, true, false, false, false, false, false, false, false, false, false, false, false, false, false, false, false, false, false, false] rfl rfl (any_of HT_.out (by kernel_rfl)) (fun _ _ _ h => h) (Or.inl ⟨by rfl, ?_⟩) ?_ ?_
            rotate_left
            ·
             intro w'
             go_simp
             with_reducible rfl
            rotate_left
            ·
             simp only [Act.put, List.setIfInBounds_toArray, List.set_cons_zero, List.set_cons_succ, i64_w, i32_w]
             rfl
            refine pure_ (i := 3) (N := some 26) (v := ?_) (a' := ?_) #[true, true, false, true, false, false, false, false, false, false, false, false, false, false, false, false, false, false, false, false] rfl rfl (any_of HT_.out (by kernel_rfl)) (fun _ _ _ h => h) (Or.inl ⟨by rfl, ?_⟩) ?_ ?_
            rotate_left
            ·
             intro w'
             go_simp
             with_reducible rfl
            rotate_left
            ·
             simp only [Act.put, List.setIfInBounds_toArray, List.set_cons_zero, List.set_cons_succ, i64_w, i32_w]
             rfl
            refine pure_ (i := 10) (N := some 33) (v := ?_) (a' := ?_) #[true, true, false, true, false, false, false, false, false, false, true, false, false, false, false, false, false, false, false, false] rfl rfl (any_of HT_.out (by kernel_rfl)) (fun _ _ _ h => h) (Or.inl ⟨by rfl, ?_⟩) ?_ ?_
            rotate_left
            ·
             intro w'
             go_simp
             with_reducible rfl
            rotate_left
            ·
             simp only [Act.put, List.setIfInBounds_toArray, List.set_cons_zero, List.set_cons_succ, i64_w, i32_w]
             rfl
            refine pure_ (i := 12) (N := some 35) (v := ?_) (a' := ?_) #[true, true, false, true, false, false, false, false, false, false, true, false, true, false, false, false, false, false, false, false] rfl rfl (any_of HT_.out (by kernel_rfl)) (fun _ _ _ h => h) (Or.inl ⟨by rfl, ?_⟩) ?_ ?_
            rotate_left
            ·
             intro w'
             go_simp
             with_reducible rfl
            rotate_left
            ·
             simp only [Act.put, List.setIfInBounds_toArray, List.set_cons_zero, List.set_cons_succ, i64_w, i32_w]
             rfl
            refine take_ (i := 2) (N := some 25) (v := ?_) (a' := ?_) #[true, true, true, true, false, false, false, false, false, false, true, false, true, false, false, false, false, false, false, false] rfl rfl (take_ofW HT_.out HW_.out (by kernel_rfl)) (fun _ _ _ h => h) (Or.inl ⟨by rfl, ?_⟩) hHeld ?_ ?_
            rotate_left
            ·
             rintro w' ⟨s0, s1, s2, s3, s4, s5⟩
             go_simp
             with_reducible rfl
            rotate_left
            ·
             simp only [Act.put, List.setIfInBounds_toArray, List.set_cons_zero, List.set_cons_succ, i64_w, i32_w]
             rfl
            refine pure_ (i := 4) (N := some 27) (v := ?_) (a' := ?_) #[true, true, true, true, true, false, false, false, false, false, true, false, true, false, false, false, false, false, false, false] rfl rfl (any_of HT_.out (by kernel_rfl)) (fun _ _ _ h => h) (Or.inl ⟨by rfl, ?_⟩) ?_ ?_
            rotate_left
            ·
             intro w'
             go_simp
             with_reducible rfl
            rotate_left
            ·
             simp only [Act.put, List.setIfInBounds_toArray, List.set_cons_zero, List.set_cons_succ, i64_w, i32_w]
             rfl
            refine pure_ (i := 5) (N := some 28) (v := ?_) (a' := ?_) #[true, true, true, true, true, true, false, false, false, false, true, false, true, false, false, false, false, false, false, false] rfl rfl (any_of HT_.out (by kernel_rfl)) (fun _ _ _ h => h) (Or.inl ⟨by rfl, ?_⟩) ?_ ?_
            rotate_left
            ·
             intro w'
             go_simp
             with_reducible rfl
            rotate_left
            ·
             simp only [Act.put, List.setIfInBounds_toArray, List.set_cons_zero, List.set_cons_succ, i64_w, i32_w]
             rfl
            refine take_ (i := 6) (N := some 29) (v := ?_) (a' := ?_) #[true, true, true, true, true, true, true, false, false, false, true, false, true, false, false, false, false, false, false, false] rfl rfl (take_ofW HT_.out HW_.out (by kernel_rfl)) (fun _ _ _ h => h) (Or.inl ⟨by rfl, ?_⟩) hHeld ?_ ?_
            rotate_left
            ·
             rintro w' ⟨s0, s1, s2, s3, s4, s5⟩
             go_simp
             with_reducible rfl
            rotate_left
            ·
             simp only [Act.put, List.setIfInBounds_toArray, List.set_cons_zero, List.set_cons_succ, i64_w, i32_w]
             rfl
            refine take_ (i := 11) (N := some 34) (v := ?_) (a' := ?_) #[true, true, true, true, true, true, true, false, false, false, true, true, true, false, false, false, false, false, false, false] rfl rfl (take_ofW HT_.out HW_.out (by kernel_rfl)) (fun _ _ _ h => h) (Or.inl ⟨by rfl, ?_⟩) hHeld ?_ ?_
            rotate_left
            ·
             rintro w' ⟨s0, s1, s2, s3, s4, s5⟩
             go_simp
             with_reducible rfl
            rotate_left
            ·
             simp only [Act.put, List.setIfInBounds_toArray, List.set_cons_zero, List.set_cons_succ, i64_w, i32_w]
             rfl
            refine pure_ (i := 13) (N := some 36) (v := ?_) (a' := ?_) #[true, true, true, true, true, true, true, false, false, false, true, true, true, true, false, false, false, false, false, false] rfl rfl (any_of HT_.out (by kernel_rfl)) (fun _ _ _ h => h) (Or.inl ⟨by rfl, ?_⟩) ?_ ?_
            rotate_left
            ·
             intro w'
             go_simp
             with_reducible rfl
            rotate_left
            ·
             simp only [Act.put, List.setIfInBounds_toArray, List.set_cons_zero, List.set_cons_succ, i64_w, i32_w]
             rfl
            refine pure_ (i := 14) (N := some 37) (v := ?_) (a' := ?_) #[true, true, true, true, true, true, true, false, false, false, true, true, true, true, true, false, false, false, false, false] rfl rfl (any_of HT_.out (by kernel_rfl)) (fun _ _ _ h => h) (Or.inl ⟨by rfl, ?_⟩) ?_ ?_
            rotate_left
            ·
             intro w'
             go_simp
             with_reducible rfl
            rotate_left
            ·
             simp only [Act.put, List.setIfInBounds_toArray, List.set_cons_zero, List.set_cons_succ, i64_w, i32_w]
             rfl
            refine take_ (i := 15) (N := some 38) (v := ?_) (a' := ?_) #[true, true, true, true, true, true, true, false, false, false, true, true, true, true, true, true, false, false, false, false] rfl rfl (take_ofW HT_.out HW_.out (by kernel_rfl)) (fun _ _ _ h => h) (Or.inl ⟨by rfl, ?_⟩) hHeld ?_ ?_
            rotate_left
            ·
             rintro w' ⟨s0, s1, s2, s3, s4, s5⟩
             go_simp
             with_reducible rfl
            rotate_left
            ·
             simp only [Act.put, List.setIfInBounds_toArray, List.set_cons_zero, List.set_cons_succ, i64_w, i32_w]
             rfl
            refine one_ (i := 7) (N := some 30) #[true, true, true, true, true, true, true, true, false, false, true, true, true, true, true, true, false, false, false, false] rfl rfl (one_of HT_.out (by kernel_rfl)) (by decide) (fun K hK => ?_)
            refine goes_ Tryd.func42 (by kernel_rfl) rfl #[.int .i64 ((rd_T42 l0_1 x5_1).f0)] (by rfl) rfl rfl (by (try simp only [List.map_toArray, List.map_cons, List.map_nil]); first | done | rfl | (simp only [List.length_drop, List.length_take]; rfl)) ?_
            with_reducible refine (culetref44_Itoa.calls k1 ((rd_T42 l0_1 x5_1).f0) t336 _ A24.out).mono ?_
            rintro e w32 ⟨rfl, hb⟩
            refine ⟨_, rfl, ?_⟩
            have n0_ := Aside0.mk (blk_below (g := gb329) (o := .cells #[.string a0_0, .slice (some ad335) l0_1.length c0_1] 24 (0, 0)) (by (with_reducible repeat (first | refine blk_drewN ?_ _ | refine blk_drew ?_ | refine blk_alloc ?_ _)); exact BK329.out) hb)
            have n1_ := Aside0.mk (below_step (by repeat (first | (with_reducible first | exact HB.out | apply below_alloc | apply pw_below_drewN | apply below_drew1 | refine below_set ?_ GE329.out) | exact HB.out)) hb)
            clear BK329
            clear HB
            have BK329 := n0_
            have HB := n1_
            clear n0_ n1_
            (try clear hb)
            (try clear hb2)
            (try clear hk)
            (try clear hi)
            refine hK.out _ _ ⟨(blk_cell BK329.out 0).trans rfl, (blk_cell BK329.out 1).trans rfl, ((HB.out.cell (World.block_lt_of_cell? w _ hw335_0)).trans hw335_0), ((HB.out.cell (World.block_lt_of_cell? w _ hw335_1)).trans hw335_1), ((HB.out.cell (World.block_lt_of_cell? w _ hw337_0)).trans hw337_0), ((HB.out.cell (World.block_lt_of_cell? w _ hw337_1)).trans hw337_1)⟩ (fun hHeld => ?_)
            clear hK K
            refine norm_ (a' := ?_) ?_ ?_
            rotate_left
            ·
             show Act.put _ (some 30) _ = _
             simp only [Act.put, List.setIfInBounds_toArray, List.set_cons_zero, List.set_cons_succ, i64_w, i32_w]
             rfl
            refine pure_ (i := 8) (N := some 31) (v := ?_) (a' := ?_) #[true, true, true, true, true, true, true, true, true, false, true, true, true, true, true, true, false, false, false, false] rfl rfl (any_of HT_.out (by kernel_rfl)) (fun _ _ _ h => h) (Or.inl ⟨by rfl, ?_⟩) ?_ ?_
            rotate_left
            ·
             intro w'
             go_simp
             with_reducible rfl
            rotate_left
            ·
             simp only [Act.put, List.setIfInBounds_toArray, List.set_cons_zero, List.set_cons_succ, i64_w, i32_w]
             rfl
            refine pure_ (i := 9) (N := some 32) (v := ?_) (a' := ?_) #[true, true, true, true, true, true, true, true, true, true, true, true, true, true, true, true, false, false, false, false] rfl rfl (any_of HT_.out (by kernel_rfl)) (fun _ _ _ h => h) (Or.inl ⟨by rfl, ?_⟩) ?_ ?_
            rotate_left
            ·
             intro w'
             go_simp
             with_reducible rfl
            rotate_left
            ·
             simp only [Act.put, List.setIfInBounds_toArray, List.set_cons_zero, List.set_cons_succ, i64_w, i32_w]
             rfl
            refine one_ (i := 16) (N := some 39) #[true, true, true, true, true, true, true, true, true, true, true, true, true, true, true, true, true, false, false, false] rfl rfl (one_of HT_.out (by kernel_rfl)) (by decide) (fun K hK => ?_)
            refine goes_ Tryd.func42 (by kernel_rfl) rfl #[.int .i64 ((rd_T42 l0_1 x5_1).f1)] (by rfl) rfl rfl (by (try simp only [List.map_toArray, List.map_cons, List.map_nil]); first | done | rfl | (simp only [List.length_drop, List.length_take]; rfl)) ?_
            with_reducible refine (culetref44_Itoa.calls k1 ((rd_T42 l0_1 x5_1).f1) t338 _ A27.out).mono ?_
            rintro e w33 ⟨rfl, hb⟩
            refine ⟨_, rfl, ?_⟩
            have n0_ := Aside0.mk (blk_below (g := gb329) (o := .cells #[.string a0_0, .slice (some ad335) l0_1.length c0_1] 24 (0, 0)) (by (with_reducible repeat (first | refine blk_drewN ?_ _ | refine blk_drew ?_ | refine blk_alloc ?_ _)); exact BK329.out) hb)
            have n1_ := Aside0.mk (below_step (by repeat (first | (with_reducible first | exact HB.out | apply below_alloc | apply pw_below_drewN | apply below_drew1 | refine below_set ?_ GE329.out) | exact HB.out)) hb)
            clear BK329
            clear HB
            have BK329 := n0_
            have HB := n1_
            clear n0_ n1_
            (try clear hb)
            (try clear hb2)
            (try clear hk)
            (try clear hi)
            refine hK.out _ _ ⟨(blk_cell BK329.out 0).trans rfl, (blk_cell BK329.out 1).trans rfl, ((HB.out.cell (World.block_lt_of_cell? w _ hw335_0)).trans hw335_0), ((HB.out.cell (World.block_lt_of_cell? w _ hw335_1)).trans hw335_1), ((HB.out.cell (World.block_lt_of_cell? w _ hw337_0)).trans hw337_0), ((HB.out.cell (World.block_lt_of_cell? w _ hw337_1)).trans hw337_1)⟩ (fun hHeld => ?_)
            clear hK K
            refine norm_ (a' := ?_) ?_ ?_
            rotate_left
            ·
             show Act.put _ (some 39) _ = _
             simp only [Act.put, List.setIfInBounds_toArray, List.set_cons_zero, List.set_cons_succ, i64_w, i32_w]
             rfl
            refine pure_ (i := 17) (N := some 40) (v := ?_) (a' := ?_) #[true, true, true, true, true, true, true, true, true, true, true, true, true, true, true, true, true, true, false, false] rfl rfl (any_of HT_.out (by kernel_rfl)) (fun _ _ _ h => h) (Or.inl ⟨by rfl, ?_⟩) ?_ ?_
            rotate_left
            ·
             intro w'
             go_simp
             with_reducible rfl
            rotate_left
            ·
             simp only [Act.put, List.setIfInBounds_toArray, List.set_cons_zero, List.set_cons_succ, i64_w, i32_w]
             rfl
            refine pure_ (i := 18) (N := some 41) (v := ?_) (a' := ?_) #[true, true, true, true, true, true, true, true, true, true, true, true, true, true, true, true, true, true, true, false] rfl rfl (any_of HT_.out (by kernel_rfl)) (fun _ _ _ h => h) (Or.inl ⟨by rfl, ?_⟩) ?_ ?_
            rotate_left
            ·
             intro w'
             go_simp
             with_reducible rfl
            rotate_left
            ·
             simp only [Act.put, List.setIfInBounds_toArray, List.set_cons_zero, List.set_cons_succ, i64_w, i32_w]
             rfl
            refine pure_ (i := 19) (N := some 4) (v := ?_) (a' := ?_) #[true, true, true, true, true, true, true, true, true, true, true, true, true, true, true, true, true, true, true, true] rfl rfl (any_of HT_.out (by kernel_rfl)) (fun _ _ _ h => h) (Or.inl ⟨by rfl, ?_⟩) ?_ ?_
            rotate_left
            ·
             intro w'
             go_simp
             with_reducible rfl
            rotate_left
            ·
             simp only [Act.put, List.setIfInBounds_toArray, List.set_cons_zero, List.set_cons_succ, i64_w, i32_w]
             rfl
            refine done_ (done_of HT_.out (by kernel_rfl)) ?_
            try go_wp2
            go_roundg k1
            case measure => have := HK1.out; omega
            case rel => exact ⟨(x4_1 ++ ((((⟨#[32]⟩ : ByteArray) ++ t336) ++ (⟨#[64]⟩ : ByteArray)) ++ t338)), (wrap64 (x5_1 + 1)), (by first | rfl | (simp; done) | (simp [*]; done)), (by first | rfl | (simp; done) | (simp [*]; done)), H', ⟨by have := HK1.out; omega⟩, ⟨by (with_reducible repeat (first | refine blk_drewN ?_ _ | refine blk_drew ?_ | refine blk_alloc ?_ _)); exact BK329.out⟩, ⟨by repeat (first | (with_reducible first | exact HB.out | apply below_alloc | apply pw_below_drewN | apply below_drew1 | refine below_set ?_ GE329.out) | exact HB.out)⟩⟩
           ·
            rw [if_neg c29] at H
            exact absurd H (by simp)
          ·
           rw [if_neg c28] at H
           exact absurd H (by simp)
         ·
          rw [if_neg c26] at H
          exact absurd H (by simp)
        ·
         rw [if_neg c25] at H
         exact absurd H (by simp)
       ·
        rw [if_neg c23] at H
        exact absurd H (by simp)
     ·
      rw [if_neg c9] at H
      have c9b0 : decide (x5_1 < (l0_1.length : Int)) = false := decide_eq_false c9
      clear c9
      simp only [Option.some.injEq, Prod.mk.injEq] at H
      obtain ⟨rfl, rfl⟩ := H
      have hcz34_0 : wr.cell? ⟨gb329, 0, none⟩ = some (.string a0_0) := (blk_cell BK329.out 0).trans rfl
      have hcz34_1 : wr.cell? ⟨gb329, 1, none⟩ = some (.slice A0_1 l0_1.length c0_1) := (blk_cell BK329.out 1).trans rfl
      have hfz34_0 := blk_frozen BK329.out 0
      have hfz34_1 := blk_frozen BK329.out 1
      go_wp2
      go_ret2
      exact ⟨by first | rfl | (simp [errW_none, errW_some] <;> rfl) | (simp [*, errW_none, errW_some] <;> rfl), by repeat (first | (with_reducible first | exact HB.out | apply below_alloc | apply pw_below_drewN | apply below_drew1 | refine below_set ?_ GE329.out) | exact HB.out)⟩
  ·
   rw [if_neg c4] at H
   exact absurd H (by simp)
 ·
  replace c3 := Bool.eq_false_iff.mpr c3
  subst c3
  have H1 : (some ((⟨#[]⟩ : ByteArray), 1)) = some (r1, r2) := by rw [if_neg (show ¬ (false = true) by decide)] at H; exact H
  clear H
  have H := H1
  clear H1
  simp only [Option.some.injEq, Prod.mk.injEq] at H
  obtain ⟨rfl, rfl⟩ := H
  go_enter Tryd.func22, Tryd.ntmps22
  go_wp2_with (first | ((with_reducible refine gate_dst (N := 1) rfl ?_); refine box_event ?hg (N := 1) ?hd (cs := #[.string a0_0, .slice A0_1 l0_1.length c0_1]) (t := 24) ?hr ?_; (case hd => rfl); (case hg => rfl); (case hr => first | (go_simp; done) | (go_simp; rfl)); intro gb329 hg w35 hbox hb; have n0_ := Aside0.mk (below_step (by repeat (first | (with_reducible first | exact HB.out | apply below_alloc | apply pw_below_drewN | apply below_drew1) | exact HB.out)) hb); have n1_ := Aside0.mk (hbox); have n2_ := Aside0.mk ((by rw [hg]; exact (below_size (by repeat (first | (with_reducible first | exact HB.out | apply below_alloc | apply pw_below_drewN | apply below_drew1) | exact HB.out))) : w.heap.size ≤ gb329)); have n3_ := Aside0.mk ((by rw [hg]; exact (below_size (by repeat (first | (with_reducible first | exact HB.out | apply below_alloc | apply pw_below_drewN | apply below_drew1) | exact HB.out))) : w.heap.size ≤ gb329)); clear HB; have HB := n0_; have BK329 := n1_; have GW329 := n2_; have GE329 := n3_; clear n0_ n1_ n2_ n3_; clear hb hbox hg; have hcz36_0 : w35.cell? ⟨gb329, 0, none⟩ = some (.string a0_0) := (blk_cell BK329.out 0).trans rfl; have hcz36_1 : w35.cell? ⟨gb329, 1, none⟩ = some (.slice A0_1 l0_1.length c0_1) := (blk_cell BK329.out 1).trans rfl; have hfz36_0 := blk_frozen BK329.out 0; have hfz36_1 := blk_frozen BK329.out 1) | ((with_reducible refine gate_callee (f := 17) rfl ?_); refine goesL_ (some 7) rfl rfl Tryd.func17 (by kernel_rfl) rfl #[.agg #[.string a0_0, .slice A0_1 l0_1.length c0_1]] rfl (by (try simp only [List.map_toArray, List.map_cons, List.map_nil]); first | done | rfl | (simp only [List.length_drop, List.length_take]; rfl)) ?_; (with_reducible refine (culetref44_Valid.calls k a0_0 _ _ l0_1 false _ ?side1 ?side2 A2.out).mono ?_); (case side1 => repeat (first | exact (Kd.C_below HR0_1.out HB.out) | (with_reducible refine Kd.C_alloc ?_ _) | (with_reducible refine Kd.C_drewN ?_ _) | (with_reducible refine Kd.C_drew ?_))); (case side2 => exact HC0_1.out); rintro e w37 ⟨rfl, hb⟩; refine ⟨_, rfl, ?_⟩; have n0_ := Aside0.mk (blk_below (g := gb329) (o := .cells #[.string a0_0, .slice A0_1 l0_1.length c0_1] 24 (0, 0)) (by (with_reducible repeat (first | refine blk_drewN ?_ _ | refine blk_drew ?_ | refine blk_alloc ?_ _)); exact BK329.out) hb); have n1_ := Aside0.mk (below_step (by repeat (first | (with_reducible first | exact HB.out | apply below_alloc | apply pw_below_drewN | apply below_drew1 | refine below_set ?_ GE329.out) | exact HB.out)) hb); clear BK329; clear HB; have BK329 := n0_; have HB := n1_; clear n0_ n1_; (try clear hb); (try clear hb2); (try clear hk); (try clear hi)))
  go_ret2
  exact ⟨by first | rfl | (simp [errW_none, errW_some] <;> rfl) | (simp [*, errW_none, errW_some] <;> rfl), by repeat (first | (with_reducible first | exact HB.out | apply below_alloc | apply pw_below_drewN | apply below_drew1 | refine below_set ?_ GE329.out) | exact HB.out)⟩

end Go.Proofs.YtejgenhmhahgeaaDoor.T
