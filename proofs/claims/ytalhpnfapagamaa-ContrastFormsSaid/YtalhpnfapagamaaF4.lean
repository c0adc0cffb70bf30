-- Written by this session's own program over the kit's printer, with hand-made contracts, then mended by hand. Lean checks it.
import Derived.Test.YtalhpnfapagamaaF0
import Derived.Test.YtalhpnfapagamaaF1
import Derived.Test.YtalhpnfapagamaaF2
import Derived.Test.YtalhpnfapagamaaF3
namespace Go.Proofs.Ytalhpnfapagamaa.C
open Go.RowKit Go.Proofs.YtalhpnfapagamaaW.PrintWords Go.Proofs.YtalhpnfapagamaaW.PrintLast Go.Proofs.YtalhpnfapagamaaW.PrintMore
attribute [local go_sem] max2_int min2_int max_two min_two max_three min_three max_four min_four   -- for this text's walks alone
set_option linter.unusedVariables false
set_option linter.unusedSimpArgs false

attribute [local go_sem high] eqA36
/-! ### contrast_Symmetric: function 17 -/
section
open Go.Shelf Go.Proofs.YtalhpnfapagamaaH
attribute [local go_sem] Oper.semAt_some
theorem keeps_drewN_set (W : World) (n : Nat) (a : Addr) (v : Value) : KeepsOthers W ((W.drewN n).setCell a v) := (show KeepsOthers W (W.drewN n) from ⟨Nat.le_refl _, fun _ _ h _ => h⟩).trans (KeepsOthers.setCell _ _ _)
def diffB (a b : Int) : Bool := (a == 1 && b == 2) || (a == 2 && b == 1)
theorem diff_some (a b : Int) : contrast_different.f a b = some (diffB a b) := by
  unfold contrast_different.f diffB
  by_cases h1 : a = 1 <;> by_cases h2 : b = 2 <;> by_cases h3 : a = 2 <;> simp_all
def symStart (m : List (List Int)) : Bool × Bool × Bool := (((m.length : Nat) : Int) == (((rd_L1 m 0).length : Nat) : Int), true, true)
def sym1 (m : List (List Int)) (i j : Int) (b : Bool) : Bool := b && !diffB (at2 m i j) (at2 m j ((m.length : Int) - 1 - i))
def sym2 (m : List (List Int)) (i j : Int) (b : Bool) : Bool := b && !diffB (at2 m i j) (at2 m ((m.length : Int) - 1 - i) (((rd_L1 m 0).length : Int) - 1 - j))
def sym3 (m : List (List Int)) (i j : Int) (b : Bool) : Bool := b && !diffB (at2 m i j) (at2 m i (((rd_L1 m 0).length : Int) - 1 - j))
def symStep (m : List (List Int)) (s : Bool × Bool × Bool) (x : Sq m) : Bool × Bool × Bool := (sym1 m x.1.1 x.1.2 s.1, sym2 m x.1.1 x.1.2 s.2.1, sym3 m x.1.1 x.1.2 s.2.2)
theorem sym_square (m : List (List Int)) (l : List (Sq m)) : ∀ s, (l.foldl (symStep m) s).1 = true → s.1 = true := by
  induction l with
  | nil => intro s h; exact h
  | cons x l ih =>
    intro s h
    have := ih _ h
    simp only [symStep, sym1, Bool.and_eq_true] at this
    exact this.1

structure SymAt (w : World) (l0 : List (List Int)) (A0 : Option Addr) (c0 p q : Nat) (s : Bool × Bool × Bool) (W : World) : Prop where
  ne : p ≠ q
  lp : w.heap.size + 1 + 1 + 1 < p
  lq : w.heap.size + 1 + 1 + 1 < q
  b0 : W.heap[w.heap.size]? = some (.cells #[.slice A0 l0.length c0] 23 (0, 0))
  b1 : W.heap[w.heap.size + 1]? = some (.cells #[.bool s.1] 4 (0, 0))
  b2 : W.heap[w.heap.size + 1 + 1]? = some (.cells #[.bool s.2.1] 4 (0, 0))
  b3 : W.heap[w.heap.size + 1 + 1 + 1]? = some (.cells #[.bool s.2.2] 4 (0, 0))
  bp : W.heap[p]? = some (.cells #[.int .i64 (l0.length : Int)] 3 (0, 0))
  bq : W.heap[q]? = some (.cells #[.int .i64 ((rd_L1 l0 0).length : Int)] 3 (0, 0))
  below : Below w.heap.size w W
theorem SymAt.set1 {w W : World} {l0 : List (List Int)} {A0 : Option Addr} {c0 p q : Nat} {s : Bool × Bool × Bool} (h : SymAt w l0 A0 c0 p q s W) (n : Nat) (b : Bool) : SymAt w l0 A0 c0 p q (b, s.2) ((W.drewN n).setCell ⟨w.heap.size + 1, 0, none⟩ (.bool b)) where
  ne := h.ne
  lp := h.lp
  lq := h.lq
  b0 := blk_far h.b0 (by simp <;> omega) _
  b1 := blk_set (w := W.drewN n) h.b1 0 (.bool b)
  b2 := blk_far h.b2 (by simp <;> omega) _
  b3 := blk_far h.b3 (by simp <;> omega) _
  bp := blk_far h.bp (by have := h.lp; simp; omega) _
  bq := blk_far h.bq (by have := h.lq; simp; omega) _
  below := (pw_below_drewN h.below n).setCell (p := ⟨w.heap.size + 1, 0, none⟩) (by simp <;> omega) _
theorem SymAt.set2 {w W : World} {l0 : List (List Int)} {A0 : Option Addr} {c0 p q : Nat} {s : Bool × Bool × Bool} (h : SymAt w l0 A0 c0 p q s W) (n : Nat) (b : Bool) : SymAt w l0 A0 c0 p q (s.1, b, s.2.2) ((W.drewN n).setCell ⟨w.heap.size + 1 + 1, 0, none⟩ (.bool b)) where
  ne := h.ne
  lp := h.lp
  lq := h.lq
  b0 := blk_far h.b0 (by simp <;> omega) _
  b1 := blk_far h.b1 (by simp <;> omega) _
  b2 := blk_set (w := W.drewN n) h.b2 0 (.bool b)
  b3 := blk_far h.b3 (by simp <;> omega) _
  bp := blk_far h.bp (by have := h.lp; simp; omega) _
  bq := blk_far h.bq (by have := h.lq; simp; omega) _
  below := (pw_below_drewN h.below n).setCell (p := ⟨w.heap.size + 1 + 1, 0, none⟩) (by simp <;> omega) _
theorem SymAt.set3 {w W : World} {l0 : List (List Int)} {A0 : Option Addr} {c0 p q : Nat} {s : Bool × Bool × Bool} (h : SymAt w l0 A0 c0 p q s W) (n : Nat) (b : Bool) : SymAt w l0 A0 c0 p q (s.1, s.2.1, b) ((W.drewN n).setCell ⟨w.heap.size + 1 + 1 + 1, 0, none⟩ (.bool b)) where
  ne := h.ne
  lp := h.lp
  lq := h.lq
  b0 := blk_far h.b0 (by simp <;> omega) _
  b1 := blk_far h.b1 (by simp <;> omega) _
  b2 := blk_far h.b2 (by simp <;> omega) _
  b3 := blk_set (w := W.drewN n) h.b3 0 (.bool b)
  bp := blk_far h.bp (by have := h.lp; simp; omega) _
  bq := blk_far h.bq (by have := h.lq; simp; omega) _
  below := (pw_below_drewN h.below n).setCell (p := ⟨w.heap.size + 1 + 1 + 1, 0, none⟩) (by simp <;> omega) _
theorem SymAt.alloc {w W : World} {l0 : List (List Int)} {A0 : Option Addr} {c0 p q : Nat} {s : Bool × Bool × Bool} (h : SymAt w l0 A0 c0 p q s W) (o : Obj) : SymAt w l0 A0 c0 p q s (W.alloc o) where
  ne := h.ne
  lp := h.lp
  lq := h.lq
  b0 := blk_alloc h.b0 _
  b1 := blk_alloc h.b1 _
  b2 := blk_alloc h.b2 _
  b3 := blk_alloc h.b3 _
  bp := blk_alloc h.bp _
  bq := blk_alloc h.bq _
  below := below_alloc h.below _
theorem SymAt.own {β : Type} (w : World) (l0 : List (List Int)) (A0 : Option Addr) (c0 p q B : Nat) (f : β → Bool × Bool × Bool) (hB : w.heap.size ≤ B) : OwnFrom B (fun x W => SymAt w l0 A0 c0 p q (f x) W) := fun s W W' row h hg hr => {
  ne := h.ne
  lp := h.lp
  lq := h.lq
  b0 := blk_own h.b0 hg hr
  b1 := blk_own h.b1 hg hr
  b2 := blk_own h.b2 hg hr
  b3 := blk_own h.b3 hg hr
  bp := blk_own h.bp hg hr
  bq := blk_own h.bq hg hr
  below := ownFrom_below (β := β) (Nat.le_refl _) hB s W W' row h.below hg hr }

set_option maxRecDepth 100000 in
set_option maxHeartbeats 4000000 in
theorem contrast_Symmetric.yes (A0 : Option Addr) (c0 : Nat) (l0 : List (List Int)) (k : Nat) (hv : window_Valid.f k l0 = some true) (hp : 0 < l0.length) (hrect : ∀ i : Nat, i < l0.length → (rd_L1 l0 i).length = (rd_L1 l0 0).length) (w : World) (hr0 : Kd.C (Kd.slice 3 (Kd.int .i64)) w A0 l0.length l0) (hc0 : l0.length ≤ c0) :
    Calls Try.prog 17 #[.slice A0 l0.length c0] w fun e w' => e = .returned (.tuple #[.bool ((sqAll l0).foldl (symStep l0) (symStart l0)).1, .bool ((sqAll l0).foldl (symStep l0) (symStart l0)).2.1, .bool ((sqAll l0).foldl (symStep l0) (symStart l0)).2.2, .int .i64 0]) ∧ Below w.heap.size w w' := by
  refine (callsIn_wide (n := 5)).1 ?_
  refine callsIn_of_wp_marks Try.func17 rfl trivial ?_ rfl
  simp only [Try.ntmps17, List.size_toArray, List.length_cons, List.length_nil, Nat.reduceAdd, Nat.reduceSub, Array.replicate_succ, Array.replicate_zero, List.push_toArray, List.append_toArray, List.nil_append, List.cons_append]
  have HC1 := Aside0.mk (Kd.C_alloc (Kd.C_alloc (Kd.C_alloc (Kd.C_alloc hr0 (.cells #[.slice A0 l0.length c0] 23)) (.cells #[.bool false] 4)) (.cells #[.bool false] 4)) (.cells #[.bool false] 4))
  have HV := Aside0.mk hv
  have HC := Aside0.mk hr0
  have HRect := Aside0.mk hrect
  clear hv hr0 hrect
  gi_wp2_with (first | (refine ⟨trivial, ?_⟩; gi_at_call 43; refine (callsIn_wide.2 (window_Valid.calls k A0 c0 l0 true _ HC1.out hc0 HV.out)).mono ?_; rintro e w' ⟨rfl, ⟨nd, rfl⟩⟩))
  refine wpIn_wide.2 ?_
  obtain ⟨ad, Ai, ci, e0, hci, hle, Ci⟩ := at_L1 HC1.out 0 (by omega) (by omega)
  subst e0
  simp only [Int.toNat_zero, add_0] at hci
  have fa : ∀ (V : World) (o : Obj), V.cell? ad = some (.slice Ai (rd_L1 l0 0).length ci) → (V.alloc o).cell? ad = some (.slice Ai (rd_L1 l0 0).length ci) := fun V o h => (below_alloc (Below.refl _ V) o).cell (World.block_lt_of_cell? V _ h) |>.trans h
  have fd : ∀ n, (((((w.alloc (.cells #[.slice (some ad) l0.length c0] 23)).alloc (.cells #[.bool false] 4)).alloc (.cells #[.bool false] 4)).alloc (.cells #[.bool false] 4)).drewN n).cell? ad = some (.slice Ai (rd_L1 l0 0).length ci) := fun _ => hci
  have f1 : ∀ x, ((((((w.alloc (.cells #[.slice (some ad) l0.length c0] 23)).alloc (.cells #[.bool false] 4)).alloc (.cells #[.bool false] 4)).alloc (.cells #[.bool false] 4)).drewN (nd + 1)).alloc (.cells #[x] 3)).cell? ad = some (.slice Ai (rd_L1 l0 0).length ci) := fun x => fa _ _ (fd (nd + 1))
  have f2 : ∀ x y, (((((((w.alloc (.cells #[.slice (some ad) l0.length c0] 23)).alloc (.cells #[.bool false] 4)).alloc (.cells #[.bool false] 4)).alloc (.cells #[.bool false] 4)).drewN (nd + 1)).alloc (.cells #[x] 3)).alloc (.cells #[y] 3)).cell? ad = some (.slice Ai (rd_L1 l0 0).length ci) := fun x y => fa _ _ (f1 x)
  clear Ci fa fd
  go_cut [6, 7] from 14 to 19 (fun v6 v7 wc => ∃ p q : Nat, v6 = .pointer (some ⟨p, 0, none⟩) ∧ v7 = .pointer (some ⟨q, 0, none⟩) ∧ Aside0 (SymAt w l0 (some ad) c0 p q (false, false, false) wc))
  case first =>
    clear hle HV HRect
    go_region
    all_goals
      go_wp2
      go_meet
      case rel =>
        refine ⟨_, _, rfl, rfl, ⟨⟨by omega, by omega, by omega, ?_, ?_, ?_, ?_, ?_, ?_, by repeat (first | exact Below.refl _ _ | apply below_alloc | apply pw_below_drewN)⟩⟩⟩
        all_goals repeat (first | (refine new_at _ _ _ ?_; simp [World.drewN]; done) | refine blk_alloc ?_ _ | refine blk_drewN ?_ _)
  case rest =>
    obtain ⟨p, q, rfl, rfl, HM⟩ := hcut
    have hM := HM.out
    have cz := (blk_cell hM.b0 0).trans rfl
    have cp := (blk_cell hM.bp 0).trans rfl
    have cq := (blk_cell hM.bq 0).trans rfl
    have d1 : wc.cell? ⟨w.heap.size + 1, 0, none⟩ = some (.bool false) := (blk_cell hM.b1 0).trans rfl
    have d2 : wc.cell? ⟨w.heap.size + 1 + 1, 0, none⟩ = some (.bool false) := (blk_cell hM.b2 0).trans rfl
    have d3 : wc.cell? ⟨w.heap.size + 1 + 1 + 1, 0, none⟩ = some (.bool false) := (blk_cell hM.b3 0).trans rfl
    have x1 := blk_frozen hM.b1 0
    have x2 := blk_frozen hM.b2 0
    have x3 := blk_frozen hM.b3 0
    have hlp := hM.lp
    have hlq := hM.lq
    have hsz : p < wc.heap.size := blk_lt hM.bp
    clear hM
    clear hci f1 f2 HV
    gi_wp2_with (refine ⟨trivial, ?_⟩; gi_at_call 44; refine (squares_calls Fence.wide _ trivial rfl _ _ _ _).mono ?_; rintro e w' ⟨rfl, rfl⟩)
    refine wpIn_rangeFunc_ownG (w0 := _) rfl (by omega) (gf := 63) (lb := #[.pointer (some ⟨wc.heap.size, 0, none⟩)]) rfl trivial (enters_of Try.func63 (by kernel_rfl) rfl)
      (squares_stops Fence.wide _ trivial rfl (by omega) (wc.heap.size) _ c0 l0 w _ HC.out (?bel) (by simp) (by first | simp | go_simp)) belowK_t (belowK_b (by simp; omega)) (Below.refl _ _) (fun _ => rfl)
      (fun pre W => SymAt w l0 (some ad) c0 p q (pre.foldl (symStep l0) (symStart l0)) W) (fun _ _ _ => False) (SymAt.own w l0 _ c0 p q _ _ (by simp; omega)) (fun _ _ _ _ _ hs _ _ => hs)
      ?start ?a1 ?assign ?body ?done ?stop
    case assign =>
      intro l x W K hK
      gi_wp2
      exact hK
    case bel => exact ((((HM.out.set1 0 _).set2 0 true).set3 0 true).alloc _).below
    case start => exact (((HM.out.set1 0 _).set2 0 true).set3 0 true).alloc _
    case body =>
      have hmx : Try.prog.follows .mixedOrders = true := by kernel_rfl
      rintro l pre ⟨⟨i, j⟩, hi, hj⟩ W hS _
      dsimp only at hi hj
      have hsq : Aside0 ((pre.foldl (symStep l0) (symStart l0)).1 = true → l0.length = (rd_L1 l0 0).length) := ⟨fun h => by
        have := eq_of_beq (sym_square l0 pre _ h)
        omega⟩
      have hst : Aside0 ((pre ++ [(⟨(i, j), hi, hj⟩ : Sq l0)]).foldl (symStep l0) (symStart l0) = (sym1 l0 i j (pre.foldl (symStep l0) (symStart l0)).1, sym2 l0 i j (pre.foldl (symStep l0) (symStart l0)).2.1, sym3 l0 i j (pre.foldl (symStep l0) (symStart l0)).2.2)) := ⟨by simp [List.foldl_append, symStep]⟩
      generalize pre.foldl (symStep l0) (symStart l0) = s at hS hsq hst
      obtain ⟨s1, s2, s3⟩ := s
      dsimp only at hsq hst
      have hmax := Kd.C_max HC.out
      have HS0 := Aside0.mk hS
      have r1 : IntKind.i64.wrap ((l0.length : Int) - 1) = (l0.length : Int) - 1 := IntWalk.i64_in _ (by omega)
      have r2 : IntKind.i64.wrap ((l0.length : Int) - 1 - i) = (l0.length : Int) - 1 - i := IntWalk.i64_in _ (by omega)
      have r3 : (0 : Int) ≤ (l0.length : Int) - 1 - i := by omega
      have r3' : (l0.length : Int) - 1 - i < (l0.length : Int) := by omega
      have hri : (rd_L1 l0 i).length = (rd_L1 l0 0).length := HRect.out i hi
      have hj0 : j < (rd_L1 l0 0).length := by omega
      have hmaxc : (rd_L1 l0 0).length ≤ 9223372036854775807 := by
        obtain ⟨_, _, _, _, _, _, Ci⟩ := at_L1 HC.out 0 (by omega) (by omega)
        exact Kd.C_max Ci
      have q1 : IntKind.i64.wrap (((rd_L1 l0 0).length : Int) - 1) = ((rd_L1 l0 0).length : Int) - 1 := IntWalk.i64_in _ (by omega)
      have q2 : IntKind.i64.wrap (((rd_L1 l0 0).length : Int) - 1 - j) = ((rd_L1 l0 0).length : Int) - 1 - j := IntWalk.i64_in _ (by omega)
      have q3 : (0 : Int) ≤ ((rd_L1 l0 0).length : Int) - 1 - j := by omega
      have q3' : ((rd_L1 l0 0).length : Int) - 1 - j < ((rd_L1 l0 0).length : Int) := by omega
      have HRi := Aside0.mk hri
      clear hri hS
      cases s1 with
      | true =>
        have hS := HS0.out
        have C := Kd.C_below HC.out hS.below
        have cz := (blk_cell hS.b0 0).trans rfl
        have cp := (blk_cell hS.bp 0).trans rfl
        have cq := (blk_cell hS.bq 0).trans rfl
        have d1 := (blk_cell hS.b1 0).trans rfl
        have x1 := blk_frozen hS.b1 0
        have hri := HRi.out
        obtain ⟨ad', Ai', ci', e0, hci, hle', Ci⟩ := at_L1 C (i : Int) (by omega) (by omega)
        cases e0
        obtain ⟨adi, e1, hcij⟩ := Kd.at_int Ci (j : Int) (by omega) (by omega)
        subst e1
        simp only [Int.toNat_natCast] at hci hcij
        have hc := hsq.out rfl
        have hrj := HRect.out j (by omega)
        obtain ⟨ad2, Aj, cj, e2, hcj, hlej, Cj⟩ := at_L1 C (j : Int) (by omega) (by omega)
        cases e2
        obtain ⟨adj, e3, hcji⟩ := Kd.at_int Cj ((l0.length : Int) - 1 - i) (by omega) (by omega)
        subst e3
        simp only [Int.toNat_natCast] at hcj
        rw [show ((l0.length : Int) - 1 - i).toNat = l0.length - 1 - i from by omega] at hcji
        have r4 : (l0.length : Int) - 1 - i < (rd_L1 l0 j).length := by omega
        have r5 : (j : Int) < (l0.length : Int) := by omega
        clear hc hrj
        clear Cj
        clear hS
        clear C
        try clear Ci
        gi_wp2
        refine wpIn_round_quiet_tail 16 hmx (by kernel_rfl) (by kernel_rfl) (fun ⟨_, _, h⟩ => h) ?_
        simp only [List.take_succ_cons, List.take_zero, List.drop_succ_cons, List.drop_zero]
        repeat (go_big_quiet_step ((go_at_call 45; refine Calls.quiet_of ((contrast_different.calls _ _ _ _ (diff_some _ _)).mono (fun _ _ hh => ⟨hh.1, hh.2.out⟩)))))
        refine wpQuiet_nil ?_
        intro _ hw'
        obtain ⟨n0, hw''⟩ := hw'
        subst hw''
        go_wp2_with fail
        try gi_wp2_with fail
        have HS1 := Aside0.mk (HS0.out.set1 n0 (!diffB (rd (rd_L1 l0 i) j) (rd (rd_L1 l0 j) ((l0.length : Int) - 1 - i))))
        have HK0 : Aside0 (KeepsOthers W ((W.drewN n0).setCell ⟨w.heap.size + 1, 0, none⟩ (.bool (!diffB (rd (rd_L1 l0 i) j) (rd (rd_L1 l0 j) ((l0.length : Int) - 1 - i))))) ∧ Below w.heap.size W ((W.drewN n0).setCell ⟨w.heap.size + 1, 0, none⟩ (.bool (!diffB (rd (rd_L1 l0 i) j) (rd (rd_L1 l0 j) ((l0.length : Int) - 1 - i)))))) := ⟨⟨keeps_drewN_set _ _ _ _, (pw_below_drewN (Below.refl _ _) _).setCell (p := ⟨w.heap.size + 1, 0, none⟩) (by simp <;> omega) _⟩⟩
        generalize hW0 : (W.drewN n0).setCell ⟨w.heap.size + 1, 0, none⟩ (.bool (!diffB (rd (rd_L1 l0 i) j) (rd (rd_L1 l0 j) ((l0.length : Int) - 1 - i)))) = W1 at HS1 HK0
        try rw [show ((W.drewN n0).setCell ⟨w.heap.size + 1, 0, none⟩ (.bool (!diffB _ _))) = W1 from hW0]
        clear hW0
        clear cz cp cq d1 x1 hri
        clear hcj hcji hlej
        clear hci hcij hle'
        clear r4 r5
        cases s2 with
        | true =>
          have hS := HS1.out
          have C := Kd.C_below HC.out hS.below
          have cz := (blk_cell hS.b0 0).trans rfl
          have cp := (blk_cell hS.bp 0).trans rfl
          have cq := (blk_cell hS.bq 0).trans rfl
          have d1 := (blk_cell hS.b2 0).trans rfl
          have x1 := blk_frozen hS.b2 0
          have hri := HRi.out
          have hrj := HRect.out (l0.length - 1 - i) (by omega)
          rw [show ((l0.length - 1 - i : Nat) : Int) = (l0.length : Int) - 1 - i from by omega] at hrj
          obtain ⟨ad2, Aj, cj, e2, hcj, hlej, Cj⟩ := at_L1 C ((l0.length : Int) - 1 - i) (by omega) (by omega)
          cases e2
          obtain ⟨adj, e3, hcji⟩ := Kd.at_int Cj (((rd_L1 l0 0).length : Int) - 1 - j) (by omega) (by omega)
          subst e3
          rw [show ((l0.length : Int) - 1 - i).toNat = l0.length - 1 - i from by omega] at hcj
          rw [show (((rd_L1 l0 0).length : Int) - 1 - j).toNat = (rd_L1 l0 0).length - 1 - j from by omega] at hcji
          clear Cj
          clear hS
          clear C
          try clear Ci
          gi_wp2
          refine wpIn_round_quiet_tail 19 hmx (by kernel_rfl) (by kernel_rfl) (fun ⟨_, _, h⟩ => h) ?_
          simp only [List.take_succ_cons, List.take_zero, List.drop_succ_cons, List.drop_zero]
          repeat (go_big_quiet_step ((go_at_call 45; refine Calls.quiet_of ((contrast_different.calls _ _ _ _ (diff_some _ _)).mono (fun _ _ hh => ⟨hh.1, hh.2.out⟩)))))
          refine wpQuiet_nil ?_
          intro _ hw'
          obtain ⟨n1, hw''⟩ := hw'
          subst hw''
          go_wp2_with fail
          try gi_wp2_with fail
          have HS2 := Aside0.mk (HS1.out.set2 n1 (!diffB (rd (rd_L1 l0 i) j) (rd (rd_L1 l0 ((l0.length : Int) - 1 - i)) (((rd_L1 l0 0).length : Int) - 1 - j))))
          have HK1 : Aside0 (KeepsOthers W1 ((W1.drewN n1).setCell ⟨w.heap.size + 1 + 1, 0, none⟩ (.bool (!diffB (rd (rd_L1 l0 i) j) (rd (rd_L1 l0 ((l0.length : Int) - 1 - i)) (((rd_L1 l0 0).length : Int) - 1 - j))))) ∧ Below w.heap.size W1 ((W1.drewN n1).setCell ⟨w.heap.size + 1 + 1, 0, none⟩ (.bool (!diffB (rd (rd_L1 l0 i) j) (rd (rd_L1 l0 ((l0.length : Int) - 1 - i)) (((rd_L1 l0 0).length : Int) - 1 - j)))))) := ⟨⟨keeps_drewN_set _ _ _ _, (pw_below_drewN (Below.refl _ _) _).setCell (p := ⟨w.heap.size + 1 + 1, 0, none⟩) (by simp <;> omega) _⟩⟩
          generalize hW1 : (W1.drewN n1).setCell ⟨w.heap.size + 1 + 1, 0, none⟩ (.bool (!diffB (rd (rd_L1 l0 i) j) (rd (rd_L1 l0 ((l0.length : Int) - 1 - i)) (((rd_L1 l0 0).length : Int) - 1 - j)))) = W2 at HS2 HK1
          try rw [show ((W1.drewN n1).setCell ⟨w.heap.size + 1 + 1, 0, none⟩ (.bool (!diffB _ _))) = W2 from hW1]
          clear hW1
          clear cz cp cq d1 x1 hri
          clear hcj hcji hlej
          cases s3 with
          | true =>
            have hS := HS2.out
            have C := Kd.C_below HC.out hS.below
            have cz := (blk_cell hS.b0 0).trans rfl
            have cp := (blk_cell hS.bp 0).trans rfl
            have cq := (blk_cell hS.bq 0).trans rfl
            have d1 := (blk_cell hS.b3 0).trans rfl
            have x1 := blk_frozen hS.b3 0
            have hri := HRi.out
            obtain ⟨ad2, Aj, cj, e2, hcj, hlej, Cj⟩ := at_L1 C (i : Int) (by omega) (by omega)
            cases e2
            obtain ⟨adj, e3, hcji⟩ := Kd.at_int Cj (((rd_L1 l0 0).length : Int) - 1 - j) (by omega) (by omega)
            subst e3
            simp only [Int.toNat_natCast] at hcj
            rw [show (((rd_L1 l0 0).length : Int) - 1 - j).toNat = (rd_L1 l0 0).length - 1 - j from by omega] at hcji
            clear Cj
            clear hS
            clear C
            try clear Ci
            gi_wp2
            refine wpIn_round_quiet_tail 16 hmx (by kernel_rfl) (by kernel_rfl) (fun ⟨_, _, h⟩ => h) ?_
            simp only [List.take_succ_cons, List.take_zero, List.drop_succ_cons, List.drop_zero]
            repeat (go_big_quiet_step ((go_at_call 45; refine Calls.quiet_of ((contrast_different.calls _ _ _ _ (diff_some _ _)).mono (fun _ _ hh => ⟨hh.1, hh.2.out⟩)))))
            refine wpQuiet_nil ?_
            intro _ hw'
            obtain ⟨n2, hw''⟩ := hw'
            subst hw''
            go_wp2_with fail
            try gi_wp2_with fail
            have HS3 := Aside0.mk (HS2.out.set3 n2 (!diffB (rd (rd_L1 l0 i) j) (rd (rd_L1 l0 i) (((rd_L1 l0 0).length : Int) - 1 - j))))
            have HK2 : Aside0 (KeepsOthers W2 ((W2.drewN n2).setCell ⟨w.heap.size + 1 + 1 + 1, 0, none⟩ (.bool (!diffB (rd (rd_L1 l0 i) j) (rd (rd_L1 l0 i) (((rd_L1 l0 0).length : Int) - 1 - j))))) ∧ Below w.heap.size W2 ((W2.drewN n2).setCell ⟨w.heap.size + 1 + 1 + 1, 0, none⟩ (.bool (!diffB (rd (rd_L1 l0 i) j) (rd (rd_L1 l0 i) (((rd_L1 l0 0).length : Int) - 1 - j)))))) := ⟨⟨keeps_drewN_set _ _ _ _, (pw_below_drewN (Below.refl _ _) _).setCell (p := ⟨w.heap.size + 1 + 1 + 1, 0, none⟩) (by simp <;> omega) _⟩⟩
            generalize hW2 : (W2.drewN n2).setCell ⟨w.heap.size + 1 + 1 + 1, 0, none⟩ (.bool (!diffB (rd (rd_L1 l0 i) j) (rd (rd_L1 l0 i) (((rd_L1 l0 0).length : Int) - 1 - j)))) = W3 at HS3 HK2
            try rw [show ((W2.drewN n2).setCell ⟨w.heap.size + 1 + 1 + 1, 0, none⟩ (.bool (!diffB _ _))) = W3 from hW2]
            clear hW2
            clear cz cp cq d1 x1 hri
            clear hcj hcji hlej
            have e : ((!diffB (rd (rd_L1 l0 i) j) (rd (rd_L1 l0 j) ((l0.length : Int) - 1 - i))), (!diffB (rd (rd_L1 l0 i) j) (rd (rd_L1 l0 ((l0.length : Int) - 1 - i)) (((rd_L1 l0 0).length : Int) - 1 - j))), (!diffB (rd (rd_L1 l0 i) j) (rd (rd_L1 l0 i) (((rd_L1 l0 0).length : Int) - 1 - j)))) = (sym1 l0 i j true, sym2 l0 i j true, sym3 l0 i j true) := by simp [sym1, sym2, sym3, at2]
            have hfin := HS3.out
            dsimp only at hfin
            rw [e, ← hst.out] at hfin
            exact ⟨((HK0.out.1.trans HK1.out.1).trans HK2.out.1).from _, (HK0.out.2.trans HK1.out.2).trans HK2.out.2, hfin⟩
          | false =>
            have hS := HS2.out
            have C := Kd.C_below HC.out hS.below
            have cz := (blk_cell hS.b0 0).trans rfl
            have cp := (blk_cell hS.bp 0).trans rfl
            have cq := (blk_cell hS.bq 0).trans rfl
            have d1 := (blk_cell hS.b3 0).trans rfl
            have x1 := blk_frozen hS.b3 0
            have hri := HRi.out
            clear hS
            clear C
            try clear Ci
            gi_wp2
            refine wpIn_round_quiet_tail 16 hmx (by kernel_rfl) (by kernel_rfl) (fun ⟨_, _, h⟩ => h) ?_
            simp only [List.take_succ_cons, List.take_zero, List.drop_succ_cons, List.drop_zero]
            repeat (go_big_quiet_step ((go_at_call 45; refine Calls.quiet_of ((contrast_different.calls _ _ _ _ (diff_some _ _)).mono (fun _ _ hh => ⟨hh.1, hh.2.out⟩)))))
            refine wpQuiet_nil ?_
            intro _ hw'
            obtain ⟨n2, hw''⟩ := hw'
            subst hw''
            go_wp2_with fail
            try gi_wp2_with fail
            have HS3 := Aside0.mk (HS2.out.set3 n2 false)
            have HK2 : Aside0 (KeepsOthers W2 ((W2.drewN n2).setCell ⟨w.heap.size + 1 + 1 + 1, 0, none⟩ (.bool false)) ∧ Below w.heap.size W2 ((W2.drewN n2).setCell ⟨w.heap.size + 1 + 1 + 1, 0, none⟩ (.bool false))) := ⟨⟨keeps_drewN_set _ _ _ _, (pw_below_drewN (Below.refl _ _) _).setCell (p := ⟨w.heap.size + 1 + 1 + 1, 0, none⟩) (by simp <;> omega) _⟩⟩
            generalize hW2 : (W2.drewN n2).setCell ⟨w.heap.size + 1 + 1 + 1, 0, none⟩ (.bool false) = W3 at HS3 HK2
            try rw [show ((W2.drewN n2).setCell ⟨w.heap.size + 1 + 1 + 1, 0, none⟩ (.bool false)) = W3 from hW2]
            clear hW2
            clear cz cp cq d1 x1 hri
            have e : ((!diffB (rd (rd_L1 l0 i) j) (rd (rd_L1 l0 j) ((l0.length : Int) - 1 - i))), (!diffB (rd (rd_L1 l0 i) j) (rd (rd_L1 l0 ((l0.length : Int) - 1 - i)) (((rd_L1 l0 0).length : Int) - 1 - j))), false) = (sym1 l0 i j true, sym2 l0 i j true, sym3 l0 i j false) := by simp [sym1, sym2, sym3, at2]
            have hfin := HS3.out
            dsimp only at hfin
            rw [e, ← hst.out] at hfin
            exact ⟨((HK0.out.1.trans HK1.out.1).trans HK2.out.1).from _, (HK0.out.2.trans HK1.out.2).trans HK2.out.2, hfin⟩
        | false =>
          have hS := HS1.out
          have C := Kd.C_below HC.out hS.below
          have cz := (blk_cell hS.b0 0).trans rfl
          have cp := (blk_cell hS.bp 0).trans rfl
          have cq := (blk_cell hS.bq 0).trans rfl
          have d1 := (blk_cell hS.b2 0).trans rfl
          have x1 := blk_frozen hS.b2 0
          have hri := HRi.out
          clear hS
          clear C
          try clear Ci
          gi_wp2
          refine wpIn_round_quiet_tail 19 hmx (by kernel_rfl) (by kernel_rfl) (fun ⟨_, _, h⟩ => h) ?_
          simp only [List.take_succ_cons, List.take_zero, List.drop_succ_cons, List.drop_zero]
          repeat (go_big_quiet_step ((go_at_call 45; refine Calls.quiet_of ((contrast_different.calls _ _ _ _ (diff_some _ _)).mono (fun _ _ hh => ⟨hh.1, hh.2.out⟩)))))
          refine wpQuiet_nil ?_
          intro _ hw'
          obtain ⟨n1, hw''⟩ := hw'
          subst hw''
          go_wp2_with fail
          try gi_wp2_with fail
          have HS2 := Aside0.mk (HS1.out.set2 n1 false)
          have HK1 : Aside0 (KeepsOthers W1 ((W1.drewN n1).setCell ⟨w.heap.size + 1 + 1, 0, none⟩ (.bool false)) ∧ Below w.heap.size W1 ((W1.drewN n1).setCell ⟨w.heap.size + 1 + 1, 0, none⟩ (.bool false))) := ⟨⟨keeps_drewN_set _ _ _ _, (pw_below_drewN (Below.refl _ _) _).setCell (p := ⟨w.heap.size + 1 + 1, 0, none⟩) (by simp <;> omega) _⟩⟩
          generalize hW1 : (W1.drewN n1).setCell ⟨w.heap.size + 1 + 1, 0, none⟩ (.bool false) = W2 at HS2 HK1
          try rw [show ((W1.drewN n1).setCell ⟨w.heap.size + 1 + 1, 0, none⟩ (.bool false)) = W2 from hW1]
          clear hW1
          clear cz cp cq d1 x1 hri
          cases s3 with
          | true =>
            have hS := HS2.out
            have C := Kd.C_below HC.out hS.below
            have cz := (blk_cell hS.b0 0).trans rfl
            have cp := (blk_cell hS.bp 0).trans rfl
            have cq := (blk_cell hS.bq 0).trans rfl
            have d1 := (blk_cell hS.b3 0).trans rfl
            have x1 := blk_frozen hS.b3 0
            have hri := HRi.out
            obtain ⟨ad2, Aj, cj, e2, hcj, hlej, Cj⟩ := at_L1 C (i : Int) (by omega) (by omega)
            cases e2
            obtain ⟨adj, e3, hcji⟩ := Kd.at_int Cj (((rd_L1 l0 0).length : Int) - 1 - j) (by omega) (by omega)
            subst e3
            simp only [Int.toNat_natCast] at hcj
            rw [show (((rd_L1 l0 0).length : Int) - 1 - j).toNat = (rd_L1 l0 0).length - 1 - j from by omega] at hcji
            clear Cj
            clear hS
            clear C
            try clear Ci
            gi_wp2
            refine wpIn_round_quiet_tail 16 hmx (by kernel_rfl) (by kernel_rfl) (fun ⟨_, _, h⟩ => h) ?_
            simp only [List.take_succ_cons, List.take_zero, List.drop_succ_cons, List.drop_zero]
            repeat (go_big_quiet_step ((go_at_call 45; refine Calls.quiet_of ((contrast_different.calls _ _ _ _ (diff_some _ _)).mono (fun _ _ hh => ⟨hh.1, hh.2.out⟩)))))
            refine wpQuiet_nil ?_
            intro _ hw'
            obtain ⟨n2, hw''⟩ := hw'
            subst hw''
            go_wp2_with fail
            try gi_wp2_with fail
            have HS3 := Aside0.mk (HS2.out.set3 n2 (!diffB (rd (rd_L1 l0 i) j) (rd (rd_L1 l0 i) (((rd_L1 l0 0).length : Int) - 1 - j))))
            have HK2 : Aside0 (KeepsOthers W2 ((W2.drewN n2).setCell ⟨w.heap.size + 1 + 1 + 1, 0, none⟩ (.bool (!diffB (rd (rd_L1 l0 i) j) (rd (rd_L1 l0 i) (((rd_L1 l0 0).length : Int) - 1 - j))))) ∧ Below w.heap.size W2 ((W2.drewN n2).setCell ⟨w.heap.size + 1 + 1 + 1, 0, none⟩ (.bool (!diffB (rd (rd_L1 l0 i) j) (rd (rd_L1 l0 i) (((rd_L1 l0 0).length : Int) - 1 - j)))))) := ⟨⟨keeps_drewN_set _ _ _ _, (pw_below_drewN (Below.refl _ _) _).setCell (p := ⟨w.heap.size + 1 + 1 + 1, 0, none⟩) (by simp <;> omega) _⟩⟩
            generalize hW2 : (W2.drewN n2).setCell ⟨w.heap.size + 1 + 1 + 1, 0, none⟩ (.bool (!diffB (rd (rd_L1 l0 i) j) (rd (rd_L1 l0 i) (((rd_L1 l0 0).length : Int) - 1 - j)))) = W3 at HS3 HK2
            try rw [show ((W2.drewN n2).setCell ⟨w.heap.size + 1 + 1 + 1, 0, none⟩ (.bool (!diffB _ _))) = W3 from hW2]
            clear hW2
            clear cz cp cq d1 x1 hri
            clear hcj hcji hlej
            have e : ((!diffB (rd (rd_L1 l0 i) j) (rd (rd_L1 l0 j) ((l0.length : Int) - 1 - i))), false, (!diffB (rd (rd_L1 l0 i) j) (rd (rd_L1 l0 i) (((rd_L1 l0 0).length : Int) - 1 - j)))) = (sym1 l0 i j true, sym2 l0 i j false, sym3 l0 i j true) := by simp [sym1, sym2, sym3, at2]
            have hfin := HS3.out
            dsimp only at hfin
            rw [e, ← hst.out] at hfin
            exact ⟨((HK0.out.1.trans HK1.out.1).trans HK2.out.1).from _, (HK0.out.2.trans HK1.out.2).trans HK2.out.2, hfin⟩
          | false =>
            have hS := HS2.out
            have C := Kd.C_below HC.out hS.below
            have cz := (blk_cell hS.b0 0).trans rfl
            have cp := (blk_cell hS.bp 0).trans rfl
            have cq := (blk_cell hS.bq 0).trans rfl
            have d1 := (blk_cell hS.b3 0).trans rfl
            have x1 := blk_frozen hS.b3 0
            have hri := HRi.out
            clear hS
            clear C
            try clear Ci
            gi_wp2
            refine wpIn_round_quiet_tail 16 hmx (by kernel_rfl) (by kernel_rfl) (fun ⟨_, _, h⟩ => h) ?_
            simp only [List.take_succ_cons, List.take_zero, List.drop_succ_cons, List.drop_zero]
            repeat (go_big_quiet_step ((go_at_call 45; refine Calls.quiet_of ((contrast_different.calls _ _ _ _ (diff_some _ _)).mono (fun _ _ hh => ⟨hh.1, hh.2.out⟩)))))
            refine wpQuiet_nil ?_
            intro _ hw'
            obtain ⟨n2, hw''⟩ := hw'
            subst hw''
            go_wp2_with fail
            try gi_wp2_with fail
            have HS3 := Aside0.mk (HS2.out.set3 n2 false)
            have HK2 : Aside0 (KeepsOthers W2 ((W2.drewN n2).setCell ⟨w.heap.size + 1 + 1 + 1, 0, none⟩ (.bool false)) ∧ Below w.heap.size W2 ((W2.drewN n2).setCell ⟨w.heap.size + 1 + 1 + 1, 0, none⟩ (.bool false))) := ⟨⟨keeps_drewN_set _ _ _ _, (pw_below_drewN (Below.refl _ _) _).setCell (p := ⟨w.heap.size + 1 + 1 + 1, 0, none⟩) (by simp <;> omega) _⟩⟩
            generalize hW2 : (W2.drewN n2).setCell ⟨w.heap.size + 1 + 1 + 1, 0, none⟩ (.bool false) = W3 at HS3 HK2
            try rw [show ((W2.drewN n2).setCell ⟨w.heap.size + 1 + 1 + 1, 0, none⟩ (.bool false)) = W3 from hW2]
            clear hW2
            clear cz cp cq d1 x1 hri
            have e : ((!diffB (rd (rd_L1 l0 i) j) (rd (rd_L1 l0 j) ((l0.length : Int) - 1 - i))), false, false) = (sym1 l0 i j true, sym2 l0 i j false, sym3 l0 i j false) := by simp [sym1, sym2, sym3, at2]
            have hfin := HS3.out
            dsimp only at hfin
            rw [e, ← hst.out] at hfin
            exact ⟨((HK0.out.1.trans HK1.out.1).trans HK2.out.1).from _, (HK0.out.2.trans HK1.out.2).trans HK2.out.2, hfin⟩
      | false =>
        have hS := HS0.out
        have C := Kd.C_below HC.out hS.below
        have cz := (blk_cell hS.b0 0).trans rfl
        have cp := (blk_cell hS.bp 0).trans rfl
        have cq := (blk_cell hS.bq 0).trans rfl
        have d1 := (blk_cell hS.b1 0).trans rfl
        have x1 := blk_frozen hS.b1 0
        have hri := HRi.out
        obtain ⟨ad', Ai', ci', e0, hci, hle', Ci⟩ := at_L1 C (i : Int) (by omega) (by omega)
        cases e0
        obtain ⟨adi, e1, hcij⟩ := Kd.at_int Ci (j : Int) (by omega) (by omega)
        subst e1
        simp only [Int.toNat_natCast] at hci hcij
        clear hS
        clear C
        try clear Ci
        gi_wp2
        refine wpIn_round_quiet_tail 16 hmx (by kernel_rfl) (by kernel_rfl) (fun ⟨_, _, h⟩ => h) ?_
        simp only [List.take_succ_cons, List.take_zero, List.drop_succ_cons, List.drop_zero]
        repeat (go_big_quiet_step ((go_at_call 45; refine Calls.quiet_of ((contrast_different.calls _ _ _ _ (diff_some _ _)).mono (fun _ _ hh => ⟨hh.1, hh.2.out⟩)))))
        refine wpQuiet_nil ?_
        intro _ hw'
        obtain ⟨n0, hw''⟩ := hw'
        subst hw''
        go_wp2_with fail
        try gi_wp2_with fail
        have HS1 := Aside0.mk (HS0.out.set1 n0 false)
        have HK0 : Aside0 (KeepsOthers W ((W.drewN n0).setCell ⟨w.heap.size + 1, 0, none⟩ (.bool false)) ∧ Below w.heap.size W ((W.drewN n0).setCell ⟨w.heap.size + 1, 0, none⟩ (.bool false))) := ⟨⟨keeps_drewN_set _ _ _ _, (pw_below_drewN (Below.refl _ _) _).setCell (p := ⟨w.heap.size + 1, 0, none⟩) (by simp <;> omega) _⟩⟩
        generalize hW0 : (W.drewN n0).setCell ⟨w.heap.size + 1, 0, none⟩ (.bool false) = W1 at HS1 HK0
        try rw [show ((W.drewN n0).setCell ⟨w.heap.size + 1, 0, none⟩ (.bool false)) = W1 from hW0]
        clear hW0
        clear cz cp cq d1 x1 hri
        clear hci hcij hle'
        cases s2 with
        | true =>
          have hS := HS1.out
          have C := Kd.C_below HC.out hS.below
          have cz := (blk_cell hS.b0 0).trans rfl
          have cp := (blk_cell hS.bp 0).trans rfl
          have cq := (blk_cell hS.bq 0).trans rfl
          have d1 := (blk_cell hS.b2 0).trans rfl
          have x1 := blk_frozen hS.b2 0
          have hri := HRi.out
          have hrj := HRect.out (l0.length - 1 - i) (by omega)
          rw [show ((l0.length - 1 - i : Nat) : Int) = (l0.length : Int) - 1 - i from by omega] at hrj
          obtain ⟨ad2, Aj, cj, e2, hcj, hlej, Cj⟩ := at_L1 C ((l0.length : Int) - 1 - i) (by omega) (by omega)
          cases e2
          obtain ⟨adj, e3, hcji⟩ := Kd.at_int Cj (((rd_L1 l0 0).length : Int) - 1 - j) (by omega) (by omega)
          subst e3
          rw [show ((l0.length : Int) - 1 - i).toNat = l0.length - 1 - i from by omega] at hcj
          rw [show (((rd_L1 l0 0).length : Int) - 1 - j).toNat = (rd_L1 l0 0).length - 1 - j from by omega] at hcji
          clear Cj
          clear hS
          clear C
          try clear Ci
          gi_wp2
          refine wpIn_round_quiet_tail 19 hmx (by kernel_rfl) (by kernel_rfl) (fun ⟨_, _, h⟩ => h) ?_
          simp only [List.take_succ_cons, List.take_zero, List.drop_succ_cons, List.drop_zero]
          repeat (go_big_quiet_step ((go_at_call 45; refine Calls.quiet_of ((contrast_different.calls _ _ _ _ (diff_some _ _)).mono (fun _ _ hh => ⟨hh.1, hh.2.out⟩)))))
          refine wpQuiet_nil ?_
          intro _ hw'
          obtain ⟨n1, hw''⟩ := hw'
          subst hw''
          go_wp2_with fail
          try gi_wp2_with fail
          have HS2 := Aside0.mk (HS1.out.set2 n1 (!diffB (rd (rd_L1 l0 i) j) (rd (rd_L1 l0 ((l0.length : Int) - 1 - i)) (((rd_L1 l0 0).length : Int) - 1 - j))))
          have HK1 : Aside0 (KeepsOthers W1 ((W1.drewN n1).setCell ⟨w.heap.size + 1 + 1, 0, none⟩ (.bool (!diffB (rd (rd_L1 l0 i) j) (rd (rd_L1 l0 ((l0.length : Int) - 1 - i)) (((rd_L1 l0 0).length : Int) - 1 - j))))) ∧ Below w.heap.size W1 ((W1.drewN n1).setCell ⟨w.heap.size + 1 + 1, 0, none⟩ (.bool (!diffB (rd (rd_L1 l0 i) j) (rd (rd_L1 l0 ((l0.length : Int) - 1 - i)) (((rd_L1 l0 0).length : Int) - 1 - j)))))) := ⟨⟨keeps_drewN_set _ _ _ _, (pw_below_drewN (Below.refl _ _) _).setCell (p := ⟨w.heap.size + 1 + 1, 0, none⟩) (by simp <;> omega) _⟩⟩
          generalize hW1 : (W1.drewN n1).setCell ⟨w.heap.size + 1 + 1, 0, none⟩ (.bool (!diffB (rd (rd_L1 l0 i) j) (rd (rd_L1 l0 ((l0.length : Int) - 1 - i)) (((rd_L1 l0 0).length : Int) - 1 - j)))) = W2 at HS2 HK1
          try rw [show ((W1.drewN n1).setCell ⟨w.heap.size + 1 + 1, 0, none⟩ (.bool (!diffB _ _))) = W2 from hW1]
          clear hW1
          clear cz cp cq d1 x1 hri
          clear hcj hcji hlej
          cases s3 with
          | true =>
            have hS := HS2.out
            have C := Kd.C_below HC.out hS.below
            have cz := (blk_cell hS.b0 0).trans rfl
            have cp := (blk_cell hS.bp 0).trans rfl
            have cq := (blk_cell hS.bq 0).trans rfl
            have d1 := (blk_cell hS.b3 0).trans rfl
            have x1 := blk_frozen hS.b3 0
            have hri := HRi.out
            obtain ⟨ad2, Aj, cj, e2, hcj, hlej, Cj⟩ := at_L1 C (i : Int) (by omega) (by omega)
            cases e2
            obtain ⟨adj, e3, hcji⟩ := Kd.at_int Cj (((rd_L1 l0 0).length : Int) - 1 - j) (by omega) (by omega)
            subst e3
            simp only [Int.toNat_natCast] at hcj
            rw [show (((rd_L1 l0 0).length : Int) - 1 - j).toNat = (rd_L1 l0 0).length - 1 - j from by omega] at hcji
            clear Cj
            clear hS
            clear C
            try clear Ci
            gi_wp2
            refine wpIn_round_quiet_tail 16 hmx (by kernel_rfl) (by kernel_rfl) (fun ⟨_, _, h⟩ => h) ?_
            simp only [List.take_succ_cons, List.take_zero, List.drop_succ_cons, List.drop_zero]
            repeat (go_big_quiet_step ((go_at_call 45; refine Calls.quiet_of ((contrast_different.calls _ _ _ _ (diff_some _ _)).mono (fun _ _ hh => ⟨hh.1, hh.2.out⟩)))))
            refine wpQuiet_nil ?_
            intro _ hw'
            obtain ⟨n2, hw''⟩ := hw'
            subst hw''
            go_wp2_with fail
            try gi_wp2_with fail
            have HS3 := Aside0.mk (HS2.out.set3 n2 (!diffB (rd (rd_L1 l0 i) j) (rd (rd_L1 l0 i) (((rd_L1 l0 0).length : Int) - 1 - j))))
            have HK2 : Aside0 (KeepsOthers W2 ((W2.drewN n2).setCell ⟨w.heap.size + 1 + 1 + 1, 0, none⟩ (.bool (!diffB (rd (rd_L1 l0 i) j) (rd (rd_L1 l0 i) (((rd_L1 l0 0).length : Int) - 1 - j))))) ∧ Below w.heap.size W2 ((W2.drewN n2).setCell ⟨w.heap.size + 1 + 1 + 1, 0, none⟩ (.bool (!diffB (rd (rd_L1 l0 i) j) (rd (rd_L1 l0 i) (((rd_L1 l0 0).length : Int) - 1 - j)))))) := ⟨⟨keeps_drewN_set _ _ _ _, (pw_below_drewN (Below.refl _ _) _).setCell (p := ⟨w.heap.size + 1 + 1 + 1, 0, none⟩) (by simp <;> omega) _⟩⟩
            generalize hW2 : (W2.drewN n2).setCell ⟨w.heap.size + 1 + 1 + 1, 0, none⟩ (.bool (!diffB (rd (rd_L1 l0 i) j) (rd (rd_L1 l0 i) (((rd_L1 l0 0).length : Int) - 1 - j)))) = W3 at HS3 HK2
            try rw [show ((W2.drewN n2).setCell ⟨w.heap.size + 1 + 1 + 1, 0, none⟩ (.bool (!diffB _ _))) = W3 from hW2]
            clear hW2
            clear cz cp cq d1 x1 hri
            clear hcj hcji hlej
            have e : (false, (!diffB (rd (rd_L1 l0 i) j) (rd (rd_L1 l0 ((l0.length : Int) - 1 - i)) (((rd_L1 l0 0).length : Int) - 1 - j))), (!diffB (rd (rd_L1 l0 i) j) (rd (rd_L1 l0 i) (((rd_L1 l0 0).length : Int) - 1 - j)))) = (sym1 l0 i j false, sym2 l0 i j true, sym3 l0 i j true) := by simp [sym1, sym2, sym3, at2]
            have hfin := HS3.out
            dsimp only at hfin
            rw [e, ← hst.out] at hfin
            exact ⟨((HK0.out.1.trans HK1.out.1).trans HK2.out.1).from _, (HK0.out.2.trans HK1.out.2).trans HK2.out.2, hfin⟩
          | false =>
            have hS := HS2.out
            have C := Kd.C_below HC.out hS.below
            have cz := (blk_cell hS.b0 0).trans rfl
            have cp := (blk_cell hS.bp 0).trans rfl
            have cq := (blk_cell hS.bq 0).trans rfl
            have d1 := (blk_cell hS.b3 0).trans rfl
            have x1 := blk_frozen hS.b3 0
            have hri := HRi.out
            clear hS
            clear C
            try clear Ci
            gi_wp2
            refine wpIn_round_quiet_tail 16 hmx (by kernel_rfl) (by kernel_rfl) (fun ⟨_, _, h⟩ => h) ?_
            simp only [List.take_succ_cons, List.take_zero, List.drop_succ_cons, List.drop_zero]
            repeat (go_big_quiet_step ((go_at_call 45; refine Calls.quiet_of ((contrast_different.calls _ _ _ _ (diff_some _ _)).mono (fun _ _ hh => ⟨hh.1, hh.2.out⟩)))))
            refine wpQuiet_nil ?_
            intro _ hw'
            obtain ⟨n2, hw''⟩ := hw'
            subst hw''
            go_wp2_with fail
            try gi_wp2_with fail
            have HS3 := Aside0.mk (HS2.out.set3 n2 false)
            have HK2 : Aside0 (KeepsOthers W2 ((W2.drewN n2).setCell ⟨w.heap.size + 1 + 1 + 1, 0, none⟩ (.bool false)) ∧ Below w.heap.size W2 ((W2.drewN n2).setCell ⟨w.heap.size + 1 + 1 + 1, 0, none⟩ (.bool false))) := ⟨⟨keeps_drewN_set _ _ _ _, (pw_below_drewN (Below.refl _ _) _).setCell (p := ⟨w.heap.size + 1 + 1 + 1, 0, none⟩) (by simp <;> omega) _⟩⟩
            generalize hW2 : (W2.drewN n2).setCell ⟨w.heap.size + 1 + 1 + 1, 0, none⟩ (.bool false) = W3 at HS3 HK2
            try rw [show ((W2.drewN n2).setCell ⟨w.heap.size + 1 + 1 + 1, 0, none⟩ (.bool false)) = W3 from hW2]
            clear hW2
            clear cz cp cq d1 x1 hri
            have e : (false, (!diffB (rd (rd_L1 l0 i) j) (rd (rd_L1 l0 ((l0.length : Int) - 1 - i)) (((rd_L1 l0 0).length : Int) - 1 - j))), false) = (sym1 l0 i j false, sym2 l0 i j true, sym3 l0 i j false) := by simp [sym1, sym2, sym3, at2]
            have hfin := HS3.out
            dsimp only at hfin
            rw [e, ← hst.out] at hfin
            exact ⟨((HK0.out.1.trans HK1.out.1).trans HK2.out.1).from _, (HK0.out.2.trans HK1.out.2).trans HK2.out.2, hfin⟩
        | false =>
          have hS := HS1.out
          have C := Kd.C_below HC.out hS.below
          have cz := (blk_cell hS.b0 0).trans rfl
          have cp := (blk_cell hS.bp 0).trans rfl
          have cq := (blk_cell hS.bq 0).trans rfl
          have d1 := (blk_cell hS.b2 0).trans rfl
          have x1 := blk_frozen hS.b2 0
          have hri := HRi.out
          clear hS
          clear C
          try clear Ci
          gi_wp2
          refine wpIn_round_quiet_tail 19 hmx (by kernel_rfl) (by kernel_rfl) (fun ⟨_, _, h⟩ => h) ?_
          simp only [List.take_succ_cons, List.take_zero, List.drop_succ_cons, List.drop_zero]
          repeat (go_big_quiet_step ((go_at_call 45; refine Calls.quiet_of ((contrast_different.calls _ _ _ _ (diff_some _ _)).mono (fun _ _ hh => ⟨hh.1, hh.2.out⟩)))))
          refine wpQuiet_nil ?_
          intro _ hw'
          obtain ⟨n1, hw''⟩ := hw'
          subst hw''
          go_wp2_with fail
          try gi_wp2_with fail
          have HS2 := Aside0.mk (HS1.out.set2 n1 false)
          have HK1 : Aside0 (KeepsOthers W1 ((W1.drewN n1).setCell ⟨w.heap.size + 1 + 1, 0, none⟩ (.bool false)) ∧ Below w.heap.size W1 ((W1.drewN n1).setCell ⟨w.heap.size + 1 + 1, 0, none⟩ (.bool false))) := ⟨⟨keeps_drewN_set _ _ _ _, (pw_below_drewN (Below.refl _ _) _).setCell (p := ⟨w.heap.size + 1 + 1, 0, none⟩) (by simp <;> omega) _⟩⟩
          generalize hW1 : (W1.drewN n1).setCell ⟨w.heap.size + 1 + 1, 0, none⟩ (.bool false) = W2 at HS2 HK1
          try rw [show ((W1.drewN n1).setCell ⟨w.heap.size + 1 + 1, 0, none⟩ (.bool false)) = W2 from hW1]
          clear hW1
          clear cz cp cq d1 x1 hri
          cases s3 with
          | true =>
            have hS := HS2.out
            have C := Kd.C_below HC.out hS.below
            have cz := (blk_cell hS.b0 0).trans rfl
            have cp := (blk_cell hS.bp 0).trans rfl
            have cq := (blk_cell hS.bq 0).trans rfl
            have d1 := (blk_cell hS.b3 0).trans rfl
            have x1 := blk_frozen hS.b3 0
            have hri := HRi.out
            obtain ⟨ad2, Aj, cj, e2, hcj, hlej, Cj⟩ := at_L1 C (i : Int) (by omega) (by omega)
            cases e2
            obtain ⟨adj, e3, hcji⟩ := Kd.at_int Cj (((rd_L1 l0 0).length : Int) - 1 - j) (by omega) (by omega)
            subst e3
            simp only [Int.toNat_natCast] at hcj
            rw [show (((rd_L1 l0 0).length : Int) - 1 - j).toNat = (rd_L1 l0 0).length - 1 - j from by omega] at hcji
            clear Cj
            clear hS
            clear C
            try clear Ci
            gi_wp2
            refine wpIn_round_quiet_tail 16 hmx (by kernel_rfl) (by kernel_rfl) (fun ⟨_, _, h⟩ => h) ?_
            simp only [List.take_succ_cons, List.take_zero, List.drop_succ_cons, List.drop_zero]
            repeat (go_big_quiet_step ((go_at_call 45; refine Calls.quiet_of ((contrast_different.calls _ _ _ _ (diff_some _ _)).mono (fun _ _ hh => ⟨hh.1, hh.2.out⟩)))))
            refine wpQuiet_nil ?_
            intro _ hw'
            obtain ⟨n2, hw''⟩ := hw'
            subst hw''
            go_wp2_with fail
            try gi_wp2_with fail
            have HS3 := Aside0.mk (HS2.out.set3 n2 (!diffB (rd (rd_L1 l0 i) j) (rd (rd_L1 l0 i) (((rd_L1 l0 0).length : Int) - 1 - j))))
            have HK2 : Aside0 (KeepsOthers W2 ((W2.drewN n2).setCell ⟨w.heap.size + 1 + 1 + 1, 0, none⟩ (.bool (!diffB (rd (rd_L1 l0 i) j) (rd (rd_L1 l0 i) (((rd_L1 l0 0).length : Int) - 1 - j))))) ∧ Below w.heap.size W2 ((W2.drewN n2).setCell ⟨w.heap.size + 1 + 1 + 1, 0, none⟩ (.bool (!diffB (rd (rd_L1 l0 i) j) (rd (rd_L1 l0 i) (((rd_L1 l0 0).length : Int) - 1 - j)))))) := ⟨⟨keeps_drewN_set _ _ _ _, (pw_below_drewN (Below.refl _ _) _).setCell (p := ⟨w.heap.size + 1 + 1 + 1, 0, none⟩) (by simp <;> omega) _⟩⟩
            generalize hW2 : (W2.drewN n2).setCell ⟨w.heap.size + 1 + 1 + 1, 0, none⟩ (.bool (!diffB (rd (rd_L1 l0 i) j) (rd (rd_L1 l0 i) (((rd_L1 l0 0).length : Int) - 1 - j)))) = W3 at HS3 HK2
            try rw [show ((W2.drewN n2).setCell ⟨w.heap.size + 1 + 1 + 1, 0, none⟩ (.bool (!diffB _ _))) = W3 from hW2]
            clear hW2
            clear cz cp cq d1 x1 hri
            clear hcj hcji hlej
            have e : (false, false, (!diffB (rd (rd_L1 l0 i) j) (rd (rd_L1 l0 i) (((rd_L1 l0 0).length : Int) - 1 - j)))) = (sym1 l0 i j false, sym2 l0 i j false, sym3 l0 i j true) := by simp [sym1, sym2, sym3, at2]
            have hfin := HS3.out
            dsimp only at hfin
            rw [e, ← hst.out] at hfin
            exact ⟨((HK0.out.1.trans HK1.out.1).trans HK2.out.1).from _, (HK0.out.2.trans HK1.out.2).trans HK2.out.2, hfin⟩
          | false =>
            have hS := HS2.out
            have C := Kd.C_below HC.out hS.below
            have cz := (blk_cell hS.b0 0).trans rfl
            have cp := (blk_cell hS.bp 0).trans rfl
            have cq := (blk_cell hS.bq 0).trans rfl
            have d1 := (blk_cell hS.b3 0).trans rfl
            have x1 := blk_frozen hS.b3 0
            have hri := HRi.out
            clear hS
            clear C
            try clear Ci
            gi_wp2
            refine wpIn_round_quiet_tail 16 hmx (by kernel_rfl) (by kernel_rfl) (fun ⟨_, _, h⟩ => h) ?_
            simp only [List.take_succ_cons, List.take_zero, List.drop_succ_cons, List.drop_zero]
            repeat (go_big_quiet_step ((go_at_call 45; refine Calls.quiet_of ((contrast_different.calls _ _ _ _ (diff_some _ _)).mono (fun _ _ hh => ⟨hh.1, hh.2.out⟩)))))
            refine wpQuiet_nil ?_
            intro _ hw'
            obtain ⟨n2, hw''⟩ := hw'
            subst hw''
            go_wp2_with fail
            try gi_wp2_with fail
            have HS3 := Aside0.mk (HS2.out.set3 n2 false)
            have HK2 : Aside0 (KeepsOthers W2 ((W2.drewN n2).setCell ⟨w.heap.size + 1 + 1 + 1, 0, none⟩ (.bool false)) ∧ Below w.heap.size W2 ((W2.drewN n2).setCell ⟨w.heap.size + 1 + 1 + 1, 0, none⟩ (.bool false))) := ⟨⟨keeps_drewN_set _ _ _ _, (pw_below_drewN (Below.refl _ _) _).setCell (p := ⟨w.heap.size + 1 + 1 + 1, 0, none⟩) (by simp <;> omega) _⟩⟩
            generalize hW2 : (W2.drewN n2).setCell ⟨w.heap.size + 1 + 1 + 1, 0, none⟩ (.bool false) = W3 at HS3 HK2
            try rw [show ((W2.drewN n2).setCell ⟨w.heap.size + 1 + 1 + 1, 0, none⟩ (.bool false)) = W3 from hW2]
            clear hW2
            clear cz cp cq d1 x1 hri
            have e : (false, false, false) = (sym1 l0 i j false, sym2 l0 i j false, sym3 l0 i j false) := by simp [sym1, sym2, sym3, at2]
            have hfin := HS3.out
            dsimp only at hfin
            rw [e, ← hst.out] at hfin
            exact ⟨((HK0.out.1.trans HK1.out.1).trans HK2.out.1).from _, (HK0.out.2.trans HK1.out.2).trans HK2.out.2, hfin⟩
    case done =>
      rintro D ys W hD rfl hS hK
      have hD' : w.heap.size + 1 + 1 + 1 + 1 ≤ D := by
        have h := hD
        simp at h
        omega
      clear hD
      have HS := Aside0.mk hS
      have d1 : W.cell? ⟨w.heap.size + 1, 0, none⟩ = some (.bool ((sqAll l0).foldl (symStep l0) (symStart l0)).1) := (blk_cell hS.b1 0).trans rfl
      have d2 : W.cell? ⟨w.heap.size + 1 + 1, 0, none⟩ = some (.bool ((sqAll l0).foldl (symStep l0) (symStart l0)).2.1) := (blk_cell hS.b2 0).trans rfl
      have d3 : W.cell? ⟨w.heap.size + 1 + 1 + 1, 0, none⟩ = some (.bool ((sqAll l0).foldl (symStep l0) (symStart l0)).2.2) := (blk_cell hS.b3 0).trans rfl
      have x1 := blk_frozen hS.b1 0
      have x2 := blk_frozen hS.b2 0
      have x3 := blk_frozen hS.b3 0
      clear hS
      gi_wp2
      refine wpIn_wide.2 ?_
      go_region
      all_goals gi_wp2
      all_goals
        have hK' : ((((W.setCell ⟨w.heap.size + 1, 0, none⟩ (.bool ((sqAll l0).foldl (symStep l0) (symStart l0)).1)).setCell ⟨w.heap.size + 1 + 1, 0, none⟩ (.bool ((sqAll l0).foldl (symStep l0) (symStart l0)).2.1)).setCell ⟨w.heap.size + 1 + 1 + 1, 0, none⟩ (.bool ((sqAll l0).foldl (symStep l0) (symStart l0)).2.2)).drew).heap[D]? = some (.deferred (some [])) :=
          (((KeepsOthers.setCell W ⟨w.heap.size + 1, 0, none⟩ (.bool ((sqAll l0).foldl (symStep l0) (symStart l0)).1)).trans (KeepsOthers.setCell _ ⟨w.heap.size + 1 + 1, 0, none⟩ (.bool ((sqAll l0).foldl (symStep l0) (symStart l0)).2.1))).trans (KeepsOthers.setCell _ ⟨w.heap.size + 1 + 1 + 1, 0, none⟩ (.bool ((sqAll l0).foldl (symStep l0) (symStart l0)).2.2))).same D _ hK rfl
        have hS3 := ((HS.out.set1 0 ((sqAll l0).foldl (symStep l0) (symStart l0)).1).set2 0 ((sqAll l0).foldl (symStep l0) (symStart l0)).2.1).set3 0 ((sqAll l0).foldl (symStep l0) (symStart l0)).2.2
        refine ⟨by simp, .inl ⟨_, _, rfl, run_takeDeferred hK', ?_⟩⟩
        have e1 := (blk_cell (blk_grown (w := (((W.setCell ⟨w.heap.size + 1, 0, none⟩ (.bool ((sqAll l0).foldl (symStep l0) (symStart l0)).1)).setCell ⟨w.heap.size + 1 + 1, 0, none⟩ (.bool ((sqAll l0).foldl (symStep l0) (symStart l0)).2.1)).setCell ⟨w.heap.size + 1 + 1 + 1, 0, none⟩ (.bool ((sqAll l0).foldl (symStep l0) (symStart l0)).2.2)).drew) hS3.b1 (grownBy_putObj' _ D (.deferred none)) (by simp; omega)) 0).trans rfl
        have e2 := (blk_cell (blk_grown (w := (((W.setCell ⟨w.heap.size + 1, 0, none⟩ (.bool ((sqAll l0).foldl (symStep l0) (symStart l0)).1)).setCell ⟨w.heap.size + 1 + 1, 0, none⟩ (.bool ((sqAll l0).foldl (symStep l0) (symStart l0)).2.1)).setCell ⟨w.heap.size + 1 + 1 + 1, 0, none⟩ (.bool ((sqAll l0).foldl (symStep l0) (symStart l0)).2.2)).drew) hS3.b2 (grownBy_putObj' _ D (.deferred none)) (by simp; omega)) 0).trans rfl
        have e3 := (blk_cell (blk_grown (w := (((W.setCell ⟨w.heap.size + 1, 0, none⟩ (.bool ((sqAll l0).foldl (symStep l0) (symStart l0)).1)).setCell ⟨w.heap.size + 1 + 1, 0, none⟩ (.bool ((sqAll l0).foldl (symStep l0) (symStart l0)).2.1)).setCell ⟨w.heap.size + 1 + 1 + 1, 0, none⟩ (.bool ((sqAll l0).foldl (symStep l0) (symStart l0)).2.2)).drew) hS3.b3 (grownBy_putObj' _ D (.deferred none)) (by simp; omega)) 0).trans rfl
        refine ⟨_, ?_, rfl, (below_drew hS3.below).trans (belowK_b (w := w) (Nat.le_refl _) _ D _ _ (by omega) hK' rfl rfl)⟩
        simp only [] at e1 e2 e3
        simp [results, Try.f17, go_sem, e1, e2, e3]
    case stop =>
      rintro D c pre W _ _ h _
      exact h.elim
set_option maxRecDepth 100000 in
set_option maxHeartbeats 4000000 in
theorem contrast_Symmetric.no (A0 : Option Addr) (c0 : Nat) (l0 : List (List Int)) (k : Nat) (hv : window_Valid.f k l0 = some false) (w : World) (hr0 : Kd.C (Kd.slice 3 (Kd.int .i64)) w A0 l0.length l0) (hc0 : l0.length ≤ c0) :
    Calls Try.prog 17 #[.slice A0 l0.length c0] w fun e w' => e = .returned (.tuple #[.bool false, .bool false, .bool false, .int .i64 1]) ∧ Below w.heap.size w w' := by
  have HC1 := Aside0.mk (Kd.C_alloc (Kd.C_alloc (Kd.C_alloc (Kd.C_alloc hr0 (.cells #[.slice A0 l0.length c0] 23)) (.cells #[.bool false] 4)) (.cells #[.bool false] 4)) (.cells #[.bool false] 4))
  have HV := Aside0.mk hv
  clear hv hr0
  go_enter Try.func17, Try.ntmps17
  go_wp2_with (go_at_call 43; refine (window_Valid.calls k A0 c0 l0 false _ HC1.out hc0 HV.out).mono ?_; rintro e w' ⟨rfl, ⟨nd, rfl⟩⟩)
  refine bodyPost_ret (v := .tuple #[.bool false, .bool false, .bool false, .int .i64 1]) ?_ rfl ⟨rfl, ?_⟩
  · simp [results, Try.f17, go_sem]
  · repeat' (first | exact Below.refl _ _ | apply below_alloc | apply pw_below_drewN | refine Below.setCell ?_ ?_ _)
    all_goals (simp <;> omega)

def contrast_Symmetric.f (k : Nat) (l0 : List (List Int)) : Option (Bool × Bool × Bool × Int) :=
  (window_Valid.f k l0).bind fun v => if v = true then (let p := (sqAll l0).foldl (symStep l0) (symStart l0); some (p.1, p.2.1, p.2.2, 0)) else some (false, false, false, 1)
theorem contrast_Symmetric.mono : ∀ a0 k, LeO (contrast_Symmetric.f k a0) (contrast_Symmetric.f (k + 1) a0) := fun a0 k => LeO.bind (window_Valid.mono a0 k) (fun _ => LeO.refl _)
theorem contrast_Symmetric.calls (k : Nat) (A0 : Option Addr) (c0 : Nat) (l0 : List (List Int)) (r1 : Bool) (r2 : Bool) (r3 : Bool) (r4 : Int) (w : World) (hr0 : Kd.C (Kd.slice 3 (Kd.int .i64)) w A0 l0.length l0) (hc0 : l0.length ≤ c0) (h : contrast_Symmetric.f k l0 = some (r1, r2, r3, r4)) :
    Calls Try.prog 17 #[.slice A0 l0.length c0] w fun e w' => e = .returned (.tuple #[.bool r1, .bool r2, .bool r3, .int .i64 r4]) ∧ Below w.heap.size w w' := by
  unfold contrast_Symmetric.f at h
  cases hv : window_Valid.f k l0 with
  | none => rw [hv] at h; simp at h
  | some b =>
    rw [hv] at h
    cases b with
    | true =>
      simp only [Option.bind_some, if_true, Option.some.injEq, Prod.mk.injEq] at h
      obtain ⟨rfl, rfl, rfl, rfl⟩ := h
      have hr := validB_rows (window_valid_is l0 hv).symm
      exact contrast_Symmetric.yes A0 c0 l0 k hv (by omega) (fun i hi => (hr.2.2.2.2 i hi).1) w hr0 hc0
    | false =>
      simp at h
      obtain ⟨rfl, rfl, rfl, rfl⟩ := h
      exact contrast_Symmetric.no A0 c0 l0 k hv w hr0 hc0

end

/-! ### culetlaw36_awake: function 13 -/
def culetlaw36_awake.f (k : Nat)  : Option (Bool) := (contrast_Of.f k (([(([1, 2, 2, 3] : List Int))] : List (List Int)))).bind fun bt110 => ((contrast_Symmetric.f k (([(([1, 2, 2, 3] : List Int))] : List (List Int)))).bind fun bt121 => (if bt110.2.2.2 = 0 then (if bt121.2.2.2 = 0 then (if (bt110.1 == 1 && (bt110.2.1 == 1 && (bt110.2.2.1 == 1))) = true then (if bt121.2.1 = true then (some bt121.2.2.1) else (some false)) else (some false)) else (some false)) else (some false)))
theorem culetlaw36_awake.mono : ∀ k, LeO (culetlaw36_awake.f k ) (culetlaw36_awake.f (k + 1) ) := by
  intro  k
  unfold culetlaw36_awake.f
  repeat' first
      | (with_reducible exact contrast_Of.mono _ _)
      | (with_reducible exact contrast_Symmetric.mono _ _)
      | (with_reducible exact LeO.refl _)
      | (with_reducible exact LeO.none _)
      | (with_reducible refine LeO.ite ?_ ?_)
      | (with_reducible refine LeO.bind ?_ (fun _ => ?_))
      | exact contrast_Of.mono _ _
      | exact contrast_Symmetric.mono _ _
      | exact LeO.none _
      | refine LeO.ite ?_ ?_
      | refine LeO.bind ?_ (fun _ => ?_)
set_option maxHeartbeats 8000000 in
set_option maxRecDepth 100000 in
theorem culetlaw36_awake.calls (k : Nat)  (r : Bool) (w : World) (h : culetlaw36_awake.f k  = some r) :
    Calls Try.prog 13 #[] w fun e w' => e = .returned (.bool r) ∧ Below w.heap.size w w' := by
  have hu36 := Try.underlying36
  have HB := Aside0.mk (Below.refl w.heap.size w)
  have H : ((contrast_Of.f k (([(([1, 2, 2, 3] : List Int))] : List (List Int)))).bind fun bt110 => ((contrast_Symmetric.f k (([(([1, 2, 2, 3] : List Int))] : List (List Int)))).bind fun bt121 => (if bt110.2.2.2 = 0 then (if bt121.2.2.2 = 0 then (if (bt110.1 == 1 && (bt110.2.1 == 1 && (bt110.2.2.1 == 1))) = true then (if bt121.2.1 = true then (some bt121.2.2.1) else (some false)) else (some false)) else (some false)) else (some false)))) = some r := h
  clear h
  obtain ⟨y104, hy104⟩ : ∃ y_ : List Int, y_ = (([1, 2, 2, 3] : List Int)) := ⟨_, rfl⟩
  replace H : ((contrast_Of.f k (([y104] : List (List Int)))).bind fun bt110 => ((contrast_Symmetric.f k (([(([1, 2, 2, 3] : List Int))] : List (List Int)))).bind fun bt121 => (if bt110.2.2.2 = 0 then (if bt121.2.2.2 = 0 then (if (bt110.1 == 1 && (bt110.2.1 == 1 && (bt110.2.2.1 == 1))) = true then (if bt121.2.1 = true then (some bt121.2.2.1) else (some false)) else (some false)) else (some false)) else (some false)))) = some r := by first | (rw [hy104]; with_reducible exact H) | (have H2_ := (Option.bind_some _ _).symm.trans H; rw [hy104]; with_reducible exact H2_) | (have H2_ := (Option.bind_some _ _).symm.trans H; with_reducible exact H2_) | with_reducible exact H | (rw [hy104]; exact H) | exact H
  have Ny104 := Aside0.mk hy104
  clear hy104
  obtain ⟨y107, hy107⟩ : ∃ y_ : List (List Int), y_ = (([y104] : List (List Int))) := ⟨_, rfl⟩
  replace H : ((contrast_Of.f k y107).bind fun bt110 => ((contrast_Symmetric.f k (([(([1, 2, 2, 3] : List Int))] : List (List Int)))).bind fun bt121 => (if bt110.2.2.2 = 0 then (if bt121.2.2.2 = 0 then (if (bt110.1 == 1 && (bt110.2.1 == 1 && (bt110.2.2.1 == 1))) = true then (if bt121.2.1 = true then (some bt121.2.2.1) else (some false)) else (some false)) else (some false)) else (some false)))) = some r := by first | (rw [hy107]; with_reducible exact H) | (have H2_ := (Option.bind_some _ _).symm.trans H; rw [hy107]; with_reducible exact H2_) | (have H2_ := (Option.bind_some _ _).symm.trans H; with_reducible exact H2_) | with_reducible exact H | (rw [hy107]; exact H) | exact H
  have Ny107 := Aside0.mk hy107
  clear hy107
  replace H := Option.bind_eq_some_iff.mp H
  obtain ⟨⟨t110, t111, t112, t113⟩, A10, H⟩ := H
  replace H : ((contrast_Symmetric.f k (([(([1, 2, 2, 3] : List Int))] : List (List Int)))).bind fun bt121 => (if t113 = 0 then (if bt121.2.2.2 = 0 then (if (t110 == 1 && (t111 == 1 && (t112 == 1))) = true then (if bt121.2.1 = true then (some bt121.2.2.1) else (some false)) else (some false)) else (some false)) else (some false))) = some r := H
  have A1 := Aside0.mk A10
  clear A10
  obtain ⟨y115, hy115⟩ : ∃ y_ : List Int, y_ = (([1, 2, 2, 3] : List Int)) := ⟨_, rfl⟩
  replace H : ((contrast_Symmetric.f k (([y115] : List (List Int)))).bind fun bt121 => (if t113 = 0 then (if bt121.2.2.2 = 0 then (if (t110 == 1 && (t111 == 1 && (t112 == 1))) = true then (if bt121.2.1 = true then (some bt121.2.2.1) else (some false)) else (some false)) else (some false)) else (some false))) = some r := by first | (rw [hy115]; with_reducible exact H) | (have H2_ := (Option.bind_some _ _).symm.trans H; rw [hy115]; with_reducible exact H2_) | (have H2_ := (Option.bind_some _ _).symm.trans H; with_reducible exact H2_) | with_reducible exact H | (rw [hy115]; exact H) | exact H
  have Ny115 := Aside0.mk hy115
  clear hy115
  obtain ⟨y118, hy118⟩ : ∃ y_ : List (List Int), y_ = (([y115] : List (List Int))) := ⟨_, rfl⟩
  replace H : ((contrast_Symmetric.f k y118).bind fun bt121 => (if t113 = 0 then (if bt121.2.2.2 = 0 then (if (t110 == 1 && (t111 == 1 && (t112 == 1))) = true then (if bt121.2.1 = true then (some bt121.2.2.1) else (some false)) else (some false)) else (some false)) else (some false))) = some r := by first | (rw [hy118]; with_reducible exact H) | (have H2_ := (Option.bind_some _ _).symm.trans H; rw [hy118]; with_reducible exact H2_) | (have H2_ := (Option.bind_some _ _).symm.trans H; with_reducible exact H2_) | with_reducible exact H | (rw [hy118]; exact H) | exact H
  have Ny118 := Aside0.mk hy118
  clear hy118
  replace H := Option.bind_eq_some_iff.mp H
  obtain ⟨⟨t121, t122, t123, t124⟩, A20, H⟩ := H
  replace H : (if t113 = 0 then (if t124 = 0 then (if (t110 == 1 && (t111 == 1 && (t112 == 1))) = true then (if t122 = true then (some t123) else (some false)) else (some false)) else (some false)) else (some false)) = some r := H
  have A2 := Aside0.mk A20
  clear A20
  go_enter Try.func13, Try.ntmps13
  go_upto_region 3 with (first | ((with_reducible refine gate_dst (N := 8) rfl ?_); refine Kd.R_lit (Kd.int .i64) _ 3 ?hg (N := 8) ?hd (xs := ([1, 2, 2, 3] : List Int)) (inner := [.int .i64 1, .int .i64 2, .int .i64 2, .int .i64 3]) (ok := fun _ => True) (okp := fun _ => True) ?hr ?hp (fun _ hk => hk) trivial (Below.refl _ _) (Nat.le_refl _) (by simp) ?_; (case hd => rfl); (case hg => rfl); (case hr => first | (go_simp; done) | (go_simp; rfl)); (case hp => exact (Reps.one (show Kd.M (Kd.int .i64) _ _ _ 1 [.int .i64 1] from rfl) (Reps.one (show Kd.M (Kd.int .i64) _ _ _ 2 [.int .i64 2] from rfl) (Reps.one (show Kd.M (Kd.int .i64) _ _ _ 2 [.int .i64 2] from rfl) (Reps.one (show Kd.M (Kd.int .i64) _ _ _ 3 [.int .i64 3] from rfl) (Reps.none _ _)))))); intro v105 w41 ho42 hb hg_ hnew_; clear hg_ hnew_; (first | rw [← Ny104.out] at ho42 | (simp only [Int.reduceToNat] at ho42; rw [← Ny104.out] at ho42)); have n0_ := Aside0.mk (Kd.R_lower ho42 (below_size (by repeat (first | (with_reducible first | exact HB.out | apply below_alloc | apply pw_below_drewN | apply below_drew1) | exact HB.out)))); have n1_ := Aside0.mk (below_step (by repeat (first | (with_reducible first | exact HB.out | apply below_alloc | apply pw_below_drewN | apply below_drew1) | exact HB.out)) hb); clear HB; have HO106 := n0_; have HB := n1_; clear n0_ n1_; clear hb ho42; obtain ⟨Ao43, co43, eo43⟩ := Kd.R_slice HO106.out; subst eo43) | ((with_reducible refine gate_dst (N := 9) rfl ?_); refine Kd.N_lit (Kd.slice 3 (Kd.int .i64)) _ 33 ?hg (N' := 9) ?hd (xs := ([y104] : List (List Int))) (inner := [.slice Ao43 y104.length co43]) (ok := (fun _ => True)) (okp := (fun _ => True)) ?hr ?hp (fun _ hk => hk) ((show ∀ k_, w41.heap.size ≤ k_ → (fun _ => True) k_ from fun k_ hk => trivial) _ (Nat.le_refl _)) (Below.refl _ _) (Nat.le_refl _) (by simp) ?_; (case hd => rfl); (case hg => rfl); (case hr => first | (go_simp; done) | (go_simp; rfl)); (case hp => exact (Reps.one (show Kd.FK (Kd.slice 3 (Kd.int .i64)) _ _ y104 [.slice Ao43 y104.length co43] from (Kd.FK_slice_mk (Kd.R_reads' (Kd.R_mono (ok' := (fun _ => True)) (HO106.out) (fun k_ hk => trivial))).2.1 (Kd.R_F (Kd.R_mono (ok' := (fun _ => True)) (HO106.out) (fun k_ hk => trivial))))) (Reps.none _ _))); intro v108 w44 ho45 hb hg_ hnew_; clear hg_ hnew_; (first | rw [← Ny107.out] at ho45 | (simp only [Int.reduceToNat] at ho45; rw [← Ny107.out] at ho45)); have n0_ := Aside0.mk (Kd.N_lower ho45 (below_size (by repeat (first | (with_reducible first | exact HB.out | apply below_alloc | apply pw_below_drewN | apply below_drew1) | exact HB.out)))); have n1_ := Aside0.mk (below_step (by repeat (first | (with_reducible first | exact HB.out | apply below_alloc | apply pw_below_drewN | apply below_drew1) | exact HB.out)) hb); clear HB; clear HO106; have HO109 := n0_; have HB := n1_; clear n0_ n1_; clear hb ho45; obtain ⟨Ao46, co46, eo46⟩ := Kd.N_slice HO109.out; subst eo46) | ((with_reducible refine gate_callee (f := 19) rfl ?_); refine goesL_ (some 10) rfl rfl Try.func19 (by kernel_rfl) rfl #[.slice Ao46 y107.length co46] rfl (by (try simp only [List.map_toArray, List.map_cons, List.map_nil]); first | done | rfl | (simp only [List.length_drop, List.length_take]; rfl)) ?_; (with_reducible refine (contrast_Of.calls k _ _ y107 t110 t111 t112 t113 _ ?side1 ?side2 A1.out).mono ?_); (case side1 => repeat (first | exact (Kd.N_reads' HO109.out).2.2 | (with_reducible refine Kd.C_alloc ?_ _) | (with_reducible refine Kd.C_drewN ?_ _) | (with_reducible refine Kd.C_drew ?_))); (case side2 => exact (Kd.N_reads' HO109.out).2.1); rintro e w47 ⟨rfl, hb⟩; refine ⟨_, rfl, ?_⟩; have n0_ := Aside0.mk (Kd.N_below (by (with_reducible repeat (first | apply Kd.N_alloc | apply Kd.N_drewN | apply Kd.N_drew)); exact HO109.out) hb); have n1_ := Aside0.mk (below_step (by repeat (first | (with_reducible first | exact HB.out | apply below_alloc | apply pw_below_drewN | apply below_drew1) | exact HB.out)) hb); clear HO109; clear HB; have HO109 := n0_; have HB := n1_; clear n0_ n1_; (try clear hb); (try clear hb2); (try clear hk); (try clear hi)) | ((with_reducible refine gate_dst (N := 1) rfl ?_); refine box_event ?hg (N := 1) ?hd (cs := #[.int .i64 0, .int .i64 0, .int .i64 0]) (t := 36) ?hr ?_; (case hd => rfl); (case hg => rfl); (case hr => first | (go_simp; done) | (go_simp; rfl)); intro gb114 hg w48 hbox hb; have n0_ := Aside0.mk (Kd.N_below (Kd.N_elderB (by (with_reducible repeat (first | apply Kd.N_alloc | apply Kd.N_drewN | apply Kd.N_drew)); exact HO109.out) gb114 (Nat.le_of_eq hg.symm)) hb); have n1_ := Aside0.mk (below_step (by repeat (first | (with_reducible first | exact HB.out | apply below_alloc | apply pw_below_drewN | apply below_drew1) | exact HB.out)) hb); have n2_ := Aside0.mk (hbox); have n3_ := Aside0.mk ((by rw [hg]; exact (below_size (by repeat (first | (with_reducible first | exact HB.out | apply below_alloc | apply pw_below_drewN | apply below_drew1) | exact HB.out))) : w.heap.size ≤ gb114)); have n4_ := Aside0.mk ((by rw [hg]; exact (below_size (by repeat (first | (with_reducible first | exact HB.out | apply below_alloc | apply pw_below_drewN | apply below_drew1) | exact HB.out))) : w.heap.size ≤ gb114)); clear HO109; clear HB; have HO109 := n0_; have HB := n1_; have BK114 := n2_; have GW114 := n3_; have GE114 := n4_; clear n0_ n1_ n2_ n3_ n4_; clear hb hbox hg; have hcz49_0 : w48.cell? ⟨gb114, 0, none⟩ = some (.int .i64 0) := (blk_cell BK114.out 0).trans rfl; have hcz49_1 : w48.cell? ⟨gb114, 1, none⟩ = some (.int .i64 0) := (blk_cell BK114.out 1).trans rfl; have hcz49_2 : w48.cell? ⟨gb114, 2, none⟩ = some (.int .i64 0) := (blk_cell BK114.out 2).trans rfl; have hfz49_0 := blk_frozen BK114.out 0; have hfz49_1 := blk_frozen BK114.out 1; have hfz49_2 := blk_frozen BK114.out 2) | ((with_reducible refine gate_dst (N := 14) rfl ?_); refine Kd.R_lit (Kd.int .i64) _ 3 ?hg (N := 14) ?hd (xs := ([1, 2, 2, 3] : List Int)) (inner := [.int .i64 1, .int .i64 2, .int .i64 2, .int .i64 3]) (ok := fun _ => True) (okp := fun _ => True) ?hr ?hp (fun _ hk => hk) trivial (Below.refl _ _) (Nat.le_refl _) (by simp) ?_; (case hd => rfl); (case hg => rfl); (case hr => first | (go_simp; done) | (go_simp; rfl)); (case hp => exact (Reps.one (show Kd.M (Kd.int .i64) _ _ _ 1 [.int .i64 1] from rfl) (Reps.one (show Kd.M (Kd.int .i64) _ _ _ 2 [.int .i64 2] from rfl) (Reps.one (show Kd.M (Kd.int .i64) _ _ _ 2 [.int .i64 2] from rfl) (Reps.one (show Kd.M (Kd.int .i64) _ _ _ 3 [.int .i64 3] from rfl) (Reps.none _ _)))))); intro v116 w50 ho51 hb hg_ hnew_; clear hg_ hnew_; (first | rw [← Ny115.out] at ho51 | (simp only [Int.reduceToNat] at ho51; rw [← Ny115.out] at ho51)); have n0_ := Aside0.mk (Kd.N_elder' (by (with_reducible repeat (first | apply Kd.N_alloc | apply Kd.N_drewN | apply Kd.N_drew)); exact (Kd.N_mono (Kd.N_far (p := ⟨gb114, 2, none⟩) (Kd.N_far (p := ⟨gb114, 1, none⟩) (Kd.N_far (p := ⟨gb114, 0, none⟩) (Kd.N_mono HO109.out (fun k_ hk => (⟨hk, hk.2⟩ : _ ∧ k_ ≠ gb114))) (fun _ hk => hk.2) (.int .i64 t110)) (fun _ hk => hk.2) (.int .i64 t111)) (fun _ hk => hk.2) (.int .i64 t112)) (fun _ h_ => h_.1))) (Kd.R_base ho51) hb); have n1_ := Aside0.mk (Kd.R_lower ho51 (below_size (by repeat (first | (with_reducible first | exact HB.out | apply below_alloc | apply pw_below_drewN | apply below_drew1 | refine below_set ?_ GE114.out) | exact HB.out)))); have n2_ := Aside0.mk (blk_below (g := gb114) (o := .cells #[.int .i64 t110, .int .i64 t111, .int .i64 t112] 36 (0, 0)) (by (with_reducible repeat (first | refine blk_drewN ?_ _ | refine blk_drew ?_ | refine blk_alloc ?_ _)); refine blk_put (cs := #[.int .i64 t110, .int .i64 t111, .int .i64 0]) ?_ 2 _ rfl; (with_reducible repeat (first | refine blk_drewN ?_ _ | refine blk_drew ?_ | refine blk_alloc ?_ _)); refine blk_put (cs := #[.int .i64 t110, .int .i64 0, .int .i64 0]) ?_ 1 _ rfl; (with_reducible repeat (first | refine blk_drewN ?_ _ | refine blk_drew ?_ | refine blk_alloc ?_ _)); refine blk_put (cs := #[.int .i64 0, .int .i64 0, .int .i64 0]) ?_ 0 _ rfl; (with_reducible repeat (first | refine blk_drewN ?_ _ | refine blk_drew ?_ | refine blk_alloc ?_ _)); exact BK114.out) hb); have n3_ := Aside0.mk (below_step (by repeat (first | (with_reducible first | exact HB.out | apply below_alloc | apply pw_below_drewN | apply below_drew1 | refine below_set ?_ GE114.out) | exact HB.out)) hb); clear HO109; clear BK114; clear HB; have HO109 := n0_; have HO117 := n1_; have BK114 := n2_; have HB := n3_; clear n0_ n1_ n2_ n3_; clear hb ho51; obtain ⟨Ao52, co52, eo52⟩ := Kd.R_slice HO117.out; subst eo52) | ((with_reducible refine gate_dst (N := 15) rfl ?_); refine Kd.N_lit (Kd.slice 3 (Kd.int .i64)) _ 33 ?hg (N' := 15) ?hd (xs := ([y115] : List (List Int))) (inner := [.slice Ao52 y115.length co52]) (ok := (fun k_ => some k_ ≠ (.slice Ao46 y107.length co46 : Value).ownBlock ∧ k_ ≠ gb114)) (okp := (fun k_ => some k_ ≠ (.slice Ao46 y107.length co46 : Value).ownBlock ∧ k_ ≠ gb114)) ?hr ?hp (fun _ hk => hk) ((show ∀ k_, w50.heap.size ≤ k_ → (fun k_ => some k_ ≠ (.slice Ao46 y107.length co46 : Value).ownBlock ∧ k_ ≠ gb114) k_ from fun k_ hk => ⟨Kd.fresh' (Kd.N_lt (by (with_reducible repeat (first | apply Kd.N_alloc | apply Kd.N_drewN | apply Kd.N_drew)); exact HO109.out)) k_ hk, Kd.freshB (g := gb114) (o := .cells #[.int .i64 t110, .int .i64 t111, .int .i64 t112] 36 (0, 0)) (by (with_reducible repeat (first | refine blk_drewN ?_ _ | refine blk_drew ?_ | refine blk_alloc ?_ _)); exact BK114.out) k_ hk⟩) _ (Nat.le_refl _)) (Below.refl _ _) (Nat.le_refl _) (by simp) ?_; (case hd => rfl); (case hg => rfl); (case hr => first | (go_simp; done) | (go_simp; rfl)); (case hp => exact (Reps.one (show Kd.FK (Kd.slice 3 (Kd.int .i64)) _ _ y115 [.slice Ao52 y115.length co52] from (Kd.FK_slice_mk (Kd.R_reads' (Kd.R_mono (ok' := (fun k_ => some k_ ≠ (.slice Ao46 y107.length co46 : Value).ownBlock ∧ k_ ≠ gb114)) (Kd.R_types (Kd.R_apart' (HO117.out) (Kd.N_typed HO109.out) (by decide)) BK114.out (by decide)) (fun k_ hk => ⟨hk.1.2, hk.2⟩))).2.1 (Kd.R_F (Kd.R_mono (ok' := (fun k_ => some k_ ≠ (.slice Ao46 y107.length co46 : Value).ownBlock ∧ k_ ≠ gb114)) (Kd.R_types (Kd.R_apart' (HO117.out) (Kd.N_typed HO109.out) (by decide)) BK114.out (by decide)) (fun k_ hk => ⟨hk.1.2, hk.2⟩))))) (Reps.none _ _))); intro v119 w53 ho54 hb hg_ hnew_; clear hg_ hnew_; (first | rw [← Ny118.out] at ho54 | (simp only [Int.reduceToNat] at ho54; rw [← Ny118.out] at ho54)); have n0_ := Aside0.mk (Kd.N_elder' (by (with_reducible repeat (first | apply Kd.N_alloc | apply Kd.N_drewN | apply Kd.N_drew)); exact HO109.out) (Kd.N_base ho54) hb); have n1_ := Aside0.mk (Kd.N_lower ho54 (below_size (by repeat (first | (with_reducible first | exact HB.out | apply below_alloc | apply pw_below_drewN | apply below_drew1 | refine below_set ?_ GE114.out) | exact HB.out)))); have n2_ := Aside0.mk (blk_below (g := gb114) (o := .cells #[.int .i64 t110, .int .i64 t111, .int .i64 t112] 36 (0, 0)) (by (with_reducible repeat (first | refine blk_drewN ?_ _ | refine blk_drew ?_ | refine blk_alloc ?_ _)); exact BK114.out) hb); have n3_ := Aside0.mk (below_step (by repeat (first | (with_reducible first | exact HB.out | apply below_alloc | apply pw_below_drewN | apply below_drew1 | refine below_set ?_ GE114.out) | exact HB.out)) hb); clear HO109; clear BK114; clear HB; clear HO117; have HO109 := n0_; have HO120 := n1_; have BK114 := n2_; have HB := n3_; clear n0_ n1_ n2_ n3_; clear hb ho54; obtain ⟨Ao55, co55, eo55⟩ := Kd.N_slice HO120.out; subst eo55) | ((with_reducible refine gate_callee (f := 17) rfl ?_); refine goesL_ (some 16) rfl rfl Try.func17 (by kernel_rfl) rfl #[.slice Ao55 y118.length co55] rfl (by (try simp only [List.map_toArray, List.map_cons, List.map_nil]); first | done | rfl | (simp only [List.length_drop, List.length_take]; rfl)) ?_; (with_reducible refine (contrast_Symmetric.calls k _ _ y118 t121 t122 t123 t124 _ ?side1 ?side2 A2.out).mono ?_); (case side1 => repeat (first | exact (Kd.N_reads' HO120.out).2.2 | (with_reducible refine Kd.C_alloc ?_ _) | (with_reducible refine Kd.C_drewN ?_ _) | (with_reducible refine Kd.C_drew ?_))); (case side2 => exact (Kd.N_reads' HO120.out).2.1); rintro e w56 ⟨rfl, hb⟩; refine ⟨_, rfl, ?_⟩; have n0_ := Aside0.mk (Kd.N_below (by (with_reducible repeat (first | apply Kd.N_alloc | apply Kd.N_drewN | apply Kd.N_drew)); exact HO109.out) hb); have n1_ := Aside0.mk (Kd.N_below (by (with_reducible repeat (first | apply Kd.N_alloc | apply Kd.N_drewN | apply Kd.N_drew)); exact HO120.out) hb); have n2_ := Aside0.mk (blk_below (g := gb114) (o := .cells #[.int .i64 t110, .int .i64 t111, .int .i64 t112] 36 (0, 0)) (by (with_reducible repeat (first | refine blk_drewN ?_ _ | refine blk_drew ?_ | refine blk_alloc ?_ _)); exact BK114.out) hb); have n3_ := Aside0.mk (below_step (by repeat (first | (with_reducible first | exact HB.out | apply below_alloc | apply pw_below_drewN | apply below_drew1 | refine below_set ?_ GE114.out) | exact HB.out)) hb); clear HO109; clear HO120; clear BK114; clear HB; have HO109 := n0_; have HO120 := n1_; have BK114 := n2_; have HB := n3_; clear n0_ n1_ n2_ n3_; (try clear hb); (try clear hb2); (try clear hk); (try clear hi); have hcz57_0 : w56.cell? ⟨gb114, 0, none⟩ = some (.int .i64 t110) := (blk_cell BK114.out 0).trans rfl; have hcz57_1 : w56.cell? ⟨gb114, 1, none⟩ = some (.int .i64 t111) := (blk_cell BK114.out 1).trans rfl; have hcz57_2 : w56.cell? ⟨gb114, 2, none⟩ = some (.int .i64 t112) := (blk_cell BK114.out 2).trans rfl; have hfz57_0 := blk_frozen BK114.out 0; have hfz57_1 := blk_frozen BK114.out 1; have hfz57_2 := blk_frozen BK114.out 2))
  by_cases c3 : t113 = 0
  · rw [if_pos c3] at H
    have c3b0 : (t113 == 0) = true := beq_iff_eq.mpr c3
    have c3b1 : (t113 != 0) = false := bne_eq_false_iff_eq.mpr c3
    clear c3
    by_cases c4 : t124 = 0
    · rw [if_pos c4] at H
      have c4b0 : (t124 == 0) = true := beq_iff_eq.mpr c4
      have c4b1 : (t124 != 0) = false := bne_eq_false_iff_eq.mpr c4
      clear c4
      by_cases c5 : (t110 == 1 && (t111 == 1 && (t112 == 1))) = true
      · rw [if_pos c5] at H
        have c5b0 : (t110 == 1 && (t111 == 1 && (t112 == 1))) = true := c5
        (try (have c5b1 : decide (t110 = 1 && (t111 == 1 && (t112 == 1))) = true := by simpa using c5))
        (try (have c5b2 : (t110 == 1 && (t111 == 1 && (t112 == 1))) = true := by simpa using c5))
        clear c5
        by_cases c6 : t122 = true
        · subst c6
          have H1 : (some t123) = some r := by rw [if_pos rfl] at H; exact H
          clear H
          have H := H1
          clear H1
          obtain rfl := Option.some.inj H
          go_wp2
          go_ret
          exact ⟨by first | rfl | (simp [errW_none, errW_some] <;> rfl) | (simp [*, errW_none, errW_some] <;> rfl), by repeat (first | (with_reducible first | exact HB.out | apply below_alloc | apply pw_below_drewN | apply below_drew1 | refine below_set ?_ GE114.out) | exact HB.out)⟩
        · replace c6 := Bool.eq_false_iff.mpr c6
          subst c6
          have H1 : (some false) = some r := by rw [if_neg (show ¬ (false = true) by decide)] at H; exact H
          clear H
          have H := H1
          clear H1
          obtain rfl := Option.some.inj H
          go_wp2
          go_ret
          exact ⟨by first | rfl | (simp [errW_none, errW_some] <;> rfl) | (simp [*, errW_none, errW_some] <;> rfl), by repeat (first | (with_reducible first | exact HB.out | apply below_alloc | apply pw_below_drewN | apply below_drew1 | refine below_set ?_ GE114.out) | exact HB.out)⟩
      · rw [if_neg c5] at H
        have c5b0 : (t110 == 1 && (t111 == 1 && (t112 == 1))) = false := by simpa using c5
        (try (have c5b1 : decide (t110 = 1 && (t111 == 1 && (t112 == 1))) = false := by simpa using c5))
        (try (have c5b2 : (t110 == 1 && (t111 == 1 && (t112 == 1))) = false := by simpa using c5))
        (try (have c5b3 : ¬ (t110 = 1 && (t111 == 1 && (t112 == 1))) := by simpa using c5))
        clear c5
        obtain rfl := Option.some.inj H
        go_wp2
        go_ret
        exact ⟨by first | rfl | (simp [errW_none, errW_some] <;> rfl) | (simp [*, errW_none, errW_some] <;> rfl), by repeat (first | (with_reducible first | exact HB.out | apply below_alloc | apply pw_below_drewN | apply below_drew1 | refine below_set ?_ GE114.out) | exact HB.out)⟩
    · rw [if_neg c4] at H
      have c4b0 : (t124 == 0) = false := beq_eq_false_iff_ne.mpr c4
      have c4b1 : (t124 != 0) = true := bne_iff_ne.mpr c4
      obtain rfl := Option.some.inj H
      go_wp2
      go_ret
      exact ⟨by first | rfl | (simp [errW_none, errW_some] <;> rfl) | (simp [*, errW_none, errW_some] <;> rfl), by repeat (first | (with_reducible first | exact HB.out | apply below_alloc | apply pw_below_drewN | apply below_drew1 | refine below_set ?_ GE114.out) | exact HB.out)⟩
  · rw [if_neg c3] at H
    have c3b0 : (t113 == 0) = false := beq_eq_false_iff_ne.mpr c3
    have c3b1 : (t113 != 0) = true := bne_iff_ne.mpr c3
    obtain rfl := Option.some.inj H
    go_wp2
    go_ret
    exact ⟨by first | rfl | (simp [errW_none, errW_some] <;> rfl) | (simp [*, errW_none, errW_some] <;> rfl), by repeat (first | (with_reducible first | exact HB.out | apply below_alloc | apply pw_below_drewN | apply below_drew1 | refine below_set ?_ GE114.out) | exact HB.out)⟩

/-! ### culetlaw36_theirs: function 16 -/
def culetlaw36_theirs.f (l0 : List (List Int)) : Option ((List (List Int))) := some l0
set_option maxHeartbeats 8000000 in
set_option maxRecDepth 100000 in
theorem culetlaw36_theirs.calls (P0_ : Nat → Prop) (A0 : Option Addr) (c0 : Nat) (l0 : List (List Int)) (r : List (List Int)) (w : World) (hs0 : Kd.V (Kd.slice 3 (Kd.int .i64)) 33 w w.heap.size (fun k_ => P0_ k_) (.slice A0 l0.length c0) l0) (h : culetlaw36_theirs.f l0 = some r) :
    Calls Try.prog 16 #[.slice A0 l0.length c0] w fun e w' => ∃ v0_ : Value, e = .returned (v0_) ∧ Kd.V (Kd.slice 3 (Kd.int .i64)) 33 w' w.heap.size (fun k_ => (P0_ k_ ∨ w.heap.size ≤ k_)) v0_ r ∧ Below w.heap.size w w' := by
  have HO0 := Aside0.mk (show Kd.V (Kd.slice 3 (Kd.int .i64)) 33 w w.heap.size (fun k_ => (P0_ k_ ∨ w.heap.size ≤ k_)) (.slice A0 l0.length c0) l0 from Kd.V_mono hs0 (fun k_ hk => .inl hk))
  have HB := Aside0.mk (Below.refl w.heap.size w)
  have H : (some l0) = some r := h
  clear h
  obtain rfl := Option.some.inj H
  go_enter Try.func16, Try.ntmps16
  go_wp2
  go_ret
  exact ⟨_, by first | rfl | (simp [errW_none, errW_some] <;> rfl) | (simp [*, errW_none, errW_some] <;> rfl), by (with_reducible repeat (first | apply Kd.V_alloc | apply Kd.V_drewN | apply Kd.V_drew)); exact HO0.out, by repeat (first | (with_reducible first | exact HB.out | apply below_alloc | apply pw_below_drewN | apply below_drew1) | exact HB.out)⟩

end Go.Proofs.Ytalhpnfapagamaa.C
