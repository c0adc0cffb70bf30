-- Written by this session's own programs; what the law does not lean on is left out. Lean checks it.
import Derived.Test.YtalhpnfapagamaaDoorAS
namespace Go.Proofs.YtalhpnfapagamaaDoor.S
open Go.RowKit Go.Proofs.YtalhpnfapagamaaDoorW.PrintWords Go.Proofs.YtalhpnfapagamaaDoorW.PrintLast Go.Proofs.YtalhpnfapagamaaDoorW.PrintMore Go.Proofs.YtalhpnfapagamaaDoorD
set_option linter.unusedVariables false
set_option linter.unusedSimpArgs false

set_option maxHeartbeats 2000000 in
set_option maxRecDepth 100000 in
theorem named_lit.calls (x : S51) (g : Nat) (nm : ByteArray) (W : World) (hg : g < W.heap.size) (hc_0 : W.cell? ⟨g, 0, none⟩ = some (.string nm)) (r : Bool) (hr : (x.f0.toList == nm.toList) = r) :
  Calls Tryd.prog 35 #[.agg #[.string x.f0, .int .i64 x.f1, .int .i64 x.f2], .pointer (some ⟨g, 0, none⟩)] W fun e w' => e = .returned (.bool r) ∧ Below W.heap.size W w' := by
 have hu := Tryd.underlying51
 subst hr
 go_enter Tryd.func35, Tryd.ntmps35
 go_wp2
 go_ret
 exact ⟨rfl, (Below.refl _ _).alloc (Nat.le_refl _) _⟩
theorem named_lit.eg : ∀ args w, (callFunc 35 args).run Tryd.prog w = .ok (.enter 35 args) w := enters_of Tryd.func35 (by kernel_rfl) rfl
set_option maxHeartbeats 4000000 in
set_option maxRecDepth 100000 in
theorem named_idx.calls (A0 : Option Addr) (c0 : Nat) (l0 : List S51) (g : Nat) (nm : ByteArray) (r : Int) (w : World) (hr0 : Kd.C k51 w A0 l0.length l0) (hc0 : l0.length ≤ c0) (hlen : l0.length ≤ 100000) (hg : g < w.heap.size) (hc_0 : w.cell? ⟨g, 0, none⟩ = some (.string nm)) (h : idxF (fun x : S51 => x.f0.toList == nm.toList) l0 = r) :
  Calls Tryd.prog 45 #[.slice A0 l0.length c0, .func (.func 35) #[] #[.pointer (some ⟨g, 0, none⟩)]] w fun e w' => e = .returned (.int .i64 r) ∧ Below w.heap.size w w' := by
 have hu := Tryd.underlying51
 have eg := named_lit.eg
 have HR0 := Aside0.mk hr0
 have HG := Aside0.mk hg
 have HC_0 := Aside0.mk hc_0
 have HB := Aside0.mk (Below.refl w.heap.size w)
 have HL := Aside0.mk hlen
 have HC0 := Aside0.mk hc0
 have H := Aside0.mk h
 clear hr0 hc0 hg hc_0 hlen h
 go_enter Tryd.func45, Tryd.ntmps45
 go_wp2
 go_loopg [8] l0.length (fun kq v8 w' => ∃ i : Nat, v8 = .int .i64 (i : Int) ∧ Aside0 (i + kq = l0.length) ∧ Aside0 (∀ j, j < i → (fun x : S51 => x.f0.toList == nm.toList) (l0.getD j z51) = false) ∧ Aside0 (Below w.heap.size w w'))
 case atStart => exact ⟨0, rfl, ⟨by omega⟩, ⟨fun _ h => absurd h (by omega)⟩, HB⟩
 case round =>
  clear HB
  obtain ⟨i, rfl, HI, HN, HB⟩ := hrel
  cases gk with
  | zero =>
   have hi : i = l0.length := by have := HI.out; omega
   have c1 : decide ((i : Int) < (l0.length : Int)) = false := decide_eq_false (by omega)
   have c2 : decide (i < l0.length) = false := decide_eq_false (by omega)
   obtain rfl : r = -1 := H.out.symm.trans (idxF_none _ z51 _ (fun j hj => HN.out j (by omega)))
   clear hi
   go_wp2
   go_ret
   exact ⟨rfl, HB.out⟩
  | succ k1 =>
   have hi : i < l0.length := by have := HI.out; omega
   have c1 : decide ((i : Int) < (l0.length : Int)) = true := decide_eq_true (by omega)
   have c2 : decide (i < l0.length) = true := decide_eq_true hi
   have c3 : ((i : Int) < (l0.length : Int)) = True := eq_true (by omega)
   have c4 : (0 ≤ (i : Int)) = True := eq_true (by omega)
   obtain ⟨ad, e1, hx0, hx1, hx2⟩ := at_T51 HR0.out (i : Int) (by omega) (by omega)
   cases e1
   rw [Int.toNat_natCast] at hx0 hx1 hx2
   replace hx0 := (HB.out.cell (World.block_lt_of_cell? w _ hx0)).trans hx0
   replace hx1 := (HB.out.cell (World.block_lt_of_cell? w _ hx1)).trans hx1
   replace hx2 := (HB.out.cell (World.block_lt_of_cell? w _ hx2)).trans hx2
   have HX : Aside0 (rd_T51 l0 (i : Int) = l0.getD i z51) := ⟨by unfold rd_T51; rw [Int.toNat_natCast]⟩
   have HGW := Aside0.mk (Nat.lt_of_lt_of_le HG.out HB.out.size)
   have HCW_0 := Aside0.mk ((HB.out.cell (p := ⟨g, 0, none⟩) HG.out).trans HC_0.out)
   have HW := Aside0.mk (wrap_i i (by have := HL.out; omega))
   have HII := Aside0.mk hi
   clear hi
   generalize hX : rd_T51 l0 (i : Int) = X at hx0 hx1 hx2 HX
   clear hX
   cases hq : (fun x : S51 => x.f0.toList == nm.toList) X with
   | true =>
    obtain rfl : r = (i : Int) := H.out.symm.trans (idxF_some _ z51 _ i HII.out HN.out (by rw [← HX.out]; exact hq))
    have HQ := Aside0.mk hq
    clear hq
    go_wp2_with (go_at_fn 35; refine (named_lit.calls X g nm _ HGW.out HCW_0.out true HQ.out).mono ?_; rintro e w1 ⟨rfl, hb⟩; have HB2 := Aside0.mk (HB.out.trans (hb.mono HB.out.size)); clear hb)
    go_ret
    exact ⟨rfl, HB2.out⟩
   | false =>
    have HQ := Aside0.mk hq
    clear hq
    go_wp2_with (go_at_fn 35; refine (named_lit.calls X g nm _ HGW.out HCW_0.out false HQ.out).mono ?_; rintro e w1 ⟨rfl, hb⟩; have HB2 := Aside0.mk (HB.out.trans (hb.mono HB.out.size)); clear hb)
    go_roundg k1
    case measure => omega
    case rel => exact ⟨i + 1, congrArg (Value.int .i64) HW.out, ⟨by have := HI.out; omega⟩, ⟨fun j hj => by
     by_cases hji : j < i
     ·
      exact HN.out j hji
     ·
      obtain rfl : j = i := by omega
      rw [← HX.out]; exact HQ.out⟩, HB2⟩
set_option maxHeartbeats 2000000 in
set_option maxRecDepth 100000 in
theorem named_has.calls (A0 : Option Addr) (c0 : Nat) (l0 : List S51) (g : Nat) (nm : ByteArray) (r : Bool) (w : World) (hr0 : Kd.C k51 w A0 l0.length l0) (hc0 : l0.length ≤ c0) (hlen : l0.length ≤ 100000) (hg : g < w.heap.size) (hc_0 : w.cell? ⟨g, 0, none⟩ = some (.string nm)) (h : l0.any (fun x : S51 => x.f0.toList == nm.toList) = r) :
  Calls Tryd.prog 34 #[.slice A0 l0.length c0, .func (.func 35) #[] #[.pointer (some ⟨g, 0, none⟩)]] w fun e w' => e = .returned (.bool r) ∧ Below w.heap.size w w' := by
 obtain ⟨n, hn⟩ : ∃ n, idxF (fun x : S51 => x.f0.toList == nm.toList) l0 = n := ⟨_, rfl⟩
 have hr : decide (0 ≤ n) = r := by rw [← hn, idxF_any]; exact h
 have HN := Aside0.mk hn
 have HG := Aside0.mk hg
 have HC_0 := Aside0.mk hc_0
 have HR0 := Aside0.mk hr0
 have HC0 := Aside0.mk hc0
 have HL := Aside0.mk hlen
 clear hn hg hc_0 hr0 hc0 hlen h
 go_enter Tryd.func34, Tryd.ntmps34
 go_wp2_with (go_at_call 45; refine (named_idx.calls A0 c0 l0 g nm n _ HR0.out HC0.out HL.out HG.out HC_0.out HN.out).mono ?_; rintro e w1 ⟨rfl, hb⟩; have HB := Aside0.mk hb; clear hb)
 go_ret
 exact ⟨rfl, HB.out⟩
theorem named_hasn.calls (A0 : Option Addr) (c0 : Nat) (l0 : List S51) (n : Nat) (g : Nat) (nm : ByteArray) (r : Bool) (w : World) (hr0 : Kd.C k51 w A0 l0.length l0) (hn : n ≤ l0.length) (hc0 : l0.length ≤ c0) (hlen : l0.length ≤ 100000) (hg : g < w.heap.size) (hc_0 : w.cell? ⟨g, 0, none⟩ = some (.string nm)) (h : (l0.take n).any (fun x : S51 => x.f0.toList == nm.toList) = r) :
  Calls Tryd.prog 34 #[.slice A0 n c0, .func (.func 35) #[] #[.pointer (some ⟨g, 0, none⟩)]] w fun e w' => e = .returned (.bool r) ∧ Below w.heap.size w w' := by
 have hl : (l0.take n).length = n := by rw [List.length_take]; omega
 have := named_has.calls A0 c0 (l0.take n) g nm r w (Kd.C_take hr0 hn) (by omega) (by omega) hg hc_0 h
 rw [hl] at this
 exact this
set_option maxHeartbeats 2000000 in
set_option maxRecDepth 100000 in
theorem again_lit.calls (x : S49) (g : Nat) (nm : ByteArray) (gr : Int) (W : World) (hg : g < W.heap.size) (hc_0 : W.cell? ⟨g, 0, none⟩ = some (.string nm)) (hc_1 : W.cell? ⟨g, 1, none⟩ = some (.int .i64 gr)) (r : Bool) (hr : (x.f0.toList == nm.toList || decide (gr ≤ x.f1)) = r) :
  Calls Tryd.prog 32 #[.agg #[.string x.f0, .int .i64 x.f1, .int .i64 x.f2], .pointer (some ⟨g, 0, none⟩)] W fun e w' => e = .returned (.bool r) ∧ Below W.heap.size W w' := by
 have hu := Tryd.underlying49
 subst hr
 cases h1 : (x.f0.toList == nm.toList) with
 | true =>
  have h1' : x.f0.toList = nm.toList := beq_iff_eq.mp h1
  rw [Bool.true_or]
  go_enter Tryd.func32, Tryd.ntmps32
  go_wp2
  go_ret
  exact ⟨rfl, (Below.refl _ _).alloc (Nat.le_refl _) _⟩
 | false =>
  have h1' : ¬ x.f0.toList = nm.toList := beq_eq_false_iff_ne.mp h1
  rw [Bool.false_or]
  go_enter Tryd.func32, Tryd.ntmps32
  go_wp2
  go_ret
  exact ⟨rfl, (Below.refl _ _).alloc (Nat.le_refl _) _⟩
theorem again_lit.eg : ∀ args w, (callFunc 32 args).run Tryd.prog w = .ok (.enter 32 args) w := enters_of Tryd.func32 (by kernel_rfl) rfl
set_option maxHeartbeats 4000000 in
set_option maxRecDepth 100000 in
theorem again_idx.calls (A0 : Option Addr) (c0 : Nat) (l0 : List S49) (g : Nat) (nm : ByteArray) (gr : Int) (r : Int) (w : World) (hr0 : Kd.C k49 w A0 l0.length l0) (hc0 : l0.length ≤ c0) (hlen : l0.length ≤ 100000) (hg : g < w.heap.size) (hc_0 : w.cell? ⟨g, 0, none⟩ = some (.string nm)) (hc_1 : w.cell? ⟨g, 1, none⟩ = some (.int .i64 gr)) (h : idxF (fun x : S49 => x.f0.toList == nm.toList || decide (gr ≤ x.f1)) l0 = r) :
  Calls Tryd.prog 42 #[.slice A0 l0.length c0, .func (.func 32) #[] #[.pointer (some ⟨g, 0, none⟩)]] w fun e w' => e = .returned (.int .i64 r) ∧ Below w.heap.size w w' := by
 have hu := Tryd.underlying49
 have eg := again_lit.eg
 have HR0 := Aside0.mk hr0
 have HG := Aside0.mk hg
 have HC_0 := Aside0.mk hc_0
 have HC_1 := Aside0.mk hc_1
 have HB := Aside0.mk (Below.refl w.heap.size w)
 have HL := Aside0.mk hlen
 have HC0 := Aside0.mk hc0
 have H := Aside0.mk h
 clear hr0 hc0 hg hc_0 hc_1 hlen h
 go_enter Tryd.func42, Tryd.ntmps42
 go_wp2
 go_loopg [8] l0.length (fun kq v8 w' => ∃ i : Nat, v8 = .int .i64 (i : Int) ∧ Aside0 (i + kq = l0.length) ∧ Aside0 (∀ j, j < i → (fun x : S49 => x.f0.toList == nm.toList || decide (gr ≤ x.f1)) (l0.getD j z49) = false) ∧ Aside0 (Below w.heap.size w w'))
 case atStart => exact ⟨0, rfl, ⟨by omega⟩, ⟨fun _ h => absurd h (by omega)⟩, HB⟩
 case round =>
  clear HB
  obtain ⟨i, rfl, HI, HN, HB⟩ := hrel
  cases gk with
  | zero =>
   have hi : i = l0.length := by have := HI.out; omega
   have c1 : decide ((i : Int) < (l0.length : Int)) = false := decide_eq_false (by omega)
   have c2 : decide (i < l0.length) = false := decide_eq_false (by omega)
   obtain rfl : r = -1 := H.out.symm.trans (idxF_none _ z49 _ (fun j hj => HN.out j (by omega)))
   clear hi
   go_wp2
   go_ret
   exact ⟨rfl, HB.out⟩
  | succ k1 =>
   have hi : i < l0.length := by have := HI.out; omega
   have c1 : decide ((i : Int) < (l0.length : Int)) = true := decide_eq_true (by omega)
   have c2 : decide (i < l0.length) = true := decide_eq_true hi
   have c3 : ((i : Int) < (l0.length : Int)) = True := eq_true (by omega)
   have c4 : (0 ≤ (i : Int)) = True := eq_true (by omega)
   obtain ⟨ad, e1, hx0, hx1, hx2⟩ := at_T49 HR0.out (i : Int) (by omega) (by omega)
   cases e1
   rw [Int.toNat_natCast] at hx0 hx1 hx2
   replace hx0 := (HB.out.cell (World.block_lt_of_cell? w _ hx0)).trans hx0
   replace hx1 := (HB.out.cell (World.block_lt_of_cell? w _ hx1)).trans hx1
   replace hx2 := (HB.out.cell (World.block_lt_of_cell? w _ hx2)).trans hx2
   have HX : Aside0 (rd_T49 l0 (i : Int) = l0.getD i z49) := ⟨by unfold rd_T49; rw [Int.toNat_natCast]⟩
   have HGW := Aside0.mk (Nat.lt_of_lt_of_le HG.out HB.out.size)
   have HCW_0 := Aside0.mk ((HB.out.cell (p := ⟨g, 0, none⟩) HG.out).trans HC_0.out)
   have HCW_1 := Aside0.mk ((HB.out.cell (p := ⟨g, 1, none⟩) HG.out).trans HC_1.out)
   have HW := Aside0.mk (wrap_i i (by have := HL.out; omega))
   have HII := Aside0.mk hi
   clear hi
   generalize hX : rd_T49 l0 (i : Int) = X at hx0 hx1 hx2 HX
   clear hX
   cases hq : (fun x : S49 => x.f0.toList == nm.toList || decide (gr ≤ x.f1)) X with
   | true =>
    obtain rfl : r = (i : Int) := H.out.symm.trans (idxF_some _ z49 _ i HII.out HN.out (by rw [← HX.out]; exact hq))
    have HQ := Aside0.mk hq
    clear hq
    go_wp2_with (go_at_fn 32; refine (again_lit.calls X g nm gr _ HGW.out HCW_0.out HCW_1.out true HQ.out).mono ?_; rintro e w1 ⟨rfl, hb⟩; have HB2 := Aside0.mk (HB.out.trans (hb.mono HB.out.size)); clear hb)
    go_ret
    exact ⟨rfl, HB2.out⟩
   | false =>
    have HQ := Aside0.mk hq
    clear hq
    go_wp2_with (go_at_fn 32; refine (again_lit.calls X g nm gr _ HGW.out HCW_0.out HCW_1.out false HQ.out).mono ?_; rintro e w1 ⟨rfl, hb⟩; have HB2 := Aside0.mk (HB.out.trans (hb.mono HB.out.size)); clear hb)
    go_roundg k1
    case measure => omega
    case rel => exact ⟨i + 1, congrArg (Value.int .i64) HW.out, ⟨by have := HI.out; omega⟩, ⟨fun j hj => by
     by_cases hji : j < i
     ·
      exact HN.out j hji
     ·
      obtain rfl : j = i := by omega
      rw [← HX.out]; exact HQ.out⟩, HB2⟩
set_option maxHeartbeats 2000000 in
set_option maxRecDepth 100000 in
theorem again_has.calls (A0 : Option Addr) (c0 : Nat) (l0 : List S49) (g : Nat) (nm : ByteArray) (gr : Int) (r : Bool) (w : World) (hr0 : Kd.C k49 w A0 l0.length l0) (hc0 : l0.length ≤ c0) (hlen : l0.length ≤ 100000) (hg : g < w.heap.size) (hc_0 : w.cell? ⟨g, 0, none⟩ = some (.string nm)) (hc_1 : w.cell? ⟨g, 1, none⟩ = some (.int .i64 gr)) (h : l0.any (fun x : S49 => x.f0.toList == nm.toList || decide (gr ≤ x.f1)) = r) :
  Calls Tryd.prog 31 #[.slice A0 l0.length c0, .func (.func 32) #[] #[.pointer (some ⟨g, 0, none⟩)]] w fun e w' => e = .returned (.bool r) ∧ Below w.heap.size w w' := by
 obtain ⟨n, hn⟩ : ∃ n, idxF (fun x : S49 => x.f0.toList == nm.toList || decide (gr ≤ x.f1)) l0 = n := ⟨_, rfl⟩
 have hr : decide (0 ≤ n) = r := by rw [← hn, idxF_any]; exact h
 have HN := Aside0.mk hn
 have HG := Aside0.mk hg
 have HC_0 := Aside0.mk hc_0
 have HC_1 := Aside0.mk hc_1
 have HR0 := Aside0.mk hr0
 have HC0 := Aside0.mk hc0
 have HL := Aside0.mk hlen
 clear hn hg hc_0 hc_1 hr0 hc0 hlen h
 go_enter Tryd.func31, Tryd.ntmps31
 go_wp2_with (go_at_call 42; refine (again_idx.calls A0 c0 l0 g nm gr n _ HR0.out HC0.out HL.out HG.out HC_0.out HC_1.out HN.out).mono ?_; rintro e w1 ⟨rfl, hb⟩; have HB := Aside0.mk hb; clear hb)
 go_ret
 exact ⟨rfl, HB.out⟩
theorem again_hasn.calls (A0 : Option Addr) (c0 : Nat) (l0 : List S49) (n : Nat) (g : Nat) (nm : ByteArray) (gr : Int) (r : Bool) (w : World) (hr0 : Kd.C k49 w A0 l0.length l0) (hn : n ≤ l0.length) (hc0 : l0.length ≤ c0) (hlen : l0.length ≤ 100000) (hg : g < w.heap.size) (hc_0 : w.cell? ⟨g, 0, none⟩ = some (.string nm)) (hc_1 : w.cell? ⟨g, 1, none⟩ = some (.int .i64 gr)) (h : (l0.take n).any (fun x : S49 => x.f0.toList == nm.toList || decide (gr ≤ x.f1)) = r) :
  Calls Tryd.prog 31 #[.slice A0 n c0, .func (.func 32) #[] #[.pointer (some ⟨g, 0, none⟩)]] w fun e w' => e = .returned (.bool r) ∧ Below w.heap.size w w' := by
 have hl : (l0.take n).length = n := by rw [List.length_take]; omega
 have := again_has.calls A0 c0 (l0.take n) g nm gr r w (Kd.C_take hr0 hn) (by omega) (by omega) hg hc_0 hc_1 h
 rw [hl] at this
 exact this
def inB (a b c : Int) : Bool := decide (b ≤ a) && decide (a ≤ c)
theorem in_ok (a b c : Int) : steps_in.f a b c = some (inB a b c) := by
 unfold steps_in.f inB
 by_cases h : a ≥ b
 ·
  rw [if_pos h, decide_eq_true (show b ≤ a from h), Bool.true_and]
 ·
  rw [if_neg h, decide_eq_false (show ¬ b ≤ a from h), Bool.false_and]
theorem in_as (a b c : Int) (r : Bool) (h : inB a b c = r) : steps_in.f a b c = some r := by rw [in_ok, h]
theorem blk_lt_ {W : World} {g : Nat} {o : Obj} (h : W.heap[g]? = some o) : g < W.heap.size := by
 rcases Nat.lt_or_ge g W.heap.size with h1 | h1
 ·
  exact h1
 ·
  rw [Array.getElem?_eq_none h1] at h; cases h
theorem st92 (W : World) (g : Nat) (a : ByteArray) (c d : Int) {o0 o1 o2 : Value} (h0 : W.cell? ⟨g, 0, none⟩ = some o0) (h1 : W.cell? ⟨g, 1, none⟩ = some o1) (h2 : W.cell? ⟨g, 2, none⟩ = some o2)
  (f0 : W.frozen? ⟨g, 0, none⟩ = false) (f1 : W.frozen? ⟨g, 1, none⟩ = false) (f2 : W.frozen? ⟨g, 2, none⟩ = false) :
  (do Instr.storeAt 49 (.pointer (some ⟨g, 0, none⟩)) (.agg #[.string a, .int .i64 c, .int .i64 d]); pure Next.skip : Sem Next).run Tryd.prog W = .ok .skip (((W.setCell ⟨g, 0, none⟩ (.string a)).setCell ⟨g, 1, none⟩ (.int .i64 c)).setCell ⟨g, 2, none⟩ (.int .i64 d)) := by
 have hu := Tryd.underlying49
 have hu3 := Tryd.underlying3
 have hu9 := Tryd.underlying9
 go_simp
theorem st93 (W : World) (g : Nat) (a : ByteArray) (c d : Int) {o0 o1 o2 : Value} (h0 : W.cell? ⟨g, 0, none⟩ = some o0) (h1 : W.cell? ⟨g, 1, none⟩ = some o1) (h2 : W.cell? ⟨g, 2, none⟩ = some o2)
  (f0 : W.frozen? ⟨g, 0, none⟩ = false) (f1 : W.frozen? ⟨g, 1, none⟩ = false) (f2 : W.frozen? ⟨g, 2, none⟩ = false) :
  (do Instr.storeAt 51 (.pointer (some ⟨g, 0, none⟩)) (.agg #[.string a, .int .i64 c, .int .i64 d]); pure Next.skip : Sem Next).run Tryd.prog W = .ok .skip (((W.setCell ⟨g, 0, none⟩ (.string a)).setCell ⟨g, 1, none⟩ (.int .i64 c)).setCell ⟨g, 2, none⟩ (.int .i64 d)) := by
 have hu := Tryd.underlying51
 have hu3 := Tryd.underlying3
 have hu9 := Tryd.underlying9
 go_simp
def againB (x y : S49) : Bool := y.f0.toList == x.f0.toList || decide (x.f1 ≤ y.f1)
def steps_Valid.l1 : Nat → List S51 → Nat → Option Bool
 | 0, _, _ => none
 | k + 1, l1, i => if i < l1.length then
   (if (l1.take i).any (fun y => y.f0.toList == (l1.getD i z51).f0.toList) = true then some false else ((lexer_IsName.f k (l1.getD i z51).f0).bind fun nm => if nm = true then (if inB (l1.getD i z51).f1 1 2 = true then (if inB (l1.getD i z51).f2 1 48 = true then steps_Valid.l1 k l1 (i + 1) else some false) else some false) else some false))
  else some true
def steps_Valid.l0 : Nat → List S49 → List S51 → Nat → Option Bool
 | 0, _, _, _ => none
 | k + 1, l0, l1, i => if i < l0.length then
   (if (l0.take i).any (againB (l0.getD i z49)) = true then some false else ((lexer_IsName.f k (l0.getD i z49).f0).bind fun nm => if nm = true then (if inB (l0.getD i z49).f1 1 200000 = true then (if inB (l0.getD i z49).f2 1 100 = true then steps_Valid.l0 k l0 l1 (i + 1) else some false) else some false) else some false))
  else steps_Valid.l1 k l1 0
def steps_Valid.f (k : Nat) (a0_0 : List S49) (a0_1 : List S51) (a0_2 : Int) (a0_3 : Int) : Option Bool :=
 if inB a0_0.length 1 6 = true then (if inB a0_1.length 1 20 = true then (if inB a0_2 0 1000 = true then (if inB a0_3 0 1000 = true then steps_Valid.l0 k a0_0 a0_1 0 else some false) else some false) else some false) else some false
set_option maxHeartbeats 8000000 in
set_option maxRecDepth 100000 in
theorem steps_Valid.calls (k : Nat) (A0_0 : Option Addr) (c0_0 : Nat) (l0_0 : List S49) (A0_1 : Option Addr) (c0_1 : Nat) (l0_1 : List S51) (a0_2 : Int) (a0_3 : Int) (r : Bool) (w : World) (hr0_0 : Kd.C k49 w A0_0 l0_0.length l0_0) (hc0_0 : l0_0.length ≤ c0_0) (hr0_1 : Kd.C k51 w A0_1 l0_1.length l0_1) (hc0_1 : l0_1.length ≤ c0_1) (h : steps_Valid.f k l0_0 l0_1 a0_2 a0_3 = some r) :
  Calls Tryd.prog 18 #[.agg #[.slice A0_0 l0_0.length c0_0, .slice A0_1 l0_1.length c0_1, .int .i64 a0_2, .int .i64 a0_3]] w fun e w' => e = .returned (.bool r) ∧ Below w.heap.size w w' := by
 have hu59 := Tryd.underlying35
 have hu92 := Tryd.underlying49
 have hu93 := Tryd.underlying51
 have hmf : ∀ (fn : Fn) (first cap : Array Value) (w : World), (Instr.makeFunc fn first cap).run Tryd.prog w = .ok (.func fn first cap) w := fun _ _ _ _ => rfl
 have HR0 := Aside0.mk hr0_0
 have HC0 := Aside0.mk hc0_0
 have HR1 := Aside0.mk hr0_1
 have HC1 := Aside0.mk hc0_1
 clear hr0_0 hc0_0 hr0_1 hc0_1
 unfold steps_Valid.f at h
 have arm : ∀ (a b c : Int) (q : Bool), inB a b c = q → Aside0 (steps_in.f a b c = some q) := fun a b c q hq => ⟨in_as a b c q hq⟩
 cases b1 : inB l0_0.length 1 6 with
 | false =>
  rw [b1, if_neg (by simp)] at h
  obtain rfl := Option.some.inj h
  have B1 := arm _ _ _ _ b1
  clear b1 arm h
  go_enter Tryd.func18, Tryd.ntmps18
  go_wp2_with (go_at_call 30; (with_reducible refine (steps_in.calls l0_0.length 1 6 false _ B1.out).mono ?_); rintro e w' ⟨rfl, ⟨nd, rfl⟩⟩)
  go_ret
  exact ⟨rfl, by repeat (first | exact Below.refl _ _ | apply below_alloc | apply pw_below_drewN | apply below_drew1)⟩
 | true =>
  rw [b1, if_pos rfl] at h
  cases b2 : inB l0_1.length 1 20 with
  | false =>
   rw [b2, if_neg (by simp)] at h
   obtain rfl := Option.some.inj h
   have B1 := arm _ _ _ _ b1
   have B2 := arm _ _ _ _ b2
   clear b1 b2 arm h
   go_enter Tryd.func18, Tryd.ntmps18
   go_wp2_with (first | (go_at_call 30; (with_reducible refine (steps_in.calls l0_0.length 1 6 true _ B1.out).mono ?_); rintro e w' ⟨rfl, ⟨nd, rfl⟩⟩) | (go_at_call 30; (with_reducible refine (steps_in.calls l0_1.length 1 20 false _ B2.out).mono ?_); rintro e w' ⟨rfl, ⟨nd, rfl⟩⟩))
   go_ret
   exact ⟨rfl, by repeat (first | exact Below.refl _ _ | apply below_alloc | apply pw_below_drewN | apply below_drew1)⟩
  | true =>
   rw [b2, if_pos rfl] at h
   cases b3 : inB a0_2 0 1000 with
   | false =>
    rw [b3, if_neg (by simp)] at h
    obtain rfl := Option.some.inj h
    have B1 := arm _ _ _ _ b1
    have B2 := arm _ _ _ _ b2
    have B3 := arm _ _ _ _ b3
    clear b1 b2 b3 arm h
    go_enter Tryd.func18, Tryd.ntmps18
    go_wp2_with (first | (go_at_call 30; (with_reducible refine (steps_in.calls l0_0.length 1 6 true _ B1.out).mono ?_); rintro e w' ⟨rfl, ⟨nd, rfl⟩⟩) | (go_at_call 30; (with_reducible refine (steps_in.calls l0_1.length 1 20 true _ B2.out).mono ?_); rintro e w' ⟨rfl, ⟨nd, rfl⟩⟩) | (go_at_call 30; (with_reducible refine (steps_in.calls a0_2 0 1000 false _ B3.out).mono ?_); rintro e w' ⟨rfl, ⟨nd, rfl⟩⟩))
    go_ret
    exact ⟨rfl, by repeat (first | exact Below.refl _ _ | apply below_alloc | apply pw_below_drewN | apply below_drew1)⟩
   | true =>
    rw [b3, if_pos rfl] at h
    cases b4 : inB a0_3 0 1000 with
    | false =>
     rw [b4, if_neg (by simp)] at h
     obtain rfl := Option.some.inj h
     have B1 := arm _ _ _ _ b1
     have B2 := arm _ _ _ _ b2
     have B3 := arm _ _ _ _ b3
     have B4 := arm _ _ _ _ b4
     clear b1 b2 b3 b4 arm h
     go_enter Tryd.func18, Tryd.ntmps18
     go_wp2_with (first | (go_at_call 30; (with_reducible refine (steps_in.calls l0_0.length 1 6 true _ B1.out).mono ?_); rintro e w' ⟨rfl, ⟨nd, rfl⟩⟩) | (go_at_call 30; (with_reducible refine (steps_in.calls l0_1.length 1 20 true _ B2.out).mono ?_); rintro e w' ⟨rfl, ⟨nd, rfl⟩⟩) | (go_at_call 30; (with_reducible refine (steps_in.calls a0_2 0 1000 true _ B3.out).mono ?_); rintro e w' ⟨rfl, ⟨nd, rfl⟩⟩) | (go_at_call 30; (with_reducible refine (steps_in.calls a0_3 0 1000 false _ B4.out).mono ?_); rintro e w' ⟨rfl, ⟨nd, rfl⟩⟩))
     go_ret
     exact ⟨rfl, by repeat (first | exact Below.refl _ _ | apply below_alloc | apply pw_below_drewN | apply below_drew1)⟩
    | true =>
     rw [b4, if_pos rfl] at h
     have hn0 : l0_0.length ≤ 6 := by have := b1; simp only [inB, Bool.and_eq_true, decide_eq_true_eq] at this; omega
     have hn1 : l0_1.length ≤ 20 := by have := b2; simp only [inB, Bool.and_eq_true, decide_eq_true_eq] at this; omega
     have HN0 := Aside0.mk hn0
     have HN1 := Aside0.mk hn1
     have B1 := arm _ _ _ _ b1
     have B2 := arm _ _ _ _ b2
     have B3 := arm _ _ _ _ b3
     have B4 := arm _ _ _ _ b4
     have H' := Aside0.mk h
     clear b1 b2 b3 b4 arm h hn0 hn1
     go_enter Tryd.func18, Tryd.ntmps18
     go_wp2_with (first | (go_at_call 30; (with_reducible refine (steps_in.calls l0_0.length 1 6 true _ B1.out).mono ?_); rintro e w' ⟨rfl, ⟨nd, rfl⟩⟩) | (go_at_call 30; (with_reducible refine (steps_in.calls l0_1.length 1 20 true _ B2.out).mono ?_); rintro e w' ⟨rfl, ⟨nd, rfl⟩⟩) | (go_at_call 30; (with_reducible refine (steps_in.calls a0_2 0 1000 true _ B3.out).mono ?_); rintro e w' ⟨rfl, ⟨nd, rfl⟩⟩) | (go_at_call 30; (with_reducible refine (steps_in.calls a0_3 0 1000 true _ B4.out).mono ?_); rintro e w' ⟨rfl, ⟨nd, rfl⟩⟩))
     go_loopg [36] k (fun kq v36 w' => ∃ i : Nat, v36 = .int .i64 (i : Int) ∧ Aside0 (i ≤ l0_0.length) ∧ Aside0 (steps_Valid.l0 kq l0_0 l0_1 i = some r) ∧ Aside0 (kq ≤ k) ∧ Aside0 (Below (w.heap.size + 1) (w.alloc (.cells #[.slice A0_0 l0_0.length c0_0, .slice A0_1 l0_1.length c0_1, .int .i64 a0_2, .int .i64 a0_3] 35)) w'))
     case atStart => exact ⟨0, rfl, ⟨Nat.zero_le _⟩, H', ⟨Nat.le_refl _⟩, ⟨by repeat (first | exact Below.refl _ _ | apply pw_below_drewN | apply below_drew1)⟩⟩
     case round =>
      clear H'
      obtain ⟨i, rfl, HI, HA0, HK1, HBP⟩ := hrel
      cases gk with
      | zero => exact absurd HA0.out (by simp [steps_Valid.l0])
      | succ k1 =>
       have hP0 : Aside0 ((w.alloc (.cells #[.slice A0_0 l0_0.length c0_0, .slice A0_1 l0_1.length c0_1, .int .i64 a0_2, .int .i64 a0_3] 35)).cell? ⟨w.heap.size, 0, none⟩ = some (.slice A0_0 l0_0.length c0_0)) := ⟨by simp [go_sem]⟩
       have hP1 : Aside0 ((w.alloc (.cells #[.slice A0_0 l0_0.length c0_0, .slice A0_1 l0_1.length c0_1, .int .i64 a0_2, .int .i64 a0_3] 35)).cell? ⟨w.heap.size, 1, none⟩ = some (.slice A0_1 l0_1.length c0_1)) := ⟨by simp [go_sem]⟩
       have H := HA0.out
       clear HA0
       simp only [steps_Valid.l0] at H
       by_cases hi : i < l0_0.length
       ·
        rw [if_pos hi] at H
        have c1 : decide ((i : Int) < (l0_0.length : Int)) = true := decide_eq_true (by omega)
        have c2 : decide (i < l0_0.length) = true := decide_eq_true hi
        have c3 : ((i : Int) < (l0_0.length : Int)) = True := eq_true (by omega)
        have c4 : (0 ≤ (i : Int)) = True := eq_true (by omega)
        have c5 : (i ≤ c0_0) = True := eq_true (by have := HC0.out; omega)
        have c6 : ((i : Int) ≤ (c0_0 : Int)) = True := eq_true (by have := HC0.out; omega)
        have c7 : (c0_0 < i) = False := eq_false (by have := HC0.out; omega)
        have HB0 : Aside0 (Below w.heap.size w wr) := ⟨((Below.refl w.heap.size w).alloc (Nat.le_refl _) _).trans (HBP.out.mono (Nat.le_succ _))⟩
        obtain ⟨ad, e1, hx0, hx1, hx2⟩ := at_T49 HR0.out (i : Int) (by omega) (by omega)
        cases e1
        rw [Int.toNat_natCast] at hx0 hx1 hx2
        replace hx0 := (HB0.out.cell (World.block_lt_of_cell? w _ hx0)).trans hx0
        replace hx1 := (HB0.out.cell (World.block_lt_of_cell? w _ hx1)).trans hx1
        replace hx2 := (HB0.out.cell (World.block_lt_of_cell? w _ hx2)).trans hx2
        have hX : rd_T49 l0_0 (i : Int) = l0_0.getD i z49 := by unfold rd_T49; rw [Int.toNat_natCast]
        rw [hX] at hx0 hx1 hx2
        have hw0 := (HBP.out.cell (p := ⟨w.heap.size, 0, none⟩) (by simp)).trans hP0.out
        have HII := Aside0.mk hi
        have HSZ : Aside0 (w.heap.size + 1 ≤ wr.heap.size) := ⟨by have := HBP.out.size; simpa using this⟩
        have HW := Aside0.mk (wrap_i i (by have := HN0.out; omega))
        clear hi hX
        generalize l0_0.getD i z49 = X at *
        cases ha : (l0_0.take i).any (againB X) with
        | true =>
         rw [ha, if_pos rfl] at H
         obtain rfl := Option.some.inj H
         have HA : Aside0 ((l0_0.take i).any (fun x : S49 => x.f0.toList == X.f0.toList || decide (X.f1 ≤ x.f1)) = true) := ⟨ha⟩
         clear ha H
         go_wp2_with (first | ((with_reducible refine gate_dst (N := 4) rfl ?_); refine bev (N := 4) (cs := #[.string (⟨#[]⟩ : ByteArray), .int .i64 0, .int .i64 0]) (t := 49) ?_; intro gb hg w6 hbox hb; have BK1 := Aside0.mk hbox; have HB1 := Aside0.mk (HBP.out.trans (hb.mono HSZ.out)); have GW := Aside0.mk ((by rw [hg]; exact HSZ.out) : w.heap.size < gb); have hz0 : w6.cell? ⟨gb, 0, none⟩ = some (.string (⟨#[]⟩ : ByteArray)) := (blk_cell BK1.out 0).trans rfl; have hz1 : w6.cell? ⟨gb, 1, none⟩ = some (.int .i64 0) := (blk_cell BK1.out 1).trans rfl; have hz2 : w6.cell? ⟨gb, 2, none⟩ = some (.int .i64 0) := (blk_cell BK1.out 2).trans rfl; have hf0 := blk_frozen BK1.out 0; have hf1 := blk_frozen BK1.out 1; have hf2 := blk_frozen BK1.out 2; clear hb hbox hg) | ((with_reducible refine gate_store (t := 49) (p := 4) rfl ?_); refine store_event (t := 49) (p := 4) (v := ?vsa) (w1 := (((w6.setCell ⟨gb, 0, none⟩ (.string X.f0)).setCell ⟨gb, 1, none⟩ (.int .i64 X.f1)).setCell ⟨gb, 2, none⟩ (.int .i64 X.f2))) ?hg ?ho ?hn ?hr ?_; (case ho => rfl); (case hg => rfl); (case hn => rfl); (case hr => (simp only [execOp]); (rw [show Act.eval _ (.tmp 4) = .pointer (some ⟨gb, 0, none⟩) from rfl, show Act.eval _ (.tmp 40) = .agg #[.string X.f0, .int .i64 X.f1, .int .i64 X.f2] from rfl]); exact st92 _ _ _ _ _ hz0 hz1 hz2 hf0 hf1 hf2); intro w97 hw97; have BK2 : Aside0 (w97.heap[gb]? = some (.cells #[.string X.f0, .int .i64 X.f1, .int .i64 X.f2] 49 (0, 0))) := ⟨by rw [hw97]; refine blk_put (cs := #[.string X.f0, .int .i64 X.f1, .int .i64 0]) ?_ 2 _ rfl; refine blk_put (cs := #[.string X.f0, .int .i64 0, .int .i64 0]) ?_ 1 _ rfl; refine blk_put (cs := #[.string (⟨#[]⟩ : ByteArray), .int .i64 0, .int .i64 0]) ?_ 0 _ rfl; exact BK1.out⟩; have HB2 := Aside0.mk (((HB1.out.setCell (p := ⟨gb, 0, none⟩) GW.out (.string X.f0)).setCell (p := ⟨gb, 1, none⟩) GW.out (.int .i64 X.f1)).setCell (p := ⟨gb, 2, none⟩) GW.out (.int .i64 X.f2)); rw [← hw97] at HB2; have hy0 : w97.cell? ⟨gb, 0, none⟩ = some (.string X.f0) := (blk_cell BK2.out 0).trans rfl; have hy1 : w97.cell? ⟨gb, 1, none⟩ = some (.int .i64 X.f1) := (blk_cell BK2.out 1).trans rfl; have hy2 : w97.cell? ⟨gb, 2, none⟩ = some (.int .i64 X.f2) := (blk_cell BK2.out 2).trans rfl; have hq0 := (HB2.out.cell (p := ⟨w.heap.size, 0, none⟩) (by simp)).trans hP0.out; have hq1 := (HB2.out.cell (p := ⟨w.heap.size, 1, none⟩) (by simp)).trans hP1.out; have GL : Aside0 (gb < w97.heap.size) := ⟨blk_lt_ BK2.out⟩; have HSZ2 : Aside0 (w.heap.size + 1 ≤ w97.heap.size) := ⟨by have := GL.out; have := GW.out; omega⟩; clear hz0 hz1 hz2 hf0 hf1 hf2 hw97) | (go_at_call 31; (with_reducible refine (again_hasn.calls (some ad) c0_0 l0_0 i gb X.f0 X.f1 true _ (Kd.C_below HR0.out (((Below.refl w.heap.size w).alloc (Nat.le_refl _) _).trans (HB2.out.mono (Nat.le_succ _)))) (Nat.le_of_lt HII.out) HC0.out (Nat.le_trans HN0.out (by decide)) GL.out hy0 hy1 HA.out).mono ?_); rintro e w1 ⟨rfl, hb⟩; have HB3 := Aside0.mk (HB2.out.trans (hb.mono (Nat.le_trans HSZ2.out (Nat.le_refl _)))); have BK3 := Aside0.mk ((hb.block _ GL.out).trans BK2.out); have hu0 : w1.cell? ⟨gb, 0, none⟩ = some (.string X.f0) := (blk_cell BK3.out 0).trans rfl; have hu1 : w1.cell? ⟨gb, 1, none⟩ = some (.int .i64 X.f1) := (blk_cell BK3.out 1).trans rfl; have hu2 : w1.cell? ⟨gb, 2, none⟩ = some (.int .i64 X.f2) := (blk_cell BK3.out 2).trans rfl; clear hb hy0 hy1 hy2 hq0 hq1))
         go_ret
         exact ⟨rfl, ((Below.refl w.heap.size w).alloc (Nat.le_refl _) _).trans (Below.mono (show Below (w.heap.size + 1) _ _ by repeat (first | exact HB3.out | apply pw_below_drewN | apply below_drew1)) (Nat.le_succ _))⟩
        | false =>
         rw [ha, if_neg (by simp)] at H
         obtain ⟨nm, hnm, H⟩ := Option.bind_eq_some_iff.mp H
         have HA : Aside0 ((l0_0.take i).any (fun x : S49 => x.f0.toList == X.f0.toList || decide (X.f1 ≤ x.f1)) = false) := ⟨ha⟩
         have HNM := Aside0.mk hnm
         clear ha hnm
         cases nm with
         | false =>
          rw [if_neg (by simp)] at H
          obtain rfl := Option.some.inj H
          clear H
          go_wp2_with (first | ((with_reducible refine gate_dst (N := 4) rfl ?_); refine bev (N := 4) (cs := #[.string (⟨#[]⟩ : ByteArray), .int .i64 0, .int .i64 0]) (t := 49) ?_; intro gb hg w6 hbox hb; have BK1 := Aside0.mk hbox; have HB1 := Aside0.mk (HBP.out.trans (hb.mono HSZ.out)); have GW := Aside0.mk ((by rw [hg]; exact HSZ.out) : w.heap.size < gb); have hz0 : w6.cell? ⟨gb, 0, none⟩ = some (.string (⟨#[]⟩ : ByteArray)) := (blk_cell BK1.out 0).trans rfl; have hz1 : w6.cell? ⟨gb, 1, none⟩ = some (.int .i64 0) := (blk_cell BK1.out 1).trans rfl; have hz2 : w6.cell? ⟨gb, 2, none⟩ = some (.int .i64 0) := (blk_cell BK1.out 2).trans rfl; have hf0 := blk_frozen BK1.out 0; have hf1 := blk_frozen BK1.out 1; have hf2 := blk_frozen BK1.out 2; clear hb hbox hg) | ((with_reducible refine gate_store (t := 49) (p := 4) rfl ?_); refine store_event (t := 49) (p := 4) (v := ?vsa) (w1 := (((w6.setCell ⟨gb, 0, none⟩ (.string X.f0)).setCell ⟨gb, 1, none⟩ (.int .i64 X.f1)).setCell ⟨gb, 2, none⟩ (.int .i64 X.f2))) ?hg ?ho ?hn ?hr ?_; (case ho => rfl); (case hg => rfl); (case hn => rfl); (case hr => (simp only [execOp]); (rw [show Act.eval _ (.tmp 4) = .pointer (some ⟨gb, 0, none⟩) from rfl, show Act.eval _ (.tmp 40) = .agg #[.string X.f0, .int .i64 X.f1, .int .i64 X.f2] from rfl]); exact st92 _ _ _ _ _ hz0 hz1 hz2 hf0 hf1 hf2); intro w97 hw97; have BK2 : Aside0 (w97.heap[gb]? = some (.cells #[.string X.f0, .int .i64 X.f1, .int .i64 X.f2] 49 (0, 0))) := ⟨by rw [hw97]; refine blk_put (cs := #[.string X.f0, .int .i64 X.f1, .int .i64 0]) ?_ 2 _ rfl; refine blk_put (cs := #[.string X.f0, .int .i64 0, .int .i64 0]) ?_ 1 _ rfl; refine blk_put (cs := #[.string (⟨#[]⟩ : ByteArray), .int .i64 0, .int .i64 0]) ?_ 0 _ rfl; exact BK1.out⟩; have HB2 := Aside0.mk (((HB1.out.setCell (p := ⟨gb, 0, none⟩) GW.out (.string X.f0)).setCell (p := ⟨gb, 1, none⟩) GW.out (.int .i64 X.f1)).setCell (p := ⟨gb, 2, none⟩) GW.out (.int .i64 X.f2)); rw [← hw97] at HB2; have hy0 : w97.cell? ⟨gb, 0, none⟩ = some (.string X.f0) := (blk_cell BK2.out 0).trans rfl; have hy1 : w97.cell? ⟨gb, 1, none⟩ = some (.int .i64 X.f1) := (blk_cell BK2.out 1).trans rfl; have hy2 : w97.cell? ⟨gb, 2, none⟩ = some (.int .i64 X.f2) := (blk_cell BK2.out 2).trans rfl; have hq0 := (HB2.out.cell (p := ⟨w.heap.size, 0, none⟩) (by simp)).trans hP0.out; have hq1 := (HB2.out.cell (p := ⟨w.heap.size, 1, none⟩) (by simp)).trans hP1.out; have GL : Aside0 (gb < w97.heap.size) := ⟨blk_lt_ BK2.out⟩; have HSZ2 : Aside0 (w.heap.size + 1 ≤ w97.heap.size) := ⟨by have := GL.out; have := GW.out; omega⟩; clear hz0 hz1 hz2 hf0 hf1 hf2 hw97) | (go_at_call 31; (with_reducible refine (again_hasn.calls (some ad) c0_0 l0_0 i gb X.f0 X.f1 false _ (Kd.C_below HR0.out (((Below.refl w.heap.size w).alloc (Nat.le_refl _) _).trans (HB2.out.mono (Nat.le_succ _)))) (Nat.le_of_lt HII.out) HC0.out (Nat.le_trans HN0.out (by decide)) GL.out hy0 hy1 HA.out).mono ?_); rintro e w1 ⟨rfl, hb⟩; have HB3 := Aside0.mk (HB2.out.trans (hb.mono (Nat.le_trans HSZ2.out (Nat.le_refl _)))); have BK3 := Aside0.mk ((hb.block _ GL.out).trans BK2.out); have hu0 : w1.cell? ⟨gb, 0, none⟩ = some (.string X.f0) := (blk_cell BK3.out 0).trans rfl; have hu1 : w1.cell? ⟨gb, 1, none⟩ = some (.int .i64 X.f1) := (blk_cell BK3.out 1).trans rfl; have hu2 : w1.cell? ⟨gb, 2, none⟩ = some (.int .i64 X.f2) := (blk_cell BK3.out 2).trans rfl; clear hb hy0 hy1 hy2 hq0 hq1) | (go_at_call 33; (with_reducible refine (lexer_IsName.calls k1 X.f0 false _ HNM.out).mono ?_); rintro e w' ⟨rfl, ⟨nd, rfl⟩⟩))
          go_ret
          exact ⟨rfl, ((Below.refl w.heap.size w).alloc (Nat.le_refl _) _).trans (Below.mono (show Below (w.heap.size + 1) _ _ by repeat (first | exact HB3.out | apply pw_below_drewN | apply below_drew1)) (Nat.le_succ _))⟩
         | true =>
          rw [if_pos rfl] at H
          cases h1 : inB X.f1 1 200000 with
          | false =>
           rw [h1, if_neg (by simp)] at H
           obtain rfl := Option.some.inj H
           have HI1 := Aside0.mk (in_as _ _ _ _ h1)
           clear h1 H
           go_wp2_with (first | ((with_reducible refine gate_dst (N := 4) rfl ?_); refine bev (N := 4) (cs := #[.string (⟨#[]⟩ : ByteArray), .int .i64 0, .int .i64 0]) (t := 49) ?_; intro gb hg w6 hbox hb; have BK1 := Aside0.mk hbox; have HB1 := Aside0.mk (HBP.out.trans (hb.mono HSZ.out)); have GW := Aside0.mk ((by rw [hg]; exact HSZ.out) : w.heap.size < gb); have hz0 : w6.cell? ⟨gb, 0, none⟩ = some (.string (⟨#[]⟩ : ByteArray)) := (blk_cell BK1.out 0).trans rfl; have hz1 : w6.cell? ⟨gb, 1, none⟩ = some (.int .i64 0) := (blk_cell BK1.out 1).trans rfl; have hz2 : w6.cell? ⟨gb, 2, none⟩ = some (.int .i64 0) := (blk_cell BK1.out 2).trans rfl; have hf0 := blk_frozen BK1.out 0; have hf1 := blk_frozen BK1.out 1; have hf2 := blk_frozen BK1.out 2; clear hb hbox hg) | ((with_reducible refine gate_store (t := 49) (p := 4) rfl ?_); refine store_event (t := 49) (p := 4) (v := ?vsa) (w1 := (((w6.setCell ⟨gb, 0, none⟩ (.string X.f0)).setCell ⟨gb, 1, none⟩ (.int .i64 X.f1)).setCell ⟨gb, 2, none⟩ (.int .i64 X.f2))) ?hg ?ho ?hn ?hr ?_; (case ho => rfl); (case hg => rfl); (case hn => rfl); (case hr => (simp only [execOp]); (rw [show Act.eval _ (.tmp 4) = .pointer (some ⟨gb, 0, none⟩) from rfl, show Act.eval _ (.tmp 40) = .agg #[.string X.f0, .int .i64 X.f1, .int .i64 X.f2] from rfl]); exact st92 _ _ _ _ _ hz0 hz1 hz2 hf0 hf1 hf2); intro w97 hw97; have BK2 : Aside0 (w97.heap[gb]? = some (.cells #[.string X.f0, .int .i64 X.f1, .int .i64 X.f2] 49 (0, 0))) := ⟨by rw [hw97]; refine blk_put (cs := #[.string X.f0, .int .i64 X.f1, .int .i64 0]) ?_ 2 _ rfl; refine blk_put (cs := #[.string X.f0, .int .i64 0, .int .i64 0]) ?_ 1 _ rfl; refine blk_put (cs := #[.string (⟨#[]⟩ : ByteArray), .int .i64 0, .int .i64 0]) ?_ 0 _ rfl; exact BK1.out⟩; have HB2 := Aside0.mk (((HB1.out.setCell (p := ⟨gb, 0, none⟩) GW.out (.string X.f0)).setCell (p := ⟨gb, 1, none⟩) GW.out (.int .i64 X.f1)).setCell (p := ⟨gb, 2, none⟩) GW.out (.int .i64 X.f2)); rw [← hw97] at HB2; have hy0 : w97.cell? ⟨gb, 0, none⟩ = some (.string X.f0) := (blk_cell BK2.out 0).trans rfl; have hy1 : w97.cell? ⟨gb, 1, none⟩ = some (.int .i64 X.f1) := (blk_cell BK2.out 1).trans rfl; have hy2 : w97.cell? ⟨gb, 2, none⟩ = some (.int .i64 X.f2) := (blk_cell BK2.out 2).trans rfl; have hq0 := (HB2.out.cell (p := ⟨w.heap.size, 0, none⟩) (by simp)).trans hP0.out; have hq1 := (HB2.out.cell (p := ⟨w.heap.size, 1, none⟩) (by simp)).trans hP1.out; have GL : Aside0 (gb < w97.heap.size) := ⟨blk_lt_ BK2.out⟩; have HSZ2 : Aside0 (w.heap.size + 1 ≤ w97.heap.size) := ⟨by have := GL.out; have := GW.out; omega⟩; clear hz0 hz1 hz2 hf0 hf1 hf2 hw97) | (go_at_call 31; (with_reducible refine (again_hasn.calls (some ad) c0_0 l0_0 i gb X.f0 X.f1 false _ (Kd.C_below HR0.out (((Below.refl w.heap.size w).alloc (Nat.le_refl _) _).trans (HB2.out.mono (Nat.le_succ _)))) (Nat.le_of_lt HII.out) HC0.out (Nat.le_trans HN0.out (by decide)) GL.out hy0 hy1 HA.out).mono ?_); rintro e w1 ⟨rfl, hb⟩; have HB3 := Aside0.mk (HB2.out.trans (hb.mono (Nat.le_trans HSZ2.out (Nat.le_refl _)))); have BK3 := Aside0.mk ((hb.block _ GL.out).trans BK2.out); have hu0 : w1.cell? ⟨gb, 0, none⟩ = some (.string X.f0) := (blk_cell BK3.out 0).trans rfl; have hu1 : w1.cell? ⟨gb, 1, none⟩ = some (.int .i64 X.f1) := (blk_cell BK3.out 1).trans rfl; have hu2 : w1.cell? ⟨gb, 2, none⟩ = some (.int .i64 X.f2) := (blk_cell BK3.out 2).trans rfl; clear hb hy0 hy1 hy2 hq0 hq1) | (go_at_call 33; (with_reducible refine (lexer_IsName.calls k1 X.f0 true _ HNM.out).mono ?_); rintro e w' ⟨rfl, ⟨nd, rfl⟩⟩) | (go_at_call 30; (with_reducible refine (steps_in.calls X.f1 1 200000 false _ HI1.out).mono ?_); rintro e w' ⟨rfl, ⟨nd, rfl⟩⟩))
           go_ret
           exact ⟨rfl, ((Below.refl w.heap.size w).alloc (Nat.le_refl _) _).trans (Below.mono (show Below (w.heap.size + 1) _ _ by repeat (first | exact HB3.out | apply pw_below_drewN | apply below_drew1)) (Nat.le_succ _))⟩
          | true =>
           rw [h1, if_pos rfl] at H
           have HI1 := Aside0.mk (in_as _ _ _ _ h1)
           clear h1
           cases h2 : inB X.f2 1 100 with
           | false =>
            rw [h2, if_neg (by simp)] at H
            obtain rfl := Option.some.inj H
            have HI2 := Aside0.mk (in_as _ _ _ _ h2)
            clear h2 H
            go_wp2_with (first | ((with_reducible refine gate_dst (N := 4) rfl ?_); refine bev (N := 4) (cs := #[.string (⟨#[]⟩ : ByteArray), .int .i64 0, .int .i64 0]) (t := 49) ?_; intro gb hg w6 hbox hb; have BK1 := Aside0.mk hbox; have HB1 := Aside0.mk (HBP.out.trans (hb.mono HSZ.out)); have GW := Aside0.mk ((by rw [hg]; exact HSZ.out) : w.heap.size < gb); have hz0 : w6.cell? ⟨gb, 0, none⟩ = some (.string (⟨#[]⟩ : ByteArray)) := (blk_cell BK1.out 0).trans rfl; have hz1 : w6.cell? ⟨gb, 1, none⟩ = some (.int .i64 0) := (blk_cell BK1.out 1).trans rfl; have hz2 : w6.cell? ⟨gb, 2, none⟩ = some (.int .i64 0) := (blk_cell BK1.out 2).trans rfl; have hf0 := blk_frozen BK1.out 0; have hf1 := blk_frozen BK1.out 1; have hf2 := blk_frozen BK1.out 2; clear hb hbox hg) | ((with_reducible refine gate_store (t := 49) (p := 4) rfl ?_); refine store_event (t := 49) (p := 4) (v := ?vsa) (w1 := (((w6.setCell ⟨gb, 0, none⟩ (.string X.f0)).setCell ⟨gb, 1, none⟩ (.int .i64 X.f1)).setCell ⟨gb, 2, none⟩ (.int .i64 X.f2))) ?hg ?ho ?hn ?hr ?_; (case ho => rfl); (case hg => rfl); (case hn => rfl); (case hr => (simp only [execOp]); (rw [show Act.eval _ (.tmp 4) = .pointer (some ⟨gb, 0, none⟩) from rfl, show Act.eval _ (.tmp 40) = .agg #[.string X.f0, .int .i64 X.f1, .int .i64 X.f2] from rfl]); exact st92 _ _ _ _ _ hz0 hz1 hz2 hf0 hf1 hf2); intro w97 hw97; have BK2 : Aside0 (w97.heap[gb]? = some (.cells #[.string X.f0, .int .i64 X.f1, .int .i64 X.f2] 49 (0, 0))) := ⟨by rw [hw97]; refine blk_put (cs := #[.string X.f0, .int .i64 X.f1, .int .i64 0]) ?_ 2 _ rfl; refine blk_put (cs := #[.string X.f0, .int .i64 0, .int .i64 0]) ?_ 1 _ rfl; refine blk_put (cs := #[.string (⟨#[]⟩ : ByteArray), .int .i64 0, .int .i64 0]) ?_ 0 _ rfl; exact BK1.out⟩; have HB2 := Aside0.mk (((HB1.out.setCell (p := ⟨gb, 0, none⟩) GW.out (.string X.f0)).setCell (p := ⟨gb, 1, none⟩) GW.out (.int .i64 X.f1)).setCell (p := ⟨gb, 2, none⟩) GW.out (.int .i64 X.f2)); rw [← hw97] at HB2; have hy0 : w97.cell? ⟨gb, 0, none⟩ = some (.string X.f0) := (blk_cell BK2.out 0).trans rfl; have hy1 : w97.cell? ⟨gb, 1, none⟩ = some (.int .i64 X.f1) := (blk_cell BK2.out 1).trans rfl; have hy2 : w97.cell? ⟨gb, 2, none⟩ = some (.int .i64 X.f2) := (blk_cell BK2.out 2).trans rfl; have hq0 := (HB2.out.cell (p := ⟨w.heap.size, 0, none⟩) (by simp)).trans hP0.out; have hq1 := (HB2.out.cell (p := ⟨w.heap.size, 1, none⟩) (by simp)).trans hP1.out; have GL : Aside0 (gb < w97.heap.size) := ⟨blk_lt_ BK2.out⟩; have HSZ2 : Aside0 (w.heap.size + 1 ≤ w97.heap.size) := ⟨by have := GL.out; have := GW.out; omega⟩; clear hz0 hz1 hz2 hf0 hf1 hf2 hw97) | (go_at_call 31; (with_reducible refine (again_hasn.calls (some ad) c0_0 l0_0 i gb X.f0 X.f1 false _ (Kd.C_below HR0.out (((Below.refl w.heap.size w).alloc (Nat.le_refl _) _).trans (HB2.out.mono (Nat.le_succ _)))) (Nat.le_of_lt HII.out) HC0.out (Nat.le_trans HN0.out (by decide)) GL.out hy0 hy1 HA.out).mono ?_); rintro e w1 ⟨rfl, hb⟩; have HB3 := Aside0.mk (HB2.out.trans (hb.mono (Nat.le_trans HSZ2.out (Nat.le_refl _)))); have BK3 := Aside0.mk ((hb.block _ GL.out).trans BK2.out); have hu0 : w1.cell? ⟨gb, 0, none⟩ = some (.string X.f0) := (blk_cell BK3.out 0).trans rfl; have hu1 : w1.cell? ⟨gb, 1, none⟩ = some (.int .i64 X.f1) := (blk_cell BK3.out 1).trans rfl; have hu2 : w1.cell? ⟨gb, 2, none⟩ = some (.int .i64 X.f2) := (blk_cell BK3.out 2).trans rfl; clear hb hy0 hy1 hy2 hq0 hq1) | (go_at_call 33; (with_reducible refine (lexer_IsName.calls k1 X.f0 true _ HNM.out).mono ?_); rintro e w' ⟨rfl, ⟨nd, rfl⟩⟩) | (go_at_call 30; (with_reducible refine (steps_in.calls X.f1 1 200000 true _ HI1.out).mono ?_); rintro e w' ⟨rfl, ⟨nd, rfl⟩⟩) | (go_at_call 30; (with_reducible refine (steps_in.calls X.f2 1 100 false _ HI2.out).mono ?_); rintro e w' ⟨rfl, ⟨nd, rfl⟩⟩))
            go_ret
            exact ⟨rfl, ((Below.refl w.heap.size w).alloc (Nat.le_refl _) _).trans (Below.mono (show Below (w.heap.size + 1) _ _ by repeat (first | exact HB3.out | apply pw_below_drewN | apply below_drew1)) (Nat.le_succ _))⟩
           | true =>
            rw [h2, if_pos rfl] at H
            have HI2 := Aside0.mk (in_as _ _ _ _ h2)
            have H' := Aside0.mk H
            clear h2 H
            go_wp2_with (first | ((with_reducible refine gate_dst (N := 4) rfl ?_); refine bev (N := 4) (cs := #[.string (⟨#[]⟩ : ByteArray), .int .i64 0, .int .i64 0]) (t := 49) ?_; intro gb hg w6 hbox hb; have BK1 := Aside0.mk hbox; have HB1 := Aside0.mk (HBP.out.trans (hb.mono HSZ.out)); have GW := Aside0.mk ((by rw [hg]; exact HSZ.out) : w.heap.size < gb); have hz0 : w6.cell? ⟨gb, 0, none⟩ = some (.string (⟨#[]⟩ : ByteArray)) := (blk_cell BK1.out 0).trans rfl; have hz1 : w6.cell? ⟨gb, 1, none⟩ = some (.int .i64 0) := (blk_cell BK1.out 1).trans rfl; have hz2 : w6.cell? ⟨gb, 2, none⟩ = some (.int .i64 0) := (blk_cell BK1.out 2).trans rfl; have hf0 := blk_frozen BK1.out 0; have hf1 := blk_frozen BK1.out 1; have hf2 := blk_frozen BK1.out 2; clear hb hbox hg) | ((with_reducible refine gate_store (t := 49) (p := 4) rfl ?_); refine store_event (t := 49) (p := 4) (v := ?vsa) (w1 := (((w6.setCell ⟨gb, 0, none⟩ (.string X.f0)).setCell ⟨gb, 1, none⟩ (.int .i64 X.f1)).setCell ⟨gb, 2, none⟩ (.int .i64 X.f2))) ?hg ?ho ?hn ?hr ?_; (case ho => rfl); (case hg => rfl); (case hn => rfl); (case hr => (simp only [execOp]); (rw [show Act.eval _ (.tmp 4) = .pointer (some ⟨gb, 0, none⟩) from rfl, show Act.eval _ (.tmp 40) = .agg #[.string X.f0, .int .i64 X.f1, .int .i64 X.f2] from rfl]); exact st92 _ _ _ _ _ hz0 hz1 hz2 hf0 hf1 hf2); intro w97 hw97; have BK2 : Aside0 (w97.heap[gb]? = some (.cells #[.string X.f0, .int .i64 X.f1, .int .i64 X.f2] 49 (0, 0))) := ⟨by rw [hw97]; refine blk_put (cs := #[.string X.f0, .int .i64 X.f1, .int .i64 0]) ?_ 2 _ rfl; refine blk_put (cs := #[.string X.f0, .int .i64 0, .int .i64 0]) ?_ 1 _ rfl; refine blk_put (cs := #[.string (⟨#[]⟩ : ByteArray), .int .i64 0, .int .i64 0]) ?_ 0 _ rfl; exact BK1.out⟩; have HB2 := Aside0.mk (((HB1.out.setCell (p := ⟨gb, 0, none⟩) GW.out (.string X.f0)).setCell (p := ⟨gb, 1, none⟩) GW.out (.int .i64 X.f1)).setCell (p := ⟨gb, 2, none⟩) GW.out (.int .i64 X.f2)); rw [← hw97] at HB2; have hy0 : w97.cell? ⟨gb, 0, none⟩ = some (.string X.f0) := (blk_cell BK2.out 0).trans rfl; have hy1 : w97.cell? ⟨gb, 1, none⟩ = some (.int .i64 X.f1) := (blk_cell BK2.out 1).trans rfl; have hy2 : w97.cell? ⟨gb, 2, none⟩ = some (.int .i64 X.f2) := (blk_cell BK2.out 2).trans rfl; have hq0 := (HB2.out.cell (p := ⟨w.heap.size, 0, none⟩) (by simp)).trans hP0.out; have hq1 := (HB2.out.cell (p := ⟨w.heap.size, 1, none⟩) (by simp)).trans hP1.out; have GL : Aside0 (gb < w97.heap.size) := ⟨blk_lt_ BK2.out⟩; have HSZ2 : Aside0 (w.heap.size + 1 ≤ w97.heap.size) := ⟨by have := GL.out; have := GW.out; omega⟩; clear hz0 hz1 hz2 hf0 hf1 hf2 hw97) | (go_at_call 31; (with_reducible refine (again_hasn.calls (some ad) c0_0 l0_0 i gb X.f0 X.f1 false _ (Kd.C_below HR0.out (((Below.refl w.heap.size w).alloc (Nat.le_refl _) _).trans (HB2.out.mono (Nat.le_succ _)))) (Nat.le_of_lt HII.out) HC0.out (Nat.le_trans HN0.out (by decide)) GL.out hy0 hy1 HA.out).mono ?_); rintro e w1 ⟨rfl, hb⟩; have HB3 := Aside0.mk (HB2.out.trans (hb.mono (Nat.le_trans HSZ2.out (Nat.le_refl _)))); have BK3 := Aside0.mk ((hb.block _ GL.out).trans BK2.out); have hu0 : w1.cell? ⟨gb, 0, none⟩ = some (.string X.f0) := (blk_cell BK3.out 0).trans rfl; have hu1 : w1.cell? ⟨gb, 1, none⟩ = some (.int .i64 X.f1) := (blk_cell BK3.out 1).trans rfl; have hu2 : w1.cell? ⟨gb, 2, none⟩ = some (.int .i64 X.f2) := (blk_cell BK3.out 2).trans rfl; clear hb hy0 hy1 hy2 hq0 hq1) | (go_at_call 33; (with_reducible refine (lexer_IsName.calls k1 X.f0 true _ HNM.out).mono ?_); rintro e w' ⟨rfl, ⟨nd, rfl⟩⟩) | (go_at_call 30; (with_reducible refine (steps_in.calls X.f1 1 200000 true _ HI1.out).mono ?_); rintro e w' ⟨rfl, ⟨nd, rfl⟩⟩) | (go_at_call 30; (with_reducible refine (steps_in.calls X.f2 1 100 true _ HI2.out).mono ?_); rintro e w' ⟨rfl, ⟨nd, rfl⟩⟩))
            go_roundg k1
            case measure => omega
            case rel => exact ⟨i + 1, congrArg (Value.int .i64) HW.out, ⟨HII.out⟩, H', ⟨by have := HK1.out; omega⟩, ⟨mb_ HB3.out⟩⟩
       ·
        rw [if_neg hi] at H
        have c1 : decide ((i : Int) < (l0_0.length : Int)) = false := decide_eq_false (by omega)
        have c2 : decide (i < l0_0.length) = false := decide_eq_false hi
        have hw1 := (HBP.out.cell (p := ⟨w.heap.size, 1, none⟩) (by simp)).trans hP1.out
        have H' := Aside0.mk H
        clear hi H
        go_wp2
        go_loopg [70] k1 (fun kq v70 w' => ∃ i : Nat, v70 = .int .i64 (i : Int) ∧ Aside0 (i ≤ l0_1.length) ∧ Aside0 (steps_Valid.l1 kq l0_1 i = some r) ∧ Aside0 (kq ≤ k1) ∧ Aside0 (Below (w.heap.size + 1) (w.alloc (.cells #[.slice A0_0 l0_0.length c0_0, .slice A0_1 l0_1.length c0_1, .int .i64 a0_2, .int .i64 a0_3] 35)) w'))
        case atStart => exact ⟨0, rfl, ⟨Nat.zero_le _⟩, H', ⟨Nat.le_refl _⟩, ⟨mb_ HBP.out⟩⟩
        case round =>
         clear H' HI HBP HK1 c1 c2 hw1
         obtain ⟨i, rfl, HI, HA0, HK1, HBP⟩ := hrel
         cases gk with
         | zero => exact absurd HA0.out (by simp [steps_Valid.l1])
         | succ k1 =>
          have H := HA0.out
          clear HA0
          simp only [steps_Valid.l1] at H
          by_cases hi : i < l0_1.length
          ·
           rw [if_pos hi] at H
           have c1 : decide ((i : Int) < (l0_1.length : Int)) = true := decide_eq_true (by omega)
           have c2 : decide (i < l0_1.length) = true := decide_eq_true hi
           have c3 : ((i : Int) < (l0_1.length : Int)) = True := eq_true (by omega)
           have c4 : (0 ≤ (i : Int)) = True := eq_true (by omega)
           have c5 : (i ≤ c0_1) = True := eq_true (by have := HC1.out; omega)
           have c6 : ((i : Int) ≤ (c0_1 : Int)) = True := eq_true (by have := HC1.out; omega)
           have c7 : (c0_1 < i) = False := eq_false (by have := HC1.out; omega)
           have HB0 : Aside0 (Below w.heap.size w wr) := ⟨((Below.refl w.heap.size w).alloc (Nat.le_refl _) _).trans (HBP.out.mono (Nat.le_succ _))⟩
           obtain ⟨ad, e1, hx0, hx1, hx2⟩ := at_T51 HR1.out (i : Int) (by omega) (by omega)
           cases e1
           rw [Int.toNat_natCast] at hx0 hx1 hx2
           replace hx0 := (HB0.out.cell (World.block_lt_of_cell? w _ hx0)).trans hx0
           replace hx1 := (HB0.out.cell (World.block_lt_of_cell? w _ hx1)).trans hx1
           replace hx2 := (HB0.out.cell (World.block_lt_of_cell? w _ hx2)).trans hx2
           have hX : rd_T51 l0_1 (i : Int) = l0_1.getD i z51 := by unfold rd_T51; rw [Int.toNat_natCast]
           rw [hX] at hx0 hx1 hx2
           have hw0 := (HBP.out.cell (p := ⟨w.heap.size, 1, none⟩) (by simp)).trans hP1.out
           have HII := Aside0.mk hi
           have HSZ : Aside0 (w.heap.size + 1 ≤ wr.heap.size) := ⟨by have := HBP.out.size; simpa using this⟩
           have HW := Aside0.mk (wrap_i i (by have := HN1.out; omega))
           clear hi hX
           generalize l0_1.getD i z51 = X at *
           cases ha : (l0_1.take i).any (fun y => y.f0.toList == X.f0.toList) with
           | true =>
            rw [ha, if_pos rfl] at H
            obtain rfl := Option.some.inj H
            have HA : Aside0 ((l0_1.take i).any (fun x : S51 => x.f0.toList == X.f0.toList) = true) := ⟨ha⟩
            clear ha H
            go_wp2_with (first | ((with_reducible refine gate_dst (N := 7) rfl ?_); refine bev (N := 7) (cs := #[.string (⟨#[]⟩ : ByteArray), .int .i64 0, .int .i64 0]) (t := 51) ?_; intro gb hg w6 hbox hb; have BK1 := Aside0.mk hbox; have HB1 := Aside0.mk (HBP.out.trans (hb.mono HSZ.out)); have GW := Aside0.mk ((by rw [hg]; exact HSZ.out) : w.heap.size < gb); have hz0 : w6.cell? ⟨gb, 0, none⟩ = some (.string (⟨#[]⟩ : ByteArray)) := (blk_cell BK1.out 0).trans rfl; have hz1 : w6.cell? ⟨gb, 1, none⟩ = some (.int .i64 0) := (blk_cell BK1.out 1).trans rfl; have hz2 : w6.cell? ⟨gb, 2, none⟩ = some (.int .i64 0) := (blk_cell BK1.out 2).trans rfl; have hf0 := blk_frozen BK1.out 0; have hf1 := blk_frozen BK1.out 1; have hf2 := blk_frozen BK1.out 2; clear hb hbox hg) | ((with_reducible refine gate_store (t := 51) (p := 7) rfl ?_); refine store_event (t := 51) (p := 7) (v := ?vsn) (w1 := (((w6.setCell ⟨gb, 0, none⟩ (.string X.f0)).setCell ⟨gb, 1, none⟩ (.int .i64 X.f1)).setCell ⟨gb, 2, none⟩ (.int .i64 X.f2))) ?hg ?ho ?hn ?hr ?_; (case ho => rfl); (case hg => rfl); (case hn => rfl); (case hr => (simp only [execOp]); (rw [show Act.eval _ (.tmp 7) = .pointer (some ⟨gb, 0, none⟩) from rfl, show Act.eval _ (.tmp 74) = .agg #[.string X.f0, .int .i64 X.f1, .int .i64 X.f2] from rfl]); exact st93 _ _ _ _ _ hz0 hz1 hz2 hf0 hf1 hf2); intro w97 hw97; have BK2 : Aside0 (w97.heap[gb]? = some (.cells #[.string X.f0, .int .i64 X.f1, .int .i64 X.f2] 51 (0, 0))) := ⟨by rw [hw97]; refine blk_put (cs := #[.string X.f0, .int .i64 X.f1, .int .i64 0]) ?_ 2 _ rfl; refine blk_put (cs := #[.string X.f0, .int .i64 0, .int .i64 0]) ?_ 1 _ rfl; refine blk_put (cs := #[.string (⟨#[]⟩ : ByteArray), .int .i64 0, .int .i64 0]) ?_ 0 _ rfl; exact BK1.out⟩; have HB2 := Aside0.mk (((HB1.out.setCell (p := ⟨gb, 0, none⟩) GW.out (.string X.f0)).setCell (p := ⟨gb, 1, none⟩) GW.out (.int .i64 X.f1)).setCell (p := ⟨gb, 2, none⟩) GW.out (.int .i64 X.f2)); rw [← hw97] at HB2; have hy0 : w97.cell? ⟨gb, 0, none⟩ = some (.string X.f0) := (blk_cell BK2.out 0).trans rfl; have hy1 : w97.cell? ⟨gb, 1, none⟩ = some (.int .i64 X.f1) := (blk_cell BK2.out 1).trans rfl; have hy2 : w97.cell? ⟨gb, 2, none⟩ = some (.int .i64 X.f2) := (blk_cell BK2.out 2).trans rfl; have hq0 := (HB2.out.cell (p := ⟨w.heap.size, 0, none⟩) (by simp)).trans hP0.out; have hq1 := (HB2.out.cell (p := ⟨w.heap.size, 1, none⟩) (by simp)).trans hP1.out; have GL : Aside0 (gb < w97.heap.size) := ⟨blk_lt_ BK2.out⟩; have HSZ2 : Aside0 (w.heap.size + 1 ≤ w97.heap.size) := ⟨by have := GL.out; have := GW.out; omega⟩; clear hz0 hz1 hz2 hf0 hf1 hf2 hw97) | (go_at_call 34; (with_reducible refine (named_hasn.calls (some ad) c0_1 l0_1 i gb X.f0 true _ (Kd.C_below HR1.out (((Below.refl w.heap.size w).alloc (Nat.le_refl _) _).trans (HB2.out.mono (Nat.le_succ _)))) (Nat.le_of_lt HII.out) HC1.out (Nat.le_trans HN1.out (by decide)) GL.out hy0 HA.out).mono ?_); rintro e w1 ⟨rfl, hb⟩; have HB3 := Aside0.mk (HB2.out.trans (hb.mono (Nat.le_trans HSZ2.out (Nat.le_refl _)))); have BK3 := Aside0.mk ((hb.block _ GL.out).trans BK2.out); have hu0 : w1.cell? ⟨gb, 0, none⟩ = some (.string X.f0) := (blk_cell BK3.out 0).trans rfl; have hu1 : w1.cell? ⟨gb, 1, none⟩ = some (.int .i64 X.f1) := (blk_cell BK3.out 1).trans rfl; have hu2 : w1.cell? ⟨gb, 2, none⟩ = some (.int .i64 X.f2) := (blk_cell BK3.out 2).trans rfl; clear hb hy0 hy1 hy2 hq0 hq1))
            go_ret
            exact ⟨rfl, ((Below.refl w.heap.size w).alloc (Nat.le_refl _) _).trans (Below.mono (show Below (w.heap.size + 1) _ _ by repeat (first | exact HB3.out | apply pw_below_drewN | apply below_drew1)) (Nat.le_succ _))⟩
           | false =>
            rw [ha, if_neg (by simp)] at H
            obtain ⟨nm, hnm, H⟩ := Option.bind_eq_some_iff.mp H
            have HA : Aside0 ((l0_1.take i).any (fun x : S51 => x.f0.toList == X.f0.toList) = false) := ⟨ha⟩
            have HNM := Aside0.mk hnm
            clear ha hnm
            cases nm with
            | false =>
             rw [if_neg (by simp)] at H
             obtain rfl := Option.some.inj H
             clear H
             go_wp2_with (first | ((with_reducible refine gate_dst (N := 7) rfl ?_); refine bev (N := 7) (cs := #[.string (⟨#[]⟩ : ByteArray), .int .i64 0, .int .i64 0]) (t := 51) ?_; intro gb hg w6 hbox hb; have BK1 := Aside0.mk hbox; have HB1 := Aside0.mk (HBP.out.trans (hb.mono HSZ.out)); have GW := Aside0.mk ((by rw [hg]; exact HSZ.out) : w.heap.size < gb); have hz0 : w6.cell? ⟨gb, 0, none⟩ = some (.string (⟨#[]⟩ : ByteArray)) := (blk_cell BK1.out 0).trans rfl; have hz1 : w6.cell? ⟨gb, 1, none⟩ = some (.int .i64 0) := (blk_cell BK1.out 1).trans rfl; have hz2 : w6.cell? ⟨gb, 2, none⟩ = some (.int .i64 0) := (blk_cell BK1.out 2).trans rfl; have hf0 := blk_frozen BK1.out 0; have hf1 := blk_frozen BK1.out 1; have hf2 := blk_frozen BK1.out 2; clear hb hbox hg) | ((with_reducible refine gate_store (t := 51) (p := 7) rfl ?_); refine store_event (t := 51) (p := 7) (v := ?vsn) (w1 := (((w6.setCell ⟨gb, 0, none⟩ (.string X.f0)).setCell ⟨gb, 1, none⟩ (.int .i64 X.f1)).setCell ⟨gb, 2, none⟩ (.int .i64 X.f2))) ?hg ?ho ?hn ?hr ?_; (case ho => rfl); (case hg => rfl); (case hn => rfl); (case hr => (simp only [execOp]); (rw [show Act.eval _ (.tmp 7) = .pointer (some ⟨gb, 0, none⟩) from rfl, show Act.eval _ (.tmp 74) = .agg #[.string X.f0, .int .i64 X.f1, .int .i64 X.f2] from rfl]); exact st93 _ _ _ _ _ hz0 hz1 hz2 hf0 hf1 hf2); intro w97 hw97; have BK2 : Aside0 (w97.heap[gb]? = some (.cells #[.string X.f0, .int .i64 X.f1, .int .i64 X.f2] 51 (0, 0))) := ⟨by rw [hw97]; refine blk_put (cs := #[.string X.f0, .int .i64 X.f1, .int .i64 0]) ?_ 2 _ rfl; refine blk_put (cs := #[.string X.f0, .int .i64 0, .int .i64 0]) ?_ 1 _ rfl; refine blk_put (cs := #[.string (⟨#[]⟩ : ByteArray), .int .i64 0, .int .i64 0]) ?_ 0 _ rfl; exact BK1.out⟩; have HB2 := Aside0.mk (((HB1.out.setCell (p := ⟨gb, 0, none⟩) GW.out (.string X.f0)).setCell (p := ⟨gb, 1, none⟩) GW.out (.int .i64 X.f1)).setCell (p := ⟨gb, 2, none⟩) GW.out (.int .i64 X.f2)); rw [← hw97] at HB2; have hy0 : w97.cell? ⟨gb, 0, none⟩ = some (.string X.f0) := (blk_cell BK2.out 0).trans rfl; have hy1 : w97.cell? ⟨gb, 1, none⟩ = some (.int .i64 X.f1) := (blk_cell BK2.out 1).trans rfl; have hy2 : w97.cell? ⟨gb, 2, none⟩ = some (.int .i64 X.f2) := (blk_cell BK2.out 2).trans rfl; have hq0 := (HB2.out.cell (p := ⟨w.heap.size, 0, none⟩) (by simp)).trans hP0.out; have hq1 := (HB2.out.cell (p := ⟨w.heap.size, 1, none⟩) (by simp)).trans hP1.out; have GL : Aside0 (gb < w97.heap.size) := ⟨blk_lt_ BK2.out⟩; have HSZ2 : Aside0 (w.heap.size + 1 ≤ w97.heap.size) := ⟨by have := GL.out; have := GW.out; omega⟩; clear hz0 hz1 hz2 hf0 hf1 hf2 hw97) | (go_at_call 34; (with_reducible refine (named_hasn.calls (some ad) c0_1 l0_1 i gb X.f0 false _ (Kd.C_below HR1.out (((Below.refl w.heap.size w).alloc (Nat.le_refl _) _).trans (HB2.out.mono (Nat.le_succ _)))) (Nat.le_of_lt HII.out) HC1.out (Nat.le_trans HN1.out (by decide)) GL.out hy0 HA.out).mono ?_); rintro e w1 ⟨rfl, hb⟩; have HB3 := Aside0.mk (HB2.out.trans (hb.mono (Nat.le_trans HSZ2.out (Nat.le_refl _)))); have BK3 := Aside0.mk ((hb.block _ GL.out).trans BK2.out); have hu0 : w1.cell? ⟨gb, 0, none⟩ = some (.string X.f0) := (blk_cell BK3.out 0).trans rfl; have hu1 : w1.cell? ⟨gb, 1, none⟩ = some (.int .i64 X.f1) := (blk_cell BK3.out 1).trans rfl; have hu2 : w1.cell? ⟨gb, 2, none⟩ = some (.int .i64 X.f2) := (blk_cell BK3.out 2).trans rfl; clear hb hy0 hy1 hy2 hq0 hq1) | (go_at_call 33; (with_reducible refine (lexer_IsName.calls k1 X.f0 false _ HNM.out).mono ?_); rintro e w' ⟨rfl, ⟨nd, rfl⟩⟩))
             go_ret
             exact ⟨rfl, ((Below.refl w.heap.size w).alloc (Nat.le_refl _) _).trans (Below.mono (show Below (w.heap.size + 1) _ _ by repeat (first | exact HB3.out | apply pw_below_drewN | apply below_drew1)) (Nat.le_succ _))⟩
            | true =>
             rw [if_pos rfl] at H
             cases h1 : inB X.f1 1 2 with
             | false =>
              rw [h1, if_neg (by simp)] at H
              obtain rfl := Option.some.inj H
              have HI1 := Aside0.mk (in_as _ _ _ _ h1)
              clear h1 H
              go_wp2_with (first | ((with_reducible refine gate_dst (N := 7) rfl ?_); refine bev (N := 7) (cs := #[.string (⟨#[]⟩ : ByteArray), .int .i64 0, .int .i64 0]) (t := 51) ?_; intro gb hg w6 hbox hb; have BK1 := Aside0.mk hbox; have HB1 := Aside0.mk (HBP.out.trans (hb.mono HSZ.out)); have GW := Aside0.mk ((by rw [hg]; exact HSZ.out) : w.heap.size < gb); have hz0 : w6.cell? ⟨gb, 0, none⟩ = some (.string (⟨#[]⟩ : ByteArray)) := (blk_cell BK1.out 0).trans rfl; have hz1 : w6.cell? ⟨gb, 1, none⟩ = some (.int .i64 0) := (blk_cell BK1.out 1).trans rfl; have hz2 : w6.cell? ⟨gb, 2, none⟩ = some (.int .i64 0) := (blk_cell BK1.out 2).trans rfl; have hf0 := blk_frozen BK1.out 0; have hf1 := blk_frozen BK1.out 1; have hf2 := blk_frozen BK1.out 2; clear hb hbox hg) | ((with_reducible refine gate_store (t := 51) (p := 7) rfl ?_); refine store_event (t := 51) (p := 7) (v := ?vsn) (w1 := (((w6.setCell ⟨gb, 0, none⟩ (.string X.f0)).setCell ⟨gb, 1, none⟩ (.int .i64 X.f1)).setCell ⟨gb, 2, none⟩ (.int .i64 X.f2))) ?hg ?ho ?hn ?hr ?_; (case ho => rfl); (case hg => rfl); (case hn => rfl); (case hr => (simp only [execOp]); (rw [show Act.eval _ (.tmp 7) = .pointer (some ⟨gb, 0, none⟩) from rfl, show Act.eval _ (.tmp 74) = .agg #[.string X.f0, .int .i64 X.f1, .int .i64 X.f2] from rfl]); exact st93 _ _ _ _ _ hz0 hz1 hz2 hf0 hf1 hf2); intro w97 hw97; have BK2 : Aside0 (w97.heap[gb]? = some (.cells #[.string X.f0, .int .i64 X.f1, .int .i64 X.f2] 51 (0, 0))) := ⟨by rw [hw97]; refine blk_put (cs := #[.string X.f0, .int .i64 X.f1, .int .i64 0]) ?_ 2 _ rfl; refine blk_put (cs := #[.string X.f0, .int .i64 0, .int .i64 0]) ?_ 1 _ rfl; refine blk_put (cs := #[.string (⟨#[]⟩ : ByteArray), .int .i64 0, .int .i64 0]) ?_ 0 _ rfl; exact BK1.out⟩; have HB2 := Aside0.mk (((HB1.out.setCell (p := ⟨gb, 0, none⟩) GW.out (.string X.f0)).setCell (p := ⟨gb, 1, none⟩) GW.out (.int .i64 X.f1)).setCell (p := ⟨gb, 2, none⟩) GW.out (.int .i64 X.f2)); rw [← hw97] at HB2; have hy0 : w97.cell? ⟨gb, 0, none⟩ = some (.string X.f0) := (blk_cell BK2.out 0).trans rfl; have hy1 : w97.cell? ⟨gb, 1, none⟩ = some (.int .i64 X.f1) := (blk_cell BK2.out 1).trans rfl; have hy2 : w97.cell? ⟨gb, 2, none⟩ = some (.int .i64 X.f2) := (blk_cell BK2.out 2).trans rfl; have hq0 := (HB2.out.cell (p := ⟨w.heap.size, 0, none⟩) (by simp)).trans hP0.out; have hq1 := (HB2.out.cell (p := ⟨w.heap.size, 1, none⟩) (by simp)).trans hP1.out; have GL : Aside0 (gb < w97.heap.size) := ⟨blk_lt_ BK2.out⟩; have HSZ2 : Aside0 (w.heap.size + 1 ≤ w97.heap.size) := ⟨by have := GL.out; have := GW.out; omega⟩; clear hz0 hz1 hz2 hf0 hf1 hf2 hw97) | (go_at_call 34; (with_reducible refine (named_hasn.calls (some ad) c0_1 l0_1 i gb X.f0 false _ (Kd.C_below HR1.out (((Below.refl w.heap.size w).alloc (Nat.le_refl _) _).trans (HB2.out.mono (Nat.le_succ _)))) (Nat.le_of_lt HII.out) HC1.out (Nat.le_trans HN1.out (by decide)) GL.out hy0 HA.out).mono ?_); rintro e w1 ⟨rfl, hb⟩; have HB3 := Aside0.mk (HB2.out.trans (hb.mono (Nat.le_trans HSZ2.out (Nat.le_refl _)))); have BK3 := Aside0.mk ((hb.block _ GL.out).trans BK2.out); have hu0 : w1.cell? ⟨gb, 0, none⟩ = some (.string X.f0) := (blk_cell BK3.out 0).trans rfl; have hu1 : w1.cell? ⟨gb, 1, none⟩ = some (.int .i64 X.f1) := (blk_cell BK3.out 1).trans rfl; have hu2 : w1.cell? ⟨gb, 2, none⟩ = some (.int .i64 X.f2) := (blk_cell BK3.out 2).trans rfl; clear hb hy0 hy1 hy2 hq0 hq1) | (go_at_call 33; (with_reducible refine (lexer_IsName.calls k1 X.f0 true _ HNM.out).mono ?_); rintro e w' ⟨rfl, ⟨nd, rfl⟩⟩) | (go_at_call 30; (with_reducible refine (steps_in.calls X.f1 1 2 false _ HI1.out).mono ?_); rintro e w' ⟨rfl, ⟨nd, rfl⟩⟩))
              go_ret
              exact ⟨rfl, ((Below.refl w.heap.size w).alloc (Nat.le_refl _) _).trans (Below.mono (show Below (w.heap.size + 1) _ _ by repeat (first | exact HB3.out | apply pw_below_drewN | apply below_drew1)) (Nat.le_succ _))⟩
             | true =>
              rw [h1, if_pos rfl] at H
              have HI1 := Aside0.mk (in_as _ _ _ _ h1)
              clear h1
              cases h2 : inB X.f2 1 48 with
              | false =>
               rw [h2, if_neg (by simp)] at H
               obtain rfl := Option.some.inj H
               have HI2 := Aside0.mk (in_as _ _ _ _ h2)
               clear h2 H
               go_wp2_with (first | ((with_reducible refine gate_dst (N := 7) rfl ?_); refine bev (N := 7) (cs := #[.string (⟨#[]⟩ : ByteArray), .int .i64 0, .int .i64 0]) (t := 51) ?_; intro gb hg w6 hbox hb; have BK1 := Aside0.mk hbox; have HB1 := Aside0.mk (HBP.out.trans (hb.mono HSZ.out)); have GW := Aside0.mk ((by rw [hg]; exact HSZ.out) : w.heap.size < gb); have hz0 : w6.cell? ⟨gb, 0, none⟩ = some (.string (⟨#[]⟩ : ByteArray)) := (blk_cell BK1.out 0).trans rfl; have hz1 : w6.cell? ⟨gb, 1, none⟩ = some (.int .i64 0) := (blk_cell BK1.out 1).trans rfl; have hz2 : w6.cell? ⟨gb, 2, none⟩ = some (.int .i64 0) := (blk_cell BK1.out 2).trans rfl; have hf0 := blk_frozen BK1.out 0; have hf1 := blk_frozen BK1.out 1; have hf2 := blk_frozen BK1.out 2; clear hb hbox hg) | ((with_reducible refine gate_store (t := 51) (p := 7) rfl ?_); refine store_event (t := 51) (p := 7) (v := ?vsn) (w1 := (((w6.setCell ⟨gb, 0, none⟩ (.string X.f0)).setCell ⟨gb, 1, none⟩ (.int .i64 X.f1)).setCell ⟨gb, 2, none⟩ (.int .i64 X.f2))) ?hg ?ho ?hn ?hr ?_; (case ho => rfl); (case hg => rfl); (case hn => rfl); (case hr => (simp only [execOp]); (rw [show Act.eval _ (.tmp 7) = .pointer (some ⟨gb, 0, none⟩) from rfl, show Act.eval _ (.tmp 74) = .agg #[.string X.f0, .int .i64 X.f1, .int .i64 X.f2] from rfl]); exact st93 _ _ _ _ _ hz0 hz1 hz2 hf0 hf1 hf2); intro w97 hw97; have BK2 : Aside0 (w97.heap[gb]? = some (.cells #[.string X.f0, .int .i64 X.f1, .int .i64 X.f2] 51 (0, 0))) := ⟨by rw [hw97]; refine blk_put (cs := #[.string X.f0, .int .i64 X.f1, .int .i64 0]) ?_ 2 _ rfl; refine blk_put (cs := #[.string X.f0, .int .i64 0, .int .i64 0]) ?_ 1 _ rfl; refine blk_put (cs := #[.string (⟨#[]⟩ : ByteArray), .int .i64 0, .int .i64 0]) ?_ 0 _ rfl; exact BK1.out⟩; have HB2 := Aside0.mk (((HB1.out.setCell (p := ⟨gb, 0, none⟩) GW.out (.string X.f0)).setCell (p := ⟨gb, 1, none⟩) GW.out (.int .i64 X.f1)).setCell (p := ⟨gb, 2, none⟩) GW.out (.int .i64 X.f2)); rw [← hw97] at HB2; have hy0 : w97.cell? ⟨gb, 0, none⟩ = some (.string X.f0) := (blk_cell BK2.out 0).trans rfl; have hy1 : w97.cell? ⟨gb, 1, none⟩ = some (.int .i64 X.f1) := (blk_cell BK2.out 1).trans rfl; have hy2 : w97.cell? ⟨gb, 2, none⟩ = some (.int .i64 X.f2) := (blk_cell BK2.out 2).trans rfl; have hq0 := (HB2.out.cell (p := ⟨w.heap.size, 0, none⟩) (by simp)).trans hP0.out; have hq1 := (HB2.out.cell (p := ⟨w.heap.size, 1, none⟩) (by simp)).trans hP1.out; have GL : Aside0 (gb < w97.heap.size) := ⟨blk_lt_ BK2.out⟩; have HSZ2 : Aside0 (w.heap.size + 1 ≤ w97.heap.size) := ⟨by have := GL.out; have := GW.out; omega⟩; clear hz0 hz1 hz2 hf0 hf1 hf2 hw97) | (go_at_call 34; (with_reducible refine (named_hasn.calls (some ad) c0_1 l0_1 i gb X.f0 false _ (Kd.C_below HR1.out (((Below.refl w.heap.size w).alloc (Nat.le_refl _) _).trans (HB2.out.mono (Nat.le_succ _)))) (Nat.le_of_lt HII.out) HC1.out (Nat.le_trans HN1.out (by decide)) GL.out hy0 HA.out).mono ?_); rintro e w1 ⟨rfl, hb⟩; have HB3 := Aside0.mk (HB2.out.trans (hb.mono (Nat.le_trans HSZ2.out (Nat.le_refl _)))); have BK3 := Aside0.mk ((hb.block _ GL.out).trans BK2.out); have hu0 : w1.cell? ⟨gb, 0, none⟩ = some (.string X.f0) := (blk_cell BK3.out 0).trans rfl; have hu1 : w1.cell? ⟨gb, 1, none⟩ = some (.int .i64 X.f1) := (blk_cell BK3.out 1).trans rfl; have hu2 : w1.cell? ⟨gb, 2, none⟩ = some (.int .i64 X.f2) := (blk_cell BK3.out 2).trans rfl; clear hb hy0 hy1 hy2 hq0 hq1) | (go_at_call 33; (with_reducible refine (lexer_IsName.calls k1 X.f0 true _ HNM.out).mono ?_); rintro e w' ⟨rfl, ⟨nd, rfl⟩⟩) | (go_at_call 30; (with_reducible refine (steps_in.calls X.f1 1 2 true _ HI1.out).mono ?_); rintro e w' ⟨rfl, ⟨nd, rfl⟩⟩) | (go_at_call 30; (with_reducible refine (steps_in.calls X.f2 1 48 false _ HI2.out).mono ?_); rintro e w' ⟨rfl, ⟨nd, rfl⟩⟩))
               go_ret
               exact ⟨rfl, ((Below.refl w.heap.size w).alloc (Nat.le_refl _) _).trans (Below.mono (show Below (w.heap.size + 1) _ _ by repeat (first | exact HB3.out | apply pw_below_drewN | apply below_drew1)) (Nat.le_succ _))⟩
              | true =>
               rw [h2, if_pos rfl] at H
               have HI2 := Aside0.mk (in_as _ _ _ _ h2)
               have H' := Aside0.mk H
               clear h2 H
               go_wp2_with (first | ((with_reducible refine gate_dst (N := 7) rfl ?_); refine bev (N := 7) (cs := #[.string (⟨#[]⟩ : ByteArray), .int .i64 0, .int .i64 0]) (t := 51) ?_; intro gb hg w6 hbox hb; have BK1 := Aside0.mk hbox; have HB1 := Aside0.mk (HBP.out.trans (hb.mono HSZ.out)); have GW := Aside0.mk ((by rw [hg]; exact HSZ.out) : w.heap.size < gb); have hz0 : w6.cell? ⟨gb, 0, none⟩ = some (.string (⟨#[]⟩ : ByteArray)) := (blk_cell BK1.out 0).trans rfl; have hz1 : w6.cell? ⟨gb, 1, none⟩ = some (.int .i64 0) := (blk_cell BK1.out 1).trans rfl; have hz2 : w6.cell? ⟨gb, 2, none⟩ = some (.int .i64 0) := (blk_cell BK1.out 2).trans rfl; have hf0 := blk_frozen BK1.out 0; have hf1 := blk_frozen BK1.out 1; have hf2 := blk_frozen BK1.out 2; clear hb hbox hg) | ((with_reducible refine gate_store (t := 51) (p := 7) rfl ?_); refine store_event (t := 51) (p := 7) (v := ?vsn) (w1 := (((w6.setCell ⟨gb, 0, none⟩ (.string X.f0)).setCell ⟨gb, 1, none⟩ (.int .i64 X.f1)).setCell ⟨gb, 2, none⟩ (.int .i64 X.f2))) ?hg ?ho ?hn ?hr ?_; (case ho => rfl); (case hg => rfl); (case hn => rfl); (case hr => (simp only [execOp]); (rw [show Act.eval _ (.tmp 7) = .pointer (some ⟨gb, 0, none⟩) from rfl, show Act.eval _ (.tmp 74) = .agg #[.string X.f0, .int .i64 X.f1, .int .i64 X.f2] from rfl]); exact st93 _ _ _ _ _ hz0 hz1 hz2 hf0 hf1 hf2); intro w97 hw97; have BK2 : Aside0 (w97.heap[gb]? = some (.cells #[.string X.f0, .int .i64 X.f1, .int .i64 X.f2] 51 (0, 0))) := ⟨by rw [hw97]; refine blk_put (cs := #[.string X.f0, .int .i64 X.f1, .int .i64 0]) ?_ 2 _ rfl; refine blk_put (cs := #[.string X.f0, .int .i64 0, .int .i64 0]) ?_ 1 _ rfl; refine blk_put (cs := #[.string (⟨#[]⟩ : ByteArray), .int .i64 0, .int .i64 0]) ?_ 0 _ rfl; exact BK1.out⟩; have HB2 := Aside0.mk (((HB1.out.setCell (p := ⟨gb, 0, none⟩) GW.out (.string X.f0)).setCell (p := ⟨gb, 1, none⟩) GW.out (.int .i64 X.f1)).setCell (p := ⟨gb, 2, none⟩) GW.out (.int .i64 X.f2)); rw [← hw97] at HB2; have hy0 : w97.cell? ⟨gb, 0, none⟩ = some (.string X.f0) := (blk_cell BK2.out 0).trans rfl; have hy1 : w97.cell? ⟨gb, 1, none⟩ = some (.int .i64 X.f1) := (blk_cell BK2.out 1).trans rfl; have hy2 : w97.cell? ⟨gb, 2, none⟩ = some (.int .i64 X.f2) := (blk_cell BK2.out 2).trans rfl; have hq0 := (HB2.out.cell (p := ⟨w.heap.size, 0, none⟩) (by simp)).trans hP0.out; have hq1 := (HB2.out.cell (p := ⟨w.heap.size, 1, none⟩) (by simp)).trans hP1.out; have GL : Aside0 (gb < w97.heap.size) := ⟨blk_lt_ BK2.out⟩; have HSZ2 : Aside0 (w.heap.size + 1 ≤ w97.heap.size) := ⟨by have := GL.out; have := GW.out; omega⟩; clear hz0 hz1 hz2 hf0 hf1 hf2 hw97) | (go_at_call 34; (with_reducible refine (named_hasn.calls (some ad) c0_1 l0_1 i gb X.f0 false _ (Kd.C_below HR1.out (((Below.refl w.heap.size w).alloc (Nat.le_refl _) _).trans (HB2.out.mono (Nat.le_succ _)))) (Nat.le_of_lt HII.out) HC1.out (Nat.le_trans HN1.out (by decide)) GL.out hy0 HA.out).mono ?_); rintro e w1 ⟨rfl, hb⟩; have HB3 := Aside0.mk (HB2.out.trans (hb.mono (Nat.le_trans HSZ2.out (Nat.le_refl _)))); have BK3 := Aside0.mk ((hb.block _ GL.out).trans BK2.out); have hu0 : w1.cell? ⟨gb, 0, none⟩ = some (.string X.f0) := (blk_cell BK3.out 0).trans rfl; have hu1 : w1.cell? ⟨gb, 1, none⟩ = some (.int .i64 X.f1) := (blk_cell BK3.out 1).trans rfl; have hu2 : w1.cell? ⟨gb, 2, none⟩ = some (.int .i64 X.f2) := (blk_cell BK3.out 2).trans rfl; clear hb hy0 hy1 hy2 hq0 hq1) | (go_at_call 33; (with_reducible refine (lexer_IsName.calls k1 X.f0 true _ HNM.out).mono ?_); rintro e w' ⟨rfl, ⟨nd, rfl⟩⟩) | (go_at_call 30; (with_reducible refine (steps_in.calls X.f1 1 2 true _ HI1.out).mono ?_); rintro e w' ⟨rfl, ⟨nd, rfl⟩⟩) | (go_at_call 30; (with_reducible refine (steps_in.calls X.f2 1 48 true _ HI2.out).mono ?_); rintro e w' ⟨rfl, ⟨nd, rfl⟩⟩))
               go_roundg k1
               case measure => omega
               case rel => exact ⟨i + 1, congrArg (Value.int .i64) HW.out, ⟨HII.out⟩, H', ⟨by have := HK1.out; omega⟩, ⟨mb_ HB3.out⟩⟩
          ·
           rw [if_neg hi] at H
           have c1 : decide ((i : Int) < (l0_1.length : Int)) = false := decide_eq_false (by omega)
           have c2 : decide (i < l0_1.length) = false := decide_eq_false hi
           obtain rfl := Option.some.inj H
           clear hi H
           go_wp2
           go_ret
           exact ⟨rfl, ((Below.refl w.heap.size w).alloc (Nat.le_refl _) _).trans (HBP.out.mono (Nat.le_succ _))⟩
theorem steps_Valid.mono_1 : ∀ k, (∀ y0 y1, LeO (steps_Valid.l1 k y0 y1) (steps_Valid.l1 (k + 1) y0 y1))
 | 0 => fun _ _ r h => by simp [steps_Valid.l1] at h
 | k + 1 => by
  have ih0 := steps_Valid.mono_1 k
  ·
   intro y0 y1
   unfold steps_Valid.l1
   repeat' first
   | (with_reducible exact ih0 _ _)
   | (with_reducible exact lexer_IsName.mono _ _)
   | (with_reducible exact LeO.refl _)
   | (with_reducible exact LeO.none _)
   | (with_reducible refine LeO.ite ?_ ?_)
   | (with_reducible refine LeO.bind ?_ (fun _ => ?_))
theorem steps_Valid.mono_0 : ∀ k, (∀ y0 y1 y2, LeO (steps_Valid.l0 k y0 y1 y2) (steps_Valid.l0 (k + 1) y0 y1 y2))
 | 0 => fun _ _ _ r h => by simp [steps_Valid.l0] at h
 | k + 1 => by
  have ih0 := steps_Valid.mono_0 k
  ·
   intro y0 y1 y2
   unfold steps_Valid.l0
   repeat' first
   | (with_reducible exact ih0 _ _ _)
   | (with_reducible exact steps_Valid.mono_1 _ _ _)
   | (with_reducible exact lexer_IsName.mono _ _)
   | (with_reducible exact LeO.refl _)
   | (with_reducible exact LeO.none _)
   | (with_reducible refine LeO.ite ?_ ?_)
   | (with_reducible refine LeO.bind ?_ (fun _ => ?_))
theorem steps_Valid.mono : ∀ a0_0 a0_1 a0_2 a0_3 k, LeO (steps_Valid.f k a0_0 a0_1 a0_2 a0_3) (steps_Valid.f (k + 1) a0_0 a0_1 a0_2 a0_3) := fun a0_0 a0_1 a0_2 a0_3 k => by
 unfold steps_Valid.f
 repeat' first
 | (with_reducible exact steps_Valid.mono_0 _ _ _ _)
 | (with_reducible exact LeO.refl _)
 | (with_reducible refine LeO.ite ?_ ?_)
end Go.Proofs.YtalhpnfapagamaaDoor.S
