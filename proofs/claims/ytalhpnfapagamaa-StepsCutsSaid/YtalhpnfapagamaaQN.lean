-- Written by this session's own programs; what the law does not lean on is left out. Lean checks it.
import Derived.Test.YtalhpnfapagamaaQS
section
namespace Go.Proofs.Ytalhpnfapagamaa.S
open Go.RowKit Go.Proofs.YtalhpnfapagamaaW.PrintWords Go.Proofs.YtalhpnfapagamaaW.PrintLast Go.Proofs.YtalhpnfapagamaaW.PrintMore
set_option linter.unusedVariables false
set_option linter.unusedSimpArgs false

def idxF {α : Type} (q : α → Bool) (l : List α) : Int := match l.findIdx? q with
 | some i => (i : Int)
 | none => -1
theorem wrap_i (i : Nat) (h : i ≤ 100000) : wrap64 ((i : Int) + 1) = ((i + 1 : Nat) : Int) := by unfold wrap64; omega
theorem idxF_none {α : Type} (q : α → Bool) (d : α) (l : List α) (h : ∀ i, i < l.length → q (l.getD i d) = false) : idxF q l = -1 := by
 unfold idxF
 rw [List.findIdx?_eq_none_iff.2 (fun x hx => by
  obtain ⟨i, hi, rfl⟩ := List.getElem_of_mem hx
  have := h i hi
  rwa [List.getD_eq_getElem?_getD, List.getElem?_eq_getElem hi] at this)]
theorem idxF_some {α : Type} (q : α → Bool) (d : α) (l : List α) (n : Nat) (hn : n < l.length) (h : ∀ i, i < n → q (l.getD i d) = false) (hq : q (l.getD n d) = true) : idxF q l = (n : Int) := by
 unfold idxF
 have e : ∀ i, ∀ hi : i < l.length, l.getD i d = l[i] := fun i hi => by rw [List.getD_eq_getElem?_getD, List.getElem?_eq_getElem hi]; rfl
 rw [List.findIdx?_eq_some_iff_getElem.2 ⟨hn, by rw [← e n hn]; exact hq, fun j hj => by rw [← e j (by omega), h j hj]; simp⟩]
theorem idxF_any {α : Type} (q : α → Bool) (l : List α) : decide (0 ≤ idxF q l) = l.any q := by
 unfold idxF
 cases h : l.findIdx? q with
 | none =>
  have := List.findIdx?_eq_none_iff.1 h
  rw [show l.any q = false by rw [List.any_eq_false]; intro x hx; simp [this x hx]]
  rfl
 | some i =>
  obtain ⟨hi, hq, _⟩ := List.findIdx?_eq_some_iff_getElem.1 h
  rw [List.any_eq_true.2 ⟨l[i], List.getElem_mem hi, hq⟩]
  exact decide_eq_true (Int.natCast_nonneg i)
set_option maxHeartbeats 2000000 in
set_option maxRecDepth 100000 in
theorem sided_lit.calls (x : S93) (g : Nat) (side : Int) (W : World) (hg : g < W.heap.size) (hc_0 : W.cell? ⟨g, 0, none⟩ = some (.int .i64 side)) (r : Bool) (hr : (x.f1 == side) = r) :
  Calls Try.prog 64 #[.agg #[.string x.f0, .int .i64 x.f1, .int .i64 x.f2], .pointer (some ⟨g, 0, none⟩)] W fun e w' => e = .returned (.bool r) ∧ Below W.heap.size W w' := by
 have hu := Try.underlying93
 subst hr
 go_enter Try.func64, Try.ntmps64
 go_wp2
 go_ret
 exact ⟨rfl, (Below.refl _ _).alloc (Nat.le_refl _) _⟩
theorem sided_lit.eg : ∀ args w, (callFunc 64 args).run Try.prog w = .ok (.enter 64 args) w := enters_of Try.func64 (by kernel_rfl) rfl
set_option maxHeartbeats 4000000 in
set_option maxRecDepth 100000 in
theorem sided_idx.calls (A0 : Option Addr) (c0 : Nat) (l0 : List S93) (g : Nat) (side : Int) (r : Int) (w : World) (hr0 : Kd.C k93 w A0 l0.length l0) (hc0 : l0.length ≤ c0) (hlen : l0.length ≤ 100000) (hg : g < w.heap.size) (hc_0 : w.cell? ⟨g, 0, none⟩ = some (.int .i64 side)) (h : idxF (fun x : S93 => x.f1 == side) l0 = r) :
  Calls Try.prog 69 #[.slice A0 l0.length c0, .func (.func 64) #[] #[.pointer (some ⟨g, 0, none⟩)]] w fun e w' => e = .returned (.int .i64 r) ∧ Below w.heap.size w w' := by
 have hu := Try.underlying93
 have eg := sided_lit.eg
 have HR0 := Aside0.mk hr0
 have HG := Aside0.mk hg
 have HC_0 := Aside0.mk hc_0
 have HB := Aside0.mk (Below.refl w.heap.size w)
 have HL := Aside0.mk hlen
 have HC0 := Aside0.mk hc0
 have H := Aside0.mk h
 clear hr0 hc0 hg hc_0 hlen h
 go_enter Try.func69, Try.ntmps69
 go_wp2
 go_loopg [8] l0.length (fun kq v8 w' => ∃ i : Nat, v8 = .int .i64 (i : Int) ∧ Aside0 (i + kq = l0.length) ∧ Aside0 (∀ j, j < i → (fun x : S93 => x.f1 == side) (l0.getD j z93) = false) ∧ Aside0 (Below w.heap.size w w'))
 case atStart => exact ⟨0, rfl, ⟨by omega⟩, ⟨fun _ h => absurd h (by omega)⟩, HB⟩
 case round =>
  clear HB
  obtain ⟨i, rfl, HI, HN, HB⟩ := hrel
  cases gk with
  | zero =>
   have hi : i = l0.length := by have := HI.out; omega
   have c1 : decide ((i : Int) < (l0.length : Int)) = false := decide_eq_false (by omega)
   have c2 : decide (i < l0.length) = false := decide_eq_false (by omega)
   obtain rfl : r = -1 := H.out.symm.trans (idxF_none _ z93 _ (fun j hj => HN.out j (by omega)))
   clear hi
   go_wp2
   go_ret
   exact ⟨rfl, HB.out⟩
  | succ k1 =>
   have hi : i < l0.length := by have := HI.out; omega
   have c1 : decide ((i : Int) < (l0.length : Int)) = true := decide_eq_true (by omega)
   have c2 : decide (i < l0.length) = true := decide_eq_true hi
   have c3 : ((i : Int) < (l0.length : Int)) = True := eq_true (by omega)
   have c4 : (0 ≤ (i : Int)) = True := eq_true (by omega)
   obtain ⟨ad, e1, hx0, hx1, hx2⟩ := at_T93 HR0.out (i : Int) (by omega) (by omega)
   cases e1
   rw [Int.toNat_natCast] at hx0 hx1 hx2
   replace hx0 := (HB.out.cell (World.block_lt_of_cell? w _ hx0)).trans hx0
   replace hx1 := (HB.out.cell (World.block_lt_of_cell? w _ hx1)).trans hx1
   replace hx2 := (HB.out.cell (World.block_lt_of_cell? w _ hx2)).trans hx2
   have HX : Aside0 (rd_T93 l0 (i : Int) = l0.getD i z93) := ⟨by unfold rd_T93; rw [Int.toNat_natCast]⟩
   have HGW := Aside0.mk (Nat.lt_of_lt_of_le HG.out HB.out.size)
   have HCW_0 := Aside0.mk ((HB.out.cell (p := ⟨g, 0, none⟩) HG.out).trans HC_0.out)
   have HW := Aside0.mk (wrap_i i (by have := HL.out; omega))
   have HII := Aside0.mk hi
   clear hi
   generalize hX : rd_T93 l0 (i : Int) = X at hx0 hx1 hx2 HX
   clear hX
   cases hq : (fun x : S93 => x.f1 == side) X with
   | true =>
    obtain rfl : r = (i : Int) := H.out.symm.trans (idxF_some _ z93 _ i HII.out HN.out (by rw [← HX.out]; exact hq))
    have HQ := Aside0.mk hq
    clear hq
    go_wp2_with (go_at_fn 64; refine (sided_lit.calls X g side _ HGW.out HCW_0.out true HQ.out).mono ?_; rintro e w1 ⟨rfl, hb⟩; have HB2 := Aside0.mk (HB.out.trans (hb.mono HB.out.size)); clear hb)
    go_ret
    exact ⟨rfl, HB2.out⟩
   | false =>
    have HQ := Aside0.mk hq
    clear hq
    go_wp2_with (go_at_fn 64; refine (sided_lit.calls X g side _ HGW.out HCW_0.out false HQ.out).mono ?_; rintro e w1 ⟨rfl, hb⟩; have HB2 := Aside0.mk (HB.out.trans (hb.mono HB.out.size)); clear hb)
    go_roundg k1
    case measure => omega
    case rel => exact ⟨i + 1, congrArg (Value.int .i64) HW.out, ⟨by have := HI.out; omega⟩, ⟨fun j hj => by
     by_cases hji : j < i
     ·
      exact HN.out j hji
     ·
      obtain rfl : j = i := by omega
      rw [← HX.out]; exact HQ.out⟩, HB2⟩
set_option maxHeartbeats 2000000 in
set_option maxRecDepth 100000 in
theorem sided_has.calls (A0 : Option Addr) (c0 : Nat) (l0 : List S93) (g : Nat) (side : Int) (r : Bool) (w : World) (hr0 : Kd.C k93 w A0 l0.length l0) (hc0 : l0.length ≤ c0) (hlen : l0.length ≤ 100000) (hg : g < w.heap.size) (hc_0 : w.cell? ⟨g, 0, none⟩ = some (.int .i64 side)) (h : l0.any (fun x : S93 => x.f1 == side) = r) :
  Calls Try.prog 59 #[.slice A0 l0.length c0, .func (.func 64) #[] #[.pointer (some ⟨g, 0, none⟩)]] w fun e w' => e = .returned (.bool r) ∧ Below w.heap.size w w' := by
 obtain ⟨n, hn⟩ : ∃ n, idxF (fun x : S93 => x.f1 == side) l0 = n := ⟨_, rfl⟩
 have hr : decide (0 ≤ n) = r := by rw [← hn, idxF_any]; exact h
 have HN := Aside0.mk hn
 have HG := Aside0.mk hg
 have HC_0 := Aside0.mk hc_0
 have HR0 := Aside0.mk hr0
 have HC0 := Aside0.mk hc0
 have HL := Aside0.mk hlen
 clear hn hg hc_0 hr0 hc0 hlen h
 go_enter Try.func59, Try.ntmps59
 go_wp2_with (go_at_call 69; refine (sided_idx.calls A0 c0 l0 g side n _ HR0.out HC0.out HL.out HG.out HC_0.out HN.out).mono ?_; rintro e w1 ⟨rfl, hb⟩; have HB := Aside0.mk hb; clear hb)
 go_ret
 exact ⟨rfl, HB.out⟩
def steps_Plan_sided.f (a0_0 : List S92) (a0_1 : List S93) (a0_2 : Int) (a0_3 : Int) (a1 : Int) : Option Bool := if a0_1.length ≤ 100000 then some (a0_1.any (fun x : S93 => x.f1 == a1)) else none
set_option maxHeartbeats 2000000 in
set_option maxRecDepth 100000 in
theorem steps_Plan_sided.calls (A0_0 : Option Addr) (c0_0 : Nat) (l0_0 : List S92) (A0_1 : Option Addr) (c0_1 : Nat) (l0_1 : List S93) (a0_2 : Int) (a0_3 : Int) (a1 : Int) (r : Bool) (w : World) (hr0_0 : Kd.C k92 w A0_0 l0_0.length l0_0) (hc0_0 : l0_0.length ≤ c0_0) (hr0_1 : Kd.C k93 w A0_1 l0_1.length l0_1) (hc0_1 : l0_1.length ≤ c0_1) (h : steps_Plan_sided.f l0_0 l0_1 a0_2 a0_3 a1 = some r) :
  Calls Try.prog 49 #[.agg #[.slice A0_0 l0_0.length c0_0, .slice A0_1 l0_1.length c0_1, .int .i64 a0_2, .int .i64 a0_3], .int .i64 a1] w fun e w' => e = .returned (.bool r) ∧ Below w.heap.size w w' := by
 unfold steps_Plan_sided.f at h
 by_cases hlen : l0_1.length ≤ 100000
 ·
  rw [if_pos hlen] at h
  have H := Aside0.mk (Option.some.inj h)
  have hu59 := Try.underlying59
  have hmf : ∀ (fn : Fn) (first cap : Array Value) (w : World), (Instr.makeFunc fn first cap).run Try.prog w = .ok (.func fn first cap) w := fun _ _ _ _ => rfl
  have HR1 := Aside0.mk hr0_1
  have HC1 := Aside0.mk hc0_1
  have HL := Aside0.mk hlen
  clear hr0_0 hc0_0 hr0_1 hc0_1 hlen h
  go_enter Try.func49, Try.ntmps49
  go_wp2_with (go_at_call 59; refine (sided_has.calls A0_1 c0_1 l0_1 (w.heap.size + 1) a1 r _ (Kd.C_alloc (Kd.C_alloc HR1.out _) _) HC1.out HL.out (by simp) (by simp [go_sem]) H.out).mono ?_; rintro e w1 ⟨rfl, hb⟩; have HB := Aside0.mk (((((Below.refl w.heap.size w).alloc (Nat.le_refl _) _).alloc (by simp) _)).trans (hb.mono (by simp; omega))); clear hb)
  go_ret
  exact ⟨rfl, HB.out⟩
 ·
  rw [if_neg hlen] at h
  exact absurd h (by simp)

end Go.Proofs.Ytalhpnfapagamaa.S
end
section
namespace Go.Proofs.Ytalhpnfapagamaa.S
open Go.RowKit Go.Proofs.YtalhpnfapagamaaW.PrintWords Go.Proofs.YtalhpnfapagamaaW.PrintLast Go.Proofs.YtalhpnfapagamaaW.PrintMore
set_option linter.unusedVariables false
set_option linter.unusedSimpArgs false

def steps_in.f (a0 : Int) (a1 : Int) (a2 : Int) : Option (Bool) := if a0 ≥ a1 then (some (decide (a0 ≤ a2))) else (some false)
set_option maxHeartbeats 8000000 in
set_option maxRecDepth 100000 in
theorem steps_in.calls (a0 : Int) (a1 : Int) (a2 : Int) (r : Bool) (w : World) (h : steps_in.f a0 a1 a2 = some r) :
  Calls Try.prog 55 #[.int .i64 a0, .int .i64 a1, .int .i64 a2] w fun e w' => e = .returned (.bool r) ∧ Drawn0 w w' := by
 have H : (if a0 ≥ a1 then (some (decide (a0 ≤ a2))) else (some false)) = some r := h
 clear h
 by_cases c4 : a0 ≥ a1
 ·
  rw [if_pos c4] at H
  have c4b0 : decide (a1 ≤ a0) = true := decide_eq_true c4
  clear c4
  obtain rfl := Option.some.inj H
  go_enter Try.func55, Try.ntmps55
  go_wp2
  go_ret
  exact ⟨by first | rfl | (simp; done) | (simp [*]; done), by repeat (first | exact Drawn0.refl _ | apply Drawn0.step)⟩
 ·
  rw [if_neg c4] at H
  have c4b0 : decide (a1 ≤ a0) = false := decide_eq_false c4
  clear c4
  obtain rfl := Option.some.inj H
  go_enter Try.func55, Try.ntmps55
  go_wp2
  go_ret
  exact ⟨by first | rfl | (simp; done) | (simp [*]; done), by repeat (first | exact Drawn0.refl _ | apply Drawn0.step)⟩

end Go.Proofs.Ytalhpnfapagamaa.S
end
section
namespace Go.Proofs.Ytalhpnfapagamaa.S
open Go.RowKit Go.Proofs.YtalhpnfapagamaaW.PrintWords Go.Proofs.YtalhpnfapagamaaW.PrintLast Go.Proofs.YtalhpnfapagamaaW.PrintMore
set_option linter.unusedVariables false
set_option linter.unusedSimpArgs false

def lexer_letter.f (a0 : Int) : Option (Bool) := if a0 ≥ 97 then (if a0 ≤ 122 then (some true) else (if a0 ≥ 65 then (some (decide (a0 ≤ 90))) else (some false))) else (if a0 ≥ 65 then (some (decide (a0 ≤ 90))) else (some false))
set_option maxHeartbeats 8000000 in
set_option maxRecDepth 100000 in
theorem lexer_letter.calls (a0 : Int) (r : Bool) (w : World) (h : lexer_letter.f a0 = some r) :
  Calls Try.prog 72 #[.int .u8 a0] w fun e w' => e = .returned (.bool r) ∧ Drawn0 w w' := by
 have H : (if a0 ≥ 97 then (if a0 ≤ 122 then (some true) else (if a0 ≥ 65 then (some (decide (a0 ≤ 90))) else (some false))) else (if a0 ≥ 65 then (some (decide (a0 ≤ 90))) else (some false))) = some r := h
 clear h
 by_cases c2 : a0 ≥ 97
 ·
  rw [if_pos c2] at H
  have c2b0 : decide (97 ≤ a0) = true := decide_eq_true c2
  clear c2
  by_cases c3 : a0 ≤ 122
  ·
   rw [if_pos c3] at H
   have c3b0 : decide (a0 ≤ 122) = true := decide_eq_true c3
   clear c3
   obtain rfl := Option.some.inj H
   go_enter Try.func72, Try.ntmps72
   go_wp2
   go_ret
   exact ⟨by first | rfl | (simp; done) | (simp [*]; done), by repeat (first | exact Drawn0.refl _ | apply Drawn0.step)⟩
  ·
   rw [if_neg c3] at H
   have c3b0 : decide (a0 ≤ 122) = false := decide_eq_false c3
   clear c3
   by_cases c4 : a0 ≥ 65
   ·
    rw [if_pos c4] at H
    have c4b0 : decide (65 ≤ a0) = true := decide_eq_true c4
    clear c4
    obtain rfl := Option.some.inj H
    go_enter Try.func72, Try.ntmps72
    go_wp2
    go_ret
    exact ⟨by first | rfl | (simp; done) | (simp [*]; done), by repeat (first | exact Drawn0.refl _ | apply Drawn0.step)⟩
   ·
    rw [if_neg c4] at H
    have c4b0 : decide (65 ≤ a0) = false := decide_eq_false c4
    clear c4
    obtain rfl := Option.some.inj H
    go_enter Try.func72, Try.ntmps72
    go_wp2
    go_ret
    exact ⟨by first | rfl | (simp; done) | (simp [*]; done), by repeat (first | exact Drawn0.refl _ | apply Drawn0.step)⟩
 ·
  rw [if_neg c2] at H
  have c2b0 : decide (97 ≤ a0) = false := decide_eq_false c2
  clear c2
  by_cases c5 : a0 ≥ 65
  ·
   rw [if_pos c5] at H
   have c5b0 : decide (65 ≤ a0) = true := decide_eq_true c5
   clear c5
   obtain rfl := Option.some.inj H
   go_enter Try.func72, Try.ntmps72
   go_wp2
   go_ret
   exact ⟨by first | rfl | (simp; done) | (simp [*]; done), by repeat (first | exact Drawn0.refl _ | apply Drawn0.step)⟩
  ·
   rw [if_neg c5] at H
   have c5b0 : decide (65 ≤ a0) = false := decide_eq_false c5
   clear c5
   obtain rfl := Option.some.inj H
   go_enter Try.func72, Try.ntmps72
   go_wp2
   go_ret
   exact ⟨by first | rfl | (simp; done) | (simp [*]; done), by repeat (first | exact Drawn0.refl _ | apply Drawn0.step)⟩

end Go.Proofs.Ytalhpnfapagamaa.S
end
section
namespace Go.Proofs.Ytalhpnfapagamaa.S
open Go.RowKit Go.Proofs.YtalhpnfapagamaaW.PrintWords Go.Proofs.YtalhpnfapagamaaW.PrintLast Go.Proofs.YtalhpnfapagamaaW.PrintMore
set_option linter.unusedVariables false
set_option linter.unusedSimpArgs false

def lexer_digit.f (a0 : Int) : Option (Bool) := if a0 ≥ 48 then (some (decide (a0 ≤ 57))) else (some false)
set_option maxHeartbeats 8000000 in
set_option maxRecDepth 100000 in
theorem lexer_digit.calls (a0 : Int) (r : Bool) (w : World) (h : lexer_digit.f a0 = some r) :
  Calls Try.prog 75 #[.int .u8 a0] w fun e w' => e = .returned (.bool r) ∧ Drawn0 w w' := by
 have H : (if a0 ≥ 48 then (some (decide (a0 ≤ 57))) else (some false)) = some r := h
 clear h
 by_cases c2 : a0 ≥ 48
 ·
  rw [if_pos c2] at H
  have c2b0 : decide (48 ≤ a0) = true := decide_eq_true c2
  clear c2
  obtain rfl := Option.some.inj H
  go_enter Try.func75, Try.ntmps75
  go_wp2
  go_ret
  exact ⟨by first | rfl | (simp; done) | (simp [*]; done), by repeat (first | exact Drawn0.refl _ | apply Drawn0.step)⟩
 ·
  rw [if_neg c2] at H
  have c2b0 : decide (48 ≤ a0) = false := decide_eq_false c2
  clear c2
  obtain rfl := Option.some.inj H
  go_enter Try.func75, Try.ntmps75
  go_wp2
  go_ret
  exact ⟨by first | rfl | (simp; done) | (simp [*]; done), by repeat (first | exact Drawn0.refl _ | apply Drawn0.step)⟩
def lexer_wordc.f (a0 : Int) : Option (Bool) := (lexer_letter.f a0).bind fun t => if t = true then some true else ((lexer_digit.f a0).bind fun t => if t = true then some true else (if a0 = 45 then some true else some (a0 == 95)))
set_option maxHeartbeats 8000000 in
theorem lexer_wordc.calls (a0 : Int) (r : Bool) (w : World) (h : lexer_wordc.f a0 = some r) :
  Calls Try.prog 74 #[.int .u8 a0] w fun e w' => e = .returned (.bool r) ∧ Drawn0 w w' := by
 unfold lexer_wordc.f at h
 obtain ⟨t1, A1, h⟩ := Option.bind_eq_some_iff.mp h
 cases t1 with
 | true =>
  rw [if_pos rfl] at h
  obtain rfl := Option.some.inj h
  have A1' := Aside0.mk A1
  clear A1 h
  go_enter Try.func74, Try.ntmps74
  go_wp2_with (go_at_call 72; refine (lexer_letter.calls a0 true _ A1'.out).mono ?_; rintro e w' ⟨rfl, ⟨nd, rfl⟩⟩)
  go_ret
  exact ⟨rfl, by repeat (first | exact Drawn0.refl _ | apply Drawn0.step)⟩
 | false =>
  rw [if_neg (by decide)] at h
  obtain ⟨t2, A2, h⟩ := Option.bind_eq_some_iff.mp h
  have A1' := Aside0.mk A1
  have A2' := Aside0.mk A2
  clear A1 A2
  cases t2 with
  | true =>
   rw [if_pos rfl] at h
   obtain rfl := Option.some.inj h
   clear h
   go_enter Try.func74, Try.ntmps74
   go_wp2_with (first | (go_at_call 72; refine (lexer_letter.calls a0 false _ A1'.out).mono ?_; rintro e w' ⟨rfl, ⟨nd, rfl⟩⟩) | (go_at_call 75; refine (lexer_digit.calls a0 true _ A2'.out).mono ?_; rintro e w' ⟨rfl, ⟨nd2, rfl⟩⟩))
   go_ret
   exact ⟨rfl, by repeat (first | exact Drawn0.refl _ | apply Drawn0.step)⟩
  | false =>
   rw [if_neg (by decide)] at h
   by_cases c : a0 = 45
   ·
    rw [if_pos c] at h
    obtain rfl := Option.some.inj h
    clear h
    have cb : (a0 == 45) = true := beq_iff_eq.mpr c
    clear c
    go_enter Try.func74, Try.ntmps74
    go_wp2_with (first | (go_at_call 72; refine (lexer_letter.calls a0 false _ A1'.out).mono ?_; rintro e w' ⟨rfl, ⟨nd, rfl⟩⟩) | (go_at_call 75; refine (lexer_digit.calls a0 false _ A2'.out).mono ?_; rintro e w' ⟨rfl, ⟨nd2, rfl⟩⟩))
    go_ret
    exact ⟨rfl, by repeat (first | exact Drawn0.refl _ | apply Drawn0.step)⟩
   ·
    rw [if_neg c] at h
    obtain rfl := Option.some.inj h
    clear h
    have cb : (a0 == 45) = false := beq_eq_false_iff_ne.mpr c
    clear c
    go_enter Try.func74, Try.ntmps74
    go_wp2_with (first | (go_at_call 72; refine (lexer_letter.calls a0 false _ A1'.out).mono ?_; rintro e w' ⟨rfl, ⟨nd, rfl⟩⟩) | (go_at_call 75; refine (lexer_digit.calls a0 false _ A2'.out).mono ?_; rintro e w' ⟨rfl, ⟨nd2, rfl⟩⟩))
    go_ret
    exact ⟨rfl, by repeat (first | exact Drawn0.refl _ | apply Drawn0.step)⟩
theorem lexer_run_word.eg : ∀ args w, (callFunc 74 args).run Try.prog w = .ok (.enter 74 args) w := enters_of Try.func74 (by kernel_rfl) rfl
def lexer_run_word.l0 : Nat → ByteArray → Int → Option Int
 | 0, _, _ => none
 | k + 1, s, n => if n < (s.size : Int) then (if 0 ≤ n then ((lexer_wordc.f (bt s n)).bind fun t => (if t = true then lexer_run_word.l0 k s (wrap64 (n + 1)) else some n)) else none) else some n
def lexer_run_word.f (k : Nat) (a0 : ByteArray) : Option Int := lexer_run_word.l0 k a0 0
theorem lexer_run_word.mono_l : ∀ k, (∀ y0 y1, LeO (lexer_run_word.l0 k y0 y1) (lexer_run_word.l0 (k + 1) y0 y1))
 | 0 => fun _ _ r h => by simp [lexer_run_word.l0] at h
 | k + 1 => by
  have ih0 := lexer_run_word.mono_l k
  ·
   intro y0 y1
   unfold lexer_run_word.l0
   repeat' first
   | (with_reducible exact ih0 _ _)
   | (with_reducible exact LeO.refl _)
   | (with_reducible exact LeO.none _)
   | (with_reducible refine LeO.ite ?_ ?_)
   | (with_reducible refine LeO.bind ?_ (fun _ => ?_))
theorem lexer_run_word.mono : ∀ a0 k, LeO (lexer_run_word.f k a0) (lexer_run_word.f (k + 1) a0) := fun a0 k => lexer_run_word.mono_l k a0 0
set_option maxHeartbeats 8000000 in
set_option maxRecDepth 100000 in
theorem lexer_run_word.calls (k : Nat) (a0 : ByteArray) (r : Int) (w : World) (h : lexer_run_word.f k a0 = some r) :
  Calls Try.prog 73 #[.string a0, .func (.func 74) #[] #[]] w fun e w' => e = .returned (.int .i64 r) ∧ Drawn0 w w' := by
 have H : (lexer_run_word.l0 k a0 0) = some r := h
 clear h
 have H' := Aside0.mk H
 clear H
 have eg := lexer_run_word.eg
 go_enter Try.func73, Try.ntmps73
 go_wp2
 go_loopg [5] k (fun kq v3 w' => ∃ (x3_1 : Int), v3 = .int .i64 x3_1 ∧ Aside0 (lexer_run_word.l0 kq a0 x3_1 = some r) ∧ Aside0 (kq ≤ k) ∧ Drawn0 w w')
 case atStart => exact ⟨(0), (by first | rfl | (simp; done) | (simp [*]; done)), H', ⟨Nat.le_refl _⟩, by repeat (first | exact Drawn0.refl _ | apply Drawn0.step)⟩
 case round =>
  clear H'
  obtain ⟨x3_1, rfl, HA, HK1, ⟨m1, rfl⟩⟩ := hrel
  cases gk with
  | zero => exact absurd HA.out (by simp [lexer_run_word.l0])
  | succ k1 =>
   have H := HA.out
   clear HA
   simp only [lexer_run_word.l0] at H
   by_cases c2 : x3_1 < (a0.size : Int)
   ·
    rw [if_pos c2] at H
    have c2b0 : decide (x3_1 < (a0.size : Int)) = true := decide_eq_true c2
    by_cases c3 : 0 ≤ x3_1
    ·
     rw [if_pos c3] at H
     have c3b0 : decide (0 ≤ x3_1) = true := decide_eq_true c3
     replace H := Option.bind_eq_some_iff.mp H
     obtain ⟨t144, A50, H⟩ := H
     have A5 := Aside0.mk A50
     clear A50
     have hx4 := bt_at a0 x3_1
     replace c2 := eq_true c2
     replace c3 := eq_true c3
     by_cases c6 : t144 = true
     ·
      subst c6
      rw [if_pos rfl] at H
      have H' := Aside0.mk H
      clear H
      go_wp2_with (go_at_fn 74; refine (lexer_wordc.calls (bt a0 x3_1) true _ A5.out).mono ?_; rintro e w' ⟨rfl, ⟨nd, rfl⟩⟩)
      go_roundg k1
      case measure => have := HK1.out; omega
      case rel => exact ⟨(wrap64 (x3_1 + 1)), (by first | rfl | (simp; done) | (simp [*]; done)), H', ⟨by have := HK1.out; omega⟩, by repeat (first | exact Drawn0.refl _ | apply Drawn0.step)⟩
     ·
      replace c6 := Bool.eq_false_iff.mpr c6
      subst c6
      rw [if_neg (show ¬ (false = true) by decide)] at H
      obtain rfl := Option.some.inj H
      go_wp2_with (go_at_fn 74; refine (lexer_wordc.calls (bt a0 x3_1) false _ A5.out).mono ?_; rintro e w' ⟨rfl, ⟨nd, rfl⟩⟩)
      go_ret
      exact ⟨by first | rfl | (simp; done) | (simp [*]; done), by repeat (first | exact Drawn0.refl _ | apply Drawn0.step)⟩
    ·
     rw [if_neg c3] at H
     exact absurd H (by simp)
   ·
    rw [if_neg c2] at H
    have c2b0 : decide (x3_1 < (a0.size : Int)) = false := decide_eq_false c2
    obtain rfl := Option.some.inj H
    go_wp2
    go_ret
    exact ⟨by first | rfl | (simp; done) | (simp [*]; done), by repeat (first | exact Drawn0.refl _ | apply Drawn0.step)⟩

end Go.Proofs.Ytalhpnfapagamaa.S
end
section
namespace Go.Proofs.Ytalhpnfapagamaa.S
open Go.RowKit Go.Proofs.YtalhpnfapagamaaW.PrintWords Go.Proofs.YtalhpnfapagamaaW.PrintLast Go.Proofs.YtalhpnfapagamaaW.PrintMore
set_option linter.unusedVariables false
set_option linter.unusedSimpArgs false

def lexer_word.f (k : Nat) (a0 : ByteArray) : Option (Int) := if a0.toList = ([] : List UInt8) then (some 0) else (if 0 < (a0.size : Int) then ((lexer_letter.f (bt a0 0)).bind fun t101 => (if t101 = true then ((lexer_run_word.f k a0).bind fun t102 => (some t102)) else (some 0))) else (none))
theorem lexer_word.mono : ∀ a0 k, LeO (lexer_word.f k a0) (lexer_word.f (k + 1) a0) := by
 intro a0 k
 unfold lexer_word.f
 repeat' first
   | (with_reducible exact lexer_run_word.mono _ _)
   | (with_reducible exact LeO.refl _)
   | (with_reducible exact LeO.none _)
   | (with_reducible refine LeO.ite ?_ ?_)
   | (with_reducible refine LeO.bind ?_ (fun _ => ?_))
   | exact lexer_run_word.mono _ _
   | exact LeO.none _
   | refine LeO.ite ?_ ?_
   | refine LeO.bind ?_ (fun _ => ?_)
set_option maxHeartbeats 8000000 in
set_option maxRecDepth 100000 in
theorem lexer_word.calls (k : Nat) (a0 : ByteArray) (r : Int) (w : World) (h : lexer_word.f k a0 = some r) :
  Calls Try.prog 67 #[.string a0] w fun e w' => e = .returned (.int .i64 r) ∧ Drawn0 w w' := by
 have H : (if a0.toList = ([] : List UInt8) then (some 0) else (if 0 < (a0.size : Int) then ((lexer_letter.f (bt a0 0)).bind fun t101 => (if t101 = true then ((lexer_run_word.f k a0).bind fun t102 => (some t102)) else (some 0))) else (none))) = some r := h
 clear h
 by_cases c2 : a0.toList = ([] : List UInt8)
 ·
  rw [if_pos c2] at H
  have c2b0 : (a0.toList == ([] : List UInt8)) = true := beq_iff_eq.mpr c2
  have c2b1 : (a0.toList != ([] : List UInt8)) = false := bne_eq_false_iff_eq.mpr c2
  clear c2
  obtain rfl := Option.some.inj H
  go_enter Try.func67, Try.ntmps67
  go_wp2
  go_ret
  exact ⟨by first | rfl | (simp; done) | (simp [*]; done), by repeat (first | exact Drawn0.refl _ | apply Drawn0.step)⟩
 ·
  rw [if_neg c2] at H
  have c2b0 : (a0.toList == ([] : List UInt8)) = false := beq_eq_false_iff_ne.mpr c2
  have c2b1 : (a0.toList != ([] : List UInt8)) = true := bne_iff_ne.mpr c2
  by_cases c3 : 0 < (a0.size : Int)
  ·
   rw [if_pos c3] at H
   have c3b0 : decide (0 < (a0.size : Int)) = true := decide_eq_true c3
   have c3b1 : decide (0 < a0.size) = true := decide_eq_true (by omega)
   clear c3
   replace H := Option.bind_eq_some_iff.mp H
   obtain ⟨t101, A50, H⟩ := H
   replace H : (if t101 = true then ((lexer_run_word.f k a0).bind fun t102 => (some t102)) else (some 0)) = some r := H
   have A5 := Aside0.mk A50
   clear A50
   by_cases c6 : t101 = true
   ·
    subst c6
    have H1 : ((lexer_run_word.f k a0).bind fun t102 => (some t102)) = some r := by rw [if_pos rfl] at H; exact H
    clear H
    have H := H1
    clear H1
    replace H := Option.bind_eq_some_iff.mp H
    obtain ⟨t102, A70, H⟩ := H
    replace H : (some t102) = some r := H
    have A7 := Aside0.mk A70
    clear A70
    obtain rfl := Option.some.inj H
    have p4 : 0 ≤ (0 : Int) := (by omega)
    have q4 : 0 < a0.size := (by have : (0 : Int) < (a0.size : Int) := of_decide_eq_true (by first | (with_reducible assumption) | assumption); omega)
    have hx4 : ∀ h : 0 < a0.size, ((a0[0]'h).toNat : Int) = bt a0 0 := bt_at a0 0
    clear p4
    have qi4 : (0 < (a0.size : Int)) = True := eq_true (of_decide_eq_true (by first | (with_reducible assumption) | assumption))
    replace q4 := eq_true q4
    go_enter Try.func67, Try.ntmps67
    go_wp2_with (first | (go_at_call 72; (with_reducible refine (lexer_letter.calls (bt a0 0) true _ A5.out).mono ?_); rintro e w' ⟨rfl, ⟨nd, rfl⟩⟩) | ((with_reducible refine gate_callee (f := 73) rfl ?_); refine goesL_ (some 12) rfl rfl Try.func73 (by kernel_rfl) rfl #[.string a0, .func (.func 74) #[] #[]] rfl (by (try simp only [List.map_toArray, List.map_cons, List.map_nil]); first | done | rfl | (simp only [List.length_drop, List.length_take]; rfl)) ?_; (with_reducible refine (lexer_run_word.calls k a0 t102 _ A7.out).mono ?_); rintro e w' ⟨rfl, ⟨nd, rfl⟩⟩; refine ⟨_, rfl, ?_⟩))
    go_ret
    exact ⟨by first | rfl | (simp; done) | (simp [*]; done), by repeat (first | exact Drawn0.refl _ | apply Drawn0.step)⟩
   ·
    replace c6 := Bool.eq_false_iff.mpr c6
    subst c6
    have H1 : (some 0) = some r := by rw [if_neg (show ¬ (false = true) by decide)] at H; exact H
    clear H
    have H := H1
    clear H1
    obtain rfl := Option.some.inj H
    have p4 : 0 ≤ (0 : Int) := (by omega)
    have q4 : 0 < a0.size := (by have : (0 : Int) < (a0.size : Int) := of_decide_eq_true (by first | (with_reducible assumption) | assumption); omega)
    have hx4 : ∀ h : 0 < a0.size, ((a0[0]'h).toNat : Int) = bt a0 0 := bt_at a0 0
    clear p4
    have qi4 : (0 < (a0.size : Int)) = True := eq_true (of_decide_eq_true (by first | (with_reducible assumption) | assumption))
    replace q4 := eq_true q4
    go_enter Try.func67, Try.ntmps67
    go_wp2_with (first | (go_at_call 72; (with_reducible refine (lexer_letter.calls (bt a0 0) false _ A5.out).mono ?_); rintro e w' ⟨rfl, ⟨nd, rfl⟩⟩))
    go_ret
    exact ⟨by first | rfl | (simp; done) | (simp [*]; done), by repeat (first | exact Drawn0.refl _ | apply Drawn0.step)⟩
  ·
   rw [if_neg c3] at H
   exact absurd H (by simp)

end Go.Proofs.Ytalhpnfapagamaa.S
end
section
namespace Go.Proofs.Ytalhpnfapagamaa.S
open Go.RowKit Go.Proofs.YtalhpnfapagamaaW.PrintWords Go.Proofs.YtalhpnfapagamaaW.PrintLast Go.Proofs.YtalhpnfapagamaaW.PrintMore
set_option linter.unusedVariables false
set_option linter.unusedSimpArgs false

def lexer_Reserved.f (a0 : ByteArray) : Option (Bool) := if a0.toList = ([100, 101, 115, 105, 103, 110] : List UInt8) then (some true) else (if a0.toList = ([111, 114, 100, 101, 114] : List UInt8) then (some true) else (if a0.toList = ([109, 105, 114, 114, 111, 114] : List UInt8) then (some true) else (if a0.toList = ([116, 105, 101, 114] : List UInt8) then (some true) else (if a0.toList = ([97, 110, 103, 108, 101] : List UInt8) then (some true) else (if a0.toList = ([97, 116] : List UInt8) then (some true) else (if a0.toList = ([100, 101, 112, 116, 104] : List UInt8) then (some true) else (if a0.toList = ([109, 101, 101, 116] : List UInt8) then (some true) else (if a0.toList = ([101, 100, 103, 101] : List UInt8) then (some true) else (if a0.toList = ([104, 101, 105, 103, 104, 116] : List UInt8) then (some true) else (if a0.toList = ([116, 104, 114, 111, 117, 103, 104] : List UInt8) then (some true) else (some false)))))))))))
set_option maxHeartbeats 8000000 in
set_option maxRecDepth 100000 in
theorem lexer_Reserved.calls (a0 : ByteArray) (r : Bool) (w : World) (h : lexer_Reserved.f a0 = some r) :
  Calls Try.prog 68 #[.string a0] w fun e w' => e = .returned (.bool r) ∧ Drawn0 w w' := by
 have H : (if a0.toList = ([100, 101, 115, 105, 103, 110] : List UInt8) then (some true) else (if a0.toList = ([111, 114, 100, 101, 114] : List UInt8) then (some true) else (if a0.toList = ([109, 105, 114, 114, 111, 114] : List UInt8) then (some true) else (if a0.toList = ([116, 105, 101, 114] : List UInt8) then (some true) else (if a0.toList = ([97, 110, 103, 108, 101] : List UInt8) then (some true) else (if a0.toList = ([97, 116] : List UInt8) then (some true) else (if a0.toList = ([100, 101, 112, 116, 104] : List UInt8) then (some true) else (if a0.toList = ([109, 101, 101, 116] : List UInt8) then (some true) else (if a0.toList = ([101, 100, 103, 101] : List UInt8) then (some true) else (if a0.toList = ([104, 101, 105, 103, 104, 116] : List UInt8) then (some true) else (if a0.toList = ([116, 104, 114, 111, 117, 103, 104] : List UInt8) then (some true) else (some false)))))))))))) = some r := h
 clear h
 by_cases c2 : a0.toList = ([100, 101, 115, 105, 103, 110] : List UInt8)
 ·
  rw [if_pos c2] at H
  have c2b0 : (a0.toList == ([100, 101, 115, 105, 103, 110] : List UInt8)) = true := beq_iff_eq.mpr c2
  have c2b1 : (a0.toList != ([100, 101, 115, 105, 103, 110] : List UInt8)) = false := bne_eq_false_iff_eq.mpr c2
  clear c2
  obtain rfl := Option.some.inj H
  go_enter Try.func68, Try.ntmps68
  go_wp2
  go_ret
  exact ⟨by first | rfl | (simp; done) | (simp [*]; done), by repeat (first | exact Drawn0.refl _ | apply Drawn0.step)⟩
 ·
  rw [if_neg c2] at H
  have c2b0 : (a0.toList == ([100, 101, 115, 105, 103, 110] : List UInt8)) = false := beq_eq_false_iff_ne.mpr c2
  have c2b1 : (a0.toList != ([100, 101, 115, 105, 103, 110] : List UInt8)) = true := bne_iff_ne.mpr c2
  by_cases c3 : a0.toList = ([111, 114, 100, 101, 114] : List UInt8)
  ·
   rw [if_pos c3] at H
   have c3b0 : (a0.toList == ([111, 114, 100, 101, 114] : List UInt8)) = true := beq_iff_eq.mpr c3
   have c3b1 : (a0.toList != ([111, 114, 100, 101, 114] : List UInt8)) = false := bne_eq_false_iff_eq.mpr c3
   clear c3
   obtain rfl := Option.some.inj H
   go_enter Try.func68, Try.ntmps68
   go_wp2
   go_ret
   exact ⟨by first | rfl | (simp; done) | (simp [*]; done), by repeat (first | exact Drawn0.refl _ | apply Drawn0.step)⟩
  ·
   rw [if_neg c3] at H
   have c3b0 : (a0.toList == ([111, 114, 100, 101, 114] : List UInt8)) = false := beq_eq_false_iff_ne.mpr c3
   have c3b1 : (a0.toList != ([111, 114, 100, 101, 114] : List UInt8)) = true := bne_iff_ne.mpr c3
   by_cases c4 : a0.toList = ([109, 105, 114, 114, 111, 114] : List UInt8)
   ·
    rw [if_pos c4] at H
    have c4b0 : (a0.toList == ([109, 105, 114, 114, 111, 114] : List UInt8)) = true := beq_iff_eq.mpr c4
    have c4b1 : (a0.toList != ([109, 105, 114, 114, 111, 114] : List UInt8)) = false := bne_eq_false_iff_eq.mpr c4
    clear c4
    obtain rfl := Option.some.inj H
    go_enter Try.func68, Try.ntmps68
    go_wp2
    go_ret
    exact ⟨by first | rfl | (simp; done) | (simp [*]; done), by repeat (first | exact Drawn0.refl _ | apply Drawn0.step)⟩
   ·
    rw [if_neg c4] at H
    have c4b0 : (a0.toList == ([109, 105, 114, 114, 111, 114] : List UInt8)) = false := beq_eq_false_iff_ne.mpr c4
    have c4b1 : (a0.toList != ([109, 105, 114, 114, 111, 114] : List UInt8)) = true := bne_iff_ne.mpr c4
    by_cases c5 : a0.toList = ([116, 105, 101, 114] : List UInt8)
    ·
     rw [if_pos c5] at H
     have c5b0 : (a0.toList == ([116, 105, 101, 114] : List UInt8)) = true := beq_iff_eq.mpr c5
     have c5b1 : (a0.toList != ([116, 105, 101, 114] : List UInt8)) = false := bne_eq_false_iff_eq.mpr c5
     clear c5
     obtain rfl := Option.some.inj H
     go_enter Try.func68, Try.ntmps68
     go_wp2
     go_ret
     exact ⟨by first | rfl | (simp; done) | (simp [*]; done), by repeat (first | exact Drawn0.refl _ | apply Drawn0.step)⟩
    ·
     rw [if_neg c5] at H
     have c5b0 : (a0.toList == ([116, 105, 101, 114] : List UInt8)) = false := beq_eq_false_iff_ne.mpr c5
     have c5b1 : (a0.toList != ([116, 105, 101, 114] : List UInt8)) = true := bne_iff_ne.mpr c5
     by_cases c6 : a0.toList = ([97, 110, 103, 108, 101] : List UInt8)
     ·
      rw [if_pos c6] at H
      have c6b0 : (a0.toList == ([97, 110, 103, 108, 101] : List UInt8)) = true := beq_iff_eq.mpr c6
      have c6b1 : (a0.toList != ([97, 110, 103, 108, 101] : List UInt8)) = false := bne_eq_false_iff_eq.mpr c6
      clear c6
      obtain rfl := Option.some.inj H
      go_enter Try.func68, Try.ntmps68
      go_wp2
      go_ret
      exact ⟨by first | rfl | (simp; done) | (simp [*]; done), by repeat (first | exact Drawn0.refl _ | apply Drawn0.step)⟩
     ·
      rw [if_neg c6] at H
      have c6b0 : (a0.toList == ([97, 110, 103, 108, 101] : List UInt8)) = false := beq_eq_false_iff_ne.mpr c6
      have c6b1 : (a0.toList != ([97, 110, 103, 108, 101] : List UInt8)) = true := bne_iff_ne.mpr c6
      by_cases c7 : a0.toList = ([97, 116] : List UInt8)
      ·
       rw [if_pos c7] at H
       have c7b0 : (a0.toList == ([97, 116] : List UInt8)) = true := beq_iff_eq.mpr c7
       have c7b1 : (a0.toList != ([97, 116] : List UInt8)) = false := bne_eq_false_iff_eq.mpr c7
       clear c7
       obtain rfl := Option.some.inj H
       go_enter Try.func68, Try.ntmps68
       go_wp2
       go_ret
       exact ⟨by first | rfl | (simp; done) | (simp [*]; done), by repeat (first | exact Drawn0.refl _ | apply Drawn0.step)⟩
      ·
       rw [if_neg c7] at H
       have c7b0 : (a0.toList == ([97, 116] : List UInt8)) = false := beq_eq_false_iff_ne.mpr c7
       have c7b1 : (a0.toList != ([97, 116] : List UInt8)) = true := bne_iff_ne.mpr c7
       by_cases c8 : a0.toList = ([100, 101, 112, 116, 104] : List UInt8)
       ·
        rw [if_pos c8] at H
        have c8b0 : (a0.toList == ([100, 101, 112, 116, 104] : List UInt8)) = true := beq_iff_eq.mpr c8
        have c8b1 : (a0.toList != ([100, 101, 112, 116, 104] : List UInt8)) = false := bne_eq_false_iff_eq.mpr c8
        clear c8
        obtain rfl := Option.some.inj H
        go_enter Try.func68, Try.ntmps68
        go_wp2
        go_ret
        exact ⟨by first | rfl | (simp; done) | (simp [*]; done), by repeat (first | exact Drawn0.refl _ | apply Drawn0.step)⟩
       ·
        rw [if_neg c8] at H
        have c8b0 : (a0.toList == ([100, 101, 112, 116, 104] : List UInt8)) = false := beq_eq_false_iff_ne.mpr c8
        have c8b1 : (a0.toList != ([100, 101, 112, 116, 104] : List UInt8)) = true := bne_iff_ne.mpr c8
        by_cases c9 : a0.toList = ([109, 101, 101, 116] : List UInt8)
        ·
         rw [if_pos c9] at H
         have c9b0 : (a0.toList == ([109, 101, 101, 116] : List UInt8)) = true := beq_iff_eq.mpr c9
         have c9b1 : (a0.toList != ([109, 101, 101, 116] : List UInt8)) = false := bne_eq_false_iff_eq.mpr c9
         clear c9
         obtain rfl := Option.some.inj H
         go_enter Try.func68, Try.ntmps68
         go_wp2
         go_ret
         exact ⟨by first | rfl | (simp; done) | (simp [*]; done), by repeat (first | exact Drawn0.refl _ | apply Drawn0.step)⟩
        ·
         rw [if_neg c9] at H
         have c9b0 : (a0.toList == ([109, 101, 101, 116] : List UInt8)) = false := beq_eq_false_iff_ne.mpr c9
         have c9b1 : (a0.toList != ([109, 101, 101, 116] : List UInt8)) = true := bne_iff_ne.mpr c9
         by_cases c10 : a0.toList = ([101, 100, 103, 101] : List UInt8)
         ·
          rw [if_pos c10] at H
          have c10b0 : (a0.toList == ([101, 100, 103, 101] : List UInt8)) = true := beq_iff_eq.mpr c10
          have c10b1 : (a0.toList != ([101, 100, 103, 101] : List UInt8)) = false := bne_eq_false_iff_eq.mpr c10
          clear c10
          obtain rfl := Option.some.inj H
          go_enter Try.func68, Try.ntmps68
          go_wp2
          go_ret
          exact ⟨by first | rfl | (simp; done) | (simp [*]; done), by repeat (first | exact Drawn0.refl _ | apply Drawn0.step)⟩
         ·
          rw [if_neg c10] at H
          have c10b0 : (a0.toList == ([101, 100, 103, 101] : List UInt8)) = false := beq_eq_false_iff_ne.mpr c10
          have c10b1 : (a0.toList != ([101, 100, 103, 101] : List UInt8)) = true := bne_iff_ne.mpr c10
          by_cases c11 : a0.toList = ([104, 101, 105, 103, 104, 116] : List UInt8)
          ·
           rw [if_pos c11] at H
           have c11b0 : (a0.toList == ([104, 101, 105, 103, 104, 116] : List UInt8)) = true := beq_iff_eq.mpr c11
           have c11b1 : (a0.toList != ([104, 101, 105, 103, 104, 116] : List UInt8)) = false := bne_eq_false_iff_eq.mpr c11
           clear c11
           obtain rfl := Option.some.inj H
           go_enter Try.func68, Try.ntmps68
           go_wp2
           go_ret
           exact ⟨by first | rfl | (simp; done) | (simp [*]; done), by repeat (first | exact Drawn0.refl _ | apply Drawn0.step)⟩
          ·
           rw [if_neg c11] at H
           have c11b0 : (a0.toList == ([104, 101, 105, 103, 104, 116] : List UInt8)) = false := beq_eq_false_iff_ne.mpr c11
           have c11b1 : (a0.toList != ([104, 101, 105, 103, 104, 116] : List UInt8)) = true := bne_iff_ne.mpr c11
           by_cases c12 : a0.toList = ([116, 104, 114, 111, 117, 103, 104] : List UInt8)
           ·
            rw [if_pos c12] at H
            have c12b0 : (a0.toList == ([116, 104, 114, 111, 117, 103, 104] : List UInt8)) = true := beq_iff_eq.mpr c12
            have c12b1 : (a0.toList != ([116, 104, 114, 111, 117, 103, 104] : List UInt8)) = false := bne_eq_false_iff_eq.mpr c12
            clear c12
            obtain rfl := Option.some.inj H
            go_enter Try.func68, Try.ntmps68
            go_wp2
            go_ret
            exact ⟨by first | rfl | (simp; done) | (simp [*]; done), by repeat (first | exact Drawn0.refl _ | apply Drawn0.step)⟩
           ·
            rw [if_neg c12] at H
            have c12b0 : (a0.toList == ([116, 104, 114, 111, 117, 103, 104] : List UInt8)) = false := beq_eq_false_iff_ne.mpr c12
            have c12b1 : (a0.toList != ([116, 104, 114, 111, 117, 103, 104] : List UInt8)) = true := bne_iff_ne.mpr c12
            obtain rfl := Option.some.inj H
            go_enter Try.func68, Try.ntmps68
            go_wp2
            go_ret
            exact ⟨by first | rfl | (simp; done) | (simp [*]; done), by repeat (first | exact Drawn0.refl _ | apply Drawn0.step)⟩

end Go.Proofs.Ytalhpnfapagamaa.S
end
section
namespace Go.Proofs.Ytalhpnfapagamaa.S
open Go.RowKit Go.Proofs.YtalhpnfapagamaaW.PrintWords Go.Proofs.YtalhpnfapagamaaW.PrintLast Go.Proofs.YtalhpnfapagamaaW.PrintMore
set_option linter.unusedVariables false
set_option linter.unusedSimpArgs false

def lexer_IsName.f (k : Nat) (a0 : ByteArray) : Option (Bool) := if a0.toList = ([] : List UInt8) then (some false) else (if (a0.size : Int) ≤ 30 then ((lexer_word.f k a0).bind fun t103 => (if t103 = (a0.size : Int) then ((lexer_Reserved.f a0).bind fun t104 => (some (!t104))) else (some false))) else (some false))
theorem lexer_IsName.mono : ∀ a0 k, LeO (lexer_IsName.f k a0) (lexer_IsName.f (k + 1) a0) := by
 intro a0 k
 unfold lexer_IsName.f
 repeat' first
   | (with_reducible exact lexer_word.mono _ _)
   | (with_reducible exact LeO.refl _)
   | (with_reducible exact LeO.none _)
   | (with_reducible refine LeO.ite ?_ ?_)
   | (with_reducible refine LeO.bind ?_ (fun _ => ?_))
   | exact lexer_word.mono _ _
   | exact LeO.none _
   | refine LeO.ite ?_ ?_
   | refine LeO.bind ?_ (fun _ => ?_)
set_option maxHeartbeats 8000000 in
set_option maxRecDepth 100000 in
theorem lexer_IsName.calls (k : Nat) (a0 : ByteArray) (r : Bool) (w : World) (h : lexer_IsName.f k a0 = some r) :
  Calls Try.prog 58 #[.string a0] w fun e w' => e = .returned (.bool r) ∧ Drawn0 w w' := by
 have H : (if a0.toList = ([] : List UInt8) then (some false) else (if (a0.size : Int) ≤ 30 then ((lexer_word.f k a0).bind fun t103 => (if t103 = (a0.size : Int) then ((lexer_Reserved.f a0).bind fun t104 => (some (!t104))) else (some false))) else (some false))) = some r := h
 clear h
 by_cases c2 : a0.toList = ([] : List UInt8)
 ·
  rw [if_pos c2] at H
  have c2b0 : (a0.toList == ([] : List UInt8)) = true := beq_iff_eq.mpr c2
  have c2b1 : (a0.toList != ([] : List UInt8)) = false := bne_eq_false_iff_eq.mpr c2
  clear c2
  obtain rfl := Option.some.inj H
  go_enter Try.func58, Try.ntmps58
  go_wp2
  go_ret
  exact ⟨by first | rfl | (simp; done) | (simp [*]; done), by repeat (first | exact Drawn0.refl _ | apply Drawn0.step)⟩
 ·
  rw [if_neg c2] at H
  have c2b0 : (a0.toList == ([] : List UInt8)) = false := beq_eq_false_iff_ne.mpr c2
  have c2b1 : (a0.toList != ([] : List UInt8)) = true := bne_iff_ne.mpr c2
  by_cases c3 : (a0.size : Int) ≤ 30
  ·
   rw [if_pos c3] at H
   have c3b0 : decide ((a0.size : Int) ≤ 30) = true := decide_eq_true c3
   have c3b1 : decide (a0.size ≤ 30) = true := decide_eq_true (by omega)
   clear c3
   replace H := Option.bind_eq_some_iff.mp H
   obtain ⟨t103, A40, H⟩ := H
   replace H : (if t103 = (a0.size : Int) then ((lexer_Reserved.f a0).bind fun t104 => (some (!t104))) else (some false)) = some r := H
   have A4 := Aside0.mk A40
   clear A40
   by_cases c5 : t103 = (a0.size : Int)
   ·
    rw [if_pos c5] at H
    have c5b0 : (t103 == (a0.size : Int)) = true := beq_iff_eq.mpr c5
    have c5b1 : (t103 != (a0.size : Int)) = false := bne_eq_false_iff_eq.mpr c5
    clear c5
    replace H := Option.bind_eq_some_iff.mp H
    obtain ⟨t104, A60, H⟩ := H
    replace H : (some (!t104)) = some r := H
    have A6 := Aside0.mk A60
    clear A60
    obtain rfl := Option.some.inj H
    go_enter Try.func58, Try.ntmps58
    go_wp2_with (first | (go_at_call 67; (with_reducible refine (lexer_word.calls k a0 t103 _ A4.out).mono ?_); rintro e w' ⟨rfl, ⟨nd, rfl⟩⟩) | (go_at_call 68; (with_reducible refine (lexer_Reserved.calls a0 t104 _ A6.out).mono ?_); rintro e w' ⟨rfl, ⟨nd, rfl⟩⟩))
    go_ret
    exact ⟨by first | rfl | (simp; done) | (simp [*]; done), by repeat (first | exact Drawn0.refl _ | apply Drawn0.step)⟩
   ·
    rw [if_neg c5] at H
    have c5b0 : (t103 == (a0.size : Int)) = false := beq_eq_false_iff_ne.mpr c5
    have c5b1 : (t103 != (a0.size : Int)) = true := bne_iff_ne.mpr c5
    obtain rfl := Option.some.inj H
    go_enter Try.func58, Try.ntmps58
    go_wp2_with (first | (go_at_call 67; (with_reducible refine (lexer_word.calls k a0 t103 _ A4.out).mono ?_); rintro e w' ⟨rfl, ⟨nd, rfl⟩⟩))
    go_ret
    exact ⟨by first | rfl | (simp; done) | (simp [*]; done), by repeat (first | exact Drawn0.refl _ | apply Drawn0.step)⟩
  ·
   rw [if_neg c3] at H
   have c3b0 : decide ((a0.size : Int) ≤ 30) = false := decide_eq_false c3
   have c3b1 : decide (a0.size ≤ 30) = false := decide_eq_false (by omega)
   clear c3
   obtain rfl := Option.some.inj H
   go_enter Try.func58, Try.ntmps58
   go_wp2
   go_ret
   exact ⟨by first | rfl | (simp; done) | (simp [*]; done), by repeat (first | exact Drawn0.refl _ | apply Drawn0.step)⟩

end Go.Proofs.Ytalhpnfapagamaa.S
end
section
namespace Go.Proofs.Ytalhpnfapagamaa.S
open Go.RowKit Go.Proofs.YtalhpnfapagamaaW.PrintWords Go.Proofs.YtalhpnfapagamaaW.PrintLast Go.Proofs.YtalhpnfapagamaaW.PrintMore
set_option linter.unusedVariables false
set_option linter.unusedSimpArgs false

def steps_Changes.l0 : Nat → Int → List (S62) → Int → Int → Option (Int)
 | 0, _, _, _, _ => none
 | k + 1, x3, x6, x7, x8 => if x8 < x7 then (if 0 ≤ x8 then (if x8 < (x6.length : Int) then (if ((rd_T62 x6 x8).f0) = 1 then (steps_Changes.l0 k (wrap64 (x3 + 1)) x6 x7 (wrap64 (x8 + 1))) else (steps_Changes.l0 k x3 x6 x7 (wrap64 (x8 + 1)))) else (none)) else (none)) else (some x3)
def steps_Changes.f (k : Nat) (l0 : List (S62)) : Option (Int) := steps_Changes.l0 k 0 l0 (l0.length : Int) 0
theorem steps_Changes.mono_l : ∀ k, (∀ y0 y1 y2 y3, LeO (steps_Changes.l0 k y0 y1 y2 y3) (steps_Changes.l0 (k + 1) y0 y1 y2 y3))
 | 0 => fun _ _ _ _ r h => by simp [steps_Changes.l0] at h
 | k + 1 => by
  have ih0 := steps_Changes.mono_l k
  ·
   intro y0 y1 y2 y3
   unfold steps_Changes.l0
   repeat' first
   | (with_reducible exact ih0 _ _ _ _)
   | (with_reducible exact LeO.refl _)
   | (with_reducible exact LeO.none _)
   | (with_reducible refine LeO.ite ?_ ?_)
   | (with_reducible refine LeO.bind ?_ (fun _ => ?_))
   | exact ih0 _ _ _ _
   | exact LeO.none _
   | refine LeO.ite ?_ ?_
   | refine LeO.bind ?_ (fun _ => ?_)
theorem steps_Changes.mono : ∀ a0 k, LeO (steps_Changes.f k a0) (steps_Changes.f (k + 1) a0) := by
 intro a0 k
 have ih0 := steps_Changes.mono_l k
 unfold steps_Changes.f
 repeat' first
   | (with_reducible exact ih0 _ _ _ _)
   | (with_reducible exact LeO.refl _)
   | (with_reducible exact LeO.none _)
   | (with_reducible refine LeO.ite ?_ ?_)
   | (with_reducible refine LeO.bind ?_ (fun _ => ?_))
   | exact ih0 _ _ _ _
   | exact LeO.none _
   | refine LeO.ite ?_ ?_
   | refine LeO.bind ?_ (fun _ => ?_)
set_option maxHeartbeats 8000000 in
set_option maxRecDepth 100000 in
theorem steps_Changes.calls (k : Nat) (A0 : Option Addr) (c0 : Nat) (l0 : List (S62)) (r : Int) (w : World) (hr0 : Kd.C k62 w A0 l0.length l0) (hc0 : l0.length ≤ c0) (h : steps_Changes.f k l0 = some r) :
  Calls Try.prog 30 #[.slice A0 l0.length c0] w fun e w' => e = .returned (.int .i64 r) ∧ Below w.heap.size w w' := by
 have hu62 := Try.underlying62
 have HR0 := Aside0.mk hr0
 have HC0 := Aside0.mk hc0
 clear hr0 hc0
 have HB := Aside0.mk (Below.refl w.heap.size w)
 have H : (steps_Changes.l0 k 0 l0 (l0.length : Int) 0) = some r := h
 clear h
 have H' := Aside0.mk H
 clear H
 go_enter Try.func30, Try.ntmps30
 go_wp2
 go_loopg [3, 8] k (fun kq v3 v8 w' => ∃ (x3_1 : Int) (x8_1 : Int), v3 = .int .i64 x3_1 ∧ v8 = .int .i64 x8_1 ∧ Aside0 (steps_Changes.l0 kq x3_1 l0 (l0.length : Int) x8_1 = some r) ∧ Aside0 (kq ≤ k) ∧ Aside0 (Below w.heap.size w w'))
 case atStart => exact ⟨(0), (0), (by first | rfl | (simp; done) | (simp [*]; done)), (by first | rfl | (simp; done) | (simp [*]; done)), H', ⟨Nat.le_refl _⟩, ⟨by repeat (first | (with_reducible first | exact HB.out | apply below_alloc | apply pw_below_drewN | apply below_drew1) | exact HB.out)⟩⟩
 case round =>
  clear H'
  obtain ⟨x3_1, x8_1, rfl, rfl, HA, HK1, HB⟩ := hrel
  cases gk with
  | zero => exact absurd HA.out (by simp [steps_Changes.l0])
  | succ k1 =>
   have H := HA.out
   clear HA
   simp only [steps_Changes.l0] at H
   by_cases c2 : x8_1 < (l0.length : Int)
   ·
    rw [if_pos c2] at H
    have c2b0 : decide (x8_1 < (l0.length : Int)) = true := decide_eq_true c2
    clear c2
    by_cases c3 : 0 ≤ x8_1
    ·
     rw [if_pos c3] at H
     have c3b0 : decide (0 ≤ x8_1) = true := decide_eq_true c3
     clear c3
     by_cases c4 : x8_1 < (l0.length : Int)
     ·
      rw [if_pos c4] at H
      have c4b0 : decide (x8_1 < (l0.length : Int)) = true := decide_eq_true c4
      clear c4
      by_cases c5 : ((rd_T62 l0 x8_1).f0) = 1
      ·
       rw [if_pos c5] at H
       have c5b0 : (((rd_T62 l0 x8_1).f0) == 1) = true := beq_iff_eq.mpr c5
       have c5b1 : (((rd_T62 l0 x8_1).f0) != 1) = false := bne_eq_false_iff_eq.mpr c5
       clear c5
       have H' := Aside0.mk H
       clear H
       have p105 : 0 ≤ (x8_1 : Int) := of_decide_eq_true (by first | (with_reducible assumption) | assumption)
       have q105 : x8_1 < (l0.length : Int) := of_decide_eq_true (by first | (with_reducible assumption) | assumption)
       obtain ⟨ad105, e105, hx105_0, hx105_1, hx105_2⟩ := at_T62 HR0.out x8_1 p105 q105
       cases e105
       replace hx105_0 := (HB.out.cell (World.block_lt_of_cell? w _ hx105_0)).trans hx105_0
       replace hx105_1 := (HB.out.cell (World.block_lt_of_cell? w _ hx105_1)).trans hx105_1
       replace hx105_2 := (HB.out.cell (World.block_lt_of_cell? w _ hx105_2)).trans hx105_2
       replace p105 := eq_true p105
       replace q105 := eq_true q105
       go_wp2_with (first | ((with_reducible refine gate_dst (N := 5) rfl ?_); refine box_event ?hg (N := 5) ?hd (cs := #[.int .i64 0, .int .i64 0, .int .i64 0]) (t := 62) ?hr ?_; (case hd => rfl); (case hg => rfl); (case hr => first | (go_simp; done) | (go_simp; rfl)); intro gb106 hg w6 hbox hb; have n0_ := Aside0.mk (below_step (by repeat (first | (with_reducible first | exact HB.out | apply below_alloc | apply pw_below_drewN | apply below_drew1) | exact HB.out)) hb); have n1_ := Aside0.mk (hbox); have n2_ := Aside0.mk ((by rw [hg]; exact (below_size (by repeat (first | (with_reducible first | exact HB.out | apply below_alloc | apply pw_below_drewN | apply below_drew1) | exact HB.out))) : w.heap.size ≤ gb106)); have n3_ := Aside0.mk ((by rw [hg]; exact (below_size (by repeat (first | (with_reducible first | exact HB.out | apply below_alloc | apply pw_below_drewN | apply below_drew1) | exact HB.out))) : w.heap.size ≤ gb106)); clear HB; have HB := n0_; have BK106 := n1_; have GW106 := n2_; have GE106 := n3_; clear n0_ n1_ n2_ n3_; clear hb hbox hg; have hcz7_0 : w6.cell? ⟨gb106, 0, none⟩ = some (.int .i64 0) := (blk_cell BK106.out 0).trans rfl; have hcz7_1 : w6.cell? ⟨gb106, 1, none⟩ = some (.int .i64 0) := (blk_cell BK106.out 1).trans rfl; have hcz7_2 : w6.cell? ⟨gb106, 2, none⟩ = some (.int .i64 0) := (blk_cell BK106.out 2).trans rfl; have hfz7_0 := blk_frozen BK106.out 0; have hfz7_1 := blk_frozen BK106.out 1; have hfz7_2 := blk_frozen BK106.out 2))
       go_roundg k1
       case measure => have := HK1.out; omega
       case rel => exact ⟨(wrap64 (x3_1 + 1)), (wrap64 (x8_1 + 1)), (by first | rfl | (simp; done) | (simp [*]; done)), (by first | rfl | (simp; done) | (simp [*]; done)), H', ⟨by have := HK1.out; omega⟩, ⟨by repeat (first | (with_reducible first | exact HB.out | apply below_alloc | apply pw_below_drewN | apply below_drew1 | refine below_set ?_ GE106.out) | exact HB.out)⟩⟩
      ·
       rw [if_neg c5] at H
       have c5b0 : (((rd_T62 l0 x8_1).f0) == 1) = false := beq_eq_false_iff_ne.mpr c5
       have c5b1 : (((rd_T62 l0 x8_1).f0) != 1) = true := bne_iff_ne.mpr c5
       have H' := Aside0.mk H
       clear H
       have p105 : 0 ≤ (x8_1 : Int) := of_decide_eq_true (by first | (with_reducible assumption) | assumption)
       have q105 : x8_1 < (l0.length : Int) := of_decide_eq_true (by first | (with_reducible assumption) | assumption)
       obtain ⟨ad105, e105, hx105_0, hx105_1, hx105_2⟩ := at_T62 HR0.out x8_1 p105 q105
       cases e105
       replace hx105_0 := (HB.out.cell (World.block_lt_of_cell? w _ hx105_0)).trans hx105_0
       replace hx105_1 := (HB.out.cell (World.block_lt_of_cell? w _ hx105_1)).trans hx105_1
       replace hx105_2 := (HB.out.cell (World.block_lt_of_cell? w _ hx105_2)).trans hx105_2
       replace p105 := eq_true p105
       replace q105 := eq_true q105
       go_wp2_with (first | ((with_reducible refine gate_dst (N := 5) rfl ?_); refine box_event ?hg (N := 5) ?hd (cs := #[.int .i64 0, .int .i64 0, .int .i64 0]) (t := 62) ?hr ?_; (case hd => rfl); (case hg => rfl); (case hr => first | (go_simp; done) | (go_simp; rfl)); intro gb106 hg w8 hbox hb; have n0_ := Aside0.mk (below_step (by repeat (first | (with_reducible first | exact HB.out | apply below_alloc | apply pw_below_drewN | apply below_drew1) | exact HB.out)) hb); have n1_ := Aside0.mk (hbox); have n2_ := Aside0.mk ((by rw [hg]; exact (below_size (by repeat (first | (with_reducible first | exact HB.out | apply below_alloc | apply pw_below_drewN | apply below_drew1) | exact HB.out))) : w.heap.size ≤ gb106)); have n3_ := Aside0.mk ((by rw [hg]; exact (below_size (by repeat (first | (with_reducible first | exact HB.out | apply below_alloc | apply pw_below_drewN | apply below_drew1) | exact HB.out))) : w.heap.size ≤ gb106)); clear HB; have HB := n0_; have BK106 := n1_; have GW106 := n2_; have GE106 := n3_; clear n0_ n1_ n2_ n3_; clear hb hbox hg; have hcz9_0 : w8.cell? ⟨gb106, 0, none⟩ = some (.int .i64 0) := (blk_cell BK106.out 0).trans rfl; have hcz9_1 : w8.cell? ⟨gb106, 1, none⟩ = some (.int .i64 0) := (blk_cell BK106.out 1).trans rfl; have hcz9_2 : w8.cell? ⟨gb106, 2, none⟩ = some (.int .i64 0) := (blk_cell BK106.out 2).trans rfl; have hfz9_0 := blk_frozen BK106.out 0; have hfz9_1 := blk_frozen BK106.out 1; have hfz9_2 := blk_frozen BK106.out 2))
       go_roundg k1
       case measure => have := HK1.out; omega
       case rel => exact ⟨(x3_1), (wrap64 (x8_1 + 1)), (by first | rfl | (simp; done) | (simp [*]; done)), (by first | rfl | (simp; done) | (simp [*]; done)), H', ⟨by have := HK1.out; omega⟩, ⟨by repeat (first | (with_reducible first | exact HB.out | apply below_alloc | apply pw_below_drewN | apply below_drew1 | refine below_set ?_ GE106.out) | exact HB.out)⟩⟩
     ·
      rw [if_neg c4] at H
      exact absurd H (by simp)
    ·
     rw [if_neg c3] at H
     exact absurd H (by simp)
   ·
    rw [if_neg c2] at H
    have c2b0 : decide (x8_1 < (l0.length : Int)) = false := decide_eq_false c2
    clear c2
    obtain rfl := Option.some.inj H
    go_wp2
    go_ret
    exact ⟨by first | rfl | (simp [errW_none, errW_some] <;> rfl) | (simp [*, errW_none, errW_some] <;> rfl), by repeat (first | (with_reducible first | exact HB.out | apply below_alloc | apply pw_below_drewN | apply below_drew1) | exact HB.out)⟩

end Go.Proofs.Ytalhpnfapagamaa.S
end
section
namespace Go.Proofs.Ytalhpnfapagamaa.S
open Go.RowKit Go.Proofs.YtalhpnfapagamaaW.PrintWords Go.Proofs.YtalhpnfapagamaaW.PrintLast Go.Proofs.YtalhpnfapagamaaW.PrintMore
set_option linter.unusedVariables false
set_option linter.unusedSimpArgs false

mutual
def culetref49_Few.j0 : Nat → Bool → List (S94) → List (S68) → Int → Int → Option (Bool)
 | 0, _, _, _, _, _ => none
 | k + 1, x14, x132000, x132001, x132002, x132003 => if x14 = true then (some false) else (culetref49_Few.l0 k 0 x132000 x132001 x132002 x132003)
def culetref49_Few.l0 : Nat → Int → List (S94) → List (S68) → Int → Int → Option (Bool)
 | 0, _, _, _, _, _ => none
 | k + 1, x3, x132000, x132001, x132002, x132003 => if x3 < (x132000.length : Int) then (if 0 ≤ x3 then (if (((rd_T94 x132000 x3).f0).size : Int) > 40 then (some false) else (culetref49_Few.l0 k (wrap64 (x3 + 1)) x132000 x132001 x132002 x132003)) else (none)) else (culetref49_Few.l1 k 0 x132000 x132001 x132002 x132003)
def culetref49_Few.l1 : Nat → Int → List (S94) → List (S68) → Int → Int → Option (Bool)
 | 0, _, _, _, _, _ => none
 | k + 1, x4, x132000, x132001, x132002, x132003 => if x4 < (x132001.length : Int) then (if 0 ≤ x4 then (if (((rd_T68 x132001 x4).f0).size : Int) > 40 then (some false) else (culetref49_Few.l1 k (wrap64 (x4 + 1)) x132000 x132001 x132002 x132003)) else (none)) else (some true)
end
def culetref49_Few.f (k : Nat) (l0_0 : List (S94)) (l0_1 : List (S68)) (a0_2 : Int) (a0_3 : Int) : Option (Bool) := if (l0_0.length : Int) > 8 then (culetref49_Few.j0 k true l0_0 l0_1 a0_2 a0_3) else (culetref49_Few.j0 k (decide ((l0_1.length : Int) > 22)) l0_0 l0_1 a0_2 a0_3)
set_option maxHeartbeats 8000000 in
set_option maxRecDepth 100000 in
theorem culetref49_Few.calls (k : Nat) (A0_0 : Option Addr) (c0_0 : Nat) (l0_0 : List (S94)) (A0_1 : Option Addr) (c0_1 : Nat) (l0_1 : List (S68)) (a0_2 : Int) (a0_3 : Int) (r : Bool) (w : World) (hr0_0 : Kd.C k94 w A0_0 l0_0.length l0_0) (hc0_0 : l0_0.length ≤ c0_0) (hr0_1 : Kd.C k68 w A0_1 l0_1.length l0_1) (hc0_1 : l0_1.length ≤ c0_1) (h : culetref49_Few.f k l0_0 l0_1 a0_2 a0_3 = some r) :
  Calls Try.prog 26 #[.agg #[.slice A0_0 l0_0.length c0_0, .slice A0_1 l0_1.length c0_1, .int .i64 a0_2, .int .i64 a0_3]] w fun e w' => e = .returned (.bool r) ∧ Below w.heap.size w w' := by
 have hu50 := Try.underlying50
 have HR0_0 := Aside0.mk hr0_0
 have HC0_0 := Aside0.mk hc0_0
 clear hr0_0 hc0_0
 have HR0_1 := Aside0.mk hr0_1
 have HC0_1 := Aside0.mk hc0_1
 clear hr0_1 hc0_1
 have HB := Aside0.mk (Below.refl w.heap.size w)
 have H : (if (l0_0.length : Int) > 8 then (culetref49_Few.j0 k true l0_0 l0_1 a0_2 a0_3) else (culetref49_Few.j0 k (decide ((l0_1.length : Int) > 22)) l0_0 l0_1 a0_2 a0_3)) = some r := h
 clear h
 have HC2 := Aside0.mk H
 clear H
 go_enter Try.func26, Try.ntmps26
 go_upto_region 1 with (first | ((with_reducible refine gate_dst (N := 1) rfl ?_); (try (refine gate_guard (by rfl) ?_; dsimp only)); refine box_event ?hg (N := 1) ?hd (cs := #[.slice A0_0 l0_0.length c0_0, .slice A0_1 l0_1.length c0_1, .int .i64 a0_2, .int .i64 a0_3]) (t := 50) ?hr ?_; (case hd => rfl); (case hg => rfl); (case hr => first | (go_simp; done) | (go_simp; rfl)); intro gb131 hg w3 hbox hb; have n0_ := Aside0.mk (below_step (by repeat (first | (with_reducible first | exact HB.out | apply below_alloc | apply pw_below_drewN | apply below_drew1) | exact HB.out)) hb); have n1_ := Aside0.mk (hbox); have n2_ := Aside0.mk ((by rw [hg]; exact (below_size (by repeat (first | (with_reducible first | exact HB.out | apply below_alloc | apply pw_below_drewN | apply below_drew1) | exact HB.out))) : w.heap.size ≤ gb131)); have n3_ := Aside0.mk ((by rw [hg]; exact (below_size (by repeat (first | (with_reducible first | exact HB.out | apply below_alloc | apply pw_below_drewN | apply below_drew1) | exact HB.out))) : w.heap.size ≤ gb131)); clear HB; have HB := n0_; have BK131 := n1_; have GW131 := n2_; have GE131 := n3_; clear n0_ n1_ n2_ n3_; clear hb hbox hg))
 (try simp only [Act.put, List.setIfInBounds_toArray, List.set_cons_zero, List.set_cons_succ])
 go_cut [14] (fun v14 wc => ∃ (kq : Nat) (x14_1 : Bool), v14 = .bool x14_1 ∧ Aside0 (culetref49_Few.j0 kq x14_1 l0_0 l0_1 a0_2 a0_3 = some r) ∧ Aside0 (kq ≤ k) ∧ Aside0 (wc.heap[gb131]? = some (.cells #[(.slice A0_0 l0_0.length c0_0), (.slice A0_1 l0_1.length c0_1), .int .i64 a0_2, .int .i64 a0_3] 50 (0, 0))) ∧ Aside0 (Below w.heap.size w wc))
 case first =>
  have H := HC2.out
  clear HC2
  by_cases c4 : (l0_0.length : Int) > 8
  ·
   rw [if_pos c4] at H
   have c4b0 : decide (8 < (l0_0.length : Int)) = true := decide_eq_true c4
   have c4b1 : decide (8 < l0_0.length) = true := decide_eq_true (by omega)
   clear c4
   (first | rw [c4b0] | (simp only [i64_w, i32_w]; rw [c4b0]) | skip)
   have H' := Aside0.mk H
   clear H
   have hcz5_0 : w3.cell? ⟨gb131, 0, none⟩ = some (.slice A0_0 l0_0.length c0_0) := (blk_cell BK131.out 0).trans rfl
   have hcz5_1 : w3.cell? ⟨gb131, 1, none⟩ = some (.slice A0_1 l0_1.length c0_1) := (blk_cell BK131.out 1).trans rfl
   have hcz5_2 : w3.cell? ⟨gb131, 2, none⟩ = some (.int .i64 a0_2) := (blk_cell BK131.out 2).trans rfl
   have hcz5_3 : w3.cell? ⟨gb131, 3, none⟩ = some (.int .i64 a0_3) := (blk_cell BK131.out 3).trans rfl
   have hfz5_0 := blk_frozen BK131.out 0
   have hfz5_1 := blk_frozen BK131.out 1
   have hfz5_2 := blk_frozen BK131.out 2
   have hfz5_3 := blk_frozen BK131.out 3
   go_wp2
   go_meet
   case rel => exact ⟨_, (true), (by first | rfl | (simp; done) | (simp [*]; done)), H', ⟨by first | omega | exact Nat.le_refl _⟩, ⟨by (with_reducible repeat (first | refine blk_drewN ?_ _ | refine blk_drew ?_ | refine blk_alloc ?_ _)); exact BK131.out⟩, ⟨by repeat (first | (with_reducible first | exact HB.out | apply below_alloc | apply pw_below_drewN | apply below_drew1 | refine below_set ?_ GE131.out) | exact HB.out)⟩⟩
  ·
   rw [if_neg c4] at H
   have c4b0 : decide (8 < (l0_0.length : Int)) = false := decide_eq_false c4
   have c4b1 : decide (8 < l0_0.length) = false := decide_eq_false (by omega)
   clear c4
   (first | rw [c4b0] | (simp only [i64_w, i32_w]; rw [c4b0]) | skip)
   have H' := Aside0.mk H
   clear H
   have hcz6_0 : w3.cell? ⟨gb131, 0, none⟩ = some (.slice A0_0 l0_0.length c0_0) := (blk_cell BK131.out 0).trans rfl
   have hcz6_1 : w3.cell? ⟨gb131, 1, none⟩ = some (.slice A0_1 l0_1.length c0_1) := (blk_cell BK131.out 1).trans rfl
   have hcz6_2 : w3.cell? ⟨gb131, 2, none⟩ = some (.int .i64 a0_2) := (blk_cell BK131.out 2).trans rfl
   have hcz6_3 : w3.cell? ⟨gb131, 3, none⟩ = some (.int .i64 a0_3) := (blk_cell BK131.out 3).trans rfl
   have hfz6_0 := blk_frozen BK131.out 0
   have hfz6_1 := blk_frozen BK131.out 1
   have hfz6_2 := blk_frozen BK131.out 2
   have hfz6_3 := blk_frozen BK131.out 3
   go_wp2
   go_meet
   case rel => exact ⟨_, (decide ((l0_1.length : Int) > 22)), (by first | rfl | (simp; done) | (simp [*]; done)), H', ⟨by first | omega | exact Nat.le_refl _⟩, ⟨by (with_reducible repeat (first | refine blk_drewN ?_ _ | refine blk_drew ?_ | refine blk_alloc ?_ _)); exact BK131.out⟩, ⟨by repeat (first | (with_reducible first | exact HB.out | apply below_alloc | apply pw_below_drewN | apply below_drew1 | refine below_set ?_ GE131.out) | exact HB.out)⟩⟩
 case rest =>
  clear HC2
  try clear c2
  try clear p2
  try clear c4
  try clear c4b0
  try clear c4b1
  try clear hcz5_0
  try clear hcz5_1
  try clear hcz5_2
  try clear hcz5_3
  try clear hcz6_0
  try clear hcz6_1
  try clear hcz6_2
  try clear hcz6_3
  try clear hfz5_0
  try clear hfz5_1
  try clear hfz5_2
  try clear hfz5_3
  try clear hfz6_0
  try clear hfz6_1
  try clear hfz6_2
  try clear hfz6_3
  obtain ⟨kq, x14_1, rfl, HA, HJ1, BK131, HB⟩ := hcut
  cases kq with
  | zero => exact absurd HA.out (by simp [culetref49_Few.j0])
  | succ kj1 =>
   have H := HA.out
   clear HA
   simp only [culetref49_Few.j0] at H
   by_cases c7 : x14_1 = true
   ·
    subst c7
    have H1 : (some false) = some r := by rw [if_pos rfl] at H; exact H
    clear H
    have H := H1
    clear H1
    obtain rfl := Option.some.inj H
    go_wp2
    go_ret
    exact ⟨by first | rfl | (simp [errW_none, errW_some] <;> rfl) | (simp [*, errW_none, errW_some] <;> rfl), by repeat (first | (with_reducible first | exact HB.out | apply below_alloc | apply pw_below_drewN | apply below_drew1 | refine below_set ?_ GE131.out) | exact HB.out)⟩
   ·
    replace c7 := Bool.eq_false_iff.mpr c7
    subst c7
    have H1 : (culetref49_Few.l0 kj1 0 l0_0 l0_1 a0_2 a0_3) = some r := by rw [if_neg (show ¬ (false = true) by decide)] at H; exact H
    clear H
    have H := H1
    clear H1
    have H' := Aside0.mk H
    clear H
    go_wp2
    go_loopg [3] kj1 (fun kq v3 w' => ∃ (x3_2 : Int), v3 = .int .i64 x3_2 ∧ Aside0 (culetref49_Few.l0 kq x3_2 l0_0 l0_1 a0_2 a0_3 = some r) ∧ Aside0 (kq ≤ kj1) ∧ Aside0 (w'.heap[gb131]? = some (.cells #[(.slice A0_0 l0_0.length c0_0), (.slice A0_1 l0_1.length c0_1), .int .i64 a0_2, .int .i64 a0_3] 50 (0, 0))) ∧ Aside0 (Below w.heap.size w w'))
    case atStart => exact ⟨(0), (by first | rfl | (simp; done) | (simp [*]; done)), H', ⟨Nat.le_refl _⟩, ⟨by (with_reducible repeat (first | refine blk_drewN ?_ _ | refine blk_drew ?_ | refine blk_alloc ?_ _)); exact BK131.out⟩, ⟨by repeat (first | (with_reducible first | exact HB.out | apply below_alloc | apply pw_below_drewN | apply below_drew1 | refine below_set ?_ GE131.out) | exact HB.out)⟩⟩
    case round =>
     clear H'
     try clear c2
     try clear p2
     try clear c4
     try clear c4b0
     try clear c4b1
     try clear c7
     try clear hcz5_0
     try clear hcz5_1
     try clear hcz5_2
     try clear hcz5_3
     try clear hcz6_0
     try clear hcz6_1
     try clear hcz6_2
     try clear hcz6_3
     try clear hfz5_0
     try clear hfz5_1
     try clear hfz5_2
     try clear hfz5_3
     try clear hfz6_0
     try clear hfz6_1
     try clear hfz6_2
     try clear hfz6_3
     try clear p2
     obtain ⟨x3_2, rfl, HA, HK2, BK131, HB⟩ := hrel
     cases gk with
     | zero => exact absurd HA.out (by simp [culetref49_Few.l0])
     | succ k2 =>
      have H := HA.out
      clear HA
      simp only [culetref49_Few.l0] at H
      by_cases c8 : x3_2 < (l0_0.length : Int)
      ·
       rw [if_pos c8] at H
       have c8b0 : decide (x3_2 < (l0_0.length : Int)) = true := decide_eq_true c8
       clear c8
       by_cases c9 : 0 ≤ x3_2
       ·
        rw [if_pos c9] at H
        have c9b0 : decide (0 ≤ x3_2) = true := decide_eq_true c9
        clear c9
        by_cases c10 : (((rd_T94 l0_0 x3_2).f0).size : Int) > 40
        ·
         rw [if_pos c10] at H
         have c10b0 : decide (40 < (((rd_T94 l0_0 x3_2).f0).size : Int)) = true := decide_eq_true c10
         have c10b1 : decide (40 < ((rd_T94 l0_0 x3_2).f0).size) = true := decide_eq_true (by omega)
         clear c10
         obtain rfl := Option.some.inj H
         have hcz11_0 : wr.cell? ⟨gb131, 0, none⟩ = some (.slice A0_0 l0_0.length c0_0) := (blk_cell BK131.out 0).trans rfl
         have hcz11_1 : wr.cell? ⟨gb131, 1, none⟩ = some (.slice A0_1 l0_1.length c0_1) := (blk_cell BK131.out 1).trans rfl
         have hcz11_2 : wr.cell? ⟨gb131, 2, none⟩ = some (.int .i64 a0_2) := (blk_cell BK131.out 2).trans rfl
         have hcz11_3 : wr.cell? ⟨gb131, 3, none⟩ = some (.int .i64 a0_3) := (blk_cell BK131.out 3).trans rfl
         have hfz11_0 := blk_frozen BK131.out 0
         have hfz11_1 := blk_frozen BK131.out 1
         have hfz11_2 := blk_frozen BK131.out 2
         have hfz11_3 := blk_frozen BK131.out 3
         have p132 : 0 ≤ (x3_2 : Int) := of_decide_eq_true (by first | (with_reducible assumption) | assumption)
         have q132 : x3_2 < (l0_0.length : Int) := of_decide_eq_true (by first | (with_reducible assumption) | assumption)
         obtain ⟨ad132, e132, hx132_0, hx132_1, hx132_2⟩ := at_T94 HR0_0.out x3_2 p132 q132
         cases e132
         replace hx132_0 := (HB.out.cell (World.block_lt_of_cell? w _ hx132_0)).trans hx132_0
         replace hx132_1 := (HB.out.cell (World.block_lt_of_cell? w _ hx132_1)).trans hx132_1
         replace hx132_2 := (HB.out.cell (World.block_lt_of_cell? w _ hx132_2)).trans hx132_2
         replace p132 := eq_true p132
         replace q132 := eq_true q132
         go_wp2
         go_ret
         exact ⟨by first | rfl | (simp [errW_none, errW_some] <;> rfl) | (simp [*, errW_none, errW_some] <;> rfl), by repeat (first | (with_reducible first | exact HB.out | apply below_alloc | apply pw_below_drewN | apply below_drew1 | refine below_set ?_ GE131.out) | exact HB.out)⟩
        ·
         rw [if_neg c10] at H
         have c10b0 : decide (40 < (((rd_T94 l0_0 x3_2).f0).size : Int)) = false := decide_eq_false c10
         have c10b1 : decide (40 < ((rd_T94 l0_0 x3_2).f0).size) = false := decide_eq_false (by omega)
         clear c10
         have H' := Aside0.mk H
         clear H
         have hcz12_0 : wr.cell? ⟨gb131, 0, none⟩ = some (.slice A0_0 l0_0.length c0_0) := (blk_cell BK131.out 0).trans rfl
         have hcz12_1 : wr.cell? ⟨gb131, 1, none⟩ = some (.slice A0_1 l0_1.length c0_1) := (blk_cell BK131.out 1).trans rfl
         have hcz12_2 : wr.cell? ⟨gb131, 2, none⟩ = some (.int .i64 a0_2) := (blk_cell BK131.out 2).trans rfl
         have hcz12_3 : wr.cell? ⟨gb131, 3, none⟩ = some (.int .i64 a0_3) := (blk_cell BK131.out 3).trans rfl
         have hfz12_0 := blk_frozen BK131.out 0
         have hfz12_1 := blk_frozen BK131.out 1
         have hfz12_2 := blk_frozen BK131.out 2
         have hfz12_3 := blk_frozen BK131.out 3
         have p132 : 0 ≤ (x3_2 : Int) := of_decide_eq_true (by first | (with_reducible assumption) | assumption)
         have q132 : x3_2 < (l0_0.length : Int) := of_decide_eq_true (by first | (with_reducible assumption) | assumption)
         obtain ⟨ad132, e132, hx132_0, hx132_1, hx132_2⟩ := at_T94 HR0_0.out x3_2 p132 q132
         cases e132
         replace hx132_0 := (HB.out.cell (World.block_lt_of_cell? w _ hx132_0)).trans hx132_0
         replace hx132_1 := (HB.out.cell (World.block_lt_of_cell? w _ hx132_1)).trans hx132_1
         replace hx132_2 := (HB.out.cell (World.block_lt_of_cell? w _ hx132_2)).trans hx132_2
         replace p132 := eq_true p132
         replace q132 := eq_true q132
         go_wp2
         go_roundg k2
         case measure => have := HJ1.out; have := HK2.out; omega
         case rel => exact ⟨(wrap64 (x3_2 + 1)), (by first | rfl | (simp; done) | (simp [*]; done)), H', ⟨by have := HJ1.out; have := HK2.out; omega⟩, ⟨by (with_reducible repeat (first | refine blk_drewN ?_ _ | refine blk_drew ?_ | refine blk_alloc ?_ _)); exact BK131.out⟩, ⟨by repeat (first | (with_reducible first | exact HB.out | apply below_alloc | apply pw_below_drewN | apply below_drew1 | refine below_set ?_ GE131.out) | exact HB.out)⟩⟩
       ·
        rw [if_neg c9] at H
        exact absurd H (by simp)
      ·
       rw [if_neg c8] at H
       have c8b0 : decide (x3_2 < (l0_0.length : Int)) = false := decide_eq_false c8
       clear c8
       have H' := Aside0.mk H
       clear H
       have hcz13_0 : wr.cell? ⟨gb131, 0, none⟩ = some (.slice A0_0 l0_0.length c0_0) := (blk_cell BK131.out 0).trans rfl
       have hcz13_1 : wr.cell? ⟨gb131, 1, none⟩ = some (.slice A0_1 l0_1.length c0_1) := (blk_cell BK131.out 1).trans rfl
       have hcz13_2 : wr.cell? ⟨gb131, 2, none⟩ = some (.int .i64 a0_2) := (blk_cell BK131.out 2).trans rfl
       have hcz13_3 : wr.cell? ⟨gb131, 3, none⟩ = some (.int .i64 a0_3) := (blk_cell BK131.out 3).trans rfl
       have hfz13_0 := blk_frozen BK131.out 0
       have hfz13_1 := blk_frozen BK131.out 1
       have hfz13_2 := blk_frozen BK131.out 2
       have hfz13_3 := blk_frozen BK131.out 3
       go_wp2
       go_loopg [4] k2 (fun kq v4 w' => ∃ (x4_3 : Int), v4 = .int .i64 x4_3 ∧ Aside0 (culetref49_Few.l1 kq x4_3 l0_0 l0_1 a0_2 a0_3 = some r) ∧ Aside0 (kq ≤ k2) ∧ Aside0 (w'.heap[gb131]? = some (.cells #[(.slice A0_0 l0_0.length c0_0), (.slice A0_1 l0_1.length c0_1), .int .i64 a0_2, .int .i64 a0_3] 50 (0, 0))) ∧ Aside0 (Below w.heap.size w w'))
       case atStart => exact ⟨(0), (by first | rfl | (simp; done) | (simp [*]; done)), H', ⟨Nat.le_refl _⟩, ⟨by (with_reducible repeat (first | refine blk_drewN ?_ _ | refine blk_drew ?_ | refine blk_alloc ?_ _)); exact BK131.out⟩, ⟨by repeat (first | (with_reducible first | exact HB.out | apply below_alloc | apply pw_below_drewN | apply below_drew1 | refine below_set ?_ GE131.out) | exact HB.out)⟩⟩
       case round =>
        clear H'
        try clear c1
        try clear p1
        try clear q1
        try clear hx1
        try clear c2
        try clear p2
        try clear c4
        try clear c4b0
        try clear c4b1
        try clear p6
        try clear c7
        try clear c8
        try clear c8b0
        try clear c9
        try clear c9b0
        try clear c10
        try clear c10b0
        try clear c10b1
        try clear p13
        try clear q13
        try clear hx13
        try clear hcz11_0
        try clear hcz11_1
        try clear hcz11_2
        try clear hcz11_3
        try clear hcz12_0
        try clear hcz12_1
        try clear hcz12_2
        try clear hcz12_3
        try clear hcz13_0
        try clear hcz13_1
        try clear hcz13_2
        try clear hcz13_3
        try clear hcz5_0
        try clear hcz5_1
        try clear hcz5_2
        try clear hcz5_3
        try clear hcz6_0
        try clear hcz6_1
        try clear hcz6_2
        try clear hcz6_3
        try clear hfz11_0
        try clear hfz11_1
        try clear hfz11_2
        try clear hfz11_3
        try clear hfz12_0
        try clear hfz12_1
        try clear hfz12_2
        try clear hfz12_3
        try clear hfz13_0
        try clear hfz13_1
        try clear hfz13_2
        try clear hfz13_3
        try clear hfz5_0
        try clear hfz5_1
        try clear hfz5_2
        try clear hfz5_3
        try clear hfz6_0
        try clear hfz6_1
        try clear hfz6_2
        try clear hfz6_3
        try clear hx132_0
        try clear hx132_1
        try clear hx132_2
        try clear p132
        try clear p2
        try clear q132
        obtain ⟨x4_3, rfl, HA, HK3, BK131, HB⟩ := hrel
        cases gk with
        | zero => exact absurd HA.out (by simp [culetref49_Few.l1])
        | succ k3 =>
         have H := HA.out
         clear HA
         simp only [culetref49_Few.l1] at H
         by_cases c14 : x4_3 < (l0_1.length : Int)
         ·
          rw [if_pos c14] at H
          have c14b0 : decide (x4_3 < (l0_1.length : Int)) = true := decide_eq_true c14
          clear c14
          by_cases c15 : 0 ≤ x4_3
          ·
           rw [if_pos c15] at H
           have c15b0 : decide (0 ≤ x4_3) = true := decide_eq_true c15
           clear c15
           by_cases c16 : (((rd_T68 l0_1 x4_3).f0).size : Int) > 40
           ·
            rw [if_pos c16] at H
            have c16b0 : decide (40 < (((rd_T68 l0_1 x4_3).f0).size : Int)) = true := decide_eq_true c16
            have c16b1 : decide (40 < ((rd_T68 l0_1 x4_3).f0).size) = true := decide_eq_true (by omega)
            clear c16
            obtain rfl := Option.some.inj H
            have hcz17_0 : wr.cell? ⟨gb131, 0, none⟩ = some (.slice A0_0 l0_0.length c0_0) := (blk_cell BK131.out 0).trans rfl
            have hcz17_1 : wr.cell? ⟨gb131, 1, none⟩ = some (.slice A0_1 l0_1.length c0_1) := (blk_cell BK131.out 1).trans rfl
            have hcz17_2 : wr.cell? ⟨gb131, 2, none⟩ = some (.int .i64 a0_2) := (blk_cell BK131.out 2).trans rfl
            have hcz17_3 : wr.cell? ⟨gb131, 3, none⟩ = some (.int .i64 a0_3) := (blk_cell BK131.out 3).trans rfl
            have hfz17_0 := blk_frozen BK131.out 0
            have hfz17_1 := blk_frozen BK131.out 1
            have hfz17_2 := blk_frozen BK131.out 2
            have hfz17_3 := blk_frozen BK131.out 3
            have p133 : 0 ≤ (x4_3 : Int) := of_decide_eq_true (by first | (with_reducible assumption) | assumption)
            have q133 : x4_3 < (l0_1.length : Int) := of_decide_eq_true (by first | (with_reducible assumption) | assumption)
            obtain ⟨ad133, e133, hx133_0, hx133_1, hx133_2⟩ := at_T68 HR0_1.out x4_3 p133 q133
            cases e133
            replace hx133_0 := (HB.out.cell (World.block_lt_of_cell? w _ hx133_0)).trans hx133_0
            replace hx133_1 := (HB.out.cell (World.block_lt_of_cell? w _ hx133_1)).trans hx133_1
            replace hx133_2 := (HB.out.cell (World.block_lt_of_cell? w _ hx133_2)).trans hx133_2
            replace p133 := eq_true p133
            replace q133 := eq_true q133
            go_wp2
            go_ret
            exact ⟨by first | rfl | (simp [errW_none, errW_some] <;> rfl) | (simp [*, errW_none, errW_some] <;> rfl), by repeat (first | (with_reducible first | exact HB.out | apply below_alloc | apply pw_below_drewN | apply below_drew1 | refine below_set ?_ GE131.out) | exact HB.out)⟩
           ·
            rw [if_neg c16] at H
            have c16b0 : decide (40 < (((rd_T68 l0_1 x4_3).f0).size : Int)) = false := decide_eq_false c16
            have c16b1 : decide (40 < ((rd_T68 l0_1 x4_3).f0).size) = false := decide_eq_false (by omega)
            clear c16
            have H' := Aside0.mk H
            clear H
            have hcz18_0 : wr.cell? ⟨gb131, 0, none⟩ = some (.slice A0_0 l0_0.length c0_0) := (blk_cell BK131.out 0).trans rfl
            have hcz18_1 : wr.cell? ⟨gb131, 1, none⟩ = some (.slice A0_1 l0_1.length c0_1) := (blk_cell BK131.out 1).trans rfl
            have hcz18_2 : wr.cell? ⟨gb131, 2, none⟩ = some (.int .i64 a0_2) := (blk_cell BK131.out 2).trans rfl
            have hcz18_3 : wr.cell? ⟨gb131, 3, none⟩ = some (.int .i64 a0_3) := (blk_cell BK131.out 3).trans rfl
            have hfz18_0 := blk_frozen BK131.out 0
            have hfz18_1 := blk_frozen BK131.out 1
            have hfz18_2 := blk_frozen BK131.out 2
            have hfz18_3 := blk_frozen BK131.out 3
            have p133 : 0 ≤ (x4_3 : Int) := of_decide_eq_true (by first | (with_reducible assumption) | assumption)
            have q133 : x4_3 < (l0_1.length : Int) := of_decide_eq_true (by first | (with_reducible assumption) | assumption)
            obtain ⟨ad133, e133, hx133_0, hx133_1, hx133_2⟩ := at_T68 HR0_1.out x4_3 p133 q133
            cases e133
            replace hx133_0 := (HB.out.cell (World.block_lt_of_cell? w _ hx133_0)).trans hx133_0
            replace hx133_1 := (HB.out.cell (World.block_lt_of_cell? w _ hx133_1)).trans hx133_1
            replace hx133_2 := (HB.out.cell (World.block_lt_of_cell? w _ hx133_2)).trans hx133_2
            replace p133 := eq_true p133
            replace q133 := eq_true q133
            go_wp2
            go_roundg k3
            case measure => have := HJ1.out; have := HK2.out; have := HK3.out; omega
            case rel => exact ⟨(wrap64 (x4_3 + 1)), (by first | rfl | (simp; done) | (simp [*]; done)), H', ⟨by have := HJ1.out; have := HK2.out; have := HK3.out; omega⟩, ⟨by (with_reducible repeat (first | refine blk_drewN ?_ _ | refine blk_drew ?_ | refine blk_alloc ?_ _)); exact BK131.out⟩, ⟨by repeat (first | (with_reducible first | exact HB.out | apply below_alloc | apply pw_below_drewN | apply below_drew1 | refine below_set ?_ GE131.out) | exact HB.out)⟩⟩
          ·
           rw [if_neg c15] at H
           exact absurd H (by simp)
         ·
          rw [if_neg c14] at H
          have c14b0 : decide (x4_3 < (l0_1.length : Int)) = false := decide_eq_false c14
          clear c14
          obtain rfl := Option.some.inj H
          have hcz19_0 : wr.cell? ⟨gb131, 0, none⟩ = some (.slice A0_0 l0_0.length c0_0) := (blk_cell BK131.out 0).trans rfl
          have hcz19_1 : wr.cell? ⟨gb131, 1, none⟩ = some (.slice A0_1 l0_1.length c0_1) := (blk_cell BK131.out 1).trans rfl
          have hcz19_2 : wr.cell? ⟨gb131, 2, none⟩ = some (.int .i64 a0_2) := (blk_cell BK131.out 2).trans rfl
          have hcz19_3 : wr.cell? ⟨gb131, 3, none⟩ = some (.int .i64 a0_3) := (blk_cell BK131.out 3).trans rfl
          have hfz19_0 := blk_frozen BK131.out 0
          have hfz19_1 := blk_frozen BK131.out 1
          have hfz19_2 := blk_frozen BK131.out 2
          have hfz19_3 := blk_frozen BK131.out 3
          go_wp2
          go_ret
          exact ⟨by first | rfl | (simp [errW_none, errW_some] <;> rfl) | (simp [*, errW_none, errW_some] <;> rfl), by repeat (first | (with_reducible first | exact HB.out | apply below_alloc | apply pw_below_drewN | apply below_drew1 | refine below_set ?_ GE131.out) | exact HB.out)⟩

end Go.Proofs.Ytalhpnfapagamaa.S
end
section
namespace Go.Proofs.Ytalhpnfapagamaa.S
open Go.RowKit Go.Proofs.YtalhpnfapagamaaW.PrintWords Go.Proofs.YtalhpnfapagamaaW.PrintLast Go.Proofs.YtalhpnfapagamaaW.PrintMore
set_option linter.unusedVariables false
set_option linter.unusedSimpArgs false

end Go.Proofs.Ytalhpnfapagamaa.S
end
section
namespace Go.Proofs.Ytalhpnfapagamaa.S
open Go.RowKit Go.Proofs.YtalhpnfapagamaaW.PrintWords Go.Proofs.YtalhpnfapagamaaW.PrintLast Go.Proofs.YtalhpnfapagamaaW.PrintMore
set_option linter.unusedVariables false
set_option linter.unusedSimpArgs false

end Go.Proofs.Ytalhpnfapagamaa.S
end
section
namespace Go.Proofs.Ytalhpnfapagamaa.S
open Go.RowKit Go.Proofs.YtalhpnfapagamaaW.PrintWords Go.Proofs.YtalhpnfapagamaaW.PrintLast Go.Proofs.YtalhpnfapagamaaW.PrintMore
set_option linter.unusedVariables false
set_option linter.unusedSimpArgs false

end Go.Proofs.Ytalhpnfapagamaa.S
end
section
namespace Go.Proofs.Ytalhpnfapagamaa.S
open Go.RowKit Go.Proofs.YtalhpnfapagamaaW.PrintWords Go.Proofs.YtalhpnfapagamaaW.PrintLast Go.Proofs.YtalhpnfapagamaaW.PrintMore
set_option linter.unusedVariables false
set_option linter.unusedSimpArgs false

end Go.Proofs.Ytalhpnfapagamaa.S
end
section
namespace Go.Proofs.Ytalhpnfapagamaa.S
open Go.RowKit Go.Proofs.YtalhpnfapagamaaW.PrintWords Go.Proofs.YtalhpnfapagamaaW.PrintLast Go.Proofs.YtalhpnfapagamaaW.PrintMore
set_option linter.unusedVariables false
set_option linter.unusedSimpArgs false

end Go.Proofs.Ytalhpnfapagamaa.S
end
section
namespace Go.Proofs.Ytalhpnfapagamaa.S
open Go.RowKit Go.Proofs.YtalhpnfapagamaaW.PrintWords Go.Proofs.YtalhpnfapagamaaW.PrintLast Go.Proofs.YtalhpnfapagamaaW.PrintMore
set_option linter.unusedVariables false
set_option linter.unusedSimpArgs false

end Go.Proofs.Ytalhpnfapagamaa.S
end
section
namespace Go.Proofs.Ytalhpnfapagamaa.S
open Go.RowKit Go.Proofs.YtalhpnfapagamaaW.PrintWords Go.Proofs.YtalhpnfapagamaaW.PrintLast Go.Proofs.YtalhpnfapagamaaW.PrintMore
set_option linter.unusedVariables false
set_option linter.unusedSimpArgs false

end Go.Proofs.Ytalhpnfapagamaa.S
end
section
namespace Go.Proofs.Ytalhpnfapagamaa.S
open Go.RowKit Go.Proofs.YtalhpnfapagamaaW.PrintWords Go.Proofs.YtalhpnfapagamaaW.PrintLast Go.Proofs.YtalhpnfapagamaaW.PrintMore
set_option linter.unusedVariables false
set_option linter.unusedSimpArgs false

end Go.Proofs.Ytalhpnfapagamaa.S
end
section
namespace Go.Proofs.Ytalhpnfapagamaa.S
open Go.RowKit Go.Proofs.YtalhpnfapagamaaW.PrintWords Go.Proofs.YtalhpnfapagamaaW.PrintLast Go.Proofs.YtalhpnfapagamaaW.PrintMore
set_option linter.unusedVariables false
set_option linter.unusedSimpArgs false

end Go.Proofs.Ytalhpnfapagamaa.S
end
