-- Written by this session's own program over the kit's printer, with hand-made contracts, then mended by hand. Lean checks it.
import Derived.Test.YtalhpnfapagamaaF0
import Derived.Test.YtalhpnfapagamaaF2
namespace Go.Proofs.Ytalhpnfapagamaa.C
open Go.RowKit Go.Proofs.YtalhpnfapagamaaW.PrintWords Go.Proofs.YtalhpnfapagamaaW.PrintLast Go.Proofs.YtalhpnfapagamaaW.PrintMore
attribute [local go_sem] max2_int min2_int max_two min_two max_three min_three max_four min_four   -- for this text's walks alone
set_option linter.unusedVariables false
set_option linter.unusedSimpArgs false

/-! ### contrast_Of: function 19 -/
section
open Go.Shelf Go.Proofs.YtalhpnfapagamaaH
attribute [local go_sem] Oper.semAt_some
theorem new_at (W : World) (o : Obj) (g : Nat) (h : W.heap.size = g) : (W.alloc o).heap[g]? = some o := by subst h; exact heap_alloc_new W o
/-- A square of a map. -/
abbrev Sq (l : List (List Int)) : Type := { x : Nat × Nat // x.1 < l.length ∧ x.2 < (rd_L1 l x.1).length }
abbrev sqEnc {l : List (List Int)} (x : Sq l) : Array Value := #[.int .i64 (x.1.1 : Int), .int .i64 (x.1.2 : Int)]
/-- The squares of row i whose column is below k. -/
def sqRow (l : List (List Int)) (i : Nat) (hi : i < l.length) : (k : Nat) → k ≤ (rd_L1 l i).length → List (Sq l)
  | 0, _ => []
  | k + 1, h => sqRow l i hi k (by omega) ++ [⟨(i, k), hi, h⟩]
def sqUpto (l : List (List Int)) : (i : Nat) → i ≤ l.length → List (Sq l)
  | 0, _ => []
  | i + 1, h => sqUpto l i (by omega) ++ sqRow l i (by omega) (rd_L1 l i).length (Nat.le_refl _)
def sqAll (l : List (List Int)) : List (Sq l) := sqUpto l l.length (Nat.le_refl _)

theorem sqRow_length (l : List (List Int)) (i : Nat) (hi : i < l.length) : ∀ (k : Nat) (h : k ≤ (rd_L1 l i).length), (sqRow l i hi k h).length = k
  | 0, _ => rfl
  | k + 1, h => by simp [sqRow, sqRow_length l i hi k]
theorem sqUpto_le (l : List (List Int)) : ∀ (d i : Nat) (h : i + d ≤ l.length), (sqUpto l i (by omega)).length ≤ (sqUpto l (i + d) h).length
  | 0, _, _ => Nat.le_refl _
  | d + 1, i, h => by
    have := sqUpto_le l d i (by omega)
    show _ ≤ (sqUpto l (i + d) (by omega) ++ sqRow l (i + d) (by omega) _ (Nat.le_refl _)).length
    rw [List.length_append]
    omega
theorem sq_lt (l : List (List Int)) (k q : Nat) (hk : k < l.length) (hq : q < (rd_L1 l k).length) : (sqUpto l k (by omega) ++ sqRow l k hk q (by omega)).length < (sqAll l).length := by
  have h := sqUpto_le l (l.length - (k + 1)) (k + 1) (by omega)
  have e : k + 1 + (l.length - (k + 1)) = l.length := by omega
  simp only [sqUpto, List.length_append, sqRow_length] at h ⊢
  have h2 : (sqUpto l (k + 1 + (l.length - (k + 1))) (by omega)).length = (sqAll l).length := by unfold sqAll; congr 1; congr 1
  omega

set_option maxHeartbeats 1000000 in
theorem squares_calls (F : Fence) (n : Nat) (h44 : F.fn 44) (hro : F.round = none) (a : Option Addr) (len cap : Nat) (w : World) :
    CallsIn F n Try.prog 44 #[.slice a len cap] w fun e w' => e = .returned (.func (.func 63) #[] #[.pointer (some ⟨w.heap.size, 0, none⟩)]) ∧ w' = w.alloc (.cells #[.slice a len cap] 23) := by
  refine callsIn_of_wp Try.func44 rfl h44 ?_ hro
  simp only [Try.ntmps44, List.size_toArray, List.length_cons, List.length_nil, Nat.reduceAdd, Nat.reduceSub, Array.replicate_succ, Array.replicate_zero, List.push_toArray, List.append_toArray, List.nil_append, List.cons_append]
  gi_wp2
  go_ret
  exact ⟨rfl, rfl⟩

set_option maxRecDepth 100000 in
set_option maxHeartbeats 4000000 in
theorem squares1_in (F : Fence) (n : Nat) (h63 : F.fn 63) (hro : F.round = none) (hn : 1 ≤ n) (l Bs n₀ : Nat) (A : Option Addr) (cap : Nat) (m : List (List Int)) (w0 : World) (hn0 : n₀ = w0.heap.size) (hC : Kd.C (Kd.slice 3 (Kd.int .i64)) w0 A m.length m)
    (J Jx : List (Sq m) → World → Prop)
    (hY : ∀ pre x W, J pre W → pre.length < (sqAll m).length → YieldAt F (n - 1) Try.prog l (sqEnc x) W fun e W' =>
      (e = .returned (.bool true) ∧ J (pre ++ [x]) W' ∧ Below n₀ W W') ∨ (e = .returned (.bool false) ∧ Jx (pre ++ [x]) W'))
    (W : World) (hB : Below n₀ w0 W) (hBs : W.cell? ⟨Bs, 0, none⟩ = some (.slice A m.length cap)) (h0 : J [] W) :
    CallsIn F n Try.prog 63 #[.func (.yield l) #[] #[], .pointer (some ⟨Bs, 0, none⟩)] W fun e W' => (∃ v, e = .returned v) ∧
      ((∃ ys, ys = sqAll m ∧ J ys W') ∨ (∃ pre, True ∧ Jx pre W')) := by
  subst hn0
  have hmax := Kd.C_max hC
  refine callsIn_of_wp Try.func63 rfl h63 ?_ hro
  simp only [Try.ntmps63, List.size_toArray, List.length_cons, List.length_nil, Nat.reduceAdd, Nat.reduceSub, Array.replicate_succ, Array.replicate_zero, List.push_toArray, List.append_toArray, List.nil_append, List.cons_append]
  gi_wp2
  gi_loopw [3, 4, 5, 8] (fun _ _ _ i wr => ∃ (k : Nat) (hk : k ≤ m.length), i = .int .i64 k ∧ J (sqUpto m k hk) wr ∧ Below w0.heap.size w0 wr)
    (fun _ _ _ i _ => m.length - (intOf i).toNat)
  case atStart => exact ⟨0, Nat.zero_le _, rfl, h0, hB⟩
  case round =>
    obtain ⟨k, hk, rfl, hJs, hnx⟩ := hrel
    by_cases hlt : k < m.length
    · obtain ⟨ad, A0, c0, rfl, hcell, hlen, hC0⟩ := at_L1 (Kd.C_below hC hnx) (k : Int) (by omega) (by omega)
      have hcell' : wr.cell? (ad.add k) = some (.slice A0 (rd_L1 m k).length c0) := by simpa using hcell
      have hin := Kd.C_max hC0
      obtain ⟨wo, rfl⟩ : ∃ wo : World, wo = wr := ⟨_, rfl⟩
      clear hcell
      gi_wp2
      gi_loopw [5, 15] (fun _ j wr => ∃ (q : Nat) (hq : q ≤ (rd_L1 m k).length), j = .int .i64 q ∧ J (sqUpto m k hk ++ sqRow m k hlt q hq) wr ∧ Below w0.heap.size w0 wr)
        (fun _ j _ => (rd_L1 m k).length - (intOf j).toNat)
      case atStart => exact ⟨0, Nat.zero_le _, rfl, by simpa [sqRow] using hJs, hnx⟩
      case round =>
        obtain ⟨q, hq, rfl, hJq, hnq⟩ := hrel
        by_cases hql : q < (rd_L1 m k).length
        · obtain ⟨fn, tmps, assign, body, hy, hR⟩ := hY _ ⟨(k, q), hlt, hql⟩ wr hJq (sq_lt m k q hlt hql)
          dsimp only [sqEnc] at hy
          gi_wp2
          refine hR.mono ?_
          rintro e W3 (⟨rfl, hJ3, hk3⟩ | ⟨rfl, hJx3⟩)
          · gi_wp2
            go_roundw
            case rel => exact ⟨q + 1, hql, by simp, by simpa [sqRow] using hJ3, hnq.trans hk3⟩
            case measure => simp [intOf]; omega
          · gi_wp2
            refine bodyPost_ret (results_none rfl _ _ _) rfl ?_
            exact ⟨⟨_, rfl⟩, .inr ⟨_, trivial, hJx3⟩⟩
        · obtain rfl : q = (rd_L1 m k).length := by omega
          gi_wp2
          go_roundw
          case rel => exact ⟨k + 1, hlt, by simp, by simpa [sqUpto] using hJq, hnq⟩
          case measure => simp [intOf]; omega
    · obtain rfl : k = m.length := by omega
      gi_wp2
      go_end0
      exact ⟨⟨_, rfl⟩, .inl ⟨_, rfl, hJs⟩⟩


/-- The iterator's contract. -/
theorem squares_stops (F : Fence) (n : Nat) (h63 : F.fn 63) (hro : F.round = none) (hn : 1 ≤ n) (Bs : Nat) (A : Option Addr) (cap : Nat) (m : List (List Int)) (w0 w : World) (hC : Kd.C (Kd.slice 3 (Kd.int .i64)) w0 A m.length m)
    (hB : Below w0.heap.size w0 w) (hlt : Bs < w.heap.size) (hBs : w.cell? ⟨Bs, 0, none⟩ = some (.slice A m.length cap)) :
    SeqStopsK F n Try.prog 63 #[.pointer (some ⟨Bs, 0, none⟩)] (sqEnc (l := m)) (Below w0.heap.size) (fun ys => ys = sqAll m) (fun _ => True) (sqAll m).length w := fun l J Jx W hW _ _ hY h0 =>
  squares1_in F n h63 hro hn l Bs w0.heap.size A cap m w0 rfl hC J Jx hY W (hB.trans (hW.mono hB.size)) ((hW.cell (p := ⟨Bs, 0, none⟩) hlt).trans hBs) h0

/-! ### the kinds' counts -/
def addT (p : Int × Int × Int) (a b : Int) : Int × Int × Int :=
  if a = 0 ∨ b = 0 then p else if a = 3 ∨ b = 3 then (p.1, wrap64 (p.2.1 + 1), p.2.2) else if a = b then (p.1, p.2.1, wrap64 (p.2.2 + 1)) else (wrap64 (p.1 + 1), p.2.1, p.2.2)
theorem add_some (p : Int × Int × Int) (a b : Int) : contrast_Pairs_add.f 3 p.1 p.2.1 p.2.2 a b = some ((addT p a b).1, (addT p a b).2.1, (addT p a b).2.2) := by
  unfold contrast_Pairs_add.f addT
  by_cases h0 : a = 0 <;> by_cases h1 : b = 0 <;> by_cases h2 : a = 3 <;> by_cases h3 : b = 3 <;> by_cases h4 : a = b <;> simp_all [contrast_Pairs_add.j0, contrast_Pairs_add.j1] <;> simp_all

def at2 (m : List (List Int)) (i j : Int) : Int := rd (rd_L1 m i) j
def stepOf (m : List (List Int)) (p : Int × Int × Int) (x : Sq m) : Int × Int × Int :=
  let i : Int := x.1.1
  let j : Int := x.1.2
  let p := if j + 1 < (rd_L1 m i).length then addT p (at2 m i j) (at2 m i (j + 1)) else p
  if i + 1 < m.length then (if j < (rd_L1 m (i + 1)).length then addT p (at2 m i j) (at2 m (i + 1) j) else p) else p
def contrast_Of.f (k : Nat) (l0 : List (List Int)) : Option (Int × Int × Int × Int) :=
  (window_Valid.f k l0).bind fun v => if v = true then (let p := (sqAll l0).foldl (stepOf l0) (0, 0, 0); some (p.1, p.2.1, p.2.2, 0)) else some (0, 0, 0, 1)
theorem add_succ (ad : Addr) (j : Nat) : ad.add (j + 1) = ⟨ad.block, ad.off + (j + 1), none⟩ := by unfold Addr.add; rw [if_neg (by omega)]
theorem blk_own {W W' : World} {row : Option Nat} {g B : Nat} {cs : Array Value} {t : TypeId} (h : W.heap[g]? = some (.cells cs t (0, 0))) (hg : W.grownBy W' row) (hr : ∀ r, row = some r → B ≤ r ∧ ∃ o : Obj, W.heap[r]? = some o ∧ o.isCells = false) : W'.heap[g]? = some (.cells cs t (0, 0)) :=
  blk_grown h hg (fun e => by obtain ⟨_, o, ho, hc⟩ := hr g e.symm; rw [h] at ho; cases ho; cases hc)
theorem keepsFrom_of_keepBut {W W' : World} {g B : Nat} {cs : Array Value} {t : TypeId} (h : W.heap[g]? = some (.cells cs t (0, 0))) (hk : KeepBut W W' g none) : KeepsFrom B W W' :=
  ⟨hk.1, fun k o _ hko hc => by rw [hk.2 k (Array.getElem?_eq_some_iff.1 hko).1 (fun e => by subst e; rw [h] at hko; cases hko; cases hc) (by simp)]; exact hko⟩

theorem keepsFrom_up {B B' : Nat} {W W' : World} (h : KeepsFrom B W W') (hb : B ≤ B') : KeepsFrom B' W W' := ⟨h.size, fun k o hk => h.same k o (Nat.le_trans hb hk)⟩
theorem below_of_keepBut {w W W' : World} {g : Nat} (hB : Below w.heap.size w W) (hB' : Below w.heap.size w W') (hk : KeepBut W W' g none) : Below w.heap.size W W' :=
  ⟨hB'.os.trans hB.os.symm, hB'.tape.trans hB.tape.symm, hB'.output.trans hB.output.symm, hk.1, fun i hi => (hB'.block i hi).trans (hB.block i hi).symm⟩

/-- What holds between two rounds. -/
def OfInv (w : World) (l0 : List (List Int)) (A0 : Option Addr) (c0 : Nat) (pre : List (Sq l0)) (W : World) : Prop :=
  (W.heap[w.heap.size]? = some (.cells #[.slice A0 l0.length c0] 23 (0, 0)) ∧ W.heap[w.heap.size + 1]? = some (.cells #[.int .i64 0, .int .i64 0, .int .i64 0] 36 (0, 0)) ∧
   W.heap[w.heap.size + 1 + 1]? = some (.cells #[.int .i64 (pre.foldl (stepOf l0) (0, 0, 0)).1, .int .i64 (pre.foldl (stepOf l0) (0, 0, 0)).2.1, .int .i64 (pre.foldl (stepOf l0) (0, 0, 0)).2.2] 36 (0, 0))) ∧ Below w.heap.size w W
theorem OfInv.own (w : World) (l0 : List (List Int)) (A0 : Option Addr) (c0 B : Nat) (hB : w.heap.size ≤ B) : OwnFrom B (OfInv w l0 A0 c0) :=
  OwnFrom.and (fun _ _ _ _ hs hg hr => ⟨blk_own hs.1 hg hr, blk_own hs.2.1 hg hr, blk_own hs.2.2 hg hr⟩) (ownFrom_below (Nat.le_refl _) hB)

set_option maxRecDepth 100000 in
set_option maxHeartbeats 4000000 in
theorem contrast_Of.yes (A0 : Option Addr) (c0 : Nat) (l0 : List (List Int)) (k : Nat) (hv : window_Valid.f k l0 = some true) (hrect : ∀ i : Nat, i < l0.length → (rd_L1 l0 i).length = (rd_L1 l0 0).length) (w : World) (hr0 : Kd.C (Kd.slice 3 (Kd.int .i64)) w A0 l0.length l0) (hc0 : l0.length ≤ c0) :
    Calls Try.prog 19 #[.slice A0 l0.length c0] w fun e w' => e = .returned (.tuple #[.agg #[.int .i64 ((sqAll l0).foldl (stepOf l0) (0, 0, 0)).1, .int .i64 ((sqAll l0).foldl (stepOf l0) (0, 0, 0)).2.1, .int .i64 ((sqAll l0).foldl (stepOf l0) (0, 0, 0)).2.2], .int .i64 0]) ∧ Below w.heap.size w w' := by
  refine (callsIn_wide (n := 5)).1 ?_
  refine callsIn_of_wp_marks Try.func19 rfl trivial ?_ rfl
  simp only [Try.ntmps19, List.size_toArray, List.length_cons, List.length_nil, Nat.reduceAdd, Nat.reduceSub, Array.replicate_succ, Array.replicate_zero, List.push_toArray, List.append_toArray, List.nil_append, List.cons_append]
  have hC1 : Kd.C (Kd.slice 3 (Kd.int .i64)) ((w.alloc (.cells #[.slice A0 l0.length c0] 23)).alloc (.cells #[.int .i64 0, .int .i64 0, .int .i64 0] 36)) A0 l0.length l0 := Kd.C_alloc (Kd.C_alloc hr0 _) _
  have HV := Aside0.mk hv
  have HC := Aside0.mk hr0
  have HC1 := Aside0.mk hC1
  have HRect := Aside0.mk hrect
  clear hv hr0 hC1 hrect
  gi_wp2_with (first | (refine ⟨trivial, ?_⟩; gi_at_call 43; refine (callsIn_wide.2 (window_Valid.calls k A0 c0 l0 true _ HC1.out hc0 HV.out)).mono ?_; rintro e w' ⟨rfl, ⟨nd, rfl⟩⟩) | (refine ⟨trivial, ?_⟩; gi_at_call 44; refine (squares_calls Fence.wide _ trivial rfl _ _ _ _).mono ?_; rintro e w' ⟨rfl, rfl⟩))
  clear HC1
  refine wpIn_rangeFunc_ownG (w0 := _) rfl (by omega) (gf := 63) (lb := #[.pointer (some ⟨w.heap.size + 1 + 1 + 1, 0, none⟩)]) rfl trivial (enters_of Try.func63 (by kernel_rfl) rfl)
    (squares_stops Fence.wide _ trivial rfl (by omega) (w.heap.size + 1 + 1 + 1) A0 c0 l0 w _ HC.out (by repeat (first | exact Below.refl _ _ | apply below_alloc | apply pw_below_drewN)) (by simp) (by first | simp | go_simp)) belowK_t (belowK_b (by simp; omega)) (Below.refl _ _) (fun _ => rfl)
    (OfInv w l0 A0 c0) (fun _ _ _ => False) (OfInv.own w l0 A0 c0 _ (by simp; omega)) (fun _ _ _ _ _ hs _ _ => hs)
    ?start
    (fun x => { tmps := #[.slice A0 l0.length c0, .pointer (some ⟨w.heap.size, 0, none⟩), .pointer (some ⟨w.heap.size + 1, 0, none⟩), .int .i64 0, .pointer (some ⟨w.heap.size + 1 + 1, 0, none⟩), .int .i64 (x.1.1 : Int), .int .i64 (x.1.2 : Int), .slice A0 l0.length c0, .bool true, .bool false, undef, .slice A0 l0.length c0, .func (.func 63) #[] #[.pointer (some ⟨w.heap.size + 1 + 1 + 1, 0, none⟩)], .int .i64 (x.1.1 : Int), .int .i64 (x.1.2 : Int), undef, undef, undef, undef, undef, undef, undef, undef, undef, undef, undef, undef, undef, undef, undef, undef, undef, undef, undef, undef, undef, undef, undef, undef, undef, undef, undef, undef, undef, undef, undef, undef, undef, undef, undef, undef, undef, undef, undef, undef, undef, undef, undef, undef, undef, undef], defers := [] }) ?assign ?body ?done ?stop
  case start =>
    refine ⟨⟨?_, ?_, ?_⟩, by repeat (first | exact Below.refl _ _ | apply below_alloc | apply pw_below_drewN)⟩
    · refine blk_alloc (blk_alloc (blk_drewN (blk_alloc (by simpa using heap_alloc_new w _) _) _) _) _
    · refine blk_alloc (blk_alloc (blk_drewN (by simpa using heap_alloc_new (w.alloc _) _) _) _) _
    · refine blk_alloc ?_ _
      have := heap_alloc_new (((w.alloc (.cells #[.slice A0 l0.length c0] 23)).alloc (.cells #[.int .i64 0, .int .i64 0, .int .i64 0] 36)).drewN nd) (.cells #[.int .i64 0, .int .i64 0, .int .i64 0] 36)
      have e : (((w.alloc (.cells #[.slice A0 l0.length c0] 23)).alloc (.cells #[.int .i64 0, .int .i64 0, .int .i64 0] 36)).drewN nd).heap.size = w.heap.size + 1 + 1 := by simp [World.drewN]
      rw [e] at this
      exact this
  case assign =>
    intro l x W K hK
    gi_wp2
    exact hK
  case body =>
    have hmx : Try.prog.follows .mixedOrders = true := by kernel_rfl
    rintro l pre ⟨⟨i, j⟩, hi, hj⟩ W ⟨⟨hb0, hb1, hb2⟩, hB⟩ _
    dsimp only at hi hj
    have C := Kd.C_below HC.out hB
    have cz := (blk_cell hb0 0).trans rfl
    have hmax := Kd.C_max C
    obtain ⟨ad, Ai, ci, e0, hci, hle, Ci⟩ := at_L1 C (i : Int) (by omega) (by omega)
    obtain ⟨adi, e1, hcij⟩ := Kd.at_int Ci (j : Int) (by omega) (by omega)
    have hmaxi := Kd.C_max Ci
    subst e0 e1
    simp only [Int.toNat_natCast] at hci hcij
    by_cases h1 : (j : Int) + 1 < (rd_L1 l0 i).length
    · obtain ⟨adi', e1', hcij1⟩ := Kd.at_int Ci ((j : Int) + 1) (by omega) (by omega)
      cases e1'
      simp only [show ((j : Int) + 1).toNat = j + 1 from by omega, add_succ] at hcij1
      have s1 : IntKind.i64.wrap ((j : Int) + 1) = (j : Int) + 1 := IntWalk.i64_in _ (by omega)
      have s2 : (0 : Int) ≤ (j : Int) + 1 := by omega
      have s3 : ((j : Int) + 1).toNat = j + 1 := by omega
      clear C Ci
      gi_wp2
      refine wpIn_round_still_tail 15 hmx (by kernel_rfl) (by kernel_rfl) (fun ⟨_, _, h⟩ => h) ?_
      simp only [List.take_succ_cons, List.take_zero, List.drop_succ_cons, List.drop_zero]
      repeat still_step
      refine wpStill_nil ?_
      go_wp2_with fail
      refine (contrast_Pairs_add.calls 3 (w.heap.size + 1 + 1) _ _ _ _ _ _ _ _ w W.drew (by exact ⟨hb2, by omega⟩) (by exact below_drew hB) (add_some (pre.foldl (stepOf l0) (0, 0, 0)) _ _)).mono ?_
      rintro e w1 ⟨rfl, hI_w1, hB_w1, hK_w1⟩
      try go_wp2_with fail
      have hb0v := hK_w1.blk (g' := w.heap.size) hb0 (by omega) (by simp)
      have hb1v := hK_w1.blk (g' := w.heap.size + 1) hb1 (by omega) (by simp)
      have hb2v : w1.heap[w.heap.size + 1 + 1]? = some (.cells #[.int .i64 (addT (pre.foldl (stepOf l0) (0, 0, 0)) (at2 l0 i j) (at2 l0 i ((j : Int) + 1))).1, .int .i64 (addT (pre.foldl (stepOf l0) (0, 0, 0)) (at2 l0 i j) (at2 l0 i ((j : Int) + 1))).2.1, .int .i64 (addT (pre.foldl (stepOf l0) (0, 0, 0)) (at2 l0 i j) (at2 l0 i ((j : Int) + 1))).2.2] 36 (0, 0)) := hI_w1.1
      have kp1 : KeepsFrom w.heap.size W w1 := ((KeepsOthers.drew W).from _).trans (keepsFrom_of_keepBut (W := W.drew) hb2 hK_w1)
      have bl1 : Below w.heap.size W w1 := (below_drew (Below.refl _ W)).trans <| below_of_keepBut (by exact below_drew hB) hB_w1 hK_w1
      clear hci hcij hcij1 cz hb0 hb1 hb2 s1 s2 s3 hI_w1 hK_w1
      by_cases h2 : (i : Int) + 1 < l0.length
      · have CV := Kd.C_below HC.out hB_w1
        have czV := (blk_cell hb0v 0).trans rfl
        obtain ⟨adV, AV, cV, e0V, hciV, hleV, CiV⟩ := at_L1 CV (i : Int) (by omega) (by omega)
        obtain ⟨adiV, e1V, hcijV⟩ := Kd.at_int CiV (j : Int) (by omega) (by omega)
        cases e0V
        subst e1V
        simp only [Int.toNat_natCast] at hciV hcijV
        have hr2 := HRect.out (i + 1) (by omega)
        have hr1 := HRect.out i (by omega)
        have hj2 : (j : Int) < (rd_L1 l0 ((i : Int) + 1)).length := by rw [show ((i : Int) + 1) = ((i + 1 : Nat) : Int) from rfl, hr2]; omega
        obtain ⟨adW, AW, cW, e0W, hciW, hleW, CiW⟩ := at_L1 CV ((i : Int) + 1) (by omega) (by omega)
        obtain ⟨adiW, e1W, hcijW⟩ := Kd.at_int CiW (j : Int) (by omega) (by omega)
        cases e0W
        subst e1W
        simp only [show ((i : Int) + 1).toNat = i + 1 from by omega, add_succ] at hciW
        simp only [Int.toNat_natCast] at hcijW
        have hst : Aside0 ((pre ++ [(⟨(i, j), hi, hj⟩ : Sq l0)]).foldl (stepOf l0) (0, 0, 0) = addT (addT (pre.foldl (stepOf l0) (0, 0, 0)) (at2 l0 i j) (at2 l0 i ((j : Int) + 1))) (at2 l0 i j) (at2 l0 ((i : Int) + 1) j)) := ⟨by simp [List.foldl_append, stepOf, h1, h2, hj2]⟩
        have t1 : IntKind.i64.wrap ((i : Int) + 1) = (i : Int) + 1 := IntWalk.i64_in _ (by omega)
        have t2 : (0 : Int) ≤ (i : Int) + 1 := by omega
        have t3 : ((i : Int) + 1).toNat = i + 1 := by omega
        clear CV CiV CiW hr1 hr2
        gi_wp2
        refine wpIn_round_still_tail 15 hmx (by kernel_rfl) (by kernel_rfl) (fun ⟨_, _, h⟩ => h) ?_
        simp only [List.take_succ_cons, List.take_zero, List.drop_succ_cons, List.drop_zero]
        repeat still_step
        refine wpStill_nil ?_
        go_wp2_with fail
        refine (contrast_Pairs_add.calls 3 (w.heap.size + 1 + 1) _ _ _ _ _ _ _ _ w w1.drew (by exact ⟨hb2v, by omega⟩) (by exact below_drew hB_w1) (add_some (addT (pre.foldl (stepOf l0) (0, 0, 0)) (at2 l0 i j) (at2 l0 i ((j : Int) + 1))) _ _)).mono ?_
        rintro e w2 ⟨rfl, hI_w2, hB_w2, hK_w2⟩
        try go_wp2_with fail
        gi_wp2
        have hb0' := hK_w2.blk (g' := w.heap.size) hb0v (by omega) (by simp)
        have hb1' := hK_w2.blk (g' := w.heap.size + 1) hb1v (by omega) (by simp)
        exact ⟨(keepsFrom_up kp1 (by first | omega | (simp; omega) | (go_simp; omega))).trans ((KeepsOthers.drew _).from _ |>.trans (keepsFrom_of_keepBut (W := w1.drew) hb2v hK_w2)), bl1.trans ((below_drew (Below.refl _ w1)).trans (below_of_keepBut (W := w1.drew) (below_drew hB_w1) hB_w2 hK_w2)), ⟨hb0', hb1', by rw [hst.out]; exact hI_w2.1⟩, hB_w2⟩
      · have hst : Aside0 ((pre ++ [(⟨(i, j), hi, hj⟩ : Sq l0)]).foldl (stepOf l0) (0, 0, 0) = (addT (pre.foldl (stepOf l0) (0, 0, 0)) (at2 l0 i j) (at2 l0 i ((j : Int) + 1)))) := ⟨by simp [List.foldl_append, stepOf, h1, h2]⟩
        have czV := (blk_cell hb0v 0).trans rfl
        gi_wp2
        exact ⟨(keepsFrom_up kp1 (by first | omega | (simp; omega) | (go_simp; omega))), bl1, ⟨hb0v, hb1v, by rw [hst.out]; exact hb2v⟩, hB_w1⟩
    · have CV := C
      clear C Ci
      by_cases h2 : (i : Int) + 1 < l0.length
      · have hr2 := HRect.out (i + 1) (by omega)
        have hr1 := HRect.out i (by omega)
        have hj2 : (j : Int) < (rd_L1 l0 ((i : Int) + 1)).length := by rw [show ((i : Int) + 1) = ((i + 1 : Nat) : Int) from rfl, hr2]; omega
        obtain ⟨adW, AW, cW, e0W, hciW, hleW, CiW⟩ := at_L1 CV ((i : Int) + 1) (by omega) (by omega)
        obtain ⟨adiW, e1W, hcijW⟩ := Kd.at_int CiW (j : Int) (by omega) (by omega)
        cases e0W
        subst e1W
        simp only [show ((i : Int) + 1).toNat = i + 1 from by omega, add_succ] at hciW
        simp only [Int.toNat_natCast] at hcijW
        have hst : Aside0 ((pre ++ [(⟨(i, j), hi, hj⟩ : Sq l0)]).foldl (stepOf l0) (0, 0, 0) = addT (pre.foldl (stepOf l0) (0, 0, 0)) (at2 l0 i j) (at2 l0 ((i : Int) + 1) j)) := ⟨by simp [List.foldl_append, stepOf, h1, h2, hj2]⟩
        have t1 : IntKind.i64.wrap ((i : Int) + 1) = (i : Int) + 1 := IntWalk.i64_in _ (by omega)
        have t2 : (0 : Int) ≤ (i : Int) + 1 := by omega
        have t3 : ((i : Int) + 1).toNat = i + 1 := by omega
        clear CV CiW hr1 hr2
        gi_wp2
        refine wpIn_round_still_tail 15 hmx (by kernel_rfl) (by kernel_rfl) (fun ⟨_, _, h⟩ => h) ?_
        simp only [List.take_succ_cons, List.take_zero, List.drop_succ_cons, List.drop_zero]
        repeat still_step
        refine wpStill_nil ?_
        go_wp2_with fail
        refine (contrast_Pairs_add.calls 3 (w.heap.size + 1 + 1) _ _ _ _ _ _ _ _ w W.drew (by exact ⟨hb2, by omega⟩) (by exact below_drew hB) (add_some (pre.foldl (stepOf l0) (0, 0, 0)) _ _)).mono ?_
        rintro e w2 ⟨rfl, hI_w2, hB_w2, hK_w2⟩
        try go_wp2_with fail
        gi_wp2
        have hb0' := hK_w2.blk (g' := w.heap.size) hb0 (by omega) (by simp)
        have hb1' := hK_w2.blk (g' := w.heap.size + 1) hb1 (by omega) (by simp)
        exact ⟨(KeepsFrom.refl _ W).trans ((KeepsOthers.drew _).from _ |>.trans (keepsFrom_of_keepBut (W := W.drew) hb2 hK_w2)), (Below.refl w.heap.size W).trans ((below_drew (Below.refl _ W)).trans (below_of_keepBut (W := W.drew) (below_drew hB) hB_w2 hK_w2)), ⟨hb0', hb1', by rw [hst.out]; exact hI_w2.1⟩, hB_w2⟩
      · have hst : Aside0 ((pre ++ [(⟨(i, j), hi, hj⟩ : Sq l0)]).foldl (stepOf l0) (0, 0, 0) = (pre.foldl (stepOf l0) (0, 0, 0))) := ⟨by simp [List.foldl_append, stepOf, h1, h2]⟩
        have czV := (blk_cell hb0 0).trans rfl
        gi_wp2
        exact ⟨(KeepsFrom.refl _ W), (Below.refl w.heap.size W), ⟨hb0, hb1, by rw [hst.out]; exact hb2⟩, hB⟩
  case done =>
    rintro D ys W hD rfl ⟨⟨hb0, hb1, hb2⟩, hB⟩ hK
    have z0 : W.cell? ⟨w.heap.size + 1 + 1, 0, none⟩ = some (.int .i64 ((sqAll l0).foldl (stepOf l0) (0, 0, 0)).1) := (blk_cell hb2 0).trans rfl
    have z1 : W.cell? ⟨w.heap.size + 1 + 1, 1, none⟩ = some (.int .i64 ((sqAll l0).foldl (stepOf l0) (0, 0, 0)).2.1) := (blk_cell hb2 1).trans rfl
    have z2 : W.cell? ⟨w.heap.size + 1 + 1, 2, none⟩ = some (.int .i64 ((sqAll l0).foldl (stepOf l0) (0, 0, 0)).2.2) := (blk_cell hb2 2).trans rfl
    have y0 : W.cell? ⟨w.heap.size + 1, 0, none⟩ = some (.int .i64 0) := (blk_cell hb1 0).trans rfl
    have y1 : W.cell? ⟨w.heap.size + 1, 1, none⟩ = some (.int .i64 0) := (blk_cell hb1 1).trans rfl
    have y2 : W.cell? ⟨w.heap.size + 1, 2, none⟩ = some (.int .i64 0) := (blk_cell hb1 2).trans rfl
    have x0 := blk_frozen hb1 0
    have x1 := blk_frozen hb1 1
    have x2 := blk_frozen hb1 2
    have hD' : w.heap.size + 1 + 1 + 1 + 1 ≤ D := by
      have h := hD
      simp [World.drewN] at h
      omega
    clear hD
    gi_wp2
    have hK' := (((KeepsOthers.setCell W ⟨w.heap.size + 1, 0, none⟩ (.int .i64 ((sqAll l0).foldl (stepOf l0) (0, 0, 0)).1)).trans (KeepsOthers.setCell _ ⟨w.heap.size + 1, 1, none⟩ (.int .i64 ((sqAll l0).foldl (stepOf l0) (0, 0, 0)).2.1))).trans (KeepsOthers.setCell _ ⟨w.heap.size + 1, 2, none⟩ (.int .i64 ((sqAll l0).foldl (stepOf l0) (0, 0, 0)).2.2))).same D _ hK rfl
    refine ⟨by simp, .inl ⟨_, _, rfl, run_takeDeferred hK', ?_⟩⟩
    refine ⟨_, results_ct rfl _ _ (w.heap.size + 1) 36 #[.int .i64 ((sqAll l0).foldl (stepOf l0) (0, 0, 0)).1, .int .i64 ((sqAll l0).foldl (stepOf l0) (0, 0, 0)).2.1, .int .i64 ((sqAll l0).foldl (stepOf l0) (0, 0, 0)).2.2] (0, 0) _ rfl ?_ Try.underlying36 rfl (by kernel_rfl), rfl, ?_⟩
    · refine blk_grown ?_ (grownBy_putObj' _ D (.deferred none)) (by simp; omega)
      refine blk_put (cs := #[.int .i64 ((sqAll l0).foldl (stepOf l0) (0, 0, 0)).1, .int .i64 ((sqAll l0).foldl (stepOf l0) (0, 0, 0)).2.1, .int .i64 0]) ?_ 2 _ rfl
      refine blk_put (cs := #[.int .i64 ((sqAll l0).foldl (stepOf l0) (0, 0, 0)).1, .int .i64 0, .int .i64 0]) ?_ 1 _ rfl
      exact blk_put (cs := #[.int .i64 0, .int .i64 0, .int .i64 0]) hb1 0 _ rfl
    · exact (((hB.setCell (p := ⟨w.heap.size + 1, 0, none⟩) (by simp) _).setCell (p := ⟨w.heap.size + 1, 1, none⟩) (by simp) _).setCell (p := ⟨w.heap.size + 1, 2, none⟩) (by simp) _).trans (belowK_b (w := w) (Nat.le_refl _) _ D _ _ (by omega) hK' rfl rfl)
  case stop =>
    rintro D c pre W _ _ h _
    exact h.elim
/-- The map is a rectangle of kinds. -/
def validB (m : List (List Int)) : Bool :=
  decide (1 ≤ m.length) && decide (m.length ≤ 16) && m.all fun row => decide (row.length = (rd_L1 m 0).length) && decide (1 ≤ row.length) && decide (row.length ≤ 16) && row.all fun x => decide (0 ≤ x) && decide (x ≤ 3)

theorem rd_nat (xs : List Int) (i : Nat) : rd xs i = xs.getD i 0 := by simp [rd]
theorem rd_L1_nat (xs : List (List Int)) (i : Nat) : rd_L1 xs i = xs.getD i [] := by simp [rd_L1]
theorem wrap_succ {i : Nat} (h : i ≤ 9223372036854775806) : wrap64 ((i : Int) + 1) = ((i + 1 : Nat) : Int) := by unfold wrap64; omega

def rowB (m : List (List Int)) (row : List Int) : Bool := decide (row.length = (rd_L1 m 0).length) && decide (1 ≤ row.length) && decide (row.length ≤ 16) && row.all fun x => decide (0 ≤ x) && decide (x ≤ 3)

theorem wv_l1 (m : List (List Int)) (i : Nat) (row : List Int) (hrow : row.length ≤ 16) (rest : Bool) (hi : Ev (fun k => window_Valid.l0 k m m (m.length : Int) (wrap64 ((i : Int) + 1))) rest) :
    ∀ (d j : Nat), j + d = row.length → Ev (fun k => window_Valid.l1 k m m (m.length : Int) i row (row.length : Int) j) (((row.drop j).all fun x => decide (0 ≤ x) && decide (x ≤ 3)) && rest)
  | 0, j, h => by
    obtain rfl : j = row.length := by omega
    refine Ev.step (f := fun k => window_Valid.l0 k m m (m.length : Int) (wrap64 ((i : Int) + 1))) (fun k => ?_) (by simpa using hi)
    simp only [window_Valid.l1]; rw [if_neg (by omega)]
  | d + 1, j, h => by
    have hj : j < row.length := by omega
    have e : row.drop j = row[j] :: row.drop (j + 1) := List.drop_eq_getElem_cons hj
    have hr : rd row j = row[j] := by rw [rd_nat]; simp [hj]
    by_cases h1 : row[j] < 0
    · refine Ev.step (f := fun _ => some false) (fun k => ?_) (by rw [e, List.all_cons, decide_eq_false (show ¬ 0 ≤ row[j] by omega), Bool.false_and, Bool.false_and, Bool.false_and]; exact Ev.now _)
      simp only [window_Valid.l1]; rw [if_pos (by omega), if_pos (by omega), if_pos (by omega), hr, if_pos h1]
    · by_cases h2 : row[j] > 3
      · refine Ev.step (f := fun _ => some false) (fun k => ?_) (by rw [e, List.all_cons, decide_eq_false (show ¬ row[j] ≤ 3 by omega), Bool.and_false, Bool.false_and, Bool.false_and]; exact Ev.now _)
        simp only [window_Valid.l1]; rw [if_pos (by omega), if_pos (by omega), if_pos (by omega), hr, if_neg h1, if_pos h2]
      · refine Ev.step (f := fun k => window_Valid.l1 k m m (m.length : Int) i row (row.length : Int) ((j + 1 : Nat) : Int)) (fun k => ?_) (by rw [e, List.all_cons, decide_eq_true (show 0 ≤ row[j] by omega), decide_eq_true (show row[j] ≤ 3 by omega), Bool.true_and, Bool.true_and]; exact wv_l1 m i row hrow rest hi d (j + 1) (by omega))
        simp only [window_Valid.l1]; rw [if_pos (by omega), if_pos (by omega), if_pos (by omega), hr, if_neg h1, if_neg h2, wrap_succ (by omega)]

theorem wv_l0 (m : List (List Int)) (hm : m.length ≤ 16) : ∀ (d i : Nat), i + d = m.length → Ev (fun k => window_Valid.l0 k m m (m.length : Int) i) ((m.drop i).all (rowB m))
  | 0, i, h => by
    obtain rfl : i = m.length := by omega
    refine Ev.step (f := fun _ => some true) (fun k => ?_) (by simpa using Ev.now true)
    simp only [window_Valid.l0]; rw [if_neg (by omega)]
  | d + 1, i, h => by
    have hi : i < m.length := by omega
    have e : m.drop i = m[i] :: m.drop (i + 1) := List.drop_eq_getElem_cons hi
    have hr : rd_L1 m i = m[i] := by rw [rd_L1_nat]; simp [hi]
    have ih := wv_l0 m hm d (i + 1) (by omega)
    rw [e, List.all_cons]
    have j2t : Ev (fun k => window_Valid.j2 k m m[i] m (m.length : Int) i true) false := Ev.step (f := fun _ => some false) (fun k => by simp only [window_Valid.j2, if_true]) (Ev.now _)
    by_cases h1 : m[i].length = (rd_L1 m 0).length
    · by_cases h2 : m[i].length < 1
      · refine Ev.step (f := fun k => window_Valid.j2 k m m[i] m (m.length : Int) i true) (fun k => ?_) (by simpa [rowB, show ¬ 1 ≤ m[i].length by omega] using j2t)
        simp only [window_Valid.l0]; rw [if_pos (by omega), if_pos (by omega), if_pos (by omega), if_pos (by omega), hr, if_pos (by omega), if_pos (by omega)]
      · by_cases h3 : m[i].length > 16
        · refine Ev.step (f := fun k => window_Valid.j2 k m m[i] m (m.length : Int) i true) (fun k => ?_) (by simpa [rowB, show ¬ m[i].length ≤ 16 by omega] using j2t)
          simp only [window_Valid.l0]; rw [if_pos (by omega), if_pos (by omega), if_pos (by omega), if_pos (by omega), hr, if_pos (by omega), if_neg (by omega), decide_eq_true (by omega)]
        · refine Ev.step (f := fun k => window_Valid.j2 k m m[i] m (m.length : Int) i false) (fun k => ?_) ?_
          · simp only [window_Valid.l0]; rw [if_pos (by omega), if_pos (by omega), if_pos (by omega), if_pos (by omega), hr, if_pos (by omega), if_neg (by omega), decide_eq_false (by omega)]
          · refine Ev.step (f := fun k => window_Valid.l1 k m m (m.length : Int) i m[i] (m[i].length : Int) ((0 : Nat) : Int)) (fun k => by simp only [window_Valid.j2]; rw [if_neg (by simp)]; rfl) ?_
            have := wv_l1 m i m[i] (by omega) ((m.drop (i + 1)).all (rowB m)) (by rw [wrap_succ (by omega)]; exact ih) m[i].length 0 (by omega)
            simpa [rowB, h1, show 1 ≤ m[i].length by omega, show m[i].length ≤ 16 by omega, show 1 ≤ (rd_L1 m 0).length by omega, show (rd_L1 m 0).length ≤ 16 by omega] using this
    · refine Ev.step (f := fun k => window_Valid.j2 k m m[i] m (m.length : Int) i true) (fun k => ?_) (by simpa [rowB, h1] using j2t)
      simp only [window_Valid.l0]; rw [if_pos (by omega), if_pos (by omega), if_pos (by omega), if_pos (by omega), hr, if_neg (by omega)]

theorem window_valid_ev (m : List (List Int)) : Ev (fun k => window_Valid.f k m) (validB m) := by
  by_cases h1 : m.length < 1
  · refine Ev.congr (f := fun k => window_Valid.j0 k m true) (fun k => by unfold window_Valid.f; rw [if_pos (by omega)]) ?_
    refine Ev.step (f := fun _ => some false) (fun k => by simp only [window_Valid.j0, if_true]) (by simpa [validB, show ¬ 1 ≤ m.length by omega] using Ev.now false)
  · by_cases h2 : m.length > 16
    · refine Ev.congr (f := fun k => window_Valid.j0 k m true) (fun k => by unfold window_Valid.f; rw [if_neg (by omega), decide_eq_true (by omega)]) ?_
      refine Ev.step (f := fun _ => some false) (fun k => by simp only [window_Valid.j0, if_true]) (by simpa [validB, show ¬ m.length ≤ 16 by omega] using Ev.now false)
    · refine Ev.congr (f := fun k => window_Valid.j0 k m false) (fun k => by unfold window_Valid.f; rw [if_neg (by omega), decide_eq_false (by omega)]) ?_
      refine Ev.step (f := fun k => window_Valid.l0 k m m (m.length : Int) ((0 : Nat) : Int)) (fun k => by simp only [window_Valid.j0]; rw [if_neg (by simp)]; rfl) ?_
      have := wv_l0 m (by omega) m.length 0 (by omega)
      have e : validB m = m.all (rowB m) := by unfold validB; rw [decide_eq_true (by omega), decide_eq_true (by omega)]; rfl
      rw [e]
      simpa using this
theorem window_valid_is (m : List (List Int)) {k : Nat} {r : Bool} (h : window_Valid.f k m = some r) : r = validB m := by
  obtain ⟨K, hK⟩ := window_valid_ev m
  have h1 := hK (max K k) (Nat.le_max_left _ _)
  have h2 := at_rounds (fun j => window_Valid.mono m j) (Nat.le_max_right K k) h
  exact Option.some.inj (h2.symm.trans h1)
theorem validB_rows {m : List (List Int)} (h : validB m = true) : 1 ≤ m.length ∧ m.length ≤ 16 ∧ 1 ≤ (rd_L1 m 0).length ∧ (rd_L1 m 0).length ≤ 16 ∧ ∀ i : Nat, i < m.length → (rd_L1 m i).length = (rd_L1 m 0).length ∧ ∀ j : Nat, j < (rd_L1 m 0).length → 0 ≤ rd (rd_L1 m i) j ∧ rd (rd_L1 m i) j ≤ 3 := by
  unfold validB at h
  simp only [Bool.and_eq_true, decide_eq_true_eq, List.all_eq_true] at h
  obtain ⟨⟨h1, h2⟩, h3⟩ := h
  have key : ∀ i : Nat, i < m.length → (rd_L1 m i).length = (rd_L1 m 0).length ∧ 1 ≤ (rd_L1 m i).length ∧ (rd_L1 m i).length ≤ 16 ∧ ∀ x ∈ rd_L1 m i, 0 ≤ x ∧ x ≤ 3 := by
    intro i hi
    have e : rd_L1 m i = m[i] := by rw [rd_L1_nat]; simp [hi]
    rw [e]
    have := h3 m[i] (List.getElem_mem hi)
    exact ⟨this.1.1.1, this.1.1.2, this.1.2, this.2⟩
  have k0 := key 0 (by omega)
  refine ⟨h1, h2, k0.2.1, k0.2.2.1, fun i hi => ⟨(key i hi).1, fun j hj => ?_⟩⟩
  have := (key i hi).1
  rw [rd_nat]
  have hj' : j < (rd_L1 m i).length := by omega
  rw [List.getD_eq_getElem?_getD, List.getElem?_eq_getElem hj']
  exact (key i hi).2.2.2 _ (List.getElem_mem hj')
set_option maxRecDepth 100000 in
set_option maxHeartbeats 4000000 in
theorem contrast_Of.no (A0 : Option Addr) (c0 : Nat) (l0 : List (List Int)) (k : Nat) (hv : window_Valid.f k l0 = some false) (w : World) (hr0 : Kd.C (Kd.slice 3 (Kd.int .i64)) w A0 l0.length l0) (hc0 : l0.length ≤ c0) :
    Calls Try.prog 19 #[.slice A0 l0.length c0] w fun e w' => e = .returned (.tuple #[.agg #[.int .i64 0, .int .i64 0, .int .i64 0], .int .i64 1]) ∧ Below w.heap.size w w' := by
  have HC1 := Aside0.mk (Kd.C_alloc (Kd.C_alloc hr0 (.cells #[.slice A0 l0.length c0] 23)) (.cells #[.int .i64 0, .int .i64 0, .int .i64 0] 36))
  have HV := Aside0.mk hv
  clear hv hr0
  go_enter Try.func19, Try.ntmps19
  go_wp2_with (go_at_call 43; refine (window_Valid.calls k A0 c0 l0 false _ HC1.out hc0 HV.out).mono ?_; rintro e w' ⟨rfl, ⟨nd, rfl⟩⟩)
  refine bodyPost_ret (results_ct rfl _ _ (w.heap.size + 1) 36 #[.int .i64 0, .int .i64 0, .int .i64 0] (0, 0) _ rfl ?_ Try.underlying36 rfl (by kernel_rfl)) rfl ⟨rfl, ?_⟩
  · refine blk_put (cs := #[.int .i64 0, .int .i64 0, .int .i64 0]) ?_ 2 _ rfl
    refine blk_put (cs := #[.int .i64 0, .int .i64 0, .int .i64 0]) ?_ 1 _ rfl
    refine blk_put (cs := #[.int .i64 0, .int .i64 0, .int .i64 0]) ?_ 0 _ rfl
    repeat (first | (refine new_at _ _ _ ?_; simp [World.drewN]; done) | refine blk_alloc ?_ _ | refine blk_drewN ?_ _)
  · refine ((Below.setCell ?_ (p := ⟨w.heap.size + 1, 0, none⟩) (by simp <;> omega) _).setCell (p := ⟨w.heap.size + 1, 1, none⟩) (by simp <;> omega) _).setCell (p := ⟨w.heap.size + 1, 2, none⟩) (by simp <;> omega) _
    repeat (first | exact Below.refl _ _ | apply below_alloc | apply pw_below_drewN)

theorem contrast_Of.mono : ∀ a0 k, LeO (contrast_Of.f k a0) (contrast_Of.f (k + 1) a0) := fun a0 k => LeO.bind (window_Valid.mono a0 k) (fun _ => LeO.refl _)
theorem contrast_Of.calls (k : Nat) (A0 : Option Addr) (c0 : Nat) (l0 : List (List Int)) (r1 : Int) (r2 : Int) (r3 : Int) (r4 : Int) (w : World) (hr0 : Kd.C (Kd.slice 3 (Kd.int .i64)) w A0 l0.length l0) (hc0 : l0.length ≤ c0) (h : contrast_Of.f k l0 = some (r1, r2, r3, r4)) :
    Calls Try.prog 19 #[.slice A0 l0.length c0] w fun e w' => e = .returned (.tuple #[.agg #[.int .i64 r1, .int .i64 r2, .int .i64 r3], .int .i64 r4]) ∧ Below w.heap.size w w' := by
  unfold contrast_Of.f at h
  cases hv : window_Valid.f k l0 with
  | none => rw [hv] at h; simp at h
  | some b =>
    rw [hv] at h
    cases b with
    | true =>
      simp only [Option.bind_some, if_true, Option.some.injEq, Prod.mk.injEq] at h
      obtain ⟨rfl, rfl, rfl, rfl⟩ := h
      exact contrast_Of.yes A0 c0 l0 k hv (fun i hi => ((validB_rows (window_valid_is l0 hv).symm).2.2.2.2 i hi).1) w hr0 hc0
    | false =>
      simp at h
      obtain ⟨rfl, rfl, rfl, rfl⟩ := h
      exact contrast_Of.no A0 c0 l0 k hv w hr0 hc0

end

/-! ### contrast_Change: function 21 -/
section
open Go.Shelf Go.Proofs.YtalhpnfapagamaaH
attribute [local go_sem] Oper.semAt_some
theorem add_0 (ad : Addr) : ad.add 0 = ad := by unfold Addr.add; rw [if_pos rfl]
theorem wv_quiet {k : Nat} {A0 : Option Addr} {c0 : Nat} {l0 : List (List Int)} {r : Bool} {w : World} (h : window_Valid.f k l0 = some r) (hr0 : Kd.C (Kd.slice 3 (Kd.int .i64)) w A0 l0.length l0) (hc0 : l0.length ≤ c0) (n : Nat) :
    Calls Try.prog 43 #[.slice A0 l0.length c0] (w.drewN n) fun e w' => e = .returned (.bool r) ∧ ∃ m, w' = (w.drewN n).drewN m :=
  (window_Valid.calls k A0 c0 l0 r _ (Kd.C_drewN hr0 n) hc0 h).mono fun _ _ ⟨he, hd⟩ => ⟨he, hd.out⟩

set_option maxRecDepth 100000 in
set_option maxHeartbeats 4000000 in
theorem contrast_Change.no1 (A0 : Option Addr) (c0 : Nat) (l0 : List (List Int)) (A1 : Option Addr) (c1 : Nat) (l1 : List (List Int)) (k : Nat) (hv : window_Valid.f k l0 = some false) (w : World) (hr0 : Kd.C (Kd.slice 3 (Kd.int .i64)) w A0 l0.length l0) (hc0 : l0.length ≤ c0) (hr1 : Kd.C (Kd.slice 3 (Kd.int .i64)) w A1 l1.length l1) (hc1 : l1.length ≤ c1) :
    Calls Try.prog 21 #[.slice A0 l0.length c0, .slice A1 l1.length c1] w fun e w' => e = .returned (.tuple #[.agg #[.int .i64 0, .int .i64 0, .int .i64 0], .int .i64 1]) ∧ Below w.heap.size w w' := by
  have HC := Aside0.mk (Kd.C_alloc (Kd.C_alloc (Kd.C_alloc hr0 (.cells #[.slice A0 l0.length c0] 23)) (.cells #[.slice A1 l1.length c1] 23)) (.cells #[.int .i64 0, .int .i64 0, .int .i64 0] 36))
  have HD := Aside0.mk (Kd.C_alloc (Kd.C_alloc (Kd.C_alloc hr1 (.cells #[.slice A0 l0.length c0] 23)) (.cells #[.slice A1 l1.length c1] 23)) (.cells #[.int .i64 0, .int .i64 0, .int .i64 0] 36))
  have hblk : ((((w.alloc (.cells #[.slice A0 l0.length c0] 23)).alloc (.cells #[.slice A1 l1.length c1] 23))).alloc (.cells #[.int .i64 0, .int .i64 0, .int .i64 0] 36)).heap[w.heap.size + 1 + 1]? = some (.cells #[.int .i64 0, .int .i64 0, .int .i64 0] 36) := by
    have := heap_alloc_new ((w.alloc (.cells #[.slice A0 l0.length c0] 23)).alloc (.cells #[.slice A1 l1.length c1] 23)) (.cells #[.int .i64 0, .int .i64 0, .int .i64 0] 36)
    simpa using this
  have HBlk := Aside0.mk hblk
  clear hblk
  have HV := Aside0.mk hv
  clear hv
  clear hr0 hr1
  go_enter Try.func21, Try.ntmps21
  go_wp2
  go_quiet ((go_at_call 43; refine Calls.quiet_of (wv_quiet HV.out HC.out hc0 _)))
  go_wp2
  refine bodyPost_ret (results_ct rfl _ _ (w.heap.size + 1 + 1) 36 #[.int .i64 0, .int .i64 0, .int .i64 0] (0, 0) _ rfl ?_ Try.underlying36 rfl (by kernel_rfl)) rfl ⟨rfl, ?_⟩
  · refine blk_put (cs := #[.int .i64 0, .int .i64 0, .int .i64 0]) ?_ 2 _ rfl
    refine blk_put (cs := #[.int .i64 0, .int .i64 0, .int .i64 0]) ?_ 1 _ rfl
    refine blk_put (cs := #[.int .i64 0, .int .i64 0, .int .i64 0]) ?_ 0 _ rfl
    exact blk_drewN HBlk.out _
  · refine ((Below.setCell ?_ (p := ⟨w.heap.size + 1 + 1, 0, none⟩) (by simp <;> omega) _).setCell (p := ⟨w.heap.size + 1 + 1, 1, none⟩) (by simp <;> omega) _).setCell (p := ⟨w.heap.size + 1 + 1, 2, none⟩) (by simp <;> omega) _
    repeat (first | exact Below.refl _ _ | apply below_alloc | apply pw_below_drewN)

set_option maxRecDepth 100000 in
set_option maxHeartbeats 4000000 in
theorem contrast_Change.no2 (A0 : Option Addr) (c0 : Nat) (l0 : List (List Int)) (A1 : Option Addr) (c1 : Nat) (l1 : List (List Int)) (k : Nat) (hv : window_Valid.f k l0 = some true) (hv1 : window_Valid.f k l1 = some false) (w : World) (hr0 : Kd.C (Kd.slice 3 (Kd.int .i64)) w A0 l0.length l0) (hc0 : l0.length ≤ c0) (hr1 : Kd.C (Kd.slice 3 (Kd.int .i64)) w A1 l1.length l1) (hc1 : l1.length ≤ c1) :
    Calls Try.prog 21 #[.slice A0 l0.length c0, .slice A1 l1.length c1] w fun e w' => e = .returned (.tuple #[.agg #[.int .i64 0, .int .i64 0, .int .i64 0], .int .i64 1]) ∧ Below w.heap.size w w' := by
  have HC := Aside0.mk (Kd.C_alloc (Kd.C_alloc (Kd.C_alloc hr0 (.cells #[.slice A0 l0.length c0] 23)) (.cells #[.slice A1 l1.length c1] 23)) (.cells #[.int .i64 0, .int .i64 0, .int .i64 0] 36))
  have HD := Aside0.mk (Kd.C_alloc (Kd.C_alloc (Kd.C_alloc hr1 (.cells #[.slice A0 l0.length c0] 23)) (.cells #[.slice A1 l1.length c1] 23)) (.cells #[.int .i64 0, .int .i64 0, .int .i64 0] 36))
  have hblk : ((((w.alloc (.cells #[.slice A0 l0.length c0] 23)).alloc (.cells #[.slice A1 l1.length c1] 23))).alloc (.cells #[.int .i64 0, .int .i64 0, .int .i64 0] 36)).heap[w.heap.size + 1 + 1]? = some (.cells #[.int .i64 0, .int .i64 0, .int .i64 0] 36) := by
    have := heap_alloc_new ((w.alloc (.cells #[.slice A0 l0.length c0] 23)).alloc (.cells #[.slice A1 l1.length c1] 23)) (.cells #[.int .i64 0, .int .i64 0, .int .i64 0] 36)
    simpa using this
  have HBlk := Aside0.mk hblk
  clear hblk
  have HV := Aside0.mk hv
  have HV1 := Aside0.mk hv1
  clear hv hv1
  clear hr0 hr1
  go_enter Try.func21, Try.ntmps21
  go_wp2
  go_quiet ((first | (go_at_call 43; with_reducible refine Calls.quiet_of (wv_quiet HV.out HC.out hc0 _)) | (go_at_call 43; with_reducible refine Calls.quiet_of (wv_quiet HV1.out HD.out hc1 _))))
  go_wp2
  refine bodyPost_ret (results_ct rfl _ _ (w.heap.size + 1 + 1) 36 #[.int .i64 0, .int .i64 0, .int .i64 0] (0, 0) _ rfl ?_ Try.underlying36 rfl (by kernel_rfl)) rfl ⟨rfl, ?_⟩
  · refine blk_put (cs := #[.int .i64 0, .int .i64 0, .int .i64 0]) ?_ 2 _ rfl
    refine blk_put (cs := #[.int .i64 0, .int .i64 0, .int .i64 0]) ?_ 1 _ rfl
    refine blk_put (cs := #[.int .i64 0, .int .i64 0, .int .i64 0]) ?_ 0 _ rfl
    exact blk_drewN HBlk.out _
  · refine ((Below.setCell ?_ (p := ⟨w.heap.size + 1 + 1, 0, none⟩) (by simp <;> omega) _).setCell (p := ⟨w.heap.size + 1 + 1, 1, none⟩) (by simp <;> omega) _).setCell (p := ⟨w.heap.size + 1 + 1, 2, none⟩) (by simp <;> omega) _
    repeat (first | exact Below.refl _ _ | apply below_alloc | apply pw_below_drewN)

set_option maxRecDepth 100000 in
set_option maxHeartbeats 4000000 in
theorem contrast_Change.no3 (A0 : Option Addr) (c0 : Nat) (l0 : List (List Int)) (A1 : Option Addr) (c1 : Nat) (l1 : List (List Int)) (k : Nat) (hv : window_Valid.f k l0 = some true) (hv1 : window_Valid.f k l1 = some true) (hne : l0.length ≠ l1.length) (w : World) (hr0 : Kd.C (Kd.slice 3 (Kd.int .i64)) w A0 l0.length l0) (hc0 : l0.length ≤ c0) (hr1 : Kd.C (Kd.slice 3 (Kd.int .i64)) w A1 l1.length l1) (hc1 : l1.length ≤ c1) :
    Calls Try.prog 21 #[.slice A0 l0.length c0, .slice A1 l1.length c1] w fun e w' => e = .returned (.tuple #[.agg #[.int .i64 0, .int .i64 0, .int .i64 0], .int .i64 1]) ∧ Below w.heap.size w w' := by
  have HC := Aside0.mk (Kd.C_alloc (Kd.C_alloc (Kd.C_alloc hr0 (.cells #[.slice A0 l0.length c0] 23)) (.cells #[.slice A1 l1.length c1] 23)) (.cells #[.int .i64 0, .int .i64 0, .int .i64 0] 36))
  have HD := Aside0.mk (Kd.C_alloc (Kd.C_alloc (Kd.C_alloc hr1 (.cells #[.slice A0 l0.length c0] 23)) (.cells #[.slice A1 l1.length c1] 23)) (.cells #[.int .i64 0, .int .i64 0, .int .i64 0] 36))
  have hblk : ((((w.alloc (.cells #[.slice A0 l0.length c0] 23)).alloc (.cells #[.slice A1 l1.length c1] 23))).alloc (.cells #[.int .i64 0, .int .i64 0, .int .i64 0] 36)).heap[w.heap.size + 1 + 1]? = some (.cells #[.int .i64 0, .int .i64 0, .int .i64 0] 36) := by
    have := heap_alloc_new ((w.alloc (.cells #[.slice A0 l0.length c0] 23)).alloc (.cells #[.slice A1 l1.length c1] 23)) (.cells #[.int .i64 0, .int .i64 0, .int .i64 0] 36)
    simpa using this
  have HBlk := Aside0.mk hblk
  clear hblk
  have HV := Aside0.mk hv
  have HV1 := Aside0.mk hv1
  clear hv hv1
  have hb : (((l0.length : Nat) : Int) != ((l1.length : Nat) : Int)) = true := bne_iff_ne.mpr (by omega)
  clear hr0 hr1
  go_enter Try.func21, Try.ntmps21
  go_wp2
  go_quiet ((first | (go_at_call 43; with_reducible refine Calls.quiet_of (wv_quiet HV.out HC.out hc0 _)) | (go_at_call 43; with_reducible refine Calls.quiet_of (wv_quiet HV1.out HD.out hc1 _))))
  go_wp2
  refine bodyPost_ret (results_ct rfl _ _ (w.heap.size + 1 + 1) 36 #[.int .i64 0, .int .i64 0, .int .i64 0] (0, 0) _ rfl ?_ Try.underlying36 rfl (by kernel_rfl)) rfl ⟨rfl, ?_⟩
  · refine blk_put (cs := #[.int .i64 0, .int .i64 0, .int .i64 0]) ?_ 2 _ rfl
    refine blk_put (cs := #[.int .i64 0, .int .i64 0, .int .i64 0]) ?_ 1 _ rfl
    refine blk_put (cs := #[.int .i64 0, .int .i64 0, .int .i64 0]) ?_ 0 _ rfl
    exact blk_drewN HBlk.out _
  · refine ((Below.setCell ?_ (p := ⟨w.heap.size + 1 + 1, 0, none⟩) (by simp <;> omega) _).setCell (p := ⟨w.heap.size + 1 + 1, 1, none⟩) (by simp <;> omega) _).setCell (p := ⟨w.heap.size + 1 + 1, 2, none⟩) (by simp <;> omega) _
    repeat (first | exact Below.refl _ _ | apply below_alloc | apply pw_below_drewN)


set_option maxRecDepth 100000 in
set_option maxHeartbeats 4000000 in
theorem contrast_Change.no4 (A0 : Option Addr) (c0 : Nat) (l0 : List (List Int)) (A1 : Option Addr) (c1 : Nat) (l1 : List (List Int)) (k : Nat) (hv : window_Valid.f k l0 = some true) (hv1 : window_Valid.f k l1 = some true) (heq : l0.length = l1.length) (hp : 0 < l0.length) (hne : (rd_L1 l0 0).length ≠ (rd_L1 l1 0).length) (w : World) (hr0 : Kd.C (Kd.slice 3 (Kd.int .i64)) w A0 l0.length l0) (hc0 : l0.length ≤ c0) (hr1 : Kd.C (Kd.slice 3 (Kd.int .i64)) w A1 l1.length l1) (hc1 : l1.length ≤ c1) :
    Calls Try.prog 21 #[.slice A0 l0.length c0, .slice A1 l1.length c1] w fun e w' => e = .returned (.tuple #[.agg #[.int .i64 0, .int .i64 0, .int .i64 0], .int .i64 1]) ∧ Below w.heap.size w w' := by
  have HC := Aside0.mk (Kd.C_alloc (Kd.C_alloc (Kd.C_alloc hr0 (.cells #[.slice A0 l0.length c0] 23)) (.cells #[.slice A1 l1.length c1] 23)) (.cells #[.int .i64 0, .int .i64 0, .int .i64 0] 36))
  have HD := Aside0.mk (Kd.C_alloc (Kd.C_alloc (Kd.C_alloc hr1 (.cells #[.slice A0 l0.length c0] 23)) (.cells #[.slice A1 l1.length c1] 23)) (.cells #[.int .i64 0, .int .i64 0, .int .i64 0] 36))
  have hblk : ((((w.alloc (.cells #[.slice A0 l0.length c0] 23)).alloc (.cells #[.slice A1 l1.length c1] 23))).alloc (.cells #[.int .i64 0, .int .i64 0, .int .i64 0] 36)).heap[w.heap.size + 1 + 1]? = some (.cells #[.int .i64 0, .int .i64 0, .int .i64 0] 36) := by
    have := heap_alloc_new ((w.alloc (.cells #[.slice A0 l0.length c0] 23)).alloc (.cells #[.slice A1 l1.length c1] 23)) (.cells #[.int .i64 0, .int .i64 0, .int .i64 0] 36)
    simpa using this
  have HBlk := Aside0.mk hblk
  clear hblk
  have HV := Aside0.mk hv
  have HV1 := Aside0.mk hv1
  clear hv hv1
  have hb : (((l0.length : Nat) : Int) != ((l1.length : Nat) : Int)) = false := bne_eq_false_iff_eq.mpr (by omega)
  have hb2 : ((((rd_L1 l0 0).length : Nat) : Int) != (((rd_L1 l1 0).length : Nat) : Int)) = true := bne_iff_ne.mpr (by omega)
  have hp1 : 0 < l1.length := by omega
  have HEq := Aside0.mk heq
  clear heq
  have C0 := HC.out
  have D0 := HD.out
  obtain ⟨ad, Ai, ci, e0, hci, hle, Ci⟩ := at_L1 C0 0 (by omega) (by omega)
  obtain ⟨bd, Bi, di, e1, hdi, hld, Di⟩ := at_L1 D0 0 (by omega) (by omega)
  subst e0 e1
  simp only [Int.toNat_zero, add_0] at hci hdi
  clear C0 D0 Ci Di
  clear hr0 hr1
  go_enter Try.func21, Try.ntmps21
  go_wp2
  go_quiet ((first | (go_at_call 43; with_reducible refine Calls.quiet_of (wv_quiet HV.out HC.out hc0 _)) | (go_at_call 43; with_reducible refine Calls.quiet_of (wv_quiet HV1.out HD.out hc1 _))))
  go_wp2
  refine bodyPost_ret (results_ct rfl _ _ (w.heap.size + 1 + 1) 36 #[.int .i64 0, .int .i64 0, .int .i64 0] (0, 0) _ rfl ?_ Try.underlying36 rfl (by kernel_rfl)) rfl ⟨rfl, ?_⟩
  · refine blk_put (cs := #[.int .i64 0, .int .i64 0, .int .i64 0]) ?_ 2 _ rfl
    refine blk_put (cs := #[.int .i64 0, .int .i64 0, .int .i64 0]) ?_ 1 _ rfl
    refine blk_put (cs := #[.int .i64 0, .int .i64 0, .int .i64 0]) ?_ 0 _ rfl
    exact blk_drewN HBlk.out _
  · refine ((Below.setCell ?_ (p := ⟨w.heap.size + 1 + 1, 0, none⟩) (by simp <;> omega) _).setCell (p := ⟨w.heap.size + 1 + 1, 1, none⟩) (by simp <;> omega) _).setCell (p := ⟨w.heap.size + 1 + 1, 2, none⟩) (by simp <;> omega) _
    repeat (first | exact Below.refl _ _ | apply below_alloc | apply pw_below_drewN)
def stepCh (m m' : List (List Int)) (p : Int × Int × Int) (x : Sq m) : Int × Int × Int := addT p (at2 m x.1.1 x.1.2) (at2 m' x.1.1 x.1.2)

def ChInv (w : World) (l0 l1 : List (List Int)) (A0 A1 : Option Addr) (c0 c1 : Nat) (pre : List (Sq l0)) (W : World) : Prop :=
  (W.heap[w.heap.size]? = some (.cells #[.slice A0 l0.length c0] 23 (0, 0)) ∧ W.heap[w.heap.size + 1]? = some (.cells #[.slice A1 l1.length c1] 23 (0, 0)) ∧ W.heap[w.heap.size + 1 + 1]? = some (.cells #[.int .i64 0, .int .i64 0, .int .i64 0] 36 (0, 0)) ∧
   W.heap[w.heap.size + 1 + 1 + 1]? = some (.cells #[.int .i64 (pre.foldl (stepCh l0 l1) (0, 0, 0)).1, .int .i64 (pre.foldl (stepCh l0 l1) (0, 0, 0)).2.1, .int .i64 (pre.foldl (stepCh l0 l1) (0, 0, 0)).2.2] 36 (0, 0))) ∧ Below w.heap.size w W
theorem ChInv.own (w : World) (l0 l1 : List (List Int)) (A0 A1 : Option Addr) (c0 c1 B : Nat) (hB : w.heap.size ≤ B) : OwnFrom B (ChInv w l0 l1 A0 A1 c0 c1) :=
  OwnFrom.and (fun _ _ _ _ hs hg hr => ⟨blk_own hs.1 hg hr, blk_own hs.2.1 hg hr, blk_own hs.2.2.1 hg hr, blk_own hs.2.2.2 hg hr⟩) (ownFrom_below (Nat.le_refl _) hB)

set_option maxRecDepth 100000 in
set_option maxHeartbeats 4000000 in
theorem contrast_Change.yes (A0 : Option Addr) (c0 : Nat) (l0 : List (List Int)) (A1 : Option Addr) (c1 : Nat) (l1 : List (List Int)) (k : Nat) (hv : window_Valid.f k l0 = some true) (hv1 : window_Valid.f k l1 = some true) (heq : l0.length = l1.length) (hp : 0 < l0.length) (hle0 : (rd_L1 l0 0).length = (rd_L1 l1 0).length)
    (hrect : ∀ i : Nat, i < l0.length → (rd_L1 l0 i).length = (rd_L1 l0 0).length) (hrect1 : ∀ i : Nat, i < l1.length → (rd_L1 l1 i).length = (rd_L1 l1 0).length) (w : World) (hr0 : Kd.C (Kd.slice 3 (Kd.int .i64)) w A0 l0.length l0) (hc0 : l0.length ≤ c0) (hr1 : Kd.C (Kd.slice 3 (Kd.int .i64)) w A1 l1.length l1) (hc1 : l1.length ≤ c1) :
    Calls Try.prog 21 #[.slice A0 l0.length c0, .slice A1 l1.length c1] w fun e w' => e = .returned (.tuple #[.agg #[.int .i64 ((sqAll l0).foldl (stepCh l0 l1) (0, 0, 0)).1, .int .i64 ((sqAll l0).foldl (stepCh l0 l1) (0, 0, 0)).2.1, .int .i64 ((sqAll l0).foldl (stepCh l0 l1) (0, 0, 0)).2.2], .int .i64 0]) ∧ Below w.heap.size w w' := by
  refine (callsIn_wide (n := 5)).1 ?_
  refine callsIn_of_wp_marks Try.func21 rfl trivial ?_ rfl
  simp only [Try.ntmps21, List.size_toArray, List.length_cons, List.length_nil, Nat.reduceAdd, Nat.reduceSub, Array.replicate_succ, Array.replicate_zero, List.push_toArray, List.append_toArray, List.nil_append, List.cons_append]
  have HC := Aside0.mk (Kd.C_alloc (Kd.C_alloc (Kd.C_alloc hr0 (.cells #[.slice A0 l0.length c0] 23)) (.cells #[.slice A1 l1.length c1] 23)) (.cells #[.int .i64 0, .int .i64 0, .int .i64 0] 36))
  have HD := Aside0.mk (Kd.C_alloc (Kd.C_alloc (Kd.C_alloc hr1 (.cells #[.slice A0 l0.length c0] 23)) (.cells #[.slice A1 l1.length c1] 23)) (.cells #[.int .i64 0, .int .i64 0, .int .i64 0] 36))
  have HC0 := Aside0.mk hr0
  have HD0 := Aside0.mk hr1
  have HV := Aside0.mk hv
  have HV1 := Aside0.mk hv1
  have HR0 := Aside0.mk hrect
  have HR1 := Aside0.mk hrect1
  have HEq := Aside0.mk heq
  have HEq0 := Aside0.mk hle0
  have hb : (((l0.length : Nat) : Int) != ((l1.length : Nat) : Int)) = false := bne_eq_false_iff_eq.mpr (by omega)
  have hb2 : ((((rd_L1 l0 0).length : Nat) : Int) != (((rd_L1 l1 0).length : Nat) : Int)) = false := bne_eq_false_iff_eq.mpr (by omega)
  have hp1 : 0 < l1.length := by omega
  have C0 := HC.out
  have D0 := HD.out
  obtain ⟨ad, Ai, ci, e0, hci, hle, Ci⟩ := at_L1 C0 0 (by omega) (by omega)
  obtain ⟨bd, Bi, di, e1, hdi, hld, Di⟩ := at_L1 D0 0 (by omega) (by omega)
  subst e0 e1
  simp only [Int.toNat_zero, add_0] at hci hdi
  clear C0 D0 Ci Di hr0 hr1 hv hv1 hrect hrect1 heq hle0
  gi_wp2
  refine wpIn_wide.2 ?_
  go_quiet ((first | (go_at_call 43; with_reducible refine Calls.quiet_of (wv_quiet HV.out HC.out hc0 _)) | (go_at_call 43; with_reducible refine Calls.quiet_of (wv_quiet HV1.out HD.out hc1 _))))
  clear hb hb2
  gi_wp2_with (refine ⟨trivial, ?_⟩; gi_at_call 44; refine (squares_calls Fence.wide _ trivial rfl _ _ _ _).mono ?_; rintro e w' ⟨rfl, rfl⟩)
  refine wpIn_rangeFunc_ownG (w0 := _) rfl (by omega) (gf := 63) (lb := #[.pointer (some ⟨w.heap.size + 1 + 1 + 1 + 1, 0, none⟩)]) rfl trivial (enters_of Try.func63 (by kernel_rfl) rfl)
    (squares_stops Fence.wide _ trivial rfl (by omega) (w.heap.size + 1 + 1 + 1 + 1) _ c0 l0 w _ HC0.out (by repeat (first | exact Below.refl _ _ | apply below_alloc | apply pw_below_drewN)) (by simp) (by first | simp | go_simp)) belowK_t (belowK_b (by simp; omega)) (Below.refl _ _) (fun _ => rfl)
    (ChInv w l0 l1 (some ad) (some bd) c0 c1) (fun _ _ _ => False) (ChInv.own w l0 l1 _ _ c0 c1 _ (by simp; omega)) (fun _ _ _ _ _ hs _ _ => hs)
    ?start ?a1 ?assign ?body ?done ?stop
  case assign =>
    intro l x W K hK
    gi_wp2
    exact hK
  case start =>
    have e2 : (((w.alloc (.cells #[.slice (some ad) l0.length c0] 23)).alloc (.cells #[.slice (some bd) l1.length c1] 23)).alloc (.cells #[.int .i64 0, .int .i64 0, .int .i64 0] 36)).heap.size = w.heap.size + 1 + 1 + 1 := by simp
    refine ⟨⟨?_, ?_, ?_, ?_⟩, by repeat (first | exact Below.refl _ _ | apply below_alloc | apply pw_below_drewN)⟩
    · exact blk_alloc (blk_alloc (blk_drewN (blk_alloc (blk_alloc (by simpa using heap_alloc_new w _) _) _) _) _) _
    · exact blk_alloc (blk_alloc (blk_drewN (blk_alloc (by simpa using heap_alloc_new (w.alloc _) _) _) _) _) _
    · refine blk_alloc (blk_alloc (blk_drewN ?_ _) _) _
      have := heap_alloc_new ((w.alloc (.cells #[.slice (some ad) l0.length c0] 23)).alloc (.cells #[.slice (some bd) l1.length c1] 23)) (.cells #[.int .i64 0, .int .i64 0, .int .i64 0] 36)
      simpa using this
    · refine blk_alloc ?_ _
      have := heap_alloc_new ((((w.alloc (.cells #[.slice (some ad) l0.length c0] 23)).alloc (.cells #[.slice (some bd) l1.length c1] 23)).alloc (.cells #[.int .i64 0, .int .i64 0, .int .i64 0] 36)).drewN nq) (.cells #[.int .i64 0, .int .i64 0, .int .i64 0] 36)
      have e : ((((w.alloc (.cells #[.slice (some ad) l0.length c0] 23)).alloc (.cells #[.slice (some bd) l1.length c1] 23)).alloc (.cells #[.int .i64 0, .int .i64 0, .int .i64 0] 36)).drewN nq).heap.size = w.heap.size + 1 + 1 + 1 := e2
      rw [e] at this
      exact this
  case body =>
    have hmx : Try.prog.follows .mixedOrders = true := by kernel_rfl
    rintro l pre ⟨⟨i, j⟩, hi, hj⟩ W ⟨⟨hb0, hb1, hb2, hb3⟩, hB⟩ _
    dsimp only at hi hj
    have C := Kd.C_below HC0.out hB
    have D := Kd.C_below HD0.out hB
    have cz := (blk_cell hb0 0).trans rfl
    have cz1 := (blk_cell hb1 0).trans rfl
    have q1 := HEq.out
    have q2 := HR0.out i hi
    have q3 := HR1.out i (by omega)
    have q4 := HEq0.out
    obtain ⟨ad', Ai, ci', e0, hci', hle', Ci⟩ := at_L1 C (i : Int) (by omega) (by omega)
    cases e0
    obtain ⟨adi, e1, hcij⟩ := Kd.at_int Ci (j : Int) (by omega) (by omega)
    obtain ⟨bd', Bi, di', e2, hdi', hld', Di⟩ := at_L1 D (i : Int) (by omega) (by omega)
    cases e2
    obtain ⟨bdi, e3, hdij⟩ := Kd.at_int Di (j : Int) (by omega) (by omega)
    have hmaxi := Kd.C_max Ci
    subst e1 e3
    simp only [Int.toNat_natCast] at hci' hcij hdi' hdij
    have hi1 : i < l1.length := by omega
    have hj1 : j < (rd_L1 l1 i).length := by omega
    have hst : Aside0 ((pre ++ [(⟨(i, j), hi, hj⟩ : Sq l0)]).foldl (stepCh l0 l1) (0, 0, 0) = (addT (pre.foldl (stepCh l0 l1) (0, 0, 0)) (at2 l0 i j) (at2 l1 i j))) := ⟨by simp [List.foldl_append, stepCh]⟩
    clear C D Ci Di q1 q2 q3 q4
    gi_wp2
    refine wpIn_round_still_tail 14 hmx (by kernel_rfl) (by kernel_rfl) (fun ⟨_, _, h⟩ => h) ?_
    simp only [List.take_succ_cons, List.take_zero, List.drop_succ_cons, List.drop_zero]
    repeat still_step
    refine wpStill_nil ?_
    go_wp2_with fail
    refine (contrast_Pairs_add.calls 3 (w.heap.size + 1 + 1 + 1) _ _ _ _ _ _ _ _ w W.drew (by exact ⟨hb3, by omega⟩) (by exact below_drew hB) (add_some (pre.foldl (stepCh l0 l1) (0, 0, 0)) _ _)).mono ?_
    rintro e w2 ⟨rfl, hI_w2, hB_w2, hK_w2⟩
    try go_wp2_with fail
    gi_wp2
    have hb0' := hK_w2.blk (g' := w.heap.size) hb0 (by omega) (by simp)
    have hb1' := hK_w2.blk (g' := w.heap.size + 1) hb1 (by omega) (by simp)
    have hb2' := hK_w2.blk (g' := w.heap.size + 1 + 1) hb2 (by omega) (by simp)
    exact ⟨((KeepsOthers.drew _).from _ |>.trans (keepsFrom_of_keepBut (W := W.drew) hb3 hK_w2)), ((below_drew (Below.refl _ W)).trans (below_of_keepBut (W := W.drew) (below_drew hB) hB_w2 hK_w2)), ⟨hb0', hb1', hb2', by rw [hst.out]; exact hI_w2.1⟩, hB_w2⟩
  case done =>
    rintro D ys W hD rfl ⟨⟨hb0, hb1, hb2, hb3⟩, hB⟩ hK
    have z0 : W.cell? ⟨w.heap.size + 1 + 1 + 1, 0, none⟩ = some (.int .i64 ((sqAll l0).foldl (stepCh l0 l1) (0, 0, 0)).1) := (blk_cell hb3 0).trans rfl
    have z1 : W.cell? ⟨w.heap.size + 1 + 1 + 1, 1, none⟩ = some (.int .i64 ((sqAll l0).foldl (stepCh l0 l1) (0, 0, 0)).2.1) := (blk_cell hb3 1).trans rfl
    have z2 : W.cell? ⟨w.heap.size + 1 + 1 + 1, 2, none⟩ = some (.int .i64 ((sqAll l0).foldl (stepCh l0 l1) (0, 0, 0)).2.2) := (blk_cell hb3 2).trans rfl
    have y0 : W.cell? ⟨w.heap.size + 1 + 1, 0, none⟩ = some (.int .i64 0) := (blk_cell hb2 0).trans rfl
    have y1 : W.cell? ⟨w.heap.size + 1 + 1, 1, none⟩ = some (.int .i64 0) := (blk_cell hb2 1).trans rfl
    have y2 : W.cell? ⟨w.heap.size + 1 + 1, 2, none⟩ = some (.int .i64 0) := (blk_cell hb2 2).trans rfl
    have x0 := blk_frozen hb2 0
    have x1 := blk_frozen hb2 1
    have x2 := blk_frozen hb2 2
    have hD' : w.heap.size + 1 + 1 + 1 + 1 ≤ D := by
      have h := hD
      simp [World.drewN] at h
      omega
    clear hD
    gi_wp2
    have hK' := (((KeepsOthers.setCell W ⟨w.heap.size + 1 + 1, 0, none⟩ (.int .i64 ((sqAll l0).foldl (stepCh l0 l1) (0, 0, 0)).1)).trans (KeepsOthers.setCell _ ⟨w.heap.size + 1 + 1, 1, none⟩ (.int .i64 ((sqAll l0).foldl (stepCh l0 l1) (0, 0, 0)).2.1))).trans (KeepsOthers.setCell _ ⟨w.heap.size + 1 + 1, 2, none⟩ (.int .i64 ((sqAll l0).foldl (stepCh l0 l1) (0, 0, 0)).2.2))).same D _ hK rfl
    refine ⟨by simp, .inl ⟨_, _, rfl, run_takeDeferred hK', ?_⟩⟩
    refine ⟨_, results_ct rfl _ _ (w.heap.size + 1 + 1) 36 #[.int .i64 ((sqAll l0).foldl (stepCh l0 l1) (0, 0, 0)).1, .int .i64 ((sqAll l0).foldl (stepCh l0 l1) (0, 0, 0)).2.1, .int .i64 ((sqAll l0).foldl (stepCh l0 l1) (0, 0, 0)).2.2] (0, 0) _ rfl ?_ Try.underlying36 rfl (by kernel_rfl), rfl, ?_⟩
    · refine blk_grown ?_ (grownBy_putObj' _ D (.deferred none)) (by simp; omega)
      refine blk_put (cs := #[.int .i64 ((sqAll l0).foldl (stepCh l0 l1) (0, 0, 0)).1, .int .i64 ((sqAll l0).foldl (stepCh l0 l1) (0, 0, 0)).2.1, .int .i64 0]) ?_ 2 _ rfl
      refine blk_put (cs := #[.int .i64 ((sqAll l0).foldl (stepCh l0 l1) (0, 0, 0)).1, .int .i64 0, .int .i64 0]) ?_ 1 _ rfl
      exact blk_put (cs := #[.int .i64 0, .int .i64 0, .int .i64 0]) hb2 0 _ rfl
    · exact (((hB.setCell (p := ⟨w.heap.size + 1 + 1, 0, none⟩) (by simp <;> omega) _).setCell (p := ⟨w.heap.size + 1 + 1, 1, none⟩) (by simp <;> omega) _).setCell (p := ⟨w.heap.size + 1 + 1, 2, none⟩) (by simp <;> omega) _).trans (belowK_b (w := w) (Nat.le_refl _) _ D _ _ (by omega) hK' rfl rfl)
  case stop =>
    rintro D c pre W _ _ h _
    exact h.elim
def contrast_Change.f (k : Nat) (l0 : List (List Int)) (l1 : List (List Int)) : Option (Int × Int × Int × Int) :=
  (window_Valid.f k l0).bind fun v => if v = true then ((window_Valid.f k l1).bind fun v1 => if v1 = true then
    (if l0.length = l1.length ∧ (rd_L1 l0 0).length = (rd_L1 l1 0).length then (let p := (sqAll l0).foldl (stepCh l0 l1) (0, 0, 0); some (p.1, p.2.1, p.2.2, 0)) else some (0, 0, 0, 1)) else some (0, 0, 0, 1)) else some (0, 0, 0, 1)
theorem contrast_Change.mono : ∀ a0 a1 k, LeO (contrast_Change.f k a0 a1) (contrast_Change.f (k + 1) a0 a1) := fun a0 a1 k =>
  LeO.bind (window_Valid.mono a0 k) (fun _ => LeO.ite (LeO.bind (window_Valid.mono a1 k) (fun _ => LeO.refl _)) (LeO.refl _))
theorem contrast_Change.calls (k : Nat) (A0 : Option Addr) (c0 : Nat) (l0 : List (List Int)) (A1 : Option Addr) (c1 : Nat) (l1 : List (List Int)) (r1 : Int) (r2 : Int) (r3 : Int) (r4 : Int) (w : World) (hr0 : Kd.C (Kd.slice 3 (Kd.int .i64)) w A0 l0.length l0) (hc0 : l0.length ≤ c0) (hr1 : Kd.C (Kd.slice 3 (Kd.int .i64)) w A1 l1.length l1) (hc1 : l1.length ≤ c1) (h : contrast_Change.f k l0 l1 = some (r1, r2, r3, r4)) :
    Calls Try.prog 21 #[.slice A0 l0.length c0, .slice A1 l1.length c1] w fun e w' => e = .returned (.tuple #[.agg #[.int .i64 r1, .int .i64 r2, .int .i64 r3], .int .i64 r4]) ∧ Below w.heap.size w w' := by
  unfold contrast_Change.f at h
  cases hv : window_Valid.f k l0 with
  | none => rw [hv] at h; simp at h
  | some b =>
    rw [hv] at h
    cases b with
    | false =>
      simp at h
      obtain ⟨rfl, rfl, rfl, rfl⟩ := h
      exact contrast_Change.no1 A0 c0 l0 A1 c1 l1 k hv w hr0 hc0 hr1 hc1
    | true =>
      simp only [Option.bind_some, if_true] at h
      cases hv1 : window_Valid.f k l1 with
      | none => rw [hv1] at h; simp at h
      | some b =>
        rw [hv1] at h
        cases b with
        | false =>
          simp at h
          obtain ⟨rfl, rfl, rfl, rfl⟩ := h
          exact contrast_Change.no2 A0 c0 l0 A1 c1 l1 k hv hv1 w hr0 hc0 hr1 hc1
        | true =>
          simp only [Option.bind_some, if_true] at h
          have hr := validB_rows (window_valid_is l0 hv).symm
          have hs := validB_rows (window_valid_is l1 hv1).symm
          by_cases e1 : l0.length = l1.length
          · by_cases e2 : (rd_L1 l0 0).length = (rd_L1 l1 0).length
            · rw [if_pos ⟨e1, e2⟩] at h
              simp only [Option.some.injEq, Prod.mk.injEq] at h
              obtain ⟨rfl, rfl, rfl, rfl⟩ := h
              exact contrast_Change.yes A0 c0 l0 A1 c1 l1 k hv hv1 e1 (by omega) e2 (fun i hi => (hr.2.2.2.2 i hi).1) (fun i hi => (hs.2.2.2.2 i hi).1) w hr0 hc0 hr1 hc1
            · rw [if_neg (fun h => e2 h.2)] at h
              simp only [Option.some.injEq, Prod.mk.injEq] at h
              obtain ⟨rfl, rfl, rfl, rfl⟩ := h
              exact contrast_Change.no4 A0 c0 l0 A1 c1 l1 k hv hv1 e1 (by omega) e2 w hr0 hc0 hr1 hc1
          · rw [if_neg (fun h => e1 h.1)] at h
            simp only [Option.some.injEq, Prod.mk.injEq] at h
            obtain ⟨rfl, rfl, rfl, rfl⟩ := h
            exact contrast_Change.no3 A0 c0 l0 A1 c1 l1 k hv hv1 e1 w hr0 hc0 hr1 hc1
end

/-! ### contrast_different: function 45 -/
def contrast_different.f (a0 : Int) (a1 : Int) : Option (Bool) := if a0 = 1 then (if a1 = 2 then (some true) else (if a0 = 2 then (some (a1 == 1)) else (some false))) else (if a0 = 2 then (some (a1 == 1)) else (some false))
set_option maxHeartbeats 8000000 in
set_option maxRecDepth 100000 in
theorem contrast_different.calls (a0 : Int) (a1 : Int) (r : Bool) (w : World) (h : contrast_different.f a0 a1 = some r) :
    Calls Try.prog 45 #[.int .i64 a0, .int .i64 a1] w fun e w' => e = .returned (.bool r) ∧ Drawn0 w w' := by
  have H : (if a0 = 1 then (if a1 = 2 then (some true) else (if a0 = 2 then (some (a1 == 1)) else (some false))) else (if a0 = 2 then (some (a1 == 1)) else (some false))) = some r := h
  clear h
  by_cases c3 : a0 = 1
  · rw [if_pos c3] at H
    have c3b0 : (a0 == 1) = true := beq_iff_eq.mpr c3
    have c3b1 : (a0 != 1) = false := bne_eq_false_iff_eq.mpr c3
    clear c3
    by_cases c4 : a1 = 2
    · rw [if_pos c4] at H
      have c4b0 : (a1 == 2) = true := beq_iff_eq.mpr c4
      have c4b1 : (a1 != 2) = false := bne_eq_false_iff_eq.mpr c4
      clear c4
      obtain rfl := Option.some.inj H
      go_enter Try.func45, Try.ntmps45
      go_wp2
      go_ret
      exact ⟨by first | rfl | (simp; done) | (simp [*]; done), by repeat (first | exact Drawn0.refl _ | apply Drawn0.step)⟩
    · rw [if_neg c4] at H
      have c4b0 : (a1 == 2) = false := beq_eq_false_iff_ne.mpr c4
      have c4b1 : (a1 != 2) = true := bne_iff_ne.mpr c4
      by_cases c5 : a0 = 2
      · rw [if_pos c5] at H
        have c5b0 : (a0 == 2) = true := beq_iff_eq.mpr c5
        have c5b1 : (a0 != 2) = false := bne_eq_false_iff_eq.mpr c5
        clear c5
        obtain rfl := Option.some.inj H
        go_enter Try.func45, Try.ntmps45
        go_wp2
        go_ret
        exact ⟨by first | rfl | (simp; done) | (simp [*]; done), by repeat (first | exact Drawn0.refl _ | apply Drawn0.step)⟩
      · rw [if_neg c5] at H
        have c5b0 : (a0 == 2) = false := beq_eq_false_iff_ne.mpr c5
        have c5b1 : (a0 != 2) = true := bne_iff_ne.mpr c5
        obtain rfl := Option.some.inj H
        go_enter Try.func45, Try.ntmps45
        go_wp2
        go_ret
        exact ⟨by first | rfl | (simp; done) | (simp [*]; done), by repeat (first | exact Drawn0.refl _ | apply Drawn0.step)⟩
  · rw [if_neg c3] at H
    have c3b0 : (a0 == 1) = false := beq_eq_false_iff_ne.mpr c3
    have c3b1 : (a0 != 1) = true := bne_iff_ne.mpr c3
    by_cases c6 : a0 = 2
    · rw [if_pos c6] at H
      have c6b0 : (a0 == 2) = true := beq_iff_eq.mpr c6
      have c6b1 : (a0 != 2) = false := bne_eq_false_iff_eq.mpr c6
      clear c6
      obtain rfl := Option.some.inj H
      go_enter Try.func45, Try.ntmps45
      go_wp2
      go_ret
      exact ⟨by first | rfl | (simp; done) | (simp [*]; done), by repeat (first | exact Drawn0.refl _ | apply Drawn0.step)⟩
    · rw [if_neg c6] at H
      have c6b0 : (a0 == 2) = false := beq_eq_false_iff_ne.mpr c6
      have c6b1 : (a0 != 2) = true := bne_iff_ne.mpr c6
      obtain rfl := Option.some.inj H
      go_enter Try.func45, Try.ntmps45
      go_wp2
      go_ret
      exact ⟨by first | rfl | (simp; done) | (simp [*]; done), by repeat (first | exact Drawn0.refl _ | apply Drawn0.step)⟩

end Go.Proofs.Ytalhpnfapagamaa.C
