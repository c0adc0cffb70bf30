-- Written by this session's own programs; what the law does not lean on is left out. Lean checks it.
import Derived.Test.YtalhpnfapagamaaDoorAS
import Derived.Test.YtalhpnfapagamaaDoorASx8
namespace Go.Proofs.YtalhpnfapagamaaDoor.S
open Go.RowKit Go.Proofs.YtalhpnfapagamaaDoorW.PrintWords Go.Proofs.YtalhpnfapagamaaDoorW.PrintLast Go.Proofs.YtalhpnfapagamaaDoorW.PrintMore Go.Proofs.YtalhpnfapagamaaDoorD
set_option linter.unusedVariables false
set_option linter.unusedSimpArgs false

/-- The machine at block g of W: its plan, its lap, what is done, whether the stone was moved. -/
structure IsM (W : World) (g : Nat) (A0 : Option Addr) (c0 : Nat) (l0 : List S49) (A1 : Option Addr) (c1 : Nat) (l1 : List S51) (a2 a3 lap : Int) (hd : Option Addr) (cd : Nat) (done : List Int) (moved : Bool) : Prop where
 blk : W.heap[g]? = some (.cells #[.slice A0 l0.length c0, .slice A1 l1.length c1, .int .i64 a2, .int .i64 a3, .int .i64 lap, .slice hd done.length cd, .bool moved] 80 (0, 0))
 laps : Kd.C k49 W A0 l0.length l0
 works : Kd.C k51 W A1 l1.length l1
 row : Kd.C (Kd.int .i64) W hd done.length done
 cap0 : l0.length ≤ c0
 cap1 : l1.length ≤ c1
 capd : done.length ≤ cd
 len : done.length = l1.length
 few : l1.length ≤ 100000
def finAt (n0 : Nat) (l1 : List S51) (done : List Int) (side : Int) (i : Nat) : Bool := !((l1.getD i z51).f1 == side && decide (done.getD i 0 < (n0 : Int)))
def finB (n0 : Nat) (l1 : List S51) (done : List Int) (side : Int) : Bool := (List.range l1.length).all (finAt n0 l1 done side)
theorem finB_no (n0 : Nat) (l1 : List S51) (done : List Int) (side : Int) (i : Nat) (hi : i < l1.length) (h : finAt n0 l1 done side i = false) : finB n0 l1 done side = false := by
 unfold finB; rw [List.all_eq_false]; exact ⟨i, List.mem_range.2 hi, by simp [h]⟩
theorem finB_yes (n0 : Nat) (l1 : List S51) (done : List Int) (side : Int) (h : ∀ i, i < l1.length → finAt n0 l1 done side i = true) : finB n0 l1 done side = true := by
 unfold finB; rw [List.all_eq_true]; exact fun i hi => h i (List.mem_range.1 hi)
set_option maxHeartbeats 8000000 in
set_option maxRecDepth 100000 in
theorem fin.calls (g : Nat) (A0 : Option Addr) (c0 : Nat) (l0 : List S49) (A1 : Option Addr) (c1 : Nat) (l1 : List S51) (a2 a3 lap : Int) (hd : Option Addr) (cd : Nat) (done : List Int) (moved : Bool) (side : Int) (r : Bool) (W : World) (hM : IsM W g A0 c0 l0 A1 c1 l1 a2 a3 lap hd cd done moved) (hr : finB l0.length l1 done side = r) :
  Calls Tryd.prog 21 #[.pointer (some ⟨g, 0, none⟩), .int .i64 side] W fun e w' => e = .returned (.bool r) ∧ Below W.heap.size W w' := by
 have hu93 := Tryd.underlying51
 have HM := Aside0.mk hM
 have HR := Aside0.mk hr
 have GLT := Aside0.mk (blk_lt_ hM.blk)
 have hM0 : Aside0 (W.cell? ⟨g, 0, none⟩ = some (.slice A0 l0.length c0)) := ⟨(blk_cell HM.out.blk 0).trans rfl⟩
 have hM1 : Aside0 (W.cell? ⟨g, 1, none⟩ = some (.slice A1 l1.length c1)) := ⟨(blk_cell HM.out.blk 1).trans rfl⟩
 have hM5 : Aside0 (W.cell? ⟨g, 5, none⟩ = some (.slice hd done.length cd)) := ⟨(blk_cell HM.out.blk 5).trans rfl⟩
 have HBP := Aside0.mk (Below.refl W.heap.size W)
 have hw1 := hM1.out
 clear hM hr
 go_enter Tryd.func21, Tryd.ntmps21
 go_wp2
 clear hw1
 go_loopg [13] l1.length (fun kq v13 w' => ∃ i : Nat, v13 = .int .i64 (i : Int) ∧ Aside0 (i + kq = l1.length) ∧ Aside0 (∀ j, j < i → finAt l0.length l1 done side j = true) ∧ Aside0 (Below W.heap.size W w'))
 case atStart => exact ⟨0, rfl, ⟨by omega⟩, ⟨fun _ h => absurd h (by omega)⟩, HBP⟩
 case round =>
  clear HBP
  obtain ⟨i, rfl, HI, HN, HBP⟩ := hrel
  cases gk with
  | zero =>
   have hi : i = l1.length := by have := HI.out; omega
   have c1 : decide ((i : Int) < (l1.length : Int)) = false := decide_eq_false (by omega)
   have c2 : decide (i < l1.length) = false := decide_eq_false (by omega)
   obtain rfl : r = true := HR.out.symm.trans (finB_yes _ _ _ _ (fun j hj => HN.out j (by omega)))
   clear hi
   go_wp2
   go_ret
   exact ⟨rfl, HBP.out⟩
  | succ k1 =>
   have hi : i < l1.length := by have := HI.out; omega
   have c1 : decide ((i : Int) < (l1.length : Int)) = true := decide_eq_true (by omega)
   have c2 : decide (i < l1.length) = true := decide_eq_true hi
   have c3 : ((i : Int) < (l1.length : Int)) = True := eq_true (by omega)
   have c4 : (0 ≤ (i : Int)) = True := eq_true (by omega)
   have c5 : ((i : Int) < (done.length : Int)) = True := eq_true (by have := HM.out.len; omega)
   have c6 : (i < done.length) = True := eq_true (by have := HM.out.len; omega)
   obtain ⟨ad, e1, hx0, hx1, hx2⟩ := at_T51 HM.out.works (i : Int) (by omega) (by omega)
   obtain ⟨adx, e2, hxd0⟩ := Kd.at_int HM.out.row (i : Int) (by omega) (by have := HM.out.len; omega)
   cases e1
   cases e2
   rw [Int.toNat_natCast] at hx0 hx1 hx2 hxd0
   replace hx0 := (HBP.out.cell (World.block_lt_of_cell? W _ hx0)).trans hx0
   replace hx1 := (HBP.out.cell (World.block_lt_of_cell? W _ hx1)).trans hx1
   replace hx2 := (HBP.out.cell (World.block_lt_of_cell? W _ hx2)).trans hx2
   have hX : rd_T51 l1 (i : Int) = l1.getD i z51 := by unfold rd_T51; rw [Int.toNat_natCast]
   have hD : rd done (i : Int) = done.getD i 0 := by unfold rd; rw [Int.toNat_natCast]
   rw [hX] at hx0 hx1 hx2
   rw [hD] at hxd0
   have HXD := Aside0.mk hxd0
   have HII := Aside0.mk hi
   have HW := Aside0.mk (wrap_i i (by have := HM.out.few; omega))
   obtain ⟨q, hq⟩ : ∃ q, finAt l0.length l1 done side i = q := ⟨_, rfl⟩
   have HQ := Aside0.mk hq
   have hq' := hq
   unfold finAt at hq'
   clear hi hX hD hxd0 hq
   generalize l1.getD i z51 = X at *
   generalize done.getD i 0 = d at *
   cases hs : (X.f1 == side) with
   | false =>
    rw [hs] at hq'
    obtain rfl : q = true := by rw [← hq']; rfl
    clear hq'
    go_wp2_with (first | ((with_reducible refine gate_dst (N := 6) rfl ?_); (try (refine gate_guard (by rfl) ?_; dsimp only)); refine bev (N := 6) (cs := #[.string (⟨#[]⟩ : ByteArray), .int .i64 0, .int .i64 0]) (t := 51) ?_; intro gb hg w6 hbox hb; have BK1 := Aside0.mk hbox; have HB1 := Aside0.mk (HBP.out.trans (hb.mono HBP.out.size)); have GW := Aside0.mk ((by rw [hg]; exact HBP.out.size) : W.heap.size ≤ gb); have hz0 : w6.cell? ⟨gb, 0, none⟩ = some (.string (⟨#[]⟩ : ByteArray)) := (blk_cell BK1.out 0).trans rfl; have hz1 : w6.cell? ⟨gb, 1, none⟩ = some (.int .i64 0) := (blk_cell BK1.out 1).trans rfl; have hz2 : w6.cell? ⟨gb, 2, none⟩ = some (.int .i64 0) := (blk_cell BK1.out 2).trans rfl; have hf0 := blk_frozen BK1.out 0; have hf1 := blk_frozen BK1.out 1; have hf2 := blk_frozen BK1.out 2; clear hb hbox hg) | ((with_reducible refine gate_store (t := 51) (p := 6) rfl ?_); refine store_event (t := 51) (p := 6) (v := ?vsm) (w1 := (((w6.setCell ⟨gb, 0, none⟩ (.string X.f0)).setCell ⟨gb, 1, none⟩ (.int .i64 X.f1)).setCell ⟨gb, 2, none⟩ (.int .i64 X.f2))) ?hg ?ho ?hn ?hr ?_; (case ho => rfl); (case hg => rfl); (case hn => rfl); (case hr => (simp only [execOp]); (rw [show Act.eval _ (.tmp 6) = .pointer (some ⟨gb, 0, none⟩) from rfl, show Act.eval _ (.tmp 17) = .agg #[.string X.f0, .int .i64 X.f1, .int .i64 X.f2] from rfl]); exact st93 _ _ _ _ _ hz0 hz1 hz2 hf0 hf1 hf2); intro w97 hw97; have BK2 : Aside0 (w97.heap[gb]? = some (.cells #[.string X.f0, .int .i64 X.f1, .int .i64 X.f2] 51 (0, 0))) := ⟨by rw [hw97]; refine blk_put (cs := #[.string X.f0, .int .i64 X.f1, .int .i64 0]) ?_ 2 _ rfl; refine blk_put (cs := #[.string X.f0, .int .i64 0, .int .i64 0]) ?_ 1 _ rfl; refine blk_put (cs := #[.string (⟨#[]⟩ : ByteArray), .int .i64 0, .int .i64 0]) ?_ 0 _ rfl; exact BK1.out⟩; have HB2 := Aside0.mk (((HB1.out.setCell (p := ⟨gb, 0, none⟩) GW.out (.string X.f0)).setCell (p := ⟨gb, 1, none⟩) GW.out (.int .i64 X.f1)).setCell (p := ⟨gb, 2, none⟩) GW.out (.int .i64 X.f2)); rw [← hw97] at HB2; have hy0 : w97.cell? ⟨gb, 0, none⟩ = some (.string X.f0) := (blk_cell BK2.out 0).trans rfl; have hy1 : w97.cell? ⟨gb, 1, none⟩ = some (.int .i64 X.f1) := (blk_cell BK2.out 1).trans rfl; have hy2 : w97.cell? ⟨gb, 2, none⟩ = some (.int .i64 X.f2) := (blk_cell BK2.out 2).trans rfl; have hq0 := (HB2.out.cell (p := ⟨g, 0, none⟩) GLT.out).trans hM0.out; have hq5 := (HB2.out.cell (p := ⟨g, 5, none⟩) GLT.out).trans hM5.out; have hxd := (HB2.out.cell (World.block_lt_of_cell? W _ HXD.out)).trans HXD.out; clear hz0 hz1 hz2 hf0 hf1 hf2 hw97))
    repeat (go_quiet (fail); try go_wp2)
    go_roundg k1
    case measure => omega
    case rel => exact ⟨i + 1, congrArg (Value.int .i64) HW.out, ⟨by have := HI.out; omega⟩, ⟨fun j hj => by
      by_cases hji : j < i
      ·
       exact HN.out j hji
      ·
       obtain rfl : j = i := by omega
       exact HQ.out⟩, ⟨mb_ HB2.out⟩⟩
   | true =>
    rw [hs, Bool.true_and] at hq'
    cases hd' : decide (d < (l0.length : Int)) with
    | false =>
     rw [hd'] at hq'
     obtain rfl : q = true := by rw [← hq']; rfl
     clear hq'
     go_wp2_with (first | ((with_reducible refine gate_dst (N := 6) rfl ?_); (try (refine gate_guard (by rfl) ?_; dsimp only)); refine bev (N := 6) (cs := #[.string (⟨#[]⟩ : ByteArray), .int .i64 0, .int .i64 0]) (t := 51) ?_; intro gb hg w6 hbox hb; have BK1 := Aside0.mk hbox; have HB1 := Aside0.mk (HBP.out.trans (hb.mono HBP.out.size)); have GW := Aside0.mk ((by rw [hg]; exact HBP.out.size) : W.heap.size ≤ gb); have hz0 : w6.cell? ⟨gb, 0, none⟩ = some (.string (⟨#[]⟩ : ByteArray)) := (blk_cell BK1.out 0).trans rfl; have hz1 : w6.cell? ⟨gb, 1, none⟩ = some (.int .i64 0) := (blk_cell BK1.out 1).trans rfl; have hz2 : w6.cell? ⟨gb, 2, none⟩ = some (.int .i64 0) := (blk_cell BK1.out 2).trans rfl; have hf0 := blk_frozen BK1.out 0; have hf1 := blk_frozen BK1.out 1; have hf2 := blk_frozen BK1.out 2; clear hb hbox hg) | ((with_reducible refine gate_store (t := 51) (p := 6) rfl ?_); refine store_event (t := 51) (p := 6) (v := ?vsm) (w1 := (((w6.setCell ⟨gb, 0, none⟩ (.string X.f0)).setCell ⟨gb, 1, none⟩ (.int .i64 X.f1)).setCell ⟨gb, 2, none⟩ (.int .i64 X.f2))) ?hg ?ho ?hn ?hr ?_; (case ho => rfl); (case hg => rfl); (case hn => rfl); (case hr => (simp only [execOp]); (rw [show Act.eval _ (.tmp 6) = .pointer (some ⟨gb, 0, none⟩) from rfl, show Act.eval _ (.tmp 17) = .agg #[.string X.f0, .int .i64 X.f1, .int .i64 X.f2] from rfl]); exact st93 _ _ _ _ _ hz0 hz1 hz2 hf0 hf1 hf2); intro w97 hw97; have BK2 : Aside0 (w97.heap[gb]? = some (.cells #[.string X.f0, .int .i64 X.f1, .int .i64 X.f2] 51 (0, 0))) := ⟨by rw [hw97]; refine blk_put (cs := #[.string X.f0, .int .i64 X.f1, .int .i64 0]) ?_ 2 _ rfl; refine blk_put (cs := #[.string X.f0, .int .i64 0, .int .i64 0]) ?_ 1 _ rfl; refine blk_put (cs := #[.string (⟨#[]⟩ : ByteArray), .int .i64 0, .int .i64 0]) ?_ 0 _ rfl; exact BK1.out⟩; have HB2 := Aside0.mk (((HB1.out.setCell (p := ⟨gb, 0, none⟩) GW.out (.string X.f0)).setCell (p := ⟨gb, 1, none⟩) GW.out (.int .i64 X.f1)).setCell (p := ⟨gb, 2, none⟩) GW.out (.int .i64 X.f2)); rw [← hw97] at HB2; have hy0 : w97.cell? ⟨gb, 0, none⟩ = some (.string X.f0) := (blk_cell BK2.out 0).trans rfl; have hy1 : w97.cell? ⟨gb, 1, none⟩ = some (.int .i64 X.f1) := (blk_cell BK2.out 1).trans rfl; have hy2 : w97.cell? ⟨gb, 2, none⟩ = some (.int .i64 X.f2) := (blk_cell BK2.out 2).trans rfl; have hq0 := (HB2.out.cell (p := ⟨g, 0, none⟩) GLT.out).trans hM0.out; have hq5 := (HB2.out.cell (p := ⟨g, 5, none⟩) GLT.out).trans hM5.out; have hxd := (HB2.out.cell (World.block_lt_of_cell? W _ HXD.out)).trans HXD.out; clear hz0 hz1 hz2 hf0 hf1 hf2 hw97))
     repeat (go_quiet (fail); try go_wp2)
     go_roundg k1
     case measure => omega
     case rel => exact ⟨i + 1, congrArg (Value.int .i64) HW.out, ⟨by have := HI.out; omega⟩, ⟨fun j hj => by
      by_cases hji : j < i
      ·
       exact HN.out j hji
      ·
       obtain rfl : j = i := by omega
       exact HQ.out⟩, ⟨mb_ HB2.out⟩⟩
    | true =>
     rw [hd'] at hq'
     obtain rfl : q = false := by rw [← hq']; rfl
     obtain rfl : r = false := HR.out.symm.trans (finB_no _ _ _ _ i HII.out HQ.out)
     clear hq'
     go_wp2_with (first | ((with_reducible refine gate_dst (N := 6) rfl ?_); (try (refine gate_guard (by rfl) ?_; dsimp only)); refine bev (N := 6) (cs := #[.string (⟨#[]⟩ : ByteArray), .int .i64 0, .int .i64 0]) (t := 51) ?_; intro gb hg w6 hbox hb; have BK1 := Aside0.mk hbox; have HB1 := Aside0.mk (HBP.out.trans (hb.mono HBP.out.size)); have GW := Aside0.mk ((by rw [hg]; exact HBP.out.size) : W.heap.size ≤ gb); have hz0 : w6.cell? ⟨gb, 0, none⟩ = some (.string (⟨#[]⟩ : ByteArray)) := (blk_cell BK1.out 0).trans rfl; have hz1 : w6.cell? ⟨gb, 1, none⟩ = some (.int .i64 0) := (blk_cell BK1.out 1).trans rfl; have hz2 : w6.cell? ⟨gb, 2, none⟩ = some (.int .i64 0) := (blk_cell BK1.out 2).trans rfl; have hf0 := blk_frozen BK1.out 0; have hf1 := blk_frozen BK1.out 1; have hf2 := blk_frozen BK1.out 2; clear hb hbox hg) | ((with_reducible refine gate_store (t := 51) (p := 6) rfl ?_); refine store_event (t := 51) (p := 6) (v := ?vsm) (w1 := (((w6.setCell ⟨gb, 0, none⟩ (.string X.f0)).setCell ⟨gb, 1, none⟩ (.int .i64 X.f1)).setCell ⟨gb, 2, none⟩ (.int .i64 X.f2))) ?hg ?ho ?hn ?hr ?_; (case ho => rfl); (case hg => rfl); (case hn => rfl); (case hr => (simp only [execOp]); (rw [show Act.eval _ (.tmp 6) = .pointer (some ⟨gb, 0, none⟩) from rfl, show Act.eval _ (.tmp 17) = .agg #[.string X.f0, .int .i64 X.f1, .int .i64 X.f2] from rfl]); exact st93 _ _ _ _ _ hz0 hz1 hz2 hf0 hf1 hf2); intro w97 hw97; have BK2 : Aside0 (w97.heap[gb]? = some (.cells #[.string X.f0, .int .i64 X.f1, .int .i64 X.f2] 51 (0, 0))) := ⟨by rw [hw97]; refine blk_put (cs := #[.string X.f0, .int .i64 X.f1, .int .i64 0]) ?_ 2 _ rfl; refine blk_put (cs := #[.string X.f0, .int .i64 0, .int .i64 0]) ?_ 1 _ rfl; refine blk_put (cs := #[.string (⟨#[]⟩ : ByteArray), .int .i64 0, .int .i64 0]) ?_ 0 _ rfl; exact BK1.out⟩; have HB2 := Aside0.mk (((HB1.out.setCell (p := ⟨gb, 0, none⟩) GW.out (.string X.f0)).setCell (p := ⟨gb, 1, none⟩) GW.out (.int .i64 X.f1)).setCell (p := ⟨gb, 2, none⟩) GW.out (.int .i64 X.f2)); rw [← hw97] at HB2; have hy0 : w97.cell? ⟨gb, 0, none⟩ = some (.string X.f0) := (blk_cell BK2.out 0).trans rfl; have hy1 : w97.cell? ⟨gb, 1, none⟩ = some (.int .i64 X.f1) := (blk_cell BK2.out 1).trans rfl; have hy2 : w97.cell? ⟨gb, 2, none⟩ = some (.int .i64 X.f2) := (blk_cell BK2.out 2).trans rfl; have hq0 := (HB2.out.cell (p := ⟨g, 0, none⟩) GLT.out).trans hM0.out; have hq5 := (HB2.out.cell (p := ⟨g, 5, none⟩) GLT.out).trans hM5.out; have hxd := (HB2.out.cell (World.block_lt_of_cell? W _ HXD.out)).trans HXD.out; clear hz0 hz1 hz2 hf0 hf1 hf2 hw97))
     repeat (go_quiet (fail); try go_wp2)
     go_ret
     exact ⟨rfl, mb_ HB2.out⟩
/-- The machine at block g, its row at block k, both behind w0, in which the plan came. -/
structure Mach (w0 W : World) (g k : Nat) (A0 : Option Addr) (c0 : Nat) (l0 : List S49) (A1 : Option Addr) (c1 : Nat) (l1 : List S51) (a2 a3 lap : Int) (done : List Int) (moved : Bool) : Prop where
 blk : W.heap[g]? = some (.cells #[.slice A0 l0.length c0, .slice A1 l1.length c1, .int .i64 a2, .int .i64 a3, .int .i64 lap, .slice (some ⟨k, 0, none⟩) done.length done.length, .bool moved] 80 (0, 0))
 row : W.heap[k]? = some (.cells (done.map (Value.int .i64)).toArray 3 (0, 0))
 laps : Kd.C k49 w0 A0 l0.length l0
 works : Kd.C k51 w0 A1 l1.length l1
 bel : Below w0.heap.size w0 W
 gw : w0.heap.size ≤ g
 kw : w0.heap.size ≤ k
 gk : g ≠ k
 cap0 : l0.length ≤ c0
 cap1 : l1.length ≤ c1
 len : done.length = l1.length
 few : l1.length ≤ 100000
 few0 : l0.length ≤ 100000
 lb : -1 ≤ lap ∧ lap < 100000
theorem Mach.isM {w0 W : World} {g k : Nat} {A0 : Option Addr} {c0 : Nat} {l0 : List S49} {A1 : Option Addr} {c1 : Nat} {l1 : List S51} {a2 a3 lap : Int} {done : List Int} {moved : Bool} (h : Mach w0 W g k A0 c0 l0 A1 c1 l1 a2 a3 lap done moved) :
  IsM W g A0 c0 l0 A1 c1 l1 a2 a3 lap (some ⟨k, 0, none⟩) done.length done moved :=
 ⟨h.blk, Kd.C_below h.laps h.bel, Kd.C_below h.works h.bel,
  ⟨rfl, by have := h.len; have := h.few; omega, fun _ => ⟨_, rfl, fun j p hj => ⟨[.int .i64 p], rfl, rfl, fun i u hi => by
   obtain rfl : i = 0 := by cases i with
    | zero => rfl
    | succ n => simp at hi
   simp at hi
   subst hi
   have := blk_cell h.row j
   simp [hj] at this
   rw [show j * (Kd.int IntKind.i64).sz + 0 = j from Nat.mul_one j]
   by_cases h0 : j = 0
   ·
    subst h0; simpa [Addr.add] using this
   ·
    simpa [Addr.add, h0] using this⟩⟩⟩, h.cap0, h.cap1, Nat.le_refl _, h.len, h.few⟩
theorem Mach.below {w0 W W1 : World} {g k : Nat} {A0 : Option Addr} {c0 : Nat} {l0 : List S49} {A1 : Option Addr} {c1 : Nat} {l1 : List S51} {a2 a3 lap : Int} {done : List Int} {moved : Bool} (h : Mach w0 W g k A0 c0 l0 A1 c1 l1 a2 a3 lap done moved) (hb : Below W.heap.size W W1) : Mach w0 W1 g k A0 c0 l0 A1 c1 l1 a2 a3 lap done moved :=
 ⟨(hb.block _ (blk_lt_ h.blk)).trans h.blk, (hb.block _ (blk_lt_ h.row)).trans h.row, h.laps, h.works, h.bel.trans (hb.mono h.bel.size), h.gw, h.kw, h.gk, h.cap0, h.cap1, h.len, h.few, h.few0, h.lb⟩
theorem blk_other {W : World} {g : Nat} {o : Obj} (h : W.heap[g]? = some o) (k i : Nat) (hk : g ≠ k) (v : Value) : (W.setCell ⟨k, i, none⟩ v).heap[g]? = some o := by
 exact (Below.heap_setCell W ⟨k, i, none⟩ v g hk).trans h
theorem Mach.setLap {w0 W : World} {g k : Nat} {A0 : Option Addr} {c0 : Nat} {l0 : List S49} {A1 : Option Addr} {c1 : Nat} {l1 : List S51} {a2 a3 lap : Int} {done : List Int} {moved : Bool} (h : Mach w0 W g k A0 c0 l0 A1 c1 l1 a2 a3 lap done moved) (v : Int) (hv : -1 ≤ v ∧ v < 100000) : Mach w0 (W.setCell ⟨g, 4, none⟩ (.int .i64 v)) g k A0 c0 l0 A1 c1 l1 a2 a3 v done moved :=
 ⟨blk_put h.blk 4 _ rfl, blk_other h.row _ _ (Ne.symm h.gk) _, h.laps, h.works, h.bel.setCell (p := ⟨g, 4, none⟩) h.gw _, h.gw, h.kw, h.gk, h.cap0, h.cap1, h.len, h.few, h.few0, hv⟩
theorem Mach.setMoved {w0 W : World} {g k : Nat} {A0 : Option Addr} {c0 : Nat} {l0 : List S49} {A1 : Option Addr} {c1 : Nat} {l1 : List S51} {a2 a3 lap : Int} {done : List Int} {moved : Bool} (h : Mach w0 W g k A0 c0 l0 A1 c1 l1 a2 a3 lap done moved) (v : Bool) : Mach w0 (W.setCell ⟨g, 6, none⟩ (.bool v)) g k A0 c0 l0 A1 c1 l1 a2 a3 lap done v :=
 ⟨blk_put h.blk 6 _ rfl, blk_other h.row _ _ (Ne.symm h.gk) _, h.laps, h.works, h.bel.setCell (p := ⟨g, 6, none⟩) h.gw _, h.gw, h.kw, h.gk, h.cap0, h.cap1, h.len, h.few, h.few0, h.lb⟩
theorem Mach.setDone {w0 W : World} {g k : Nat} {A0 : Option Addr} {c0 : Nat} {l0 : List S49} {A1 : Option Addr} {c1 : Nat} {l1 : List S51} {a2 a3 lap : Int} {done : List Int} {moved : Bool} (h : Mach w0 W g k A0 c0 l0 A1 c1 l1 a2 a3 lap done moved) (i : Nat) (v : Int) : Mach w0 (W.setCell ⟨k, i, none⟩ (.int .i64 v)) g k A0 c0 l0 A1 c1 l1 a2 a3 lap (done.set i v) moved :=
 ⟨by rw [List.length_set]; exact blk_other h.blk _ _ h.gk _, blk_put h.row i _ (by simp [List.map_set]), h.laps, h.works, h.bel.setCell (p := ⟨k, i, none⟩) h.kw _, h.gw, h.kw, h.gk, h.cap0, h.cap1, by rw [List.length_set]; exact h.len, h.few, h.few0, h.lb⟩
set_option maxHeartbeats 8000000 in
set_option maxRecDepth 100000 in
theorem start.calls (A0 : Option Addr) (c0 : Nat) (l0 : List S49) (A1 : Option Addr) (c1 : Nat) (l1 : List S51) (a2 a3 : Int) (W : World) (h0 : Kd.C k49 W A0 l0.length l0) (hc0 : l0.length ≤ c0) (h1 : Kd.C k51 W A1 l1.length l1) (hc1 : l1.length ≤ c1) (hfew : l1.length ≤ 100000) (hfew0 : l0.length ≤ 100000) :
  Calls Tryd.prog 19 #[.agg #[.slice A0 l0.length c0, .slice A1 l1.length c1, .int .i64 a2, .int .i64 a3]] W fun e w' => ∃ g k, e = .returned (.pointer (some ⟨g, 0, none⟩)) ∧ Mach W w' g k A0 c0 l0 A1 c1 l1 a2 a3 (-1) (List.replicate l1.length 0) false := by
 have hmk := print_make (P := Tryd.prog) 64 3 .i64 8 (by kernel_rfl) (by kernel_rfl) (by decide) l1.length (by omega)
 have hu59 := Tryd.underlying35
 have hu111 := Tryd.underlying80
 have hu57 := Tryd.underlying33
 go_enter Tryd.func19, Tryd.ntmps19
 go_wp2
 go_region
 go_wp2
 go_ret
 refine ⟨W.heap.size + 1 + 1, W.heap.size + 1, rfl, ?_, ?_, h0, h1, ?_, by omega, by omega, by omega, hc0, hc1, by simp, hfew, hfew0, by omega, by omega⟩
 ·
  have hx := blk_new ((W.alloc (.cells #[.slice A0 l0.length c0, .slice A1 l1.length c1, .int .i64 a2, .int .i64 a3] 35)).alloc (.cells (madeCells #[.int .i64 0] l1.length) 3)) (.cells #[.slice A0 l0.length c0, .slice A1 l1.length c1, .int .i64 a2, .int .i64 a3, .int .i64 (-1), .slice (some ⟨W.heap.size + 1, 0, none⟩) l1.length l1.length, .bool false] 80)
  simp only [World.size_alloc] at hx
  rw [List.length_replicate]
  exact hx
 ·
  have hx := blk_alloc (blk_new (W.alloc (.cells #[.slice A0 l0.length c0, .slice A1 l1.length c1, .int .i64 a2, .int .i64 a3] 35)) (.cells (madeCells #[.int .i64 0] l1.length) 3)) (.cells #[.slice A0 l0.length c0, .slice A1 l1.length c1, .int .i64 a2, .int .i64 a3, .int .i64 (-1), .slice (some ⟨W.heap.size + 1, 0, none⟩) l1.length l1.length, .bool false] 80)
  simp only [World.size_alloc] at hx
  rw [show ((List.replicate l1.length (0 : Int)).map (Value.int .i64)).toArray = madeCells #[.int .i64 0] l1.length from ?_]
  ·
   exact hx
  ·
   exact Array.ext (by simp [madeCells]) (fun i h1 h2 => by simp [madeCells, Nat.mod_one])
 ·
  repeat (first | exact Below.refl _ _ | apply pw_below_drewN | apply below_drew | apply below_drew1 | apply below_alloc)
def sidB (l1 : List S51) (q : Int) : Bool := l1.any (fun x : S51 => x.f1 == q)
def freeAt (l1 : List S51) (done : List Int) (side lap : Int) (i : Nat) : Bool := !((l1.getD i z51).f1 == side && decide (done.getD i 0 ≤ lap))
def freeB (l1 : List S51) (done : List Int) (side lap : Int) (n : Nat) : Bool := (List.range n).all (freeAt l1 done side lap)
theorem freeB_no (l1 : List S51) (done : List Int) (side lap : Int) (n i : Nat) (hi : i < n) (h : freeAt l1 done side lap i = false) : freeB l1 done side lap n = false := by
 unfold freeB; rw [List.all_eq_false]; exact ⟨i, List.mem_range.2 hi, by simp [h]⟩
theorem freeB_yes (l1 : List S51) (done : List Int) (side lap : Int) (n : Nat) (h : ∀ i, i < n → freeAt l1 done side lap i = true) : freeB l1 done side lap n = true := by
 unfold freeB; rw [List.all_eq_true]; exact fun i hi => h i (List.mem_range.1 hi)
def cutB (l1 : List S51) (lap : Int) (done : List Int) (moved : Bool) (s : S60) : Bool :=
 inB s.f2 0 ((l1.length : Int) - 1) && (s.f1 == lap && ((rd done s.f2 == s.f1) && (!(sidB l1 1 && sidB l1 2 && (moved != ((rd_T51 l1 s.f2).f1 == 2))) && freeB l1 done (rd_T51 l1 s.f2).f1 s.f1 s.f2.toNat)))
set_option maxHeartbeats 8000000 in
set_option maxRecDepth 100000 in
theorem cut.calls (g : Nat) (A0 : Option Addr) (c0 : Nat) (l0 : List S49) (A1 : Option Addr) (c1 : Nat) (l1 : List S51) (a2 a3 lap : Int) (hd : Option Addr) (cd : Nat) (done : List Int) (moved : Bool) (kd lp wk : Int) (r : Bool) (W : World) (hM : IsM W g A0 c0 l0 A1 c1 l1 a2 a3 lap hd cd done moved) (hr : cutB l1 lap done moved ⟨kd, lp, wk⟩ = r) :
  Calls Tryd.prog 36 #[.pointer (some ⟨g, 0, none⟩), .agg #[.int .i64 kd, .int .i64 lp, .int .i64 wk]] W fun e w' => e = .returned (.bool r) ∧ Below W.heap.size W w' := by
 have hu93 := Tryd.underlying51
 have hu62 := Tryd.underlying60
 have hu59 := Tryd.underlying35
 have HM := Aside0.mk hM
 have GLT := Aside0.mk (blk_lt_ hM.blk)
 have hM0 : Aside0 (W.cell? ⟨g, 0, none⟩ = some (.slice A0 l0.length c0)) := ⟨(blk_cell HM.out.blk 0).trans rfl⟩
 have hM1 : Aside0 (W.cell? ⟨g, 1, none⟩ = some (.slice A1 l1.length c1)) := ⟨(blk_cell HM.out.blk 1).trans rfl⟩
 have hM2 : Aside0 (W.cell? ⟨g, 2, none⟩ = some (.int .i64 a2)) := ⟨(blk_cell HM.out.blk 2).trans rfl⟩
 have hM3 : Aside0 (W.cell? ⟨g, 3, none⟩ = some (.int .i64 a3)) := ⟨(blk_cell HM.out.blk 3).trans rfl⟩
 have hM4 : Aside0 (W.cell? ⟨g, 4, none⟩ = some (.int .i64 lap)) := ⟨(blk_cell HM.out.blk 4).trans rfl⟩
 have hM5 : Aside0 (W.cell? ⟨g, 5, none⟩ = some (.slice hd done.length cd)) := ⟨(blk_cell HM.out.blk 5).trans rfl⟩
 have hM6 : Aside0 (W.cell? ⟨g, 6, none⟩ = some (.bool moved)) := ⟨(blk_cell HM.out.blk 6).trans rfl⟩
 have HW0 : Aside0 (IntKind.i64.wrap ((l1.length : Int) - 1) = (l1.length : Int) - 1) := ⟨by have := HM.out.few; rw [IntKind.wrap_i64]; omega⟩
 simp only [cutB] at hr
 clear hM
 cases h1 : inB wk 0 ((l1.length : Int) - 1) with
 | false =>
  rw [h1, Bool.false_and] at hr
  have HI1 := Aside0.mk (in_as _ _ _ _ h1)
  obtain rfl := hr
  clear h1
  have hwr : IntKind.i64.wrap ((l1.length : Int) - 1) = (l1.length : Int) - 1 := HW0.out
  go_enter Tryd.func36, Tryd.ntmps36
  go_wp2_with (first | ((with_reducible refine gate_dst (N := 3) rfl ?_); refine bev (N := 3) (cs := #[.int .i64 kd, .int .i64 lp, .int .i64 wk]) (t := 60) ?_; intro gp hg w6 hbox hb; have BK1 := Aside0.mk hbox; have HB1 := Aside0.mk hb; have hp0 : w6.cell? ⟨gp, 0, none⟩ = some (.int .i64 kd) := (blk_cell BK1.out 0).trans rfl; have hp1 : w6.cell? ⟨gp, 1, none⟩ = some (.int .i64 lp) := (blk_cell BK1.out 1).trans rfl; have hp2 : w6.cell? ⟨gp, 2, none⟩ = some (.int .i64 wk) := (blk_cell BK1.out 2).trans rfl; have hq0 := (HB1.out.cell (p := ⟨g, 0, none⟩) GLT.out).trans hM0.out; have hq1 := (HB1.out.cell (p := ⟨g, 1, none⟩) GLT.out).trans hM1.out; have hq2 := (HB1.out.cell (p := ⟨g, 2, none⟩) GLT.out).trans hM2.out; have hq3 := (HB1.out.cell (p := ⟨g, 3, none⟩) GLT.out).trans hM3.out; have hq4 := (HB1.out.cell (p := ⟨g, 4, none⟩) GLT.out).trans hM4.out; have hq5 := (HB1.out.cell (p := ⟨g, 5, none⟩) GLT.out).trans hM5.out; have hq6 := (HB1.out.cell (p := ⟨g, 6, none⟩) GLT.out).trans hM6.out; clear hb hbox hg))
  go_quiet ((go_at_call 30; refine Calls.quiet_of ((steps_in.calls wk 0 ((l1.length : Int) - 1) false _ HI1.out).mono (fun e w1 h => ⟨h.1, h.2.out⟩))))
  go_wp2
  go_ret
  exact ⟨rfl, by repeat (first | exact HB1.out | apply pw_below_drewN | apply below_drew | apply below_drew1)⟩
 | true =>
  rw [h1, Bool.true_and] at hr
  have HI1 := Aside0.mk (in_as _ _ _ _ h1)
  have hb0 : 0 ≤ wk ∧ wk ≤ (l1.length : Int) - 1 := by
   unfold inB at h1
   simpa using h1
  obtain ⟨n, rfl⟩ := Int.eq_ofNat_of_zero_le hb0.1
  have HNL : Aside0 (n < l1.length) := ⟨by have := hb0.2; omega⟩
  clear hb0 h1
  cases h2 : (lp == lap) with
  | false =>
   rw [h2, Bool.false_and] at hr
   obtain rfl := hr
   have h2n : (lp != lap) = true := by unfold bne; rw [h2]; rfl
   have hwr : IntKind.i64.wrap ((l1.length : Int) - 1) = (l1.length : Int) - 1 := HW0.out
   go_enter Tryd.func36, Tryd.ntmps36
   go_wp2_with (first | ((with_reducible refine gate_dst (N := 3) rfl ?_); refine bev (N := 3) (cs := #[.int .i64 kd, .int .i64 lp, .int .i64 (n : Int)]) (t := 60) ?_; intro gp hg w6 hbox hb; have BK1 := Aside0.mk hbox; have HB1 := Aside0.mk hb; have hp0 : w6.cell? ⟨gp, 0, none⟩ = some (.int .i64 kd) := (blk_cell BK1.out 0).trans rfl; have hp1 : w6.cell? ⟨gp, 1, none⟩ = some (.int .i64 lp) := (blk_cell BK1.out 1).trans rfl; have hp2 : w6.cell? ⟨gp, 2, none⟩ = some (.int .i64 (n : Int)) := (blk_cell BK1.out 2).trans rfl; have hq0 := (HB1.out.cell (p := ⟨g, 0, none⟩) GLT.out).trans hM0.out; have hq1 := (HB1.out.cell (p := ⟨g, 1, none⟩) GLT.out).trans hM1.out; have hq2 := (HB1.out.cell (p := ⟨g, 2, none⟩) GLT.out).trans hM2.out; have hq3 := (HB1.out.cell (p := ⟨g, 3, none⟩) GLT.out).trans hM3.out; have hq4 := (HB1.out.cell (p := ⟨g, 4, none⟩) GLT.out).trans hM4.out; have hq5 := (HB1.out.cell (p := ⟨g, 5, none⟩) GLT.out).trans hM5.out; have hq6 := (HB1.out.cell (p := ⟨g, 6, none⟩) GLT.out).trans hM6.out; clear hb hbox hg))
   go_quiet ((go_at_call 30; refine Calls.quiet_of ((steps_in.calls (n : Int) 0 ((l1.length : Int) - 1) true _ HI1.out).mono (fun e w1 h => ⟨h.1, h.2.out⟩))))
   go_wp2
   go_ret
   exact ⟨rfl, by repeat (first | exact HB1.out | apply pw_below_drewN | apply below_drew | apply below_drew1)⟩
  | true =>
   rw [h2, Bool.true_and] at hr
   have h2n : (lp != lap) = false := by unfold bne; rw [h2]; rfl
   have k3 : ((n : Int) < (done.length : Int)) = True := eq_true (by have := HM.out.len; have := HNL.out; omega)
   have k4 : (0 ≤ (n : Int)) = True := eq_true (by omega)
   have k5 : (n < done.length) = True := eq_true (by have := HM.out.len; have := HNL.out; omega)
   have k6 : ((n : Int) < (l1.length : Int)) = True := eq_true (by have := HNL.out; omega)
   have k7 : (n < l1.length) = True := eq_true HNL.out
   obtain ⟨ad, e1, hx0, hx1, hx2⟩ := at_T51 HM.out.works (n : Int) (by omega) (by have := HNL.out; omega)
   obtain ⟨adx, e2, hxd0⟩ := Kd.at_int HM.out.row (n : Int) (by omega) (by have := HM.out.len; have := HNL.out; omega)
   have HA1 := Aside0.mk e1
   have HA2 := Aside0.mk e2
   obtain rfl := e1
   obtain rfl := e2
   rw [Int.toNat_natCast] at hx0 hx1 hx2 hxd0
   have HX1 := Aside0.mk hx1
   have HXD := Aside0.mk hxd0
   clear hx0 hx1 hx2 hxd0
   cases h3 : (rd done (n : Int) == lp) with
   | false =>
    rw [h3, Bool.false_and] at hr
    obtain rfl := hr
    generalize rd done (n : Int) = d at *
    have h3n : (d != lp) = true := by unfold bne; rw [h3]; rfl
    have hwr : IntKind.i64.wrap ((l1.length : Int) - 1) = (l1.length : Int) - 1 := HW0.out
    go_enter Tryd.func36, Tryd.ntmps36
    go_wp2_with (first | ((with_reducible refine gate_dst (N := 3) rfl ?_); refine bev (N := 3) (cs := #[.int .i64 kd, .int .i64 lp, .int .i64 (n : Int)]) (t := 60) ?_; intro gp hg w6 hbox hb; have BK1 := Aside0.mk hbox; have HB1 := Aside0.mk hb; have hp0 : w6.cell? ⟨gp, 0, none⟩ = some (.int .i64 kd) := (blk_cell BK1.out 0).trans rfl; have hp1 : w6.cell? ⟨gp, 1, none⟩ = some (.int .i64 lp) := (blk_cell BK1.out 1).trans rfl; have hp2 : w6.cell? ⟨gp, 2, none⟩ = some (.int .i64 (n : Int)) := (blk_cell BK1.out 2).trans rfl; have hq0 := (HB1.out.cell (p := ⟨g, 0, none⟩) GLT.out).trans hM0.out; have hq1 := (HB1.out.cell (p := ⟨g, 1, none⟩) GLT.out).trans hM1.out; have hq2 := (HB1.out.cell (p := ⟨g, 2, none⟩) GLT.out).trans hM2.out; have hq3 := (HB1.out.cell (p := ⟨g, 3, none⟩) GLT.out).trans hM3.out; have hq4 := (HB1.out.cell (p := ⟨g, 4, none⟩) GLT.out).trans hM4.out; have hq5 := (HB1.out.cell (p := ⟨g, 5, none⟩) GLT.out).trans hM5.out; have hq6 := (HB1.out.cell (p := ⟨g, 6, none⟩) GLT.out).trans hM6.out; have hxd := (HB1.out.cell (World.block_lt_of_cell? W _ HXD.out)).trans HXD.out; clear hb hbox hg))
    go_quiet ((go_at_call 30; refine Calls.quiet_of ((steps_in.calls (n : Int) 0 ((l1.length : Int) - 1) true _ HI1.out).mono (fun e w1 h => ⟨h.1, h.2.out⟩))))
    go_wp2
    go_ret
    exact ⟨rfl, by repeat (first | exact HB1.out | apply pw_below_drewN | apply below_drew | apply below_drew1)⟩
   | true =>
    rw [h3, Bool.true_and] at hr
    have HR := Aside0.mk hr
    generalize rd done (n : Int) = d at *
    have h3n : (d != lp) = false := by unfold bne; rw [h3]; rfl
    clear hr
    have hwr : IntKind.i64.wrap ((l1.length : Int) - 1) = (l1.length : Int) - 1 := HW0.out
    go_enter Tryd.func36, Tryd.ntmps36
    go_wp2_with (first | ((with_reducible refine gate_dst (N := 3) rfl ?_); refine bev (N := 3) (cs := #[.int .i64 kd, .int .i64 lp, .int .i64 (n : Int)]) (t := 60) ?_; intro gp hg w6 hbox hb; have BK1 := Aside0.mk hbox; have HB1 := Aside0.mk hb; have hp0 : w6.cell? ⟨gp, 0, none⟩ = some (.int .i64 kd) := (blk_cell BK1.out 0).trans rfl; have hp1 : w6.cell? ⟨gp, 1, none⟩ = some (.int .i64 lp) := (blk_cell BK1.out 1).trans rfl; have hp2 : w6.cell? ⟨gp, 2, none⟩ = some (.int .i64 (n : Int)) := (blk_cell BK1.out 2).trans rfl; have hq0 := (HB1.out.cell (p := ⟨g, 0, none⟩) GLT.out).trans hM0.out; have hq1 := (HB1.out.cell (p := ⟨g, 1, none⟩) GLT.out).trans hM1.out; have hq2 := (HB1.out.cell (p := ⟨g, 2, none⟩) GLT.out).trans hM2.out; have hq3 := (HB1.out.cell (p := ⟨g, 3, none⟩) GLT.out).trans hM3.out; have hq4 := (HB1.out.cell (p := ⟨g, 4, none⟩) GLT.out).trans hM4.out; have hq5 := (HB1.out.cell (p := ⟨g, 5, none⟩) GLT.out).trans hM5.out; have hq6 := (HB1.out.cell (p := ⟨g, 6, none⟩) GLT.out).trans hM6.out; have hxd := (HB1.out.cell (World.block_lt_of_cell? W _ HXD.out)).trans HXD.out; have hx1 := (HB1.out.cell (World.block_lt_of_cell? W _ HX1.out)).trans HX1.out; clear hb hbox hg))
    go_quiet ((go_at_call 30; refine Calls.quiet_of ((steps_in.calls (n : Int) 0 ((l1.length : Int) - 1) true _ HI1.out).mono (fun e w1 h => ⟨h.1, h.2.out⟩))))
    go_wp2
    go_quiet (fail)
    have hr := HR.out
    clear HR
    generalize rd_T51 l1 (n : Int) = X at *
    have HP1 : Aside0 (steps_Plan_sided.f l0 l1 a2 a3 1 = some (sidB l1 1)) := ⟨by unfold steps_Plan_sided.f; rw [if_pos HM.out.few]; rfl⟩
    have HP2 : Aside0 (steps_Plan_sided.f l0 l1 a2 a3 2 = some (sidB l1 2)) := ⟨by unfold steps_Plan_sided.f; rw [if_pos HM.out.few]; rfl⟩
    generalize sidB l1 1 = p1 at *
    generalize sidB l1 2 = p2 at *
    cases p1 with
    | false =>
     have HR : Aside0 (freeB l1 done X.f1 lp n = r) := ⟨by simpa using hr⟩
     clear hr
     have j5 : (n ≤ c1) = True := eq_true (by have := HM.out.cap1; have := HNL.out; omega)
     have j6 : ((n : Int) ≤ (c1 : Int)) = True := eq_true (by have := HM.out.cap1; have := HNL.out; omega)
     have j7 : (c1 < n) = False := eq_false (by have := HM.out.cap1; have := HNL.out; omega)
     go_wp2_with (first | (go_at_call 29; (with_reducible refine (steps_Plan_sided.calls A0 c0 l0 _ c1 l1 a2 a3 1 false _ (Kd.C_below HM.out.laps (mb_ HB1.out)) HM.out.cap0 (Kd.C_below HM.out.works (mb_ HB1.out)) HM.out.cap1 HP1.out).mono ?_); rintro e w12 ⟨rfl, hb⟩; have HB2 : Aside0 (Below W.heap.size W w12) := ⟨Below.trans (mb_ HB1.out) (hb.mono HB1.out.size)⟩; have BK2 : Aside0 (w12.heap[gp]? = some (.cells #[.int .i64 kd, .int .i64 lp, .int .i64 (n : Int)] 60 (0, 0))) := ⟨(hb.block _ (blk_lt_ BK1.out)).trans BK1.out⟩; clear hb hq0 hq1 hq2 hq3 hq4 hq5 hq6 hp0 hp1 hp2; have hp0 : w12.cell? ⟨gp, 0, none⟩ = some (.int .i64 kd) := (blk_cell BK2.out 0).trans rfl; have hp1 : w12.cell? ⟨gp, 1, none⟩ = some (.int .i64 lp) := (blk_cell BK2.out 1).trans rfl; have hp2 : w12.cell? ⟨gp, 2, none⟩ = some (.int .i64 (n : Int)) := (blk_cell BK2.out 2).trans rfl; have hq0 := (HB2.out.cell (p := ⟨g, 0, none⟩) GLT.out).trans hM0.out; have hq1 := (HB2.out.cell (p := ⟨g, 1, none⟩) GLT.out).trans hM1.out; have hq2 := (HB2.out.cell (p := ⟨g, 2, none⟩) GLT.out).trans hM2.out; have hq3 := (HB2.out.cell (p := ⟨g, 3, none⟩) GLT.out).trans hM3.out; have hq4 := (HB2.out.cell (p := ⟨g, 4, none⟩) GLT.out).trans hM4.out; have hq5 := (HB2.out.cell (p := ⟨g, 5, none⟩) GLT.out).trans hM5.out; have hq6 := (HB2.out.cell (p := ⟨g, 6, none⟩) GLT.out).trans hM6.out))
     go_quiet (fail)
     go_wp2
     clear hq0 hq1 hq2 hq3 hq4 hq5 hq6 hp0 hp1 hp2
     go_loopg [81] n (fun kq v81 w' => ∃ i : Nat, v81 = .int .i64 (i : Int) ∧ Aside0 (i + kq = n) ∧ Aside0 (∀ j, j < i → freeAt l1 done X.f1 lp j = true) ∧ Aside0 (Below W.heap.size W w') ∧ Aside0 (w'.heap[gp]? = some (.cells #[.int .i64 kd, .int .i64 lp, .int .i64 (n : Int)] 60 (0, 0))))
     case atStart => exact ⟨0, rfl, ⟨by omega⟩, ⟨fun _ h => absurd h (by omega)⟩, ⟨mb_ HB2.out⟩, ⟨BK2.out⟩⟩
     case round =>
      skip
      obtain ⟨i, rfl, HI, HN, HBP, HBK⟩ := hrel
      cases gk with
      | zero =>
       have hi : i = n := by have := HI.out; omega
       have c1 : decide ((i : Int) < (n : Int)) = false := decide_eq_false (by omega)
       have c2 : decide (i < n) = false := decide_eq_false (by omega)
       obtain rfl : r = true := HR.out.symm.trans (freeB_yes _ _ _ _ _ (fun j hj => HN.out j (by omega)))
       clear hi
       go_wp2
       go_ret
       exact ⟨rfl, HBP.out⟩
      | succ k1 =>
       have hi : i < n := by have := HI.out; omega
       have c1 : decide ((i : Int) < (n : Int)) = true := decide_eq_true (by omega)
       have c2 : decide (i < n) = true := decide_eq_true hi
       have c3 : ((i : Int) < (n : Int)) = True := eq_true (by omega)
       have c4 : (0 ≤ (i : Int)) = True := eq_true (by omega)
       have c5 : ((i : Int) < (done.length : Int)) = True := eq_true (by have := HM.out.len; have := HNL.out; omega)
       have c6 : (i < done.length) = True := eq_true (by have := HM.out.len; have := HNL.out; omega)
       obtain ⟨ad, e1, hx0, hx1, hx2⟩ := at_T51 HM.out.works (i : Int) (by omega) (by have := HNL.out; omega)
       obtain ⟨adx, e2, hxd0⟩ := Kd.at_int HM.out.row (i : Int) (by omega) (by have := HM.out.len; have := HNL.out; omega)
       obtain rfl := Option.some.inj e1
       obtain rfl := Option.some.inj e2
       rw [Int.toNat_natCast] at hx0 hx1 hx2 hxd0
       replace hx0 := (HBP.out.cell (World.block_lt_of_cell? W _ hx0)).trans hx0
       replace hx1 := (HBP.out.cell (World.block_lt_of_cell? W _ hx1)).trans hx1
       replace hx2 := (HBP.out.cell (World.block_lt_of_cell? W _ hx2)).trans hx2
       have hX : rd_T51 l1 (i : Int) = l1.getD i z51 := by unfold rd_T51; rw [Int.toNat_natCast]
       have hD : rd done (i : Int) = done.getD i 0 := by unfold rd; rw [Int.toNat_natCast]
       rw [hX] at hx0 hx1 hx2
       rw [hD] at hxd0
       have HXD := Aside0.mk hxd0
       have HII := Aside0.mk hi
       have HW := Aside0.mk (wrap_i i (by have := HM.out.few; have := HNL.out; omega))
       obtain ⟨q, hq⟩ : ∃ q, freeAt l1 done X.f1 lp i = q := ⟨_, rfl⟩
       have HQ := Aside0.mk hq
       have hq' := hq
       unfold freeAt at hq'
       clear hi hX hD hxd0 hq
       generalize l1.getD i z51 = Y at *
       generalize done.getD i 0 = d at *
       go_upto_region 9 with (first | ((with_reducible refine gate_dst (N := 7) rfl ?_); (try (refine gate_guard (by rfl) ?_; dsimp only)); refine bev (N := 7) (cs := #[.string (⟨#[]⟩ : ByteArray), .int .i64 0, .int .i64 0]) (t := 51) ?_; intro gb hg w6 hbox hb; have BK1 := Aside0.mk hbox; have HB1 := Aside0.mk (HBP.out.trans (hb.mono HBP.out.size)); have GW := Aside0.mk ((by rw [hg]; exact HBP.out.size) : W.heap.size ≤ gb); have hz0 : w6.cell? ⟨gb, 0, none⟩ = some (.string (⟨#[]⟩ : ByteArray)) := (blk_cell BK1.out 0).trans rfl; have hz1 : w6.cell? ⟨gb, 1, none⟩ = some (.int .i64 0) := (blk_cell BK1.out 1).trans rfl; have hz2 : w6.cell? ⟨gb, 2, none⟩ = some (.int .i64 0) := (blk_cell BK1.out 2).trans rfl; have hf0 := blk_frozen BK1.out 0; have hf1 := blk_frozen BK1.out 1; have hf2 := blk_frozen BK1.out 2; have BKP1 := Aside0.mk ((hb.block _ (blk_lt_ HBK.out)).trans HBK.out); have GNE : Aside0 (gp ≠ gb) := ⟨by have h9 := blk_lt_ HBK.out; rw [hg]; exact Nat.ne_of_lt h9⟩; clear hb hbox hg) | ((with_reducible refine gate_store (t := 51) (p := 7) rfl ?_); refine store_event (t := 51) (p := 7) (v := ?vsm) (w1 := (((w6.setCell ⟨gb, 0, none⟩ (.string Y.f0)).setCell ⟨gb, 1, none⟩ (.int .i64 Y.f1)).setCell ⟨gb, 2, none⟩ (.int .i64 Y.f2))) ?hg ?ho ?hn ?hr ?_; (case ho => rfl); (case hg => rfl); (case hn => rfl); (case hr => (simp only [execOp]); (rw [show Act.eval _ (.tmp 7) = .pointer (some ⟨gb, 0, none⟩) from rfl, show Act.eval _ (.tmp 85) = .agg #[.string Y.f0, .int .i64 Y.f1, .int .i64 Y.f2] from rfl]); exact st93 _ _ _ _ _ hz0 hz1 hz2 hf0 hf1 hf2); intro w97 hw97; have BK2 : Aside0 (w97.heap[gb]? = some (.cells #[.string Y.f0, .int .i64 Y.f1, .int .i64 Y.f2] 51 (0, 0))) := ⟨by rw [hw97]; refine blk_put (cs := #[.string Y.f0, .int .i64 Y.f1, .int .i64 0]) ?_ 2 _ rfl; refine blk_put (cs := #[.string Y.f0, .int .i64 0, .int .i64 0]) ?_ 1 _ rfl; refine blk_put (cs := #[.string (⟨#[]⟩ : ByteArray), .int .i64 0, .int .i64 0]) ?_ 0 _ rfl; exact BK1.out⟩; have HB2 := Aside0.mk (((HB1.out.setCell (p := ⟨gb, 0, none⟩) GW.out (.string Y.f0)).setCell (p := ⟨gb, 1, none⟩) GW.out (.int .i64 Y.f1)).setCell (p := ⟨gb, 2, none⟩) GW.out (.int .i64 Y.f2)); rw [← hw97] at HB2; have hy0 : w97.cell? ⟨gb, 0, none⟩ = some (.string Y.f0) := (blk_cell BK2.out 0).trans rfl; have hy1 : w97.cell? ⟨gb, 1, none⟩ = some (.int .i64 Y.f1) := (blk_cell BK2.out 1).trans rfl; have hy2 : w97.cell? ⟨gb, 2, none⟩ = some (.int .i64 Y.f2) := (blk_cell BK2.out 2).trans rfl; have hq5 := (HB2.out.cell (p := ⟨g, 5, none⟩) GLT.out).trans hM5.out; have hxd := (HB2.out.cell (World.block_lt_of_cell? W _ HXD.out)).trans HXD.out; have BKP2 : Aside0 (w97.heap[gp]? = some (.cells #[.int .i64 kd, .int .i64 lp, .int .i64 (n : Int)] 60 (0, 0))) := ⟨by rw [hw97]; exact blk_other (blk_other (blk_other BKP1.out _ _ GNE.out _) _ _ GNE.out _) _ _ GNE.out _⟩; have hp1 : w97.cell? ⟨gp, 1, none⟩ = some (.int .i64 lp) := (blk_cell BKP2.out 1).trans rfl; clear hz0 hz1 hz2 hf0 hf1 hf2 hw97))
       cases hs : (Y.f1 == X.f1) with
       | false =>
        rw [hs] at hq'
        obtain rfl : q = true := by rw [← hq']; rfl
        clear hq'
        repeat (go_quiet (fail); try go_wp2)
        go_roundg k1
        case measure => omega
        case rel => exact ⟨i + 1, congrArg (Value.int .i64) HW.out, ⟨by have := HI.out; omega⟩, ⟨fun j hj => by
           by_cases hji : j < i
           ·
            exact HN.out j hji
           ·
            obtain rfl : j = i := by omega
            exact HQ.out⟩, ⟨mb_ HB2.out⟩, ⟨BKP2.out⟩⟩
       | true =>
        rw [hs, Bool.true_and] at hq'
        cases hd' : decide (d ≤ lp) with
        | false =>
         rw [hd'] at hq'
         obtain rfl : q = true := by rw [← hq']; rfl
         clear hq'
         repeat (go_quiet (fail); try go_wp2)
         go_roundg k1
         case measure => omega
         case rel => exact ⟨i + 1, congrArg (Value.int .i64) HW.out, ⟨by have := HI.out; omega⟩, ⟨fun j hj => by
           by_cases hji : j < i
           ·
            exact HN.out j hji
           ·
            obtain rfl : j = i := by omega
            exact HQ.out⟩, ⟨mb_ HB2.out⟩, ⟨BKP2.out⟩⟩
        | true =>
         rw [hd'] at hq'
         obtain rfl : q = false := by rw [← hq']; rfl
         obtain rfl : r = false := HR.out.symm.trans (freeB_no _ _ _ _ _ i HII.out HQ.out)
         clear hq'
         repeat (go_quiet (fail); try go_wp2)
         go_ret
         exact ⟨rfl, mb_ HB2.out⟩
    | true =>
     cases p2 with
     | false =>
      have HR : Aside0 (freeB l1 done X.f1 lp n = r) := ⟨by simpa using hr⟩
      clear hr
      have j5 : (n ≤ c1) = True := eq_true (by have := HM.out.cap1; have := HNL.out; omega)
      have j6 : ((n : Int) ≤ (c1 : Int)) = True := eq_true (by have := HM.out.cap1; have := HNL.out; omega)
      have j7 : (c1 < n) = False := eq_false (by have := HM.out.cap1; have := HNL.out; omega)
      go_wp2_with (first | (go_at_call 29; (with_reducible refine (steps_Plan_sided.calls A0 c0 l0 _ c1 l1 a2 a3 1 true _ (Kd.C_below HM.out.laps (mb_ HB1.out)) HM.out.cap0 (Kd.C_below HM.out.works (mb_ HB1.out)) HM.out.cap1 HP1.out).mono ?_); rintro e w12 ⟨rfl, hb⟩; have HB2 : Aside0 (Below W.heap.size W w12) := ⟨Below.trans (mb_ HB1.out) (hb.mono HB1.out.size)⟩; have BK2 : Aside0 (w12.heap[gp]? = some (.cells #[.int .i64 kd, .int .i64 lp, .int .i64 (n : Int)] 60 (0, 0))) := ⟨(hb.block _ (blk_lt_ BK1.out)).trans BK1.out⟩; clear hb hq0 hq1 hq2 hq3 hq4 hq5 hq6 hp0 hp1 hp2; have hp0 : w12.cell? ⟨gp, 0, none⟩ = some (.int .i64 kd) := (blk_cell BK2.out 0).trans rfl; have hp1 : w12.cell? ⟨gp, 1, none⟩ = some (.int .i64 lp) := (blk_cell BK2.out 1).trans rfl; have hp2 : w12.cell? ⟨gp, 2, none⟩ = some (.int .i64 (n : Int)) := (blk_cell BK2.out 2).trans rfl; have hq0 := (HB2.out.cell (p := ⟨g, 0, none⟩) GLT.out).trans hM0.out; have hq1 := (HB2.out.cell (p := ⟨g, 1, none⟩) GLT.out).trans hM1.out; have hq2 := (HB2.out.cell (p := ⟨g, 2, none⟩) GLT.out).trans hM2.out; have hq3 := (HB2.out.cell (p := ⟨g, 3, none⟩) GLT.out).trans hM3.out; have hq4 := (HB2.out.cell (p := ⟨g, 4, none⟩) GLT.out).trans hM4.out; have hq5 := (HB2.out.cell (p := ⟨g, 5, none⟩) GLT.out).trans hM5.out; have hq6 := (HB2.out.cell (p := ⟨g, 6, none⟩) GLT.out).trans hM6.out) | (go_at_call 29; (with_reducible refine (steps_Plan_sided.calls A0 c0 l0 _ c1 l1 a2 a3 2 false _ (Kd.C_below HM.out.laps (mb_ HB2.out)) HM.out.cap0 (Kd.C_below HM.out.works (mb_ HB2.out)) HM.out.cap1 HP2.out).mono ?_); rintro e w13 ⟨rfl, hb⟩; have HB3 : Aside0 (Below W.heap.size W w13) := ⟨Below.trans (mb_ HB2.out) (hb.mono HB2.out.size)⟩; have BK3 : Aside0 (w13.heap[gp]? = some (.cells #[.int .i64 kd, .int .i64 lp, .int .i64 (n : Int)] 60 (0, 0))) := ⟨(hb.block _ (blk_lt_ BK2.out)).trans BK2.out⟩; clear hb hq0 hq1 hq2 hq3 hq4 hq5 hq6 hp0 hp1 hp2; have hp0 : w13.cell? ⟨gp, 0, none⟩ = some (.int .i64 kd) := (blk_cell BK3.out 0).trans rfl; have hp1 : w13.cell? ⟨gp, 1, none⟩ = some (.int .i64 lp) := (blk_cell BK3.out 1).trans rfl; have hp2 : w13.cell? ⟨gp, 2, none⟩ = some (.int .i64 (n : Int)) := (blk_cell BK3.out 2).trans rfl; have hq0 := (HB3.out.cell (p := ⟨g, 0, none⟩) GLT.out).trans hM0.out; have hq1 := (HB3.out.cell (p := ⟨g, 1, none⟩) GLT.out).trans hM1.out; have hq2 := (HB3.out.cell (p := ⟨g, 2, none⟩) GLT.out).trans hM2.out; have hq3 := (HB3.out.cell (p := ⟨g, 3, none⟩) GLT.out).trans hM3.out; have hq4 := (HB3.out.cell (p := ⟨g, 4, none⟩) GLT.out).trans hM4.out; have hq5 := (HB3.out.cell (p := ⟨g, 5, none⟩) GLT.out).trans hM5.out; have hq6 := (HB3.out.cell (p := ⟨g, 6, none⟩) GLT.out).trans hM6.out))
      go_quiet (fail)
      go_wp2
      clear hq0 hq1 hq2 hq3 hq4 hq5 hq6 hp0 hp1 hp2
      go_loopg [81] n (fun kq v81 w' => ∃ i : Nat, v81 = .int .i64 (i : Int) ∧ Aside0 (i + kq = n) ∧ Aside0 (∀ j, j < i → freeAt l1 done X.f1 lp j = true) ∧ Aside0 (Below W.heap.size W w') ∧ Aside0 (w'.heap[gp]? = some (.cells #[.int .i64 kd, .int .i64 lp, .int .i64 (n : Int)] 60 (0, 0))))
      case atStart => exact ⟨0, rfl, ⟨by omega⟩, ⟨fun _ h => absurd h (by omega)⟩, ⟨mb_ HB3.out⟩, ⟨BK3.out⟩⟩
      case round =>
       skip
       obtain ⟨i, rfl, HI, HN, HBP, HBK⟩ := hrel
       cases gk with
       | zero =>
        have hi : i = n := by have := HI.out; omega
        have c1 : decide ((i : Int) < (n : Int)) = false := decide_eq_false (by omega)
        have c2 : decide (i < n) = false := decide_eq_false (by omega)
        obtain rfl : r = true := HR.out.symm.trans (freeB_yes _ _ _ _ _ (fun j hj => HN.out j (by omega)))
        clear hi
        go_wp2
        go_ret
        exact ⟨rfl, HBP.out⟩
       | succ k1 =>
        have hi : i < n := by have := HI.out; omega
        have c1 : decide ((i : Int) < (n : Int)) = true := decide_eq_true (by omega)
        have c2 : decide (i < n) = true := decide_eq_true hi
        have c3 : ((i : Int) < (n : Int)) = True := eq_true (by omega)
        have c4 : (0 ≤ (i : Int)) = True := eq_true (by omega)
        have c5 : ((i : Int) < (done.length : Int)) = True := eq_true (by have := HM.out.len; have := HNL.out; omega)
        have c6 : (i < done.length) = True := eq_true (by have := HM.out.len; have := HNL.out; omega)
        obtain ⟨ad, e1, hx0, hx1, hx2⟩ := at_T51 HM.out.works (i : Int) (by omega) (by have := HNL.out; omega)
        obtain ⟨adx, e2, hxd0⟩ := Kd.at_int HM.out.row (i : Int) (by omega) (by have := HM.out.len; have := HNL.out; omega)
        obtain rfl := Option.some.inj e1
        obtain rfl := Option.some.inj e2
        rw [Int.toNat_natCast] at hx0 hx1 hx2 hxd0
        replace hx0 := (HBP.out.cell (World.block_lt_of_cell? W _ hx0)).trans hx0
        replace hx1 := (HBP.out.cell (World.block_lt_of_cell? W _ hx1)).trans hx1
        replace hx2 := (HBP.out.cell (World.block_lt_of_cell? W _ hx2)).trans hx2
        have hX : rd_T51 l1 (i : Int) = l1.getD i z51 := by unfold rd_T51; rw [Int.toNat_natCast]
        have hD : rd done (i : Int) = done.getD i 0 := by unfold rd; rw [Int.toNat_natCast]
        rw [hX] at hx0 hx1 hx2
        rw [hD] at hxd0
        have HXD := Aside0.mk hxd0
        have HII := Aside0.mk hi
        have HW := Aside0.mk (wrap_i i (by have := HM.out.few; have := HNL.out; omega))
        obtain ⟨q, hq⟩ : ∃ q, freeAt l1 done X.f1 lp i = q := ⟨_, rfl⟩
        have HQ := Aside0.mk hq
        have hq' := hq
        unfold freeAt at hq'
        clear hi hX hD hxd0 hq
        generalize l1.getD i z51 = Y at *
        generalize done.getD i 0 = d at *
        go_upto_region 9 with (first | ((with_reducible refine gate_dst (N := 7) rfl ?_); (try (refine gate_guard (by rfl) ?_; dsimp only)); refine bev (N := 7) (cs := #[.string (⟨#[]⟩ : ByteArray), .int .i64 0, .int .i64 0]) (t := 51) ?_; intro gb hg w6 hbox hb; have BK1 := Aside0.mk hbox; have HB1 := Aside0.mk (HBP.out.trans (hb.mono HBP.out.size)); have GW := Aside0.mk ((by rw [hg]; exact HBP.out.size) : W.heap.size ≤ gb); have hz0 : w6.cell? ⟨gb, 0, none⟩ = some (.string (⟨#[]⟩ : ByteArray)) := (blk_cell BK1.out 0).trans rfl; have hz1 : w6.cell? ⟨gb, 1, none⟩ = some (.int .i64 0) := (blk_cell BK1.out 1).trans rfl; have hz2 : w6.cell? ⟨gb, 2, none⟩ = some (.int .i64 0) := (blk_cell BK1.out 2).trans rfl; have hf0 := blk_frozen BK1.out 0; have hf1 := blk_frozen BK1.out 1; have hf2 := blk_frozen BK1.out 2; have BKP1 := Aside0.mk ((hb.block _ (blk_lt_ HBK.out)).trans HBK.out); have GNE : Aside0 (gp ≠ gb) := ⟨by have h9 := blk_lt_ HBK.out; rw [hg]; exact Nat.ne_of_lt h9⟩; clear hb hbox hg) | ((with_reducible refine gate_store (t := 51) (p := 7) rfl ?_); refine store_event (t := 51) (p := 7) (v := ?vsm) (w1 := (((w6.setCell ⟨gb, 0, none⟩ (.string Y.f0)).setCell ⟨gb, 1, none⟩ (.int .i64 Y.f1)).setCell ⟨gb, 2, none⟩ (.int .i64 Y.f2))) ?hg ?ho ?hn ?hr ?_; (case ho => rfl); (case hg => rfl); (case hn => rfl); (case hr => (simp only [execOp]); (rw [show Act.eval _ (.tmp 7) = .pointer (some ⟨gb, 0, none⟩) from rfl, show Act.eval _ (.tmp 85) = .agg #[.string Y.f0, .int .i64 Y.f1, .int .i64 Y.f2] from rfl]); exact st93 _ _ _ _ _ hz0 hz1 hz2 hf0 hf1 hf2); intro w97 hw97; have BK2 : Aside0 (w97.heap[gb]? = some (.cells #[.string Y.f0, .int .i64 Y.f1, .int .i64 Y.f2] 51 (0, 0))) := ⟨by rw [hw97]; refine blk_put (cs := #[.string Y.f0, .int .i64 Y.f1, .int .i64 0]) ?_ 2 _ rfl; refine blk_put (cs := #[.string Y.f0, .int .i64 0, .int .i64 0]) ?_ 1 _ rfl; refine blk_put (cs := #[.string (⟨#[]⟩ : ByteArray), .int .i64 0, .int .i64 0]) ?_ 0 _ rfl; exact BK1.out⟩; have HB2 := Aside0.mk (((HB1.out.setCell (p := ⟨gb, 0, none⟩) GW.out (.string Y.f0)).setCell (p := ⟨gb, 1, none⟩) GW.out (.int .i64 Y.f1)).setCell (p := ⟨gb, 2, none⟩) GW.out (.int .i64 Y.f2)); rw [← hw97] at HB2; have hy0 : w97.cell? ⟨gb, 0, none⟩ = some (.string Y.f0) := (blk_cell BK2.out 0).trans rfl; have hy1 : w97.cell? ⟨gb, 1, none⟩ = some (.int .i64 Y.f1) := (blk_cell BK2.out 1).trans rfl; have hy2 : w97.cell? ⟨gb, 2, none⟩ = some (.int .i64 Y.f2) := (blk_cell BK2.out 2).trans rfl; have hq5 := (HB2.out.cell (p := ⟨g, 5, none⟩) GLT.out).trans hM5.out; have hxd := (HB2.out.cell (World.block_lt_of_cell? W _ HXD.out)).trans HXD.out; have BKP2 : Aside0 (w97.heap[gp]? = some (.cells #[.int .i64 kd, .int .i64 lp, .int .i64 (n : Int)] 60 (0, 0))) := ⟨by rw [hw97]; exact blk_other (blk_other (blk_other BKP1.out _ _ GNE.out _) _ _ GNE.out _) _ _ GNE.out _⟩; have hp1 : w97.cell? ⟨gp, 1, none⟩ = some (.int .i64 lp) := (blk_cell BKP2.out 1).trans rfl; clear hz0 hz1 hz2 hf0 hf1 hf2 hw97))
        cases hs : (Y.f1 == X.f1) with
        | false =>
         rw [hs] at hq'
         obtain rfl : q = true := by rw [← hq']; rfl
         clear hq'
         repeat (go_quiet (fail); try go_wp2)
         go_roundg k1
         case measure => omega
         case rel => exact ⟨i + 1, congrArg (Value.int .i64) HW.out, ⟨by have := HI.out; omega⟩, ⟨fun j hj => by
            by_cases hji : j < i
            ·
             exact HN.out j hji
            ·
             obtain rfl : j = i := by omega
             exact HQ.out⟩, ⟨mb_ HB2.out⟩, ⟨BKP2.out⟩⟩
        | true =>
         rw [hs, Bool.true_and] at hq'
         cases hd' : decide (d ≤ lp) with
         | false =>
          rw [hd'] at hq'
          obtain rfl : q = true := by rw [← hq']; rfl
          clear hq'
          repeat (go_quiet (fail); try go_wp2)
          go_roundg k1
          case measure => omega
          case rel => exact ⟨i + 1, congrArg (Value.int .i64) HW.out, ⟨by have := HI.out; omega⟩, ⟨fun j hj => by
            by_cases hji : j < i
            ·
             exact HN.out j hji
            ·
             obtain rfl : j = i := by omega
             exact HQ.out⟩, ⟨mb_ HB2.out⟩, ⟨BKP2.out⟩⟩
         | true =>
          rw [hd'] at hq'
          obtain rfl : q = false := by rw [← hq']; rfl
          obtain rfl : r = false := HR.out.symm.trans (freeB_no _ _ _ _ _ i HII.out HQ.out)
          clear hq'
          repeat (go_quiet (fail); try go_wp2)
          go_ret
          exact ⟨rfl, mb_ HB2.out⟩
     | true =>
      cases hmv : (moved != (X.f1 == 2)) with
      | true =>
       have hmv2 : (!(moved == (X.f1 == 2))) = true := hmv
       rw [hmv] at hr
       obtain rfl : r = false := by simpa using hr.symm
       clear hr
       go_wp2_with (first | (go_at_call 29; (with_reducible refine (steps_Plan_sided.calls A0 c0 l0 _ c1 l1 a2 a3 1 true _ (Kd.C_below HM.out.laps (mb_ HB1.out)) HM.out.cap0 (Kd.C_below HM.out.works (mb_ HB1.out)) HM.out.cap1 HP1.out).mono ?_); rintro e w12 ⟨rfl, hb⟩; have HB2 : Aside0 (Below W.heap.size W w12) := ⟨Below.trans (mb_ HB1.out) (hb.mono HB1.out.size)⟩; have BK2 : Aside0 (w12.heap[gp]? = some (.cells #[.int .i64 kd, .int .i64 lp, .int .i64 (n : Int)] 60 (0, 0))) := ⟨(hb.block _ (blk_lt_ BK1.out)).trans BK1.out⟩; clear hb hq0 hq1 hq2 hq3 hq4 hq5 hq6 hp0 hp1 hp2; have hp0 : w12.cell? ⟨gp, 0, none⟩ = some (.int .i64 kd) := (blk_cell BK2.out 0).trans rfl; have hp1 : w12.cell? ⟨gp, 1, none⟩ = some (.int .i64 lp) := (blk_cell BK2.out 1).trans rfl; have hp2 : w12.cell? ⟨gp, 2, none⟩ = some (.int .i64 (n : Int)) := (blk_cell BK2.out 2).trans rfl; have hq0 := (HB2.out.cell (p := ⟨g, 0, none⟩) GLT.out).trans hM0.out; have hq1 := (HB2.out.cell (p := ⟨g, 1, none⟩) GLT.out).trans hM1.out; have hq2 := (HB2.out.cell (p := ⟨g, 2, none⟩) GLT.out).trans hM2.out; have hq3 := (HB2.out.cell (p := ⟨g, 3, none⟩) GLT.out).trans hM3.out; have hq4 := (HB2.out.cell (p := ⟨g, 4, none⟩) GLT.out).trans hM4.out; have hq5 := (HB2.out.cell (p := ⟨g, 5, none⟩) GLT.out).trans hM5.out; have hq6 := (HB2.out.cell (p := ⟨g, 6, none⟩) GLT.out).trans hM6.out) | (go_at_call 29; (with_reducible refine (steps_Plan_sided.calls A0 c0 l0 _ c1 l1 a2 a3 2 true _ (Kd.C_below HM.out.laps (mb_ HB2.out)) HM.out.cap0 (Kd.C_below HM.out.works (mb_ HB2.out)) HM.out.cap1 HP2.out).mono ?_); rintro e w13 ⟨rfl, hb⟩; have HB3 : Aside0 (Below W.heap.size W w13) := ⟨Below.trans (mb_ HB2.out) (hb.mono HB2.out.size)⟩; have BK3 : Aside0 (w13.heap[gp]? = some (.cells #[.int .i64 kd, .int .i64 lp, .int .i64 (n : Int)] 60 (0, 0))) := ⟨(hb.block _ (blk_lt_ BK2.out)).trans BK2.out⟩; clear hb hq0 hq1 hq2 hq3 hq4 hq5 hq6 hp0 hp1 hp2; have hp0 : w13.cell? ⟨gp, 0, none⟩ = some (.int .i64 kd) := (blk_cell BK3.out 0).trans rfl; have hp1 : w13.cell? ⟨gp, 1, none⟩ = some (.int .i64 lp) := (blk_cell BK3.out 1).trans rfl; have hp2 : w13.cell? ⟨gp, 2, none⟩ = some (.int .i64 (n : Int)) := (blk_cell BK3.out 2).trans rfl; have hq0 := (HB3.out.cell (p := ⟨g, 0, none⟩) GLT.out).trans hM0.out; have hq1 := (HB3.out.cell (p := ⟨g, 1, none⟩) GLT.out).trans hM1.out; have hq2 := (HB3.out.cell (p := ⟨g, 2, none⟩) GLT.out).trans hM2.out; have hq3 := (HB3.out.cell (p := ⟨g, 3, none⟩) GLT.out).trans hM3.out; have hq4 := (HB3.out.cell (p := ⟨g, 4, none⟩) GLT.out).trans hM4.out; have hq5 := (HB3.out.cell (p := ⟨g, 5, none⟩) GLT.out).trans hM5.out; have hq6 := (HB3.out.cell (p := ⟨g, 6, none⟩) GLT.out).trans hM6.out))
       go_ret
       exact ⟨rfl, by repeat (first | exact HB3.out | apply pw_below_drewN | apply below_drew | apply below_drew1)⟩
      | false =>
       have hmv2 : (!(moved == (X.f1 == 2))) = false := hmv
       rw [hmv] at hr
       have HR : Aside0 (freeB l1 done X.f1 lp n = r) := ⟨by simpa using hr⟩
       clear hr
       have j5 : (n ≤ c1) = True := eq_true (by have := HM.out.cap1; have := HNL.out; omega)
       have j6 : ((n : Int) ≤ (c1 : Int)) = True := eq_true (by have := HM.out.cap1; have := HNL.out; omega)
       have j7 : (c1 < n) = False := eq_false (by have := HM.out.cap1; have := HNL.out; omega)
       go_wp2_with (first | (go_at_call 29; (with_reducible refine (steps_Plan_sided.calls A0 c0 l0 _ c1 l1 a2 a3 1 true _ (Kd.C_below HM.out.laps (mb_ HB1.out)) HM.out.cap0 (Kd.C_below HM.out.works (mb_ HB1.out)) HM.out.cap1 HP1.out).mono ?_); rintro e w12 ⟨rfl, hb⟩; have HB2 : Aside0 (Below W.heap.size W w12) := ⟨Below.trans (mb_ HB1.out) (hb.mono HB1.out.size)⟩; have BK2 : Aside0 (w12.heap[gp]? = some (.cells #[.int .i64 kd, .int .i64 lp, .int .i64 (n : Int)] 60 (0, 0))) := ⟨(hb.block _ (blk_lt_ BK1.out)).trans BK1.out⟩; clear hb hq0 hq1 hq2 hq3 hq4 hq5 hq6 hp0 hp1 hp2; have hp0 : w12.cell? ⟨gp, 0, none⟩ = some (.int .i64 kd) := (blk_cell BK2.out 0).trans rfl; have hp1 : w12.cell? ⟨gp, 1, none⟩ = some (.int .i64 lp) := (blk_cell BK2.out 1).trans rfl; have hp2 : w12.cell? ⟨gp, 2, none⟩ = some (.int .i64 (n : Int)) := (blk_cell BK2.out 2).trans rfl; have hq0 := (HB2.out.cell (p := ⟨g, 0, none⟩) GLT.out).trans hM0.out; have hq1 := (HB2.out.cell (p := ⟨g, 1, none⟩) GLT.out).trans hM1.out; have hq2 := (HB2.out.cell (p := ⟨g, 2, none⟩) GLT.out).trans hM2.out; have hq3 := (HB2.out.cell (p := ⟨g, 3, none⟩) GLT.out).trans hM3.out; have hq4 := (HB2.out.cell (p := ⟨g, 4, none⟩) GLT.out).trans hM4.out; have hq5 := (HB2.out.cell (p := ⟨g, 5, none⟩) GLT.out).trans hM5.out; have hq6 := (HB2.out.cell (p := ⟨g, 6, none⟩) GLT.out).trans hM6.out) | (go_at_call 29; (with_reducible refine (steps_Plan_sided.calls A0 c0 l0 _ c1 l1 a2 a3 2 true _ (Kd.C_below HM.out.laps (mb_ HB2.out)) HM.out.cap0 (Kd.C_below HM.out.works (mb_ HB2.out)) HM.out.cap1 HP2.out).mono ?_); rintro e w13 ⟨rfl, hb⟩; have HB3 : Aside0 (Below W.heap.size W w13) := ⟨Below.trans (mb_ HB2.out) (hb.mono HB2.out.size)⟩; have BK3 : Aside0 (w13.heap[gp]? = some (.cells #[.int .i64 kd, .int .i64 lp, .int .i64 (n : Int)] 60 (0, 0))) := ⟨(hb.block _ (blk_lt_ BK2.out)).trans BK2.out⟩; clear hb hq0 hq1 hq2 hq3 hq4 hq5 hq6 hp0 hp1 hp2; have hp0 : w13.cell? ⟨gp, 0, none⟩ = some (.int .i64 kd) := (blk_cell BK3.out 0).trans rfl; have hp1 : w13.cell? ⟨gp, 1, none⟩ = some (.int .i64 lp) := (blk_cell BK3.out 1).trans rfl; have hp2 : w13.cell? ⟨gp, 2, none⟩ = some (.int .i64 (n : Int)) := (blk_cell BK3.out 2).trans rfl; have hq0 := (HB3.out.cell (p := ⟨g, 0, none⟩) GLT.out).trans hM0.out; have hq1 := (HB3.out.cell (p := ⟨g, 1, none⟩) GLT.out).trans hM1.out; have hq2 := (HB3.out.cell (p := ⟨g, 2, none⟩) GLT.out).trans hM2.out; have hq3 := (HB3.out.cell (p := ⟨g, 3, none⟩) GLT.out).trans hM3.out; have hq4 := (HB3.out.cell (p := ⟨g, 4, none⟩) GLT.out).trans hM4.out; have hq5 := (HB3.out.cell (p := ⟨g, 5, none⟩) GLT.out).trans hM5.out; have hq6 := (HB3.out.cell (p := ⟨g, 6, none⟩) GLT.out).trans hM6.out))
       go_quiet (fail)
       go_wp2
       clear hq0 hq1 hq2 hq3 hq4 hq5 hq6 hp0 hp1 hp2
       go_loopg [81] n (fun kq v81 w' => ∃ i : Nat, v81 = .int .i64 (i : Int) ∧ Aside0 (i + kq = n) ∧ Aside0 (∀ j, j < i → freeAt l1 done X.f1 lp j = true) ∧ Aside0 (Below W.heap.size W w') ∧ Aside0 (w'.heap[gp]? = some (.cells #[.int .i64 kd, .int .i64 lp, .int .i64 (n : Int)] 60 (0, 0))))
       case atStart => exact ⟨0, rfl, ⟨by omega⟩, ⟨fun _ h => absurd h (by omega)⟩, ⟨mb_ HB3.out⟩, ⟨BK3.out⟩⟩
       case round =>
        skip
        obtain ⟨i, rfl, HI, HN, HBP, HBK⟩ := hrel
        cases gk with
        | zero =>
         have hi : i = n := by have := HI.out; omega
         have c1 : decide ((i : Int) < (n : Int)) = false := decide_eq_false (by omega)
         have c2 : decide (i < n) = false := decide_eq_false (by omega)
         obtain rfl : r = true := HR.out.symm.trans (freeB_yes _ _ _ _ _ (fun j hj => HN.out j (by omega)))
         clear hi
         go_wp2
         go_ret
         exact ⟨rfl, HBP.out⟩
        | succ k1 =>
         have hi : i < n := by have := HI.out; omega
         have c1 : decide ((i : Int) < (n : Int)) = true := decide_eq_true (by omega)
         have c2 : decide (i < n) = true := decide_eq_true hi
         have c3 : ((i : Int) < (n : Int)) = True := eq_true (by omega)
         have c4 : (0 ≤ (i : Int)) = True := eq_true (by omega)
         have c5 : ((i : Int) < (done.length : Int)) = True := eq_true (by have := HM.out.len; have := HNL.out; omega)
         have c6 : (i < done.length) = True := eq_true (by have := HM.out.len; have := HNL.out; omega)
         obtain ⟨ad, e1, hx0, hx1, hx2⟩ := at_T51 HM.out.works (i : Int) (by omega) (by have := HNL.out; omega)
         obtain ⟨adx, e2, hxd0⟩ := Kd.at_int HM.out.row (i : Int) (by omega) (by have := HM.out.len; have := HNL.out; omega)
         obtain rfl := Option.some.inj e1
         obtain rfl := Option.some.inj e2
         rw [Int.toNat_natCast] at hx0 hx1 hx2 hxd0
         replace hx0 := (HBP.out.cell (World.block_lt_of_cell? W _ hx0)).trans hx0
         replace hx1 := (HBP.out.cell (World.block_lt_of_cell? W _ hx1)).trans hx1
         replace hx2 := (HBP.out.cell (World.block_lt_of_cell? W _ hx2)).trans hx2
         have hX : rd_T51 l1 (i : Int) = l1.getD i z51 := by unfold rd_T51; rw [Int.toNat_natCast]
         have hD : rd done (i : Int) = done.getD i 0 := by unfold rd; rw [Int.toNat_natCast]
         rw [hX] at hx0 hx1 hx2
         rw [hD] at hxd0
         have HXD := Aside0.mk hxd0
         have HII := Aside0.mk hi
         have HW := Aside0.mk (wrap_i i (by have := HM.out.few; have := HNL.out; omega))
         obtain ⟨q, hq⟩ : ∃ q, freeAt l1 done X.f1 lp i = q := ⟨_, rfl⟩
         have HQ := Aside0.mk hq
         have hq' := hq
         unfold freeAt at hq'
         clear hi hX hD hxd0 hq
         generalize l1.getD i z51 = Y at *
         generalize done.getD i 0 = d at *
         go_upto_region 9 with (first | ((with_reducible refine gate_dst (N := 7) rfl ?_); (try (refine gate_guard (by rfl) ?_; dsimp only)); refine bev (N := 7) (cs := #[.string (⟨#[]⟩ : ByteArray), .int .i64 0, .int .i64 0]) (t := 51) ?_; intro gb hg w6 hbox hb; have BK1 := Aside0.mk hbox; have HB1 := Aside0.mk (HBP.out.trans (hb.mono HBP.out.size)); have GW := Aside0.mk ((by rw [hg]; exact HBP.out.size) : W.heap.size ≤ gb); have hz0 : w6.cell? ⟨gb, 0, none⟩ = some (.string (⟨#[]⟩ : ByteArray)) := (blk_cell BK1.out 0).trans rfl; have hz1 : w6.cell? ⟨gb, 1, none⟩ = some (.int .i64 0) := (blk_cell BK1.out 1).trans rfl; have hz2 : w6.cell? ⟨gb, 2, none⟩ = some (.int .i64 0) := (blk_cell BK1.out 2).trans rfl; have hf0 := blk_frozen BK1.out 0; have hf1 := blk_frozen BK1.out 1; have hf2 := blk_frozen BK1.out 2; have BKP1 := Aside0.mk ((hb.block _ (blk_lt_ HBK.out)).trans HBK.out); have GNE : Aside0 (gp ≠ gb) := ⟨by have h9 := blk_lt_ HBK.out; rw [hg]; exact Nat.ne_of_lt h9⟩; clear hb hbox hg) | ((with_reducible refine gate_store (t := 51) (p := 7) rfl ?_); refine store_event (t := 51) (p := 7) (v := ?vsm) (w1 := (((w6.setCell ⟨gb, 0, none⟩ (.string Y.f0)).setCell ⟨gb, 1, none⟩ (.int .i64 Y.f1)).setCell ⟨gb, 2, none⟩ (.int .i64 Y.f2))) ?hg ?ho ?hn ?hr ?_; (case ho => rfl); (case hg => rfl); (case hn => rfl); (case hr => (simp only [execOp]); (rw [show Act.eval _ (.tmp 7) = .pointer (some ⟨gb, 0, none⟩) from rfl, show Act.eval _ (.tmp 85) = .agg #[.string Y.f0, .int .i64 Y.f1, .int .i64 Y.f2] from rfl]); exact st93 _ _ _ _ _ hz0 hz1 hz2 hf0 hf1 hf2); intro w97 hw97; have BK2 : Aside0 (w97.heap[gb]? = some (.cells #[.string Y.f0, .int .i64 Y.f1, .int .i64 Y.f2] 51 (0, 0))) := ⟨by rw [hw97]; refine blk_put (cs := #[.string Y.f0, .int .i64 Y.f1, .int .i64 0]) ?_ 2 _ rfl; refine blk_put (cs := #[.string Y.f0, .int .i64 0, .int .i64 0]) ?_ 1 _ rfl; refine blk_put (cs := #[.string (⟨#[]⟩ : ByteArray), .int .i64 0, .int .i64 0]) ?_ 0 _ rfl; exact BK1.out⟩; have HB2 := Aside0.mk (((HB1.out.setCell (p := ⟨gb, 0, none⟩) GW.out (.string Y.f0)).setCell (p := ⟨gb, 1, none⟩) GW.out (.int .i64 Y.f1)).setCell (p := ⟨gb, 2, none⟩) GW.out (.int .i64 Y.f2)); rw [← hw97] at HB2; have hy0 : w97.cell? ⟨gb, 0, none⟩ = some (.string Y.f0) := (blk_cell BK2.out 0).trans rfl; have hy1 : w97.cell? ⟨gb, 1, none⟩ = some (.int .i64 Y.f1) := (blk_cell BK2.out 1).trans rfl; have hy2 : w97.cell? ⟨gb, 2, none⟩ = some (.int .i64 Y.f2) := (blk_cell BK2.out 2).trans rfl; have hq5 := (HB2.out.cell (p := ⟨g, 5, none⟩) GLT.out).trans hM5.out; have hxd := (HB2.out.cell (World.block_lt_of_cell? W _ HXD.out)).trans HXD.out; have BKP2 : Aside0 (w97.heap[gp]? = some (.cells #[.int .i64 kd, .int .i64 lp, .int .i64 (n : Int)] 60 (0, 0))) := ⟨by rw [hw97]; exact blk_other (blk_other (blk_other BKP1.out _ _ GNE.out _) _ _ GNE.out _) _ _ GNE.out _⟩; have hp1 : w97.cell? ⟨gp, 1, none⟩ = some (.int .i64 lp) := (blk_cell BKP2.out 1).trans rfl; clear hz0 hz1 hz2 hf0 hf1 hf2 hw97))
         cases hs : (Y.f1 == X.f1) with
         | false =>
          rw [hs] at hq'
          obtain rfl : q = true := by rw [← hq']; rfl
          clear hq'
          repeat (go_quiet (fail); try go_wp2)
          go_roundg k1
          case measure => omega
          case rel => exact ⟨i + 1, congrArg (Value.int .i64) HW.out, ⟨by have := HI.out; omega⟩, ⟨fun j hj => by
             by_cases hji : j < i
             ·
              exact HN.out j hji
             ·
              obtain rfl : j = i := by omega
              exact HQ.out⟩, ⟨mb_ HB2.out⟩, ⟨BKP2.out⟩⟩
         | true =>
          rw [hs, Bool.true_and] at hq'
          cases hd' : decide (d ≤ lp) with
          | false =>
           rw [hd'] at hq'
           obtain rfl : q = true := by rw [← hq']; rfl
           clear hq'
           repeat (go_quiet (fail); try go_wp2)
           go_roundg k1
           case measure => omega
           case rel => exact ⟨i + 1, congrArg (Value.int .i64) HW.out, ⟨by have := HI.out; omega⟩, ⟨fun j hj => by
             by_cases hji : j < i
             ·
              exact HN.out j hji
             ·
              obtain rfl : j = i := by omega
              exact HQ.out⟩, ⟨mb_ HB2.out⟩, ⟨BKP2.out⟩⟩
          | true =>
           rw [hd'] at hq'
           obtain rfl : q = false := by rw [← hq']; rfl
           obtain rfl : r = false := HR.out.symm.trans (freeB_no _ _ _ _ _ i HII.out HQ.out)
           clear hq'
           repeat (go_quiet (fail); try go_wp2)
           go_ret
           exact ⟨rfl, mb_ HB2.out⟩
def stepF (n0 : Nat) (l1 : List S51) (lap : Int) (done : List Int) (moved : Bool) (s : S60) : Option (Int × List Int × Bool) :=
 if s.f0 = 1 then (if (s.f2 == 0 && (inB s.f1 0 ((n0 : Int) - 1) && !(s.f1 == lap))) then some (s.f1, done, moved) else none)
 else if s.f0 = 2 then (if (s.f1 == 0 && (s.f2 == 0 && (!moved && (sidB l1 1 && (sidB l1 2 && finB n0 l1 done 1))))) then some (lap, done, true) else none)
 else if s.f0 = 3 then (if cutB l1 lap done moved s then some (lap, done.set s.f2.toNat (rd done s.f2 + 1), moved) else none)
 else none
set_option maxHeartbeats 8000000 in
set_option maxRecDepth 100000 in
theorem step1.calls (w0 W : World) (g k : Nat) (A0 : Option Addr) (c0 : Nat) (l0 : List S49) (A1 : Option Addr) (c1 : Nat) (l1 : List S51) (a2 a3 lap : Int) (done : List Int) (moved : Bool) (lp wk : Int) (r : Option (Int × List Int × Bool)) (hM : Mach w0 W g k A0 c0 l0 A1 c1 l1 a2 a3 lap done moved) (hr : stepF l0.length l1 lap done moved ⟨1, lp, wk⟩ = r) :
  Calls Tryd.prog 20 #[.pointer (some ⟨g, 0, none⟩), .agg #[.int .i64 1, .int .i64 lp, .int .i64 wk]] W fun e w' => e = .returned (.bool r.isSome) ∧ Mach w0 w' g k A0 c0 l0 A1 c1 l1 a2 a3 (r.getD (lap, done, moved)).1 (r.getD (lap, done, moved)).2.1 (r.getD (lap, done, moved)).2.2 := by
 have hu62 := Tryd.underlying60
 have hu59 := Tryd.underlying35
 have HMM := Aside0.mk hM
 have HM := Aside0.mk hM.isM
 have GLT := Aside0.mk (blk_lt_ hM.blk)
 have hM0 : Aside0 (W.cell? ⟨g, 0, none⟩ = some (.slice A0 l0.length c0)) := ⟨(blk_cell HM.out.blk 0).trans rfl⟩
 have hM1 : Aside0 (W.cell? ⟨g, 1, none⟩ = some (.slice A1 l1.length c1)) := ⟨(blk_cell HM.out.blk 1).trans rfl⟩
 have hM2 : Aside0 (W.cell? ⟨g, 2, none⟩ = some (.int .i64 a2)) := ⟨(blk_cell HM.out.blk 2).trans rfl⟩
 have hM3 : Aside0 (W.cell? ⟨g, 3, none⟩ = some (.int .i64 a3)) := ⟨(blk_cell HM.out.blk 3).trans rfl⟩
 have hM4 : Aside0 (W.cell? ⟨g, 4, none⟩ = some (.int .i64 lap)) := ⟨(blk_cell HM.out.blk 4).trans rfl⟩
 have hM5 : Aside0 (W.cell? ⟨g, 5, none⟩ = some (.slice (some ⟨k, 0, none⟩) done.length done.length)) := ⟨(blk_cell HM.out.blk 5).trans rfl⟩
 have hM6 : Aside0 (W.cell? ⟨g, 6, none⟩ = some (.bool moved)) := ⟨(blk_cell HM.out.blk 6).trans rfl⟩
 have HW0 : Aside0 (IntKind.i64.wrap ((l0.length : Int) - 1) = (l0.length : Int) - 1) := ⟨by have := HMM.out.few0; rw [IntKind.wrap_i64]; omega⟩
 unfold stepF at hr
 dsimp only at hr
 clear hM
 rw [if_pos rfl] at hr
 have hwr := HW0.out
 cases h1 : (wk == 0) with
 | false =>
  rw [h1, Bool.false_and, if_neg (by simp)] at hr
  obtain rfl := hr
  have h1n : (wk != 0) = true := by unfold bne; rw [h1]; rfl
  go_enter Tryd.func20, Tryd.ntmps20
  go_wp2_with (first | ((with_reducible refine gate_dst (N := 3) rfl ?_); refine bev (N := 3) (cs := #[.int .i64 1, .int .i64 lp, .int .i64 wk]) (t := 60) ?_; intro gp hg w6 hbox hb; have BK1 := Aside0.mk hbox; have HB1 := Aside0.mk hb; have hp0 : w6.cell? ⟨gp, 0, none⟩ = some (.int .i64 1) := (blk_cell BK1.out 0).trans rfl; have hp1 : w6.cell? ⟨gp, 1, none⟩ = some (.int .i64 lp) := (blk_cell BK1.out 1).trans rfl; have hp2 : w6.cell? ⟨gp, 2, none⟩ = some (.int .i64 wk) := (blk_cell BK1.out 2).trans rfl; have hq0 := (HB1.out.cell (p := ⟨g, 0, none⟩) GLT.out).trans hM0.out; have hq1 := (HB1.out.cell (p := ⟨g, 1, none⟩) GLT.out).trans hM1.out; have hq2 := (HB1.out.cell (p := ⟨g, 2, none⟩) GLT.out).trans hM2.out; have hq3 := (HB1.out.cell (p := ⟨g, 3, none⟩) GLT.out).trans hM3.out; have hq4 := (HB1.out.cell (p := ⟨g, 4, none⟩) GLT.out).trans hM4.out; have hq5 := (HB1.out.cell (p := ⟨g, 5, none⟩) GLT.out).trans hM5.out; have hq6 := (HB1.out.cell (p := ⟨g, 6, none⟩) GLT.out).trans hM6.out; have hf4 := blk_frozen (blk_below HM.out.blk (Below.mono (show Below W.heap.size W w6 from HB1.out) (Nat.le_refl _))) 4; clear hb hbox hg))
  go_quiet (fail)
  go_wp2
  go_ret
  exact ⟨rfl, HMM.out.below (by repeat (first | exact HB1.out | apply pw_below_drewN | apply below_drew | apply below_drew1))⟩
 | true =>
  rw [h1, Bool.true_and] at hr
  have h1n : (wk != 0) = false := by unfold bne; rw [h1]; rfl
  cases h2 : inB lp 0 ((l0.length : Int) - 1) with
  | false =>
   rw [h2, Bool.false_and, if_neg (by simp)] at hr
   obtain rfl := hr
   have HI1 := Aside0.mk (in_as _ _ _ _ h2)
   clear h2
   go_enter Tryd.func20, Tryd.ntmps20
   go_wp2_with (first | ((with_reducible refine gate_dst (N := 3) rfl ?_); refine bev (N := 3) (cs := #[.int .i64 1, .int .i64 lp, .int .i64 wk]) (t := 60) ?_; intro gp hg w6 hbox hb; have BK1 := Aside0.mk hbox; have HB1 := Aside0.mk hb; have hp0 : w6.cell? ⟨gp, 0, none⟩ = some (.int .i64 1) := (blk_cell BK1.out 0).trans rfl; have hp1 : w6.cell? ⟨gp, 1, none⟩ = some (.int .i64 lp) := (blk_cell BK1.out 1).trans rfl; have hp2 : w6.cell? ⟨gp, 2, none⟩ = some (.int .i64 wk) := (blk_cell BK1.out 2).trans rfl; have hq0 := (HB1.out.cell (p := ⟨g, 0, none⟩) GLT.out).trans hM0.out; have hq1 := (HB1.out.cell (p := ⟨g, 1, none⟩) GLT.out).trans hM1.out; have hq2 := (HB1.out.cell (p := ⟨g, 2, none⟩) GLT.out).trans hM2.out; have hq3 := (HB1.out.cell (p := ⟨g, 3, none⟩) GLT.out).trans hM3.out; have hq4 := (HB1.out.cell (p := ⟨g, 4, none⟩) GLT.out).trans hM4.out; have hq5 := (HB1.out.cell (p := ⟨g, 5, none⟩) GLT.out).trans hM5.out; have hq6 := (HB1.out.cell (p := ⟨g, 6, none⟩) GLT.out).trans hM6.out; have hf4 := blk_frozen (blk_below HM.out.blk (Below.mono (show Below W.heap.size W w6 from HB1.out) (Nat.le_refl _))) 4; clear hb hbox hg))
   go_quiet ((go_at_call 30; refine Calls.quiet_of ((steps_in.calls lp 0 ((l0.length : Int) - 1) false _ HI1.out).mono (fun e w1 h => ⟨h.1, h.2.out⟩))))
   go_wp2
   go_ret
   exact ⟨rfl, HMM.out.below (by repeat (first | exact HB1.out | apply pw_below_drewN | apply below_drew | apply below_drew1))⟩
  | true =>
   rw [h2, Bool.true_and] at hr
   have HI1 := Aside0.mk (in_as _ _ _ _ h2)
   have HLB : Aside0 (-1 ≤ lp ∧ lp < 100000) := ⟨by
    have := HMM.out.few0
    have h9 : 0 ≤ lp ∧ lp ≤ (l0.length : Int) - 1 := by
     unfold inB at h2
     simpa using h2
    omega⟩
   clear h2
   cases h3 : (lp == lap) with
   | true =>
    rw [h3, if_neg (by simp)] at hr
    obtain rfl := hr
    go_enter Tryd.func20, Tryd.ntmps20
    go_wp2_with (first | ((with_reducible refine gate_dst (N := 3) rfl ?_); refine bev (N := 3) (cs := #[.int .i64 1, .int .i64 lp, .int .i64 wk]) (t := 60) ?_; intro gp hg w6 hbox hb; have BK1 := Aside0.mk hbox; have HB1 := Aside0.mk hb; have hp0 : w6.cell? ⟨gp, 0, none⟩ = some (.int .i64 1) := (blk_cell BK1.out 0).trans rfl; have hp1 : w6.cell? ⟨gp, 1, none⟩ = some (.int .i64 lp) := (blk_cell BK1.out 1).trans rfl; have hp2 : w6.cell? ⟨gp, 2, none⟩ = some (.int .i64 wk) := (blk_cell BK1.out 2).trans rfl; have hq0 := (HB1.out.cell (p := ⟨g, 0, none⟩) GLT.out).trans hM0.out; have hq1 := (HB1.out.cell (p := ⟨g, 1, none⟩) GLT.out).trans hM1.out; have hq2 := (HB1.out.cell (p := ⟨g, 2, none⟩) GLT.out).trans hM2.out; have hq3 := (HB1.out.cell (p := ⟨g, 3, none⟩) GLT.out).trans hM3.out; have hq4 := (HB1.out.cell (p := ⟨g, 4, none⟩) GLT.out).trans hM4.out; have hq5 := (HB1.out.cell (p := ⟨g, 5, none⟩) GLT.out).trans hM5.out; have hq6 := (HB1.out.cell (p := ⟨g, 6, none⟩) GLT.out).trans hM6.out; have hf4 := blk_frozen (blk_below HM.out.blk (Below.mono (show Below W.heap.size W w6 from HB1.out) (Nat.le_refl _))) 4; clear hb hbox hg))
    go_quiet ((go_at_call 30; refine Calls.quiet_of ((steps_in.calls lp 0 ((l0.length : Int) - 1) true _ HI1.out).mono (fun e w1 h => ⟨h.1, h.2.out⟩))))
    go_wp2
    go_ret
    exact ⟨rfl, HMM.out.below (by repeat (first | exact HB1.out | apply pw_below_drewN | apply below_drew | apply below_drew1))⟩
   | false =>
    rw [h3, if_pos (by simp)] at hr
    obtain rfl := hr
    go_enter Tryd.func20, Tryd.ntmps20
    go_wp2_with (first | ((with_reducible refine gate_dst (N := 3) rfl ?_); refine bev (N := 3) (cs := #[.int .i64 1, .int .i64 lp, .int .i64 wk]) (t := 60) ?_; intro gp hg w6 hbox hb; have BK1 := Aside0.mk hbox; have HB1 := Aside0.mk hb; have hp0 : w6.cell? ⟨gp, 0, none⟩ = some (.int .i64 1) := (blk_cell BK1.out 0).trans rfl; have hp1 : w6.cell? ⟨gp, 1, none⟩ = some (.int .i64 lp) := (blk_cell BK1.out 1).trans rfl; have hp2 : w6.cell? ⟨gp, 2, none⟩ = some (.int .i64 wk) := (blk_cell BK1.out 2).trans rfl; have hq0 := (HB1.out.cell (p := ⟨g, 0, none⟩) GLT.out).trans hM0.out; have hq1 := (HB1.out.cell (p := ⟨g, 1, none⟩) GLT.out).trans hM1.out; have hq2 := (HB1.out.cell (p := ⟨g, 2, none⟩) GLT.out).trans hM2.out; have hq3 := (HB1.out.cell (p := ⟨g, 3, none⟩) GLT.out).trans hM3.out; have hq4 := (HB1.out.cell (p := ⟨g, 4, none⟩) GLT.out).trans hM4.out; have hq5 := (HB1.out.cell (p := ⟨g, 5, none⟩) GLT.out).trans hM5.out; have hq6 := (HB1.out.cell (p := ⟨g, 6, none⟩) GLT.out).trans hM6.out; have hf4 := blk_frozen (blk_below HM.out.blk (Below.mono (show Below W.heap.size W w6 from HB1.out) (Nat.le_refl _))) 4; clear hb hbox hg))
    go_quiet ((go_at_call 30; refine Calls.quiet_of ((steps_in.calls lp 0 ((l0.length : Int) - 1) true _ HI1.out).mono (fun e w1 h => ⟨h.1, h.2.out⟩))))
    go_wp2
    go_ret
    exact ⟨rfl, (HMM.out.below (mb_ HB1.out)).setLap lp HLB.out⟩
set_option maxHeartbeats 8000000 in
set_option maxRecDepth 100000 in
theorem step2.calls (w0 W : World) (g k : Nat) (A0 : Option Addr) (c0 : Nat) (l0 : List S49) (A1 : Option Addr) (c1 : Nat) (l1 : List S51) (a2 a3 lap : Int) (done : List Int) (moved : Bool) (lp wk : Int) (r : Option (Int × List Int × Bool)) (hM : Mach w0 W g k A0 c0 l0 A1 c1 l1 a2 a3 lap done moved) (hr : stepF l0.length l1 lap done moved ⟨2, lp, wk⟩ = r) :
  Calls Tryd.prog 20 #[.pointer (some ⟨g, 0, none⟩), .agg #[.int .i64 2, .int .i64 lp, .int .i64 wk]] W fun e w' => e = .returned (.bool r.isSome) ∧ Mach w0 w' g k A0 c0 l0 A1 c1 l1 a2 a3 (r.getD (lap, done, moved)).1 (r.getD (lap, done, moved)).2.1 (r.getD (lap, done, moved)).2.2 := by
 have hu62 := Tryd.underlying60
 have hu59 := Tryd.underlying35
 have HMM := Aside0.mk hM
 have HM := Aside0.mk hM.isM
 have GLT := Aside0.mk (blk_lt_ hM.blk)
 have hM0 : Aside0 (W.cell? ⟨g, 0, none⟩ = some (.slice A0 l0.length c0)) := ⟨(blk_cell HM.out.blk 0).trans rfl⟩
 have hM1 : Aside0 (W.cell? ⟨g, 1, none⟩ = some (.slice A1 l1.length c1)) := ⟨(blk_cell HM.out.blk 1).trans rfl⟩
 have hM2 : Aside0 (W.cell? ⟨g, 2, none⟩ = some (.int .i64 a2)) := ⟨(blk_cell HM.out.blk 2).trans rfl⟩
 have hM3 : Aside0 (W.cell? ⟨g, 3, none⟩ = some (.int .i64 a3)) := ⟨(blk_cell HM.out.blk 3).trans rfl⟩
 have hM4 : Aside0 (W.cell? ⟨g, 4, none⟩ = some (.int .i64 lap)) := ⟨(blk_cell HM.out.blk 4).trans rfl⟩
 have hM5 : Aside0 (W.cell? ⟨g, 5, none⟩ = some (.slice (some ⟨k, 0, none⟩) done.length done.length)) := ⟨(blk_cell HM.out.blk 5).trans rfl⟩
 have hM6 : Aside0 (W.cell? ⟨g, 6, none⟩ = some (.bool moved)) := ⟨(blk_cell HM.out.blk 6).trans rfl⟩
 have HW0 : Aside0 (IntKind.i64.wrap ((l0.length : Int) - 1) = (l0.length : Int) - 1) := ⟨by have := HMM.out.few0; rw [IntKind.wrap_i64]; omega⟩
 unfold stepF at hr
 dsimp only at hr
 clear hM
 rw [if_neg (by decide), if_pos rfl] at hr
 have HP1 : Aside0 (steps_Plan_sided.f l0 l1 a2 a3 1 = some (sidB l1 1)) := ⟨by unfold steps_Plan_sided.f; rw [if_pos HM.out.few]; rfl⟩
 have HP2 : Aside0 (steps_Plan_sided.f l0 l1 a2 a3 2 = some (sidB l1 2)) := ⟨by unfold steps_Plan_sided.f; rw [if_pos HM.out.few]; rfl⟩
 obtain ⟨f, hf⟩ : ∃ f, finB l0.length l1 done 1 = f := ⟨_, rfl⟩
 have HF := Aside0.mk hf
 rw [hf] at hr
 clear hf
 generalize sidB l1 1 = p1 at *
 generalize sidB l1 2 = p2 at *
 cases h1 : (lp == 0) with
 | false =>
  rw [h1] at hr
  have h1n : (lp != 0) = true := by unfold bne; rw [h1]; rfl
  rw [if_neg (by simp)] at hr
  obtain rfl := hr
  go_enter Tryd.func20, Tryd.ntmps20
  go_wp2_with (first | ((with_reducible refine gate_dst (N := 3) rfl ?_); refine bev (N := 3) (cs := #[.int .i64 2, .int .i64 lp, .int .i64 wk]) (t := 60) ?_; intro gp hg w6 hbox hb; have BK1 := Aside0.mk hbox; have HB1 := Aside0.mk hb; have hp0 : w6.cell? ⟨gp, 0, none⟩ = some (.int .i64 2) := (blk_cell BK1.out 0).trans rfl; have hp1 : w6.cell? ⟨gp, 1, none⟩ = some (.int .i64 lp) := (blk_cell BK1.out 1).trans rfl; have hp2 : w6.cell? ⟨gp, 2, none⟩ = some (.int .i64 wk) := (blk_cell BK1.out 2).trans rfl; have hq0 := (HB1.out.cell (p := ⟨g, 0, none⟩) GLT.out).trans hM0.out; have hq1 := (HB1.out.cell (p := ⟨g, 1, none⟩) GLT.out).trans hM1.out; have hq2 := (HB1.out.cell (p := ⟨g, 2, none⟩) GLT.out).trans hM2.out; have hq3 := (HB1.out.cell (p := ⟨g, 3, none⟩) GLT.out).trans hM3.out; have hq4 := (HB1.out.cell (p := ⟨g, 4, none⟩) GLT.out).trans hM4.out; have hq5 := (HB1.out.cell (p := ⟨g, 5, none⟩) GLT.out).trans hM5.out; have hq6 := (HB1.out.cell (p := ⟨g, 6, none⟩) GLT.out).trans hM6.out; have hf4 := blk_frozen (blk_below HM.out.blk (Below.mono (show Below W.heap.size W w6 from HB1.out) (Nat.le_refl _))) 4; clear hb hbox hg))
  go_ret
  exact ⟨rfl, HMM.out.below (by repeat (first | exact HB1.out | apply pw_below_drewN | apply below_drew | apply below_drew1))⟩
 | true =>
  rw [h1] at hr
  have h1n : (lp != 0) = false := by unfold bne; rw [h1]; rfl
  cases h2 : (wk == 0) with
  | false =>
   rw [h2] at hr
   have h2n : (wk != 0) = true := by unfold bne; rw [h2]; rfl
   rw [if_neg (by simp)] at hr
   obtain rfl := hr
   go_enter Tryd.func20, Tryd.ntmps20
   go_wp2_with (first | ((with_reducible refine gate_dst (N := 3) rfl ?_); refine bev (N := 3) (cs := #[.int .i64 2, .int .i64 lp, .int .i64 wk]) (t := 60) ?_; intro gp hg w6 hbox hb; have BK1 := Aside0.mk hbox; have HB1 := Aside0.mk hb; have hp0 : w6.cell? ⟨gp, 0, none⟩ = some (.int .i64 2) := (blk_cell BK1.out 0).trans rfl; have hp1 : w6.cell? ⟨gp, 1, none⟩ = some (.int .i64 lp) := (blk_cell BK1.out 1).trans rfl; have hp2 : w6.cell? ⟨gp, 2, none⟩ = some (.int .i64 wk) := (blk_cell BK1.out 2).trans rfl; have hq0 := (HB1.out.cell (p := ⟨g, 0, none⟩) GLT.out).trans hM0.out; have hq1 := (HB1.out.cell (p := ⟨g, 1, none⟩) GLT.out).trans hM1.out; have hq2 := (HB1.out.cell (p := ⟨g, 2, none⟩) GLT.out).trans hM2.out; have hq3 := (HB1.out.cell (p := ⟨g, 3, none⟩) GLT.out).trans hM3.out; have hq4 := (HB1.out.cell (p := ⟨g, 4, none⟩) GLT.out).trans hM4.out; have hq5 := (HB1.out.cell (p := ⟨g, 5, none⟩) GLT.out).trans hM5.out; have hq6 := (HB1.out.cell (p := ⟨g, 6, none⟩) GLT.out).trans hM6.out; have hf4 := blk_frozen (blk_below HM.out.blk (Below.mono (show Below W.heap.size W w6 from HB1.out) (Nat.le_refl _))) 4; clear hb hbox hg))
   go_ret
   exact ⟨rfl, HMM.out.below (by repeat (first | exact HB1.out | apply pw_below_drewN | apply below_drew | apply below_drew1))⟩
  | true =>
   rw [h2] at hr
   have h2n : (wk != 0) = false := by unfold bne; rw [h2]; rfl
   cases moved with
   | true =>
    rw [if_neg (by simp)] at hr
    obtain rfl := hr
    go_enter Tryd.func20, Tryd.ntmps20
    go_wp2_with (first | ((with_reducible refine gate_dst (N := 3) rfl ?_); refine bev (N := 3) (cs := #[.int .i64 2, .int .i64 lp, .int .i64 wk]) (t := 60) ?_; intro gp hg w6 hbox hb; have BK1 := Aside0.mk hbox; have HB1 := Aside0.mk hb; have hp0 : w6.cell? ⟨gp, 0, none⟩ = some (.int .i64 2) := (blk_cell BK1.out 0).trans rfl; have hp1 : w6.cell? ⟨gp, 1, none⟩ = some (.int .i64 lp) := (blk_cell BK1.out 1).trans rfl; have hp2 : w6.cell? ⟨gp, 2, none⟩ = some (.int .i64 wk) := (blk_cell BK1.out 2).trans rfl; have hq0 := (HB1.out.cell (p := ⟨g, 0, none⟩) GLT.out).trans hM0.out; have hq1 := (HB1.out.cell (p := ⟨g, 1, none⟩) GLT.out).trans hM1.out; have hq2 := (HB1.out.cell (p := ⟨g, 2, none⟩) GLT.out).trans hM2.out; have hq3 := (HB1.out.cell (p := ⟨g, 3, none⟩) GLT.out).trans hM3.out; have hq4 := (HB1.out.cell (p := ⟨g, 4, none⟩) GLT.out).trans hM4.out; have hq5 := (HB1.out.cell (p := ⟨g, 5, none⟩) GLT.out).trans hM5.out; have hq6 := (HB1.out.cell (p := ⟨g, 6, none⟩) GLT.out).trans hM6.out; have hf4 := blk_frozen (blk_below HM.out.blk (Below.mono (show Below W.heap.size W w6 from HB1.out) (Nat.le_refl _))) 4; clear hb hbox hg))
    go_ret
    exact ⟨rfl, HMM.out.below (by repeat (first | exact HB1.out | apply pw_below_drewN | apply below_drew | apply below_drew1))⟩
   | false =>
    cases p1 with
    | false =>
     rw [if_neg (by simp)] at hr
     obtain rfl := hr
     go_enter Tryd.func20, Tryd.ntmps20
     go_wp2_with (first | ((with_reducible refine gate_dst (N := 3) rfl ?_); refine bev (N := 3) (cs := #[.int .i64 2, .int .i64 lp, .int .i64 wk]) (t := 60) ?_; intro gp hg w6 hbox hb; have BK1 := Aside0.mk hbox; have HB1 := Aside0.mk hb; have hp0 : w6.cell? ⟨gp, 0, none⟩ = some (.int .i64 2) := (blk_cell BK1.out 0).trans rfl; have hp1 : w6.cell? ⟨gp, 1, none⟩ = some (.int .i64 lp) := (blk_cell BK1.out 1).trans rfl; have hp2 : w6.cell? ⟨gp, 2, none⟩ = some (.int .i64 wk) := (blk_cell BK1.out 2).trans rfl; have hq0 := (HB1.out.cell (p := ⟨g, 0, none⟩) GLT.out).trans hM0.out; have hq1 := (HB1.out.cell (p := ⟨g, 1, none⟩) GLT.out).trans hM1.out; have hq2 := (HB1.out.cell (p := ⟨g, 2, none⟩) GLT.out).trans hM2.out; have hq3 := (HB1.out.cell (p := ⟨g, 3, none⟩) GLT.out).trans hM3.out; have hq4 := (HB1.out.cell (p := ⟨g, 4, none⟩) GLT.out).trans hM4.out; have hq5 := (HB1.out.cell (p := ⟨g, 5, none⟩) GLT.out).trans hM5.out; have hq6 := (HB1.out.cell (p := ⟨g, 6, none⟩) GLT.out).trans hM6.out; have hf4 := blk_frozen (blk_below HM.out.blk (Below.mono (show Below W.heap.size W w6 from HB1.out) (Nat.le_refl _))) 4; clear hb hbox hg) | (go_at_call 29; (with_reducible refine (steps_Plan_sided.calls A0 c0 l0 _ c1 l1 a2 a3 1 false _ (Kd.C_below HM.out.laps (mb_ HB1.out)) HM.out.cap0 (Kd.C_below HM.out.works (mb_ HB1.out)) HM.out.cap1 HP1.out).mono ?_); rintro e w12 ⟨rfl, hb⟩; have HB2 : Aside0 (Below W.heap.size W w12) := ⟨Below.trans (mb_ HB1.out) (hb.mono HB1.out.size)⟩; have BK2 : Aside0 (w12.heap[gp]? = some (.cells #[.int .i64 2, .int .i64 lp, .int .i64 wk] 60 (0, 0))) := ⟨(hb.block _ (blk_lt_ BK1.out)).trans BK1.out⟩; clear hb hq0 hq1 hq2 hq3 hq4 hq5 hq6 hp0 hp1 hp2; have hp0 : w12.cell? ⟨gp, 0, none⟩ = some (.int .i64 2) := (blk_cell BK2.out 0).trans rfl; have hp1 : w12.cell? ⟨gp, 1, none⟩ = some (.int .i64 lp) := (blk_cell BK2.out 1).trans rfl; have hp2 : w12.cell? ⟨gp, 2, none⟩ = some (.int .i64 wk) := (blk_cell BK2.out 2).trans rfl; have hq0 := (HB2.out.cell (p := ⟨g, 0, none⟩) GLT.out).trans hM0.out; have hq1 := (HB2.out.cell (p := ⟨g, 1, none⟩) GLT.out).trans hM1.out; have hq2 := (HB2.out.cell (p := ⟨g, 2, none⟩) GLT.out).trans hM2.out; have hq3 := (HB2.out.cell (p := ⟨g, 3, none⟩) GLT.out).trans hM3.out; have hq4 := (HB2.out.cell (p := ⟨g, 4, none⟩) GLT.out).trans hM4.out; have hq5 := (HB2.out.cell (p := ⟨g, 5, none⟩) GLT.out).trans hM5.out; have hq6 := (HB2.out.cell (p := ⟨g, 6, none⟩) GLT.out).trans hM6.out))
     go_ret
     exact ⟨rfl, HMM.out.below (by repeat (first | exact HB2.out | apply pw_below_drewN | apply below_drew | apply below_drew1))⟩
    | true =>
     cases p2 with
     | false =>
      rw [if_neg (by simp)] at hr
      obtain rfl := hr
      go_enter Tryd.func20, Tryd.ntmps20
      go_wp2_with (first | ((with_reducible refine gate_dst (N := 3) rfl ?_); refine bev (N := 3) (cs := #[.int .i64 2, .int .i64 lp, .int .i64 wk]) (t := 60) ?_; intro gp hg w6 hbox hb; have BK1 := Aside0.mk hbox; have HB1 := Aside0.mk hb; have hp0 : w6.cell? ⟨gp, 0, none⟩ = some (.int .i64 2) := (blk_cell BK1.out 0).trans rfl; have hp1 : w6.cell? ⟨gp, 1, none⟩ = some (.int .i64 lp) := (blk_cell BK1.out 1).trans rfl; have hp2 : w6.cell? ⟨gp, 2, none⟩ = some (.int .i64 wk) := (blk_cell BK1.out 2).trans rfl; have hq0 := (HB1.out.cell (p := ⟨g, 0, none⟩) GLT.out).trans hM0.out; have hq1 := (HB1.out.cell (p := ⟨g, 1, none⟩) GLT.out).trans hM1.out; have hq2 := (HB1.out.cell (p := ⟨g, 2, none⟩) GLT.out).trans hM2.out; have hq3 := (HB1.out.cell (p := ⟨g, 3, none⟩) GLT.out).trans hM3.out; have hq4 := (HB1.out.cell (p := ⟨g, 4, none⟩) GLT.out).trans hM4.out; have hq5 := (HB1.out.cell (p := ⟨g, 5, none⟩) GLT.out).trans hM5.out; have hq6 := (HB1.out.cell (p := ⟨g, 6, none⟩) GLT.out).trans hM6.out; have hf4 := blk_frozen (blk_below HM.out.blk (Below.mono (show Below W.heap.size W w6 from HB1.out) (Nat.le_refl _))) 4; clear hb hbox hg) | (go_at_call 29; (with_reducible refine (steps_Plan_sided.calls A0 c0 l0 _ c1 l1 a2 a3 1 true _ (Kd.C_below HM.out.laps (mb_ HB1.out)) HM.out.cap0 (Kd.C_below HM.out.works (mb_ HB1.out)) HM.out.cap1 HP1.out).mono ?_); rintro e w12 ⟨rfl, hb⟩; have HB2 : Aside0 (Below W.heap.size W w12) := ⟨Below.trans (mb_ HB1.out) (hb.mono HB1.out.size)⟩; have BK2 : Aside0 (w12.heap[gp]? = some (.cells #[.int .i64 2, .int .i64 lp, .int .i64 wk] 60 (0, 0))) := ⟨(hb.block _ (blk_lt_ BK1.out)).trans BK1.out⟩; clear hb hq0 hq1 hq2 hq3 hq4 hq5 hq6 hp0 hp1 hp2; have hp0 : w12.cell? ⟨gp, 0, none⟩ = some (.int .i64 2) := (blk_cell BK2.out 0).trans rfl; have hp1 : w12.cell? ⟨gp, 1, none⟩ = some (.int .i64 lp) := (blk_cell BK2.out 1).trans rfl; have hp2 : w12.cell? ⟨gp, 2, none⟩ = some (.int .i64 wk) := (blk_cell BK2.out 2).trans rfl; have hq0 := (HB2.out.cell (p := ⟨g, 0, none⟩) GLT.out).trans hM0.out; have hq1 := (HB2.out.cell (p := ⟨g, 1, none⟩) GLT.out).trans hM1.out; have hq2 := (HB2.out.cell (p := ⟨g, 2, none⟩) GLT.out).trans hM2.out; have hq3 := (HB2.out.cell (p := ⟨g, 3, none⟩) GLT.out).trans hM3.out; have hq4 := (HB2.out.cell (p := ⟨g, 4, none⟩) GLT.out).trans hM4.out; have hq5 := (HB2.out.cell (p := ⟨g, 5, none⟩) GLT.out).trans hM5.out; have hq6 := (HB2.out.cell (p := ⟨g, 6, none⟩) GLT.out).trans hM6.out) | (go_at_call 29; (with_reducible refine (steps_Plan_sided.calls A0 c0 l0 _ c1 l1 a2 a3 2 false _ (Kd.C_below HM.out.laps (mb_ HB2.out)) HM.out.cap0 (Kd.C_below HM.out.works (mb_ HB2.out)) HM.out.cap1 HP2.out).mono ?_); rintro e w13 ⟨rfl, hb⟩; have HB3 : Aside0 (Below W.heap.size W w13) := ⟨Below.trans (mb_ HB2.out) (hb.mono HB2.out.size)⟩; have BK3 : Aside0 (w13.heap[gp]? = some (.cells #[.int .i64 2, .int .i64 lp, .int .i64 wk] 60 (0, 0))) := ⟨(hb.block _ (blk_lt_ BK2.out)).trans BK2.out⟩; clear hb hq0 hq1 hq2 hq3 hq4 hq5 hq6 hp0 hp1 hp2; have hp0 : w13.cell? ⟨gp, 0, none⟩ = some (.int .i64 2) := (blk_cell BK3.out 0).trans rfl; have hp1 : w13.cell? ⟨gp, 1, none⟩ = some (.int .i64 lp) := (blk_cell BK3.out 1).trans rfl; have hp2 : w13.cell? ⟨gp, 2, none⟩ = some (.int .i64 wk) := (blk_cell BK3.out 2).trans rfl; have hq0 := (HB3.out.cell (p := ⟨g, 0, none⟩) GLT.out).trans hM0.out; have hq1 := (HB3.out.cell (p := ⟨g, 1, none⟩) GLT.out).trans hM1.out; have hq2 := (HB3.out.cell (p := ⟨g, 2, none⟩) GLT.out).trans hM2.out; have hq3 := (HB3.out.cell (p := ⟨g, 3, none⟩) GLT.out).trans hM3.out; have hq4 := (HB3.out.cell (p := ⟨g, 4, none⟩) GLT.out).trans hM4.out; have hq5 := (HB3.out.cell (p := ⟨g, 5, none⟩) GLT.out).trans hM5.out; have hq6 := (HB3.out.cell (p := ⟨g, 6, none⟩) GLT.out).trans hM6.out))
      go_ret
      exact ⟨rfl, HMM.out.below (by repeat (first | exact HB3.out | apply pw_below_drewN | apply below_drew | apply below_drew1))⟩
     | true =>
      cases f with
      | false =>
       rw [if_neg (by simp)] at hr
       obtain rfl := hr
       go_enter Tryd.func20, Tryd.ntmps20
       go_wp2_with (first | ((with_reducible refine gate_dst (N := 3) rfl ?_); refine bev (N := 3) (cs := #[.int .i64 2, .int .i64 lp, .int .i64 wk]) (t := 60) ?_; intro gp hg w6 hbox hb; have BK1 := Aside0.mk hbox; have HB1 := Aside0.mk hb; have hp0 : w6.cell? ⟨gp, 0, none⟩ = some (.int .i64 2) := (blk_cell BK1.out 0).trans rfl; have hp1 : w6.cell? ⟨gp, 1, none⟩ = some (.int .i64 lp) := (blk_cell BK1.out 1).trans rfl; have hp2 : w6.cell? ⟨gp, 2, none⟩ = some (.int .i64 wk) := (blk_cell BK1.out 2).trans rfl; have hq0 := (HB1.out.cell (p := ⟨g, 0, none⟩) GLT.out).trans hM0.out; have hq1 := (HB1.out.cell (p := ⟨g, 1, none⟩) GLT.out).trans hM1.out; have hq2 := (HB1.out.cell (p := ⟨g, 2, none⟩) GLT.out).trans hM2.out; have hq3 := (HB1.out.cell (p := ⟨g, 3, none⟩) GLT.out).trans hM3.out; have hq4 := (HB1.out.cell (p := ⟨g, 4, none⟩) GLT.out).trans hM4.out; have hq5 := (HB1.out.cell (p := ⟨g, 5, none⟩) GLT.out).trans hM5.out; have hq6 := (HB1.out.cell (p := ⟨g, 6, none⟩) GLT.out).trans hM6.out; have hf4 := blk_frozen (blk_below HM.out.blk (Below.mono (show Below W.heap.size W w6 from HB1.out) (Nat.le_refl _))) 4; clear hb hbox hg) | (go_at_call 29; (with_reducible refine (steps_Plan_sided.calls A0 c0 l0 _ c1 l1 a2 a3 1 true _ (Kd.C_below HM.out.laps (mb_ HB1.out)) HM.out.cap0 (Kd.C_below HM.out.works (mb_ HB1.out)) HM.out.cap1 HP1.out).mono ?_); rintro e w12 ⟨rfl, hb⟩; have HB2 : Aside0 (Below W.heap.size W w12) := ⟨Below.trans (mb_ HB1.out) (hb.mono HB1.out.size)⟩; have BK2 : Aside0 (w12.heap[gp]? = some (.cells #[.int .i64 2, .int .i64 lp, .int .i64 wk] 60 (0, 0))) := ⟨(hb.block _ (blk_lt_ BK1.out)).trans BK1.out⟩; clear hb hq0 hq1 hq2 hq3 hq4 hq5 hq6 hp0 hp1 hp2; have hp0 : w12.cell? ⟨gp, 0, none⟩ = some (.int .i64 2) := (blk_cell BK2.out 0).trans rfl; have hp1 : w12.cell? ⟨gp, 1, none⟩ = some (.int .i64 lp) := (blk_cell BK2.out 1).trans rfl; have hp2 : w12.cell? ⟨gp, 2, none⟩ = some (.int .i64 wk) := (blk_cell BK2.out 2).trans rfl; have hq0 := (HB2.out.cell (p := ⟨g, 0, none⟩) GLT.out).trans hM0.out; have hq1 := (HB2.out.cell (p := ⟨g, 1, none⟩) GLT.out).trans hM1.out; have hq2 := (HB2.out.cell (p := ⟨g, 2, none⟩) GLT.out).trans hM2.out; have hq3 := (HB2.out.cell (p := ⟨g, 3, none⟩) GLT.out).trans hM3.out; have hq4 := (HB2.out.cell (p := ⟨g, 4, none⟩) GLT.out).trans hM4.out; have hq5 := (HB2.out.cell (p := ⟨g, 5, none⟩) GLT.out).trans hM5.out; have hq6 := (HB2.out.cell (p := ⟨g, 6, none⟩) GLT.out).trans hM6.out) | (go_at_call 29; (with_reducible refine (steps_Plan_sided.calls A0 c0 l0 _ c1 l1 a2 a3 2 true _ (Kd.C_below HM.out.laps (mb_ HB2.out)) HM.out.cap0 (Kd.C_below HM.out.works (mb_ HB2.out)) HM.out.cap1 HP2.out).mono ?_); rintro e w13 ⟨rfl, hb⟩; have HB3 : Aside0 (Below W.heap.size W w13) := ⟨Below.trans (mb_ HB2.out) (hb.mono HB2.out.size)⟩; have BK3 : Aside0 (w13.heap[gp]? = some (.cells #[.int .i64 2, .int .i64 lp, .int .i64 wk] 60 (0, 0))) := ⟨(hb.block _ (blk_lt_ BK2.out)).trans BK2.out⟩; clear hb hq0 hq1 hq2 hq3 hq4 hq5 hq6 hp0 hp1 hp2; have hp0 : w13.cell? ⟨gp, 0, none⟩ = some (.int .i64 2) := (blk_cell BK3.out 0).trans rfl; have hp1 : w13.cell? ⟨gp, 1, none⟩ = some (.int .i64 lp) := (blk_cell BK3.out 1).trans rfl; have hp2 : w13.cell? ⟨gp, 2, none⟩ = some (.int .i64 wk) := (blk_cell BK3.out 2).trans rfl; have hq0 := (HB3.out.cell (p := ⟨g, 0, none⟩) GLT.out).trans hM0.out; have hq1 := (HB3.out.cell (p := ⟨g, 1, none⟩) GLT.out).trans hM1.out; have hq2 := (HB3.out.cell (p := ⟨g, 2, none⟩) GLT.out).trans hM2.out; have hq3 := (HB3.out.cell (p := ⟨g, 3, none⟩) GLT.out).trans hM3.out; have hq4 := (HB3.out.cell (p := ⟨g, 4, none⟩) GLT.out).trans hM4.out; have hq5 := (HB3.out.cell (p := ⟨g, 5, none⟩) GLT.out).trans hM5.out; have hq6 := (HB3.out.cell (p := ⟨g, 6, none⟩) GLT.out).trans hM6.out) | (go_at_call 21; (with_reducible refine (fin.calls g A0 c0 l0 A1 c1 l1 a2 a3 lap _ _ done false 1 false _ (HMM.out.below (mb_ HB3.out)).isM HF.out).mono ?_); rintro e w14 ⟨rfl, hb⟩; have HB4 : Aside0 (Below W.heap.size W w14) := ⟨Below.trans (mb_ HB3.out) (hb.mono HB3.out.size)⟩; clear hb hq0 hq1 hq2 hq3 hq4 hq5 hq6 hp0 hp1 hp2; have hq0 := (HB4.out.cell (p := ⟨g, 0, none⟩) GLT.out).trans hM0.out; have hq1 := (HB4.out.cell (p := ⟨g, 1, none⟩) GLT.out).trans hM1.out; have hq2 := (HB4.out.cell (p := ⟨g, 2, none⟩) GLT.out).trans hM2.out; have hq3 := (HB4.out.cell (p := ⟨g, 3, none⟩) GLT.out).trans hM3.out; have hq4 := (HB4.out.cell (p := ⟨g, 4, none⟩) GLT.out).trans hM4.out; have hq5 := (HB4.out.cell (p := ⟨g, 5, none⟩) GLT.out).trans hM5.out; have hq6 := (HB4.out.cell (p := ⟨g, 6, none⟩) GLT.out).trans hM6.out; have hf6 := blk_frozen (blk_below HM.out.blk HB4.out) 6))
       go_ret
       exact ⟨rfl, HMM.out.below (by repeat (first | exact HB4.out | apply pw_below_drewN | apply below_drew | apply below_drew1))⟩
      | true =>
       rw [if_pos (by simp)] at hr
       obtain rfl := hr
       go_enter Tryd.func20, Tryd.ntmps20
       go_wp2_with (first | ((with_reducible refine gate_dst (N := 3) rfl ?_); refine bev (N := 3) (cs := #[.int .i64 2, .int .i64 lp, .int .i64 wk]) (t := 60) ?_; intro gp hg w6 hbox hb; have BK1 := Aside0.mk hbox; have HB1 := Aside0.mk hb; have hp0 : w6.cell? ⟨gp, 0, none⟩ = some (.int .i64 2) := (blk_cell BK1.out 0).trans rfl; have hp1 : w6.cell? ⟨gp, 1, none⟩ = some (.int .i64 lp) := (blk_cell BK1.out 1).trans rfl; have hp2 : w6.cell? ⟨gp, 2, none⟩ = some (.int .i64 wk) := (blk_cell BK1.out 2).trans rfl; have hq0 := (HB1.out.cell (p := ⟨g, 0, none⟩) GLT.out).trans hM0.out; have hq1 := (HB1.out.cell (p := ⟨g, 1, none⟩) GLT.out).trans hM1.out; have hq2 := (HB1.out.cell (p := ⟨g, 2, none⟩) GLT.out).trans hM2.out; have hq3 := (HB1.out.cell (p := ⟨g, 3, none⟩) GLT.out).trans hM3.out; have hq4 := (HB1.out.cell (p := ⟨g, 4, none⟩) GLT.out).trans hM4.out; have hq5 := (HB1.out.cell (p := ⟨g, 5, none⟩) GLT.out).trans hM5.out; have hq6 := (HB1.out.cell (p := ⟨g, 6, none⟩) GLT.out).trans hM6.out; have hf4 := blk_frozen (blk_below HM.out.blk (Below.mono (show Below W.heap.size W w6 from HB1.out) (Nat.le_refl _))) 4; clear hb hbox hg) | (go_at_call 29; (with_reducible refine (steps_Plan_sided.calls A0 c0 l0 _ c1 l1 a2 a3 1 true _ (Kd.C_below HM.out.laps (mb_ HB1.out)) HM.out.cap0 (Kd.C_below HM.out.works (mb_ HB1.out)) HM.out.cap1 HP1.out).mono ?_); rintro e w12 ⟨rfl, hb⟩; have HB2 : Aside0 (Below W.heap.size W w12) := ⟨Below.trans (mb_ HB1.out) (hb.mono HB1.out.size)⟩; have BK2 : Aside0 (w12.heap[gp]? = some (.cells #[.int .i64 2, .int .i64 lp, .int .i64 wk] 60 (0, 0))) := ⟨(hb.block _ (blk_lt_ BK1.out)).trans BK1.out⟩; clear hb hq0 hq1 hq2 hq3 hq4 hq5 hq6 hp0 hp1 hp2; have hp0 : w12.cell? ⟨gp, 0, none⟩ = some (.int .i64 2) := (blk_cell BK2.out 0).trans rfl; have hp1 : w12.cell? ⟨gp, 1, none⟩ = some (.int .i64 lp) := (blk_cell BK2.out 1).trans rfl; have hp2 : w12.cell? ⟨gp, 2, none⟩ = some (.int .i64 wk) := (blk_cell BK2.out 2).trans rfl; have hq0 := (HB2.out.cell (p := ⟨g, 0, none⟩) GLT.out).trans hM0.out; have hq1 := (HB2.out.cell (p := ⟨g, 1, none⟩) GLT.out).trans hM1.out; have hq2 := (HB2.out.cell (p := ⟨g, 2, none⟩) GLT.out).trans hM2.out; have hq3 := (HB2.out.cell (p := ⟨g, 3, none⟩) GLT.out).trans hM3.out; have hq4 := (HB2.out.cell (p := ⟨g, 4, none⟩) GLT.out).trans hM4.out; have hq5 := (HB2.out.cell (p := ⟨g, 5, none⟩) GLT.out).trans hM5.out; have hq6 := (HB2.out.cell (p := ⟨g, 6, none⟩) GLT.out).trans hM6.out) | (go_at_call 29; (with_reducible refine (steps_Plan_sided.calls A0 c0 l0 _ c1 l1 a2 a3 2 true _ (Kd.C_below HM.out.laps (mb_ HB2.out)) HM.out.cap0 (Kd.C_below HM.out.works (mb_ HB2.out)) HM.out.cap1 HP2.out).mono ?_); rintro e w13 ⟨rfl, hb⟩; have HB3 : Aside0 (Below W.heap.size W w13) := ⟨Below.trans (mb_ HB2.out) (hb.mono HB2.out.size)⟩; have BK3 : Aside0 (w13.heap[gp]? = some (.cells #[.int .i64 2, .int .i64 lp, .int .i64 wk] 60 (0, 0))) := ⟨(hb.block _ (blk_lt_ BK2.out)).trans BK2.out⟩; clear hb hq0 hq1 hq2 hq3 hq4 hq5 hq6 hp0 hp1 hp2; have hp0 : w13.cell? ⟨gp, 0, none⟩ = some (.int .i64 2) := (blk_cell BK3.out 0).trans rfl; have hp1 : w13.cell? ⟨gp, 1, none⟩ = some (.int .i64 lp) := (blk_cell BK3.out 1).trans rfl; have hp2 : w13.cell? ⟨gp, 2, none⟩ = some (.int .i64 wk) := (blk_cell BK3.out 2).trans rfl; have hq0 := (HB3.out.cell (p := ⟨g, 0, none⟩) GLT.out).trans hM0.out; have hq1 := (HB3.out.cell (p := ⟨g, 1, none⟩) GLT.out).trans hM1.out; have hq2 := (HB3.out.cell (p := ⟨g, 2, none⟩) GLT.out).trans hM2.out; have hq3 := (HB3.out.cell (p := ⟨g, 3, none⟩) GLT.out).trans hM3.out; have hq4 := (HB3.out.cell (p := ⟨g, 4, none⟩) GLT.out).trans hM4.out; have hq5 := (HB3.out.cell (p := ⟨g, 5, none⟩) GLT.out).trans hM5.out; have hq6 := (HB3.out.cell (p := ⟨g, 6, none⟩) GLT.out).trans hM6.out) | (go_at_call 21; (with_reducible refine (fin.calls g A0 c0 l0 A1 c1 l1 a2 a3 lap _ _ done false 1 true _ (HMM.out.below (mb_ HB3.out)).isM HF.out).mono ?_); rintro e w14 ⟨rfl, hb⟩; have HB4 : Aside0 (Below W.heap.size W w14) := ⟨Below.trans (mb_ HB3.out) (hb.mono HB3.out.size)⟩; clear hb hq0 hq1 hq2 hq3 hq4 hq5 hq6 hp0 hp1 hp2; have hq0 := (HB4.out.cell (p := ⟨g, 0, none⟩) GLT.out).trans hM0.out; have hq1 := (HB4.out.cell (p := ⟨g, 1, none⟩) GLT.out).trans hM1.out; have hq2 := (HB4.out.cell (p := ⟨g, 2, none⟩) GLT.out).trans hM2.out; have hq3 := (HB4.out.cell (p := ⟨g, 3, none⟩) GLT.out).trans hM3.out; have hq4 := (HB4.out.cell (p := ⟨g, 4, none⟩) GLT.out).trans hM4.out; have hq5 := (HB4.out.cell (p := ⟨g, 5, none⟩) GLT.out).trans hM5.out; have hq6 := (HB4.out.cell (p := ⟨g, 6, none⟩) GLT.out).trans hM6.out; have hf6 := blk_frozen (blk_below HM.out.blk HB4.out) 6))
       go_ret
       exact ⟨rfl, (HMM.out.below (mb_ HB4.out)).setMoved true⟩
set_option maxHeartbeats 8000000 in
set_option maxRecDepth 100000 in
theorem step3.calls (w0 W : World) (g k : Nat) (A0 : Option Addr) (c0 : Nat) (l0 : List S49) (A1 : Option Addr) (c1 : Nat) (l1 : List S51) (a2 a3 lap : Int) (done : List Int) (moved : Bool) (lp wk : Int) (r : Option (Int × List Int × Bool)) (hM : Mach w0 W g k A0 c0 l0 A1 c1 l1 a2 a3 lap done moved) (hr : stepF l0.length l1 lap done moved ⟨3, lp, wk⟩ = r) :
  Calls Tryd.prog 20 #[.pointer (some ⟨g, 0, none⟩), .agg #[.int .i64 3, .int .i64 lp, .int .i64 wk]] W fun e w' => e = .returned (.bool r.isSome) ∧ Mach w0 w' g k A0 c0 l0 A1 c1 l1 a2 a3 (r.getD (lap, done, moved)).1 (r.getD (lap, done, moved)).2.1 (r.getD (lap, done, moved)).2.2 := by
 have hu62 := Tryd.underlying60
 have hu59 := Tryd.underlying35
 have HMM := Aside0.mk hM
 have HM := Aside0.mk hM.isM
 have GLT := Aside0.mk (blk_lt_ hM.blk)
 have hM0 : Aside0 (W.cell? ⟨g, 0, none⟩ = some (.slice A0 l0.length c0)) := ⟨(blk_cell HM.out.blk 0).trans rfl⟩
 have hM1 : Aside0 (W.cell? ⟨g, 1, none⟩ = some (.slice A1 l1.length c1)) := ⟨(blk_cell HM.out.blk 1).trans rfl⟩
 have hM2 : Aside0 (W.cell? ⟨g, 2, none⟩ = some (.int .i64 a2)) := ⟨(blk_cell HM.out.blk 2).trans rfl⟩
 have hM3 : Aside0 (W.cell? ⟨g, 3, none⟩ = some (.int .i64 a3)) := ⟨(blk_cell HM.out.blk 3).trans rfl⟩
 have hM4 : Aside0 (W.cell? ⟨g, 4, none⟩ = some (.int .i64 lap)) := ⟨(blk_cell HM.out.blk 4).trans rfl⟩
 have hM5 : Aside0 (W.cell? ⟨g, 5, none⟩ = some (.slice (some ⟨k, 0, none⟩) done.length done.length)) := ⟨(blk_cell HM.out.blk 5).trans rfl⟩
 have hM6 : Aside0 (W.cell? ⟨g, 6, none⟩ = some (.bool moved)) := ⟨(blk_cell HM.out.blk 6).trans rfl⟩
 have HW0 : Aside0 (IntKind.i64.wrap ((l0.length : Int) - 1) = (l0.length : Int) - 1) := ⟨by have := HMM.out.few0; rw [IntKind.wrap_i64]; omega⟩
 unfold stepF at hr
 dsimp only at hr
 clear hM
 rw [if_neg (by decide), if_neg (by decide), if_pos rfl] at hr
 obtain ⟨c, hc⟩ : ∃ c, cutB l1 lap done moved ⟨3, lp, wk⟩ = c := ⟨_, rfl⟩
 have HC := Aside0.mk hc
 rw [hc] at hr
 cases c with
 | false =>
  rw [if_neg (by simp)] at hr
  obtain rfl := hr
  clear hc
  go_enter Tryd.func20, Tryd.ntmps20
  go_wp2_with (first | ((with_reducible refine gate_dst (N := 3) rfl ?_); refine bev (N := 3) (cs := #[.int .i64 3, .int .i64 lp, .int .i64 wk]) (t := 60) ?_; intro gp hg w6 hbox hb; have BK1 := Aside0.mk hbox; have HB1 := Aside0.mk hb; have hp0 : w6.cell? ⟨gp, 0, none⟩ = some (.int .i64 3) := (blk_cell BK1.out 0).trans rfl; have hp1 : w6.cell? ⟨gp, 1, none⟩ = some (.int .i64 lp) := (blk_cell BK1.out 1).trans rfl; have hp2 : w6.cell? ⟨gp, 2, none⟩ = some (.int .i64 wk) := (blk_cell BK1.out 2).trans rfl; have hq0 := (HB1.out.cell (p := ⟨g, 0, none⟩) GLT.out).trans hM0.out; have hq1 := (HB1.out.cell (p := ⟨g, 1, none⟩) GLT.out).trans hM1.out; have hq2 := (HB1.out.cell (p := ⟨g, 2, none⟩) GLT.out).trans hM2.out; have hq3 := (HB1.out.cell (p := ⟨g, 3, none⟩) GLT.out).trans hM3.out; have hq4 := (HB1.out.cell (p := ⟨g, 4, none⟩) GLT.out).trans hM4.out; have hq5 := (HB1.out.cell (p := ⟨g, 5, none⟩) GLT.out).trans hM5.out; have hq6 := (HB1.out.cell (p := ⟨g, 6, none⟩) GLT.out).trans hM6.out; have hf4 := blk_frozen (blk_below HM.out.blk (Below.mono (show Below W.heap.size W w6 from HB1.out) (Nat.le_refl _))) 4; clear hb hbox hg) | (go_at_call 36; (with_reducible refine (cut.calls g A0 c0 l0 A1 c1 l1 a2 a3 lap _ _ done moved 3 lp wk false _ (HMM.out.below (mb_ HB1.out)).isM HC.out).mono ?_); rintro e w12 ⟨rfl, hb⟩; have HB2 : Aside0 (Below W.heap.size W w12) := ⟨Below.trans (mb_ HB1.out) (hb.mono HB1.out.size)⟩; have BK2 : Aside0 (w12.heap[gp]? = some (.cells #[.int .i64 3, .int .i64 lp, .int .i64 wk] 60 (0, 0))) := ⟨(hb.block _ (blk_lt_ BK1.out)).trans BK1.out⟩; clear hb hq0 hq1 hq2 hq3 hq4 hq5 hq6 hp0 hp1 hp2; have hp0 : w12.cell? ⟨gp, 0, none⟩ = some (.int .i64 3) := (blk_cell BK2.out 0).trans rfl; have hp1 : w12.cell? ⟨gp, 1, none⟩ = some (.int .i64 lp) := (blk_cell BK2.out 1).trans rfl; have hp2 : w12.cell? ⟨gp, 2, none⟩ = some (.int .i64 wk) := (blk_cell BK2.out 2).trans rfl; have hq0 := (HB2.out.cell (p := ⟨g, 0, none⟩) GLT.out).trans hM0.out; have hq1 := (HB2.out.cell (p := ⟨g, 1, none⟩) GLT.out).trans hM1.out; have hq2 := (HB2.out.cell (p := ⟨g, 2, none⟩) GLT.out).trans hM2.out; have hq3 := (HB2.out.cell (p := ⟨g, 3, none⟩) GLT.out).trans hM3.out; have hq4 := (HB2.out.cell (p := ⟨g, 4, none⟩) GLT.out).trans hM4.out; have hq5 := (HB2.out.cell (p := ⟨g, 5, none⟩) GLT.out).trans hM5.out; have hq6 := (HB2.out.cell (p := ⟨g, 6, none⟩) GLT.out).trans hM6.out))
  go_ret
  exact ⟨rfl, HMM.out.below (by repeat (first | exact HB2.out | apply pw_below_drewN | apply below_drew | apply below_drew1))⟩
 | true =>
  rw [if_pos rfl] at hr
  obtain rfl := hr
  have hb0 : (0 ≤ wk ∧ wk ≤ (l1.length : Int) - 1) ∧ rd done wk = lap := by
   simp only [cutB, Bool.and_eq_true] at hc
   obtain ⟨h1, h2, h3, _⟩ := hc
   unfold inB at h1
   refine ⟨by simpa using h1, ?_⟩
   have e2 : lp = lap := by simpa using h2
   have e3 : rd done wk = lp := by simpa using h3
   rw [e3, e2]
  obtain ⟨n, rfl⟩ := Int.eq_ofNat_of_zero_le hb0.1.1
  have HNL : Aside0 (n < l1.length) := ⟨by have := hb0.1.2; omega⟩
  have HDB : Aside0 (-1 ≤ rd done (n : Int) ∧ rd done (n : Int) < 100000) := ⟨by rw [hb0.2]; exact HMM.out.lb⟩
  clear hb0 hc
  have k3 : ((n : Int) < (done.length : Int)) = True := eq_true (by have := HM.out.len; have := HNL.out; omega)
  have k4 : (0 ≤ (n : Int)) = True := eq_true (by omega)
  have k5 : (n < done.length) = True := eq_true (by have := HM.out.len; have := HNL.out; omega)
  have HXD : Aside0 (W.cell? ⟨k, n, none⟩ = some (.int .i64 (rd done (n : Int)))) := ⟨by
   rw [blk_cell HMM.out.row n]
   have h9 : n < done.length := by have := HM.out.len; have := HNL.out; omega
   unfold rd
   rw [Int.toNat_natCast, List.getD_eq_getElem?_getD, List.getElem?_eq_getElem h9]
   simp [h9]⟩
  have hws : IntKind.i64.wrap (rd done (n : Int) + 1) = rd done (n : Int) + 1 := by
   have := HDB.out
   rw [IntKind.wrap_i64]
   omega
  generalize rd done (n : Int) = d at *
  go_enter Tryd.func20, Tryd.ntmps20
  go_wp2_with (first | ((with_reducible refine gate_dst (N := 3) rfl ?_); refine bev (N := 3) (cs := #[.int .i64 3, .int .i64 lp, .int .i64 (n : Int)]) (t := 60) ?_; intro gp hg w6 hbox hb; have BK1 := Aside0.mk hbox; have HB1 := Aside0.mk hb; have hp0 : w6.cell? ⟨gp, 0, none⟩ = some (.int .i64 3) := (blk_cell BK1.out 0).trans rfl; have hp1 : w6.cell? ⟨gp, 1, none⟩ = some (.int .i64 lp) := (blk_cell BK1.out 1).trans rfl; have hp2 : w6.cell? ⟨gp, 2, none⟩ = some (.int .i64 (n : Int)) := (blk_cell BK1.out 2).trans rfl; have hq0 := (HB1.out.cell (p := ⟨g, 0, none⟩) GLT.out).trans hM0.out; have hq1 := (HB1.out.cell (p := ⟨g, 1, none⟩) GLT.out).trans hM1.out; have hq2 := (HB1.out.cell (p := ⟨g, 2, none⟩) GLT.out).trans hM2.out; have hq3 := (HB1.out.cell (p := ⟨g, 3, none⟩) GLT.out).trans hM3.out; have hq4 := (HB1.out.cell (p := ⟨g, 4, none⟩) GLT.out).trans hM4.out; have hq5 := (HB1.out.cell (p := ⟨g, 5, none⟩) GLT.out).trans hM5.out; have hq6 := (HB1.out.cell (p := ⟨g, 6, none⟩) GLT.out).trans hM6.out; have hf4 := blk_frozen (blk_below HM.out.blk (Below.mono (show Below W.heap.size W w6 from HB1.out) (Nat.le_refl _))) 4; clear hb hbox hg) | (go_at_call 36; (with_reducible refine (cut.calls g A0 c0 l0 A1 c1 l1 a2 a3 lap _ _ done moved 3 lp (n : Int) true _ (HMM.out.below (mb_ HB1.out)).isM HC.out).mono ?_); rintro e w12 ⟨rfl, hb⟩; have HB2 : Aside0 (Below W.heap.size W w12) := ⟨Below.trans (mb_ HB1.out) (hb.mono HB1.out.size)⟩; have BK2 : Aside0 (w12.heap[gp]? = some (.cells #[.int .i64 3, .int .i64 lp, .int .i64 (n : Int)] 60 (0, 0))) := ⟨(hb.block _ (blk_lt_ BK1.out)).trans BK1.out⟩; clear hb hq0 hq1 hq2 hq3 hq4 hq5 hq6 hp0 hp1 hp2; have hp0 : w12.cell? ⟨gp, 0, none⟩ = some (.int .i64 3) := (blk_cell BK2.out 0).trans rfl; have hp1 : w12.cell? ⟨gp, 1, none⟩ = some (.int .i64 lp) := (blk_cell BK2.out 1).trans rfl; have hp2 : w12.cell? ⟨gp, 2, none⟩ = some (.int .i64 (n : Int)) := (blk_cell BK2.out 2).trans rfl; have hq0 := (HB2.out.cell (p := ⟨g, 0, none⟩) GLT.out).trans hM0.out; have hq1 := (HB2.out.cell (p := ⟨g, 1, none⟩) GLT.out).trans hM1.out; have hq2 := (HB2.out.cell (p := ⟨g, 2, none⟩) GLT.out).trans hM2.out; have hq3 := (HB2.out.cell (p := ⟨g, 3, none⟩) GLT.out).trans hM3.out; have hq4 := (HB2.out.cell (p := ⟨g, 4, none⟩) GLT.out).trans hM4.out; have hq5 := (HB2.out.cell (p := ⟨g, 5, none⟩) GLT.out).trans hM5.out; have hq6 := (HB2.out.cell (p := ⟨g, 6, none⟩) GLT.out).trans hM6.out; have hxd := (HB2.out.cell (World.block_lt_of_cell? W _ HXD.out)).trans HXD.out; have hfd := blk_frozen (blk_below HMM.out.row HB2.out) n))
  go_region
  go_wp2
  go_ret
  exact ⟨rfl, (((HMM.out.below HB2.out).setDone n (d + 1))).below (below_drew (Below.refl _ _))⟩
set_option maxHeartbeats 8000000 in
set_option maxRecDepth 100000 in
theorem stepN.calls (w0 W : World) (g k : Nat) (A0 : Option Addr) (c0 : Nat) (l0 : List S49) (A1 : Option Addr) (c1 : Nat) (l1 : List S51) (a2 a3 lap : Int) (done : List Int) (moved : Bool) (kd lp wk : Int) (hk1 : kd ≠ 1) (hk2 : kd ≠ 2) (hk3 : kd ≠ 3) (r : Option (Int × List Int × Bool)) (hM : Mach w0 W g k A0 c0 l0 A1 c1 l1 a2 a3 lap done moved) (hr : stepF l0.length l1 lap done moved ⟨kd, lp, wk⟩ = r) :
  Calls Tryd.prog 20 #[.pointer (some ⟨g, 0, none⟩), .agg #[.int .i64 kd, .int .i64 lp, .int .i64 wk]] W fun e w' => e = .returned (.bool r.isSome) ∧ Mach w0 w' g k A0 c0 l0 A1 c1 l1 a2 a3 (r.getD (lap, done, moved)).1 (r.getD (lap, done, moved)).2.1 (r.getD (lap, done, moved)).2.2 := by
 have hu62 := Tryd.underlying60
 have hu59 := Tryd.underlying35
 have HMM := Aside0.mk hM
 have HM := Aside0.mk hM.isM
 have GLT := Aside0.mk (blk_lt_ hM.blk)
 have hM0 : Aside0 (W.cell? ⟨g, 0, none⟩ = some (.slice A0 l0.length c0)) := ⟨(blk_cell HM.out.blk 0).trans rfl⟩
 have hM1 : Aside0 (W.cell? ⟨g, 1, none⟩ = some (.slice A1 l1.length c1)) := ⟨(blk_cell HM.out.blk 1).trans rfl⟩
 have hM2 : Aside0 (W.cell? ⟨g, 2, none⟩ = some (.int .i64 a2)) := ⟨(blk_cell HM.out.blk 2).trans rfl⟩
 have hM3 : Aside0 (W.cell? ⟨g, 3, none⟩ = some (.int .i64 a3)) := ⟨(blk_cell HM.out.blk 3).trans rfl⟩
 have hM4 : Aside0 (W.cell? ⟨g, 4, none⟩ = some (.int .i64 lap)) := ⟨(blk_cell HM.out.blk 4).trans rfl⟩
 have hM5 : Aside0 (W.cell? ⟨g, 5, none⟩ = some (.slice (some ⟨k, 0, none⟩) done.length done.length)) := ⟨(blk_cell HM.out.blk 5).trans rfl⟩
 have hM6 : Aside0 (W.cell? ⟨g, 6, none⟩ = some (.bool moved)) := ⟨(blk_cell HM.out.blk 6).trans rfl⟩
 have HW0 : Aside0 (IntKind.i64.wrap ((l0.length : Int) - 1) = (l0.length : Int) - 1) := ⟨by have := HMM.out.few0; rw [IntKind.wrap_i64]; omega⟩
 unfold stepF at hr
 dsimp only at hr
 clear hM
 rw [if_neg hk1, if_neg hk2, if_neg hk3] at hr
 obtain rfl := hr
 have j1 : (kd == 1) = false := by simpa using hk1
 have j2 : (kd == 2) = false := by simpa using hk2
 have j3 : (kd == 3) = false := by simpa using hk3
 go_enter Tryd.func20, Tryd.ntmps20
 go_wp2_with (first | ((with_reducible refine gate_dst (N := 3) rfl ?_); refine bev (N := 3) (cs := #[.int .i64 kd, .int .i64 lp, .int .i64 wk]) (t := 60) ?_; intro gp hg w6 hbox hb; have BK1 := Aside0.mk hbox; have HB1 := Aside0.mk hb; have hp0 : w6.cell? ⟨gp, 0, none⟩ = some (.int .i64 kd) := (blk_cell BK1.out 0).trans rfl; have hp1 : w6.cell? ⟨gp, 1, none⟩ = some (.int .i64 lp) := (blk_cell BK1.out 1).trans rfl; have hp2 : w6.cell? ⟨gp, 2, none⟩ = some (.int .i64 wk) := (blk_cell BK1.out 2).trans rfl; have hq0 := (HB1.out.cell (p := ⟨g, 0, none⟩) GLT.out).trans hM0.out; have hq1 := (HB1.out.cell (p := ⟨g, 1, none⟩) GLT.out).trans hM1.out; have hq2 := (HB1.out.cell (p := ⟨g, 2, none⟩) GLT.out).trans hM2.out; have hq3 := (HB1.out.cell (p := ⟨g, 3, none⟩) GLT.out).trans hM3.out; have hq4 := (HB1.out.cell (p := ⟨g, 4, none⟩) GLT.out).trans hM4.out; have hq5 := (HB1.out.cell (p := ⟨g, 5, none⟩) GLT.out).trans hM5.out; have hq6 := (HB1.out.cell (p := ⟨g, 6, none⟩) GLT.out).trans hM6.out; have hf4 := blk_frozen (blk_below HM.out.blk (Below.mono (show Below W.heap.size W w6 from HB1.out) (Nat.le_refl _))) 4; clear hb hbox hg))
 go_ret
 exact ⟨rfl, HMM.out.below (by repeat (first | exact HB1.out | apply pw_below_drewN | apply below_drew | apply below_drew1))⟩
theorem step.calls (w0 W : World) (g k : Nat) (A0 : Option Addr) (c0 : Nat) (l0 : List S49) (A1 : Option Addr) (c1 : Nat) (l1 : List S51) (a2 a3 lap : Int) (done : List Int) (moved : Bool) (kd lp wk : Int) (r : Option (Int × List Int × Bool)) (hM : Mach w0 W g k A0 c0 l0 A1 c1 l1 a2 a3 lap done moved) (hr : stepF l0.length l1 lap done moved ⟨kd, lp, wk⟩ = r) :
  Calls Tryd.prog 20 #[.pointer (some ⟨g, 0, none⟩), .agg #[.int .i64 kd, .int .i64 lp, .int .i64 wk]] W fun e w' => e = .returned (.bool r.isSome) ∧ Mach w0 w' g k A0 c0 l0 A1 c1 l1 a2 a3 (r.getD (lap, done, moved)).1 (r.getD (lap, done, moved)).2.1 (r.getD (lap, done, moved)).2.2 := by
 by_cases h1 : kd = 1
 ·
  subst h1; exact step1.calls w0 W g k A0 c0 l0 A1 c1 l1 a2 a3 lap done moved lp wk r hM hr
 by_cases h2 : kd = 2
 ·
  subst h2; exact step2.calls w0 W g k A0 c0 l0 A1 c1 l1 a2 a3 lap done moved lp wk r hM hr
 by_cases h3 : kd = 3
 ·
  subst h3; exact step3.calls w0 W g k A0 c0 l0 A1 c1 l1 a2 a3 lap done moved lp wk r hM hr
 ·
  exact stepN.calls w0 W g k A0 c0 l0 A1 c1 l1 a2 a3 lap done moved kd lp wk h1 h2 h3 r hM hr
theorem st62 (W : World) (g : Nat) (a c d : Int) {o0 o1 o2 : Value} (h0 : W.cell? ⟨g, 0, none⟩ = some o0) (h1 : W.cell? ⟨g, 1, none⟩ = some o1) (h2 : W.cell? ⟨g, 2, none⟩ = some o2)
  (f0 : W.frozen? ⟨g, 0, none⟩ = false) (f1 : W.frozen? ⟨g, 1, none⟩ = false) (f2 : W.frozen? ⟨g, 2, none⟩ = false) :
  (do Instr.storeAt 60 (.pointer (some ⟨g, 0, none⟩)) (.agg #[.int .i64 a, .int .i64 c, .int .i64 d]); pure Next.skip : Sem Next).run Tryd.prog W = .ok .skip (((W.setCell ⟨g, 0, none⟩ (.int .i64 a)).setCell ⟨g, 1, none⟩ (.int .i64 c)).setCell ⟨g, 2, none⟩ (.int .i64 d)) := by
 have hu := Tryd.underlying60
 have hu3 := Tryd.underlying3
 go_simp
def runC (n0 : Nat) (l1 : List S51) (l : List S60) : Nat → Nat → Int → List Int → Bool → Int × Int
 | 0, _, _, done, _ => if finB n0 l1 done 1 && finB n0 l1 done 2 then ((l.length : Int), 0) else ((l.length : Int), 9)
 | m + 1, i, lap, done, moved => match stepF n0 l1 lap done moved (l.getD i z60) with
  | none => ((i : Int), 8)
  | some q => runC n0 l1 l m (i + 1) q.1 q.2.1 q.2.2
def steps_Check.f (k : Nat) (a0_0 : List S49) (a0_1 : List S51) (a0_2 : Int) (a0_3 : Int) (a1 : List S60) : Option (Int × Int) :=
 (steps_Valid.f k a0_0 a0_1 a0_2 a0_3).bind fun v => if v = true then (if a1.length ≤ 1000000 then some (runC a0_0.length a0_1 a1 a1.length 0 (-1) (List.replicate a0_1.length 0) false) else none) else some (0, 1)
theorem valid_few (k : Nat) (l0 : List S49) (l1 : List S51) (a2 a3 : Int) (h : steps_Valid.f k l0 l1 a2 a3 = some true) : l0.length ≤ 100000 ∧ l1.length ≤ 100000 := by
 unfold steps_Valid.f at h
 by_cases h0 : inB l0.length 1 6 = true
 ·
  rw [if_pos h0] at h
  by_cases h1 : inB l1.length 1 20 = true
  ·
   unfold inB at h0 h1
   simp at h0 h1
   omega
  ·
   rw [if_neg h1] at h; cases h
 ·
  rw [if_neg h0] at h; cases h
set_option maxHeartbeats 8000000 in
set_option maxRecDepth 100000 in
theorem steps_Check.calls_ (k : Nat) (A0_0 : Option Addr) (c0_0 : Nat) (l0_0 : List S49) (A0_1 : Option Addr) (c0_1 : Nat) (l0_1 : List S51) (a0_2 : Int) (a0_3 : Int) (A1 : Option Addr) (c1 : Nat) (l1 : List S60) (r : Int × Int) (w : World) (hr0_0 : Kd.C k49 w A0_0 l0_0.length l0_0) (hc0_0 : l0_0.length ≤ c0_0) (hr0_1 : Kd.C k51 w A0_1 l0_1.length l0_1) (hc0_1 : l0_1.length ≤ c0_1) (hr1 : Kd.C k60 w A1 l1.length l1) (hc1 : l1.length ≤ c1) (h : steps_Check.f k l0_0 l0_1 a0_2 a0_3 l1 = some r) :
  Calls Tryd.prog 6 #[.agg #[.slice A0_0 l0_0.length c0_0, .slice A0_1 l0_1.length c0_1, .int .i64 a0_2, .int .i64 a0_3], .slice A1 l1.length c1] w fun e w' => e = .returned (.tuple #[.int .i64 r.1, .int .i64 r.2]) ∧ Below w.heap.size w w' := by
 have hu59 := Tryd.underlying35
 have hu62 := Tryd.underlying60
 unfold steps_Check.f at h
 obtain ⟨v, hv, h⟩ := Option.bind_eq_some_iff.mp h
 have HV := Aside0.mk hv
 have HR0 := Aside0.mk hr0_0
 have HR1 := Aside0.mk hr0_1
 have HRL := Aside0.mk hr1
 clear hr0_0 hr0_1 hr1 hv
 cases v with
 | false =>
  rw [if_neg (by simp)] at h
  obtain rfl := Option.some.inj h
  clear h
  go_enter Tryd.func6, Tryd.ntmps6
  go_wp2_with (first | ((with_reducible refine gate_dst (N := 2) rfl ?_); refine bev (N := 2) (cs := #[.slice A0_0 l0_0.length c0_0, .slice A0_1 l0_1.length c0_1, .int .i64 a0_2, .int .i64 a0_3]) (t := 35) ?_; intro gp hg w6 hbox hb; have BK1 := Aside0.mk hbox; have HB1 := Aside0.mk hb; have hp0 : w6.cell? ⟨gp, 0, none⟩ = some (.slice A0_0 l0_0.length c0_0) := (blk_cell BK1.out 0).trans rfl; have hp1 : w6.cell? ⟨gp, 1, none⟩ = some (.slice A0_1 l0_1.length c0_1) := (blk_cell BK1.out 1).trans rfl; have hp2 : w6.cell? ⟨gp, 2, none⟩ = some (.int .i64 a0_2) := (blk_cell BK1.out 2).trans rfl; have hp3 : w6.cell? ⟨gp, 3, none⟩ = some (.int .i64 a0_3) := (blk_cell BK1.out 3).trans rfl; clear hb hbox hg) | (go_at_call 18; (with_reducible refine (steps_Valid.calls k A0_0 c0_0 l0_0 A0_1 c0_1 l0_1 a0_2 a0_3 false _ (Kd.C_below HR0.out HB1.out) hc0_0 (Kd.C_below HR1.out HB1.out) hc0_1 HV.out).mono ?_); rintro e w12 ⟨rfl, hb⟩; have HB2 : Aside0 (Below w.heap.size w w12) := ⟨Below.trans HB1.out (hb.mono HB1.out.size)⟩; have BK2 : Aside0 (w12.heap[gp]? = some (.cells #[.slice A0_0 l0_0.length c0_0, .slice A0_1 l0_1.length c0_1, .int .i64 a0_2, .int .i64 a0_3] 35 (0, 0))) := ⟨(hb.block _ (blk_lt_ BK1.out)).trans BK1.out⟩; clear hb hp0 hp1 hp2 hp3; have hp0 : w12.cell? ⟨gp, 0, none⟩ = some (.slice A0_0 l0_0.length c0_0) := (blk_cell BK2.out 0).trans rfl; have hp1 : w12.cell? ⟨gp, 1, none⟩ = some (.slice A0_1 l0_1.length c0_1) := (blk_cell BK2.out 1).trans rfl; have hp2 : w12.cell? ⟨gp, 2, none⟩ = some (.int .i64 a0_2) := (blk_cell BK2.out 2).trans rfl; have hp3 : w12.cell? ⟨gp, 3, none⟩ = some (.int .i64 a0_3) := (blk_cell BK2.out 3).trans rfl))
  refine bodyPost_ret (results_list (rs := [.tmp 4, .tmp 5]) rfl (by simp) (.tmp (.tmp .nil))) rfl ?_
  exact ⟨rfl, mb_ HB2.out⟩
 | true =>
  rw [if_pos rfl] at h
  have HFEW := Aside0.mk (valid_few _ _ _ _ _ HV.out)
  by_cases hl : l1.length ≤ 1000000
  ·
   rw [if_pos hl] at h
   have HL := Aside0.mk hl
   have HRUN := Aside0.mk (Option.some.inj h)
   clear h hl
   go_enter Tryd.func6, Tryd.ntmps6
   go_wp2_with (first | ((with_reducible refine gate_dst (N := 2) rfl ?_); refine bev (N := 2) (cs := #[.slice A0_0 l0_0.length c0_0, .slice A0_1 l0_1.length c0_1, .int .i64 a0_2, .int .i64 a0_3]) (t := 35) ?_; intro gp hg w6 hbox hb; have BK1 := Aside0.mk hbox; have HB1 := Aside0.mk hb; have hp0 : w6.cell? ⟨gp, 0, none⟩ = some (.slice A0_0 l0_0.length c0_0) := (blk_cell BK1.out 0).trans rfl; have hp1 : w6.cell? ⟨gp, 1, none⟩ = some (.slice A0_1 l0_1.length c0_1) := (blk_cell BK1.out 1).trans rfl; have hp2 : w6.cell? ⟨gp, 2, none⟩ = some (.int .i64 a0_2) := (blk_cell BK1.out 2).trans rfl; have hp3 : w6.cell? ⟨gp, 3, none⟩ = some (.int .i64 a0_3) := (blk_cell BK1.out 3).trans rfl; clear hb hbox hg) | (go_at_call 18; (with_reducible refine (steps_Valid.calls k A0_0 c0_0 l0_0 A0_1 c0_1 l0_1 a0_2 a0_3 true _ (Kd.C_below HR0.out HB1.out) hc0_0 (Kd.C_below HR1.out HB1.out) hc0_1 HV.out).mono ?_); rintro e w12 ⟨rfl, hb⟩; have HB2 : Aside0 (Below w.heap.size w w12) := ⟨Below.trans HB1.out (hb.mono HB1.out.size)⟩; have BK2 : Aside0 (w12.heap[gp]? = some (.cells #[.slice A0_0 l0_0.length c0_0, .slice A0_1 l0_1.length c0_1, .int .i64 a0_2, .int .i64 a0_3] 35 (0, 0))) := ⟨(hb.block _ (blk_lt_ BK1.out)).trans BK1.out⟩; clear hb hp0 hp1 hp2 hp3; have hp0 : w12.cell? ⟨gp, 0, none⟩ = some (.slice A0_0 l0_0.length c0_0) := (blk_cell BK2.out 0).trans rfl; have hp1 : w12.cell? ⟨gp, 1, none⟩ = some (.slice A0_1 l0_1.length c0_1) := (blk_cell BK2.out 1).trans rfl; have hp2 : w12.cell? ⟨gp, 2, none⟩ = some (.int .i64 a0_2) := (blk_cell BK2.out 2).trans rfl; have hp3 : w12.cell? ⟨gp, 3, none⟩ = some (.int .i64 a0_3) := (blk_cell BK2.out 3).trans rfl) | (go_at_call 19; (with_reducible refine (start.calls A0_0 c0_0 l0_0 A0_1 c0_1 l0_1 a0_2 a0_3 _ (Kd.C_below HR0.out (mb_ HB2.out)) hc0_0 (Kd.C_below HR1.out (mb_ HB2.out)) hc0_1 HFEW.out.2 HFEW.out.1).mono ?_); rintro e w13 ⟨g, kk, rfl, hm⟩; have HX : Aside0 (∃ wb, Below w.heap.size w wb ∧ Mach wb w13 g kk A0_0 c0_0 l0_0 A0_1 c0_1 l0_1 a0_2 a0_3 (-1) (List.replicate l0_1.length 0) false) := ⟨⟨_, (mb_ HB2.out), hm⟩⟩; clear hm))
   clear hp0 hp1 hp2 hp3
   obtain ⟨wb, hwb, hmm⟩ := HX.out
   have HWB := Aside0.mk hwb
   have HMI := Aside0.mk hmm
   clear hwb hmm
   go_loopg [16] l1.length (fun kq v16 w' => ∃ i lap done moved, v16 = .int .i64 ((i : Nat) : Int) ∧ Aside0 (i + kq = l1.length) ∧ Aside0 (runC l0_0.length l0_1 l1 kq i lap done moved = r) ∧ Aside0 (Mach wb w' g kk A0_0 c0_0 l0_0 A0_1 c0_1 l0_1 a0_2 a0_3 lap done moved))
   case atStart => exact ⟨0, -1, _, false, rfl, ⟨by omega⟩, HRUN, ⟨by repeat (first | exact HMI.out | exact HMI.out.below (by repeat (first | exact Below.refl _ _ | apply pw_below_drewN | apply below_drew1)))⟩⟩
   case round =>
    obtain ⟨i, lap, done, moved, rfl, HI, HRR, HMm⟩ := hrel
    have HBP := Aside0.mk (Below.refl wr.heap.size wr)
    cases gk with
    | zero =>
     have hi : i = l1.length := by have := HI.out; omega
     have c1 : decide ((i : Int) < (l1.length : Int)) = false := decide_eq_false (by omega)
     have c2 : decide (i < l1.length) = false := decide_eq_false (by omega)
     have hq := HRR.out
     simp only [runC] at hq
     obtain ⟨f1, hf1⟩ : ∃ f, finB l0_0.length l0_1 done 1 = f := ⟨_, rfl⟩
     obtain ⟨f2, hf2⟩ : ∃ f, finB l0_0.length l0_1 done 2 = f := ⟨_, rfl⟩
     have HF1 := Aside0.mk hf1
     have HF2 := Aside0.mk hf2
     rw [hf1, hf2] at hq
     clear hf1 hf2 hi
     cases f1 with
     | false =>
      rw [if_neg (by simp)] at hq
      obtain rfl := hq
      go_wp2_with (first | (go_at_call 21; (with_reducible refine (fin.calls g A0_0 c0_0 l0_0 A0_1 c0_1 l0_1 a0_2 a0_3 lap _ _ done moved 1 false _ (HMm.out.below (mb_ HBP.out)).isM HF1.out).mono ?_); rintro e w14 ⟨rfl, hb⟩; have HC1 : Aside0 (Below wr.heap.size wr w14) := ⟨Below.trans (mb_ HBP.out) (hb.mono HBP.out.size)⟩; clear hb))
      refine bodyPost_ret (results_list (rs := [.tmp 4, .tmp 5]) rfl (by simp) (.tmp (.tmp .nil))) rfl ?_
      exact ⟨rfl, HWB.out.trans ((HMm.out.below (mb_ HC1.out)).bel.mono HWB.out.size)⟩
     | true =>
      cases f2 with
      | false =>
       rw [if_neg (by simp)] at hq
       obtain rfl := hq
       go_wp2_with (first | (go_at_call 21; (with_reducible refine (fin.calls g A0_0 c0_0 l0_0 A0_1 c0_1 l0_1 a0_2 a0_3 lap _ _ done moved 1 true _ (HMm.out.below (mb_ HBP.out)).isM HF1.out).mono ?_); rintro e w14 ⟨rfl, hb⟩; have HC1 : Aside0 (Below wr.heap.size wr w14) := ⟨Below.trans (mb_ HBP.out) (hb.mono HBP.out.size)⟩; clear hb) | (go_at_call 21; (with_reducible refine (fin.calls g A0_0 c0_0 l0_0 A0_1 c0_1 l0_1 a0_2 a0_3 lap _ _ done moved 2 false _ (HMm.out.below (mb_ HC1.out)).isM HF2.out).mono ?_); rintro e w15 ⟨rfl, hb⟩; have HC2 : Aside0 (Below wr.heap.size wr w15) := ⟨Below.trans (mb_ HC1.out) (hb.mono HC1.out.size)⟩; clear hb))
       refine bodyPost_ret (results_list (rs := [.tmp 4, .tmp 5]) rfl (by simp) (.tmp (.tmp .nil))) rfl ?_
       exact ⟨rfl, HWB.out.trans ((HMm.out.below (mb_ HC2.out)).bel.mono HWB.out.size)⟩
      | true =>
       rw [if_pos (by simp)] at hq
       obtain rfl := hq
       go_wp2_with (first | (go_at_call 21; (with_reducible refine (fin.calls g A0_0 c0_0 l0_0 A0_1 c0_1 l0_1 a0_2 a0_3 lap _ _ done moved 1 true _ (HMm.out.below (mb_ HBP.out)).isM HF1.out).mono ?_); rintro e w14 ⟨rfl, hb⟩; have HC1 : Aside0 (Below wr.heap.size wr w14) := ⟨Below.trans (mb_ HBP.out) (hb.mono HBP.out.size)⟩; clear hb) | (go_at_call 21; (with_reducible refine (fin.calls g A0_0 c0_0 l0_0 A0_1 c0_1 l0_1 a0_2 a0_3 lap _ _ done moved 2 true _ (HMm.out.below (mb_ HC1.out)).isM HF2.out).mono ?_); rintro e w15 ⟨rfl, hb⟩; have HC2 : Aside0 (Below wr.heap.size wr w15) := ⟨Below.trans (mb_ HC1.out) (hb.mono HC1.out.size)⟩; clear hb))
       refine bodyPost_ret (results_list (rs := [.tmp 4, .tmp 5]) rfl (by simp) (.tmp (.tmp .nil))) rfl ?_
       exact ⟨rfl, HWB.out.trans ((HMm.out.below (mb_ HC2.out)).bel.mono HWB.out.size)⟩
    | succ k1 =>
     have hi : i < l1.length := by have := HI.out; omega
     have c1 : decide ((i : Int) < (l1.length : Int)) = true := decide_eq_true (by omega)
     have c2 : decide (i < l1.length) = true := decide_eq_true hi
     have c3 : ((i : Int) < (l1.length : Int)) = True := eq_true (by omega)
     have c4 : (0 ≤ (i : Int)) = True := eq_true (by omega)
     have hcc : i ≤ 1000000 := by have := HL.out; omega
     obtain ⟨ad, e1, hx0, hx1, hx2⟩ := at_T60 HRL.out (i : Int) (by omega) (by omega)
     rw [Int.toNat_natCast] at hx0 hx1 hx2
     have HWR : Aside0 (Below w.heap.size w wr) := ⟨HWB.out.trans (HMm.out.bel.mono HWB.out.size)⟩
     replace hx0 := (HWR.out.cell (World.block_lt_of_cell? w _ hx0)).trans hx0
     replace hx1 := (HWR.out.cell (World.block_lt_of_cell? w _ hx1)).trans hx1
     replace hx2 := (HWR.out.cell (World.block_lt_of_cell? w _ hx2)).trans hx2
     have hX : rd_T60 l1 (i : Int) = l1.getD i z60 := by unfold rd_T60; rw [Int.toNat_natCast]
     rw [hX] at hx0 hx1 hx2
     have hW : wrap64 ((i : Int) + 1) = ((i + 1 : Nat) : Int) := by unfold wrap64; omega
     have HW := Aside0.mk hW
     have hq := HRR.out
     simp only [runC] at hq
     cases e1
     clear hW hi hX hcc
     generalize l1.getD i z60 = X at *
     obtain ⟨q, hsf⟩ : ∃ q, stepF l0_0.length l0_1 lap done moved X = q := ⟨_, rfl⟩
     have HSF : Aside0 (stepF l0_0.length l0_1 lap done moved ⟨X.f0, X.f1, X.f2⟩ = q) := ⟨hsf⟩
     rw [hsf] at hq
     clear hsf
     cases q with
     | none =>
      dsimp only at hq
      obtain rfl := hq
      go_wp2_with (first | ((with_reducible refine gate_dst (N := 8) rfl ?_); (try (refine gate_guard (by rfl) ?_; dsimp only)); refine bev (N := 8) (cs := #[.int .i64 0, .int .i64 0, .int .i64 0]) (t := 60) ?_; intro gb hg w6 hbox hb; have BK3 := Aside0.mk hbox; have HB3 := Aside0.mk (HBP.out.trans (hb.mono HBP.out.size)); have GW := Aside0.mk ((by rw [hg]; exact HBP.out.size) : wr.heap.size ≤ gb); have hz0 : w6.cell? ⟨gb, 0, none⟩ = some (.int .i64 0) := (blk_cell BK3.out 0).trans rfl; have hz1 : w6.cell? ⟨gb, 1, none⟩ = some (.int .i64 0) := (blk_cell BK3.out 1).trans rfl; have hz2 : w6.cell? ⟨gb, 2, none⟩ = some (.int .i64 0) := (blk_cell BK3.out 2).trans rfl; have hf0 := blk_frozen BK3.out 0; have hf1 := blk_frozen BK3.out 1; have hf2 := blk_frozen BK3.out 2; clear hb hbox hg) | ((with_reducible refine gate_store (t := 60) (p := 8) rfl ?_); refine store_event (t := 60) (p := 8) (v := ?vsm) (w1 := (((w6.setCell ⟨gb, 0, none⟩ (.int .i64 X.f0)).setCell ⟨gb, 1, none⟩ (.int .i64 X.f1)).setCell ⟨gb, 2, none⟩ (.int .i64 X.f2))) ?hg ?ho ?hn ?hr ?_; (case ho => rfl); (case hg => rfl); (case hn => rfl); (case hr => (simp only [execOp]); (rw [show Act.eval _ (.tmp 8) = .pointer (some ⟨gb, 0, none⟩) from rfl, show Act.eval _ (.tmp 20) = .agg #[.int .i64 X.f0, .int .i64 X.f1, .int .i64 X.f2] from rfl]); exact st62 _ _ _ _ _ hz0 hz1 hz2 hf0 hf1 hf2); intro w97 hw97; have BK4 : Aside0 (w97.heap[gb]? = some (.cells #[.int .i64 X.f0, .int .i64 X.f1, .int .i64 X.f2] 60 (0, 0))) := ⟨by rw [hw97]; refine blk_put (cs := #[.int .i64 X.f0, .int .i64 X.f1, .int .i64 0]) ?_ 2 _ rfl; refine blk_put (cs := #[.int .i64 X.f0, .int .i64 0, .int .i64 0]) ?_ 1 _ rfl; refine blk_put (cs := #[.int .i64 0, .int .i64 0, .int .i64 0]) ?_ 0 _ rfl; exact BK3.out⟩; have HB4 := Aside0.mk (((HB3.out.setCell (p := ⟨gb, 0, none⟩) GW.out (.int .i64 X.f0)).setCell (p := ⟨gb, 1, none⟩) GW.out (.int .i64 X.f1)).setCell (p := ⟨gb, 2, none⟩) GW.out (.int .i64 X.f2)); rw [← hw97] at HB4; have hy0 : w97.cell? ⟨gb, 0, none⟩ = some (.int .i64 X.f0) := (blk_cell BK4.out 0).trans rfl; have hy1 : w97.cell? ⟨gb, 1, none⟩ = some (.int .i64 X.f1) := (blk_cell BK4.out 1).trans rfl; have hy2 : w97.cell? ⟨gb, 2, none⟩ = some (.int .i64 X.f2) := (blk_cell BK4.out 2).trans rfl; clear hz0 hz1 hz2 hf0 hf1 hf2 hw97) | (go_at_call 20; (with_reducible refine (step.calls wb _ g kk A0_0 c0_0 l0_0 A0_1 c0_1 l0_1 a0_2 a0_3 lap done moved X.f0 X.f1 X.f2 none (HMm.out.below (mb_ HB4.out)) HSF.out).mono ?_); rintro e w14 ⟨he, hm⟩; obtain rfl : e = .returned (.bool false) := he; have HM2 : Aside0 (Mach wb w14 g kk A0_0 c0_0 l0_0 A0_1 c0_1 l0_1 a0_2 a0_3 lap done moved) := ⟨hm⟩; clear hm))
      refine bodyPost_ret (results_list (rs := [.tmp 4, .tmp 5]) rfl (by simp) (.tmp (.tmp .nil))) rfl ?_
      exact ⟨rfl, HWB.out.trans (HM2.out.bel.mono HWB.out.size)⟩
     | some q =>
      dsimp only at hq
      have HQ := Aside0.mk hq
      clear hq
      go_wp2_with (first | ((with_reducible refine gate_dst (N := 8) rfl ?_); (try (refine gate_guard (by rfl) ?_; dsimp only)); refine bev (N := 8) (cs := #[.int .i64 0, .int .i64 0, .int .i64 0]) (t := 60) ?_; intro gb hg w6 hbox hb; have BK3 := Aside0.mk hbox; have HB3 := Aside0.mk (HBP.out.trans (hb.mono HBP.out.size)); have GW := Aside0.mk ((by rw [hg]; exact HBP.out.size) : wr.heap.size ≤ gb); have hz0 : w6.cell? ⟨gb, 0, none⟩ = some (.int .i64 0) := (blk_cell BK3.out 0).trans rfl; have hz1 : w6.cell? ⟨gb, 1, none⟩ = some (.int .i64 0) := (blk_cell BK3.out 1).trans rfl; have hz2 : w6.cell? ⟨gb, 2, none⟩ = some (.int .i64 0) := (blk_cell BK3.out 2).trans rfl; have hf0 := blk_frozen BK3.out 0; have hf1 := blk_frozen BK3.out 1; have hf2 := blk_frozen BK3.out 2; clear hb hbox hg) | ((with_reducible refine gate_store (t := 60) (p := 8) rfl ?_); refine store_event (t := 60) (p := 8) (v := ?vsm) (w1 := (((w6.setCell ⟨gb, 0, none⟩ (.int .i64 X.f0)).setCell ⟨gb, 1, none⟩ (.int .i64 X.f1)).setCell ⟨gb, 2, none⟩ (.int .i64 X.f2))) ?hg ?ho ?hn ?hr ?_; (case ho => rfl); (case hg => rfl); (case hn => rfl); (case hr => (simp only [execOp]); (rw [show Act.eval _ (.tmp 8) = .pointer (some ⟨gb, 0, none⟩) from rfl, show Act.eval _ (.tmp 20) = .agg #[.int .i64 X.f0, .int .i64 X.f1, .int .i64 X.f2] from rfl]); exact st62 _ _ _ _ _ hz0 hz1 hz2 hf0 hf1 hf2); intro w97 hw97; have BK4 : Aside0 (w97.heap[gb]? = some (.cells #[.int .i64 X.f0, .int .i64 X.f1, .int .i64 X.f2] 60 (0, 0))) := ⟨by rw [hw97]; refine blk_put (cs := #[.int .i64 X.f0, .int .i64 X.f1, .int .i64 0]) ?_ 2 _ rfl; refine blk_put (cs := #[.int .i64 X.f0, .int .i64 0, .int .i64 0]) ?_ 1 _ rfl; refine blk_put (cs := #[.int .i64 0, .int .i64 0, .int .i64 0]) ?_ 0 _ rfl; exact BK3.out⟩; have HB4 := Aside0.mk (((HB3.out.setCell (p := ⟨gb, 0, none⟩) GW.out (.int .i64 X.f0)).setCell (p := ⟨gb, 1, none⟩) GW.out (.int .i64 X.f1)).setCell (p := ⟨gb, 2, none⟩) GW.out (.int .i64 X.f2)); rw [← hw97] at HB4; have hy0 : w97.cell? ⟨gb, 0, none⟩ = some (.int .i64 X.f0) := (blk_cell BK4.out 0).trans rfl; have hy1 : w97.cell? ⟨gb, 1, none⟩ = some (.int .i64 X.f1) := (blk_cell BK4.out 1).trans rfl; have hy2 : w97.cell? ⟨gb, 2, none⟩ = some (.int .i64 X.f2) := (blk_cell BK4.out 2).trans rfl; clear hz0 hz1 hz2 hf0 hf1 hf2 hw97) | (go_at_call 20; (with_reducible refine (step.calls wb _ g kk A0_0 c0_0 l0_0 A0_1 c0_1 l0_1 a0_2 a0_3 lap done moved X.f0 X.f1 X.f2 (some q) (HMm.out.below (mb_ HB4.out)) HSF.out).mono ?_); rintro e w14 ⟨he, hm⟩; obtain rfl : e = .returned (.bool true) := he; have HM2 : Aside0 (Mach wb w14 g kk A0_0 c0_0 l0_0 A0_1 c0_1 l0_1 a0_2 a0_3 q.1 q.2.1 q.2.2) := ⟨hm⟩; clear hm))
      go_roundg k1
      case measure => omega
      case rel => exact ⟨i + 1, q.1, q.2.1, q.2.2, congrArg (Value.int .i64) HW.out, ⟨by have := HI.out; omega⟩, HQ, HM2⟩
  ·
   rw [if_neg hl] at h; cases h
theorem steps_Check.calls (k : Nat) (A0_0 : Option Addr) (c0_0 : Nat) (l0_0 : List S49) (A0_1 : Option Addr) (c0_1 : Nat) (l0_1 : List S51) (a0_2 : Int) (a0_3 : Int) (A1 : Option Addr) (c1 : Nat) (l1 : List S60) (r0 r1 : Int) (w : World) (hr0_0 : Kd.C k49 w A0_0 l0_0.length l0_0) (hc0_0 : l0_0.length ≤ c0_0) (hr0_1 : Kd.C k51 w A0_1 l0_1.length l0_1) (hc0_1 : l0_1.length ≤ c0_1) (hr1 : Kd.C k60 w A1 l1.length l1) (hc1 : l1.length ≤ c1) (h : steps_Check.f k l0_0 l0_1 a0_2 a0_3 l1 = some (r0, r1)) :
  Calls Tryd.prog 6 #[.agg #[.slice A0_0 l0_0.length c0_0, .slice A0_1 l0_1.length c0_1, .int .i64 a0_2, .int .i64 a0_3], .slice A1 l1.length c1] w fun e w' => e = .returned (.tuple #[.int .i64 r0, .int .i64 r1]) ∧ Below w.heap.size w w' :=
 steps_Check.calls_ k A0_0 c0_0 l0_0 A0_1 c0_1 l0_1 a0_2 a0_3 A1 c1 l1 (r0, r1) w hr0_0 hc0_0 hr0_1 hc0_1 hr1 hc1 h
theorem steps_Check.mono : ∀ a0_0 a0_1 a0_2 a0_3 a1 k, LeO (steps_Check.f k a0_0 a0_1 a0_2 a0_3 a1) (steps_Check.f (k + 1) a0_0 a0_1 a0_2 a0_3 a1) := fun a0_0 a0_1 a0_2 a0_3 a1 k => by
 unfold steps_Check.f
 refine LeO.bind (steps_Valid.mono _ _ _ _ _) (fun _ => ?_)
 exact LeO.refl _
end Go.Proofs.YtalhpnfapagamaaDoor.S
