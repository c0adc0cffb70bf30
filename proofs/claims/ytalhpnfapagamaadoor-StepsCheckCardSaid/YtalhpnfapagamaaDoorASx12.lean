-- Written by this session's own programs; what the law does not lean on is left out. Lean checks it.
import Derived.Test.YtalhpnfapagamaaDoorAS
import Derived.Test.YtalhpnfapagamaaDoorASx8
import Derived.Test.YtalhpnfapagamaaDoorASx9
namespace Go.Proofs.YtalhpnfapagamaaDoor.S
open Go.RowKit Go.Proofs.YtalhpnfapagamaaDoorW.PrintWords Go.Proofs.YtalhpnfapagamaaDoorW.PrintLast Go.Proofs.YtalhpnfapagamaaDoorW.PrintMore Go.Proofs.YtalhpnfapagamaaDoorD
set_option linter.unusedVariables false
set_option linter.unusedSimpArgs false

def cutsL (l1 : List S51) (side l : Int) : Nat → Nat → List S60
 | 0, _ => []
 | m + 1, k => if ((l1.getD k z51).f1 == side) = true then ⟨3, l, (k : Int)⟩ :: cutsL l1 side l m (k + 1) else cutsL l1 side l m (k + 1)
def sideL (l1 : List S51) (side : Int) : Nat → Nat → Int → List S60
 | 0, _, _ => []
 | m + 1, i, p => (if ((i : Int) != p) = true then [⟨1, (i : Int), 0⟩] else []) ++ (cutsL l1 side (i : Int) l1.length 0 ++ sideL l1 side m (i + 1) (i : Int))
/-- What the closure sees: the plan at gp, the present lap at gn, the list at go. -/
structure IsO (w0 W : World) (gp gn go : Nat) (A0 : Option Addr) (c0 : Nat) (l0 : List S49) (A1 : Option Addr) (c1 : Nat) (l1 : List S51) (a2 a3 : Int) (p : Int) (xs : List S60) : Prop where
 plan : W.heap[gp]? = some (.cells #[.slice A0 l0.length c0, .slice A1 l1.length c1, .int .i64 a2, .int .i64 a3] 35 (0, 0))
 pres : W.heap[gn]? = some (.cells #[.int .i64 p] 3 (0, 0))
 out : ∃ A c, W.heap[go]? = some (.cells #[.slice A xs.length c] 37 (0, 0)) ∧ Kd.R k60 60 W w0.heap.size (fun _ => True) (.slice A xs.length c) xs
 laps : Kd.C k49 w0 A0 l0.length l0
 works : Kd.C k51 w0 A1 l1.length l1
 cap0 : l0.length ≤ c0
 cap1 : l1.length ≤ c1
 bel : Below w0.heap.size w0 W
 pw : w0.heap.size ≤ gp
 nw : w0.heap.size ≤ gn
 ow : w0.heap.size ≤ go
theorem blk_ne {W : World} {g k t u : Nat} {cs ds : Array Value} (h : W.heap[g]? = some (.cells cs t (0, 0))) (h1 : W.heap[k]? = some (.cells ds u (0, 0))) (htu : t ≠ u) : g ≠ k := by
 rintro rfl
 rw [h] at h1
 injection h1 with h1
 injection h1 with _ h1
 exact htu h1
theorem IsO.below {w0 W : World} {gp gn go : Nat} {A0 : Option Addr} {c0 : Nat} {l0 : List S49} {A1 : Option Addr} {c1 : Nat} {l1 : List S51} {a2 a3 p : Int} {xs : List S60} {W1 : World} (h : IsO w0 W gp gn go A0 c0 l0 A1 c1 l1 a2 a3 p xs) (hb : Below W.heap.size W W1) : IsO w0 W1 gp gn go A0 c0 l0 A1 c1 l1 a2 a3 p xs :=
 ⟨(hb.block _ (blk_lt_ h.plan)).trans h.plan, (hb.block _ (blk_lt_ h.pres)).trans h.pres, by
  obtain ⟨A, c, hg, hr⟩ := h.out
  exact ⟨A, c, (hb.block _ (blk_lt_ hg)).trans hg, Kd.R_below hr hb⟩, h.laps, h.works, h.cap0, h.cap1, h.bel.trans (hb.mono h.bel.size), h.pw, h.nw, h.ow⟩
theorem IsO.setPres {w0 W : World} {gp gn go : Nat} {A0 : Option Addr} {c0 : Nat} {l0 : List S49} {A1 : Option Addr} {c1 : Nat} {l1 : List S51} {a2 a3 p : Int} {xs : List S60} (h : IsO w0 W gp gn go A0 c0 l0 A1 c1 l1 a2 a3 p xs) (v : Int) : IsO w0 (W.setCell ⟨gn, 0, none⟩ (.int .i64 v)) gp gn go A0 c0 l0 A1 c1 l1 a2 a3 v xs :=
 ⟨blk_other h.plan _ _ (blk_ne h.plan h.pres (by decide)) _, blk_put h.pres 0 _ rfl, by
  obtain ⟨A, c, hg, hr⟩ := h.out
  exact ⟨A, c, blk_other hg _ _ (blk_ne hg h.pres (by decide)) _, Kd.R_set hr h.pres (by decide) 0 _⟩, h.laps, h.works, h.cap0, h.cap1, h.bel.setCell (p := ⟨gn, 0, none⟩) h.nw _, h.pw, h.nw, h.ow⟩
theorem IsO.app {w0 W : World} {gp gn go : Nat} {A0 : Option Addr} {c0 : Nat} {l0 : List S49} {A1 : Option Addr} {c1 : Nat} {l1 : List S51} {a2 a3 p : Int} {xs : List S60} (h : IsO w0 W gp gn go A0 c0 l0 A1 c1 l1 a2 a3 p xs) {A : Option Addr} {c n : Nat} (hg : W.heap[go]? = some (.cells #[.slice A n c] 37 (0, 0))) (hr : Kd.R k60 60 W w0.heap.size (fun _ => True) (.slice A n c) xs) {w1 : World} {v1 : Value} {x : S60} (ho : Kd.R k60 60 w1 w0.heap.size (fun _ => True) v1 (xs ++ [x])) (hb : Below w0.heap.size w0 w1) (hgr : W.grownBy w1 (Value.slice A n c).ownBlock) :
  IsO w0 (w1.setCell ⟨go, 0, none⟩ v1) gp gn go A0 c0 l0 A1 c1 l1 a2 a3 p (xs ++ [x]) := by
 have hp := blk_grown h.plan hgr (Kd.R_ne hr h.plan (by decide))
 have hn := blk_grown h.pres hgr (Kd.R_ne hr h.pres (by decide))
 have hgo := blk_grown hg hgr (Kd.R_ne hr hg (by decide))
 obtain ⟨A2, c2, rfl⟩ := Kd.R_slice ho
 exact ⟨blk_other hp _ _ (blk_ne hp hgo (by decide)) _, blk_other hn _ _ (blk_ne hn hgo (by decide)) _, ⟨A2, c2, blk_put hgo 0 _ rfl, Kd.R_set ho hgo (by decide) 0 _⟩, h.laps, h.works, h.cap0, h.cap1, hb.setCell (p := ⟨go, 0, none⟩) h.ow _, h.pw, h.nw, h.ow⟩
theorem st53 (W : World) (g : Nat) (v : Value) {A : Option Addr} {n c : Nat} {o : Value} (hv : v = .slice A n c) (h0 : W.cell? ⟨g, 0, none⟩ = some o) (f0 : W.frozen? ⟨g, 0, none⟩ = false) :
  (do Instr.storeAt 37 (.pointer (some ⟨g, 0, none⟩)) v; pure Next.skip : Sem Next).run Tryd.prog W = .ok .skip (W.setCell ⟨g, 0, none⟩ v) := by
 subst hv
 have hu := Tryd.underlying37
 go_simp
theorem st3 (W : World) (g : Nat) (v : Int) {o : Value} (h0 : W.cell? ⟨g, 0, none⟩ = some o) (f0 : W.frozen? ⟨g, 0, none⟩ = false) :
  (do Instr.storeAt 3 (.pointer (some ⟨g, 0, none⟩)) (.int .i64 v); pure Next.skip : Sem Next).run Tryd.prog W = .ok .skip (W.setCell ⟨g, 0, none⟩ (.int .i64 v)) := by
 have hu3 := Tryd.underlying3
 go_simp
def endP (n : Nat) (p : Int) : Int := if n = 0 then p else (n : Int) - 1
set_option maxHeartbeats 8000000 in
set_option maxRecDepth 100000 in
theorem of_side.calls (w0 W : World) (gp gn go : Nat) (A0 : Option Addr) (c0 : Nat) (l0 : List S49) (A1 : Option Addr) (c1 : Nat) (l1 : List S51) (a2 a3 : Int) (p : Int) (xs : List S60) (side : Int) (h : IsO w0 W gp gn go A0 c0 l0 A1 c1 l1 a2 a3 p xs) (hlen : (xs ++ sideL l1 side l0.length 0 p).length ≤ 1000000) (hn0 : l0.length ≤ 100000) (hn1 : l1.length ≤ 100000) :
  Calls Tryd.prog 28 #[.int .i64 side, .pointer (some ⟨gp, 0, none⟩), .pointer (some ⟨gn, 0, none⟩), .pointer (some ⟨go, 0, none⟩)] W fun e w' => e = .returned (.tuple #[]) ∧ IsO w0 w' gp gn go A0 c0 l0 A1 c1 l1 a2 a3 (endP l0.length p) (xs ++ sideL l1 side l0.length 0 p) := by
 have hu53 := Tryd.underlying37
 have hu57 := Tryd.underlying33
 have hu59 := Tryd.underlying35
 have hu62 := Tryd.underlying60
 have hu93 := Tryd.underlying51
 have HO := Aside0.mk h
 have HLEN := Aside0.mk hlen
 have HN0 := Aside0.mk hn0
 have HN1 := Aside0.mk hn1
 have hp0 : W.cell? ⟨gp, 0, none⟩ = some (.slice A0 l0.length c0) := (blk_cell HO.out.plan 0).trans rfl
 clear h hlen hn0 hn1
 go_enter Tryd.func28, Tryd.ntmps28
 go_wp2
 clear hp0
 go_loopg [11] l0.length (fun kq v11 w' => ∃ (i : Nat) (q : Int) (ys : List S60), v11 = .int .i64 (i : Int) ∧ Aside0 (i + kq = l0.length) ∧ Aside0 (ys ++ sideL l1 side kq i q = xs ++ sideL l1 side l0.length 0 p) ∧ Aside0 (q = if i = 0 then p else (i : Int) - 1) ∧ Aside0 (IsO w0 w' gp gn go A0 c0 l0 A1 c1 l1 a2 a3 q ys))
 case atStart => exact ⟨0, p, xs, rfl, ⟨by omega⟩, ⟨rfl⟩, ⟨rfl⟩, HO⟩
 case round =>
  clear HO
  obtain ⟨i, q, ys, rfl, HI, HY, HQ, HO⟩ := hrel
  cases gk with
  | zero =>
   have hi : i = l0.length := by have := HI.out; omega
   have d1 : decide ((i : Int) < (l0.length : Int)) = false := decide_eq_false (by omega)
   have d2 : decide (i < l0.length) = false := decide_eq_false (by omega)
   go_wp2
   refine bodyPost_end (results_none rfl _ _ _) rfl ?_
   refine ⟨rfl, ?_⟩
   have hy := HY.out
   rw [show sideL l1 side 0 i q = [] from rfl, List.append_nil] at hy
   have hq := HQ.out
   rw [hi] at hq
   rw [← hy, show endP l0.length p = q from hq.symm]; exact HO.out
  | succ k1 =>
   have hi : i < l0.length := by have := HI.out; omega
   have d1 : decide ((i : Int) < (l0.length : Int)) = true := decide_eq_true (by omega)
   have d2 : decide (i < l0.length) = true := decide_eq_true hi
   have hW : Aside0 (wrap64 ((i : Int) + 1) = ((i + 1 : Nat) : Int)) := ⟨wrap_i i (by have := HN0.out; omega)⟩
   clear hi
   have hn : wr.cell? ⟨gn, 0, none⟩ = some (.int .i64 q) := (blk_cell HO.out.pres 0).trans rfl
   have hy := HY.out
   simp only [sideL] at hy
   cases hq : ((i : Int) != q) with
   | true =>
    rw [hq, if_pos rfl] at hy
    have HLE : Aside0 (ys.length + 1 ≤ 1000000) := ⟨by have h1 := HLEN.out; rw [← hy] at h1; simp only [List.length_append, List.length_cons] at h1; omega⟩
    have HY6 : Aside0 ((ys ++ [(⟨1, (i : Int), 0⟩ : S60)]) ++ (cutsL l1 side (i : Int) l1.length 0 ++ sideL l1 side k1 (i + 1) (i : Int)) = xs ++ sideL l1 side l0.length 0 p) := ⟨by rw [← hy, List.append_assoc]⟩
    obtain ⟨A9, c9, hgo, hro⟩ := HO.out.out
    have hv : wr.cell? ⟨go, 0, none⟩ = some (.slice A9 ys.length c9) := (blk_cell hgo 0).trans rfl
    have HGO := Aside0.mk hgo
    have HRO := Aside0.mk hro
    clear hy HY hgo hro
    go_wp2_with (first | ((with_reducible refine gate_builtin (b := .append) (xs := #[.tmp 17, .tmp 20]) rfl ?_); at_builtin; refine Kd.R_append k60 (w0 := w0) w0.heap.size rfl (.tmp 17) (.tmp 20) 37 60 (.agg #[.int .i64 0, .int .i64 0, .int .i64 0]) 24 rfl Tryd.underlying37 info60 rfl (by decide) (by omega) (.slice A9 ys.length c9) ys (⟨1, (i : Int), 0⟩ : S60) [.int .i64 (1), .int .i64 ((i : Int)), .int .i64 (0)] (fun _ => True) (fun _ => False) rfl (by first | (go_simp; done) | (go_simp; rfl)) ?aP (fun _ hk => hk.elim) ?aF ?aO ?aB ?aS ?aL ?_; (case aP => exact k60_mkM _ _ _ (⟨1, (i : Int), 0⟩ : S60)); (case aB => exact HO.out.bel); (case aF => exact fun _ _ => trivial); (case aO => exact HRO.out); (case aS => exact HO.out.bel.size); (case aL => have := HLE.out; omega); intro v1 w1 ho hb hgr hat; have HO2 := Aside0.mk (HO.out.app HGO.out HRO.out ho hb hgr); have HGO1 := Aside0.mk (blk_grown HGO.out hgr (Kd.R_ne HRO.out HGO.out (by decide))); obtain ⟨A2, c2, rfl⟩ := Kd.R_slice ho; have hz0 := (blk_cell HGO1.out 0).trans rfl; have hf0 := blk_frozen HGO1.out 0; clear ho hb hgr hat HGO1) | ((with_reducible refine gate_store (t := 37) (p := 3) rfl ?_); refine store_event (t := 37) (p := 3) (v := ?vs) (w1 := w1.setCell ⟨go, 0, none⟩ (.slice A2 (ys ++ [(⟨1, (i : Int), 0⟩ : S60)]).length c2)) ?hg ?ho ?hn ?hr ?_; (case ho => rfl); (case hg => rfl); (case hn => rfl); (case hr => (simp only [execOp]); (rw [show Act.eval _ (.tmp 3) = .pointer (some ⟨go, 0, none⟩) from rfl, show Act.eval _ (.tmp 21) = .slice A2 (ys ++ [(⟨1, (i : Int), 0⟩ : S60)]).length c2 from rfl]); exact st53 _ _ _ rfl hz0 hf0); intro w2 hw2; rw [← hw2] at HO2; clear hz0 hf0 hw2; have hn0 := (blk_cell HO2.out.pres 0).trans rfl; have hnf := blk_frozen HO2.out.pres 0) | ((with_reducible refine gate_store (t := 3) (p := 2) rfl ?_); refine store_event (t := 3) (p := 2) (v := ?vt) (w1 := w2.setCell ⟨gn, 0, none⟩ (.int .i64 (i : Int))) ?hg ?ho ?hn ?hr ?_; (case ho => rfl); (case hg => rfl); (case hn => rfl); (case hr => (simp only [execOp]); (rw [show Act.eval _ (.tmp 2) = .pointer (some ⟨gn, 0, none⟩) from rfl, show Act.eval _ (.tmp 22) = .int .i64 (i : Int) from rfl]); exact st3 _ _ _ hn0 hnf); intro w3 hw3; have HO3 := Aside0.mk (HO2.out.setPres (i : Int)); rw [← hw3] at HO3; clear hn0 hnf hw3; have hp1 : w3.cell? ⟨gp, 1, none⟩ = some (.slice A1 l1.length c1) := (blk_cell HO3.out.plan 1).trans rfl))
    clear hn hv HO HO2 HGO HRO HLE
    go_loopg [26] l1.length (fun kq v26 w' => ∃ (k : Nat) (zs : List S60), v26 = .int .i64 (k : Int) ∧ Aside0 (k + kq = l1.length) ∧ Aside0 (zs ++ (cutsL l1 side (i : Int) kq k ++ sideL l1 side k1 (i + 1) (i : Int)) = xs ++ sideL l1 side l0.length 0 p) ∧ Aside0 (IsO w0 w' gp gn go A0 c0 l0 A1 c1 l1 a2 a3 (i : Int) zs))
    case atStart => exact ⟨0, _, rfl, ⟨by omega⟩, HY6, HO3⟩
    case round =>
     clear HO3 HY6
     obtain ⟨k, zs, rfl, HK, HY, HO⟩ := hrel
     cases gk with
     | zero =>
      have hk : k = l1.length := by have := HK.out; omega
      have d3 : decide ((k : Int) < (l1.length : Int)) = false := decide_eq_false (by omega)
      have d4 : decide (k < l1.length) = false := decide_eq_false (by omega)
      clear hk
      go_wp2
      go_roundg k1
      case measure => omega
      case rel => exact ⟨i + 1, (i : Int), zs, congrArg (Value.int .i64) hW.out, ⟨by have := HI.out; omega⟩, ⟨HY.out⟩, ⟨by rw [if_neg (by omega)]; omega⟩, HO⟩
     | succ k2 =>
      have hk : k < l1.length := by have := HK.out; omega
      have d3 : decide ((k : Int) < (l1.length : Int)) = true := decide_eq_true (by omega)
      have d4 : decide (k < l1.length) = true := decide_eq_true hk
      have d5 : ((k : Int) < (l1.length : Int)) = True := eq_true (by omega)
      have d6 : (0 ≤ (k : Int)) = True := eq_true (by omega)
      have hW2 : Aside0 (wrap64 ((k : Int) + 1) = ((k + 1 : Nat) : Int)) := ⟨wrap_i k (by have := HN1.out; omega)⟩
      obtain ⟨ad, e1, hx0, hx1, hx2⟩ := at_T51 HO.out.works (k : Int) (by omega) (by omega)
      cases e1
      rw [Int.toNat_natCast] at hx0 hx1 hx2
      replace hx0 := (HO.out.bel.cell (World.block_lt_of_cell? w0 _ hx0)).trans hx0
      replace hx1 := (HO.out.bel.cell (World.block_lt_of_cell? w0 _ hx1)).trans hx1
      replace hx2 := (HO.out.bel.cell (World.block_lt_of_cell? w0 _ hx2)).trans hx2
      have hX : rd_T51 l1 (k : Int) = l1.getD k z51 := by unfold rd_T51; rw [Int.toNat_natCast]
      rw [hX] at hx0 hx1 hx2
      have hy := HY.out
      simp only [cutsL] at hy
      clear hk hX
      generalize l1.getD k z51 = X at *
      cases hs : (X.f1 == side) with
      | true =>
       rw [hs, if_pos rfl] at hy
       have HLE : Aside0 (zs.length + 1 ≤ 1000000) := ⟨by have h1 := HLEN.out; rw [← hy] at h1; simp only [List.length_append, List.length_cons] at h1; omega⟩
       have HY7 : Aside0 ((zs ++ [(⟨3, (i : Int), (k : Int)⟩ : S60)]) ++ (cutsL l1 side (i : Int) k2 (k + 1) ++ sideL l1 side k1 (i + 1) (i : Int)) = xs ++ sideL l1 side l0.length 0 p) := ⟨by rw [← hy, List.append_assoc, List.cons_append, List.nil_append, List.cons_append]⟩
       clear hy HY
       go_wp2_with (first | ((with_reducible refine gate_dst (N := 7) rfl ?_); refine bev (N := 7) (cs := #[.string (⟨#[]⟩ : ByteArray), .int .i64 0, .int .i64 0]) (t := 51) ?_; intro gb hg w6 hbox hb; have BK1 := Aside0.mk hbox; have HB1 := Aside0.mk hb; have GW := Aside0.mk ((by rw [hg]; exact Nat.le_refl _) : wr.heap.size ≤ gb); have hz0 : w6.cell? ⟨gb, 0, none⟩ = some (.string (⟨#[]⟩ : ByteArray)) := (blk_cell BK1.out 0).trans rfl; have hz1 : w6.cell? ⟨gb, 1, none⟩ = some (.int .i64 0) := (blk_cell BK1.out 1).trans rfl; have hz2 : w6.cell? ⟨gb, 2, none⟩ = some (.int .i64 0) := (blk_cell BK1.out 2).trans rfl; have hf0 := blk_frozen BK1.out 0; have hf1 := blk_frozen BK1.out 1; have hf2 := blk_frozen BK1.out 2; clear hb hbox hg) | ((with_reducible refine gate_store (t := 51) (p := 7) rfl ?_); refine store_event (t := 51) (p := 7) (v := ?vs93) (w1 := (((w6.setCell ⟨gb, 0, none⟩ (.string X.f0)).setCell ⟨gb, 1, none⟩ (.int .i64 X.f1)).setCell ⟨gb, 2, none⟩ (.int .i64 X.f2))) ?hg ?ho ?hn ?hr ?_; (case ho => rfl); (case hg => rfl); (case hn => rfl); (case hr => (simp only [execOp]); (rw [show Act.eval _ (.tmp 7) = .pointer (some ⟨gb, 0, none⟩) from rfl, show Act.eval _ (.tmp 30) = .agg #[.string X.f0, .int .i64 X.f1, .int .i64 X.f2] from rfl]); exact st93 _ _ _ _ _ hz0 hz1 hz2 hf0 hf1 hf2); intro w97 hw97; have BK2 : Aside0 (w97.heap[gb]? = some (.cells #[.string X.f0, .int .i64 X.f1, .int .i64 X.f2] 51 (0, 0))) := ⟨by rw [hw97]; refine blk_put (cs := #[.string X.f0, .int .i64 X.f1, .int .i64 0]) ?_ 2 _ rfl; refine blk_put (cs := #[.string X.f0, .int .i64 0, .int .i64 0]) ?_ 1 _ rfl; refine blk_put (cs := #[.string (⟨#[]⟩ : ByteArray), .int .i64 0, .int .i64 0]) ?_ 0 _ rfl; exact BK1.out⟩; have HB2 := Aside0.mk (((HB1.out.setCell (p := ⟨gb, 0, none⟩) GW.out (.string X.f0)).setCell (p := ⟨gb, 1, none⟩) GW.out (.int .i64 X.f1)).setCell (p := ⟨gb, 2, none⟩) GW.out (.int .i64 X.f2)); rw [← hw97] at HB2; have HO7 := Aside0.mk (HO.out.below HB2.out); have hy1 : w97.cell? ⟨gb, 1, none⟩ = some (.int .i64 X.f1) := (blk_cell BK2.out 1).trans rfl; obtain ⟨A9, c9, hgo, hro⟩ := HO7.out.out; have hv : w97.cell? ⟨go, 0, none⟩ = some (.slice A9 zs.length c9) := (blk_cell hgo 0).trans rfl; have HGO := Aside0.mk hgo; have HRO := Aside0.mk hro; clear hz0 hz1 hz2 hf0 hf1 hf2 hw97 hgo hro) | ((with_reducible refine gate_builtin (b := .append) (xs := #[.tmp 35, .tmp 39]) rfl ?_); at_builtin; refine Kd.R_append k60 (w0 := w0) w0.heap.size rfl (.tmp 35) (.tmp 39) 37 60 (.agg #[.int .i64 0, .int .i64 0, .int .i64 0]) 24 rfl Tryd.underlying37 info60 rfl (by decide) (by omega) (.slice A9 zs.length c9) zs (⟨3, (i : Int), (k : Int)⟩ : S60) [.int .i64 (3), .int .i64 ((i : Int)), .int .i64 ((k : Int))] (fun _ => True) (fun _ => False) rfl (by first | (go_simp; done) | (go_simp; rfl)) ?aP (fun _ hk => hk.elim) ?aF ?aO ?aB ?aS ?aL ?_; (case aP => exact k60_mkM _ _ _ (⟨3, (i : Int), (k : Int)⟩ : S60)); (case aB => exact HO7.out.bel); (case aF => exact fun _ _ => trivial); (case aO => exact HRO.out); (case aS => exact HO7.out.bel.size); (case aL => have := HLE.out; omega); intro v1 w1 ho hb hgr hat; have HO2 := Aside0.mk (HO7.out.app HGO.out HRO.out ho hb hgr); have HGO1 := Aside0.mk (blk_grown HGO.out hgr (Kd.R_ne HRO.out HGO.out (by decide))); obtain ⟨A2, c2, rfl⟩ := Kd.R_slice ho; have hz0 := (blk_cell HGO1.out 0).trans rfl; have hf0 := blk_frozen HGO1.out 0; clear ho hb hgr hat HGO1) | ((with_reducible refine gate_store (t := 37) (p := 3) rfl ?_); refine store_event (t := 37) (p := 3) (v := ?vs) (w1 := w1.setCell ⟨go, 0, none⟩ (.slice A2 (zs ++ [(⟨3, (i : Int), (k : Int)⟩ : S60)]).length c2)) ?hg ?ho ?hn ?hr ?_; (case ho => rfl); (case hg => rfl); (case hn => rfl); (case hr => (simp only [execOp]); (rw [show Act.eval _ (.tmp 3) = .pointer (some ⟨go, 0, none⟩) from rfl, show Act.eval _ (.tmp 40) = .slice A2 (zs ++ [(⟨3, (i : Int), (k : Int)⟩ : S60)]).length c2 from rfl]); exact st53 _ _ _ rfl hz0 hf0); intro w2 hw2; rw [← hw2] at HO2; clear hz0 hf0 hw2; clear hv))
       go_roundg k2
       case measure => omega
       case rel => exact ⟨k + 1, _, congrArg (Value.int .i64) hW2.out, ⟨by have := HK.out; omega⟩, HY7, ⟨by have h9 := HO2.out; rw [List.length_append] at h9; exact h9⟩⟩
      | false =>
       rw [hs, if_neg (by simp)] at hy
       have HY7 := Aside0.mk hy
       clear hy HY
       go_wp2_with (first | ((with_reducible refine gate_dst (N := 7) rfl ?_); refine bev (N := 7) (cs := #[.string (⟨#[]⟩ : ByteArray), .int .i64 0, .int .i64 0]) (t := 51) ?_; intro gb hg w6 hbox hb; have BK1 := Aside0.mk hbox; have HB1 := Aside0.mk hb; have GW := Aside0.mk ((by rw [hg]; exact Nat.le_refl _) : wr.heap.size ≤ gb); have hz0 : w6.cell? ⟨gb, 0, none⟩ = some (.string (⟨#[]⟩ : ByteArray)) := (blk_cell BK1.out 0).trans rfl; have hz1 : w6.cell? ⟨gb, 1, none⟩ = some (.int .i64 0) := (blk_cell BK1.out 1).trans rfl; have hz2 : w6.cell? ⟨gb, 2, none⟩ = some (.int .i64 0) := (blk_cell BK1.out 2).trans rfl; have hf0 := blk_frozen BK1.out 0; have hf1 := blk_frozen BK1.out 1; have hf2 := blk_frozen BK1.out 2; clear hb hbox hg) | ((with_reducible refine gate_store (t := 51) (p := 7) rfl ?_); refine store_event (t := 51) (p := 7) (v := ?vs93) (w1 := (((w6.setCell ⟨gb, 0, none⟩ (.string X.f0)).setCell ⟨gb, 1, none⟩ (.int .i64 X.f1)).setCell ⟨gb, 2, none⟩ (.int .i64 X.f2))) ?hg ?ho ?hn ?hr ?_; (case ho => rfl); (case hg => rfl); (case hn => rfl); (case hr => (simp only [execOp]); (rw [show Act.eval _ (.tmp 7) = .pointer (some ⟨gb, 0, none⟩) from rfl, show Act.eval _ (.tmp 30) = .agg #[.string X.f0, .int .i64 X.f1, .int .i64 X.f2] from rfl]); exact st93 _ _ _ _ _ hz0 hz1 hz2 hf0 hf1 hf2); intro w97 hw97; have BK2 : Aside0 (w97.heap[gb]? = some (.cells #[.string X.f0, .int .i64 X.f1, .int .i64 X.f2] 51 (0, 0))) := ⟨by rw [hw97]; refine blk_put (cs := #[.string X.f0, .int .i64 X.f1, .int .i64 0]) ?_ 2 _ rfl; refine blk_put (cs := #[.string X.f0, .int .i64 0, .int .i64 0]) ?_ 1 _ rfl; refine blk_put (cs := #[.string (⟨#[]⟩ : ByteArray), .int .i64 0, .int .i64 0]) ?_ 0 _ rfl; exact BK1.out⟩; have HB2 := Aside0.mk (((HB1.out.setCell (p := ⟨gb, 0, none⟩) GW.out (.string X.f0)).setCell (p := ⟨gb, 1, none⟩) GW.out (.int .i64 X.f1)).setCell (p := ⟨gb, 2, none⟩) GW.out (.int .i64 X.f2)); rw [← hw97] at HB2; have HO7 := Aside0.mk (HO.out.below HB2.out); have hy1 : w97.cell? ⟨gb, 1, none⟩ = some (.int .i64 X.f1) := (blk_cell BK2.out 1).trans rfl; obtain ⟨A9, c9, hgo, hro⟩ := HO7.out.out; have hv : w97.cell? ⟨go, 0, none⟩ = some (.slice A9 zs.length c9) := (blk_cell hgo 0).trans rfl; have HGO := Aside0.mk hgo; have HRO := Aside0.mk hro; clear hz0 hz1 hz2 hf0 hf1 hf2 hw97 hgo hro))
       go_roundg k2
       case measure => omega
       case rel => exact ⟨k + 1, zs, congrArg (Value.int .i64) hW2.out, ⟨by have := HK.out; omega⟩, HY7, HO7⟩
   | false =>
    rw [hq, if_neg (by simp), List.nil_append] at hy
    have hp1 : wr.cell? ⟨gp, 1, none⟩ = some (.slice A1 l1.length c1) := (blk_cell HO.out.plan 1).trans rfl
    have HY6 := Aside0.mk hy
    obtain rfl : (i : Int) = q := by simpa using hq
    clear hy HY
    go_wp2
    clear hn hp1
    go_loopg [26] l1.length (fun kq v26 w' => ∃ (k : Nat) (zs : List S60), v26 = .int .i64 (k : Int) ∧ Aside0 (k + kq = l1.length) ∧ Aside0 (zs ++ (cutsL l1 side (i : Int) kq k ++ sideL l1 side k1 (i + 1) (i : Int)) = xs ++ sideL l1 side l0.length 0 p) ∧ Aside0 (IsO w0 w' gp gn go A0 c0 l0 A1 c1 l1 a2 a3 (i : Int) zs))
    case atStart => exact ⟨0, _, rfl, ⟨by omega⟩, HY6, HO⟩
    case round =>
     clear HO HY6
     obtain ⟨k, zs, rfl, HK, HY, HO⟩ := hrel
     cases gk with
     | zero =>
      have hk : k = l1.length := by have := HK.out; omega
      have d3 : decide ((k : Int) < (l1.length : Int)) = false := decide_eq_false (by omega)
      have d4 : decide (k < l1.length) = false := decide_eq_false (by omega)
      clear hk
      go_wp2
      go_roundg k1
      case measure => omega
      case rel => exact ⟨i + 1, (i : Int), zs, congrArg (Value.int .i64) hW.out, ⟨by have := HI.out; omega⟩, ⟨HY.out⟩, ⟨by rw [if_neg (by omega)]; omega⟩, HO⟩
     | succ k2 =>
      have hk : k < l1.length := by have := HK.out; omega
      have d3 : decide ((k : Int) < (l1.length : Int)) = true := decide_eq_true (by omega)
      have d4 : decide (k < l1.length) = true := decide_eq_true hk
      have d5 : ((k : Int) < (l1.length : Int)) = True := eq_true (by omega)
      have d6 : (0 ≤ (k : Int)) = True := eq_true (by omega)
      have hW2 : Aside0 (wrap64 ((k : Int) + 1) = ((k + 1 : Nat) : Int)) := ⟨wrap_i k (by have := HN1.out; omega)⟩
      obtain ⟨ad, e1, hx0, hx1, hx2⟩ := at_T51 HO.out.works (k : Int) (by omega) (by omega)
      cases e1
      rw [Int.toNat_natCast] at hx0 hx1 hx2
      replace hx0 := (HO.out.bel.cell (World.block_lt_of_cell? w0 _ hx0)).trans hx0
      replace hx1 := (HO.out.bel.cell (World.block_lt_of_cell? w0 _ hx1)).trans hx1
      replace hx2 := (HO.out.bel.cell (World.block_lt_of_cell? w0 _ hx2)).trans hx2
      have hX : rd_T51 l1 (k : Int) = l1.getD k z51 := by unfold rd_T51; rw [Int.toNat_natCast]
      rw [hX] at hx0 hx1 hx2
      have hy := HY.out
      simp only [cutsL] at hy
      clear hk hX
      generalize l1.getD k z51 = X at *
      cases hs : (X.f1 == side) with
      | true =>
       rw [hs, if_pos rfl] at hy
       have HLE : Aside0 (zs.length + 1 ≤ 1000000) := ⟨by have h1 := HLEN.out; rw [← hy] at h1; simp only [List.length_append, List.length_cons] at h1; omega⟩
       have HY7 : Aside0 ((zs ++ [(⟨3, (i : Int), (k : Int)⟩ : S60)]) ++ (cutsL l1 side (i : Int) k2 (k + 1) ++ sideL l1 side k1 (i + 1) (i : Int)) = xs ++ sideL l1 side l0.length 0 p) := ⟨by rw [← hy, List.append_assoc, List.cons_append, List.nil_append, List.cons_append]⟩
       clear hy HY
       go_wp2_with (first | ((with_reducible refine gate_dst (N := 7) rfl ?_); refine bev (N := 7) (cs := #[.string (⟨#[]⟩ : ByteArray), .int .i64 0, .int .i64 0]) (t := 51) ?_; intro gb hg w6 hbox hb; have BK1 := Aside0.mk hbox; have HB1 := Aside0.mk hb; have GW := Aside0.mk ((by rw [hg]; exact Nat.le_refl _) : wr.heap.size ≤ gb); have hz0 : w6.cell? ⟨gb, 0, none⟩ = some (.string (⟨#[]⟩ : ByteArray)) := (blk_cell BK1.out 0).trans rfl; have hz1 : w6.cell? ⟨gb, 1, none⟩ = some (.int .i64 0) := (blk_cell BK1.out 1).trans rfl; have hz2 : w6.cell? ⟨gb, 2, none⟩ = some (.int .i64 0) := (blk_cell BK1.out 2).trans rfl; have hf0 := blk_frozen BK1.out 0; have hf1 := blk_frozen BK1.out 1; have hf2 := blk_frozen BK1.out 2; clear hb hbox hg) | ((with_reducible refine gate_store (t := 51) (p := 7) rfl ?_); refine store_event (t := 51) (p := 7) (v := ?vs93) (w1 := (((w6.setCell ⟨gb, 0, none⟩ (.string X.f0)).setCell ⟨gb, 1, none⟩ (.int .i64 X.f1)).setCell ⟨gb, 2, none⟩ (.int .i64 X.f2))) ?hg ?ho ?hn ?hr ?_; (case ho => rfl); (case hg => rfl); (case hn => rfl); (case hr => (simp only [execOp]); (rw [show Act.eval _ (.tmp 7) = .pointer (some ⟨gb, 0, none⟩) from rfl, show Act.eval _ (.tmp 30) = .agg #[.string X.f0, .int .i64 X.f1, .int .i64 X.f2] from rfl]); exact st93 _ _ _ _ _ hz0 hz1 hz2 hf0 hf1 hf2); intro w97 hw97; have BK2 : Aside0 (w97.heap[gb]? = some (.cells #[.string X.f0, .int .i64 X.f1, .int .i64 X.f2] 51 (0, 0))) := ⟨by rw [hw97]; refine blk_put (cs := #[.string X.f0, .int .i64 X.f1, .int .i64 0]) ?_ 2 _ rfl; refine blk_put (cs := #[.string X.f0, .int .i64 0, .int .i64 0]) ?_ 1 _ rfl; refine blk_put (cs := #[.string (⟨#[]⟩ : ByteArray), .int .i64 0, .int .i64 0]) ?_ 0 _ rfl; exact BK1.out⟩; have HB2 := Aside0.mk (((HB1.out.setCell (p := ⟨gb, 0, none⟩) GW.out (.string X.f0)).setCell (p := ⟨gb, 1, none⟩) GW.out (.int .i64 X.f1)).setCell (p := ⟨gb, 2, none⟩) GW.out (.int .i64 X.f2)); rw [← hw97] at HB2; have HO7 := Aside0.mk (HO.out.below HB2.out); have hy1 : w97.cell? ⟨gb, 1, none⟩ = some (.int .i64 X.f1) := (blk_cell BK2.out 1).trans rfl; obtain ⟨A9, c9, hgo, hro⟩ := HO7.out.out; have hv : w97.cell? ⟨go, 0, none⟩ = some (.slice A9 zs.length c9) := (blk_cell hgo 0).trans rfl; have HGO := Aside0.mk hgo; have HRO := Aside0.mk hro; clear hz0 hz1 hz2 hf0 hf1 hf2 hw97 hgo hro) | ((with_reducible refine gate_builtin (b := .append) (xs := #[.tmp 35, .tmp 39]) rfl ?_); at_builtin; refine Kd.R_append k60 (w0 := w0) w0.heap.size rfl (.tmp 35) (.tmp 39) 37 60 (.agg #[.int .i64 0, .int .i64 0, .int .i64 0]) 24 rfl Tryd.underlying37 info60 rfl (by decide) (by omega) (.slice A9 zs.length c9) zs (⟨3, (i : Int), (k : Int)⟩ : S60) [.int .i64 (3), .int .i64 ((i : Int)), .int .i64 ((k : Int))] (fun _ => True) (fun _ => False) rfl (by first | (go_simp; done) | (go_simp; rfl)) ?aP (fun _ hk => hk.elim) ?aF ?aO ?aB ?aS ?aL ?_; (case aP => exact k60_mkM _ _ _ (⟨3, (i : Int), (k : Int)⟩ : S60)); (case aB => exact HO7.out.bel); (case aF => exact fun _ _ => trivial); (case aO => exact HRO.out); (case aS => exact HO7.out.bel.size); (case aL => have := HLE.out; omega); intro v1 w1 ho hb hgr hat; have HO2 := Aside0.mk (HO7.out.app HGO.out HRO.out ho hb hgr); have HGO1 := Aside0.mk (blk_grown HGO.out hgr (Kd.R_ne HRO.out HGO.out (by decide))); obtain ⟨A2, c2, rfl⟩ := Kd.R_slice ho; have hz0 := (blk_cell HGO1.out 0).trans rfl; have hf0 := blk_frozen HGO1.out 0; clear ho hb hgr hat HGO1) | ((with_reducible refine gate_store (t := 37) (p := 3) rfl ?_); refine store_event (t := 37) (p := 3) (v := ?vs) (w1 := w1.setCell ⟨go, 0, none⟩ (.slice A2 (zs ++ [(⟨3, (i : Int), (k : Int)⟩ : S60)]).length c2)) ?hg ?ho ?hn ?hr ?_; (case ho => rfl); (case hg => rfl); (case hn => rfl); (case hr => (simp only [execOp]); (rw [show Act.eval _ (.tmp 3) = .pointer (some ⟨go, 0, none⟩) from rfl, show Act.eval _ (.tmp 40) = .slice A2 (zs ++ [(⟨3, (i : Int), (k : Int)⟩ : S60)]).length c2 from rfl]); exact st53 _ _ _ rfl hz0 hf0); intro w2 hw2; rw [← hw2] at HO2; clear hz0 hf0 hw2; clear hv))
       go_roundg k2
       case measure => omega
       case rel => exact ⟨k + 1, _, congrArg (Value.int .i64) hW2.out, ⟨by have := HK.out; omega⟩, HY7, ⟨by have h9 := HO2.out; rw [List.length_append] at h9; exact h9⟩⟩
      | false =>
       rw [hs, if_neg (by simp)] at hy
       have HY7 := Aside0.mk hy
       clear hy HY
       go_wp2_with (first | ((with_reducible refine gate_dst (N := 7) rfl ?_); refine bev (N := 7) (cs := #[.string (⟨#[]⟩ : ByteArray), .int .i64 0, .int .i64 0]) (t := 51) ?_; intro gb hg w6 hbox hb; have BK1 := Aside0.mk hbox; have HB1 := Aside0.mk hb; have GW := Aside0.mk ((by rw [hg]; exact Nat.le_refl _) : wr.heap.size ≤ gb); have hz0 : w6.cell? ⟨gb, 0, none⟩ = some (.string (⟨#[]⟩ : ByteArray)) := (blk_cell BK1.out 0).trans rfl; have hz1 : w6.cell? ⟨gb, 1, none⟩ = some (.int .i64 0) := (blk_cell BK1.out 1).trans rfl; have hz2 : w6.cell? ⟨gb, 2, none⟩ = some (.int .i64 0) := (blk_cell BK1.out 2).trans rfl; have hf0 := blk_frozen BK1.out 0; have hf1 := blk_frozen BK1.out 1; have hf2 := blk_frozen BK1.out 2; clear hb hbox hg) | ((with_reducible refine gate_store (t := 51) (p := 7) rfl ?_); refine store_event (t := 51) (p := 7) (v := ?vs93) (w1 := (((w6.setCell ⟨gb, 0, none⟩ (.string X.f0)).setCell ⟨gb, 1, none⟩ (.int .i64 X.f1)).setCell ⟨gb, 2, none⟩ (.int .i64 X.f2))) ?hg ?ho ?hn ?hr ?_; (case ho => rfl); (case hg => rfl); (case hn => rfl); (case hr => (simp only [execOp]); (rw [show Act.eval _ (.tmp 7) = .pointer (some ⟨gb, 0, none⟩) from rfl, show Act.eval _ (.tmp 30) = .agg #[.string X.f0, .int .i64 X.f1, .int .i64 X.f2] from rfl]); exact st93 _ _ _ _ _ hz0 hz1 hz2 hf0 hf1 hf2); intro w97 hw97; have BK2 : Aside0 (w97.heap[gb]? = some (.cells #[.string X.f0, .int .i64 X.f1, .int .i64 X.f2] 51 (0, 0))) := ⟨by rw [hw97]; refine blk_put (cs := #[.string X.f0, .int .i64 X.f1, .int .i64 0]) ?_ 2 _ rfl; refine blk_put (cs := #[.string X.f0, .int .i64 0, .int .i64 0]) ?_ 1 _ rfl; refine blk_put (cs := #[.string (⟨#[]⟩ : ByteArray), .int .i64 0, .int .i64 0]) ?_ 0 _ rfl; exact BK1.out⟩; have HB2 := Aside0.mk (((HB1.out.setCell (p := ⟨gb, 0, none⟩) GW.out (.string X.f0)).setCell (p := ⟨gb, 1, none⟩) GW.out (.int .i64 X.f1)).setCell (p := ⟨gb, 2, none⟩) GW.out (.int .i64 X.f2)); rw [← hw97] at HB2; have HO7 := Aside0.mk (HO.out.below HB2.out); have hy1 : w97.cell? ⟨gb, 1, none⟩ = some (.int .i64 X.f1) := (blk_cell BK2.out 1).trans rfl; obtain ⟨A9, c9, hgo, hro⟩ := HO7.out.out; have hv : w97.cell? ⟨go, 0, none⟩ = some (.slice A9 zs.length c9) := (blk_cell hgo 0).trans rfl; have HGO := Aside0.mk hgo; have HRO := Aside0.mk hro; clear hz0 hz1 hz2 hf0 hf1 hf2 hw97 hgo hro))
       go_roundg k2
       case measure => omega
       case rel => exact ⟨k + 1, zs, congrArg (Value.int .i64) hW2.out, ⟨by have := HK.out; omega⟩, HY7, HO7⟩
theorem of_side.eg : ∀ args w, (callFunc 28 args).run Tryd.prog w = .ok (.enter 28 args) w := enters_of Tryd.func28 (by kernel_rfl) rfl
theorem cutsL_len (l1 : List S51) (side l : Int) : ∀ m k, (cutsL l1 side l m k).length ≤ m
 | 0, _ => Nat.le_refl _
 | m + 1, k => by
  have := cutsL_len l1 side l m (k + 1)
  simp only [cutsL]
  split
  ·
   simp only [List.length_cons]; omega
  ·
   omega
theorem sideL_len (l1 : List S51) (side : Int) (h1 : l1.length ≤ 20) : ∀ m i p, (sideL l1 side m i p).length ≤ m * 21
 | 0, _, _ => Nat.le_refl _
 | m + 1, i, p => by
  have := sideL_len l1 side h1 m (i + 1) (i : Int)
  have h2 := cutsL_len l1 side (i : Int) l1.length 0
  simp only [sideL, List.length_append]
  have h3 : (if ((i : Int) != p) = true then [(⟨1, (i : Int), 0⟩ : S60)] else []).length ≤ 1 := by split <;> simp
  omega
def ofA (n0 : Nat) (l1 : List S51) : List S60 := if sidB l1 1 = true then sideL l1 1 n0 0 (-1) ++ (if sidB l1 2 = true then [⟨2, 0, 0⟩] else []) else []
def ofL (n0 : Nat) (l1 : List S51) : List S60 := ofA n0 l1 ++ (if sidB l1 2 = true then sideL l1 2 n0 0 (if sidB l1 1 = true then endP n0 (-1) else -1) else [])
def steps_Of.f (k : Nat) (a0_0 : List S49) (a0_1 : List S51) (a0_2 : Int) (a0_3 : Int) : Option (List S60 × Int) :=
 (steps_Valid.f k a0_0 a0_1 a0_2 a0_3).bind fun v => if v = true then some (ofL a0_0.length a0_1, 0) else some ([], 1)
theorem valid_small (k : Nat) (l0 : List S49) (l1 : List S51) (a2 a3 : Int) (h : steps_Valid.f k l0 l1 a2 a3 = some true) : l0.length ≤ 6 ∧ l1.length ≤ 20 := by
 unfold steps_Valid.f at h
 by_cases h0 : inB l0.length 1 6 = true
 ·
  rw [if_pos h0] at h
  by_cases h1 : inB l1.length 1 20 = true
  ·
   unfold inB at h0 h1
   simp at h0 h1
   omega
  ·
   rw [if_neg h1] at h; cases h
 ·
  rw [if_neg h0] at h; cases h
set_option maxHeartbeats 8000000 in
set_option maxRecDepth 100000 in
theorem steps_Of.calls (k : Nat) (A0 : Option Addr) (c0 : Nat) (l0 : List S49) (A1 : Option Addr) (c1 : Nat) (l1 : List S51) (a2 a3 : Int) (r1 : List S60) (r2 : Int) (W : World) (hr0_0 : Kd.C k49 W A0 l0.length l0) (hc0_0 : l0.length ≤ c0) (hr0_1 : Kd.C k51 W A1 l1.length l1) (hc0_1 : l1.length ≤ c1) (h : steps_Of.f k l0 l1 a2 a3 = some (r1, r2)) :
  Calls Tryd.prog 17 #[.agg #[.slice A0 l0.length c0, .slice A1 l1.length c1, .int .i64 a2, .int .i64 a3]] W fun e w' => ∃ v0_ : Value, e = .returned (.tuple #[v0_, .int .i64 r2]) ∧ Kd.R k60 60 w' W.heap.size (fun _ => True) v0_ r1 ∧ Below W.heap.size W w' := by
 have hu53 := Tryd.underlying37
 have hu59 := Tryd.underlying35
 have hu62 := Tryd.underlying60
 have eg := of_side.eg
 have hmf : ∀ (fn : Fn) (first cap : Array Value) (w : World), (Instr.makeFunc fn first cap).run Tryd.prog w = .ok (.func fn first cap) w := fun _ _ _ _ => rfl
 unfold steps_Of.f at h
 obtain ⟨v, hv, h⟩ := Option.bind_eq_some_iff.mp h
 have HV := Aside0.mk hv
 have HR0 := Aside0.mk hr0_0
 have HR1 := Aside0.mk hr0_1
 have HC0 := Aside0.mk hc0_0
 have HC1 := Aside0.mk hc0_1
 clear hr0_0 hr0_1 hc0_0 hc0_1 hv
 cases v with
 | false =>
  rw [if_neg (by simp)] at h
  obtain ⟨rfl, rfl⟩ := Prod.mk.inj (Option.some.inj h)
  clear h
  go_enter Tryd.func17, Tryd.ntmps17
  go_wp2_with (first | ((with_reducible refine gate_dst (N := 1) rfl ?_); refine bev (N := 1) (cs := #[.slice A0 l0.length c0, .slice A1 l1.length c1, .int .i64 a2, .int .i64 a3]) (t := 35) ?_; intro gp hg w6 hbox hb; have BP1 := Aside0.mk hbox; have HB1 : Aside0 (Below W.heap.size W w6) := ⟨hb⟩; have GP : Aside0 (W.heap.size ≤ gp) := ⟨by rw [hg]; exact Nat.le_refl _⟩; clear hb hbox hg; have hp0 : w6.cell? ⟨gp, 0, none⟩ = some (.slice A0 l0.length c0) := (blk_cell BP1.out 0).trans rfl; have hp1 : w6.cell? ⟨gp, 1, none⟩ = some (.slice A1 l1.length c1) := (blk_cell BP1.out 1).trans rfl; have hp2 : w6.cell? ⟨gp, 2, none⟩ = some (.int .i64 a2) := (blk_cell BP1.out 2).trans rfl; have hp3 : w6.cell? ⟨gp, 3, none⟩ = some (.int .i64 a3) := (blk_cell BP1.out 3).trans rfl) | (go_at_call 18; (with_reducible refine (steps_Valid.calls k A0 c0 l0 A1 c1 l1 a2 a3 false _ (Kd.C_below HR0.out HB1.out) HC0.out (Kd.C_below HR1.out HB1.out) HC1.out HV.out).mono ?_); rintro e w12 ⟨rfl, hb⟩; have HB2 : Aside0 (Below W.heap.size W w12) := ⟨HB1.out.trans (hb.mono HB1.out.size)⟩; have BP2 : Aside0 (w12.heap[gp]? = some (.cells #[.slice A0 l0.length c0, .slice A1 l1.length c1, .int .i64 a2, .int .i64 a3] 35 (0, 0))) := ⟨(hb.block _ (blk_lt_ BP1.out)).trans BP1.out⟩; clear hb hp0 hp1 hp2 hp3))
  refine bodyPost_ret (results_list (rs := [.tmp 2, .tmp 3]) rfl (by simp) (.tmp (.tmp .nil))) rfl ?_
  exact ⟨_, rfl, Kd.R_nil _ _ _ _ _, mb_ HB2.out⟩
 | true =>
  rw [if_pos rfl] at h
  obtain ⟨rfl, rfl⟩ := Prod.mk.inj (Option.some.inj h)
  clear h
  obtain ⟨hs0, hs1⟩ := valid_small _ _ _ _ _ HV.out
  have HN0 : Aside0 (l0.length ≤ 100000) := ⟨by omega⟩
  have HN1 : Aside0 (l1.length ≤ 100000) := ⟨by omega⟩
  have HP1 : Aside0 (steps_Plan_sided.f l0 l1 a2 a3 1 = some (sidB l1 1)) := ⟨by unfold steps_Plan_sided.f; rw [if_pos HN1.out]; rfl⟩
  have HP2 : Aside0 (steps_Plan_sided.f l0 l1 a2 a3 2 = some (sidB l1 2)) := ⟨by unfold steps_Plan_sided.f; rw [if_pos HN1.out]; rfl⟩
  have HLA : Aside0 (∀ q, (([] : List S60) ++ sideL l1 q l0.length 0 (-1)).length ≤ 1000000) := ⟨fun q => by have := sideL_len l1 q hs1 l0.length 0 (-1); rw [List.nil_append]; omega⟩
  have HLB : Aside0 ((sideL l1 1 l0.length 0 (-1) ++ [(⟨2, 0, 0⟩ : S60)] ++ sideL l1 2 l0.length 0 (endP l0.length (-1))).length ≤ 1000000) := ⟨by have h1 := sideL_len l1 1 hs1 l0.length 0 (-1); have h2 := sideL_len l1 2 hs1 l0.length 0 (endP l0.length (-1)); simp only [List.length_append, List.length_nil, List.length_cons]; omega⟩
  have HLE : Aside0 ((sideL l1 1 l0.length 0 (-1)).length + 1 ≤ 1000000) := ⟨by have h1 := sideL_len l1 1 hs1 l0.length 0 (-1); omega⟩
  have HLA1 : Aside0 _ := ⟨HLA.out 1⟩
  have HLA2 : Aside0 _ := ⟨HLA.out 2⟩
  clear hs0 hs1 HLA
  obtain ⟨s1, hs1⟩ : ∃ s, sidB l1 1 = s := ⟨_, rfl⟩
  obtain ⟨s2, hs2⟩ : ∃ s, sidB l1 2 = s := ⟨_, rfl⟩
  unfold ofL ofA
  rw [hs1] at HP1
  rw [hs2] at HP2
  rw [hs1, hs2]
  clear hs1 hs2
  cases s1 with
  | false =>
   cases s2 with
   | false =>
    rw [if_neg (by simp), if_neg (by simp)]
    go_enter Tryd.func17, Tryd.ntmps17
    go_wp2_with (first | ((with_reducible refine gate_dst (N := 1) rfl ?_); refine bev (N := 1) (cs := #[.slice A0 l0.length c0, .slice A1 l1.length c1, .int .i64 a2, .int .i64 a3]) (t := 35) ?_; intro gp hg w6 hbox hb; have BP1 := Aside0.mk hbox; have HB1 : Aside0 (Below W.heap.size W w6) := ⟨hb⟩; have GP : Aside0 (W.heap.size ≤ gp) := ⟨by rw [hg]; exact Nat.le_refl _⟩; clear hb hbox hg; have hp0 : w6.cell? ⟨gp, 0, none⟩ = some (.slice A0 l0.length c0) := (blk_cell BP1.out 0).trans rfl; have hp1 : w6.cell? ⟨gp, 1, none⟩ = some (.slice A1 l1.length c1) := (blk_cell BP1.out 1).trans rfl; have hp2 : w6.cell? ⟨gp, 2, none⟩ = some (.int .i64 a2) := (blk_cell BP1.out 2).trans rfl; have hp3 : w6.cell? ⟨gp, 3, none⟩ = some (.int .i64 a3) := (blk_cell BP1.out 3).trans rfl) | (go_at_call 18; (with_reducible refine (steps_Valid.calls k A0 c0 l0 A1 c1 l1 a2 a3 true _ (Kd.C_below HR0.out HB1.out) HC0.out (Kd.C_below HR1.out HB1.out) HC1.out HV.out).mono ?_); rintro e w12 ⟨rfl, hb⟩; have HB2 : Aside0 (Below W.heap.size W w12) := ⟨HB1.out.trans (hb.mono HB1.out.size)⟩; have BP2 : Aside0 (w12.heap[gp]? = some (.cells #[.slice A0 l0.length c0, .slice A1 l1.length c1, .int .i64 a2, .int .i64 a3] 35 (0, 0))) := ⟨(hb.block _ (blk_lt_ BP1.out)).trans BP1.out⟩; clear hb hp0 hp1 hp2 hp3) | ((with_reducible refine gate_dst (N := 4) rfl ?_); refine bev (N := 4) (cs := #[.slice none 0 0]) (t := 37) ?_; intro go hg w13 hbox hb; have BO3 := Aside0.mk hbox; have HB3 : Aside0 (Below W.heap.size W w13) := ⟨HB2.out.trans (hb.mono HB2.out.size)⟩; have GO : Aside0 (W.heap.size ≤ go) := ⟨by rw [hg]; exact HB2.out.size⟩; have BP3 : Aside0 (w13.heap[gp]? = some (.cells #[.slice A0 l0.length c0, .slice A1 l1.length c1, .int .i64 a2, .int .i64 a3] 35 (0, 0))) := ⟨(hb.block _ (blk_lt_ BP2.out)).trans BP2.out⟩; clear hb hbox hg) | ((with_reducible refine gate_dst (N := 5) rfl ?_); refine bev (N := 5) (cs := #[.int .i64 0]) (t := 3) ?_; intro gn hg w14 hbox hb; have BN4 := Aside0.mk hbox; have HB4 : Aside0 (Below W.heap.size W w14) := ⟨HB3.out.trans (hb.mono HB3.out.size)⟩; have GN : Aside0 (W.heap.size ≤ gn) := ⟨by rw [hg]; exact HB3.out.size⟩; have BP4 : Aside0 (w14.heap[gp]? = some (.cells #[.slice A0 l0.length c0, .slice A1 l1.length c1, .int .i64 a2, .int .i64 a3] 35 (0, 0))) := ⟨(hb.block _ (blk_lt_ BP3.out)).trans BP3.out⟩; have BO4 : Aside0 (w14.heap[go]? = some (.cells #[.slice none 0 0] 37 (0, 0))) := ⟨(hb.block _ (blk_lt_ BO3.out)).trans BO3.out⟩; clear hb hbox hg; have hn0 : w14.cell? ⟨gn, 0, none⟩ = some (.int .i64 0) := (blk_cell BN4.out 0).trans rfl; have hnf := blk_frozen BN4.out 0) | ((with_reducible refine gate_store (t := 3) (p := 5) rfl ?_); refine store_event (t := 3) (p := 5) (v := ?vt) (w1 := w14.setCell ⟨gn, 0, none⟩ (.int .i64 (-1))) ?hg ?ho ?hn ?hr ?_; (case ho => rfl); (case hg => rfl); (case hn => rfl); (case hr => (simp only [execOp]); (rw [show Act.eval _ (.tmp 5) = .pointer (some ⟨gn, 0, none⟩) from rfl, show Act.eval _ (.const (.int .i64 (-1))) = .int .i64 (-1) from rfl]); exact st3 _ _ _ hn0 hnf); intro w15 hw3; have HO5 : Aside0 (IsO W w15 gp gn go A0 c0 l0 A1 c1 l1 a2 a3 (-1) ([] : List S60)) := ⟨by rw [hw3]; exact IsO.setPres (p := 0) ⟨BP4.out, BN4.out, ⟨none, 0, BO4.out, Kd.R_nil _ _ _ _ _⟩, HR0.out, HR1.out, HC0.out, HC1.out, HB4.out, GP.out, GN.out, GO.out⟩ (-1)⟩; clear hn0 hnf hw3; have hp0 : w15.cell? ⟨gp, 0, none⟩ = some (.slice A0 l0.length c0) := (blk_cell HO5.out.plan 0).trans rfl; have hp1 : w15.cell? ⟨gp, 1, none⟩ = some (.slice A1 l1.length c1) := (blk_cell HO5.out.plan 1).trans rfl; have hp2 : w15.cell? ⟨gp, 2, none⟩ = some (.int .i64 a2) := (blk_cell HO5.out.plan 2).trans rfl; have hp3 : w15.cell? ⟨gp, 3, none⟩ = some (.int .i64 a3) := (blk_cell HO5.out.plan 3).trans rfl) | (go_at_call 29; (with_reducible refine (steps_Plan_sided.calls A0 c0 l0 A1 c1 l1 a2 a3 1 false _ (Kd.C_below HR0.out HO5.out.bel) HC0.out (Kd.C_below HR1.out HO5.out.bel) HC1.out HP1.out).mono ?_); rintro e w16 ⟨rfl, hb⟩; have HO6 := Aside0.mk (HO5.out.below hb); clear hb hp0 hp1 hp2 hp3; have hp0 : w16.cell? ⟨gp, 0, none⟩ = some (.slice A0 l0.length c0) := (blk_cell HO6.out.plan 0).trans rfl; have hp1 : w16.cell? ⟨gp, 1, none⟩ = some (.slice A1 l1.length c1) := (blk_cell HO6.out.plan 1).trans rfl; have hp2 : w16.cell? ⟨gp, 2, none⟩ = some (.int .i64 a2) := (blk_cell HO6.out.plan 2).trans rfl; have hp3 : w16.cell? ⟨gp, 3, none⟩ = some (.int .i64 a3) := (blk_cell HO6.out.plan 3).trans rfl) | (go_at_call 29; (with_reducible refine (steps_Plan_sided.calls A0 c0 l0 A1 c1 l1 a2 a3 2 false _ (Kd.C_below HR0.out HO6.out.bel) HC0.out (Kd.C_below HR1.out HO6.out.bel) HC1.out HP2.out).mono ?_); rintro e w17 ⟨rfl, hb⟩; have HO7 := Aside0.mk (HO6.out.below hb); clear hb hp0 hp1 hp2 hp3; have hp0 : w17.cell? ⟨gp, 0, none⟩ = some (.slice A0 l0.length c0) := (blk_cell HO7.out.plan 0).trans rfl; have hp1 : w17.cell? ⟨gp, 1, none⟩ = some (.slice A1 l1.length c1) := (blk_cell HO7.out.plan 1).trans rfl; have hp2 : w17.cell? ⟨gp, 2, none⟩ = some (.int .i64 a2) := (blk_cell HO7.out.plan 2).trans rfl; have hp3 : w17.cell? ⟨gp, 3, none⟩ = some (.int .i64 a3) := (blk_cell HO7.out.plan 3).trans rfl; obtain ⟨A9, c9, hgo, hro⟩ := HO7.out.out; have hv : w17.cell? ⟨go, 0, none⟩ = some (.slice A9 (([] : List S60)).length c9) := (blk_cell hgo 0).trans rfl; have HGO := Aside0.mk hgo; have HRO := Aside0.mk hro; clear hgo hro))
    refine bodyPost_ret (results_list (rs := [.tmp 2, .tmp 3]) rfl (by simp) (.tmp (.tmp .nil))) rfl ?_
    exact ⟨_, rfl, HRO.out, HO7.out.bel⟩
   | true =>
    rw [if_neg (by simp), if_pos rfl, if_neg (by simp)]
    go_enter Tryd.func17, Tryd.ntmps17
    go_wp2_with (first | ((with_reducible refine gate_dst (N := 1) rfl ?_); refine bev (N := 1) (cs := #[.slice A0 l0.length c0, .slice A1 l1.length c1, .int .i64 a2, .int .i64 a3]) (t := 35) ?_; intro gp hg w6 hbox hb; have BP1 := Aside0.mk hbox; have HB1 : Aside0 (Below W.heap.size W w6) := ⟨hb⟩; have GP : Aside0 (W.heap.size ≤ gp) := ⟨by rw [hg]; exact Nat.le_refl _⟩; clear hb hbox hg; have hp0 : w6.cell? ⟨gp, 0, none⟩ = some (.slice A0 l0.length c0) := (blk_cell BP1.out 0).trans rfl; have hp1 : w6.cell? ⟨gp, 1, none⟩ = some (.slice A1 l1.length c1) := (blk_cell BP1.out 1).trans rfl; have hp2 : w6.cell? ⟨gp, 2, none⟩ = some (.int .i64 a2) := (blk_cell BP1.out 2).trans rfl; have hp3 : w6.cell? ⟨gp, 3, none⟩ = some (.int .i64 a3) := (blk_cell BP1.out 3).trans rfl) | (go_at_call 18; (with_reducible refine (steps_Valid.calls k A0 c0 l0 A1 c1 l1 a2 a3 true _ (Kd.C_below HR0.out HB1.out) HC0.out (Kd.C_below HR1.out HB1.out) HC1.out HV.out).mono ?_); rintro e w12 ⟨rfl, hb⟩; have HB2 : Aside0 (Below W.heap.size W w12) := ⟨HB1.out.trans (hb.mono HB1.out.size)⟩; have BP2 : Aside0 (w12.heap[gp]? = some (.cells #[.slice A0 l0.length c0, .slice A1 l1.length c1, .int .i64 a2, .int .i64 a3] 35 (0, 0))) := ⟨(hb.block _ (blk_lt_ BP1.out)).trans BP1.out⟩; clear hb hp0 hp1 hp2 hp3) | ((with_reducible refine gate_dst (N := 4) rfl ?_); refine bev (N := 4) (cs := #[.slice none 0 0]) (t := 37) ?_; intro go hg w13 hbox hb; have BO3 := Aside0.mk hbox; have HB3 : Aside0 (Below W.heap.size W w13) := ⟨HB2.out.trans (hb.mono HB2.out.size)⟩; have GO : Aside0 (W.heap.size ≤ go) := ⟨by rw [hg]; exact HB2.out.size⟩; have BP3 : Aside0 (w13.heap[gp]? = some (.cells #[.slice A0 l0.length c0, .slice A1 l1.length c1, .int .i64 a2, .int .i64 a3] 35 (0, 0))) := ⟨(hb.block _ (blk_lt_ BP2.out)).trans BP2.out⟩; clear hb hbox hg) | ((with_reducible refine gate_dst (N := 5) rfl ?_); refine bev (N := 5) (cs := #[.int .i64 0]) (t := 3) ?_; intro gn hg w14 hbox hb; have BN4 := Aside0.mk hbox; have HB4 : Aside0 (Below W.heap.size W w14) := ⟨HB3.out.trans (hb.mono HB3.out.size)⟩; have GN : Aside0 (W.heap.size ≤ gn) := ⟨by rw [hg]; exact HB3.out.size⟩; have BP4 : Aside0 (w14.heap[gp]? = some (.cells #[.slice A0 l0.length c0, .slice A1 l1.length c1, .int .i64 a2, .int .i64 a3] 35 (0, 0))) := ⟨(hb.block _ (blk_lt_ BP3.out)).trans BP3.out⟩; have BO4 : Aside0 (w14.heap[go]? = some (.cells #[.slice none 0 0] 37 (0, 0))) := ⟨(hb.block _ (blk_lt_ BO3.out)).trans BO3.out⟩; clear hb hbox hg; have hn0 : w14.cell? ⟨gn, 0, none⟩ = some (.int .i64 0) := (blk_cell BN4.out 0).trans rfl; have hnf := blk_frozen BN4.out 0) | ((with_reducible refine gate_store (t := 3) (p := 5) rfl ?_); refine store_event (t := 3) (p := 5) (v := ?vt) (w1 := w14.setCell ⟨gn, 0, none⟩ (.int .i64 (-1))) ?hg ?ho ?hn ?hr ?_; (case ho => rfl); (case hg => rfl); (case hn => rfl); (case hr => (simp only [execOp]); (rw [show Act.eval _ (.tmp 5) = .pointer (some ⟨gn, 0, none⟩) from rfl, show Act.eval _ (.const (.int .i64 (-1))) = .int .i64 (-1) from rfl]); exact st3 _ _ _ hn0 hnf); intro w15 hw3; have HO5 : Aside0 (IsO W w15 gp gn go A0 c0 l0 A1 c1 l1 a2 a3 (-1) ([] : List S60)) := ⟨by rw [hw3]; exact IsO.setPres (p := 0) ⟨BP4.out, BN4.out, ⟨none, 0, BO4.out, Kd.R_nil _ _ _ _ _⟩, HR0.out, HR1.out, HC0.out, HC1.out, HB4.out, GP.out, GN.out, GO.out⟩ (-1)⟩; clear hn0 hnf hw3; have hp0 : w15.cell? ⟨gp, 0, none⟩ = some (.slice A0 l0.length c0) := (blk_cell HO5.out.plan 0).trans rfl; have hp1 : w15.cell? ⟨gp, 1, none⟩ = some (.slice A1 l1.length c1) := (blk_cell HO5.out.plan 1).trans rfl; have hp2 : w15.cell? ⟨gp, 2, none⟩ = some (.int .i64 a2) := (blk_cell HO5.out.plan 2).trans rfl; have hp3 : w15.cell? ⟨gp, 3, none⟩ = some (.int .i64 a3) := (blk_cell HO5.out.plan 3).trans rfl) | (go_at_call 29; (with_reducible refine (steps_Plan_sided.calls A0 c0 l0 A1 c1 l1 a2 a3 1 false _ (Kd.C_below HR0.out HO5.out.bel) HC0.out (Kd.C_below HR1.out HO5.out.bel) HC1.out HP1.out).mono ?_); rintro e w16 ⟨rfl, hb⟩; have HO6 := Aside0.mk (HO5.out.below hb); clear hb hp0 hp1 hp2 hp3; have hp0 : w16.cell? ⟨gp, 0, none⟩ = some (.slice A0 l0.length c0) := (blk_cell HO6.out.plan 0).trans rfl; have hp1 : w16.cell? ⟨gp, 1, none⟩ = some (.slice A1 l1.length c1) := (blk_cell HO6.out.plan 1).trans rfl; have hp2 : w16.cell? ⟨gp, 2, none⟩ = some (.int .i64 a2) := (blk_cell HO6.out.plan 2).trans rfl; have hp3 : w16.cell? ⟨gp, 3, none⟩ = some (.int .i64 a3) := (blk_cell HO6.out.plan 3).trans rfl) | (go_at_call 29; (with_reducible refine (steps_Plan_sided.calls A0 c0 l0 A1 c1 l1 a2 a3 2 true _ (Kd.C_below HR0.out HO6.out.bel) HC0.out (Kd.C_below HR1.out HO6.out.bel) HC1.out HP2.out).mono ?_); rintro e w17 ⟨rfl, hb⟩; have HO7 := Aside0.mk (HO6.out.below hb); clear hb hp0 hp1 hp2 hp3; have hp0 : w17.cell? ⟨gp, 0, none⟩ = some (.slice A0 l0.length c0) := (blk_cell HO7.out.plan 0).trans rfl; have hp1 : w17.cell? ⟨gp, 1, none⟩ = some (.slice A1 l1.length c1) := (blk_cell HO7.out.plan 1).trans rfl; have hp2 : w17.cell? ⟨gp, 2, none⟩ = some (.int .i64 a2) := (blk_cell HO7.out.plan 2).trans rfl; have hp3 : w17.cell? ⟨gp, 3, none⟩ = some (.int .i64 a3) := (blk_cell HO7.out.plan 3).trans rfl) | (go_at_fn 28; (with_reducible refine (of_side.calls W _ gp gn go A0 c0 l0 A1 c1 l1 a2 a3 (-1) [] 2 HO7.out HLA2.out HN0.out HN1.out).mono ?_); rintro e w18 ⟨rfl, ho⟩; (try rw [List.nil_append] at ho); have HO8 := Aside0.mk ho; clear ho hp0 hp1 hp2 hp3; have hp0 : w18.cell? ⟨gp, 0, none⟩ = some (.slice A0 l0.length c0) := (blk_cell HO8.out.plan 0).trans rfl; have hp1 : w18.cell? ⟨gp, 1, none⟩ = some (.slice A1 l1.length c1) := (blk_cell HO8.out.plan 1).trans rfl; have hp2 : w18.cell? ⟨gp, 2, none⟩ = some (.int .i64 a2) := (blk_cell HO8.out.plan 2).trans rfl; have hp3 : w18.cell? ⟨gp, 3, none⟩ = some (.int .i64 a3) := (blk_cell HO8.out.plan 3).trans rfl; obtain ⟨A9, c9, hgo, hro⟩ := HO8.out.out; have hv : w18.cell? ⟨go, 0, none⟩ = some (.slice A9 (sideL l1 2 l0.length 0 (-1)).length c9) := (blk_cell hgo 0).trans rfl; have HGO := Aside0.mk hgo; have HRO := Aside0.mk hro; clear hgo hro))
    refine bodyPost_ret (results_list (rs := [.tmp 2, .tmp 3]) rfl (by simp) (.tmp (.tmp .nil))) rfl ?_
    exact ⟨_, rfl, HRO.out, HO8.out.bel⟩
  | true =>
   cases s2 with
   | false =>
    rw [if_pos rfl, if_neg (by simp), if_neg (by simp), List.append_nil, List.append_nil]
    go_enter Tryd.func17, Tryd.ntmps17
    go_wp2_with (first | ((with_reducible refine gate_dst (N := 1) rfl ?_); refine bev (N := 1) (cs := #[.slice A0 l0.length c0, .slice A1 l1.length c1, .int .i64 a2, .int .i64 a3]) (t := 35) ?_; intro gp hg w6 hbox hb; have BP1 := Aside0.mk hbox; have HB1 : Aside0 (Below W.heap.size W w6) := ⟨hb⟩; have GP : Aside0 (W.heap.size ≤ gp) := ⟨by rw [hg]; exact Nat.le_refl _⟩; clear hb hbox hg; have hp0 : w6.cell? ⟨gp, 0, none⟩ = some (.slice A0 l0.length c0) := (blk_cell BP1.out 0).trans rfl; have hp1 : w6.cell? ⟨gp, 1, none⟩ = some (.slice A1 l1.length c1) := (blk_cell BP1.out 1).trans rfl; have hp2 : w6.cell? ⟨gp, 2, none⟩ = some (.int .i64 a2) := (blk_cell BP1.out 2).trans rfl; have hp3 : w6.cell? ⟨gp, 3, none⟩ = some (.int .i64 a3) := (blk_cell BP1.out 3).trans rfl) | (go_at_call 18; (with_reducible refine (steps_Valid.calls k A0 c0 l0 A1 c1 l1 a2 a3 true _ (Kd.C_below HR0.out HB1.out) HC0.out (Kd.C_below HR1.out HB1.out) HC1.out HV.out).mono ?_); rintro e w12 ⟨rfl, hb⟩; have HB2 : Aside0 (Below W.heap.size W w12) := ⟨HB1.out.trans (hb.mono HB1.out.size)⟩; have BP2 : Aside0 (w12.heap[gp]? = some (.cells #[.slice A0 l0.length c0, .slice A1 l1.length c1, .int .i64 a2, .int .i64 a3] 35 (0, 0))) := ⟨(hb.block _ (blk_lt_ BP1.out)).trans BP1.out⟩; clear hb hp0 hp1 hp2 hp3) | ((with_reducible refine gate_dst (N := 4) rfl ?_); refine bev (N := 4) (cs := #[.slice none 0 0]) (t := 37) ?_; intro go hg w13 hbox hb; have BO3 := Aside0.mk hbox; have HB3 : Aside0 (Below W.heap.size W w13) := ⟨HB2.out.trans (hb.mono HB2.out.size)⟩; have GO : Aside0 (W.heap.size ≤ go) := ⟨by rw [hg]; exact HB2.out.size⟩; have BP3 : Aside0 (w13.heap[gp]? = some (.cells #[.slice A0 l0.length c0, .slice A1 l1.length c1, .int .i64 a2, .int .i64 a3] 35 (0, 0))) := ⟨(hb.block _ (blk_lt_ BP2.out)).trans BP2.out⟩; clear hb hbox hg) | ((with_reducible refine gate_dst (N := 5) rfl ?_); refine bev (N := 5) (cs := #[.int .i64 0]) (t := 3) ?_; intro gn hg w14 hbox hb; have BN4 := Aside0.mk hbox; have HB4 : Aside0 (Below W.heap.size W w14) := ⟨HB3.out.trans (hb.mono HB3.out.size)⟩; have GN : Aside0 (W.heap.size ≤ gn) := ⟨by rw [hg]; exact HB3.out.size⟩; have BP4 : Aside0 (w14.heap[gp]? = some (.cells #[.slice A0 l0.length c0, .slice A1 l1.length c1, .int .i64 a2, .int .i64 a3] 35 (0, 0))) := ⟨(hb.block _ (blk_lt_ BP3.out)).trans BP3.out⟩; have BO4 : Aside0 (w14.heap[go]? = some (.cells #[.slice none 0 0] 37 (0, 0))) := ⟨(hb.block _ (blk_lt_ BO3.out)).trans BO3.out⟩; clear hb hbox hg; have hn0 : w14.cell? ⟨gn, 0, none⟩ = some (.int .i64 0) := (blk_cell BN4.out 0).trans rfl; have hnf := blk_frozen BN4.out 0) | ((with_reducible refine gate_store (t := 3) (p := 5) rfl ?_); refine store_event (t := 3) (p := 5) (v := ?vt) (w1 := w14.setCell ⟨gn, 0, none⟩ (.int .i64 (-1))) ?hg ?ho ?hn ?hr ?_; (case ho => rfl); (case hg => rfl); (case hn => rfl); (case hr => (simp only [execOp]); (rw [show Act.eval _ (.tmp 5) = .pointer (some ⟨gn, 0, none⟩) from rfl, show Act.eval _ (.const (.int .i64 (-1))) = .int .i64 (-1) from rfl]); exact st3 _ _ _ hn0 hnf); intro w15 hw3; have HO5 : Aside0 (IsO W w15 gp gn go A0 c0 l0 A1 c1 l1 a2 a3 (-1) ([] : List S60)) := ⟨by rw [hw3]; exact IsO.setPres (p := 0) ⟨BP4.out, BN4.out, ⟨none, 0, BO4.out, Kd.R_nil _ _ _ _ _⟩, HR0.out, HR1.out, HC0.out, HC1.out, HB4.out, GP.out, GN.out, GO.out⟩ (-1)⟩; clear hn0 hnf hw3; have hp0 : w15.cell? ⟨gp, 0, none⟩ = some (.slice A0 l0.length c0) := (blk_cell HO5.out.plan 0).trans rfl; have hp1 : w15.cell? ⟨gp, 1, none⟩ = some (.slice A1 l1.length c1) := (blk_cell HO5.out.plan 1).trans rfl; have hp2 : w15.cell? ⟨gp, 2, none⟩ = some (.int .i64 a2) := (blk_cell HO5.out.plan 2).trans rfl; have hp3 : w15.cell? ⟨gp, 3, none⟩ = some (.int .i64 a3) := (blk_cell HO5.out.plan 3).trans rfl) | (go_at_call 29; (with_reducible refine (steps_Plan_sided.calls A0 c0 l0 A1 c1 l1 a2 a3 1 true _ (Kd.C_below HR0.out HO5.out.bel) HC0.out (Kd.C_below HR1.out HO5.out.bel) HC1.out HP1.out).mono ?_); rintro e w16 ⟨rfl, hb⟩; have HO6 := Aside0.mk (HO5.out.below hb); clear hb hp0 hp1 hp2 hp3; have hp0 : w16.cell? ⟨gp, 0, none⟩ = some (.slice A0 l0.length c0) := (blk_cell HO6.out.plan 0).trans rfl; have hp1 : w16.cell? ⟨gp, 1, none⟩ = some (.slice A1 l1.length c1) := (blk_cell HO6.out.plan 1).trans rfl; have hp2 : w16.cell? ⟨gp, 2, none⟩ = some (.int .i64 a2) := (blk_cell HO6.out.plan 2).trans rfl; have hp3 : w16.cell? ⟨gp, 3, none⟩ = some (.int .i64 a3) := (blk_cell HO6.out.plan 3).trans rfl) | (go_at_fn 28; (with_reducible refine (of_side.calls W _ gp gn go A0 c0 l0 A1 c1 l1 a2 a3 (-1) [] 1 HO6.out HLA1.out HN0.out HN1.out).mono ?_); rintro e w17 ⟨rfl, ho⟩; (try rw [List.nil_append] at ho); have HO7 := Aside0.mk ho; clear ho hp0 hp1 hp2 hp3; have hp0 : w17.cell? ⟨gp, 0, none⟩ = some (.slice A0 l0.length c0) := (blk_cell HO7.out.plan 0).trans rfl; have hp1 : w17.cell? ⟨gp, 1, none⟩ = some (.slice A1 l1.length c1) := (blk_cell HO7.out.plan 1).trans rfl; have hp2 : w17.cell? ⟨gp, 2, none⟩ = some (.int .i64 a2) := (blk_cell HO7.out.plan 2).trans rfl; have hp3 : w17.cell? ⟨gp, 3, none⟩ = some (.int .i64 a3) := (blk_cell HO7.out.plan 3).trans rfl) | (go_at_call 29; (with_reducible refine (steps_Plan_sided.calls A0 c0 l0 A1 c1 l1 a2 a3 2 false _ (Kd.C_below HR0.out HO7.out.bel) HC0.out (Kd.C_below HR1.out HO7.out.bel) HC1.out HP2.out).mono ?_); rintro e w18 ⟨rfl, hb⟩; have HO8 := Aside0.mk (HO7.out.below hb); clear hb hp0 hp1 hp2 hp3; have hp0 : w18.cell? ⟨gp, 0, none⟩ = some (.slice A0 l0.length c0) := (blk_cell HO8.out.plan 0).trans rfl; have hp1 : w18.cell? ⟨gp, 1, none⟩ = some (.slice A1 l1.length c1) := (blk_cell HO8.out.plan 1).trans rfl; have hp2 : w18.cell? ⟨gp, 2, none⟩ = some (.int .i64 a2) := (blk_cell HO8.out.plan 2).trans rfl; have hp3 : w18.cell? ⟨gp, 3, none⟩ = some (.int .i64 a3) := (blk_cell HO8.out.plan 3).trans rfl) | (go_at_call 29; (with_reducible refine (steps_Plan_sided.calls A0 c0 l0 A1 c1 l1 a2 a3 2 false _ (Kd.C_below HR0.out HO8.out.bel) HC0.out (Kd.C_below HR1.out HO8.out.bel) HC1.out HP2.out).mono ?_); rintro e w19 ⟨rfl, hb⟩; have HO9 := Aside0.mk (HO8.out.below hb); clear hb hp0 hp1 hp2 hp3; have hp0 : w19.cell? ⟨gp, 0, none⟩ = some (.slice A0 l0.length c0) := (blk_cell HO9.out.plan 0).trans rfl; have hp1 : w19.cell? ⟨gp, 1, none⟩ = some (.slice A1 l1.length c1) := (blk_cell HO9.out.plan 1).trans rfl; have hp2 : w19.cell? ⟨gp, 2, none⟩ = some (.int .i64 a2) := (blk_cell HO9.out.plan 2).trans rfl; have hp3 : w19.cell? ⟨gp, 3, none⟩ = some (.int .i64 a3) := (blk_cell HO9.out.plan 3).trans rfl; obtain ⟨A9, c9, hgo, hro⟩ := HO9.out.out; have hv : w19.cell? ⟨go, 0, none⟩ = some (.slice A9 ((sideL l1 1 l0.length 0 (-1))).length c9) := (blk_cell hgo 0).trans rfl; have HGO := Aside0.mk hgo; have HRO := Aside0.mk hro; clear hgo hro))
    refine bodyPost_ret (results_list (rs := [.tmp 2, .tmp 3]) rfl (by simp) (.tmp (.tmp .nil))) rfl ?_
    exact ⟨_, rfl, HRO.out, HO9.out.bel⟩
   | true =>
    rw [if_pos rfl, if_pos rfl, if_pos rfl, if_pos rfl]
    go_enter Tryd.func17, Tryd.ntmps17
    go_wp2_with (first | ((with_reducible refine gate_dst (N := 1) rfl ?_); refine bev (N := 1) (cs := #[.slice A0 l0.length c0, .slice A1 l1.length c1, .int .i64 a2, .int .i64 a3]) (t := 35) ?_; intro gp hg w6 hbox hb; have BP1 := Aside0.mk hbox; have HB1 : Aside0 (Below W.heap.size W w6) := ⟨hb⟩; have GP : Aside0 (W.heap.size ≤ gp) := ⟨by rw [hg]; exact Nat.le_refl _⟩; clear hb hbox hg; have hp0 : w6.cell? ⟨gp, 0, none⟩ = some (.slice A0 l0.length c0) := (blk_cell BP1.out 0).trans rfl; have hp1 : w6.cell? ⟨gp, 1, none⟩ = some (.slice A1 l1.length c1) := (blk_cell BP1.out 1).trans rfl; have hp2 : w6.cell? ⟨gp, 2, none⟩ = some (.int .i64 a2) := (blk_cell BP1.out 2).trans rfl; have hp3 : w6.cell? ⟨gp, 3, none⟩ = some (.int .i64 a3) := (blk_cell BP1.out 3).trans rfl) | (go_at_call 18; (with_reducible refine (steps_Valid.calls k A0 c0 l0 A1 c1 l1 a2 a3 true _ (Kd.C_below HR0.out HB1.out) HC0.out (Kd.C_below HR1.out HB1.out) HC1.out HV.out).mono ?_); rintro e w12 ⟨rfl, hb⟩; have HB2 : Aside0 (Below W.heap.size W w12) := ⟨HB1.out.trans (hb.mono HB1.out.size)⟩; have BP2 : Aside0 (w12.heap[gp]? = some (.cells #[.slice A0 l0.length c0, .slice A1 l1.length c1, .int .i64 a2, .int .i64 a3] 35 (0, 0))) := ⟨(hb.block _ (blk_lt_ BP1.out)).trans BP1.out⟩; clear hb hp0 hp1 hp2 hp3) | ((with_reducible refine gate_dst (N := 4) rfl ?_); refine bev (N := 4) (cs := #[.slice none 0 0]) (t := 37) ?_; intro go hg w13 hbox hb; have BO3 := Aside0.mk hbox; have HB3 : Aside0 (Below W.heap.size W w13) := ⟨HB2.out.trans (hb.mono HB2.out.size)⟩; have GO : Aside0 (W.heap.size ≤ go) := ⟨by rw [hg]; exact HB2.out.size⟩; have BP3 : Aside0 (w13.heap[gp]? = some (.cells #[.slice A0 l0.length c0, .slice A1 l1.length c1, .int .i64 a2, .int .i64 a3] 35 (0, 0))) := ⟨(hb.block _ (blk_lt_ BP2.out)).trans BP2.out⟩; clear hb hbox hg) | ((with_reducible refine gate_dst (N := 5) rfl ?_); refine bev (N := 5) (cs := #[.int .i64 0]) (t := 3) ?_; intro gn hg w14 hbox hb; have BN4 := Aside0.mk hbox; have HB4 : Aside0 (Below W.heap.size W w14) := ⟨HB3.out.trans (hb.mono HB3.out.size)⟩; have GN : Aside0 (W.heap.size ≤ gn) := ⟨by rw [hg]; exact HB3.out.size⟩; have BP4 : Aside0 (w14.heap[gp]? = some (.cells #[.slice A0 l0.length c0, .slice A1 l1.length c1, .int .i64 a2, .int .i64 a3] 35 (0, 0))) := ⟨(hb.block _ (blk_lt_ BP3.out)).trans BP3.out⟩; have BO4 : Aside0 (w14.heap[go]? = some (.cells #[.slice none 0 0] 37 (0, 0))) := ⟨(hb.block _ (blk_lt_ BO3.out)).trans BO3.out⟩; clear hb hbox hg; have hn0 : w14.cell? ⟨gn, 0, none⟩ = some (.int .i64 0) := (blk_cell BN4.out 0).trans rfl; have hnf := blk_frozen BN4.out 0) | ((with_reducible refine gate_store (t := 3) (p := 5) rfl ?_); refine store_event (t := 3) (p := 5) (v := ?vt) (w1 := w14.setCell ⟨gn, 0, none⟩ (.int .i64 (-1))) ?hg ?ho ?hn ?hr ?_; (case ho => rfl); (case hg => rfl); (case hn => rfl); (case hr => (simp only [execOp]); (rw [show Act.eval _ (.tmp 5) = .pointer (some ⟨gn, 0, none⟩) from rfl, show Act.eval _ (.const (.int .i64 (-1))) = .int .i64 (-1) from rfl]); exact st3 _ _ _ hn0 hnf); intro w15 hw3; have HO5 : Aside0 (IsO W w15 gp gn go A0 c0 l0 A1 c1 l1 a2 a3 (-1) ([] : List S60)) := ⟨by rw [hw3]; exact IsO.setPres (p := 0) ⟨BP4.out, BN4.out, ⟨none, 0, BO4.out, Kd.R_nil _ _ _ _ _⟩, HR0.out, HR1.out, HC0.out, HC1.out, HB4.out, GP.out, GN.out, GO.out⟩ (-1)⟩; clear hn0 hnf hw3; have hp0 : w15.cell? ⟨gp, 0, none⟩ = some (.slice A0 l0.length c0) := (blk_cell HO5.out.plan 0).trans rfl; have hp1 : w15.cell? ⟨gp, 1, none⟩ = some (.slice A1 l1.length c1) := (blk_cell HO5.out.plan 1).trans rfl; have hp2 : w15.cell? ⟨gp, 2, none⟩ = some (.int .i64 a2) := (blk_cell HO5.out.plan 2).trans rfl; have hp3 : w15.cell? ⟨gp, 3, none⟩ = some (.int .i64 a3) := (blk_cell HO5.out.plan 3).trans rfl) | (go_at_call 29; (with_reducible refine (steps_Plan_sided.calls A0 c0 l0 A1 c1 l1 a2 a3 1 true _ (Kd.C_below HR0.out HO5.out.bel) HC0.out (Kd.C_below HR1.out HO5.out.bel) HC1.out HP1.out).mono ?_); rintro e w16 ⟨rfl, hb⟩; have HO6 := Aside0.mk (HO5.out.below hb); clear hb hp0 hp1 hp2 hp3; have hp0 : w16.cell? ⟨gp, 0, none⟩ = some (.slice A0 l0.length c0) := (blk_cell HO6.out.plan 0).trans rfl; have hp1 : w16.cell? ⟨gp, 1, none⟩ = some (.slice A1 l1.length c1) := (blk_cell HO6.out.plan 1).trans rfl; have hp2 : w16.cell? ⟨gp, 2, none⟩ = some (.int .i64 a2) := (blk_cell HO6.out.plan 2).trans rfl; have hp3 : w16.cell? ⟨gp, 3, none⟩ = some (.int .i64 a3) := (blk_cell HO6.out.plan 3).trans rfl) | (go_at_fn 28; (with_reducible refine (of_side.calls W _ gp gn go A0 c0 l0 A1 c1 l1 a2 a3 (-1) [] 1 HO6.out HLA1.out HN0.out HN1.out).mono ?_); rintro e w17 ⟨rfl, ho⟩; (try rw [List.nil_append] at ho); have HO7 := Aside0.mk ho; clear ho hp0 hp1 hp2 hp3; have hp0 : w17.cell? ⟨gp, 0, none⟩ = some (.slice A0 l0.length c0) := (blk_cell HO7.out.plan 0).trans rfl; have hp1 : w17.cell? ⟨gp, 1, none⟩ = some (.slice A1 l1.length c1) := (blk_cell HO7.out.plan 1).trans rfl; have hp2 : w17.cell? ⟨gp, 2, none⟩ = some (.int .i64 a2) := (blk_cell HO7.out.plan 2).trans rfl; have hp3 : w17.cell? ⟨gp, 3, none⟩ = some (.int .i64 a3) := (blk_cell HO7.out.plan 3).trans rfl) | (go_at_call 29; (with_reducible refine (steps_Plan_sided.calls A0 c0 l0 A1 c1 l1 a2 a3 2 true _ (Kd.C_below HR0.out HO7.out.bel) HC0.out (Kd.C_below HR1.out HO7.out.bel) HC1.out HP2.out).mono ?_); rintro e w18 ⟨rfl, hb⟩; have HO8 := Aside0.mk (HO7.out.below hb); clear hb hp0 hp1 hp2 hp3; have hp0 : w18.cell? ⟨gp, 0, none⟩ = some (.slice A0 l0.length c0) := (blk_cell HO8.out.plan 0).trans rfl; have hp1 : w18.cell? ⟨gp, 1, none⟩ = some (.slice A1 l1.length c1) := (blk_cell HO8.out.plan 1).trans rfl; have hp2 : w18.cell? ⟨gp, 2, none⟩ = some (.int .i64 a2) := (blk_cell HO8.out.plan 2).trans rfl; have hp3 : w18.cell? ⟨gp, 3, none⟩ = some (.int .i64 a3) := (blk_cell HO8.out.plan 3).trans rfl; obtain ⟨A9, c9, hgo, hro⟩ := HO8.out.out; have hv : w18.cell? ⟨go, 0, none⟩ = some (.slice A9 ((sideL l1 1 l0.length 0 (-1))).length c9) := (blk_cell hgo 0).trans rfl; have HGO := Aside0.mk hgo; have HRO := Aside0.mk hro; clear hgo hro) | ((with_reducible refine gate_builtin (b := .append) (xs := #[.tmp 17, .tmp 19]) rfl ?_); at_builtin; refine Kd.R_append k60 (w0 := W) W.heap.size rfl (.tmp 17) (.tmp 19) 37 60 (.agg #[.int .i64 0, .int .i64 0, .int .i64 0]) 24 rfl Tryd.underlying37 info60 rfl (by decide) (by omega) (.slice A9 (sideL l1 1 l0.length 0 (-1)).length c9) (sideL l1 1 l0.length 0 (-1)) (⟨2, 0, 0⟩ : S60) [.int .i64 (2), .int .i64 (0), .int .i64 (0)] (fun _ => True) (fun _ => False) rfl (by first | (go_simp; done) | (go_simp; rfl)) ?aP (fun _ hk => hk.elim) ?aF ?aO ?aB ?aS ?aL ?_; (case aP => exact k60_mkM _ _ _ (⟨2, 0, 0⟩ : S60)); (case aB => exact HO8.out.bel); (case aF => exact fun _ _ => trivial); (case aO => exact HRO.out); (case aS => exact HO8.out.bel.size); (case aL => have := HLE.out; omega); intro v1 w1 ho hb hgr hat; have HO2 := Aside0.mk (HO8.out.app HGO.out HRO.out ho hb hgr); have HGO1 := Aside0.mk (blk_grown HGO.out hgr (Kd.R_ne HRO.out HGO.out (by decide))); obtain ⟨A2, c2, rfl⟩ := Kd.R_slice ho; have hz0 := (blk_cell HGO1.out 0).trans rfl; have hf0 := blk_frozen HGO1.out 0; clear ho hb hgr hat HGO1) | ((with_reducible refine gate_store (t := 37) (p := 4) rfl ?_); refine store_event (t := 37) (p := 4) (v := ?vs) (w1 := w1.setCell ⟨go, 0, none⟩ (.slice A2 ((sideL l1 1 l0.length 0 (-1)) ++ [(⟨2, 0, 0⟩ : S60)]).length c2)) ?hg ?ho ?hn ?hr ?_; (case ho => rfl); (case hg => rfl); (case hn => rfl); (case hr => (simp only [execOp]); (rw [show Act.eval _ (.tmp 4) = .pointer (some ⟨go, 0, none⟩) from rfl, show Act.eval _ (.tmp 20) = .slice A2 ((sideL l1 1 l0.length 0 (-1)) ++ [(⟨2, 0, 0⟩ : S60)]).length c2 from rfl]); exact st53 _ _ _ rfl hz0 hf0); intro w19 hw2; rw [← hw2] at HO2; clear hz0 hf0 hw2; clear HGO HRO; have hp0 : w19.cell? ⟨gp, 0, none⟩ = some (.slice A0 l0.length c0) := (blk_cell HO2.out.plan 0).trans rfl; have hp1 : w19.cell? ⟨gp, 1, none⟩ = some (.slice A1 l1.length c1) := (blk_cell HO2.out.plan 1).trans rfl; have hp2 : w19.cell? ⟨gp, 2, none⟩ = some (.int .i64 a2) := (blk_cell HO2.out.plan 2).trans rfl; have hp3 : w19.cell? ⟨gp, 3, none⟩ = some (.int .i64 a3) := (blk_cell HO2.out.plan 3).trans rfl) | (go_at_call 29; (with_reducible refine (steps_Plan_sided.calls A0 c0 l0 A1 c1 l1 a2 a3 2 true _ (Kd.C_below HR0.out HO2.out.bel) HC0.out (Kd.C_below HR1.out HO2.out.bel) HC1.out HP2.out).mono ?_); rintro e w20 ⟨rfl, hb⟩; have HO9 := Aside0.mk (HO2.out.below hb); clear hb hp0 hp1 hp2 hp3; have hp0 : w20.cell? ⟨gp, 0, none⟩ = some (.slice A0 l0.length c0) := (blk_cell HO9.out.plan 0).trans rfl; have hp1 : w20.cell? ⟨gp, 1, none⟩ = some (.slice A1 l1.length c1) := (blk_cell HO9.out.plan 1).trans rfl; have hp2 : w20.cell? ⟨gp, 2, none⟩ = some (.int .i64 a2) := (blk_cell HO9.out.plan 2).trans rfl; have hp3 : w20.cell? ⟨gp, 3, none⟩ = some (.int .i64 a3) := (blk_cell HO9.out.plan 3).trans rfl) | (go_at_fn 28; (with_reducible refine (of_side.calls W _ gp gn go A0 c0 l0 A1 c1 l1 a2 a3 (endP l0.length (-1)) ((sideL l1 1 l0.length 0 (-1)) ++ [(⟨2, 0, 0⟩ : S60)]) 2 HO9.out HLB.out HN0.out HN1.out).mono ?_); rintro e w21 ⟨rfl, ho⟩; (try rw [List.nil_append] at ho); generalize hys : ((sideL l1 1 l0.length 0 (-1)) ++ [(⟨2, 0, 0⟩ : S60)]) ++ sideL l1 2 l0.length 0 (endP l0.length (-1)) = ys at ho; have HO10 := Aside0.mk ho; clear ho hp0 hp1 hp2 hp3; have hp0 : w21.cell? ⟨gp, 0, none⟩ = some (.slice A0 l0.length c0) := (blk_cell HO10.out.plan 0).trans rfl; have hp1 : w21.cell? ⟨gp, 1, none⟩ = some (.slice A1 l1.length c1) := (blk_cell HO10.out.plan 1).trans rfl; have hp2 : w21.cell? ⟨gp, 2, none⟩ = some (.int .i64 a2) := (blk_cell HO10.out.plan 2).trans rfl; have hp3 : w21.cell? ⟨gp, 3, none⟩ = some (.int .i64 a3) := (blk_cell HO10.out.plan 3).trans rfl; obtain ⟨A9, c9, hgo, hro⟩ := HO10.out.out; have hv : w21.cell? ⟨go, 0, none⟩ = some (.slice A9 (ys).length c9) := (blk_cell hgo 0).trans rfl; have HGO := Aside0.mk hgo; have HRO := Aside0.mk hro; clear hgo hro))
    refine bodyPost_ret (results_list (rs := [.tmp 2, .tmp 3]) rfl (by simp) (.tmp (.tmp .nil))) rfl ?_
    rw [hys]
    exact ⟨_, rfl, HRO.out, HO10.out.bel⟩
theorem steps_Of.mono : ∀ a0_0 a0_1 a0_2 a0_3 k, LeO (steps_Of.f k a0_0 a0_1 a0_2 a0_3) (steps_Of.f (k + 1) a0_0 a0_1 a0_2 a0_3) := fun a0_0 a0_1 a0_2 a0_3 k => by
 unfold steps_Of.f
 refine LeO.bind (steps_Valid.mono _ _ _ _ _) (fun _ => ?_)
 exact LeO.refl _
end Go.Proofs.YtalhpnfapagamaaDoor.S
