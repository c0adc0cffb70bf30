-- Written by this session's own programs; what the law does not lean on is left out. Lean checks it.
import Derived.Test.YtalhpnfapagamaaTSx12
import Derived.Test.YtalhpnfapagamaaTSx15
import Derived.Test.YtalhpnfapagamaaTN
import Derived.Test.YtalhpnfapagamaaTSx17
namespace Go.Proofs.Ytalhpnfapagamaa.S
open Go.RowKit Go.Proofs.YtalhpnfapagamaaW.PrintWords Go.Proofs.YtalhpnfapagamaaW.PrintLast Go.Proofs.YtalhpnfapagamaaW.PrintMore
set_option linter.unusedVariables false
set_option linter.unusedSimpArgs false
def culetlaw49_StepsMissing.T9 : Bool × List (List Nat × List Nat) := (true, [([], []), ([0], [0]), ([], []), ([], []), ([], []), ([3, 4], [3, 4]), ([2, 5, 1], [2, 5]), ([], []), ([], []), ([8], [8]), ([7, 9], [7, 9]), ([6, 10, 6], [6, 10]), ([1, 11, 11], [1, 11]), ([12], [12]), ([13], [13]), ([13], [13]), ([14, 12, 0, 1, 2, 3, 4, 5, 6, 7, 8, 9, 10, 11, 12, 13, 14], [14]), ([15, 16, 0, 1, 2, 3, 4, 5, 6, 7, 8, 9, 10, 11, 12, 13, 14, 15, 16], [15])])
def culetlaw49_StepsMissing.B9 : List Nat := [0, 1, 0, 0, 0, 24, 63, 0, 0, 256, 896, 2047, 4095, 8191, 16383, 16383, 32767, 131071]
theorem culetlaw49_StepsMissing.tab9 : rtab .any (opsOf Try.f8 9) = culetlaw49_StepsMissing.T9 := by kernel_rfl
theorem culetlaw49_StepsMissing.bits9 : waitsOk culetlaw49_StepsMissing.T9.2 culetlaw49_StepsMissing.B9 = true := by kernel_rfl
/-- The steps' list, a row that is made of it, apart from it, and the plan's box. -/
structure Mz (w0 W : World) (gp : Nat) (cs : Array Value) (v5 : Value) (L : List S62) (v : Value) (xs : List S62) : Prop where
 lst : Kd.R k62 62 W w0.heap.size (fun b => some b ≠ v.ownBlock) v5 L
 row : Kd.R k62 62 W w0.heap.size (fun b => some b ≠ v5.ownBlock) v xs
 bel : Below w0.heap.size w0 W
 pl : W.heap[gp]? = some (.cells cs 50 (0, 0))
theorem Mz.below {w0 W W1 : World} {gp : Nat} {cs : Array Value} {v5 v : Value} {L xs : List S62} (h : Mz w0 W gp cs v5 L v xs) (hb : Below W.heap.size W W1) : Mz w0 W1 gp cs v5 L v xs := ⟨Kd.R_below h.lst hb, Kd.R_below h.row hb, h.bel.trans (hb.mono h.bel.size), (hb.block _ (blk_lt_ h.pl)).trans h.pl⟩
theorem Mz.grow {w0 W w1 : World} {gp : Nat} {cs : Array Value} {v5 v v1 : Value} {L xs zs : List S62} (h : Mz w0 W gp cs v5 L v xs) (ho : Kd.R k62 62 w1 w0.heap.size (fun b => some b ≠ v5.ownBlock) v1 zs) (hb : Below w0.heap.size w0 w1) (hg : W.grownBy w1 v.ownBlock) (hat : v1.ownBlock = v.ownBlock ∨ ∃ b, v1.ownBlock = some b ∧ W.heap.size ≤ b) : Mz w0 w1 gp cs v5 L v1 zs :=
 ⟨Kd.R_mono (Kd.R_after (ok := fun _ => True) (Kd.R_mono h.lst (fun _ hk => ⟨trivial, hk⟩)) hg hat) (fun _ hk => hk.2), ho, hb, blk_grown h.pl hg (Kd.R_ne h.row h.pl (by decide))⟩
def culetlaw49_StepsMissing.t (k : Nat) (o1 : List S92) (o2 : List S93) (o3 o4 : Int) (L : List S62) (i : Int) : Option Bool :=
 if 0 ≤ i then (if i < (L.length : Int) then (if (rd_T62 L i).f0 = 3 then ((steps_Check.f k o1 o2 o3 o4 (L.take i.toNat ++ L.drop (i.toNat + 1))).bind fun c => some (c.2 == 8 || c.2 == 9)) else some true) else none) else none
def culetlaw49_StepsMissing.s (k : Nat) (o1 : List S92) (o2 : List S93) (o3 o4 : Int) (a1 : Int) (L : List S62) (r2 : Int) : Option Bool :=
 if r2 = 0 then (if L.length = 0 then some false else (if L.length ≤ 1000000 then culetlaw49_StepsMissing.t k o1 o2 o3 o4 L (Int.tmod (wrap64 a1) (L.length : Int)) else none)) else some true
def culetlaw49_StepsMissing.f (k : Nat) (l0 : List S94) (l1 : List S68) (a2 a3 : Int) (a1 : Int) : Option Bool :=
 (culetlaw49_awake.f k).bind fun t => if t = true then ((culetref49_Few.f k l0 l1 a2 a3).bind fun q => if q = true then ((culetlaw49_Own.f k l0 l1 a2 a3).bind fun o => (steps_Of.f k o.1 o.2.1 o.2.2.1 o.2.2.2).bind fun b => culetlaw49_StepsMissing.s k o.1 o.2.1 o.2.2.1 o.2.2.2 a1 b.1 b.2) else some true) else none
set_option maxHeartbeats 8000000 in
set_option maxRecDepth 100000 in
theorem culetlaw49_StepsMissing.calls (k : Nat) (A0 : Option Addr) (c0 : Nat) (l0 : List S94) (A1 : Option Addr) (c1 : Nat) (l1 : List S68) (a2 a3 : Int) (a1 : Int) (r : Bool) (w : World) (hr0 : Kd.C k94 w A0 l0.length l0) (hc0 : l0.length ≤ c0) (hr1 : Kd.C k68 w A1 l1.length l1) (hc1 : l1.length ≤ c1) (h : culetlaw49_StepsMissing.f k l0 l1 a2 a3 a1 = some r) :
  Calls Try.prog 8 #[.agg #[.slice A0 l0.length c0, .slice A1 l1.length c1, .int .i64 a2, .int .i64 a3], .int .u16 a1] w fun e w' => e = .returned (.bool r) ∧ Below w.heap.size w w' := by
 have hu50 := Try.underlying50
 have hu62 := Try.underlying62
 have hu53 := Try.underlying53
 have HR0 := Aside0.mk hr0
 have HC0 := Aside0.mk hc0
 have HR1 := Aside0.mk hr1
 have HC1 := Aside0.mk hc1
 clear hr0 hc0 hr1 hc1
 unfold culetlaw49_StepsMissing.f at h
 obtain ⟨t, ht, h⟩ := Option.bind_eq_some_iff.mp h
 cases t with
 | false => rw [if_neg (by simp)] at h; cases h
 | true =>
  rw [if_pos rfl] at h
  have HA := Aside0.mk ht
  clear ht
  obtain ⟨q, hq, h⟩ := Option.bind_eq_some_iff.mp h
  have HF := Aside0.mk hq
  clear hq
  cases q with
  | false =>
   rw [if_neg (by simp)] at h
   obtain rfl := Option.some.inj h
   clear h
   go_enter Try.func8, Try.ntmps8
   go_wp2_with (first | ((with_reducible refine gate_dst (N := 2) rfl ?_); refine box_event ?hg (N := 2) ?hd (cs := #[.slice A0 l0.length c0, .slice A1 l1.length c1, .int .i64 a2, .int .i64 a3]) (t := 50) ?hr ?_; (case hd => rfl); (case hg => rfl); (case hr => first | (go_simp; done) | (go_simp; rfl)); intro gp hg w6 hbox hb; have BP1 := Aside0.mk hbox; have HB1 : Aside0 (Below w.heap.size w w6) := ⟨hb⟩; clear hb hbox hg; have hp0 : w6.cell? ⟨gp, 0, none⟩ = some (.slice A0 l0.length c0) := (blk_cell BP1.out 0).trans rfl; have hp1 : w6.cell? ⟨gp, 1, none⟩ = some (.slice A1 l1.length c1) := (blk_cell BP1.out 1).trans rfl; have hp2 : w6.cell? ⟨gp, 2, none⟩ = some (.int .i64 a2) := (blk_cell BP1.out 2).trans rfl; have hp3 : w6.cell? ⟨gp, 3, none⟩ = some (.int .i64 a3) := (blk_cell BP1.out 3).trans rfl) | (go_at_call 25; (with_reducible refine (culetlaw49_awake.calls k true _ HA.out).mono ?_); rintro e w7 ⟨rfl, hb⟩; have HB2 : Aside0 (Below w.heap.size w w7) := ⟨below_step HB1.out hb⟩; have BP2 : Aside0 (w7.heap[gp]? = some (.cells #[.slice A0 l0.length c0, .slice A1 l1.length c1, .int .i64 a2, .int .i64 a3] 50 (0, 0))) := ⟨blk_below BP1.out hb⟩; clear hb hp0 hp1 hp2 hp3; have hp0 : w7.cell? ⟨gp, 0, none⟩ = some (.slice A0 l0.length c0) := (blk_cell BP2.out 0).trans rfl; have hp1 : w7.cell? ⟨gp, 1, none⟩ = some (.slice A1 l1.length c1) := (blk_cell BP2.out 1).trans rfl; have hp2 : w7.cell? ⟨gp, 2, none⟩ = some (.int .i64 a2) := (blk_cell BP2.out 2).trans rfl; have hp3 : w7.cell? ⟨gp, 3, none⟩ = some (.int .i64 a3) := (blk_cell BP2.out 3).trans rfl) | (go_at_call 26; (with_reducible refine (culetref49_Few.calls k A0 c0 l0 A1 c1 l1 a2 a3 false _ (Kd.C_below HR0.out HB2.out) HC0.out (Kd.C_below HR1.out HB2.out) HC1.out HF.out).mono ?_); rintro e w8 ⟨rfl, hb⟩; have HB3 : Aside0 (Below w.heap.size w w8) := ⟨below_step HB2.out hb⟩; have BP3 : Aside0 (w8.heap[gp]? = some (.cells #[.slice A0 l0.length c0, .slice A1 l1.length c1, .int .i64 a2, .int .i64 a3] 50 (0, 0))) := ⟨blk_below BP2.out hb⟩; clear hb hp0 hp1 hp2 hp3; have hp0 : w8.cell? ⟨gp, 0, none⟩ = some (.slice A0 l0.length c0) := (blk_cell BP3.out 0).trans rfl; have hp1 : w8.cell? ⟨gp, 1, none⟩ = some (.slice A1 l1.length c1) := (blk_cell BP3.out 1).trans rfl; have hp2 : w8.cell? ⟨gp, 2, none⟩ = some (.int .i64 a2) := (blk_cell BP3.out 2).trans rfl; have hp3 : w8.cell? ⟨gp, 3, none⟩ = some (.int .i64 a3) := (blk_cell BP3.out 3).trans rfl) | (go_at_call 25; (with_reducible refine (culetlaw49_awake.calls k true _ HA.out).mono ?_); rintro e w9 ⟨rfl, hb⟩; have HB4 : Aside0 (Below w.heap.size w w9) := ⟨below_step HB3.out hb⟩; have BP4 : Aside0 (w9.heap[gp]? = some (.cells #[.slice A0 l0.length c0, .slice A1 l1.length c1, .int .i64 a2, .int .i64 a3] 50 (0, 0))) := ⟨blk_below BP3.out hb⟩; clear hb hp0 hp1 hp2 hp3; have hp0 : w9.cell? ⟨gp, 0, none⟩ = some (.slice A0 l0.length c0) := (blk_cell BP4.out 0).trans rfl; have hp1 : w9.cell? ⟨gp, 1, none⟩ = some (.slice A1 l1.length c1) := (blk_cell BP4.out 1).trans rfl; have hp2 : w9.cell? ⟨gp, 2, none⟩ = some (.int .i64 a2) := (blk_cell BP4.out 2).trans rfl; have hp3 : w9.cell? ⟨gp, 3, none⟩ = some (.int .i64 a3) := (blk_cell BP4.out 3).trans rfl))
   go_ret
   exact ⟨rfl, HB4.out⟩
  | true =>
   rw [if_pos rfl] at h
   obtain ⟨⟨o1, o2, o3, o4⟩, ho, h⟩ := Option.bind_eq_some_iff.mp h
   have HO := Aside0.mk ho
   clear ho
   obtain ⟨⟨L, r2⟩, hs, h⟩ := Option.bind_eq_some_iff.mp h
   dsimp only at hs h
   have HS := Aside0.mk hs
   clear hs
   unfold culetlaw49_StepsMissing.s at h
   by_cases e0 : r2 = 0
   ·
    rw [if_pos e0] at h
    subst e0
    by_cases el : L.length = 0
    ·
     rw [if_pos el] at h
     obtain rfl := Option.some.inj h
     have q1 : ((L.length : Int) == 0) = true := by rw [el]; rfl
     have q2 : (L.length == 0) = true := by rw [el]; rfl
     clear h el
     go_enter Try.func8, Try.ntmps8
     go_wp2_with (first | ((with_reducible refine gate_dst (N := 2) rfl ?_); refine box_event ?hg (N := 2) ?hd (cs := #[.slice A0 l0.length c0, .slice A1 l1.length c1, .int .i64 a2, .int .i64 a3]) (t := 50) ?hr ?_; (case hd => rfl); (case hg => rfl); (case hr => first | (go_simp; done) | (go_simp; rfl)); intro gp hg w6 hbox hb; have BP1 := Aside0.mk hbox; have HB1 : Aside0 (Below w.heap.size w w6) := ⟨hb⟩; clear hb hbox hg; have hp0 : w6.cell? ⟨gp, 0, none⟩ = some (.slice A0 l0.length c0) := (blk_cell BP1.out 0).trans rfl; have hp1 : w6.cell? ⟨gp, 1, none⟩ = some (.slice A1 l1.length c1) := (blk_cell BP1.out 1).trans rfl; have hp2 : w6.cell? ⟨gp, 2, none⟩ = some (.int .i64 a2) := (blk_cell BP1.out 2).trans rfl; have hp3 : w6.cell? ⟨gp, 3, none⟩ = some (.int .i64 a3) := (blk_cell BP1.out 3).trans rfl) | (go_at_call 25; (with_reducible refine (culetlaw49_awake.calls k true _ HA.out).mono ?_); rintro e w7 ⟨rfl, hb⟩; have HB2 : Aside0 (Below w.heap.size w w7) := ⟨below_step HB1.out hb⟩; have BP2 : Aside0 (w7.heap[gp]? = some (.cells #[.slice A0 l0.length c0, .slice A1 l1.length c1, .int .i64 a2, .int .i64 a3] 50 (0, 0))) := ⟨blk_below BP1.out hb⟩; clear hb hp0 hp1 hp2 hp3; have hp0 : w7.cell? ⟨gp, 0, none⟩ = some (.slice A0 l0.length c0) := (blk_cell BP2.out 0).trans rfl; have hp1 : w7.cell? ⟨gp, 1, none⟩ = some (.slice A1 l1.length c1) := (blk_cell BP2.out 1).trans rfl; have hp2 : w7.cell? ⟨gp, 2, none⟩ = some (.int .i64 a2) := (blk_cell BP2.out 2).trans rfl; have hp3 : w7.cell? ⟨gp, 3, none⟩ = some (.int .i64 a3) := (blk_cell BP2.out 3).trans rfl) | (go_at_call 26; (with_reducible refine (culetref49_Few.calls k A0 c0 l0 A1 c1 l1 a2 a3 true _ (Kd.C_below HR0.out HB2.out) HC0.out (Kd.C_below HR1.out HB2.out) HC1.out HF.out).mono ?_); rintro e w8 ⟨rfl, hb⟩; have HB3 : Aside0 (Below w.heap.size w w8) := ⟨below_step HB2.out hb⟩; have BP3 : Aside0 (w8.heap[gp]? = some (.cells #[.slice A0 l0.length c0, .slice A1 l1.length c1, .int .i64 a2, .int .i64 a3] 50 (0, 0))) := ⟨blk_below BP2.out hb⟩; clear hb hp0 hp1 hp2 hp3; have hp0 : w8.cell? ⟨gp, 0, none⟩ = some (.slice A0 l0.length c0) := (blk_cell BP3.out 0).trans rfl; have hp1 : w8.cell? ⟨gp, 1, none⟩ = some (.slice A1 l1.length c1) := (blk_cell BP3.out 1).trans rfl; have hp2 : w8.cell? ⟨gp, 2, none⟩ = some (.int .i64 a2) := (blk_cell BP3.out 2).trans rfl; have hp3 : w8.cell? ⟨gp, 3, none⟩ = some (.int .i64 a3) := (blk_cell BP3.out 3).trans rfl) | (go_at_call 28; (with_reducible refine (culetlaw49_Own.calls k A0 c0 l0 A1 c1 l1 a2 a3 o1 o2 o3 o4 _ (Kd.C_below HR0.out HB3.out) HC0.out (Kd.C_below HR1.out HB3.out) HC1.out HO.out).mono ?_); rintro e w9 ⟨va, vb, rfl, ho0, ho1, hb⟩; have HB4 : Aside0 (Below w.heap.size w w9) := ⟨below_step HB3.out hb⟩; have BP4 : Aside0 (w9.heap[gp]? = some (.cells #[.slice A0 l0.length c0, .slice A1 l1.length c1, .int .i64 a2, .int .i64 a3] 50 (0, 0))) := ⟨blk_below BP3.out hb⟩; clear hb hp0 hp1 hp2 hp3; have hp0 : w9.cell? ⟨gp, 0, none⟩ = some (.slice A0 l0.length c0) := (blk_cell BP4.out 0).trans rfl; have hp1 : w9.cell? ⟨gp, 1, none⟩ = some (.slice A1 l1.length c1) := (blk_cell BP4.out 1).trans rfl; have hp2 : w9.cell? ⟨gp, 2, none⟩ = some (.int .i64 a2) := (blk_cell BP4.out 2).trans rfl; have hp3 : w9.cell? ⟨gp, 3, none⟩ = some (.int .i64 a3) := (blk_cell BP4.out 3).trans rfl; obtain ⟨Aa, ca, rfl⟩ := Kd.R_slice ho0; obtain ⟨Ab, cb, rfl⟩ := Kd.R_slice ho1; have HOa := Aside0.mk ho0; have HOb := Aside0.mk ho1; clear ho0 ho1) | (go_at_call 27; (with_reducible refine (steps_Of.calls k Aa ca o1 Ab cb o2 o3 o4 L _ _ (Kd.R_reads' HOa.out).2.2 (Kd.R_reads' HOa.out).2.1 (Kd.R_reads' HOb.out).2.2 (Kd.R_reads' HOb.out).2.1 HS.out).mono ?_); rintro e w10 ⟨v5, rfl, ho, hb⟩; have HL : Aside0 (Kd.R k62 62 w10 w.heap.size (fun _ => True) v5 L) := ⟨Kd.R_lower ho HB4.out.size⟩; clear ho; have HB5 : Aside0 (Below w.heap.size w w10) := ⟨below_step HB4.out hb⟩; have BP5 : Aside0 (w10.heap[gp]? = some (.cells #[.slice A0 l0.length c0, .slice A1 l1.length c1, .int .i64 a2, .int .i64 a3] 50 (0, 0))) := ⟨blk_below BP4.out hb⟩; clear hb hp0 hp1 hp2 hp3; have hp0 : w10.cell? ⟨gp, 0, none⟩ = some (.slice A0 l0.length c0) := (blk_cell BP5.out 0).trans rfl; have hp1 : w10.cell? ⟨gp, 1, none⟩ = some (.slice A1 l1.length c1) := (blk_cell BP5.out 1).trans rfl; have hp2 : w10.cell? ⟨gp, 2, none⟩ = some (.int .i64 a2) := (blk_cell BP5.out 2).trans rfl; have hp3 : w10.cell? ⟨gp, 3, none⟩ = some (.int .i64 a3) := (blk_cell BP5.out 3).trans rfl; obtain ⟨A5, c5, rfl⟩ := Kd.R_slice HL.out))
     go_ret
     exact ⟨rfl, HB5.out⟩
    ·
     rw [if_neg el] at h
     by_cases e6 : L.length ≤ 1000000
     ·
      rw [if_pos e6] at h
      have HL6 := Aside0.mk e6
      have q1 : ((L.length : Int) == 0) = false := by rw [beq_eq_false_iff_ne]; omega
      have q2 : (L.length == 0) = false := by rw [beq_eq_false_iff_ne]; omega
      have q3 : ((L.length : Int) = 0) = False := eq_false (by omega)
      have q4 : (L.length = 0) = False := eq_false (by omega)
      have q5 : decide ((L.length : Int) = 0) = false := decide_eq_false (by omega)
      have HT := Aside0.mk h
      clear h el e6
      go_enter Try.func8, Try.ntmps8
      go_upto_region 7 with (first | ((with_reducible refine gate_dst (N := 2) rfl ?_); refine box_event ?hg (N := 2) ?hd (cs := #[.slice A0 l0.length c0, .slice A1 l1.length c1, .int .i64 a2, .int .i64 a3]) (t := 50) ?hr ?_; (case hd => rfl); (case hg => rfl); (case hr => first | (go_simp; done) | (go_simp; rfl)); intro gp hg w6 hbox hb; have BP1 := Aside0.mk hbox; have HB1 : Aside0 (Below w.heap.size w w6) := ⟨hb⟩; clear hb hbox hg; have hp0 : w6.cell? ⟨gp, 0, none⟩ = some (.slice A0 l0.length c0) := (blk_cell BP1.out 0).trans rfl; have hp1 : w6.cell? ⟨gp, 1, none⟩ = some (.slice A1 l1.length c1) := (blk_cell BP1.out 1).trans rfl; have hp2 : w6.cell? ⟨gp, 2, none⟩ = some (.int .i64 a2) := (blk_cell BP1.out 2).trans rfl; have hp3 : w6.cell? ⟨gp, 3, none⟩ = some (.int .i64 a3) := (blk_cell BP1.out 3).trans rfl) | (go_at_call 25; (with_reducible refine (culetlaw49_awake.calls k true _ HA.out).mono ?_); rintro e w7 ⟨rfl, hb⟩; have HB2 : Aside0 (Below w.heap.size w w7) := ⟨below_step HB1.out hb⟩; have BP2 : Aside0 (w7.heap[gp]? = some (.cells #[.slice A0 l0.length c0, .slice A1 l1.length c1, .int .i64 a2, .int .i64 a3] 50 (0, 0))) := ⟨blk_below BP1.out hb⟩; clear hb hp0 hp1 hp2 hp3; have hp0 : w7.cell? ⟨gp, 0, none⟩ = some (.slice A0 l0.length c0) := (blk_cell BP2.out 0).trans rfl; have hp1 : w7.cell? ⟨gp, 1, none⟩ = some (.slice A1 l1.length c1) := (blk_cell BP2.out 1).trans rfl; have hp2 : w7.cell? ⟨gp, 2, none⟩ = some (.int .i64 a2) := (blk_cell BP2.out 2).trans rfl; have hp3 : w7.cell? ⟨gp, 3, none⟩ = some (.int .i64 a3) := (blk_cell BP2.out 3).trans rfl) | (go_at_call 26; (with_reducible refine (culetref49_Few.calls k A0 c0 l0 A1 c1 l1 a2 a3 true _ (Kd.C_below HR0.out HB2.out) HC0.out (Kd.C_below HR1.out HB2.out) HC1.out HF.out).mono ?_); rintro e w8 ⟨rfl, hb⟩; have HB3 : Aside0 (Below w.heap.size w w8) := ⟨below_step HB2.out hb⟩; have BP3 : Aside0 (w8.heap[gp]? = some (.cells #[.slice A0 l0.length c0, .slice A1 l1.length c1, .int .i64 a2, .int .i64 a3] 50 (0, 0))) := ⟨blk_below BP2.out hb⟩; clear hb hp0 hp1 hp2 hp3; have hp0 : w8.cell? ⟨gp, 0, none⟩ = some (.slice A0 l0.length c0) := (blk_cell BP3.out 0).trans rfl; have hp1 : w8.cell? ⟨gp, 1, none⟩ = some (.slice A1 l1.length c1) := (blk_cell BP3.out 1).trans rfl; have hp2 : w8.cell? ⟨gp, 2, none⟩ = some (.int .i64 a2) := (blk_cell BP3.out 2).trans rfl; have hp3 : w8.cell? ⟨gp, 3, none⟩ = some (.int .i64 a3) := (blk_cell BP3.out 3).trans rfl) | (go_at_call 28; (with_reducible refine (culetlaw49_Own.calls k A0 c0 l0 A1 c1 l1 a2 a3 o1 o2 o3 o4 _ (Kd.C_below HR0.out HB3.out) HC0.out (Kd.C_below HR1.out HB3.out) HC1.out HO.out).mono ?_); rintro e w9 ⟨va, vb, rfl, ho0, ho1, hb⟩; have HB4 : Aside0 (Below w.heap.size w w9) := ⟨below_step HB3.out hb⟩; have BP4 : Aside0 (w9.heap[gp]? = some (.cells #[.slice A0 l0.length c0, .slice A1 l1.length c1, .int .i64 a2, .int .i64 a3] 50 (0, 0))) := ⟨blk_below BP3.out hb⟩; clear hb hp0 hp1 hp2 hp3; have hp0 : w9.cell? ⟨gp, 0, none⟩ = some (.slice A0 l0.length c0) := (blk_cell BP4.out 0).trans rfl; have hp1 : w9.cell? ⟨gp, 1, none⟩ = some (.slice A1 l1.length c1) := (blk_cell BP4.out 1).trans rfl; have hp2 : w9.cell? ⟨gp, 2, none⟩ = some (.int .i64 a2) := (blk_cell BP4.out 2).trans rfl; have hp3 : w9.cell? ⟨gp, 3, none⟩ = some (.int .i64 a3) := (blk_cell BP4.out 3).trans rfl; obtain ⟨Aa, ca, rfl⟩ := Kd.R_slice ho0; obtain ⟨Ab, cb, rfl⟩ := Kd.R_slice ho1; have HOa := Aside0.mk ho0; have HOb := Aside0.mk ho1; clear ho0 ho1) | (go_at_call 27; (with_reducible refine (steps_Of.calls k Aa ca o1 Ab cb o2 o3 o4 L _ _ (Kd.R_reads' HOa.out).2.2 (Kd.R_reads' HOa.out).2.1 (Kd.R_reads' HOb.out).2.2 (Kd.R_reads' HOb.out).2.1 HS.out).mono ?_); rintro e w10 ⟨v5, rfl, ho, hb⟩; have HL : Aside0 (Kd.R k62 62 w10 w.heap.size (fun _ => True) v5 L) := ⟨Kd.R_lower ho HB4.out.size⟩; clear ho; have HB5 : Aside0 (Below w.heap.size w w10) := ⟨below_step HB4.out hb⟩; have BP5 : Aside0 (w10.heap[gp]? = some (.cells #[.slice A0 l0.length c0, .slice A1 l1.length c1, .int .i64 a2, .int .i64 a3] 50 (0, 0))) := ⟨blk_below BP4.out hb⟩; clear hb hp0 hp1 hp2 hp3; have hp0 : w10.cell? ⟨gp, 0, none⟩ = some (.slice A0 l0.length c0) := (blk_cell BP5.out 0).trans rfl; have hp1 : w10.cell? ⟨gp, 1, none⟩ = some (.slice A1 l1.length c1) := (blk_cell BP5.out 1).trans rfl; have hp2 : w10.cell? ⟨gp, 2, none⟩ = some (.int .i64 a2) := (blk_cell BP5.out 2).trans rfl; have hp3 : w10.cell? ⟨gp, 3, none⟩ = some (.int .i64 a3) := (blk_cell BP5.out 3).trans rfl; obtain ⟨A5, c5, rfl⟩ := Kd.R_slice HL.out))
      (try simp only [Act.put, List.setIfInBounds_toArray, List.set_cons_zero, List.set_cons_succ])
      generalize hji : Int.tmod (wrap64 a1) (L.length : Int) = ji at *
      clear hji hp0 hp1 hp2 hp3 q1 q2 q3 q4 q5
      have h := HT.out
      clear HT HOa HOb BP1 BP2 BP3 BP4 HB1 HB2 HB3 HB4
      unfold culetlaw49_StepsMissing.t at h
      by_cases p0 : 0 ≤ ji
      ·
       rw [if_pos p0] at h
       by_cases p1 : ji < (L.length : Int)
       ·
        rw [if_pos p1] at h
        obtain ⟨ad, e1, hx0, hx1, hx2⟩ := at_T62 (Kd.R_reads' HL.out).2.2 ji p0 p1
        have P0 := Aside0.mk p0
        have P1 := Aside0.mk p1
        have p0t := eq_true p0
        have p1t := eq_true p1
        cases e1
        clear p0 p1
        by_cases k3 : (rd_T62 L ji).f0 = 3
        ·
         rw [if_pos k3] at h
         have q1 : ((rd_T62 L ji).f0 != 3) = false := bne_eq_false_iff_eq.mpr k3
         have HT := Aside0.mk h
         clear k3 h
         go_upto_region 9 with (fail)
         (try simp only [Act.put, List.setIfInBounds_toArray, List.set_cons_zero, List.set_cons_succ])
         obtain ⟨⟨x1, x2⟩, hck, hr_⟩ := Option.bind_eq_some_iff.mp HT.out
         obtain rfl := Option.some.inj hr_
         have HJ0 : Aside0 (ji.toNat ≤ L.length) := ⟨by have := P0.out; have := P1.out; omega⟩
         have HCK : Aside0 (steps_Check.f k o1 o2 o3 o4 (([] : List S62) ++ L.take ji.toNat ++ L.drop (ji.toNat + 1)) = some (x1, x2)) := ⟨by rw [List.nil_append]; exact hck⟩
         clear hr_ hck HT
         have hji1 : (ji + 1).toNat = ji.toNat + 1 := by have := P0.out; omega
         have hjw : wrap64 (ji + 1) = ji + 1 := by have := P0.out; have := P1.out; have := HL6.out; unfold wrap64; omega
         have hjw2 : IntKind.i64.wrap (ji + 1) = ji + 1 := (i64_w _).trans hjw
         have hroom := (Kd.R_reads' HL.out).2.1
         obtain ⟨i0, hi0, _, hsz0, _⟩ := info_parts info62
         have hct := cut_to (P := Try.prog) 53 62 .i64 Try.underlying53 hi0 (some ad) L.length c5 ji P0.out (by have := P1.out; omega) hroom
         have hcf := cut_from (P := Try.prog) 53 62 .i64 Try.underlying53 hi0 3 hsz0 (some ad) L.length c5 (ji + 1) (by have := P0.out; omega) (by have := P1.out; omega)
         have HJD : Aside0 (∀ W : World, Kd.C k62 W (some ad) L.length L → Kd.C k62 W (if c5 = (ji + 1).toNat then some ad else (some ad).map (·.add ((ji + 1).toNat * 3))) (L.drop (ji.toNat + 1)).length (L.drop (ji.toNat + 1))) := ⟨fun W hc => by rw [hji1]; exact Kd.C_drop (m := ji.toNat + 1) hc (by have := P0.out; have := P1.out; omega) hroom⟩
         obtain ⟨Af, hAf⟩ : ∃ A, (if c5 = (ji + 1).toNat then some ad else (some ad).map (·.add ((ji + 1).toNat * 3))) = A := ⟨_, rfl⟩
         obtain ⟨cf, hcf_⟩ : ∃ c, c5 - (ji + 1).toNat = c := ⟨_, rfl⟩
         obtain ⟨nf, hnf⟩ : ∃ n, L.length - (ji + 1).toNat = n := ⟨_, rfl⟩
         have HNF : Aside0 ((L.drop (ji.toNat + 1)).length = nf) := ⟨by rw [List.length_drop, ← hnf, hji1]⟩
         have HJT : Aside0 ((L.take ji.toNat).length = ji.toNat) := ⟨by rw [List.length_take]; have := HJ0.out; omega⟩
         rw [hAf, HNF.out] at HJD
         rw [hAf, hcf_, hnf] at hcf
         clear hnf
         have HLa : Aside0 ((([] : List S62).length + ji.toNat) * 24 ≤ 140737488355328) := ⟨by rw [List.length_nil]; have := HL6.out; have := HJ0.out; omega⟩
         have HLb : Aside0 ((([] ++ L.take ji.toNat : List S62).length + nf) * 24 ≤ 140737488355328) := ⟨by rw [← HNF.out, List.nil_append, List.length_take, List.length_drop]; have := HL6.out; omega⟩
         have M0 : Aside0 (Mz w w10.drew gp #[.slice A0 l0.length c0, .slice A1 l1.length c1, .int .i64 a2, .int .i64 a3] (.slice (some ad) L.length c5 : Value) L (.slice none 0 0) []) := ⟨⟨Kd.R_mono (Kd.R_drew HL.out) (fun _ _ => by simp [Value.ownBlock]), Kd.R_nil _ _ _ _ _, below_drew1 HB5.out, blk_drew BP5.out⟩⟩
         clear hAf hcf_ hji1 hjw hroom hi0 hsz0 hx0 hx1 hx2 q1
         refine start_ (n := 18) (S := (fun w' : World => w'.cell? ⟨gp, 0, none⟩ = some (.slice A0 l0.length c0) ∧ w'.cell? ⟨gp, 1, none⟩ = some (.slice A1 l1.length c1) ∧ w'.cell? ⟨gp, 2, none⟩ = some (.int .i64 a2) ∧ w'.cell? ⟨gp, 3, none⟩ = some (.int .i64 a3))) (ds := []) #[false, false, false, false, false, false, false, false, false, false, false, false, false, false, false, false, false, false] (by kernel_rfl) rfl rfl ⟨(blk_cell M0.out.pl 0).trans rfl, (blk_cell M0.out.pl 1).trans rfl, (blk_cell M0.out.pl 2).trans rfl, (blk_cell M0.out.pl 3).trans rfl⟩ (fun hHeld => ?_); refine with_tabW culetlaw49_StepsMissing.tab9 culetlaw49_StepsMissing.bits9 (fun HT_ HW_ => ?_)
         generalize w10.drew = w11 at M0 hHeld ⊢
         clear HL HB5 BP5
         refine pure_ (i := 3) (N := some 48) (v := ?_) (a' := ?_) #[false, false, false, true, false, false, false, false, false, false, false, false, false, false, false, false, false, false] rfl rfl (any_of HT_.out (by kernel_rfl)) (fun _ _ _ h => h) (Or.inl ⟨by rfl, ?_⟩) ?_ ?_
         rotate_left
         ·
          intro w'
          go_simp
          with_reducible rfl
         rotate_left
         ·
          simp only [Act.put, List.setIfInBounds_toArray, List.set_cons_zero, List.set_cons_succ, i64_w, i32_w]
          rfl
         refine pure_ (i := 4) (N := some 49) (v := ?_) (a' := ?_) #[false, false, false, true, true, false, false, false, false, false, false, false, false, false, false, false, false, false] rfl rfl (any_of HT_.out (by kernel_rfl)) (fun _ _ _ h => h) (Or.inl ⟨by rfl, ?_⟩) ?_ ?_
         rotate_left
         ·
          intro w'
          go_simp
          with_reducible rfl
         rotate_left
         ·
          simp only [Act.put, List.setIfInBounds_toArray, List.set_cons_zero, List.set_cons_succ, i64_w, i32_w]
          rfl
         refine pure_ (i := 5) (N := some 50) (v := ?_) (a' := ?_) #[false, false, false, true, true, true, false, false, false, false, false, false, false, false, false, false, false, false] rfl rfl (any_of HT_.out (by kernel_rfl)) (fun _ _ _ h => h) (Or.inl ⟨by rfl, ?_⟩) ?_ ?_
         rotate_left
         ·
          intro w'
          go_simp
          with_reducible rfl
         rotate_left
         ·
          simp only [Act.put, List.setIfInBounds_toArray, List.set_cons_zero, List.set_cons_succ, i64_w, i32_w]
          rfl
         refine pure_ (i := 7) (N := some 52) (v := ?_) (a' := ?_) #[false, false, false, true, true, true, false, true, false, false, false, false, false, false, false, false, false, false] rfl rfl (any_of HT_.out (by kernel_rfl)) (fun _ _ _ h => h) (Or.inl ⟨by rfl, ?_⟩) ?_ ?_
         rotate_left
         ·
          intro w'
          go_simp
          with_reducible rfl
         rotate_left
         ·
          simp only [Act.put, List.setIfInBounds_toArray, List.set_cons_zero, List.set_cons_succ, i64_w, i32_w]
          rfl
         refine pure_ (i := 8) (N := some 53) (v := ?_) (a' := ?_) #[false, false, false, true, true, true, false, true, true, false, false, false, false, false, false, false, false, false] rfl rfl (any_of HT_.out (by kernel_rfl)) (fun _ _ _ h => h) (Or.inl ⟨by rfl, ?_⟩) ?_ ?_
         rotate_left
         ·
          intro w'
          go_simp
          with_reducible rfl
         rotate_left
         ·
          simp only [Act.put, List.setIfInBounds_toArray, List.set_cons_zero, List.set_cons_succ, i64_w, i32_w]
          rfl
         refine pure_ (i := 9) (N := some 54) (v := ?_) (a' := ?_) #[false, false, false, true, true, true, false, true, true, true, false, false, false, false, false, false, false, false] rfl rfl (any_of HT_.out (by kernel_rfl)) (fun _ _ _ h => h) (Or.inl ⟨by rfl, ?_⟩) ?_ ?_
         rotate_left
         ·
          intro w'
          go_simp
          with_reducible rfl
         rotate_left
         ·
          simp only [Act.put, List.setIfInBounds_toArray, List.set_cons_zero, List.set_cons_succ, i64_w, i32_w]
          rfl
         refine pure_ (i := 10) (N := some 55) (v := ?_) (a' := ?_) #[false, false, false, true, true, true, false, true, true, true, true, false, false, false, false, false, false, false] rfl rfl (any_of HT_.out (by kernel_rfl)) (fun _ _ _ h => h) (Or.inl ⟨by rfl, ?_⟩) ?_ ?_
         rotate_left
         ·
          intro w'
          go_simp
          with_reducible rfl
         rotate_left
         ·
          simp only [Act.put, List.setIfInBounds_toArray, List.set_cons_zero, List.set_cons_succ, i64_w, i32_w]
          rfl
         refine take_ (i := 0) (N := some 45) (v := ?_) (a' := ?_) #[true, false, false, true, true, true, false, true, true, true, true, false, false, false, false, false, false, false] rfl rfl (take_ofW HT_.out HW_.out (by kernel_rfl)) (fun _ _ _ h => h) (Or.inl ⟨by rfl, ?_⟩) hHeld ?_ ?_
         rotate_left
         ·
          rintro w' ⟨s0, s1, s2, s3⟩
          go_simp
          with_reducible rfl
         rotate_left
         ·
          simp only [Act.put, List.setIfInBounds_toArray, List.set_cons_zero, List.set_cons_succ, i64_w, i32_w]
          rfl
         clear hHeld
         refine two_ (i := 1) (j := 2) (Ni := some 46) (Nj := some 47) #[true, true, false, true, true, true, false, true, true, true, true, false, false, false, false, false, false, false] #[true, false, true, true, true, true, false, true, true, true, true, false, false, false, false, false, false, false] rfl rfl rfl rfl (two_of HT_.out (by kernel_rfl)) (by decide) (by decide) (fun K hK => ?_) (fun K hK => ?_)
         ·
          refine goes_ Try.func28 (by kernel_rfl) rfl #[.agg #[.slice A0 l0.length c0, .slice A1 l1.length c1, .int .i64 a2, .int .i64 a3]] (by rfl) rfl rfl (by (try simp only [List.map_toArray, List.map_cons, List.map_nil]); first | done | rfl) ?_
          with_reducible refine (culetlaw49_Own.calls k _ c0 l0 _ c1 l1 a2 a3 o1 o2 o3 o4 _ (Kd.C_below HR0.out M0.out.bel) HC0.out (Kd.C_below HR1.out M0.out.bel) HC1.out HO.out).mono ?_
          rintro e w12 ⟨va, vb, rfl, ho0, ho1, hb⟩
          refine ⟨_, rfl, ?_⟩
          obtain ⟨Aa, ca, rfl⟩ := Kd.R_slice ho0
          obtain ⟨Ab, cb, rfl⟩ := Kd.R_slice ho1
          have M1 := Aside0.mk (M0.out.below hb)
          have HOa := Aside0.mk (Kd.R_lower ho0 M0.out.bel.size)
          have HOb := Aside0.mk (Kd.R_lower ho1 M0.out.bel.size)
          clear ho0 ho1 hb
          refine hK.out _ _ ⟨(blk_cell M1.out.pl 0).trans rfl, (blk_cell M1.out.pl 1).trans rfl, (blk_cell M1.out.pl 2).trans rfl, (blk_cell M1.out.pl 3).trans rfl⟩ (fun _ => ?_)
          clear hK K
          refine norm_ (a' := ?_) ?_ ?_
          rotate_left
          ·
           show Act.put _ (some 46) _ = _
           simp only [Act.put, List.setIfInBounds_toArray, List.set_cons_zero, List.set_cons_succ, i64_w, i32_w]
           rfl
          refine one_ (i := 2) (N := some 47) #[true, true, true, true, true, true, false, true, true, true, true, false, false, false, false, false, false, false] rfl rfl (one_of HT_.out (by kernel_rfl)) (by decide) (fun K hK => ?_)
          refine Kd.R_lit_step k62 (w0 := w) w.heap.size 62 (by rfl) (N := 47) rfl (xs := ([] : List S62)) (inner := []) (ok := fun b => some b ≠ (.slice (some ad) L.length c5 : Value).ownBlock) (okp := fun _ => False) (by first | (go_simp; done) | (go_simp; rfl)) (Reps.none _ _) (fun _ h => h.elim) (Kd.fresh' (Kd.R_lt M1.out.lst) _ (Nat.le_refl _)) M1.out.bel M1.out.bel.size (by simp) ?_
          intro v47 w13 ho hb hg hn
          have M2 := Aside0.mk (Mz.grow M1.out ho hb hg (.inr hn))
          have n0 := Aside0.mk (Kd.R_over' HOa.out (Kd.R_typed M1.out.row) (by decide) hg)
          have n1 := Aside0.mk (Kd.R_over' HOb.out (Kd.R_typed M1.out.row) (by decide) hg)
          clear HOa HOb
          have HOa := n0
          have HOb := n1
          clear n0 n1
          clear ho hb hg hn
          refine hK.out _ _ ⟨(blk_cell M2.out.pl 0).trans rfl, (blk_cell M2.out.pl 1).trans rfl, (blk_cell M2.out.pl 2).trans rfl, (blk_cell M2.out.pl 3).trans rfl⟩ (fun _ => ?_)
          clear hK K
          refine norm_ (a' := ?_) ?_ ?_
          rotate_left
          ·
           show Act.put _ (some 47) _ = _
           simp only [Act.put, List.setIfInBounds_toArray, List.set_cons_zero, List.set_cons_succ, i64_w, i32_w]
           rfl
          refine one_ (i := 6) (N := some 51) #[true, true, true, true, true, true, true, true, true, true, true, false, false, false, false, false, false, false] rfl rfl (one_of HT_.out (by kernel_rfl)) (by decide) (fun K hK => ?_)
          refine Kd.R_append_rows_step k62 (Rr := k62.K _) (w0 := w) w.heap.size (by rfl) (.tmp 47) (.tmp 50) 53 62 (.agg #[.int .i64 0, .int .i64 0, .int .i64 0]) 24 rfl Try.underlying53 info62 rfl (by decide) (by omega) v47 ([] : List S62) (L.take ji.toNat) (some ad) ji.toNat c5 (fun b => some b ≠ (.slice (some ad) L.length c5 : Value).ownBlock) (fun _ => False) rfl rfl M2.out.row (by have hx := Kd.C_take (m := ji.toNat) (Kd.R_reads' M2.out.lst).2.2 HJ0.out; rw [HJT.out] at hx; exact hx) (fun _ cs h => by rw [k62_open h]; exact k62_mkM _ _ _ _) (fun _ h => h.elim) (Kd.fresh' (Kd.R_lt M2.out.lst)) M2.out.bel M2.out.bel.size HLa.out ?_
          intro v51 w14 ho hb hg hat
          have M3 := Aside0.mk (M2.out.grow ho hb hg hat)
          have n0 := Aside0.mk (Kd.R_over' HOa.out (Kd.R_typed M2.out.row) (by decide) hg)
          have n1 := Aside0.mk (Kd.R_over' HOb.out (Kd.R_typed M2.out.row) (by decide) hg)
          clear HOa HOb
          have HOa := n0
          have HOb := n1
          clear n0 n1
          clear ho hb hg hat
          refine hK.out _ _ ⟨(blk_cell M3.out.pl 0).trans rfl, (blk_cell M3.out.pl 1).trans rfl, (blk_cell M3.out.pl 2).trans rfl, (blk_cell M3.out.pl 3).trans rfl⟩ (fun _ => ?_)
          clear hK K
          refine norm_ (a' := ?_) ?_ ?_
          rotate_left
          ·
           show Act.put _ (some 51) _ = _
           simp only [Act.put, List.setIfInBounds_toArray, List.set_cons_zero, List.set_cons_succ, i64_w, i32_w]
           rfl
          refine one_ (i := 11) (N := some 56) #[true, true, true, true, true, true, true, true, true, true, true, true, false, false, false, false, false, false] rfl rfl (one_of HT_.out (by kernel_rfl)) (by decide) (fun K hK => ?_)
          refine Kd.R_append_rows_step k62 (Rr := k62.K _) (w0 := w) w.heap.size (by rfl) (.tmp 51) (.tmp 55) 53 62 (.agg #[.int .i64 0, .int .i64 0, .int .i64 0]) 24 rfl Try.underlying53 info62 rfl (by decide) (by omega) v51 (([] : List S62) ++ (L.take ji.toNat)) (L.drop (ji.toNat + 1)) Af nf cf (fun b => some b ≠ (.slice (some ad) L.length c5 : Value).ownBlock) (fun _ => False) rfl rfl M3.out.row ((HJD.out _ (Kd.R_reads' M3.out.lst).2.2)) (fun _ cs h => by rw [k62_open h]; exact k62_mkM _ _ _ _) (fun _ h => h.elim) (Kd.fresh' (Kd.R_lt M3.out.lst)) M3.out.bel M3.out.bel.size HLb.out ?_
          intro v56 w15 ho hb hg hat
          have M4 := Aside0.mk (M3.out.grow ho hb hg hat)
          have n0 := Aside0.mk (Kd.R_over' HOa.out (Kd.R_typed M3.out.row) (by decide) hg)
          have n1 := Aside0.mk (Kd.R_over' HOb.out (Kd.R_typed M3.out.row) (by decide) hg)
          clear HOa HOb
          have HOa := n0
          have HOb := n1
          clear n0 n1
          clear ho hb hg hat
          refine hK.out _ _ ⟨(blk_cell M4.out.pl 0).trans rfl, (blk_cell M4.out.pl 1).trans rfl, (blk_cell M4.out.pl 2).trans rfl, (blk_cell M4.out.pl 3).trans rfl⟩ (fun _ => ?_)
          clear hK K
          refine norm_ (a' := ?_) ?_ ?_
          rotate_left
          ·
           show Act.put _ (some 56) _ = _
           simp only [Act.put, List.setIfInBounds_toArray, List.set_cons_zero, List.set_cons_succ, i64_w, i32_w]
           rfl
          obtain ⟨A6, c6, rfl⟩ := Kd.R_slice M4.out.row
          refine one_ (i := 12) (N := some 57) #[true, true, true, true, true, true, true, true, true, true, true, true, true, false, false, false, false, false] rfl rfl (one_of HT_.out (by kernel_rfl)) (by decide) (fun K hK => ?_)
          refine goes_ Try.func29 (by kernel_rfl) rfl #[.agg #[.slice Aa o1.length ca, .slice Ab o2.length cb, .int .i64 o3, .int .i64 o4], .slice A6 (([] : List S62) ++ L.take ji.toNat ++ L.drop (ji.toNat + 1)).length c6] (by rfl) rfl rfl (by (try simp only [List.map_toArray, List.map_cons, List.map_nil]); first | done | rfl) ?_
          with_reducible refine (steps_Check.calls k _ _ o1 _ _ o2 o3 o4 _ _ (([] : List S62) ++ L.take ji.toNat ++ L.drop (ji.toNat + 1)) x1 x2 _ (Kd.R_reads' HOa.out).2.2 (Kd.R_reads' HOa.out).2.1 (Kd.R_reads' HOb.out).2.2 (Kd.R_reads' HOb.out).2.1 (Kd.R_reads' M4.out.row).2.2 (Kd.R_reads' M4.out.row).2.1 HCK.out).mono ?_
          rintro e w20 ⟨rfl, hb⟩
          refine ⟨_, rfl, ?_⟩
          have M9 := Aside0.mk (M4.out.below hb)
          clear hb
          refine hK.out _ _ ⟨(blk_cell M9.out.pl 0).trans rfl, (blk_cell M9.out.pl 1).trans rfl, (blk_cell M9.out.pl 2).trans rfl, (blk_cell M9.out.pl 3).trans rfl⟩ (fun _ => ?_)
          clear hK K
          refine norm_ (a' := ?_) ?_ ?_
          rotate_left
          ·
           show Act.put _ (some 57) _ = _
           simp only [Act.put, List.setIfInBounds_toArray, List.set_cons_zero, List.set_cons_succ, i64_w, i32_w]
           rfl
          refine pure_ (i := 13) (N := some 44) (v := ?_) (a' := ?_) #[true, true, true, true, true, true, true, true, true, true, true, true, true, true, false, false, false, false] rfl rfl (any_of HT_.out (by kernel_rfl)) (fun _ _ _ h => h) (Or.inl ⟨by rfl, ?_⟩) ?_ ?_
          rotate_left
          ·
           intro w'
           go_simp
           with_reducible rfl
          rotate_left
          ·
           simp only [Act.put, List.setIfInBounds_toArray, List.set_cons_zero, List.set_cons_succ, i64_w, i32_w]
           rfl
          refine pure_ (i := 14) (N := some 58) (v := ?_) (a' := ?_) #[true, true, true, true, true, true, true, true, true, true, true, true, true, true, true, false, false, false] rfl rfl (any_of HT_.out (by kernel_rfl)) (fun _ _ _ h => h) (Or.inl ⟨by rfl, ?_⟩) ?_ ?_
          rotate_left
          ·
           intro w'
           go_simp
           with_reducible rfl
          rotate_left
          ·
           simp only [Act.put, List.setIfInBounds_toArray, List.set_cons_zero, List.set_cons_succ, i64_w, i32_w]
           rfl
          refine pure_ (i := 15) (N := some 59) (v := ?_) (a' := ?_) #[true, true, true, true, true, true, true, true, true, true, true, true, true, true, true, true, false, false] rfl rfl (any_of HT_.out (by kernel_rfl)) (fun _ _ _ h => h) (Or.inl ⟨by rfl, ?_⟩) ?_ ?_
          rotate_left
          ·
           intro w'
           go_simp
           with_reducible rfl
          rotate_left
          ·
           simp only [Act.put, List.setIfInBounds_toArray, List.set_cons_zero, List.set_cons_succ, i64_w, i32_w]
           rfl
          refine pure_ (i := 16) (N := some 8) (v := ?_) (a' := ?_) #[true, true, true, true, true, true, true, true, true, true, true, true, true, true, true, true, true, false] rfl rfl (any_of HT_.out (by kernel_rfl)) (fun _ _ _ h => h) (Or.inl ⟨by rfl, ?_⟩) ?_ ?_
          rotate_left
          ·
           intro w'
           go_simp
           with_reducible rfl
          rotate_left
          ·
           simp only [Act.put, List.setIfInBounds_toArray, List.set_cons_zero, List.set_cons_succ, i64_w, i32_w]
           rfl
          refine pure_ (i := 17) (N := some 9) (v := ?_) (a' := ?_) #[true, true, true, true, true, true, true, true, true, true, true, true, true, true, true, true, true, true] rfl rfl (any_of HT_.out (by kernel_rfl)) (fun _ _ _ h => h) (Or.inl ⟨by rfl, ?_⟩) ?_ ?_
          rotate_left
          ·
           intro w'
           go_simp
           with_reducible rfl
          rotate_left
          ·
           simp only [Act.put, List.setIfInBounds_toArray, List.set_cons_zero, List.set_cons_succ, i64_w, i32_w]
           rfl
          refine done_ (done_of HT_.out (by kernel_rfl)) ?_
          clear HT_ HW_
          cases h8 : (x2 == 8) with
          | true =>
           go_wp2
           go_ret
           exact ⟨by (try rw [h8]); rfl, by repeat (first | exact M9.out.bel | apply pw_below_drewN | apply below_drew1)⟩
          | false =>
           go_wp2
           go_ret
           exact ⟨by (try rw [h8]); rfl, by repeat (first | exact M9.out.bel | apply pw_below_drewN | apply below_drew1)⟩
         ·
          refine Kd.R_lit_step k62 (w0 := w) w.heap.size 62 (by rfl) (N := 47) rfl (xs := ([] : List S62)) (inner := []) (ok := fun b => some b ≠ (.slice (some ad) L.length c5 : Value).ownBlock) (okp := fun _ => False) (by first | (go_simp; done) | (go_simp; rfl)) (Reps.none _ _) (fun _ h => h.elim) (Kd.fresh' (Kd.R_lt M0.out.lst) _ (Nat.le_refl _)) M0.out.bel M0.out.bel.size (by simp) ?_
          intro v47 w12 ho hb hg hn
          have M1 := Aside0.mk (Mz.grow M0.out ho hb hg (.inr hn))
          clear ho hb hg hn
          refine hK.out _ _ ⟨(blk_cell M1.out.pl 0).trans rfl, (blk_cell M1.out.pl 1).trans rfl, (blk_cell M1.out.pl 2).trans rfl, (blk_cell M1.out.pl 3).trans rfl⟩ (fun _ => ?_)
          clear hK K
          refine norm_ (a' := ?_) ?_ ?_
          rotate_left
          ·
           show Act.put _ (some 47) _ = _
           simp only [Act.put, List.setIfInBounds_toArray, List.set_cons_zero, List.set_cons_succ, i64_w, i32_w]
           rfl
          refine one_ (i := 1) (N := some 46) #[true, true, true, true, true, true, false, true, true, true, true, false, false, false, false, false, false, false] rfl rfl (one_of HT_.out (by kernel_rfl)) (by decide) (fun K hK => ?_)
          refine goes_ Try.func28 (by kernel_rfl) rfl #[.agg #[.slice A0 l0.length c0, .slice A1 l1.length c1, .int .i64 a2, .int .i64 a3]] (by rfl) rfl rfl (by (try simp only [List.map_toArray, List.map_cons, List.map_nil]); first | done | rfl) ?_
          with_reducible refine (culetlaw49_Own.calls k _ c0 l0 _ c1 l1 a2 a3 o1 o2 o3 o4 _ (Kd.C_below HR0.out M1.out.bel) HC0.out (Kd.C_below HR1.out M1.out.bel) HC1.out HO.out).mono ?_
          rintro e w13 ⟨va, vb, rfl, ho0, ho1, hb⟩
          refine ⟨_, rfl, ?_⟩
          obtain ⟨Aa, ca, rfl⟩ := Kd.R_slice ho0
          obtain ⟨Ab, cb, rfl⟩ := Kd.R_slice ho1
          have M2 := Aside0.mk (M1.out.below hb)
          have HOa := Aside0.mk (Kd.R_lower ho0 M1.out.bel.size)
          have HOb := Aside0.mk (Kd.R_lower ho1 M1.out.bel.size)
          clear ho0 ho1 hb
          refine hK.out _ _ ⟨(blk_cell M2.out.pl 0).trans rfl, (blk_cell M2.out.pl 1).trans rfl, (blk_cell M2.out.pl 2).trans rfl, (blk_cell M2.out.pl 3).trans rfl⟩ (fun _ => ?_)
          clear hK K
          refine norm_ (a' := ?_) ?_ ?_
          rotate_left
          ·
           show Act.put _ (some 46) _ = _
           simp only [Act.put, List.setIfInBounds_toArray, List.set_cons_zero, List.set_cons_succ, i64_w, i32_w]
           rfl
          refine one_ (i := 6) (N := some 51) #[true, true, true, true, true, true, true, true, true, true, true, false, false, false, false, false, false, false] rfl rfl (one_of HT_.out (by kernel_rfl)) (by decide) (fun K hK => ?_)
          refine Kd.R_append_rows_step k62 (Rr := k62.K _) (w0 := w) w.heap.size (by rfl) (.tmp 47) (.tmp 50) 53 62 (.agg #[.int .i64 0, .int .i64 0, .int .i64 0]) 24 rfl Try.underlying53 info62 rfl (by decide) (by omega) v47 ([] : List S62) (L.take ji.toNat) (some ad) ji.toNat c5 (fun b => some b ≠ (.slice (some ad) L.length c5 : Value).ownBlock) (fun _ => False) rfl rfl M2.out.row (by have hx := Kd.C_take (m := ji.toNat) (Kd.R_reads' M2.out.lst).2.2 HJ0.out; rw [HJT.out] at hx; exact hx) (fun _ cs h => by rw [k62_open h]; exact k62_mkM _ _ _ _) (fun _ h => h.elim) (Kd.fresh' (Kd.R_lt M2.out.lst)) M2.out.bel M2.out.bel.size HLa.out ?_
          intro v51 w14 ho hb hg hat
          have M3 := Aside0.mk (M2.out.grow ho hb hg hat)
          have n0 := Aside0.mk (Kd.R_over' HOa.out (Kd.R_typed M2.out.row) (by decide) hg)
          have n1 := Aside0.mk (Kd.R_over' HOb.out (Kd.R_typed M2.out.row) (by decide) hg)
          clear HOa HOb
          have HOa := n0
          have HOb := n1
          clear n0 n1
          clear ho hb hg hat
          refine hK.out _ _ ⟨(blk_cell M3.out.pl 0).trans rfl, (blk_cell M3.out.pl 1).trans rfl, (blk_cell M3.out.pl 2).trans rfl, (blk_cell M3.out.pl 3).trans rfl⟩ (fun _ => ?_)
          clear hK K
          refine norm_ (a' := ?_) ?_ ?_
          rotate_left
          ·
           show Act.put _ (some 51) _ = _
           simp only [Act.put, List.setIfInBounds_toArray, List.set_cons_zero, List.set_cons_succ, i64_w, i32_w]
           rfl
          refine one_ (i := 11) (N := some 56) #[true, true, true, true, true, true, true, true, true, true, true, true, false, false, false, false, false, false] rfl rfl (one_of HT_.out (by kernel_rfl)) (by decide) (fun K hK => ?_)
          refine Kd.R_append_rows_step k62 (Rr := k62.K _) (w0 := w) w.heap.size (by rfl) (.tmp 51) (.tmp 55) 53 62 (.agg #[.int .i64 0, .int .i64 0, .int .i64 0]) 24 rfl Try.underlying53 info62 rfl (by decide) (by omega) v51 (([] : List S62) ++ (L.take ji.toNat)) (L.drop (ji.toNat + 1)) Af nf cf (fun b => some b ≠ (.slice (some ad) L.length c5 : Value).ownBlock) (fun _ => False) rfl rfl M3.out.row ((HJD.out _ (Kd.R_reads' M3.out.lst).2.2)) (fun _ cs h => by rw [k62_open h]; exact k62_mkM _ _ _ _) (fun _ h => h.elim) (Kd.fresh' (Kd.R_lt M3.out.lst)) M3.out.bel M3.out.bel.size HLb.out ?_
          intro v56 w15 ho hb hg hat
          have M4 := Aside0.mk (M3.out.grow ho hb hg hat)
          have n0 := Aside0.mk (Kd.R_over' HOa.out (Kd.R_typed M3.out.row) (by decide) hg)
          have n1 := Aside0.mk (Kd.R_over' HOb.out (Kd.R_typed M3.out.row) (by decide) hg)
          clear HOa HOb
          have HOa := n0
          have HOb := n1
          clear n0 n1
          clear ho hb hg hat
          refine hK.out _ _ ⟨(blk_cell M4.out.pl 0).trans rfl, (blk_cell M4.out.pl 1).trans rfl, (blk_cell M4.out.pl 2).trans rfl, (blk_cell M4.out.pl 3).trans rfl⟩ (fun _ => ?_)
          clear hK K
          refine norm_ (a' := ?_) ?_ ?_
          rotate_left
          ·
           show Act.put _ (some 56) _ = _
           simp only [Act.put, List.setIfInBounds_toArray, List.set_cons_zero, List.set_cons_succ, i64_w, i32_w]
           rfl
          obtain ⟨A6, c6, rfl⟩ := Kd.R_slice M4.out.row
          refine one_ (i := 12) (N := some 57) #[true, true, true, true, true, true, true, true, true, true, true, true, true, false, false, false, false, false] rfl rfl (one_of HT_.out (by kernel_rfl)) (by decide) (fun K hK => ?_)
          refine goes_ Try.func29 (by kernel_rfl) rfl #[.agg #[.slice Aa o1.length ca, .slice Ab o2.length cb, .int .i64 o3, .int .i64 o4], .slice A6 (([] : List S62) ++ L.take ji.toNat ++ L.drop (ji.toNat + 1)).length c6] (by rfl) rfl rfl (by (try simp only [List.map_toArray, List.map_cons, List.map_nil]); first | done | rfl) ?_
          with_reducible refine (steps_Check.calls k _ _ o1 _ _ o2 o3 o4 _ _ (([] : List S62) ++ L.take ji.toNat ++ L.drop (ji.toNat + 1)) x1 x2 _ (Kd.R_reads' HOa.out).2.2 (Kd.R_reads' HOa.out).2.1 (Kd.R_reads' HOb.out).2.2 (Kd.R_reads' HOb.out).2.1 (Kd.R_reads' M4.out.row).2.2 (Kd.R_reads' M4.out.row).2.1 HCK.out).mono ?_
          rintro e w20 ⟨rfl, hb⟩
          refine ⟨_, rfl, ?_⟩
          have M9 := Aside0.mk (M4.out.below hb)
          clear hb
          refine hK.out _ _ ⟨(blk_cell M9.out.pl 0).trans rfl, (blk_cell M9.out.pl 1).trans rfl, (blk_cell M9.out.pl 2).trans rfl, (blk_cell M9.out.pl 3).trans rfl⟩ (fun _ => ?_)
          clear hK K
          refine norm_ (a' := ?_) ?_ ?_
          rotate_left
          ·
           show Act.put _ (some 57) _ = _
           simp only [Act.put, List.setIfInBounds_toArray, List.set_cons_zero, List.set_cons_succ, i64_w, i32_w]
           rfl
          refine pure_ (i := 13) (N := some 44) (v := ?_) (a' := ?_) #[true, true, true, true, true, true, true, true, true, true, true, true, true, true, false, false, false, false] rfl rfl (any_of HT_.out (by kernel_rfl)) (fun _ _ _ h => h) (Or.inl ⟨by rfl, ?_⟩) ?_ ?_
          rotate_left
          ·
           intro w'
           go_simp
           with_reducible rfl
          rotate_left
          ·
           simp only [Act.put, List.setIfInBounds_toArray, List.set_cons_zero, List.set_cons_succ, i64_w, i32_w]
           rfl
          refine pure_ (i := 14) (N := some 58) (v := ?_) (a' := ?_) #[true, true, true, true, true, true, true, true, true, true, true, true, true, true, true, false, false, false] rfl rfl (any_of HT_.out (by kernel_rfl)) (fun _ _ _ h => h) (Or.inl ⟨by rfl, ?_⟩) ?_ ?_
          rotate_left
          ·
           intro w'
           go_simp
           with_reducible rfl
          rotate_left
          ·
           simp only [Act.put, List.setIfInBounds_toArray, List.set_cons_zero, List.set_cons_succ, i64_w, i32_w]
           rfl
          refine pure_ (i := 15) (N := some 59) (v := ?_) (a' := ?_) #[true, true, true, true, true, true, true, true, true, true, true, true, true, true, true, true, false, false] rfl rfl (any_of HT_.out (by kernel_rfl)) (fun _ _ _ h => h) (Or.inl ⟨by rfl, ?_⟩) ?_ ?_
          rotate_left
          ·
           intro w'
           go_simp
           with_reducible rfl
          rotate_left
          ·
           simp only [Act.put, List.setIfInBounds_toArray, List.set_cons_zero, List.set_cons_succ, i64_w, i32_w]
           rfl
          refine pure_ (i := 16) (N := some 8) (v := ?_) (a' := ?_) #[true, true, true, true, true, true, true, true, true, true, true, true, true, true, true, true, true, false] rfl rfl (any_of HT_.out (by kernel_rfl)) (fun _ _ _ h => h) (Or.inl ⟨by rfl, ?_⟩) ?_ ?_
          rotate_left
          ·
           intro w'
           go_simp
           with_reducible rfl
          rotate_left
          ·
           simp only [Act.put, List.setIfInBounds_toArray, List.set_cons_zero, List.set_cons_succ, i64_w, i32_w]
           rfl
          refine pure_ (i := 17) (N := some 9) (v := ?_) (a' := ?_) #[true, true, true, true, true, true, true, true, true, true, true, true, true, true, true, true, true, true] rfl rfl (any_of HT_.out (by kernel_rfl)) (fun _ _ _ h => h) (Or.inl ⟨by rfl, ?_⟩) ?_ ?_
          rotate_left
          ·
           intro w'
           go_simp
           with_reducible rfl
          rotate_left
          ·
           simp only [Act.put, List.setIfInBounds_toArray, List.set_cons_zero, List.set_cons_succ, i64_w, i32_w]
           rfl
          refine done_ (done_of HT_.out (by kernel_rfl)) ?_
          clear HT_ HW_
          cases h8 : (x2 == 8) with
          | true =>
           go_wp2
           go_ret
           exact ⟨by (try rw [h8]); rfl, by repeat (first | exact M9.out.bel | apply pw_below_drewN | apply below_drew1)⟩
          | false =>
           go_wp2
           go_ret
           exact ⟨by (try rw [h8]); rfl, by repeat (first | exact M9.out.bel | apply pw_below_drewN | apply below_drew1)⟩
        ·
         rw [if_neg k3] at h
         obtain rfl := Option.some.inj h
         have q1 : ((rd_T62 L ji).f0 != 3) = true := bne_iff_ne.mpr k3
         clear k3 h
         go_wp2
         go_ret
         exact ⟨rfl, HB5.out⟩
       ·
        rw [if_neg p1] at h; cases h
      ·
       rw [if_neg p0] at h; cases h
     ·
      rw [if_neg e6] at h; cases h
   ·
    rw [if_neg e0] at h
    obtain rfl := Option.some.inj h
    have q1 : (r2 != 0) = true := bne_iff_ne.mpr e0
    clear h e0
    go_enter Try.func8, Try.ntmps8
    go_wp2_with (first | ((with_reducible refine gate_dst (N := 2) rfl ?_); refine box_event ?hg (N := 2) ?hd (cs := #[.slice A0 l0.length c0, .slice A1 l1.length c1, .int .i64 a2, .int .i64 a3]) (t := 50) ?hr ?_; (case hd => rfl); (case hg => rfl); (case hr => first | (go_simp; done) | (go_simp; rfl)); intro gp hg w6 hbox hb; have BP1 := Aside0.mk hbox; have HB1 : Aside0 (Below w.heap.size w w6) := ⟨hb⟩; clear hb hbox hg; have hp0 : w6.cell? ⟨gp, 0, none⟩ = some (.slice A0 l0.length c0) := (blk_cell BP1.out 0).trans rfl; have hp1 : w6.cell? ⟨gp, 1, none⟩ = some (.slice A1 l1.length c1) := (blk_cell BP1.out 1).trans rfl; have hp2 : w6.cell? ⟨gp, 2, none⟩ = some (.int .i64 a2) := (blk_cell BP1.out 2).trans rfl; have hp3 : w6.cell? ⟨gp, 3, none⟩ = some (.int .i64 a3) := (blk_cell BP1.out 3).trans rfl) | (go_at_call 25; (with_reducible refine (culetlaw49_awake.calls k true _ HA.out).mono ?_); rintro e w7 ⟨rfl, hb⟩; have HB2 : Aside0 (Below w.heap.size w w7) := ⟨below_step HB1.out hb⟩; have BP2 : Aside0 (w7.heap[gp]? = some (.cells #[.slice A0 l0.length c0, .slice A1 l1.length c1, .int .i64 a2, .int .i64 a3] 50 (0, 0))) := ⟨blk_below BP1.out hb⟩; clear hb hp0 hp1 hp2 hp3; have hp0 : w7.cell? ⟨gp, 0, none⟩ = some (.slice A0 l0.length c0) := (blk_cell BP2.out 0).trans rfl; have hp1 : w7.cell? ⟨gp, 1, none⟩ = some (.slice A1 l1.length c1) := (blk_cell BP2.out 1).trans rfl; have hp2 : w7.cell? ⟨gp, 2, none⟩ = some (.int .i64 a2) := (blk_cell BP2.out 2).trans rfl; have hp3 : w7.cell? ⟨gp, 3, none⟩ = some (.int .i64 a3) := (blk_cell BP2.out 3).trans rfl) | (go_at_call 26; (with_reducible refine (culetref49_Few.calls k A0 c0 l0 A1 c1 l1 a2 a3 true _ (Kd.C_below HR0.out HB2.out) HC0.out (Kd.C_below HR1.out HB2.out) HC1.out HF.out).mono ?_); rintro e w8 ⟨rfl, hb⟩; have HB3 : Aside0 (Below w.heap.size w w8) := ⟨below_step HB2.out hb⟩; have BP3 : Aside0 (w8.heap[gp]? = some (.cells #[.slice A0 l0.length c0, .slice A1 l1.length c1, .int .i64 a2, .int .i64 a3] 50 (0, 0))) := ⟨blk_below BP2.out hb⟩; clear hb hp0 hp1 hp2 hp3; have hp0 : w8.cell? ⟨gp, 0, none⟩ = some (.slice A0 l0.length c0) := (blk_cell BP3.out 0).trans rfl; have hp1 : w8.cell? ⟨gp, 1, none⟩ = some (.slice A1 l1.length c1) := (blk_cell BP3.out 1).trans rfl; have hp2 : w8.cell? ⟨gp, 2, none⟩ = some (.int .i64 a2) := (blk_cell BP3.out 2).trans rfl; have hp3 : w8.cell? ⟨gp, 3, none⟩ = some (.int .i64 a3) := (blk_cell BP3.out 3).trans rfl) | (go_at_call 28; (with_reducible refine (culetlaw49_Own.calls k A0 c0 l0 A1 c1 l1 a2 a3 o1 o2 o3 o4 _ (Kd.C_below HR0.out HB3.out) HC0.out (Kd.C_below HR1.out HB3.out) HC1.out HO.out).mono ?_); rintro e w9 ⟨va, vb, rfl, ho0, ho1, hb⟩; have HB4 : Aside0 (Below w.heap.size w w9) := ⟨below_step HB3.out hb⟩; have BP4 : Aside0 (w9.heap[gp]? = some (.cells #[.slice A0 l0.length c0, .slice A1 l1.length c1, .int .i64 a2, .int .i64 a3] 50 (0, 0))) := ⟨blk_below BP3.out hb⟩; clear hb hp0 hp1 hp2 hp3; have hp0 : w9.cell? ⟨gp, 0, none⟩ = some (.slice A0 l0.length c0) := (blk_cell BP4.out 0).trans rfl; have hp1 : w9.cell? ⟨gp, 1, none⟩ = some (.slice A1 l1.length c1) := (blk_cell BP4.out 1).trans rfl; have hp2 : w9.cell? ⟨gp, 2, none⟩ = some (.int .i64 a2) := (blk_cell BP4.out 2).trans rfl; have hp3 : w9.cell? ⟨gp, 3, none⟩ = some (.int .i64 a3) := (blk_cell BP4.out 3).trans rfl; obtain ⟨Aa, ca, rfl⟩ := Kd.R_slice ho0; obtain ⟨Ab, cb, rfl⟩ := Kd.R_slice ho1; have HOa := Aside0.mk ho0; have HOb := Aside0.mk ho1; clear ho0 ho1) | (go_at_call 27; (with_reducible refine (steps_Of.calls k Aa ca o1 Ab cb o2 o3 o4 L _ _ (Kd.R_reads' HOa.out).2.2 (Kd.R_reads' HOa.out).2.1 (Kd.R_reads' HOb.out).2.2 (Kd.R_reads' HOb.out).2.1 HS.out).mono ?_); rintro e w10 ⟨v5, rfl, ho, hb⟩; have HL : Aside0 (Kd.R k62 62 w10 w.heap.size (fun _ => True) v5 L) := ⟨Kd.R_lower ho HB4.out.size⟩; clear ho; have HB5 : Aside0 (Below w.heap.size w w10) := ⟨below_step HB4.out hb⟩; have BP5 : Aside0 (w10.heap[gp]? = some (.cells #[.slice A0 l0.length c0, .slice A1 l1.length c1, .int .i64 a2, .int .i64 a3] 50 (0, 0))) := ⟨blk_below BP4.out hb⟩; clear hb hp0 hp1 hp2 hp3; have hp0 : w10.cell? ⟨gp, 0, none⟩ = some (.slice A0 l0.length c0) := (blk_cell BP5.out 0).trans rfl; have hp1 : w10.cell? ⟨gp, 1, none⟩ = some (.slice A1 l1.length c1) := (blk_cell BP5.out 1).trans rfl; have hp2 : w10.cell? ⟨gp, 2, none⟩ = some (.int .i64 a2) := (blk_cell BP5.out 2).trans rfl; have hp3 : w10.cell? ⟨gp, 3, none⟩ = some (.int .i64 a3) := (blk_cell BP5.out 3).trans rfl; obtain ⟨A5, c5, rfl⟩ := Kd.R_slice HL.out))
    go_ret
    exact ⟨rfl, HB5.out⟩
end Go.Proofs.Ytalhpnfapagamaa.S
