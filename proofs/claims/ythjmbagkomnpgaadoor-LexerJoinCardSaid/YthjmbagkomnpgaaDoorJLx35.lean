-- Written by this session's own programs; what the law does not lean on is left out. Lean checks it.
import Derived.Test.YthjmbagkomnpgaaDoorJS
import Derived.Test.YthjmbagkomnpgaaDoorJHBuilder
import Derived.Test.YthjmbagkomnpgaaDoorJR
import Derived.Test.YthjmbagkomnpgaaDoorJLx20
namespace Go.Proofs.YthjmbagkomnpgaaDoor.L
open Go.RowKit Go.Proofs.YthjmbagkomnpgaaDoorW.PrintWords Go.Proofs.YthjmbagkomnpgaaDoorW.PrintLast Go.Proofs.YthjmbagkomnpgaaDoorW.PrintMore
set_option linter.unusedVariables false
set_option linter.unusedSimpArgs false

theorem ib_step {B b : Nat} {bs : List Value} {w w' : World} (h : Lib.IsBuilderF 65 5 B b bs w) (hb : Below w.heap.size w w') : Lib.IsBuilderF 65 5 B b bs w' := by
 have key : ∀ p, Lib.BuilderAtF 65 5 B b p bs w → Lib.BuilderAtF 65 5 B b p bs w' := by
  rintro p ⟨hB, v, hbk, hown, hne⟩
  have hk : ∀ {k : Nat} {o : Obj}, w.heap[k]? = some o → w'.heap[k]? = some o := fun {k o} h => (hb.block k (Array.getElem?_eq_some_iff.1 h).1).trans h
  refine ⟨hB, v, hk hbk, ⟨hown.1, ?_⟩, hne⟩
  rcases hown.2 with hn | ⟨g, cap, cur, fz, hv, hbg, hg, rest⟩
  ·
   exact .inl hn
  ·
   exact .inr ⟨g, cap, cur, fz, hv, hbg, hk hg, rest⟩
 exact h.elim (fun x => .inl (key _ x)) (fun x => .inr (key _ x))
theorem ib_byte {B b : Nat} {s : ByteArray} {w : World} (h : Lib.BuilderAtF 65 5 B b (.pointer (some ⟨b, 0, none⟩)) (Lib.byteCells s.data.toList ++ [.int .u8 32]) w) : Lib.IsBuilderF 65 5 B b (Lib.byteCells (s ++ (⟨#[32]⟩ : ByteArray)).data.toList) w := by
 refine .inr ?_
 rw [ByteArray.data_append, Array.toList_append, Lib.byteCells_append]
 exact h
theorem ib_str {B b : Nat} {s t : ByteArray} {w : World} (h : Lib.BuilderAtF 65 5 B b (.pointer (some ⟨b, 0, none⟩)) (Lib.byteCells s.data.toList ++ Lib.byteCells t.data.toList) w) : Lib.IsBuilderF 65 5 B b (Lib.byteCells (s ++ t).data.toList) w := by
 refine .inr ?_
 rw [ByteArray.data_append, Array.toList_append, Lib.byteCells_append]
 exact h
theorem ib_len (s : ByteArray) : (Lib.byteCells s.data.toList).length = s.size := by rw [Lib.byteCells_length]; rfl
theorem bk_kept {b g : Nat} {cs : Array Value} {w w' : World} (h : w.heap[g]? = some (.cells cs 38 (0, 0))) (hk : Lib.OthersKept 5 (some b) w w') (hg : g ≠ b) : w'.heap[g]? = some (.cells cs 38 (0, 0)) :=
 hk g _ h (fun e => hg (Option.some.inj e)) (fun c fz e => by injection e with e1 e2 e3; exact absurd e2 (by decide))

def lexer_Join.l0 : Nat → List (S38) → ByteArray → List (S38) → Int → Int → Option (ByteArray)
 | 0, _, _, _, _, _ => none
 | k + 1, x0, x3, x6, x7, x8 => if x8 < x7 then (if 0 ≤ x8 then (if x8 < (x6.length : Int) then (if x8 > 0 then (if 0 ≤ (wrap64 (x8 - 1)) then (if (wrap64 (x8 - 1)) < (x0.length : Int) then ((lexer_Apart.f k ((rd_T38 x0 (wrap64 (x8 - 1))).f0) ((rd_T38 x0 (wrap64 (x8 - 1))).f1) ((rd_T38 x0 (wrap64 (x8 - 1))).f2) ((rd_T38 x0 (wrap64 (x8 - 1))).f3) ((rd_T38 x6 x8).f0) ((rd_T38 x6 x8).f1) ((rd_T38 x6 x8).f2) ((rd_T38 x6 x8).f3)).bind fun t203 => (if t203 = true then (if x3.size + 1 ≤ 140737488355328 then ((lexer_Source.f ((rd_T38 x6 x8).f0) ((rd_T38 x6 x8).f1) ((rd_T38 x6 x8).f2) ((rd_T38 x6 x8).f3)).bind fun t204 => (if (x3 ++ (⟨#[32]⟩ : ByteArray)).size + t204.size ≤ 140737488355328 then (lexer_Join.l0 k x0 ((x3 ++ (⟨#[32]⟩ : ByteArray)) ++ t204) x6 x7 (wrap64 (x8 + 1))) else (none))) else (none)) else ((lexer_Source.f ((rd_T38 x6 x8).f0) ((rd_T38 x6 x8).f1) ((rd_T38 x6 x8).f2) ((rd_T38 x6 x8).f3)).bind fun t205 => (if x3.size + t205.size ≤ 140737488355328 then (lexer_Join.l0 k x0 (x3 ++ t205) x6 x7 (wrap64 (x8 + 1))) else (none))))) else (none)) else (none)) else ((lexer_Source.f ((rd_T38 x6 x8).f0) ((rd_T38 x6 x8).f1) ((rd_T38 x6 x8).f2) ((rd_T38 x6 x8).f3)).bind fun t206 => (if x3.size + t206.size ≤ 140737488355328 then (lexer_Join.l0 k x0 (x3 ++ t206) x6 x7 (wrap64 (x8 + 1))) else (none)))) else (none)) else (none)) else (some x3)
def lexer_Join.f (k : Nat) (l0 : List (S38)) : Option (ByteArray) := lexer_Join.l0 k l0 (⟨#[]⟩ : ByteArray) l0 (l0.length : Int) 0
def lexer_Join.T5 : Bool × List (List Nat × List Nat) := (true, [([], []), ([0], [0]), ([1], [1]), ([2], [2]), ([2], [2]), ([4, 2], [2, 4]), ([3, 5, 2], [2, 3, 5]), ([6, 2], [2, 6]), ([2], [2]), ([7, 8, 2, 2], [2, 7, 8]), ([2, 9], [2, 9])])
def lexer_Join.B5 : List Nat := [0, 1, 3, 7, 7, 23, 63, 127, 7, 511, 1023]
theorem lexer_Join.tab5 : rtab .any (opsOf Tryd.f26 5) = lexer_Join.T5 := by kernel_rfl
theorem lexer_Join.bits5 : waitsOk lexer_Join.T5.2 lexer_Join.B5 = true := by kernel_rfl
set_option maxHeartbeats 8000000 in
set_option maxRecDepth 100000 in
theorem lexer_Join.calls (k : Nat) (A0 : Option Addr) (c0 : Nat) (l0 : List (S38)) (r : ByteArray) (w : World) (hr0 : Kd.C k38 w A0 l0.length l0) (hc0 : l0.length ≤ c0) (h : lexer_Join.f k l0 = some r) :
  Calls Tryd.prog 26 #[.slice A0 l0.length c0] w fun e w' => e = .returned (.string r) ∧ Below w.heap.size w w' := by
 have hu38 := Tryd.underlying38
 have HR0 := Aside0.mk hr0
 have HC0 := Aside0.mk hc0
 clear hr0 hc0
 have HB := Aside0.mk (Below.refl w.heap.size w)
 have H : (lexer_Join.l0 k l0 (⟨#[]⟩ : ByteArray) l0 (l0.length : Int) 0) = some r := h
 clear h
 have H' := Aside0.mk H
 clear H
 go_enter Tryd.func26, Tryd.ntmps26
 go_wp2
 go_loopg [8] k (fun kq v8 w' => ∃ (x3_1 : ByteArray) (x8_1 : Int), v8 = .int .i64 x8_1 ∧ Aside0 (lexer_Join.l0 kq l0 x3_1 l0 (l0.length : Int) x8_1 = some r) ∧ Aside0 (kq ≤ k) ∧ Aside0 (Below w.heap.size w w') ∧ Aside0 (Lib.IsBuilderF 65 5 w.heap.size w.heap.size (Lib.byteCells x3_1.data.toList) w'))
 case atStart => exact ⟨((⟨#[]⟩ : ByteArray)), (0), (by first | rfl | (simp; done) | (simp [*]; done)), H', ⟨Nat.le_refl _⟩, ⟨(Below.refl _ w).alloc (Nat.le_refl _) _⟩, ⟨Lib.IsBuilderF.of (Lib.fresh_isBuilder 65 5 w)⟩⟩
 case round =>
  clear H'
  obtain ⟨x3_1, x8_1, rfl, HA, HK1, HBw, IBw⟩ := hrel
  have HB := Aside0.mk (Below.refl wr.heap.size wr)
  have hsz := HBw.out.size
  have hBb : w.heap.size < wr.heap.size := by
   rcases IBw.out with x | x
   ·
    obtain ⟨_, v, hb, _⟩ := x; exact (Array.getElem?_eq_some_iff.1 hb).1
   ·
    obtain ⟨_, v, hb, _⟩ := x; exact (Array.getElem?_eq_some_iff.1 hb).1
  have HSZ := Aside0.mk hsz
  have HBb := Aside0.mk hBb
  clear hsz hBb
  cases gk with
  | zero => exact absurd HA.out (by simp [lexer_Join.l0])
  | succ k1 =>
   have H := HA.out
   clear HA
   simp only [lexer_Join.l0] at H
   by_cases c2 : x8_1 < (l0.length : Int)
   ·
    rw [if_pos c2] at H
    have c2b0 : decide (x8_1 < (l0.length : Int)) = true := decide_eq_true c2
    clear c2
    by_cases c3 : 0 ≤ x8_1
    ·
     rw [if_pos c3] at H
     have c3b0 : decide (0 ≤ x8_1) = true := decide_eq_true c3
     clear c3
     by_cases c4 : x8_1 < (l0.length : Int)
     ·
      rw [if_pos c4] at H
      have c4b0 : decide (x8_1 < (l0.length : Int)) = true := decide_eq_true c4
      clear c4
      by_cases c5 : x8_1 > 0
      ·
       rw [if_pos c5] at H
       have c5b0 : decide (0 < x8_1) = true := decide_eq_true c5
       clear c5
       obtain ⟨ji6, hji6⟩ : ∃ j_ : Int, (wrap64 (x8_1 - 1)) = j_ := ⟨_, rfl⟩
       replace H : (if 0 ≤ (ji6) then (if (ji6) < (l0.length : Int) then ((lexer_Apart.f k1 ((rd_T38 l0 (ji6)).f0) ((rd_T38 l0 (ji6)).f1) ((rd_T38 l0 (ji6)).f2) ((rd_T38 l0 (ji6)).f3) ((rd_T38 l0 x8_1).f0) ((rd_T38 l0 x8_1).f1) ((rd_T38 l0 x8_1).f2) ((rd_T38 l0 x8_1).f3)).bind fun t203 => (if t203 = true then (if x3_1.size + 1 ≤ 140737488355328 then ((lexer_Source.f ((rd_T38 l0 x8_1).f0) ((rd_T38 l0 x8_1).f1) ((rd_T38 l0 x8_1).f2) ((rd_T38 l0 x8_1).f3)).bind fun t204 => (if (x3_1 ++ (⟨#[32]⟩ : ByteArray)).size + t204.size ≤ 140737488355328 then (lexer_Join.l0 k1 l0 ((x3_1 ++ (⟨#[32]⟩ : ByteArray)) ++ t204) l0 (l0.length : Int) (wrap64 (x8_1 + 1))) else (none))) else (none)) else ((lexer_Source.f ((rd_T38 l0 x8_1).f0) ((rd_T38 l0 x8_1).f1) ((rd_T38 l0 x8_1).f2) ((rd_T38 l0 x8_1).f3)).bind fun t205 => (if x3_1.size + t205.size ≤ 140737488355328 then (lexer_Join.l0 k1 l0 (x3_1 ++ t205) l0 (l0.length : Int) (wrap64 (x8_1 + 1))) else (none))))) else (none)) else (none)) = some r := by first | (rw [hji6] at H; exact H) | (simp only [hji6] at H ⊢; exact H)
       have hji6w : (IntKind.i64.wrap (x8_1 - 1)) = ji6 := (i64_w _).trans hji6
       by_cases c7 : 0 ≤ (ji6)
       ·
        rw [if_pos c7] at H
        have c7b0 : decide (0 ≤ (ji6)) = true := decide_eq_true c7
        clear c7
        by_cases c8 : (ji6) < (l0.length : Int)
        ·
         rw [if_pos c8] at H
         have c8b0 : decide ((ji6) < (l0.length : Int)) = true := decide_eq_true c8
         clear c8
         replace H := Option.bind_eq_some_iff.mp H
         obtain ⟨t203, A90, H⟩ := H
         replace H : (if t203 = true then (if x3_1.size + 1 ≤ 140737488355328 then ((lexer_Source.f ((rd_T38 l0 x8_1).f0) ((rd_T38 l0 x8_1).f1) ((rd_T38 l0 x8_1).f2) ((rd_T38 l0 x8_1).f3)).bind fun t204 => (if (x3_1 ++ (⟨#[32]⟩ : ByteArray)).size + t204.size ≤ 140737488355328 then (lexer_Join.l0 k1 l0 ((x3_1 ++ (⟨#[32]⟩ : ByteArray)) ++ t204) l0 (l0.length : Int) (wrap64 (x8_1 + 1))) else (none))) else (none)) else ((lexer_Source.f ((rd_T38 l0 x8_1).f0) ((rd_T38 l0 x8_1).f1) ((rd_T38 l0 x8_1).f2) ((rd_T38 l0 x8_1).f3)).bind fun t205 => (if x3_1.size + t205.size ≤ 140737488355328 then (lexer_Join.l0 k1 l0 (x3_1 ++ t205) l0 (l0.length : Int) (wrap64 (x8_1 + 1))) else (none)))) = some r := H
         have A9 := Aside0.mk A90
         clear A90
         by_cases c10 : t203 = true
         ·
          subst c10
          have H1 : (if x3_1.size + 1 ≤ 140737488355328 then ((lexer_Source.f ((rd_T38 l0 x8_1).f0) ((rd_T38 l0 x8_1).f1) ((rd_T38 l0 x8_1).f2) ((rd_T38 l0 x8_1).f3)).bind fun t204 => (if (x3_1 ++ (⟨#[32]⟩ : ByteArray)).size + t204.size ≤ 140737488355328 then (lexer_Join.l0 k1 l0 ((x3_1 ++ (⟨#[32]⟩ : ByteArray)) ++ t204) l0 (l0.length : Int) (wrap64 (x8_1 + 1))) else (none))) else (none)) = some r := by rw [if_pos rfl] at H; exact H
          clear H
          have H := H1
          clear H1
          by_cases c11 : x3_1.size + 1 ≤ 140737488355328
          ·
           rw [if_pos c11] at H
           have c11b0 := eq_true c11
           have c11b1 : decide (x3_1.size + 1 ≤ 140737488355328) = true := decide_eq_true c11
           try have c11b2 : (140737488355328 < x3_1.size + 1) = False := eq_false (Nat.not_lt.2 c11)
           replace H := Option.bind_eq_some_iff.mp H
           obtain ⟨t204, A120, H⟩ := H
           replace H : (if (x3_1 ++ (⟨#[32]⟩ : ByteArray)).size + t204.size ≤ 140737488355328 then (lexer_Join.l0 k1 l0 ((x3_1 ++ (⟨#[32]⟩ : ByteArray)) ++ t204) l0 (l0.length : Int) (wrap64 (x8_1 + 1))) else (none)) = some r := H
           have A12 := Aside0.mk A120
           clear A120
           by_cases c13 : (x3_1 ++ (⟨#[32]⟩ : ByteArray)).size + t204.size ≤ 140737488355328
           ·
            rw [if_pos c13] at H
            have c13b0 := eq_true c13
            have c13b1 : decide ((x3_1 ++ (⟨#[32]⟩ : ByteArray)).size + t204.size ≤ 140737488355328) = true := decide_eq_true c13
            try have c13b2 : (140737488355328 < (x3_1 ++ (⟨#[32]⟩ : ByteArray)).size + t204.size) = False := eq_false (Nat.not_lt.2 c13)
            have H' := Aside0.mk H
            clear H
            have p200 : 0 ≤ (x8_1 : Int) := of_decide_eq_true (by first | (with_reducible assumption) | assumption)
            have q200 : x8_1 < (l0.length : Int) := of_decide_eq_true (by first | (with_reducible assumption) | assumption)
            obtain ⟨ad200, e200, hx200_0, hx200_1, hx200_2, hx200_3⟩ := at_T38 HR0.out x8_1 p200 q200
            cases e200
            replace hx200_0 := (HBw.out.cell (World.block_lt_of_cell? w _ hx200_0)).trans hx200_0
            replace hx200_1 := (HBw.out.cell (World.block_lt_of_cell? w _ hx200_1)).trans hx200_1
            replace hx200_2 := (HBw.out.cell (World.block_lt_of_cell? w _ hx200_2)).trans hx200_2
            replace hx200_3 := (HBw.out.cell (World.block_lt_of_cell? w _ hx200_3)).trans hx200_3
            replace p200 := eq_true p200
            replace q200 := eq_true q200
            try go_wp2_with (first | ((with_reducible refine gate_dst (N := 5) rfl ?_); refine box_event ?hg (N := 5) ?hd (cs := #[.int .i64 0, .string (⟨#[]⟩ : ByteArray), .int .i64 0, .int .i64 0]) (t := 38) ?hr ?_; (case hd => rfl); (case hg => rfl); (case hr => first | (go_simp; done) | (go_simp; rfl)); intro gb201 hg w14 hbox hb; have n0_ := Aside0.mk (below_step (by repeat (first | (with_reducible first | exact HB.out | apply below_alloc | apply pw_below_drewN | apply below_drew1) | exact HB.out)) hb); have n1_ := Aside0.mk (hbox); have n2_ := Aside0.mk ((by rw [hg]; exact (below_size (by repeat (first | (with_reducible first | exact HB.out | apply below_alloc | apply pw_below_drewN | apply below_drew1) | exact HB.out))) : wr.heap.size ≤ gb201)); have n3_ := Aside0.mk ((by rw [hg]; exact (below_size (by repeat (first | (with_reducible first | exact HB.out | apply below_alloc | apply pw_below_drewN | apply below_drew1) | exact HB.out))) : wr.heap.size ≤ gb201)); clear HB; have HB := n0_; have BK201 := n1_; have GW201 := n2_; have GE201 := n3_; clear n0_ n1_ n2_ n3_; clear hb hbox hg; have hcz15_0 : w14.cell? ⟨gb201, 0, none⟩ = some (.int .i64 0) := (blk_cell BK201.out 0).trans rfl; have hcz15_1 : w14.cell? ⟨gb201, 1, none⟩ = some (.string (⟨#[]⟩ : ByteArray)) := (blk_cell BK201.out 1).trans rfl; have hcz15_2 : w14.cell? ⟨gb201, 2, none⟩ = some (.int .i64 0) := (blk_cell BK201.out 2).trans rfl; have hcz15_3 : w14.cell? ⟨gb201, 3, none⟩ = some (.int .i64 0) := (blk_cell BK201.out 3).trans rfl; have hfz15_0 := blk_frozen BK201.out 0; have hfz15_1 := blk_frozen BK201.out 1; have hfz15_2 := blk_frozen BK201.out 2; have hfz15_3 := blk_frozen BK201.out 3))
            have n0_ : Aside0 (((((w14.setCell ⟨gb201, 0, none⟩ (.int .i64 ((rd_T38 l0 x8_1).f0))).setCell ⟨gb201, 1, none⟩ (.string ((rd_T38 l0 x8_1).f1))).setCell ⟨gb201, 2, none⟩ (.int .i64 ((rd_T38 l0 x8_1).f2))).setCell ⟨gb201, 3, none⟩ (.int .i64 ((rd_T38 l0 x8_1).f3))).heap[gb201]? = some (.cells #[.int .i64 ((rd_T38 l0 x8_1).f0), .string ((rd_T38 l0 x8_1).f1), .int .i64 ((rd_T38 l0 x8_1).f2), .int .i64 ((rd_T38 l0 x8_1).f3)] 38 (0, 0))) := ⟨by (with_reducible repeat (first | refine blk_drewN ?_ _ | refine blk_drew ?_ | refine blk_alloc ?_ _)); refine blk_put (cs := #[.int .i64 ((rd_T38 l0 x8_1).f0), .string ((rd_T38 l0 x8_1).f1), .int .i64 ((rd_T38 l0 x8_1).f2), .int .i64 0]) ?_ 3 _ rfl; (with_reducible repeat (first | refine blk_drewN ?_ _ | refine blk_drew ?_ | refine blk_alloc ?_ _)); refine blk_put (cs := #[.int .i64 ((rd_T38 l0 x8_1).f0), .string ((rd_T38 l0 x8_1).f1), .int .i64 0, .int .i64 0]) ?_ 2 _ rfl; (with_reducible repeat (first | refine blk_drewN ?_ _ | refine blk_drew ?_ | refine blk_alloc ?_ _)); refine blk_put (cs := #[.int .i64 ((rd_T38 l0 x8_1).f0), .string (⟨#[]⟩ : ByteArray), .int .i64 0, .int .i64 0]) ?_ 1 _ rfl; (with_reducible repeat (first | refine blk_drewN ?_ _ | refine blk_drew ?_ | refine blk_alloc ?_ _)); refine blk_put (cs := #[.int .i64 0, .string (⟨#[]⟩ : ByteArray), .int .i64 0, .int .i64 0]) ?_ 0 _ rfl; (with_reducible repeat (first | refine blk_drewN ?_ _ | refine blk_drew ?_ | refine blk_alloc ?_ _)); exact BK201.out⟩
            have n1_ : Aside0 (Below wr.heap.size wr ((((w14.setCell ⟨gb201, 0, none⟩ (.int .i64 ((rd_T38 l0 x8_1).f0))).setCell ⟨gb201, 1, none⟩ (.string ((rd_T38 l0 x8_1).f1))).setCell ⟨gb201, 2, none⟩ (.int .i64 ((rd_T38 l0 x8_1).f2))).setCell ⟨gb201, 3, none⟩ (.int .i64 ((rd_T38 l0 x8_1).f3)))) := ⟨by repeat (first | (with_reducible first | exact HB.out | apply below_alloc | apply pw_below_drewN | apply below_drew1 | refine below_set ?_ GE201.out) | exact HB.out)⟩
            (try clear BK201)
            (try clear HB)
            generalize ((((w14.setCell ⟨gb201, 0, none⟩ (.int .i64 ((rd_T38 l0 x8_1).f0))).setCell ⟨gb201, 1, none⟩ (.string ((rd_T38 l0 x8_1).f1))).setCell ⟨gb201, 2, none⟩ (.int .i64 ((rd_T38 l0 x8_1).f2))).setCell ⟨gb201, 3, none⟩ (.int .i64 ((rd_T38 l0 x8_1).f3))) = w16 at n0_ n1_ ⊢
            have BK201 := n0_
            have HB := n1_
            clear n0_ n1_
            have n0_ := Aside0.mk (blk_drew BK201.out)
            have n1_ := Aside0.mk (below_drew1 HB.out)
            clear BK201
            clear HB
            have BK201 := n0_
            have HB := n1_
            clear n0_ n1_
            have p202 : 0 ≤ ((ji6) : Int) := of_decide_eq_true (by first | (with_reducible assumption) | assumption)
            have q202 : (ji6) < (l0.length : Int) := of_decide_eq_true (by first | (with_reducible assumption) | assumption)
            obtain ⟨ad202, e202, hx202_0, hx202_1, hx202_2, hx202_3⟩ := at_T38 HR0.out (ji6) p202 q202
            replace hx202_0 := (HBw.out.cell (World.block_lt_of_cell? w _ hx202_0)).trans hx202_0
            replace hx202_1 := (HBw.out.cell (World.block_lt_of_cell? w _ hx202_1)).trans hx202_1
            replace hx202_2 := (HBw.out.cell (World.block_lt_of_cell? w _ hx202_2)).trans hx202_2
            replace hx202_3 := (HBw.out.cell (World.block_lt_of_cell? w _ hx202_3)).trans hx202_3
            have hw202_3 := hx202_3
            have hw202_2 := hx202_2
            have hw202_1 := hx202_1
            have hw202_0 := hx202_0
            obtain rfl : ad200 = ad202 := (by injection e202)
            replace hx202_0 := (HB.out.cell (World.block_lt_of_cell? wr _ hx202_0)).trans hx202_0
            replace hx202_1 := (HB.out.cell (World.block_lt_of_cell? wr _ hx202_1)).trans hx202_1
            replace hx202_2 := (HB.out.cell (World.block_lt_of_cell? wr _ hx202_2)).trans hx202_2
            replace hx202_3 := (HB.out.cell (World.block_lt_of_cell? wr _ hx202_3)).trans hx202_3
            replace p202 := eq_true p202
            replace q202 := eq_true q202
            refine start_ (n := 11) (S := fun w' => w'.cell? ⟨gb201, 0, none⟩ = some (.int .i64 ((rd_T38 l0 x8_1).f0)) ∧ w'.cell? ⟨gb201, 1, none⟩ = some (.string ((rd_T38 l0 x8_1).f1)) ∧ w'.cell? ⟨gb201, 2, none⟩ = some (.int .i64 ((rd_T38 l0 x8_1).f2)) ∧ w'.cell? ⟨gb201, 3, none⟩ = some (.int .i64 ((rd_T38 l0 x8_1).f3)) ∧ w'.cell? (ad200.add (((ji6)).toNat * 4)) = some (.int .i64 ((rd_T38 l0 (ji6)).f0)) ∧ w'.cell? ⟨(ad200.add (((ji6)).toNat * 4)).block, (ad200.add (((ji6)).toNat * 4)).off + 1, none⟩ = some (.string ((rd_T38 l0 (ji6)).f1)) ∧ w'.cell? ⟨(ad200.add (((ji6)).toNat * 4)).block, (ad200.add (((ji6)).toNat * 4)).off + 2, none⟩ = some (.int .i64 ((rd_T38 l0 (ji6)).f2)) ∧ w'.cell? ⟨(ad200.add (((ji6)).toNat * 4)).block, (ad200.add (((ji6)).toNat * 4)).off + 3, none⟩ = some (.int .i64 ((rd_T38 l0 (ji6)).f3))) (ds := []) #[false, false, false, false, false, false, false, false, false, false, false] (by kernel_rfl) rfl rfl ⟨(blk_cell BK201.out 0).trans rfl, (blk_cell BK201.out 1).trans rfl, (blk_cell BK201.out 2).trans rfl, (blk_cell BK201.out 3).trans rfl, ((HB.out.cell (World.block_lt_of_cell? wr _ hw202_0)).trans hw202_0), ((HB.out.cell (World.block_lt_of_cell? wr _ hw202_1)).trans hw202_1), ((HB.out.cell (World.block_lt_of_cell? wr _ hw202_2)).trans hw202_2), ((HB.out.cell (World.block_lt_of_cell? wr _ hw202_3)).trans hw202_3)⟩ (fun hHeld => ?_); refine with_tabW lexer_Join.tab5 lexer_Join.bits5 (fun HT_ HW_ => ?_)
            generalize w16.drew = w17 at BK201 HB hx202_0 hx202_1 hx202_2 hx202_3 hHeld ⊢
            refine pure_ (i := 0) (N := some 13) (v := ?_) (a' := ?_) #[true, false, false, false, false, false, false, false, false, false, false] rfl rfl (any_of HT_.out (by kernel_rfl)) (fun _ _ _ h => h) (Or.inl ⟨by rfl, ?_⟩) ?_ ?_
            rotate_left
            ·
             intro w'
             go_simp
             with_reducible rfl
            rotate_left
            ·
             simp only [Act.put, List.setIfInBounds_toArray, List.set_cons_zero, List.set_cons_succ, i64_w, i32_w]
             rfl
            refine pure_ (i := 1) (N := some 14) (v := ?_) (a' := ?_) #[true, true, false, false, false, false, false, false, false, false, false] rfl rfl (any_of HT_.out (by kernel_rfl)) (fun _ _ _ h => h) (Or.inl ⟨by rfl, ?_⟩) ?_ ?_
            rotate_left
            ·
             intro w'
             go_simp
             with_reducible rfl
            rotate_left
            ·
             simp only [Act.put, List.setIfInBounds_toArray, List.set_cons_zero, List.set_cons_succ, i64_w, i32_w]
             rfl
            refine pure_ (i := 2) (N := some 15) (v := ?_) (a' := ?_) #[true, true, true, false, false, false, false, false, false, false, false] rfl rfl (any_of HT_.out (by kernel_rfl)) (fun _ _ _ h => h) (Or.inl ⟨by rfl, ?_⟩) ?_ ?_
            rotate_left
            ·
             intro w'
             go_simp
             with_reducible rfl
            rotate_left
            ·
             simp only [Act.put, List.setIfInBounds_toArray, List.set_cons_zero, List.set_cons_succ, i64_w, i32_w]
             rfl
            refine pure_ (i := 3) (N := some 16) (v := ?_) (a' := ?_) #[true, true, true, true, false, false, false, false, false, false, false] rfl rfl (any_of HT_.out (by kernel_rfl)) (fun _ _ _ h => h) (Or.inl ⟨by rfl, ?_⟩) ?_ ?_
            rotate_left
            ·
             intro w'
             go_simp
             with_reducible rfl
            rotate_left
            ·
             simp only [Act.put, List.setIfInBounds_toArray, List.set_cons_zero, List.set_cons_succ, i64_w, i32_w]
             rfl
            refine pure_ (i := 4) (N := some 17) (v := ?_) (a' := ?_) #[true, true, true, true, true, false, false, false, false, false, false] rfl rfl (any_of HT_.out (by kernel_rfl)) (fun _ _ _ h => h) (Or.inl ⟨by rfl, ?_⟩) ?_ ?_
            rotate_left
            ·
             intro w'
             go_simp
             with_reducible rfl
            rotate_left
            ·
             simp only [Act.put, List.setIfInBounds_toArray, List.set_cons_zero, List.set_cons_succ, i64_w, i32_w]
             rfl
            refine pure_ (i := 5) (N := some 18) (v := ?_) (a' := ?_) #[true, true, true, true, true, true, false, false, false, false, false] rfl rfl (any_of HT_.out (by kernel_rfl)) (fun _ _ _ h => h) (Or.inl ⟨by rfl, ?_⟩) ?_ ?_
            rotate_left
            ·
             intro w'
             go_simp
             with_reducible rfl
            rotate_left
            ·
             simp only [Act.put, List.setIfInBounds_toArray, List.set_cons_zero, List.set_cons_succ, i64_w, i32_w]
             rfl
            refine pure_ (i := 6) (N := some 19) (v := ?_) (a' := ?_) #[true, true, true, true, true, true, true, false, false, false, false] rfl rfl (any_of HT_.out (by kernel_rfl)) (fun _ _ _ h => h) (Or.inl ⟨by rfl, ?_⟩) ?_ ?_
            rotate_left
            ·
             intro w'
             go_simp
             with_reducible rfl
            rotate_left
            ·
             simp only [Act.put, List.setIfInBounds_toArray, List.set_cons_zero, List.set_cons_succ, i64_w, i32_w]
             rfl
            refine take_ (i := 7) (N := some 20) (v := ?_) (a' := ?_) #[true, true, true, true, true, true, true, true, false, false, false] rfl rfl (take_ofW HT_.out HW_.out (by kernel_rfl)) (fun _ _ _ h => h) (Or.inl ⟨by rfl, ?_⟩) hHeld ?_ ?_
            rotate_left
            ·
             rintro w' ⟨s0, s1, s2, s3, s4, s5, s6, s7⟩
             go_simp
             with_reducible rfl
            rotate_left
            ·
             simp only [Act.put, List.setIfInBounds_toArray, List.set_cons_zero, List.set_cons_succ, i64_w, i32_w]
             rfl
            refine take_ (i := 8) (N := some 21) (v := ?_) (a' := ?_) #[true, true, true, true, true, true, true, true, true, false, false] rfl rfl (take_ofW HT_.out HW_.out (by kernel_rfl)) (fun _ _ _ h => h) (Or.inl ⟨by rfl, ?_⟩) hHeld ?_ ?_
            rotate_left
            ·
             rintro w' ⟨s0, s1, s2, s3, s4, s5, s6, s7⟩
             go_simp
             with_reducible rfl
            rotate_left
            ·
             simp only [Act.put, List.setIfInBounds_toArray, List.set_cons_zero, List.set_cons_succ, i64_w, i32_w]
             rfl
            refine one_ (i := 9) (N := some 22) #[true, true, true, true, true, true, true, true, true, true, false] rfl rfl (one_of HT_.out (by kernel_rfl)) (by decide) (fun K hK => ?_)
            refine goes_ Tryd.func24 (by kernel_rfl) rfl #[.agg #[.int .i64 ((rd_T38 l0 (ji6)).f0), .string ((rd_T38 l0 (ji6)).f1), .int .i64 ((rd_T38 l0 (ji6)).f2), .int .i64 ((rd_T38 l0 (ji6)).f3)], .agg #[.int .i64 ((rd_T38 l0 x8_1).f0), .string ((rd_T38 l0 x8_1).f1), .int .i64 ((rd_T38 l0 x8_1).f2), .int .i64 ((rd_T38 l0 x8_1).f3)]] (by rfl) rfl rfl (by (try simp only [List.map_toArray, List.map_cons, List.map_nil]); first | done | (simp only [hji6]; rfl) | rfl | (simp only [List.length_drop, List.length_take]; rfl)) ?_
            with_reducible refine (lexer_Apart.calls k1 ((rd_T38 l0 (ji6)).f0) ((rd_T38 l0 (ji6)).f1) ((rd_T38 l0 (ji6)).f2) ((rd_T38 l0 (ji6)).f3) ((rd_T38 l0 x8_1).f0) ((rd_T38 l0 x8_1).f1) ((rd_T38 l0 x8_1).f2) ((rd_T38 l0 x8_1).f3) true _ A9.out).mono ?_
            rintro e w18 ⟨rfl, hb⟩
            refine ⟨_, rfl, ?_⟩
            have n0_ := Aside0.mk (blk_below (g := gb201) (o := .cells #[.int .i64 ((rd_T38 l0 x8_1).f0), .string ((rd_T38 l0 x8_1).f1), .int .i64 ((rd_T38 l0 x8_1).f2), .int .i64 ((rd_T38 l0 x8_1).f3)] 38 (0, 0)) (by (with_reducible repeat (first | refine blk_drewN ?_ _ | refine blk_drew ?_ | refine blk_alloc ?_ _)); exact BK201.out) hb)
            have n1_ := Aside0.mk (below_step (by repeat (first | (with_reducible first | exact HB.out | apply below_alloc | apply pw_below_drewN | apply below_drew1 | refine below_set ?_ GE201.out) | exact HB.out)) hb)
            clear BK201
            clear HB
            have BK201 := n0_
            have HB := n1_
            clear n0_ n1_
            (try clear hb)
            (try clear hb2)
            (try clear hk)
            (try clear hi)
            refine hK.out _ _ ⟨(blk_cell BK201.out 0).trans rfl, (blk_cell BK201.out 1).trans rfl, (blk_cell BK201.out 2).trans rfl, (blk_cell BK201.out 3).trans rfl, ((HB.out.cell (World.block_lt_of_cell? wr _ hw202_0)).trans hw202_0), ((HB.out.cell (World.block_lt_of_cell? wr _ hw202_1)).trans hw202_1), ((HB.out.cell (World.block_lt_of_cell? wr _ hw202_2)).trans hw202_2), ((HB.out.cell (World.block_lt_of_cell? wr _ hw202_3)).trans hw202_3)⟩ (fun hHeld => ?_)
            clear hK K
            refine norm_ (a' := ?_) ?_ ?_
            rotate_left
            ·
             show Act.put _ (some 22) _ = _
             simp only [Act.put, List.setIfInBounds_toArray, List.set_cons_zero, List.set_cons_succ, i64_w, i32_w]
             rfl
            refine pure_ (i := 10) (N := some 23) (v := ?_) (a' := ?_) #[true, true, true, true, true, true, true, true, true, true, true] rfl rfl (any_of HT_.out (by kernel_rfl)) (fun _ _ _ h => h) (Or.inl ⟨by rfl, ?_⟩) ?_ ?_
            rotate_left
            ·
             intro w'
             go_simp
             with_reducible rfl
            rotate_left
            ·
             simp only [Act.put, List.setIfInBounds_toArray, List.set_cons_zero, List.set_cons_succ, i64_w, i32_w]
             rfl
            refine done_ (done_of HT_.out (by kernel_rfl)) ?_
            have hcz19_0 : w18.cell? ⟨gb201, 0, none⟩ = some (.int .i64 ((rd_T38 l0 x8_1).f0)) := (blk_cell BK201.out 0).trans rfl
            have hcz19_1 : w18.cell? ⟨gb201, 1, none⟩ = some (.string ((rd_T38 l0 x8_1).f1)) := (blk_cell BK201.out 1).trans rfl
            have hcz19_2 : w18.cell? ⟨gb201, 2, none⟩ = some (.int .i64 ((rd_T38 l0 x8_1).f2)) := (blk_cell BK201.out 2).trans rfl
            have hcz19_3 : w18.cell? ⟨gb201, 3, none⟩ = some (.int .i64 ((rd_T38 l0 x8_1).f3)) := (blk_cell BK201.out 3).trans rfl
            have hfz19_0 := blk_frozen BK201.out 0
            have hfz19_1 := blk_frozen BK201.out 1
            have hfz19_2 := blk_frozen BK201.out 2
            have hfz19_3 := blk_frozen BK201.out 3
            have IB1 := Aside0.mk (ib_step IBw.out HB.out)
            have BW1 := Aside0.mk (HBw.out.trans (HB.out.mono (Nat.le_of_lt HBb.out)))
            have GN1 : gb201 ≠ w.heap.size := fun e => by have h1 := GE201.out; have h2 := HBb.out; omega
            go_wp2_with (first | (go_at_call 39; refine (Tryd.Builder_WriteByte_kB w.heap.size w.heap.size _ 32 _ IB1.out (by rw [ib_len]; exact c11) BW1.out.size).mono ?_; rintro e W1 ⟨rfl, h1, b1, k1_⟩; have n0_ := Aside0.mk (bk_kept BK201.out k1_ GN1); have n1_ := Aside0.mk (BW1.out.trans b1); have n2_ := Aside0.mk (ib_byte h1); clear BK201 BW1 IB1 h1 b1 k1_; clear HB; have BK201 := n0_; have BW1 := n1_; have IB1 := n2_; clear n0_ n1_ n2_; have hcy_0 := (blk_cell BK201.out 0).trans rfl; have hcy_1 := (blk_cell BK201.out 1).trans rfl; have hcy_2 := (blk_cell BK201.out 2).trans rfl; have hcy_3 := (blk_cell BK201.out 3).trans rfl; have hfy_0 := blk_frozen BK201.out 0; have hfy_1 := blk_frozen BK201.out 1; have hfy_2 := blk_frozen BK201.out 2; have hfy_3 := blk_frozen BK201.out 3) | ((with_reducible refine gate_callee (f := 23) rfl ?_); refine goesL_ (some 26) rfl rfl Tryd.func23 (by kernel_rfl) rfl #[.agg #[.int .i64 ((rd_T38 l0 x8_1).f0), .string ((rd_T38 l0 x8_1).f1), .int .i64 ((rd_T38 l0 x8_1).f2), .int .i64 ((rd_T38 l0 x8_1).f3)]] rfl (by (try simp only [List.map_toArray, List.map_cons, List.map_nil]); first | done | rfl | (simp only [List.length_drop, List.length_take]; rfl)) ?_; (with_reducible refine (lexer_Source.calls ((rd_T38 l0 x8_1).f0) ((rd_T38 l0 x8_1).f1) ((rd_T38 l0 x8_1).f2) ((rd_T38 l0 x8_1).f3) t204 _ A12.out).mono ?_); rintro e w20 ⟨rfl, hb⟩; refine ⟨_, rfl, ?_⟩; have n1_ := Aside0.mk (below_step BW1.out hb); have n2_ := Aside0.mk (ib_step IB1.out hb); clear BW1 IB1; have BW1 := n1_; have IB1 := n2_; clear n1_ n2_; clear hb) | (go_at_call 40; refine (Tryd.Builder_WriteString_kB w.heap.size w.heap.size _ t204 _ IB1.out (by rw [ib_len]; exact c13) BW1.out.size).mono ?_; rintro e W3 ⟨rfl, h1, b1, k1_⟩; have n1_ := Aside0.mk (BW1.out.trans b1); have n2_ := Aside0.mk (ib_str h1); clear BW1 IB1 h1 b1 k1_; have BW1 := n1_; have IB1 := n2_; clear n1_ n2_))
            go_roundg k1
            case measure => have := HK1.out; omega
            case rel => exact ⟨((x3_1 ++ (⟨#[32]⟩ : ByteArray)) ++ t204), (wrap64 (x8_1 + 1)), (by first | rfl | (simp; done) | (simp [*]; done)), H', ⟨by have := HK1.out; omega⟩, BW1, IB1⟩
           ·
            rw [if_neg c13] at H
            exact absurd H (by simp)
          ·
           rw [if_neg c11] at H
           exact absurd H (by simp)
         ·
          replace c10 := Bool.eq_false_iff.mpr c10
          subst c10
          have H1 : ((lexer_Source.f ((rd_T38 l0 x8_1).f0) ((rd_T38 l0 x8_1).f1) ((rd_T38 l0 x8_1).f2) ((rd_T38 l0 x8_1).f3)).bind fun t205 => (if x3_1.size + t205.size ≤ 140737488355328 then (lexer_Join.l0 k1 l0 (x3_1 ++ t205) l0 (l0.length : Int) (wrap64 (x8_1 + 1))) else (none))) = some r := by rw [if_neg (show ¬ (false = true) by decide)] at H; exact H
          clear H
          have H := H1
          clear H1
          replace H := Option.bind_eq_some_iff.mp H
          obtain ⟨t205, A210, H⟩ := H
          replace H : (if x3_1.size + t205.size ≤ 140737488355328 then (lexer_Join.l0 k1 l0 (x3_1 ++ t205) l0 (l0.length : Int) (wrap64 (x8_1 + 1))) else (none)) = some r := H
          have A21 := Aside0.mk A210
          clear A210
          by_cases c22 : x3_1.size + t205.size ≤ 140737488355328
          ·
           rw [if_pos c22] at H
           have c22b0 := eq_true c22
           have c22b1 : decide (x3_1.size + t205.size ≤ 140737488355328) = true := decide_eq_true c22
           try have c22b2 : (140737488355328 < x3_1.size + t205.size) = False := eq_false (Nat.not_lt.2 c22)
           have H' := Aside0.mk H
           clear H
           have p200 : 0 ≤ (x8_1 : Int) := of_decide_eq_true (by first | (with_reducible assumption) | assumption)
           have q200 : x8_1 < (l0.length : Int) := of_decide_eq_true (by first | (with_reducible assumption) | assumption)
           obtain ⟨ad200, e200, hx200_0, hx200_1, hx200_2, hx200_3⟩ := at_T38 HR0.out x8_1 p200 q200
           cases e200
           replace hx200_0 := (HBw.out.cell (World.block_lt_of_cell? w _ hx200_0)).trans hx200_0
           replace hx200_1 := (HBw.out.cell (World.block_lt_of_cell? w _ hx200_1)).trans hx200_1
           replace hx200_2 := (HBw.out.cell (World.block_lt_of_cell? w _ hx200_2)).trans hx200_2
           replace hx200_3 := (HBw.out.cell (World.block_lt_of_cell? w _ hx200_3)).trans hx200_3
           replace p200 := eq_true p200
           replace q200 := eq_true q200
           try go_wp2_with (first | ((with_reducible refine gate_dst (N := 5) rfl ?_); refine box_event ?hg (N := 5) ?hd (cs := #[.int .i64 0, .string (⟨#[]⟩ : ByteArray), .int .i64 0, .int .i64 0]) (t := 38) ?hr ?_; (case hd => rfl); (case hg => rfl); (case hr => first | (go_simp; done) | (go_simp; rfl)); intro gb201 hg w23 hbox hb; have n0_ := Aside0.mk (below_step (by repeat (first | (with_reducible first | exact HB.out | apply below_alloc | apply pw_below_drewN | apply below_drew1) | exact HB.out)) hb); have n1_ := Aside0.mk (hbox); have n2_ := Aside0.mk ((by rw [hg]; exact (below_size (by repeat (first | (with_reducible first | exact HB.out | apply below_alloc | apply pw_below_drewN | apply below_drew1) | exact HB.out))) : wr.heap.size ≤ gb201)); have n3_ := Aside0.mk ((by rw [hg]; exact (below_size (by repeat (first | (with_reducible first | exact HB.out | apply below_alloc | apply pw_below_drewN | apply below_drew1) | exact HB.out))) : wr.heap.size ≤ gb201)); clear HB; have HB := n0_; have BK201 := n1_; have GW201 := n2_; have GE201 := n3_; clear n0_ n1_ n2_ n3_; clear hb hbox hg; have hcz24_0 : w23.cell? ⟨gb201, 0, none⟩ = some (.int .i64 0) := (blk_cell BK201.out 0).trans rfl; have hcz24_1 : w23.cell? ⟨gb201, 1, none⟩ = some (.string (⟨#[]⟩ : ByteArray)) := (blk_cell BK201.out 1).trans rfl; have hcz24_2 : w23.cell? ⟨gb201, 2, none⟩ = some (.int .i64 0) := (blk_cell BK201.out 2).trans rfl; have hcz24_3 : w23.cell? ⟨gb201, 3, none⟩ = some (.int .i64 0) := (blk_cell BK201.out 3).trans rfl; have hfz24_0 := blk_frozen BK201.out 0; have hfz24_1 := blk_frozen BK201.out 1; have hfz24_2 := blk_frozen BK201.out 2; have hfz24_3 := blk_frozen BK201.out 3))
           have n0_ : Aside0 (((((w23.setCell ⟨gb201, 0, none⟩ (.int .i64 ((rd_T38 l0 x8_1).f0))).setCell ⟨gb201, 1, none⟩ (.string ((rd_T38 l0 x8_1).f1))).setCell ⟨gb201, 2, none⟩ (.int .i64 ((rd_T38 l0 x8_1).f2))).setCell ⟨gb201, 3, none⟩ (.int .i64 ((rd_T38 l0 x8_1).f3))).heap[gb201]? = some (.cells #[.int .i64 ((rd_T38 l0 x8_1).f0), .string ((rd_T38 l0 x8_1).f1), .int .i64 ((rd_T38 l0 x8_1).f2), .int .i64 ((rd_T38 l0 x8_1).f3)] 38 (0, 0))) := ⟨by (with_reducible repeat (first | refine blk_drewN ?_ _ | refine blk_drew ?_ | refine blk_alloc ?_ _)); refine blk_put (cs := #[.int .i64 ((rd_T38 l0 x8_1).f0), .string ((rd_T38 l0 x8_1).f1), .int .i64 ((rd_T38 l0 x8_1).f2), .int .i64 0]) ?_ 3 _ rfl; (with_reducible repeat (first | refine blk_drewN ?_ _ | refine blk_drew ?_ | refine blk_alloc ?_ _)); refine blk_put (cs := #[.int .i64 ((rd_T38 l0 x8_1).f0), .string ((rd_T38 l0 x8_1).f1), .int .i64 0, .int .i64 0]) ?_ 2 _ rfl; (with_reducible repeat (first | refine blk_drewN ?_ _ | refine blk_drew ?_ | refine blk_alloc ?_ _)); refine blk_put (cs := #[.int .i64 ((rd_T38 l0 x8_1).f0), .string (⟨#[]⟩ : ByteArray), .int .i64 0, .int .i64 0]) ?_ 1 _ rfl; (with_reducible repeat (first | refine blk_drewN ?_ _ | refine blk_drew ?_ | refine blk_alloc ?_ _)); refine blk_put (cs := #[.int .i64 0, .string (⟨#[]⟩ : ByteArray), .int .i64 0, .int .i64 0]) ?_ 0 _ rfl; (with_reducible repeat (first | refine blk_drewN ?_ _ | refine blk_drew ?_ | refine blk_alloc ?_ _)); exact BK201.out⟩
           have n1_ : Aside0 (Below wr.heap.size wr ((((w23.setCell ⟨gb201, 0, none⟩ (.int .i64 ((rd_T38 l0 x8_1).f0))).setCell ⟨gb201, 1, none⟩ (.string ((rd_T38 l0 x8_1).f1))).setCell ⟨gb201, 2, none⟩ (.int .i64 ((rd_T38 l0 x8_1).f2))).setCell ⟨gb201, 3, none⟩ (.int .i64 ((rd_T38 l0 x8_1).f3)))) := ⟨by repeat (first | (with_reducible first | exact HB.out | apply below_alloc | apply pw_below_drewN | apply below_drew1 | refine below_set ?_ GE201.out) | exact HB.out)⟩
           (try clear BK201)
           (try clear HB)
           generalize ((((w23.setCell ⟨gb201, 0, none⟩ (.int .i64 ((rd_T38 l0 x8_1).f0))).setCell ⟨gb201, 1, none⟩ (.string ((rd_T38 l0 x8_1).f1))).setCell ⟨gb201, 2, none⟩ (.int .i64 ((rd_T38 l0 x8_1).f2))).setCell ⟨gb201, 3, none⟩ (.int .i64 ((rd_T38 l0 x8_1).f3))) = w25 at n0_ n1_ ⊢
           have BK201 := n0_
           have HB := n1_
           clear n0_ n1_
           have n0_ := Aside0.mk (blk_drew BK201.out)
           have n1_ := Aside0.mk (below_drew1 HB.out)
           clear BK201
           clear HB
           have BK201 := n0_
           have HB := n1_
           clear n0_ n1_
           have p202 : 0 ≤ ((ji6) : Int) := of_decide_eq_true (by first | (with_reducible assumption) | assumption)
           have q202 : (ji6) < (l0.length : Int) := of_decide_eq_true (by first | (with_reducible assumption) | assumption)
           obtain ⟨ad202, e202, hx202_0, hx202_1, hx202_2, hx202_3⟩ := at_T38 HR0.out (ji6) p202 q202
           replace hx202_0 := (HBw.out.cell (World.block_lt_of_cell? w _ hx202_0)).trans hx202_0
           replace hx202_1 := (HBw.out.cell (World.block_lt_of_cell? w _ hx202_1)).trans hx202_1
           replace hx202_2 := (HBw.out.cell (World.block_lt_of_cell? w _ hx202_2)).trans hx202_2
           replace hx202_3 := (HBw.out.cell (World.block_lt_of_cell? w _ hx202_3)).trans hx202_3
           have hw202_3 := hx202_3
           have hw202_2 := hx202_2
           have hw202_1 := hx202_1
           have hw202_0 := hx202_0
           obtain rfl : ad200 = ad202 := (by injection e202)
           replace hx202_0 := (HB.out.cell (World.block_lt_of_cell? wr _ hx202_0)).trans hx202_0
           replace hx202_1 := (HB.out.cell (World.block_lt_of_cell? wr _ hx202_1)).trans hx202_1
           replace hx202_2 := (HB.out.cell (World.block_lt_of_cell? wr _ hx202_2)).trans hx202_2
           replace hx202_3 := (HB.out.cell (World.block_lt_of_cell? wr _ hx202_3)).trans hx202_3
           replace p202 := eq_true p202
           replace q202 := eq_true q202
           refine start_ (n := 11) (S := fun w' => w'.cell? ⟨gb201, 0, none⟩ = some (.int .i64 ((rd_T38 l0 x8_1).f0)) ∧ w'.cell? ⟨gb201, 1, none⟩ = some (.string ((rd_T38 l0 x8_1).f1)) ∧ w'.cell? ⟨gb201, 2, none⟩ = some (.int .i64 ((rd_T38 l0 x8_1).f2)) ∧ w'.cell? ⟨gb201, 3, none⟩ = some (.int .i64 ((rd_T38 l0 x8_1).f3)) ∧ w'.cell? (ad200.add (((ji6)).toNat * 4)) = some (.int .i64 ((rd_T38 l0 (ji6)).f0)) ∧ w'.cell? ⟨(ad200.add (((ji6)).toNat * 4)).block, (ad200.add (((ji6)).toNat * 4)).off + 1, none⟩ = some (.string ((rd_T38 l0 (ji6)).f1)) ∧ w'.cell? ⟨(ad200.add (((ji6)).toNat * 4)).block, (ad200.add (((ji6)).toNat * 4)).off + 2, none⟩ = some (.int .i64 ((rd_T38 l0 (ji6)).f2)) ∧ w'.cell? ⟨(ad200.add (((ji6)).toNat * 4)).block, (ad200.add (((ji6)).toNat * 4)).off + 3, none⟩ = some (.int .i64 ((rd_T38 l0 (ji6)).f3))) (ds := []) #[false, false, false, false, false, false, false, false, false, false, false] (by kernel_rfl) rfl rfl ⟨(blk_cell BK201.out 0).trans rfl, (blk_cell BK201.out 1).trans rfl, (blk_cell BK201.out 2).trans rfl, (blk_cell BK201.out 3).trans rfl, ((HB.out.cell (World.block_lt_of_cell? wr _ hw202_0)).trans hw202_0), ((HB.out.cell (World.block_lt_of_cell? wr _ hw202_1)).trans hw202_1), ((HB.out.cell (World.block_lt_of_cell? wr _ hw202_2)).trans hw202_2), ((HB.out.cell (World.block_lt_of_cell? wr _ hw202_3)).trans hw202_3)⟩ (fun hHeld => ?_); refine with_tabW lexer_Join.tab5 lexer_Join.bits5 (fun HT_ HW_ => ?_)
           generalize w25.drew = w26 at BK201 HB hx202_0 hx202_1 hx202_2 hx202_3 hHeld ⊢
           refine pure_ (i := 0) (N := some 13) (v := ?_) (a' := ?_) #[true, false, false, false, false, false, false, false, false, false, false] rfl rfl (any_of HT_.out (by kernel_rfl)) (fun _ _ _ h => h) (Or.inl ⟨by rfl, ?_⟩) ?_ ?_
           rotate_left
           ·
            intro w'
            go_simp
            with_reducible rfl
           rotate_left
           ·
            simp only [Act.put, List.setIfInBounds_toArray, List.set_cons_zero, List.set_cons_succ, i64_w, i32_w]
            rfl
           refine pure_ (i := 1) (N := some 14) (v := ?_) (a' := ?_) #[true, true, false, false, false, false, false, false, false, false, false] rfl rfl (any_of HT_.out (by kernel_rfl)) (fun _ _ _ h => h) (Or.inl ⟨by rfl, ?_⟩) ?_ ?_
           rotate_left
           ·
            intro w'
            go_simp
            with_reducible rfl
           rotate_left
           ·
            simp only [Act.put, List.setIfInBounds_toArray, List.set_cons_zero, List.set_cons_succ, i64_w, i32_w]
            rfl
           refine pure_ (i := 2) (N := some 15) (v := ?_) (a' := ?_) #[true, true, true, false, false, false, false, false, false, false, false] rfl rfl (any_of HT_.out (by kernel_rfl)) (fun _ _ _ h => h) (Or.inl ⟨by rfl, ?_⟩) ?_ ?_
           rotate_left
           ·
            intro w'
            go_simp
            with_reducible rfl
           rotate_left
           ·
            simp only [Act.put, List.setIfInBounds_toArray, List.set_cons_zero, List.set_cons_succ, i64_w, i32_w]
            rfl
           refine pure_ (i := 3) (N := some 16) (v := ?_) (a' := ?_) #[true, true, true, true, false, false, false, false, false, false, false] rfl rfl (any_of HT_.out (by kernel_rfl)) (fun _ _ _ h => h) (Or.inl ⟨by rfl, ?_⟩) ?_ ?_
           rotate_left
           ·
            intro w'
            go_simp
            with_reducible rfl
           rotate_left
           ·
            simp only [Act.put, List.setIfInBounds_toArray, List.set_cons_zero, List.set_cons_succ, i64_w, i32_w]
            rfl
           refine pure_ (i := 4) (N := some 17) (v := ?_) (a' := ?_) #[true, true, true, true, true, false, false, false, false, false, false] rfl rfl (any_of HT_.out (by kernel_rfl)) (fun _ _ _ h => h) (Or.inl ⟨by rfl, ?_⟩) ?_ ?_
           rotate_left
           ·
            intro w'
            go_simp
            with_reducible rfl
           rotate_left
           ·
            simp only [Act.put, List.setIfInBounds_toArray, List.set_cons_zero, List.set_cons_succ, i64_w, i32_w]
            rfl
           refine pure_ (i := 5) (N := some 18) (v := ?_) (a' := ?_) #[true, true, true, true, true, true, false, false, false, false, false] rfl rfl (any_of HT_.out (by kernel_rfl)) (fun _ _ _ h => h) (Or.inl ⟨by rfl, ?_⟩) ?_ ?_
           rotate_left
           ·
            intro w'
            go_simp
            with_reducible rfl
           rotate_left
           ·
            simp only [Act.put, List.setIfInBounds_toArray, List.set_cons_zero, List.set_cons_succ, i64_w, i32_w]
            rfl
           refine pure_ (i := 6) (N := some 19) (v := ?_) (a' := ?_) #[true, true, true, true, true, true, true, false, false, false, false] rfl rfl (any_of HT_.out (by kernel_rfl)) (fun _ _ _ h => h) (Or.inl ⟨by rfl, ?_⟩) ?_ ?_
           rotate_left
           ·
            intro w'
            go_simp
            with_reducible rfl
           rotate_left
           ·
            simp only [Act.put, List.setIfInBounds_toArray, List.set_cons_zero, List.set_cons_succ, i64_w, i32_w]
            rfl
           refine take_ (i := 7) (N := some 20) (v := ?_) (a' := ?_) #[true, true, true, true, true, true, true, true, false, false, false] rfl rfl (take_ofW HT_.out HW_.out (by kernel_rfl)) (fun _ _ _ h => h) (Or.inl ⟨by rfl, ?_⟩) hHeld ?_ ?_
           rotate_left
           ·
            rintro w' ⟨s0, s1, s2, s3, s4, s5, s6, s7⟩
            go_simp
            with_reducible rfl
           rotate_left
           ·
            simp only [Act.put, List.setIfInBounds_toArray, List.set_cons_zero, List.set_cons_succ, i64_w, i32_w]
            rfl
           refine take_ (i := 8) (N := some 21) (v := ?_) (a' := ?_) #[true, true, true, true, true, true, true, true, true, false, false] rfl rfl (take_ofW HT_.out HW_.out (by kernel_rfl)) (fun _ _ _ h => h) (Or.inl ⟨by rfl, ?_⟩) hHeld ?_ ?_
           rotate_left
           ·
            rintro w' ⟨s0, s1, s2, s3, s4, s5, s6, s7⟩
            go_simp
            with_reducible rfl
           rotate_left
           ·
            simp only [Act.put, List.setIfInBounds_toArray, List.set_cons_zero, List.set_cons_succ, i64_w, i32_w]
            rfl
           refine one_ (i := 9) (N := some 22) #[true, true, true, true, true, true, true, true, true, true, false] rfl rfl (one_of HT_.out (by kernel_rfl)) (by decide) (fun K hK => ?_)
           refine goes_ Tryd.func24 (by kernel_rfl) rfl #[.agg #[.int .i64 ((rd_T38 l0 (ji6)).f0), .string ((rd_T38 l0 (ji6)).f1), .int .i64 ((rd_T38 l0 (ji6)).f2), .int .i64 ((rd_T38 l0 (ji6)).f3)], .agg #[.int .i64 ((rd_T38 l0 x8_1).f0), .string ((rd_T38 l0 x8_1).f1), .int .i64 ((rd_T38 l0 x8_1).f2), .int .i64 ((rd_T38 l0 x8_1).f3)]] (by rfl) rfl rfl (by (try simp only [List.map_toArray, List.map_cons, List.map_nil]); first | done | (simp only [hji6]; rfl) | rfl | (simp only [List.length_drop, List.length_take]; rfl)) ?_
           with_reducible refine (lexer_Apart.calls k1 ((rd_T38 l0 (ji6)).f0) ((rd_T38 l0 (ji6)).f1) ((rd_T38 l0 (ji6)).f2) ((rd_T38 l0 (ji6)).f3) ((rd_T38 l0 x8_1).f0) ((rd_T38 l0 x8_1).f1) ((rd_T38 l0 x8_1).f2) ((rd_T38 l0 x8_1).f3) false _ A9.out).mono ?_
           rintro e w27 ⟨rfl, hb⟩
           refine ⟨_, rfl, ?_⟩
           have n0_ := Aside0.mk (blk_below (g := gb201) (o := .cells #[.int .i64 ((rd_T38 l0 x8_1).f0), .string ((rd_T38 l0 x8_1).f1), .int .i64 ((rd_T38 l0 x8_1).f2), .int .i64 ((rd_T38 l0 x8_1).f3)] 38 (0, 0)) (by (with_reducible repeat (first | refine blk_drewN ?_ _ | refine blk_drew ?_ | refine blk_alloc ?_ _)); exact BK201.out) hb)
           have n1_ := Aside0.mk (below_step (by repeat (first | (with_reducible first | exact HB.out | apply below_alloc | apply pw_below_drewN | apply below_drew1 | refine below_set ?_ GE201.out) | exact HB.out)) hb)
           clear BK201
           clear HB
           have BK201 := n0_
           have HB := n1_
           clear n0_ n1_
           (try clear hb)
           (try clear hb2)
           (try clear hk)
           (try clear hi)
           refine hK.out _ _ ⟨(blk_cell BK201.out 0).trans rfl, (blk_cell BK201.out 1).trans rfl, (blk_cell BK201.out 2).trans rfl, (blk_cell BK201.out 3).trans rfl, ((HB.out.cell (World.block_lt_of_cell? wr _ hw202_0)).trans hw202_0), ((HB.out.cell (World.block_lt_of_cell? wr _ hw202_1)).trans hw202_1), ((HB.out.cell (World.block_lt_of_cell? wr _ hw202_2)).trans hw202_2), ((HB.out.cell (World.block_lt_of_cell? wr _ hw202_3)).trans hw202_3)⟩ (fun hHeld => ?_)
           clear hK K
           refine norm_ (a' := ?_) ?_ ?_
           rotate_left
           ·
            show Act.put _ (some 22) _ = _
            simp only [Act.put, List.setIfInBounds_toArray, List.set_cons_zero, List.set_cons_succ, i64_w, i32_w]
            rfl
           refine pure_ (i := 10) (N := some 23) (v := ?_) (a' := ?_) #[true, true, true, true, true, true, true, true, true, true, true] rfl rfl (any_of HT_.out (by kernel_rfl)) (fun _ _ _ h => h) (Or.inl ⟨by rfl, ?_⟩) ?_ ?_
           rotate_left
           ·
            intro w'
            go_simp
            with_reducible rfl
           rotate_left
           ·
            simp only [Act.put, List.setIfInBounds_toArray, List.set_cons_zero, List.set_cons_succ, i64_w, i32_w]
            rfl
           refine done_ (done_of HT_.out (by kernel_rfl)) ?_
           have hcz28_0 : w27.cell? ⟨gb201, 0, none⟩ = some (.int .i64 ((rd_T38 l0 x8_1).f0)) := (blk_cell BK201.out 0).trans rfl
           have hcz28_1 : w27.cell? ⟨gb201, 1, none⟩ = some (.string ((rd_T38 l0 x8_1).f1)) := (blk_cell BK201.out 1).trans rfl
           have hcz28_2 : w27.cell? ⟨gb201, 2, none⟩ = some (.int .i64 ((rd_T38 l0 x8_1).f2)) := (blk_cell BK201.out 2).trans rfl
           have hcz28_3 : w27.cell? ⟨gb201, 3, none⟩ = some (.int .i64 ((rd_T38 l0 x8_1).f3)) := (blk_cell BK201.out 3).trans rfl
           have hfz28_0 := blk_frozen BK201.out 0
           have hfz28_1 := blk_frozen BK201.out 1
           have hfz28_2 := blk_frozen BK201.out 2
           have hfz28_3 := blk_frozen BK201.out 3
           have IB1 := Aside0.mk (ib_step IBw.out HB.out)
           have BW1 := Aside0.mk (HBw.out.trans (HB.out.mono (Nat.le_of_lt HBb.out)))
           have GN1 : gb201 ≠ w.heap.size := fun e => by have h1 := GE201.out; have h2 := HBb.out; omega
           go_wp2_with (first | ((with_reducible refine gate_callee (f := 23) rfl ?_); refine goesL_ (some 26) rfl rfl Tryd.func23 (by kernel_rfl) rfl #[.agg #[.int .i64 ((rd_T38 l0 x8_1).f0), .string ((rd_T38 l0 x8_1).f1), .int .i64 ((rd_T38 l0 x8_1).f2), .int .i64 ((rd_T38 l0 x8_1).f3)]] rfl (by (try simp only [List.map_toArray, List.map_cons, List.map_nil]); first | done | rfl | (simp only [List.length_drop, List.length_take]; rfl)) ?_; (with_reducible refine (lexer_Source.calls ((rd_T38 l0 x8_1).f0) ((rd_T38 l0 x8_1).f1) ((rd_T38 l0 x8_1).f2) ((rd_T38 l0 x8_1).f3) t205 _ A21.out).mono ?_); rintro e w20 ⟨rfl, hb⟩; refine ⟨_, rfl, ?_⟩; have n1_ := Aside0.mk (below_step BW1.out hb); have n2_ := Aside0.mk (ib_step IB1.out hb); clear BW1 IB1; have BW1 := n1_; have IB1 := n2_; clear n1_ n2_; clear hb) | (go_at_call 40; refine (Tryd.Builder_WriteString_kB w.heap.size w.heap.size _ t205 _ IB1.out (by rw [ib_len]; exact c22) BW1.out.size).mono ?_; rintro e W3 ⟨rfl, h1, b1, k1_⟩; have n1_ := Aside0.mk (BW1.out.trans b1); have n2_ := Aside0.mk (ib_str h1); clear BW1 IB1 h1 b1 k1_; have BW1 := n1_; have IB1 := n2_; clear n1_ n2_))
           go_roundg k1
           case measure => have := HK1.out; omega
           case rel => exact ⟨(x3_1 ++ t205), (wrap64 (x8_1 + 1)), (by first | rfl | (simp; done) | (simp [*]; done)), H', ⟨by have := HK1.out; omega⟩, BW1, IB1⟩
          ·
           rw [if_neg c22] at H
           exact absurd H (by simp)
        ·
         rw [if_neg c8] at H
         exact absurd H (by simp)
       ·
        rw [if_neg c7] at H
        exact absurd H (by simp)
      ·
       rw [if_neg c5] at H
       have c5b0 : decide (0 < x8_1) = false := decide_eq_false c5
       clear c5
       replace H := Option.bind_eq_some_iff.mp H
       obtain ⟨t206, A300, H⟩ := H
       replace H : (if x3_1.size + t206.size ≤ 140737488355328 then (lexer_Join.l0 k1 l0 (x3_1 ++ t206) l0 (l0.length : Int) (wrap64 (x8_1 + 1))) else (none)) = some r := H
       have A30 := Aside0.mk A300
       clear A300
       by_cases c31 : x3_1.size + t206.size ≤ 140737488355328
       ·
        rw [if_pos c31] at H
        have c31b0 := eq_true c31
        have c31b1 : decide (x3_1.size + t206.size ≤ 140737488355328) = true := decide_eq_true c31
        try have c31b2 : (140737488355328 < x3_1.size + t206.size) = False := eq_false (Nat.not_lt.2 c31)
        have H' := Aside0.mk H
        clear H
        have p200 : 0 ≤ (x8_1 : Int) := of_decide_eq_true (by first | (with_reducible assumption) | assumption)
        have q200 : x8_1 < (l0.length : Int) := of_decide_eq_true (by first | (with_reducible assumption) | assumption)
        obtain ⟨ad200, e200, hx200_0, hx200_1, hx200_2, hx200_3⟩ := at_T38 HR0.out x8_1 p200 q200
        cases e200
        replace hx200_0 := (HBw.out.cell (World.block_lt_of_cell? w _ hx200_0)).trans hx200_0
        replace hx200_1 := (HBw.out.cell (World.block_lt_of_cell? w _ hx200_1)).trans hx200_1
        replace hx200_2 := (HBw.out.cell (World.block_lt_of_cell? w _ hx200_2)).trans hx200_2
        replace hx200_3 := (HBw.out.cell (World.block_lt_of_cell? w _ hx200_3)).trans hx200_3
        replace p200 := eq_true p200
        replace q200 := eq_true q200
        try go_wp2_with (first | ((with_reducible refine gate_dst (N := 5) rfl ?_); refine box_event ?hg (N := 5) ?hd (cs := #[.int .i64 0, .string (⟨#[]⟩ : ByteArray), .int .i64 0, .int .i64 0]) (t := 38) ?hr ?_; (case hd => rfl); (case hg => rfl); (case hr => first | (go_simp; done) | (go_simp; rfl)); intro gb201 hg w32 hbox hb; have n0_ := Aside0.mk (below_step (by repeat (first | (with_reducible first | exact HB.out | apply below_alloc | apply pw_below_drewN | apply below_drew1) | exact HB.out)) hb); have n1_ := Aside0.mk (hbox); have n2_ := Aside0.mk ((by rw [hg]; exact (below_size (by repeat (first | (with_reducible first | exact HB.out | apply below_alloc | apply pw_below_drewN | apply below_drew1) | exact HB.out))) : wr.heap.size ≤ gb201)); have n3_ := Aside0.mk ((by rw [hg]; exact (below_size (by repeat (first | (with_reducible first | exact HB.out | apply below_alloc | apply pw_below_drewN | apply below_drew1) | exact HB.out))) : wr.heap.size ≤ gb201)); clear HB; have HB := n0_; have BK201 := n1_; have GW201 := n2_; have GE201 := n3_; clear n0_ n1_ n2_ n3_; clear hb hbox hg; have hcz33_0 : w32.cell? ⟨gb201, 0, none⟩ = some (.int .i64 0) := (blk_cell BK201.out 0).trans rfl; have hcz33_1 : w32.cell? ⟨gb201, 1, none⟩ = some (.string (⟨#[]⟩ : ByteArray)) := (blk_cell BK201.out 1).trans rfl; have hcz33_2 : w32.cell? ⟨gb201, 2, none⟩ = some (.int .i64 0) := (blk_cell BK201.out 2).trans rfl; have hcz33_3 : w32.cell? ⟨gb201, 3, none⟩ = some (.int .i64 0) := (blk_cell BK201.out 3).trans rfl; have hfz33_0 := blk_frozen BK201.out 0; have hfz33_1 := blk_frozen BK201.out 1; have hfz33_2 := blk_frozen BK201.out 2; have hfz33_3 := blk_frozen BK201.out 3))
        have n0_ : Aside0 (((((w32.setCell ⟨gb201, 0, none⟩ (.int .i64 ((rd_T38 l0 x8_1).f0))).setCell ⟨gb201, 1, none⟩ (.string ((rd_T38 l0 x8_1).f1))).setCell ⟨gb201, 2, none⟩ (.int .i64 ((rd_T38 l0 x8_1).f2))).setCell ⟨gb201, 3, none⟩ (.int .i64 ((rd_T38 l0 x8_1).f3))).heap[gb201]? = some (.cells #[.int .i64 ((rd_T38 l0 x8_1).f0), .string ((rd_T38 l0 x8_1).f1), .int .i64 ((rd_T38 l0 x8_1).f2), .int .i64 ((rd_T38 l0 x8_1).f3)] 38 (0, 0))) := ⟨by (with_reducible repeat (first | refine blk_drewN ?_ _ | refine blk_drew ?_ | refine blk_alloc ?_ _)); refine blk_put (cs := #[.int .i64 ((rd_T38 l0 x8_1).f0), .string ((rd_T38 l0 x8_1).f1), .int .i64 ((rd_T38 l0 x8_1).f2), .int .i64 0]) ?_ 3 _ rfl; (with_reducible repeat (first | refine blk_drewN ?_ _ | refine blk_drew ?_ | refine blk_alloc ?_ _)); refine blk_put (cs := #[.int .i64 ((rd_T38 l0 x8_1).f0), .string ((rd_T38 l0 x8_1).f1), .int .i64 0, .int .i64 0]) ?_ 2 _ rfl; (with_reducible repeat (first | refine blk_drewN ?_ _ | refine blk_drew ?_ | refine blk_alloc ?_ _)); refine blk_put (cs := #[.int .i64 ((rd_T38 l0 x8_1).f0), .string (⟨#[]⟩ : ByteArray), .int .i64 0, .int .i64 0]) ?_ 1 _ rfl; (with_reducible repeat (first | refine blk_drewN ?_ _ | refine blk_drew ?_ | refine blk_alloc ?_ _)); refine blk_put (cs := #[.int .i64 0, .string (⟨#[]⟩ : ByteArray), .int .i64 0, .int .i64 0]) ?_ 0 _ rfl; (with_reducible repeat (first | refine blk_drewN ?_ _ | refine blk_drew ?_ | refine blk_alloc ?_ _)); exact BK201.out⟩
        have n1_ : Aside0 (Below wr.heap.size wr ((((w32.setCell ⟨gb201, 0, none⟩ (.int .i64 ((rd_T38 l0 x8_1).f0))).setCell ⟨gb201, 1, none⟩ (.string ((rd_T38 l0 x8_1).f1))).setCell ⟨gb201, 2, none⟩ (.int .i64 ((rd_T38 l0 x8_1).f2))).setCell ⟨gb201, 3, none⟩ (.int .i64 ((rd_T38 l0 x8_1).f3)))) := ⟨by repeat (first | (with_reducible first | exact HB.out | apply below_alloc | apply pw_below_drewN | apply below_drew1 | refine below_set ?_ GE201.out) | exact HB.out)⟩
        (try clear BK201)
        (try clear HB)
        generalize ((((w32.setCell ⟨gb201, 0, none⟩ (.int .i64 ((rd_T38 l0 x8_1).f0))).setCell ⟨gb201, 1, none⟩ (.string ((rd_T38 l0 x8_1).f1))).setCell ⟨gb201, 2, none⟩ (.int .i64 ((rd_T38 l0 x8_1).f2))).setCell ⟨gb201, 3, none⟩ (.int .i64 ((rd_T38 l0 x8_1).f3))) = w34 at n0_ n1_ ⊢
        have BK201 := n0_
        have HB := n1_
        clear n0_ n1_
        have n0_ := Aside0.mk (blk_drew BK201.out)
        have n1_ := Aside0.mk (below_drew1 HB.out)
        clear BK201
        clear HB
        have BK201 := n0_
        have HB := n1_
        clear n0_ n1_
        refine start_ (n := 11) (S := fun w' => True) (ds := []) #[false, false, false, false, false, false, false, false, false, false, false] (by kernel_rfl) rfl rfl trivial (fun hHeld => ?_); refine with_tabW lexer_Join.tab5 lexer_Join.bits5 (fun HT_ HW_ => ?_)
        generalize w34.drew = w35 at BK201 HB hHeld ⊢
        refine pure_ (i := 0) (N := some 13) (v := ?_) (a' := ?_) #[true, false, false, false, false, false, false, false, false, false, false] rfl rfl (any_of HT_.out (by kernel_rfl)) (fun _ _ _ h => h) (Or.inl ⟨by rfl, ?_⟩) ?_ ?_
        rotate_left
        ·
         intro w'
         go_simp
         with_reducible rfl
        rotate_left
        ·
         simp only [Act.put, List.setIfInBounds_toArray, List.set_cons_zero, List.set_cons_succ, i64_w, i32_w]
         rfl
        refine pure_ (i := 1) (N := some 14) (v := ?_) (a' := ?_) #[true, true, false, false, false, false, false, false, false, false, false] rfl rfl (any_of HT_.out (by kernel_rfl)) (fun _ _ _ h => h) (Or.inl ⟨by rfl, ?_⟩) ?_ ?_
        rotate_left
        ·
         intro w'
         go_simp
         with_reducible rfl
        rotate_left
        ·
         simp only [Act.put, List.setIfInBounds_toArray, List.set_cons_zero, List.set_cons_succ, i64_w, i32_w]
         rfl
        refine pure_ (i := 2) (N := some 15) (v := ?_) (a' := ?_) #[true, true, true, false, false, false, false, false, false, false, false] rfl rfl (any_of HT_.out (by kernel_rfl)) (fun _ _ _ h => h) (Or.inl ⟨by rfl, ?_⟩) ?_ ?_
        rotate_left
        ·
         intro w'
         go_simp
         with_reducible rfl
        rotate_left
        ·
         simp only [Act.put, List.setIfInBounds_toArray, List.set_cons_zero, List.set_cons_succ, i64_w, i32_w]
         rfl
        refine pure_ (i := 3) (N := some 16) (v := undef) (a' := ?_) #[true, true, true, true, false, false, false, false, false, false, false] rfl rfl (any_of HT_.out (by kernel_rfl)) (fun _ _ _ h => h) (Or.inr ⟨by rfl, rfl⟩) ?_ ?_
        rotate_left
        ·
         simp only [Act.put, List.setIfInBounds_toArray, List.set_cons_zero, List.set_cons_succ, i64_w, i32_w]
         rfl
        refine pure_ (i := 4) (N := some 17) (v := undef) (a' := ?_) #[true, true, true, true, true, false, false, false, false, false, false] rfl rfl (any_of HT_.out (by kernel_rfl)) (fun _ _ _ h => h) (Or.inr ⟨by rfl, rfl⟩) ?_ ?_
        rotate_left
        ·
         simp only [Act.put, List.setIfInBounds_toArray, List.set_cons_zero, List.set_cons_succ, i64_w, i32_w]
         rfl
        refine pure_ (i := 5) (N := some 18) (v := undef) (a' := ?_) #[true, true, true, true, true, true, false, false, false, false, false] rfl rfl (any_of HT_.out (by kernel_rfl)) (fun _ _ _ h => h) (Or.inr ⟨by rfl, rfl⟩) ?_ ?_
        rotate_left
        ·
         simp only [Act.put, List.setIfInBounds_toArray, List.set_cons_zero, List.set_cons_succ, i64_w, i32_w]
         rfl
        refine pure_ (i := 6) (N := some 19) (v := undef) (a' := ?_) #[true, true, true, true, true, true, true, false, false, false, false] rfl rfl (any_of HT_.out (by kernel_rfl)) (fun _ _ _ h => h) (Or.inr ⟨by rfl, rfl⟩) ?_ ?_
        rotate_left
        ·
         simp only [Act.put, List.setIfInBounds_toArray, List.set_cons_zero, List.set_cons_succ, i64_w, i32_w]
         rfl
        refine pure_ (i := 7) (N := some 20) (v := undef) (a' := ?_) #[true, true, true, true, true, true, true, true, false, false, false] rfl rfl (any_of HT_.out (by kernel_rfl)) (fun _ _ _ h => h) (Or.inr ⟨by rfl, rfl⟩) ?_ ?_
        rotate_left
        ·
         simp only [Act.put, List.setIfInBounds_toArray, List.set_cons_zero, List.set_cons_succ, i64_w, i32_w]
         rfl
        refine pure_ (i := 8) (N := some 21) (v := undef) (a' := ?_) #[true, true, true, true, true, true, true, true, true, false, false] rfl rfl (any_of HT_.out (by kernel_rfl)) (fun _ _ _ h => h) (Or.inr ⟨by rfl, rfl⟩) ?_ ?_
        rotate_left
        ·
         simp only [Act.put, List.setIfInBounds_toArray, List.set_cons_zero, List.set_cons_succ, i64_w, i32_w]
         rfl
        refine pure_ (i := 9) (N := some 22) (v := undef) (a' := ?_) #[true, true, true, true, true, true, true, true, true, true, false] rfl rfl (any_of HT_.out (by kernel_rfl)) (fun _ _ _ h => h) (Or.inr ⟨by rfl, rfl⟩) ?_ ?_
        rotate_left
        ·
         simp only [Act.put, List.setIfInBounds_toArray, List.set_cons_zero, List.set_cons_succ, i64_w, i32_w]
         rfl
        refine pure_ (i := 10) (N := some 23) (v := ?_) (a' := ?_) #[true, true, true, true, true, true, true, true, true, true, true] rfl rfl (any_of HT_.out (by kernel_rfl)) (fun _ _ _ h => h) (Or.inl ⟨by rfl, ?_⟩) ?_ ?_
        rotate_left
        ·
         intro w'
         go_simp
         with_reducible rfl
        rotate_left
        ·
         simp only [Act.put, List.setIfInBounds_toArray, List.set_cons_zero, List.set_cons_succ, i64_w, i32_w]
         rfl
        refine done_ (done_of HT_.out (by kernel_rfl)) ?_
        have hcz36_0 : w35.cell? ⟨gb201, 0, none⟩ = some (.int .i64 ((rd_T38 l0 x8_1).f0)) := (blk_cell BK201.out 0).trans rfl
        have hcz36_1 : w35.cell? ⟨gb201, 1, none⟩ = some (.string ((rd_T38 l0 x8_1).f1)) := (blk_cell BK201.out 1).trans rfl
        have hcz36_2 : w35.cell? ⟨gb201, 2, none⟩ = some (.int .i64 ((rd_T38 l0 x8_1).f2)) := (blk_cell BK201.out 2).trans rfl
        have hcz36_3 : w35.cell? ⟨gb201, 3, none⟩ = some (.int .i64 ((rd_T38 l0 x8_1).f3)) := (blk_cell BK201.out 3).trans rfl
        have hfz36_0 := blk_frozen BK201.out 0
        have hfz36_1 := blk_frozen BK201.out 1
        have hfz36_2 := blk_frozen BK201.out 2
        have hfz36_3 := blk_frozen BK201.out 3
        have IB1 := Aside0.mk (ib_step IBw.out HB.out)
        have BW1 := Aside0.mk (HBw.out.trans (HB.out.mono (Nat.le_of_lt HBb.out)))
        have GN1 : gb201 ≠ w.heap.size := fun e => by have h1 := GE201.out; have h2 := HBb.out; omega
        go_wp2_with (first | ((with_reducible refine gate_callee (f := 23) rfl ?_); refine goesL_ (some 26) rfl rfl Tryd.func23 (by kernel_rfl) rfl #[.agg #[.int .i64 ((rd_T38 l0 x8_1).f0), .string ((rd_T38 l0 x8_1).f1), .int .i64 ((rd_T38 l0 x8_1).f2), .int .i64 ((rd_T38 l0 x8_1).f3)]] rfl (by (try simp only [List.map_toArray, List.map_cons, List.map_nil]); first | done | rfl | (simp only [List.length_drop, List.length_take]; rfl)) ?_; (with_reducible refine (lexer_Source.calls ((rd_T38 l0 x8_1).f0) ((rd_T38 l0 x8_1).f1) ((rd_T38 l0 x8_1).f2) ((rd_T38 l0 x8_1).f3) t206 _ A30.out).mono ?_); rintro e w20 ⟨rfl, hb⟩; refine ⟨_, rfl, ?_⟩; have n1_ := Aside0.mk (below_step BW1.out hb); have n2_ := Aside0.mk (ib_step IB1.out hb); clear BW1 IB1; have BW1 := n1_; have IB1 := n2_; clear n1_ n2_; clear hb) | (go_at_call 40; refine (Tryd.Builder_WriteString_kB w.heap.size w.heap.size _ t206 _ IB1.out (by rw [ib_len]; exact c31) BW1.out.size).mono ?_; rintro e W3 ⟨rfl, h1, b1, k1_⟩; have n1_ := Aside0.mk (BW1.out.trans b1); have n2_ := Aside0.mk (ib_str h1); clear BW1 IB1 h1 b1 k1_; have BW1 := n1_; have IB1 := n2_; clear n1_ n2_))
        go_roundg k1
        case measure => have := HK1.out; omega
        case rel => exact ⟨(x3_1 ++ t206), (wrap64 (x8_1 + 1)), (by first | rfl | (simp; done) | (simp [*]; done)), H', ⟨by have := HK1.out; omega⟩, BW1, IB1⟩
       ·
        rw [if_neg c31] at H
        exact absurd H (by simp)
     ·
      rw [if_neg c4] at H
      exact absurd H (by simp)
    ·
     rw [if_neg c3] at H
     exact absurd H (by simp)
   ·
    rw [if_neg c2] at H
    have c2b0 : decide (x8_1 < (l0.length : Int)) = false := decide_eq_false c2
    clear c2
    obtain rfl := Option.some.inj H
    go_wp2_with (go_at_call 41; refine (Tryd.Builder_String_any_kB w.heap.size w.heap.size x3_1.data.toList _ IBw.out HSZ.out).mono ?_; rintro e W1 ⟨rfl, _, b1, _⟩)
    go_ret
    exact ⟨by rw [Lib.mk_data]; rfl, HBw.out.trans b1⟩

end Go.Proofs.YthjmbagkomnpgaaDoor.L
