-- Written by this session's own programs; what the law does not lean on is left out. Lean checks it.
import Derived.Test.YthjmbagkomnpgaaDoorJO
import Derived.Test.YthjmbagkomnpgaaDoorJP
import Derived.Test.YthjmbagkomnpgaaDoorJLx38
namespace Go.Proofs.YthjmbagkomnpgaaDoor.Pure
open Go Go.RowKit Go.Proofs.YthjmbagkomnpgaaDoor.L Go.Proofs.YthjmbagkomnpgaaDoorW.PrintWords Go.Proofs.YthjmbagkomnpgaaDoorW.PrintLast Go.Proofs.YthjmbagkomnpgaaDoor.Plain
set_option linter.unusedSimpArgs false
set_option linter.unusedVariables false
def ktI (t : Tk) : KT := ((t.kind : Int), t.text)
theorem src_ktI (t : Tk) : srcI (ktI t) = srcL t := by
 unfold srcI srcL ktI
 by_cases h : t.kind = 4
 ·
  rw [if_pos h, if_pos (show (t.kind : Int) = 4 by omega)]
 ·
  rw [if_neg h, if_neg (show ¬ (t.kind : Int) = 4 by omega)]
theorem apart_ktI (a b : Tk) : apartI (ktI a) (ktI b) = apartL resB okV a b := by
 unfold apartI apartL
 rw [src_ktI, src_ktI]
 cases plex resB okV (srcL a ++ srcL b) 0 1 with
 | error m => rfl
 | ok T =>
  match T with
  | [] => rfl
  | [p] => rfl
  | p :: q :: u :: v => rfl
  | [p, q] =>
   show (!(okI (ktI a) (ktI b) [p, q])) = !(decide (kt p = kt a) && decide (kt q = kt b))
   congr 1
   unfold okI ktI kt
   simp only []
   rw [Bool.eq_iff_iff]
   simp only [Bool.and_eq_true, decide_eq_true_eq, Prod.mk.injEq, Int.natCast_inj]
   exact ⟨fun ⟨⟨⟨h1, h2⟩, h3⟩, h4⟩ => ⟨⟨h1, h2⟩, h3, h4⟩, fun ⟨⟨h1, h2⟩, h3, h4⟩ => ⟨⟨⟨h1, h2⟩, h3⟩, h4⟩⟩
theorem rest_ktI : ∀ (l : List Tk) (a : Tk), restI (some (ktI a)) (l.map ktI) = joinT resB okV a l
 | [], _ => rfl
 | b :: l, a => by
  show (if apartI (ktI a) (ktI b) = true then [32] else []) ++ (srcI (ktI b) ++ restI (some (ktI b)) (l.map ktI)) = _
  rw [apart_ktI, src_ktI, rest_ktI l b]; rfl
theorem join_ktI (l : List Tk) : joinI (l.map ktI) = joinL resB okV l := by
 cases l with
 | nil => rfl
 | cons a l =>
  show srcI (ktI a) ++ restI (some (ktI a)) (l.map ktI) = _
  rw [src_ktI, rest_ktI]; rfl
theorem rest_len (m : Nat) : ∀ (l : List KT) (o : Option KT), (∀ a ∈ l, (srcI a).length ≤ m) → (restI o l).length ≤ l.length * (m + 1)
 | [], o, _ => by rw [restI_nil]; exact Nat.zero_le _
 | b :: l, o, h => by
  have hb := h b (List.mem_cons_self ..)
  have ih := rest_len m l (some b) (fun a ha => h a (List.mem_cons_of_mem _ ha))
  rw [List.length_cons, Nat.add_mul, Nat.one_mul]
  cases o with
  | none =>
   show (srcI b ++ restI (some b) l).length ≤ _
   rw [List.length_append]; omega
  | some a =>
   show ((if apartI a b = true then [32] else []) ++ (srcI b ++ restI (some b) l)).length ≤ _
   have : (if apartI a b = true then [32] else [] : Bs).length ≤ 1 := by split <;> simp
   rw [List.length_append, List.length_append]; omega
theorem le_srcs : ∀ (l : List Tk), ∀ t ∈ l, (srcL t).length ≤ srcs l
 | a :: l, t, h => by
  unfold srcs
  rw [List.map_cons, List.sum_cons]
  rcases List.mem_cons.1 h with rfl | h
  ·
   omega
  ·
   have := le_srcs l t h
   unfold srcs at this; omega
theorem text_le (t : Tk) : t.text.length ≤ (srcL t).length := by
 unfold srcL
 split
 ·
  simp only [List.length_cons, List.length_append]; omega
 ·
  exact Nat.le_refl _
def conv (s : S40) : S38 := ⟨s.f0, s.f1, s.f2, s.f3⟩
theorem own_l (l : List S40) (hl : l.length ≤ 100000) : ∀ (d i : Nat), i + d = l.length → Ev (fun k => culetlaw13_own.l0 k ((l.take i).map conv) l (l.length : Int) (i : Int)) (l.map conv)
 | 0, i, h => by
  obtain rfl : i = l.length := by omega
  refine Ev.step (f := fun _ => some (l.map conv)) (fun k => ?_) (Ev.now _)
  simp only [culetlaw13_own.l0]; rw [if_neg (by omega), List.take_length]
 | d + 1, i, h => by
  have hi : i < l.length := by omega
  have ih := own_l l hl d (i + 1) (by omega)
  have hrd := rd_40 l i hi
  rw [List.take_add_one, List.getElem?_eq_getElem hi, List.map_append] at ih
  refine Ev.step (fun k => ?_) ih
  have c3 : ((l.take i).map conv).length < 3518437208883 := Nat.lt_of_le_of_lt (show _ ≤ 100000 by rw [List.length_map, List.length_take]; omega) (by decide)
  simp only [culetlaw13_own.l0]
  rw [if_pos (by omega), if_pos (by omega), if_pos (by omega), if_pos c3, hrd, wrap_nat (by omega)]; rfl
theorem own_ev (l : List S40) (hl : l.length ≤ 100000) : Ev (fun k => culetlaw13_own.f k l) (l.map conv) := by
 refine Ev.congr (fun k => ?_) (own_l l hl l.length 0 (by omega))
 rfl
theorem l2_loop (X Y : List Tk) (hX : X.length ≤ 100000) (h : Y.map kt = X.map kt) : ∀ (d i : Nat), i + d = X.length →
  Ev (fun k => culetlaw13_LexerJoin.l2 k (X.map own1) (Y.map own1) ((X.map own1).length : Int) (i : Int)) true
 | 0, i, hi => by
  obtain rfl : i = X.length := by omega
  refine Ev.step (f := fun _ => some true) (fun k => ?_) (Ev.now _)
  simp only [culetlaw13_LexerJoin.l2]; rw [if_neg (by rw [List.length_map]; omega)]
 | d + 1, i, hi => by
  have hlen : Y.length = X.length := by have := congrArg List.length h; simpa using this
  have hx : i < X.length := by omega
  have hy : i < Y.length := by omega
  have ih := l2_loop X Y hX h d (i + 1) (by omega)
  have r1 := rd_38 (X.map own1) i (by rw [List.length_map]; exact hx)
  have r2 := rd_38 (Y.map own1) i (by rw [List.length_map]; exact hy)
  have hk : kt Y[i] = kt X[i] := by
   have h1 := List.getElem_of_eq h (i := i) (by rw [List.length_map]; exact hy)
   rwa [List.getElem_map, List.getElem_map] at h1
  rw [List.getElem_map] at r1 r2
  have k1 : (own1 X[i]).f0 = (own1 Y[i]).f0 := by
   have := congrArg Prod.fst hk
   show ((X[i].kind : Nat) : Int) = ((Y[i].kind : Nat) : Int)
   exact congrArg Int.ofNat this.symm
  have k2 : (own1 X[i]).f1.toList = (own1 Y[i]).f1.toList := by
   have := congrArg Prod.snd hk
   show (mk X[i].text).toList = (mk Y[i].text).toList
   exact congrArg (fun z => (mk z).toList) this.symm
  refine Ev.step (fun k => ?_) ih
  simp only [culetlaw13_LexerJoin.l2]
  rw [if_pos (by rw [List.length_map]; omega), if_pos (by omega), if_pos (by rw [List.length_map]; omega), if_pos (by rw [List.length_map]; omega), r1, r2, if_pos k1, if_pos k2, wrap_nat (by omega)]
theorem l0_loop (l : List S40) (a1 : ByteArray) (hl : l.length ≤ 20) (hr : (∀ s ∈ l, s.f1.size ≤ 40) → Ev (fun k => culetlaw13_LexerJoin.l1 k l a1 (l.length : Int) 0) true) : ∀ (d i : Nat), i + d = l.length → (∀ s ∈ l.take i, s.f1.size ≤ 40) →
  Ev (fun k => culetlaw13_LexerJoin.l0 k l a1 (l.length : Int) (i : Int)) true
 | 0, i, hi, hp => by
  obtain rfl : i = l.length := by omega
  rw [List.take_length] at hp
  refine Ev.step (fun k => ?_) (hr hp)
  simp only [culetlaw13_LexerJoin.l0]; rw [if_neg (by omega)]
 | d + 1, i, hi, hp => by
  have hx : i < l.length := by omega
  have r1 := rd_40 l i hx
  by_cases h40 : l[i].f1.size ≤ 40
  ·
   have ih := l0_loop l a1 hl hr d (i + 1) (by omega) (fun s hs => by
    rw [List.take_add_one, List.getElem?_eq_getElem hx] at hs
    rcases List.mem_append.1 hs with h | h
    ·
     exact hp s h
    ·
     have : s = l[i] := by simpa using h
     rw [this]; exact h40)
   refine Ev.step (fun k => ?_) ih
   simp only [culetlaw13_LexerJoin.l0]
   rw [if_pos (by omega), if_pos (by omega), if_pos (by omega), r1, if_neg (by omega), wrap_nat (by omega)]
  ·
   refine Ev.step (f := fun _ => some true) (fun k => ?_) (Ev.now _)
   simp only [culetlaw13_LexerJoin.l0]
   rw [if_pos (by omega), if_pos (by omega), if_pos (by omega), r1, if_pos (by omega)]
theorem srcI_le (a : KT) : (srcI a).length ≤ a.2.length + 2 := by
 unfold srcI; split
 ·
  simp
 ·
  omega
theorem l1_end (l : List S40) (s : Bs) (hl : l.length ≤ 20) (hs : s.length ≤ 400) (hp : ∀ s ∈ l, s.f1.size ≤ 40) : Ev (fun k => (culetlaw13_own.f k l).bind fun t233 => ((lexer_Join.f k t233).bind fun t236 => ((culetref13_Join.f k l).bind fun t237 => (if t236.toList = t237.toList then ((lexer_Lex.f k (mk s)).bind fun bt238 => (if bt238.2.2 = 0 then ((lexer_Join.f k bt238.1).bind fun t243 => ((lexer_Lex.f k t243).bind fun bt244 => (if bt244.2.2 = 0 then (culetlaw13_LexerJoin.j3 k bt238.1 bt244.1 ((bt244.1.length : Int) != (bt238.1.length : Int))) else (culetlaw13_LexerJoin.j3 k bt238.1 bt244.1 true)))) else (some true))) else (some false))))) true := by
 have hm : (l.map conv).map kt38 = l.map kt40 := by rw [List.map_map]; rfl
 have hsrc : ∀ a ∈ l.map kt40, (srcI a).length ≤ 42 := by
  intro a ha
  obtain ⟨x, hx, rfl⟩ := List.mem_map.1 ha
  have h1 := srcI_le (kt40 x)
  have h2 := hp x hx
  have h3 : (kt40 x).2.length = x.f1.size := rfl
  omega
 have hlen : (joinI (l.map kt40)).length ≤ 90000 := by
  have := rest_len 42 (l.map kt40) none hsrc
  rw [List.length_map] at this
  exact Nat.le_trans this (by omega)
 refine Ev.bind (own_ev l (by omega)) (Ev.bind (join_ev_38 (l.map conv) (by rw [List.length_map]; omega) ?_ (by rw [hm]; exact hlen)) (Ev.bind (join_ev_40 l (by omega) ?_ hlen) ?_))
 ·
  intro x hx
  obtain ⟨y, hy, rfl⟩ := List.mem_map.1 hx
  have h1 := hsrc (kt40 y) (List.mem_map_of_mem hy)
  exact ⟨Nat.le_trans (show (srcI (kt38 (conv y))).length ≤ 42 from h1) (by omega), Nat.le_trans (show y.f1.size ≤ 40 from hp y hy) (by omega)⟩
 ·
  intro y hy
  have h1 := hsrc (kt40 y) (List.mem_map_of_mem hy)
  exact ⟨by omega, Nat.le_trans (hp y hy) (by omega)⟩
 rw [hm]
 refine Ev.congr (fun k => by rw [if_pos rfl]) (Ev.bind (lex_ev s (by omega)) ?_)
 cases hx : plex resB okV s 0 1 with
 | error m => exact Ev.congr (fun k => if_neg (show ¬ ((4 : Int) = 0) by decide)) (Ev.now true)
 | ok T =>
  obtain ⟨hj1, T', hj2, hj3⟩ := relex resB okV s T hx
  have hT := plex_len resB okV s 0 1 T hx
  have hS := plex_srcs resB okV s 0 1 T hx
  have hmap : (T.map own1).map kt38 = T.map ktI := by
   rw [List.map_map]
   refine List.map_congr_left fun t _ => ?_
   show ((t.kind : Int), (mk t.text).data.toList) = ((t.kind : Int), t.text)
   rw [mk_data]
  have hjj : joinI ((T.map own1).map kt38) = joinL resB okV T := by rw [hmap, join_ktI]
  have hR : ownR [] (.ok T) = (T.map own1, 0, 0) := rfl
  rw [hR]
  refine Ev.congr (fun k => if_pos rfl) (Ev.bind (join_ev_38 (T.map own1) (by rw [List.length_map]; omega) ?_ (by rw [hjj]; omega)) ?_)
  ·
   intro x hx'
   obtain ⟨t, ht, rfl⟩ := List.mem_map.1 hx'
   have h1 := le_srcs T t ht
   have h2 := text_le t
   have h3 : srcI (kt38 (own1 t)) = srcL t := by
    show srcI ((t.kind : Int), (mk t.text).data.toList) = _
    rw [mk_data]; exact src_ktI t
   have h4 : (own1 t).f1.size = t.text.length := mk_size t.text
   rw [h3, h4]; exact ⟨by omega, by omega⟩
  ·
   rw [hjj]
   have hlex := lex_ev (joinL resB okV T) (by omega)
   rw [hj2] at hlex
   refine Ev.bind hlex ?_
   have hR' : ownR [] (.ok T') = (T'.map own1, 0, 0) := rfl
   rw [hR']
   have hl2 : T'.length = T.length := by have := congrArg List.length hj3; simpa using this
   refine Ev.congr (f := fun k => culetlaw13_LexerJoin.j3 k (T.map own1) (T'.map own1) false) (fun k => ?_) ?_
   ·
    rw [if_pos rfl, show ((((T'.map own1).length : Nat) : Int) != (((T.map own1).length : Nat) : Int)) = false by rw [List.length_map, List.length_map, hl2]; simp]
   ·
    refine Ev.step (fun k => ?_) (l2_loop T T' (by omega) hj3 T.length 0 (by omega))
    simp only [culetlaw13_LexerJoin.j3]; rw [if_neg (by decide)]; rfl
theorem l1_loop (l : List S40) (s : Bs) (hl : l.length ≤ 20) (hs : s.length ≤ 400) (hp : ∀ s ∈ l, s.f1.size ≤ 40) : ∀ (d i : Nat), i + d = l.length → Ev (fun k => culetlaw13_LexerJoin.l1 k l (mk s) (l.length : Int) (i : Int)) true
 | 0, i, hi => by
  obtain rfl : i = l.length := by omega
  refine Ev.step (fun k => ?_) (l1_end l s hl hs hp)
  simp only [culetlaw13_LexerJoin.l1]; rw [if_neg (by omega)]
 | d + 1, i, hi => by
  have hx : i < l.length := by omega
  have ih := l1_loop l s hl hs hp d (i + 1) (by omega)
  have r1 := rd_40 l i hx
  have z1 := hp _ (List.getElem_mem hx)
  have e1 := source_38 l[i].f0 l[i].f2 l[i].f3 l[i].f1 (by omega)
  have e2 := source_40 l[i].f0 l[i].f2 l[i].f3 l[i].f1 (by omega)
  have g1 : (i : Int) < (l.length : Int) := by omega
  have g0 : (0 : Int) ≤ (i : Int) := by omega
  have hw3 : wrap64 ((i : Int) + 1) = ((i + 1 : Nat) : Int) := wrap_nat (by omega)
  by_cases h0 : i = 0
  ·
   refine Ev.step (fun k => ?_) ih
   simp only [culetlaw13_LexerJoin.l1]
   rw [if_pos g1, if_pos g0, if_pos g1, r1, e1, Option.bind_some, e2, Option.bind_some, if_pos rfl, if_neg (show ¬ ((i : Int) > 0) by omega), hw3]
  ·
   have hj : i - 1 < l.length := by omega
   have hw : wrap64 ((i : Int) - 1) = ((i - 1 : Nat) : Int) := by rw [wrap_id (by omega) (by omega)]; omega
   have r2 := rd_40 l (i - 1) hj
   have z2 := hp _ (List.getElem_mem hj)
   have s1 := srcI_le (kt40 l[i])
   have s2 := srcI_le (kt40 l[i - 1])
   have s3 : (kt40 l[i]).2.length = l[i].f1.size := rfl
   have s4 : (kt40 l[i - 1]).2.length = l[i - 1].f1.size := rfl
   have q1 : (srcI (kt40 l[i])).length ≤ 5000 := by clear hw hw3; omega
   have q2 : (srcI (kt40 l[i - 1])).length ≤ 5000 := by clear hw hw3; omega
   have q3 : l[i].f1.size ≤ 50000 := by clear hw hw3; omega
   have q4 : l[i - 1].f1.size ≤ 50000 := by clear hw hw3; omega
   have a1 := apart_38 (conv l[i - 1]) (conv l[i]) q2 q1 q4 q3
   have a2 := apart_40 l[i - 1] l[i] q2 q1 q4 q3
   have g2 : (0 : Int) ≤ ((i - 1 : Nat) : Int) := by clear hw hw3; omega
   have g3 : ((i - 1 : Nat) : Int) < (l.length : Int) := by clear hw hw3; omega
   have g4 : (i : Int) > 0 := by clear hw hw3; omega
   refine Ev.step (f := fun k => (lexer_Apart.f k l[i - 1].f0 l[i - 1].f1 l[i - 1].f2 l[i - 1].f3 l[i].f0 l[i].f1 l[i].f2 l[i].f3).bind fun t229 => ((culetref13_Apart.f k l[i - 1].f0 l[i - 1].f1 l[i - 1].f2 l[i - 1].f3 l[i].f0 l[i].f1 l[i].f2 l[i].f3).bind fun t232 => (if (t229 != t232) = true then (some false) else (culetlaw13_LexerJoin.l1 k l (mk s) (l.length : Int) ((i + 1 : Nat) : Int))))) (fun k => ?_) (Ev.bind a1 (Ev.bind a2 ?_))
   ·
    simp only [culetlaw13_LexerJoin.l1]
    rw [if_pos g1, if_pos g0, if_pos g1, r1, e1, Option.bind_some, e2, Option.bind_some, if_pos rfl, if_pos g4, hw, if_pos g2, if_pos g3, r2, hw3]
   ·
    refine Ev.congr (fun k => ?_) ih
    rw [if_neg (by
     show ¬ ((apartI (kt40 l[i - 1]) (kt40 l[i]) != apartI (kt40 l[i - 1]) (kt40 l[i])) = true)
     simp)]
theorem LexerJoin (l : List S40) (_hG : l.length ≤ 9223372036854775807 ∧ ∀ x ∈ l, True) (a1 : ByteArray) (_h1 : a1.size ≤ 140737488351232) : ∃ k, culetlaw13_LexerJoin.f k l a1 = some true := by
 refine Ev.rounds ?_
 rw [mk_of a1]
 generalize a1.data.toList = s
 have yes : Ev (fun k => culetlaw13_LexerJoin.j0 k l (mk s) true) true := Ev.step (f := fun _ => some true) (fun k => by simp only [culetlaw13_LexerJoin.j0]; rw [if_pos trivial]) (Ev.now _)
 refine Ev.congr (fun k => by unfold culetlaw13_LexerJoin.f; rfl) (Ev.bind awake_ev ?_)
 by_cases h1 : l.length ≤ 20
 ·
  by_cases h2 : s.length ≤ 400
  ·
   refine Ev.congr (f := fun k => culetlaw13_LexerJoin.j0 k l (mk s) false) (fun k => by rw [if_pos rfl, if_neg (by omega), decide_eq_false (by rw [mk_size]; omega)]) ?_
   refine Ev.step (fun k => ?_) (l0_loop l (mk s) h1 (fun hp => l1_loop l s h1 h2 hp l.length 0 (by omega)) l.length 0 (by omega) (fun x hx => by simp at hx))
   simp only [culetlaw13_LexerJoin.j0]; rw [if_neg (by decide)]; rfl
  ·
   exact Ev.congr (fun k => by rw [if_pos rfl, if_neg (by omega), decide_eq_true (by rw [mk_size]; omega)]) yes
 ·
  exact Ev.congr (fun k => by rw [if_pos rfl, if_pos (by omega)]) yes
end Go.Proofs.YthjmbagkomnpgaaDoor.Pure
