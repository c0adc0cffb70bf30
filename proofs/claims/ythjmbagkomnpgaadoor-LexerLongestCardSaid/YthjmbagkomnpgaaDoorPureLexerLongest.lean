/- The byte after a word of a text is no letter, digit, - or _, and that after a number is no digit: the plain law. -/
import Derived.Test.YthjmbagkomnpgaaDoorPlainAwake
import Derived.Test.YthjmbagkomnpgaaDoorLx35
namespace Go.Proofs.YthjmbagkomnpgaaDoor.Pure
open Go Go.RowKit Go.Proofs.YthjmbagkomnpgaaDoor.L Go.Proofs.YthjmbagkomnpgaaDoorW.PrintWords Go.Proofs.YthjmbagkomnpgaaDoorW.PrintLast Go.Proofs.YthjmbagkomnpgaaDoor.Plain

theorem next_j1 (k : Nat) (s : Bs) (e : Nat) (he : e < s.length) (L : List S38) (n i : Int) (kd : Int) (a : ByteArray) (b d : Int) (hD : isD s[e] = false) (hk : kd = 3 ∨ isW s[e] = false) :
    culetlaw13_LexerLongest.j1 (k + 1) (mk s) (e : Int) L n i false kd a b d = culetlaw13_LexerLongest.l0 k (mk s) L n (wrap64 (i + 1)) := by
  have h1 : (0 : Int) ≤ (e : Int) := by omega
  have h2 : (e : Int) < ((mk s).size : Int) := by rw [mk_size]; omega
  simp only [culetlaw13_LexerLongest.j1]
  rw [if_neg (by simp), if_pos h1, if_pos h2, bt_mk s e he]
  clear h1 h2
  generalize s[e] = c at *
  generalize culetlaw13_LexerLongest.l0 k (mk s) L n (wrap64 (i + 1)) = X
  have hd : ¬ (48 ≤ (c.toNat : Int) ∧ (c.toNat : Int) ≤ 57) := by
    have := of_decide_eq_false hD; omega
  have hw : kd = 3 ∨ (¬ (97 ≤ (c.toNat : Int) ∧ (c.toNat : Int) ≤ 122) ∧ ¬ (65 ≤ (c.toNat : Int) ∧ (c.toNat : Int) ≤ 90) ∧ (c.toNat : Int) ≠ 45 ∧ (c.toNat : Int) ≠ 95) := by
    rcases hk with hk | hk
    · exact .inl hk
    · right
      simp only [isW, isL, Bool.or_eq_false_iff, decide_eq_false_iff_not] at hk
      omega
  generalize (c.toNat : Int) = x at *
  clear hD hk
  repeat' split
  all_goals first | rfl | omega
theorem text_len (s : Bs) (t : Tk) (h1 : t.pos < s.length) (h2 : t = mkTk resB okV (s.drop t.pos) t.pos t.line) (h3 : (tokL resB okV (s.drop t.pos)).1 ≠ 0) (h4 : t.kind ≠ 4) : t.text.length = (tokL resB okV (s.drop t.pos)).2 ∧ t.kind = (tokL resB okV (s.drop t.pos)).1 ∧ t.pos + (tokL resB okV (s.drop t.pos)).2 ≤ s.length := by
  have hk : t.kind = (tokL resB okV (s.drop t.pos)).1 := congrArg Tk.kind h2
  have hle := tokL_le resB okV _ h3
  rw [List.length_drop] at hle
  refine ⟨?_, hk, by omega⟩
  have ht := congrArg Tk.text h2
  rw [ht]
  unfold mkTk
  rw [hk] at h4
  rw [if_neg h4, List.length_take, List.length_drop]; omega
theorem text_next (s : Bs) (t : Tk) (t1 : t.pos < s.length) (t2 : t = mkTk resB okV (s.drop t.pos) t.pos t.line) (t3 : (tokL resB okV (s.drop t.pos)).1 ≠ 0) (hk : t.kind = 1 ∨ t.kind = 2 ∨ t.kind = 3) :
    ∃ m, t.text.length = m ∧ t.pos + m ≤ s.length ∧ ∀ he : t.pos + m < s.length, isD s[t.pos + m] = false ∧ ((own1 t).f0 = 3 ∨ isW s[t.pos + m] = false) := by
  obtain ⟨l1, l2, l3⟩ := text_len s t t1 t2 t3 (by omega)
  refine ⟨_, l1, l3, fun he' => ?_⟩
  have hd : ((s.drop t.pos).drop (tokL resB okV (s.drop t.pos)).2).head? = some s[t.pos + (tokL resB okV (s.drop t.pos)).2] := by
    rw [List.drop_drop, List.head?_drop, List.getElem?_eq_getElem he']
  have hlg := longest resB okV _ _ hd
  rw [← l2] at hlg
  constructor
  · rcases hk with hk | hk | hk
    · have := hlg.1 (.inl hk); simp only [isW, Bool.or_eq_false_iff] at this; exact this.1.1.2
    · have := hlg.1 (.inr hk); simp only [isW, Bool.or_eq_false_iff] at this; exact this.1.1.2
    · exact hlg.2 hk
  · rcases hk with hk | hk | hk
    · exact .inr (hlg.1 (.inl hk))
    · exact .inr (hlg.1 (.inr hk))
    · left; show (t.kind : Int) = 3; omega
theorem longest_l (s : Bs) (hs : s.length ≤ 400) (T : List Tk) (hT : ∀ t ∈ T, t.pos < s.length ∧ t = mkTk resB okV (s.drop t.pos) t.pos t.line ∧ (tokL resB okV (s.drop t.pos)).1 ≠ 0) (hlen : T.length ≤ 100000) :
    ∀ (d i : Nat), i + d = T.length → Ev (fun k => culetlaw13_LexerLongest.l0 k (mk s) (T.map own1) ((T.map own1).length : Int) (i : Int)) true
  | 0, i, h => by
    refine Ev.step (f := fun _ => some true) (fun k => ?_) (Ev.now _)
    simp only [culetlaw13_LexerLongest.l0]; rw [if_neg (by rw [List.length_map]; omega)]
  | d + 1, i, h => by
    have hi : i < T.length := by omega
    have ih := longest_l s hs T hT hlen d (i + 1) (by omega)
    obtain ⟨t1, t2, t3⟩ := hT _ (List.getElem_mem hi)
    have hrd : rd_T38 (T.map own1) (i : Int) = own1 T[i] := by
      unfold rd_T38; rw [Int.toNat_natCast, List.getD_eq_getElem?_getD, List.getElem?_map, List.getElem?_eq_getElem hi]; rfl
    generalize T[i] = t at *
    have next : ∀ b a1 a2 a3 a4, Ev (fun k => culetlaw13_LexerLongest.j1 k (mk s) b (T.map own1) ((T.map own1).length : Int) (i : Int) true a1 a2 a3 a4) true := fun b a1 a2 a3 a4 =>
      Ev.step (f := fun k => culetlaw13_LexerLongest.l0 k (mk s) (T.map own1) ((T.map own1).length : Int) ((i + 1 : Nat) : Int)) (fun k => by simp only [culetlaw13_LexerLongest.j1]; rw [if_pos trivial, wrap_nat (by omega)]) ih
    have g1 : (i : Int) < ((T.map own1).length : Int) := by rw [List.length_map]; omega
    have g0 : (0 : Int) ≤ (i : Int) := by omega
    have main : (t.kind = 1 ∨ t.kind = 2 ∨ t.kind = 3) → (∀ k, culetlaw13_LexerLongest.l0 (k + 1) (mk s) (T.map own1) ((T.map own1).length : Int) (i : Int) = (if (wrap64 ((own1 t).f3 + ((own1 t).f1.size : Int))) ≥ ((mk s).size : Int) then (culetlaw13_LexerLongest.j1 k (mk s) (wrap64 ((own1 t).f3 + ((own1 t).f1.size : Int))) (T.map own1) ((T.map own1).length : Int) (i : Int) true (own1 t).f0 (own1 t).f1 (own1 t).f2 (own1 t).f3) else (culetlaw13_LexerLongest.j1 k (mk s) (wrap64 ((own1 t).f3 + ((own1 t).f1.size : Int))) (T.map own1) ((T.map own1).length : Int) (i : Int) (decide ((wrap64 ((own1 t).f3 + ((own1 t).f1.size : Int))) < 0)) (own1 t).f0 (own1 t).f1 (own1 t).f2 (own1 t).f3))) →
        Ev (fun k => culetlaw13_LexerLongest.l0 k (mk s) (T.map own1) ((T.map own1).length : Int) (i : Int)) true := by
      intro hk hr
      obtain ⟨m, l1, l3, hg⟩ := text_next s t t1 t2 t3 hk
      have hw : wrap64 ((own1 t).f3 + ((own1 t).f1.size : Int)) = ((t.pos + m : Nat) : Int) := by
        show wrap64 ((t.pos : Int) + ((mk t.text).size : Int)) = _
        rw [mk_size, l1, wrap_id (by omega) (by omega)]; omega
      rw [hw] at hr
      by_cases he : s.length ≤ t.pos + m
      · refine Ev.step (fun k => ?_) (next ((t.pos + m : Nat) : Int) (own1 t).f0 (own1 t).f1 (own1 t).f2 (own1 t).f3)
        rw [hr, if_pos (by rw [mk_size]; omega)]
      · have he' : t.pos + m < s.length := by omega
        obtain ⟨hD, hW⟩ := hg he'
        refine Ev.step (f := fun k => culetlaw13_LexerLongest.j1 k (mk s) ((t.pos + m : Nat) : Int) (T.map own1) ((T.map own1).length : Int) (i : Int) false (own1 t).f0 (own1 t).f1 (own1 t).f2 (own1 t).f3) (fun k => ?_) (Ev.step (f := fun k => culetlaw13_LexerLongest.l0 k (mk s) (T.map own1) ((T.map own1).length : Int) ((i + 1 : Nat) : Int)) (fun k => ?_) ih)
        · rw [hr, if_neg (by rw [mk_size]; omega), show decide (((t.pos + m : Nat) : Int) < 0) = false from decide_eq_false (by omega)]
        · rw [next_j1 k s _ he' _ _ _ _ _ _ _ hD hW, wrap_nat (by omega)]
    by_cases k1 : t.kind = 1
    · refine main (.inl k1) (fun k => ?_)
      simp only [culetlaw13_LexerLongest.l0]
      rw [if_pos g1, if_pos g0, if_pos g1, hrd, if_pos (show (own1 t).f0 = 1 by show (t.kind : Int) = 1; omega)]
    · by_cases k2 : t.kind = 2
      · refine main (.inr (.inl k2)) (fun k => ?_)
        simp only [culetlaw13_LexerLongest.l0]
        rw [if_pos g1, if_pos g0, if_pos g1, hrd, if_neg (show ¬ (own1 t).f0 = 1 by show ¬ (t.kind : Int) = 1; omega), if_pos (show (own1 t).f0 = 2 by show (t.kind : Int) = 2; omega)]
      · by_cases k3 : t.kind = 3
        · refine main (.inr (.inr k3)) (fun k => ?_)
          simp only [culetlaw13_LexerLongest.l0]
          rw [if_pos g1, if_pos g0, if_pos g1, hrd, if_neg (show ¬ (own1 t).f0 = 1 by show ¬ (t.kind : Int) = 1; omega), if_neg (show ¬ (own1 t).f0 = 2 by show ¬ (t.kind : Int) = 2; omega), if_pos (show (own1 t).f0 = 3 by show (t.kind : Int) = 3; omega)]
        · refine Ev.step (fun k => ?_) (next (wrap64 ((own1 t).f3 + ((own1 t).f1.size : Int))) (own1 t).f0 (own1 t).f1 (own1 t).f2 (own1 t).f3)
          simp only [culetlaw13_LexerLongest.l0]
          rw [if_pos g1, if_pos g0, if_pos g1, hrd, if_neg (show ¬ (own1 t).f0 = 1 by show ¬ (t.kind : Int) = 1; omega), if_neg (show ¬ (own1 t).f0 = 2 by show ¬ (t.kind : Int) = 2; omega), if_neg (show ¬ (own1 t).f0 = 3 by show ¬ (t.kind : Int) = 3; omega)]

theorem LexerLongest : culetlaw13_LexerLongest.Pure := by
  intro a0 _
  refine Ev.rounds ?_
  rw [mk_of a0]
  generalize a0.data.toList = s
  refine Ev.congr (fun k => by unfold culetlaw13_LexerLongest.f; rfl) (Ev.bind awake_ev ?_)
  by_cases h4 : s.length ≤ 400
  · refine Ev.congr (fun k => by rw [if_pos rfl, if_neg (by rw [mk_size]; omega)]) (Ev.bind (lex_ev s (by omega)) ?_)
    cases hx : plex resB okV s 0 1 with
    | error m => exact Ev.congr (fun k => by rw [if_neg (by simp [ownR])]) (Ev.now _)
    | ok T =>
      have hT := toks_from resB okV s s 0 1 T (by simp) (by omega) hx
      have hlen : T.length ≤ 100000 := by
        have := plex_len resB okV s 0 1 T hx; omega
      have := longest_l s h4 T hT hlen T.length 0 (by omega)
      refine Ev.congr (fun k => ?_) this
      rw [if_pos (by simp [ownR])]
      simp only [ownR, List.nil_append]; rfl
  · exact Ev.congr (fun k => by rw [if_pos rfl, if_pos (by rw [mk_size]; omega)]) (Ev.now _)

end Go.Proofs.YthjmbagkomnpgaaDoor.Pure
