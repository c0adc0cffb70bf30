/- The plain side of the laws on the lexer: tokens on lists of bytes. No Go in this text. -/
import Derived.Lib.Atoi
import Derived.Lib.IndexAny
namespace Go.Proofs.YthjmbagkomnpgaaDoor.Plain
abbrev Bs := List UInt8
def isL (c : UInt8) : Bool := decide (97 ≤ c.toNat ∧ c.toNat ≤ 122) || decide (65 ≤ c.toNat ∧ c.toNat ≤ 90)
def isD (c : UInt8) : Bool := decide (48 ≤ c.toNat ∧ c.toNat ≤ 57)
def isW (c : UInt8) : Bool := isL c || isD c || decide (c.toNat = 45) || decide (c.toNat = 95)
def runB (p : UInt8 → Bool) : Bs → Nat
  | [] => 0
  | c :: t => if p c then runB p t + 1 else 0
def wordB : Bs → Bool
  | [] => false
  | c :: t => isL c && t.all isW
structure Tk where
  kind : Nat
  text : Bs
  line : Nat
  pos : Nat
variable (res : Bs → Bool) (val : Bs → Bool)
def notQ (c : UInt8) : Bool := decide (c.toNat ≠ 34) && decide (c.toNat ≠ 10)
def notN (c : UInt8) : Bool := decide (c.toNat ≠ 10)
def tokL : Bs → Nat × Nat
  | [] => (0, 0)
  | c :: t =>
    if isL c then
      (if res ((c :: t).take (runB isW t + 1)) then (2, runB isW t + 1) else if runB isW t + 1 ≤ 30 then (1, runB isW t + 1) else (0, 0))
    else if c.toNat = 47 ∨ c.toNat = 44 ∨ c.toNat = 58 then (5, 1)
    else if c.toNat = 34 then
      (if (t.drop (runB notQ t)).head? = some 34 ∧ runB notQ t ≤ 2000 then (4, runB notQ t + 2) else (0, 0))
    else if c.toNat = 45 ∨ isD c then
      (if val ((c :: t).take (runB isD t + 1)) then (3, runB isD t + 1) else (0, 0))
    else (0, 0)
def lexL : Nat → Bs → Nat → Nat → Except Nat (List Tk)
  | 0, _, _, _ => .ok []
  | _ + 1, [], _, _ => .ok []
  | f + 1, c :: t, at_, line =>
    if c.toNat = 10 then lexL f t (at_ + 1) (line + 1)
    else if c.toNat = 32 ∨ c.toNat = 9 then lexL f t (at_ + 1) line
    else if c.toNat = 35 then lexL f (t.drop (runB notN t)) (at_ + (runB notN t + 1)) line
    else if (tokL res val (c :: t)).1 = 0 then .error at_
    else match lexL f ((c :: t).drop (tokL res val (c :: t)).2) (at_ + (tokL res val (c :: t)).2) line with
      | .error n => .error n
      | .ok l => .ok ({ kind := (tokL res val (c :: t)).1, text := if (tokL res val (c :: t)).1 = 4 then t.take ((tokL res val (c :: t)).2 - 2) else (c :: t).take (tokL res val (c :: t)).2, line := line, pos := at_ } :: l)

theorem runB_le (p) : ∀ l, runB p l ≤ l.length
  | [] => Nat.le_refl _
  | c :: t => by unfold runB; split <;> simp; exact runB_le p t
/-- A byte that stops the run, wherever it stands behind. -/
theorem runB_app (p : UInt8 → Bool) (x : UInt8) (hx : p x = false) (r : Bs) : ∀ l, runB p (l ++ x :: r) = runB p l
  | [] => by simp [runB, hx]
  | c :: t => by simp only [List.cons_append, runB, runB_app p x hx r t]
theorem runB_drop (p : UInt8 → Bool) : ∀ (l : Bs) (c : UInt8), (l.drop (runB p l)).head? = some c → p c = false
  | [], c => by simp [runB]
  | d :: t, c => by
    unfold runB
    cases h : p d with
    | true => simpa using runB_drop p t c
    | false => intro e; simp at e; rw [← e]; exact h
theorem runB_all (p : UInt8 → Bool) : ∀ (l : Bs), ∀ c ∈ l.take (runB p l), p c = true
  | [], c => by simp
  | d :: t, c => by
    unfold runB
    cases h : p d with
    | true => intro hc; simp at hc; rcases hc with rfl | hc; exact h; exact runB_all p t c hc
    | false => intro hc; simp at hc
theorem take_app {l : Bs} (y : UInt8) (r : Bs) {n : Nat} (h : n ≤ l.length) : (l ++ y :: r).take n = l.take n := by
  rw [List.take_append_of_le_length h]
theorem head_drop_app (l r : Bs) (n : Nat) (h : n ≤ l.length) : ((l ++ 10 :: r).drop n).head? = if n < l.length then (l.drop n).head? else some 10 := by
  rw [List.drop_append_of_le_length h]
  by_cases hn : n < l.length
  · rw [if_pos hn, List.drop_eq_getElem_cons hn]; rfl
  · rw [if_neg hn, List.drop_of_length_le (by omega)]; rfl
theorem tokL_app (l r : Bs) (hl : l ≠ []) : tokL res val (l ++ 10 :: r) = tokL res val l := by
  cases l with
  | nil => exact absurd rfl hl
  | cons c t =>
    have h1 := runB_app isW 10 (by decide) r t
    have h2 := runB_app isD 10 (by decide) r t
    have h3 := runB_app notQ 10 (by decide) r t
    have t1 : (c :: (t ++ 10 :: r)).take (runB isW t + 1) = (c :: t).take (runB isW t + 1) := take_app (l := c :: t) 10 r (by simpa using runB_le isW t)
    have t2 : (c :: (t ++ 10 :: r)).take (runB isD t + 1) = (c :: t).take (runB isD t + 1) := take_app (l := c :: t) 10 r (by simpa using runB_le isD t)
    have t3 : ((t ++ 10 :: r).drop (runB notQ t)).head? = some 34 ↔ (t.drop (runB notQ t)).head? = some 34 := by
      rw [head_drop_app t r _ (runB_le notQ t)]
      by_cases hn : runB notQ t < t.length
      · rw [if_pos hn]
      · rw [if_neg hn, List.drop_of_length_le (by omega)]; simp
    simp only [List.cons_append, tokL, h1, h2, h3, t1, t2, t3]
theorem tokL_le (l : Bs) : (tokL res val l).1 ≠ 0 → 1 ≤ (tokL res val l).2 ∧ (tokL res val l).2 ≤ l.length := by
  cases l with
  | nil => simp [tokL]
  | cons c t =>
    have h1 := runB_le isW t; have h2 := runB_le isD t; have h3 := runB_le notQ t
    have h4 : (t.drop (runB notQ t)).head? = some 34 → runB notQ t < t.length := fun h => by
      rcases Nat.lt_or_ge (runB notQ t) t.length with x | x
      · exact x
      · rw [List.drop_of_length_le x] at h; simp at h
    simp only [tokL]
    by_cases a1 : isL c = true
    · rw [if_pos a1]
      by_cases a2 : res ((c :: t).take (runB isW t + 1)) = true
      · rw [if_pos a2]; intro _; simp only [List.length_cons]; omega
      · rw [if_neg a2]
        by_cases a3 : runB isW t + 1 ≤ 30
        · rw [if_pos a3]; intro _; simp only [List.length_cons]; omega
        · rw [if_neg a3]; intro h; exact absurd rfl h
    · rw [if_neg a1]
      by_cases a2 : c.toNat = 47 ∨ c.toNat = 44 ∨ c.toNat = 58
      · rw [if_pos a2]; intro _; simp only [List.length_cons]; omega
      · rw [if_neg a2]
        by_cases a3 : c.toNat = 34
        · rw [if_pos a3]
          by_cases a4 : (t.drop (runB notQ t)).head? = some 34 ∧ runB notQ t ≤ 2000
          · rw [if_pos a4]; intro _; have := h4 a4.1; simp only [List.length_cons]; omega
          · rw [if_neg a4]; intro h; exact absurd rfl h
        · rw [if_neg a3]
          by_cases a4 : c.toNat = 45 ∨ isD c = true
          · rw [if_pos a4]
            by_cases a5 : val ((c :: t).take (runB isD t + 1)) = true
            · rw [if_pos a5]; intro _; simp only [List.length_cons]; omega
            · rw [if_neg a5]; intro h; exact absurd rfl h
          · rw [if_neg a4]; intro h; exact absurd rfl h
theorem take_run_succ (p : UInt8 → Bool) (t : Bs) (x : UInt8) (h : (t.drop (runB p t)).head? = some x) : t.take (runB p t + 1) = t.take (runB p t) ++ [x] := by
  rw [List.take_add_one]
  congr 1
  rw [← List.head?_drop, h]; rfl
theorem tokL_nolf (l : Bs) : (tokL res val l).1 ≠ 0 → (l.take (tokL res val l).2).count 10 = 0 := by
  cases l with
  | nil => simp [tokL]
  | cons c t =>
    simp only [tokL]
    by_cases a1 : isL c = true
    · rw [if_pos a1]
      have hc : c ≠ 10 := by rintro rfl; exact absurd a1 (by decide)
      have hw : ((c :: t).take (runB isW t + 1)).count 10 = 0 := by
        rw [List.count_eq_zero]
        intro hm
        rw [List.take_succ_cons, List.mem_cons] at hm
        rcases hm with hm | hm
        · exact hc hm.symm
        · exact absurd (runB_all isW t 10 hm) (by decide)
      by_cases a2 : res ((c :: t).take (runB isW t + 1)) = true
      · rw [if_pos a2]; intro _; exact hw
      · rw [if_neg a2]
        by_cases a3 : runB isW t + 1 ≤ 30
        · rw [if_pos a3]; intro _; exact hw
        · rw [if_neg a3]; intro h; exact absurd rfl h
    · rw [if_neg a1]
      by_cases a2 : c.toNat = 47 ∨ c.toNat = 44 ∨ c.toNat = 58
      · rw [if_pos a2]; intro _
        have hc : c ≠ 10 := by rintro rfl; exact absurd a2 (by decide)
        simp [hc]
      · rw [if_neg a2]
        by_cases a3 : c.toNat = 34
        · rw [if_pos a3]
          by_cases a4 : (t.drop (runB notQ t)).head? = some 34 ∧ runB notQ t ≤ 2000
          · rw [if_pos a4]; intro _
            have hc : c ≠ 10 := by rintro rfl; exact absurd a3 (by decide)
            rw [List.count_eq_zero]
            intro hm
            rw [List.take_succ_cons, List.mem_cons, take_run_succ notQ t 34 a4.1, List.mem_append] at hm
            rcases hm with hm | hm | hm
            · exact hc hm.symm
            · exact absurd (runB_all notQ t 10 hm) (by decide)
            · simp at hm
          · rw [if_neg a4]; intro h; exact absurd rfl h
        · rw [if_neg a3]
          by_cases a4 : c.toNat = 45 ∨ isD c = true
          · rw [if_pos a4]
            have hc : c ≠ 10 := by rintro rfl; exact absurd a4 (by decide)
            by_cases a5 : val ((c :: t).take (runB isD t + 1)) = true
            · rw [if_pos a5]; intro _
              rw [List.count_eq_zero]
              intro hm
              rw [List.take_succ_cons, List.mem_cons] at hm
              rcases hm with hm | hm
              · exact hc hm.symm
              · exact absurd (runB_all isD t 10 hm) (by decide)
            · rw [if_neg a5]; intro h; exact absurd rfl h
          · rw [if_neg a4]; intro h; exact absurd rfl h

theorem lexL_fuel : ∀ (f g : Nat) (l : Bs) (p n : Nat), l.length ≤ f → l.length ≤ g → lexL res val f l p n = lexL res val g l p n
  | 0, g, l, p, n, hf, _ => by
    obtain rfl : l = [] := List.length_eq_zero_iff.1 (by omega)
    cases g <;> rfl
  | f + 1, 0, l, p, n, _, hg => by
    obtain rfl : l = [] := List.length_eq_zero_iff.1 (by omega)
    rfl
  | f + 1, g + 1, [], p, n, _, _ => rfl
  | f + 1, g + 1, c :: t, p, n, hf, hg => by
    simp only [List.length_cons] at hf hg
    have ih := fun l' p' n' (h : l'.length ≤ t.length) => lexL_fuel f g l' p' n' (by omega) (by omega)
    simp only [lexL]
    rw [ih t _ _ (Nat.le_refl _), ih t _ _ (Nat.le_refl _), ih (t.drop (runB notN t)) _ _ (by rw [List.length_drop]; omega)]
    by_cases hk : (tokL res val (c :: t)).1 = 0
    · rw [if_pos hk, if_pos hk]
    · rw [if_neg hk, if_neg hk]
      have := tokL_le res val (c :: t) hk
      rw [ih ((c :: t).drop (tokL res val (c :: t)).2) _ _ (by rw [List.length_drop, List.length_cons]; omega)]

def plex (l : Bs) (p n : Nat) : Except Nat (List Tk) := lexL res val l.length l p n
theorem plex_nil (p n : Nat) : plex res val [] p n = .ok [] := rfl
theorem plex_lf (t : Bs) (c : UInt8) (hc : c.toNat = 10) (p n : Nat) : plex res val (c :: t) p n = plex res val t (p + 1) (n + 1) := by
  unfold plex; simp only [List.length_cons, lexL, hc, if_true]
theorem plex_blank (t : Bs) (c : UInt8) (hc : c.toNat = 32 ∨ c.toNat = 9) (p n : Nat) : plex res val (c :: t) p n = plex res val t (p + 1) n := by
  unfold plex; simp only [List.length_cons, lexL]; rw [if_neg (by omega), if_pos hc]
theorem plex_note (t : Bs) (c : UInt8) (hc : c.toNat = 35) (p n : Nat) : plex res val (c :: t) p n = plex res val (t.drop (runB notN t)) (p + (runB notN t + 1)) n := by
  unfold plex; simp only [List.length_cons, lexL]; rw [if_neg (by omega), if_neg (by omega), if_pos hc]
  exact lexL_fuel res val _ _ _ _ _ (by rw [List.length_drop]; omega) (Nat.le_refl _)
def plainC (c : UInt8) : Prop := ¬ c.toNat = 10 ∧ ¬ (c.toNat = 32 ∨ c.toNat = 9) ∧ ¬ c.toNat = 35
theorem plex_bad (t : Bs) (c : UInt8) (hc : plainC c) (hk : (tokL res val (c :: t)).1 = 0) (p n : Nat) : plex res val (c :: t) p n = .error p := by
  unfold plex; simp only [List.length_cons, lexL]; rw [if_neg hc.1, if_neg hc.2.1, if_neg hc.2.2, if_pos hk]
def mkTk (l : Bs) (p n : Nat) : Tk := { kind := (tokL res val l).1, text := if (tokL res val l).1 = 4 then l.tail.take ((tokL res val l).2 - 2) else l.take (tokL res val l).2, line := n, pos := p }
theorem plex_tok (t : Bs) (c : UInt8) (hc : plainC c) (hk : (tokL res val (c :: t)).1 ≠ 0) (p n : Nat) : plex res val (c :: t) p n = (match plex res val ((c :: t).drop (tokL res val (c :: t)).2) (p + (tokL res val (c :: t)).2) n with
      | .error m => .error m
      | .ok l => .ok (mkTk res val (c :: t) p n :: l)) := by
  have h := tokL_le res val (c :: t) hk
  unfold plex
  rw [lexL_fuel res val ((c :: t).drop (tokL res val (c :: t)).2).length t.length _ _ _ (Nat.le_refl _) (by rw [List.length_drop, List.length_cons]; omega)]
  simp only [List.length_cons, lexL]; rw [if_neg hc.1, if_neg hc.2.1, if_neg hc.2.2, if_neg hk]
  rfl
/-- An induction along the lexer. -/
theorem plex_ind {P : Bs → Nat → Nat → Prop} (nil : ∀ p n, P [] p n) (lf : ∀ t (c : UInt8) p n, c.toNat = 10 → P t (p + 1) (n + 1) → P (c :: t) p n)
    (bl : ∀ t (c : UInt8) p n, (c.toNat = 32 ∨ c.toNat = 9) → P t (p + 1) n → P (c :: t) p n)
    (note : ∀ t (c : UInt8) p n, c.toNat = 35 → P (t.drop (runB notN t)) (p + (runB notN t + 1)) n → P (c :: t) p n)
    (bad : ∀ t (c : UInt8) p n, plainC c → (tokL res val (c :: t)).1 = 0 → P (c :: t) p n)
    (tok : ∀ t (c : UInt8) p n, plainC c → (tokL res val (c :: t)).1 ≠ 0 → P ((c :: t).drop (tokL res val (c :: t)).2) (p + (tokL res val (c :: t)).2) n → P (c :: t) p n) :
    ∀ (f : Nat) (l : Bs) (p n : Nat), l.length ≤ f → P l p n
  | _, [], p, n, _ => nil p n
  | 0, c :: t, _, _, h => by simp at h
  | f + 1, c :: t, p, n, h => by
    simp only [List.length_cons] at h
    have ih := fun l' p' n' (h : l'.length ≤ t.length) => plex_ind nil lf bl note bad tok f l' p' n' (by omega)
    by_cases h1 : c.toNat = 10
    · exact lf t c p n h1 (ih t _ _ (Nat.le_refl _))
    · by_cases h2 : c.toNat = 32 ∨ c.toNat = 9
      · exact bl t c p n h2 (ih t _ _ (Nat.le_refl _))
      · by_cases h3 : c.toNat = 35
        · exact note t c p n h3 (ih _ _ _ (by rw [List.length_drop]; omega))
        · by_cases hk : (tokL res val (c :: t)).1 = 0
          · exact bad t c p n ⟨h1, h2, h3⟩ hk
          · have := tokL_le res val (c :: t) hk
            exact tok t c p n ⟨h1, h2, h3⟩ hk (ih _ _ _ (by rw [List.length_drop, List.length_cons]; omega))
def shiftTk (d e : Nat) (t : Tk) : Tk := { t with line := t.line + e, pos := t.pos + d }
def shiftR (d e : Nat) : Except Nat (List Tk) → Except Nat (List Tk)
  | .error n => .error (n + d)
  | .ok l => .ok (l.map (shiftTk d e))
theorem plex_shift (d e : Nat) (l : Bs) (p n : Nat) : plex res val l (p + d) (n + e) = shiftR d e (plex res val l p n) := by
  refine plex_ind res val (P := fun l p n => plex res val l (p + d) (n + e) = shiftR d e (plex res val l p n)) ?_ ?_ ?_ ?_ ?_ ?_ l.length l p n (Nat.le_refl _)
  · intro p n; rfl
  · intro t c p n hc ih
    rw [plex_lf _ _ _ _ hc, plex_lf _ _ _ _ hc, ← ih]; congr 1 <;> omega
  · intro t c p n hc ih
    rw [plex_blank _ _ _ _ hc, plex_blank _ _ _ _ hc, ← ih]; congr 1; omega
  · intro t c p n hc ih
    rw [plex_note _ _ _ _ hc, plex_note _ _ _ _ hc, ← ih]; congr 1; omega
  · intro t c p n hc hk
    rw [plex_bad _ _ _ _ hc hk, plex_bad _ _ _ _ hc hk]; rfl
  · intro t c p n hc hk ih
    rw [plex_tok _ _ _ _ hc hk, plex_tok _ _ _ _ hc hk, show p + d + (tokL res val (c :: t)).2 = p + (tokL res val (c :: t)).2 + d by omega, ih]
    cases plex res val ((c :: t).drop (tokL res val (c :: t)).2) (p + (tokL res val (c :: t)).2) n <;> rfl
def joinR (b : Except Nat (List Tk)) : Except Nat (List Tk) → Except Nat (List Tk)
  | .error n => .error n
  | .ok x => match b with
    | .error n => .error n
    | .ok y => .ok (x ++ y)
theorem plex_parts (b : Bs) (l : Bs) (p n : Nat) : plex res val (l ++ 10 :: b) p n = joinR (plex res val b (p + l.length + 1) (n + l.count 10 + 1)) (plex res val l p n) := by
  refine plex_ind res val (P := fun l p n => plex res val (l ++ 10 :: b) p n = joinR (plex res val b (p + l.length + 1) (n + l.count 10 + 1)) (plex res val l p n)) ?_ ?_ ?_ ?_ ?_ ?_ l.length l p n (Nat.le_refl _)
  · intro p n
    rw [List.nil_append, plex_lf _ _ _ _ (by decide), plex_nil]
    simp only [joinR, List.length_nil, List.count_nil, Nat.add_zero]
    cases plex res val b (p + 1) (n + 1) <;> rfl
  · intro t c p n hc ih
    obtain rfl : c = 10 := UInt8.toNat_inj.1 hc
    rw [List.cons_append, plex_lf _ _ _ _ hc, plex_lf _ _ _ _ hc, ih, List.length_cons, List.count_cons_self]
    congr 2 <;> omega
  · intro t c p n hc ih
    have h10 : c ≠ 10 := by rintro rfl; exact absurd hc (by decide)
    rw [List.cons_append, plex_blank _ _ _ _ hc, plex_blank _ _ _ _ hc, ih, List.length_cons, List.count_cons_of_ne (by simpa using h10)]
    congr 2; omega
  · intro t c p n hc ih
    have h10 : c ≠ 10 := by rintro rfl; exact absurd hc (by decide)
    have hr := runB_le notN t
    rw [List.cons_append, plex_note _ _ _ _ hc, plex_note _ _ _ _ hc, runB_app notN 10 (by decide), List.drop_append_of_le_length hr, ih, List.length_cons, List.count_cons_of_ne (by simpa using h10), List.length_drop]
    have hcount : (t.drop (runB notN t)).count 10 = t.count 10 := by
      conv => rhs; rw [← List.take_append_drop (runB notN t) t]
      rw [List.count_append, List.count_eq_zero.2 (fun hm => absurd (runB_all notN t 10 hm) (by decide)), Nat.zero_add]
    rw [hcount]
    congr 2; omega
  · intro t c p n hc hk
    rw [List.cons_append, plex_bad _ _ _ _ hc hk, plex_bad _ _ _ _ hc (by rw [← List.cons_append, tokL_app _ _ _ _ (by simp)]; exact hk)]; rfl
  · intro t c p n hc hk ih
    have e := tokL_app res val (c :: t) b (by simp)
    have hl := tokL_le res val (c :: t) hk
    have hn := tokL_nolf res val (c :: t) hk
    have hk' : (tokL res val (c :: (t ++ 10 :: b))).1 ≠ 0 := by rw [← List.cons_append, e]; exact hk
    have hcount : ((c :: t).drop (tokL res val (c :: t)).2).count 10 = (c :: t).count 10 := by
      conv => rhs; rw [← List.take_append_drop (tokL res val (c :: t)).2 (c :: t)]
      rw [List.count_append, hn, Nat.zero_add]
    have hm : mkTk res val (c :: (t ++ 10 :: b)) p n = mkTk res val (c :: t) p n := by
      unfold mkTk
      rw [← List.cons_append, e]
      congr 1
      by_cases h4 : (tokL res val (c :: t)).1 = 4
      · rw [if_pos h4, if_pos h4]
        simp only [List.cons_append, List.tail_cons]
        exact List.take_append_of_le_length (by simp only [List.length_cons] at hl; omega)
      · rw [if_neg h4, if_neg h4]; exact List.take_append_of_le_length hl.2
    rw [List.cons_append, plex_tok _ _ _ _ hc hk, plex_tok _ _ _ _ hc hk', hm, ← List.cons_append, e, List.drop_append_of_le_length hl.2, ih, hcount, List.length_drop]
    have ee : p + (tokL res val (c :: t)).2 + ((c :: t).length - (tokL res val (c :: t)).2) + 1 = p + (c :: t).length + 1 := by omega
    rw [ee]
    cases plex res val ((c :: t).drop (tokL res val (c :: t)).2) (p + (tokL res val (c :: t)).2) n with
    | error m => rfl
    | ok x => 
      cases plex res val b (p + (c :: t).length + 1) (n + (c :: t).count 10 + 1) <;> rfl
/-! ### Cover -/
def stepC : Option Bool → UInt8 → Option Bool
  | none, _ => none
  | some true, c => some (notN c)
  | some false, c => if c.toNat = 35 then some true else if c.toNat = 10 ∨ (c.toNat = 32 ∨ c.toNat = 9) then some false else none
def blankS (l : Bs) : Option Bool := l.foldl stepC (some false)
theorem note_fold : ∀ t : Bs, (t.take (runB notN t)).foldl stepC (some true) = some true
  | [] => rfl
  | c :: t => by
    unfold runB
    cases h : notN c with
    | true => rw [if_pos rfl, List.take_succ_cons, List.foldl_cons]; simp only [stepC, h]; exact note_fold t
    | false => rw [if_neg (by simp)]; rfl
def srcL (t : Tk) : Bs := if t.kind = 4 then 34 :: (t.text ++ [34]) else t.text
def coverOK (s : Bs) : Nat → Nat → List Tk → Prop
  | from_, _, [] => from_ ≤ s.length ∧ blankS (s.drop from_) ≠ none
  | from_, line, t :: l => from_ ≤ t.pos ∧ srcL t ≠ [] ∧ t.pos + (srcL t).length ≤ s.length ∧ (s.drop t.pos).take (srcL t).length = srcL t ∧ blankS ((s.drop from_).take (t.pos - from_)) = some false ∧ t.line = line + ((s.drop from_).take (t.pos - from_)).count 10 ∧ coverOK s (t.pos + (srcL t).length) t.line l
theorem seg_ext (s : Bs) (a p k : Nat) (h : a ≤ p) : (s.drop a).take (p + k - a) = (s.drop a).take (p - a) ++ (s.drop p).take k := by
  rw [show p + k - a = (p - a) + k by omega, List.take_add, List.drop_drop, show a + (p - a) = p by omega]
theorem tokL_four (c : UInt8) (t : Bs) (h : (tokL res val (c :: t)).1 = 4) : c = 34 ∧ (t.drop (runB notQ t)).head? = some 34 ∧ (tokL res val (c :: t)).2 = runB notQ t + 2 := by
  simp only [tokL] at h ⊢
  by_cases a1 : isL c = true
  · rw [if_pos a1] at h; repeat' split at h
    all_goals exact absurd h (by simp)
  · rw [if_neg a1] at h ⊢
    by_cases a2 : c.toNat = 47 ∨ c.toNat = 44 ∨ c.toNat = 58
    · rw [if_pos a2] at h; exact absurd h (by decide)
    · rw [if_neg a2] at h ⊢
      by_cases a3 : c.toNat = 34
      · rw [if_pos a3] at h ⊢
        by_cases a4 : (t.drop (runB notQ t)).head? = some 34 ∧ runB notQ t ≤ 2000
        · rw [if_pos a4]; exact ⟨UInt8.toNat_inj.1 a3, a4.1, rfl⟩
        · rw [if_neg a4] at h; exact absurd h (by decide)
      · rw [if_neg a3] at h; repeat' split at h
        all_goals exact absurd h (by simp)
theorem srcL_mk (c : UInt8) (t : Bs) (p n : Nat) : srcL (mkTk res val (c :: t) p n) = (c :: t).take (tokL res val (c :: t)).2 := by
  unfold srcL mkTk
  by_cases h4 : (tokL res val (c :: t)).1 = 4
  · obtain ⟨rfl, h1, h2⟩ := tokL_four res val c t h4
    rw [if_pos h4, if_pos h4, h2, List.tail_cons, show runB notQ t + 2 - 2 = runB notQ t by omega, List.take_succ_cons, take_run_succ notQ t 34 h1]
  · rw [if_neg h4, if_neg h4]
theorem cover_ok (s : Bs) (l : Bs) (p n : Nat) : ∀ from_ line toks, s.drop p = l → p ≤ s.length → from_ ≤ p → n = line + ((s.drop from_).take (p - from_)).count 10 →
    (∃ b, blankS ((s.drop from_).take (p - from_)) = some b ∧ (b = true → ∀ c t, l = c :: t → c.toNat = 10)) → plex res val l p n = .ok toks → coverOK s from_ line toks := by
  refine plex_ind res val (P := fun l p n => ∀ from_ line toks, s.drop p = l → p ≤ s.length → from_ ≤ p → n = line + ((s.drop from_).take (p - from_)).count 10 →
    (∃ b, blankS ((s.drop from_).take (p - from_)) = some b ∧ (b = true → ∀ c t, l = c :: t → c.toNat = 10)) → plex res val l p n = .ok toks → coverOK s from_ line toks) ?_ ?_ ?_ ?_ ?_ ?_ l.length l p n (Nat.le_refl _)
  · intro p n a line toks hl hp ha hn ⟨b, hb, hb2⟩ hx
    obtain rfl := Except.ok.inj hx
    have : p = s.length := by have := congrArg List.length hl; simp at this; omega
    subst this
    refine ⟨ha, ?_⟩
    rw [List.take_of_length_le (by simp)] at hb
    rw [hb]; simp
  · intro t c p n hc ih a line toks hl hp ha hn ⟨b, hb, hb2⟩ hx
    have hlt : p < s.length := by have := congrArg List.length hl; simp at this; omega
    have e := seg_ext s a p 1 ha
    rw [hl] at e
    rw [plex_lf _ _ _ _ hc] at hx
    have c10 : c = 10 := UInt8.toNat_inj.1 hc
    refine ih a line toks ?_ hlt (by omega) ?_ ?_ hx
    · rw [← List.drop_drop, hl]; rfl
    · rw [e, List.count_append, hn, c10]; simp; omega
    · refine ⟨false, ?_, fun h => by cases h⟩
      rw [e]; unfold blankS at hb ⊢
      rw [List.foldl_append, hb, c10]
      cases b <;> rfl
  · intro t c p n hc ih a line toks hl hp ha hn ⟨b, hb, hb2⟩ hx
    have hlt : p < s.length := by have := congrArg List.length hl; simp at this; omega
    have e := seg_ext s a p 1 ha
    rw [hl] at e
    rw [plex_blank _ _ _ _ hc] at hx
    have c10 : c ≠ 10 := by rintro rfl; exact absurd hc (by decide)
    have bf : b = false := by cases b with
      | false => rfl
      | true => have := hb2 rfl c t rfl; omega
    subst bf
    refine ih a line toks ?_ hlt (by omega) ?_ ?_ hx
    · rw [← List.drop_drop, hl]; rfl
    · rw [e, List.count_append, hn]; simp [c10]
    · refine ⟨false, ?_, fun h => by cases h⟩
      rw [e]; unfold blankS at hb ⊢
      rw [List.foldl_append, hb]
      simp only [List.take_succ_cons, List.take_zero, List.foldl_cons, List.foldl_nil, stepC]
      rw [if_neg (by omega), if_pos (by omega)]
  · intro t c p n hc ih a line toks hl hp ha hn ⟨b, hb, hb2⟩ hx
    have hlen : s.length = p + t.length + 1 := by have := congrArg List.length hl; simp at this; omega
    have hr := runB_le notN t
    have e := seg_ext s a p (runB notN t + 1) ha
    rw [hl] at e
    rw [plex_note _ _ _ _ hc] at hx
    have c10 : c ≠ 10 := by rintro rfl; exact absurd hc (by decide)
    have bf : b = false := by cases b with
      | false => rfl
      | true => have := hb2 rfl c t rfl; omega
    subst bf
    refine ih a line toks ?_ (by omega) (by omega) ?_ ?_ hx
    · rw [← List.drop_drop, hl, List.drop_succ_cons]
    · rw [e, List.count_append, hn, List.take_succ_cons, List.count_cons_of_ne (by simpa using c10), List.count_eq_zero.2 (fun hm => absurd (runB_all notN t 10 hm) (by decide))]; omega
    · refine ⟨true, ?_, fun _ c' t' h' => ?_⟩
      · rw [e]; unfold blankS at hb ⊢
        rw [List.foldl_append, hb, List.take_succ_cons, List.foldl_cons, show stepC (some false) c = some true by simp only [stepC, hc, if_true]]
        exact note_fold t
      · have := runB_drop notN t c' (by rw [h']; rfl)
        simpa [notN] using this
  · intro t c p n hc hk a line toks hl hp ha hn hb hx
    rw [plex_bad _ _ _ _ hc hk] at hx
    cases hx
  · intro t c p n hc hk ih a line toks hl hp ha hn ⟨b, hb, hb2⟩ hx
    have hlen : s.length = p + (c :: t).length := by have := congrArg List.length hl; simp only [List.length_drop] at this; simp only [List.length_cons] at this ⊢; omega
    have bf : b = false := by cases b with
      | false => rfl
      | true => have := hb2 rfl c t rfl; exact absurd this hc.1
    subst bf
    have hle := tokL_le res val (c :: t) hk
    rw [plex_tok _ _ _ _ hc hk] at hx
    generalize hy : plex res val ((c :: t).drop (tokL res val (c :: t)).2) (p + (tokL res val (c :: t)).2) n = y at hx
    cases y with
    | error m => cases hx
    | ok l' =>
      obtain rfl := Except.ok.inj hx
      have hs := srcL_mk res val c t p n
      have hsl : (srcL (mkTk res val (c :: t) p n)).length = (tokL res val (c :: t)).2 := by rw [hs, List.length_take]; omega
      refine ⟨ha, ?_, ?_, ?_, hb, hn, ?_⟩
      · intro h0; rw [h0] at hsl; simp at hsl; omega
      · rw [hsl]; show p + _ ≤ _; omega
      · rw [hsl, hs]; show (s.drop p).take _ = _; rw [hl]
      · rw [hsl]
        refine ih _ _ _ ?_ (by omega) (Nat.le_refl _) ?_ ⟨false, ?_, fun h => by cases h⟩ hy
        · rw [← List.drop_drop, hl]
        · show n = n + _; simp [mkTk]
        · simp [mkTk, blankS]
/-! ### where the tokens stand -/
theorem toks_from (s : Bs) (l : Bs) (p n : Nat) : ∀ toks, s.drop p = l → p ≤ s.length → plex res val l p n = .ok toks → ∀ tk ∈ toks, tk.pos < s.length ∧ tk = mkTk res val (s.drop tk.pos) tk.pos tk.line ∧ (tokL res val (s.drop tk.pos)).1 ≠ 0 := by
  refine plex_ind res val (P := fun l p n => ∀ toks, s.drop p = l → p ≤ s.length → plex res val l p n = .ok toks → ∀ tk ∈ toks, tk.pos < s.length ∧ tk = mkTk res val (s.drop tk.pos) tk.pos tk.line ∧ (tokL res val (s.drop tk.pos)).1 ≠ 0) ?_ ?_ ?_ ?_ ?_ ?_ l.length l p n (Nat.le_refl _)
  · intro p n toks hl hp hx tk ht
    obtain rfl := Except.ok.inj hx
    simp at ht
  · intro t c p n hc ih toks hl hp hx
    rw [plex_lf _ _ _ _ hc] at hx
    exact ih toks (by rw [← List.drop_drop, hl]; rfl) (by have := congrArg List.length hl; simp at this; omega) hx
  · intro t c p n hc ih toks hl hp hx
    rw [plex_blank _ _ _ _ hc] at hx
    exact ih toks (by rw [← List.drop_drop, hl]; rfl) (by have := congrArg List.length hl; simp at this; omega) hx
  · intro t c p n hc ih toks hl hp hx
    rw [plex_note _ _ _ _ hc] at hx
    have hr := runB_le notN t
    exact ih toks (by rw [← List.drop_drop, hl, List.drop_succ_cons]) (by have := congrArg List.length hl; simp at this; omega) hx
  · intro t c p n hc hk toks hl hp hx
    rw [plex_bad _ _ _ _ hc hk] at hx
    cases hx
  · intro t c p n hc hk ih toks hl hp hx
    have hlen : s.length = p + (c :: t).length := by have := congrArg List.length hl; simp only [List.length_drop] at this; simp only [List.length_cons] at this ⊢; omega
    have hle := tokL_le res val (c :: t) hk
    rw [plex_tok _ _ _ _ hc hk] at hx
    generalize hy : plex res val ((c :: t).drop (tokL res val (c :: t)).2) (p + (tokL res val (c :: t)).2) n = y at hx
    cases y with
    | error m => cases hx
    | ok l' =>
      obtain rfl := Except.ok.inj hx
      intro tk ht
      rcases List.mem_cons.1 ht with rfl | ht
      · show p < _ ∧ mkTk _ _ _ _ _ = mkTk _ _ (s.drop p) _ _ ∧ (tokL _ _ (s.drop p)).1 ≠ 0
        rw [hl]; exact ⟨by simp only [List.length_cons] at hlen; omega, rfl, hk⟩
      · exact ih l' (by rw [← List.drop_drop, hl]) (by omega) hy tk ht
theorem longest (l : Bs) (x : UInt8) (h : ((l.drop (tokL res val l).2).head? = some x)) : ((tokL res val l).1 = 1 ∨ (tokL res val l).1 = 2 → isW x = false) ∧ ((tokL res val l).1 = 3 → isD x = false) := by
  cases l with
  | nil => simp [tokL]
  | cons c t =>
    simp only [tokL] at h ⊢
    by_cases a1 : isL c = true
    · rw [if_pos a1] at h ⊢
      have hw : ((c :: t).drop (runB isW t + 1)).head? = some x → isW x = false := fun h => runB_drop isW t x (by simpa using h)
      by_cases a2 : res ((c :: t).take (runB isW t + 1)) = true
      · rw [if_pos a2] at h ⊢; exact ⟨fun _ => hw h, fun h => absurd h (by simp)⟩
      · rw [if_neg a2] at h ⊢
        by_cases a3 : runB isW t + 1 ≤ 30
        · rw [if_pos a3] at h ⊢; exact ⟨fun _ => hw h, fun h => absurd h (by simp)⟩
        · rw [if_neg a3]; exact ⟨fun h => absurd h (by simp), fun h => absurd h (by simp)⟩
    · rw [if_neg a1] at h ⊢
      by_cases a2 : c.toNat = 47 ∨ c.toNat = 44 ∨ c.toNat = 58
      · rw [if_pos a2]; exact ⟨fun h => absurd h (by simp), fun h => absurd h (by simp)⟩
      · rw [if_neg a2] at h ⊢
        by_cases a3 : c.toNat = 34
        · rw [if_pos a3]
          by_cases a4 : (t.drop (runB notQ t)).head? = some 34 ∧ runB notQ t ≤ 2000
          · rw [if_pos a4]; exact ⟨fun h => absurd h (by simp), fun h => absurd h (by simp)⟩
          · rw [if_neg a4]; exact ⟨fun h => absurd h (by simp), fun h => absurd h (by simp)⟩
        · rw [if_neg a3] at h ⊢
          by_cases a4 : c.toNat = 45 ∨ isD c = true
          · rw [if_pos a4] at h ⊢
            by_cases a5 : val ((c :: t).take (runB isD t + 1)) = true
            · rw [if_pos a5] at h ⊢; exact ⟨fun h => absurd h (by simp), fun _ => runB_drop isD t x (by simpa using h)⟩
            · rw [if_neg a5]; exact ⟨fun h => absurd h (by simp), fun h => absurd h (by simp)⟩
          · rw [if_neg a4]; exact ⟨fun h => absurd h (by simp), fun h => absurd h (by simp)⟩
theorem plex_len (l : Bs) (p n : Nat) : ∀ toks, plex res val l p n = .ok toks → toks.length ≤ l.length := by
  refine plex_ind res val (P := fun l p n => ∀ toks, plex res val l p n = .ok toks → toks.length ≤ l.length) ?_ ?_ ?_ ?_ ?_ ?_ l.length l p n (Nat.le_refl _)
  · intro p n toks hx
    obtain rfl := Except.ok.inj hx
    exact Nat.le_refl _
  · intro t c p n hc ih toks hx
    rw [plex_lf _ _ _ _ hc] at hx
    have := ih toks hx; simp only [List.length_cons]; omega
  · intro t c p n hc ih toks hx
    rw [plex_blank _ _ _ _ hc] at hx
    have := ih toks hx; simp only [List.length_cons]; omega
  · intro t c p n hc ih toks hx
    rw [plex_note _ _ _ _ hc] at hx
    have := ih toks hx; rw [List.length_drop] at this; simp only [List.length_cons]; omega
  · intro t c p n hc hk toks hx
    rw [plex_bad _ _ _ _ hc hk] at hx
    cases hx
  · intro t c p n hc hk ih toks hx
    have hle := tokL_le res val (c :: t) hk
    rw [plex_tok _ _ _ _ hc hk] at hx
    generalize hy : plex res val ((c :: t).drop (tokL res val (c :: t)).2) (p + (tokL res val (c :: t)).2) n = y at hx
    cases y with
    | error m => cases hx
    | ok l' =>
      obtain rfl := Except.ok.inj hx
      have := ih l' hy
      rw [List.length_drop] at this; simp only [List.length_cons] at hle ⊢; simp only [List.length_cons] at this; omega
/-! ### values -/
def digL (l : Bs) : Bs := if l.head? = some 45 then l.tail else l
def okV (l : Bs) : Bool := decide (1 ≤ (digL l).length) && decide ((digL l).length ≤ 6) && (digL l).all isD && !(decide ((digL l).head? = some 48) && decide (l ≠ [48]))
def decV : Int → Bs → Int
  | a, [] => a
  | a, c :: t => decV (10 * a + ((c.toNat : Int) - 48)) t
def valV (l : Bs) : Int := if l.head? = some 45 then - decV 0 (digL l) else decV 0 (digL l)
theorem decFrom_ok : ∀ (l : Bs) (a : Nat), l.all isD = true → ∃ n : Nat, Go.Lib.decFrom a l = some n ∧ (n : Int) = decV a l
  | [], a, _ => ⟨a, rfl, rfl⟩
  | c :: t, a, h => by
    rw [List.all_cons, Bool.and_eq_true] at h
    have hc : 48 ≤ c.toNat ∧ c.toNat ≤ 57 := of_decide_eq_true h.1
    obtain ⟨n, h1, h2⟩ := decFrom_ok t (a * 10 + (c.toNat - 48)) h.2
    refine ⟨n, ?_, ?_⟩
    · simp only [Go.Lib.decFrom, Go.Lib.digitVal]; rw [if_pos hc]; exact h1
    · rw [h2]; simp only [decV]; congr 1; omega
theorem decNat_ok (l : Bs) (hl : 1 ≤ l.length) (h : l.all isD = true) : ∃ n : Nat, Go.Lib.decNat l = some n ∧ (n : Int) = decV 0 l := by
  obtain ⟨n, h1, h2⟩ := decFrom_ok l 0 h
  refine ⟨n, ?_, h2⟩
  unfold Go.Lib.decNat
  rw [if_neg (by cases l with
    | nil => simp at hl
    | cons => simp), h1]
theorem atoi_ok (l : Bs) (h : okV l = true) : Go.Lib.atoi l = some (valV l) := by
  simp only [okV, Bool.and_eq_true, decide_eq_true_eq] at h
  obtain ⟨n, h1, h2⟩ := decNat_ok (digL l) h.1.1.1 h.1.2
  cases l with
  | nil => simp [digL] at h
  | cons c t =>
    by_cases hc : c = 45
    · subst hc
      simp only [digL, List.head?_cons, if_true, List.tail_cons] at h1 h2
      simp only [Go.Lib.atoi, valV, digL, List.head?_cons, if_true, List.tail_cons, beq_self_eq_true]
      rw [h1]; simp [h2]
    · have e : digL (c :: t) = c :: t := by simp [digL, hc]
      rw [e] at h1 h2 h
      have h43 : c ≠ 43 := by rintro rfl; have := h.1.2; rw [List.all_cons] at this; exact absurd this (by simp [isD])
      simp only [Go.Lib.atoi, valV, e, List.head?_cons]
      rw [if_neg (by simpa using hc), if_neg (by simpa using h43), if_neg (by simpa using hc), h1]; simp [h2]
theorem indexAny_run : ∀ t : Bs, Go.Lib.indexAny t [34, 10] = if runB notQ t < t.length then (runB notQ t : Int) else -1
  | [] => rfl
  | c :: t => by
    have ih := indexAny_run t
    have hle := runB_le notQ t
    have hq : ([34, 10] : Bs).contains c = !notQ c := by
      have e1 : (c == 34) = decide (c.toNat = 34) := by
        rw [Bool.eq_iff_iff, beq_iff_eq, decide_eq_true_eq, ← UInt8.toNat_inj]; rfl
      have e2 : (c == 10) = decide (c.toNat = 10) := by
        rw [Bool.eq_iff_iff, beq_iff_eq, decide_eq_true_eq, ← UInt8.toNat_inj]; rfl
      simp only [notQ, List.contains_cons, List.contains_nil, Bool.or_false, e1, e2]
      simp
    have e0 : Go.Lib.indexAny (c :: t) [34, 10] = if (!notQ c) = true then 0 else if (Go.Lib.indexAny t [34, 10] == -1) = true then -1 else Go.Lib.indexAny t [34, 10] + 1 := by rw [Go.Lib.indexAny, hq]
    rw [e0, ih]
    cases hn : notQ c with
    | true =>
      have er : runB notQ (c :: t) = runB notQ t + 1 := by simp only [runB, hn, if_true]
      rw [er, List.length_cons]
      by_cases h : runB notQ t < t.length
      · rw [if_neg (by simp), if_pos h, if_neg (by rw [beq_iff_eq]; omega), if_pos (by omega)]; omega
      · rw [if_neg (by simp), if_neg h, if_pos (by simp), if_neg (by omega)]
    | false =>
      have er : runB notQ (c :: t) = 0 := by simp [runB, hn]
      rw [er, List.length_cons]
      rw [if_pos (by simp), if_pos (by omega)]; rfl

end Go.Proofs.YthjmbagkomnpgaaDoor.Plain
