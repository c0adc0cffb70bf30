-- Written by this session's own programs; what the law does not lean on is left out. Lean checks it.
import Derived.Lib.Atoi
import Derived.Lib.IndexAny
import Derived.Test.YthjmbagkomnpgaaDoorJLx14
import Derived.Test.YthjmbagkomnpgaaDoorJLx16
import Derived.Test.YthjmbagkomnpgaaDoorJS
import Derived.Test.YthjmbagkomnpgaaDoorJLx17
import Derived.KernelRfl
section
namespace Go.Proofs.YthjmbagkomnpgaaDoor.Plain
abbrev Bs := List UInt8
def isL (c : UInt8) : Bool := decide (97 ≤ c.toNat ∧ c.toNat ≤ 122) || decide (65 ≤ c.toNat ∧ c.toNat ≤ 90)
def isD (c : UInt8) : Bool := decide (48 ≤ c.toNat ∧ c.toNat ≤ 57)
def isW (c : UInt8) : Bool := isL c || isD c || decide (c.toNat = 45) || decide (c.toNat = 95)
def runB (p : UInt8 → Bool) : Bs → Nat
 | [] => 0
 | c :: t => if p c then runB p t + 1 else 0
def wordB : Bs → Bool
 | [] => false
 | c :: t => isL c && t.all isW
structure Tk where
 kind : Nat
 text : Bs
 line : Nat
 pos : Nat
variable (res : Bs → Bool) (val : Bs → Bool)
def notQ (c : UInt8) : Bool := decide (c.toNat ≠ 34) && decide (c.toNat ≠ 10)
def notN (c : UInt8) : Bool := decide (c.toNat ≠ 10)
def tokL : Bs → Nat × Nat
 | [] => (0, 0)
 | c :: t =>
  if isL c then
   (if res ((c :: t).take (runB isW t + 1)) then (2, runB isW t + 1) else if runB isW t + 1 ≤ 30 then (1, runB isW t + 1) else (0, 0))
  else if c.toNat = 47 ∨ c.toNat = 44 ∨ c.toNat = 58 then (5, 1)
  else if c.toNat = 34 then
   (if (t.drop (runB notQ t)).head? = some 34 ∧ runB notQ t ≤ 2000 then (4, runB notQ t + 2) else (0, 0))
  else if c.toNat = 45 ∨ isD c then
   (if val ((c :: t).take (runB isD t + 1)) then (3, runB isD t + 1) else (0, 0))
  else (0, 0)
def lexL : Nat → Bs → Nat → Nat → Except Nat (List Tk)
 | 0, _, _, _ => .ok []
 | _ + 1, [], _, _ => .ok []
 | f + 1, c :: t, at_, line =>
  if c.toNat = 10 then lexL f t (at_ + 1) (line + 1)
  else if c.toNat = 32 ∨ c.toNat = 9 then lexL f t (at_ + 1) line
  else if c.toNat = 35 then lexL f (t.drop (runB notN t)) (at_ + (runB notN t + 1)) line
  else if (tokL res val (c :: t)).1 = 0 then .error at_
  else match lexL f ((c :: t).drop (tokL res val (c :: t)).2) (at_ + (tokL res val (c :: t)).2) line with
   | .error n => .error n
   | .ok l => .ok ({ kind := (tokL res val (c :: t)).1, text := if (tokL res val (c :: t)).1 = 4 then t.take ((tokL res val (c :: t)).2 - 2) else (c :: t).take (tokL res val (c :: t)).2, line := line, pos := at_ } :: l)

theorem runB_le (p) : ∀ l, runB p l ≤ l.length
 | [] => Nat.le_refl _
 | c :: t => by unfold runB; split <;> simp; exact runB_le p t
theorem runB_app (p : UInt8 → Bool) (x : UInt8) (hx : p x = false) (r : Bs) : ∀ l, runB p (l ++ x :: r) = runB p l
 | [] => by simp [runB, hx]
 | c :: t => by simp only [List.cons_append, runB, runB_app p x hx r t]
theorem runB_drop (p : UInt8 → Bool) : ∀ (l : Bs) (c : UInt8), (l.drop (runB p l)).head? = some c → p c = false
 | [], c => by simp [runB]
 | d :: t, c => by
  unfold runB
  cases h : p d with
  | true => simpa using runB_drop p t c
  | false => intro e; simp at e; rw [← e]; exact h
theorem runB_all (p : UInt8 → Bool) : ∀ (l : Bs), ∀ c ∈ l.take (runB p l), p c = true
 | [], c => by simp
 | d :: t, c => by
  unfold runB
  cases h : p d with
  | true => intro hc; simp at hc; rcases hc with rfl | hc; exact h; exact runB_all p t c hc
  | false => intro hc; simp at hc
theorem tokL_le (l : Bs) : (tokL res val l).1 ≠ 0 → 1 ≤ (tokL res val l).2 ∧ (tokL res val l).2 ≤ l.length := by
 cases l with
 | nil => simp [tokL]
 | cons c t =>
  have h1 := runB_le isW t; have h2 := runB_le isD t; have h3 := runB_le notQ t
  have h4 : (t.drop (runB notQ t)).head? = some 34 → runB notQ t < t.length := fun h => by
   rcases Nat.lt_or_ge (runB notQ t) t.length with x | x
   ·
    exact x
   ·
    rw [List.drop_of_length_le x] at h; simp at h
  simp only [tokL]
  by_cases a1 : isL c = true
  ·
   rw [if_pos a1]
   by_cases a2 : res ((c :: t).take (runB isW t + 1)) = true
   ·
    rw [if_pos a2]; intro _; simp only [List.length_cons]; omega
   ·
    rw [if_neg a2]
    by_cases a3 : runB isW t + 1 ≤ 30
    ·
     rw [if_pos a3]; intro _; simp only [List.length_cons]; omega
    ·
     rw [if_neg a3]; intro h; exact absurd rfl h
  ·
   rw [if_neg a1]
   by_cases a2 : c.toNat = 47 ∨ c.toNat = 44 ∨ c.toNat = 58
   ·
    rw [if_pos a2]; intro _; simp only [List.length_cons]; omega
   ·
    rw [if_neg a2]
    by_cases a3 : c.toNat = 34
    ·
     rw [if_pos a3]
     by_cases a4 : (t.drop (runB notQ t)).head? = some 34 ∧ runB notQ t ≤ 2000
     ·
      rw [if_pos a4]; intro _; have := h4 a4.1; simp only [List.length_cons]; omega
     ·
      rw [if_neg a4]; intro h; exact absurd rfl h
    ·
     rw [if_neg a3]
     by_cases a4 : c.toNat = 45 ∨ isD c = true
     ·
      rw [if_pos a4]
      by_cases a5 : val ((c :: t).take (runB isD t + 1)) = true
      ·
       rw [if_pos a5]; intro _; simp only [List.length_cons]; omega
      ·
       rw [if_neg a5]; intro h; exact absurd rfl h
     ·
      rw [if_neg a4]; intro h; exact absurd rfl h
theorem take_run_succ (p : UInt8 → Bool) (t : Bs) (x : UInt8) (h : (t.drop (runB p t)).head? = some x) : t.take (runB p t + 1) = t.take (runB p t) ++ [x] := by
 rw [List.take_add_one]
 congr 1
 rw [← List.head?_drop, h]; rfl
theorem lexL_fuel : ∀ (f g : Nat) (l : Bs) (p n : Nat), l.length ≤ f → l.length ≤ g → lexL res val f l p n = lexL res val g l p n
 | 0, g, l, p, n, hf, _ => by
  obtain rfl : l = [] := List.length_eq_zero_iff.1 (by omega)
  cases g <;> rfl
 | f + 1, 0, l, p, n, _, hg => by
  obtain rfl : l = [] := List.length_eq_zero_iff.1 (by omega)
  rfl
 | f + 1, g + 1, [], p, n, _, _ => rfl
 | f + 1, g + 1, c :: t, p, n, hf, hg => by
  simp only [List.length_cons] at hf hg
  have ih := fun l' p' n' (h : l'.length ≤ t.length) => lexL_fuel f g l' p' n' (by omega) (by omega)
  simp only [lexL]
  rw [ih t _ _ (Nat.le_refl _), ih t _ _ (Nat.le_refl _), ih (t.drop (runB notN t)) _ _ (by rw [List.length_drop]; omega)]
  by_cases hk : (tokL res val (c :: t)).1 = 0
  ·
   rw [if_pos hk, if_pos hk]
  ·
   rw [if_neg hk, if_neg hk]
   have := tokL_le res val (c :: t) hk
   rw [ih ((c :: t).drop (tokL res val (c :: t)).2) _ _ (by rw [List.length_drop, List.length_cons]; omega)]

def plex (l : Bs) (p n : Nat) : Except Nat (List Tk) := lexL res val l.length l p n
theorem plex_nil (p n : Nat) : plex res val [] p n = .ok [] := rfl
theorem plex_lf (t : Bs) (c : UInt8) (hc : c.toNat = 10) (p n : Nat) : plex res val (c :: t) p n = plex res val t (p + 1) (n + 1) := by
 unfold plex; simp only [List.length_cons, lexL, hc, if_true]
theorem plex_blank (t : Bs) (c : UInt8) (hc : c.toNat = 32 ∨ c.toNat = 9) (p n : Nat) : plex res val (c :: t) p n = plex res val t (p + 1) n := by
 unfold plex; simp only [List.length_cons, lexL]; rw [if_neg (by omega), if_pos hc]
theorem plex_note (t : Bs) (c : UInt8) (hc : c.toNat = 35) (p n : Nat) : plex res val (c :: t) p n = plex res val (t.drop (runB notN t)) (p + (runB notN t + 1)) n := by
 unfold plex; simp only [List.length_cons, lexL]; rw [if_neg (by omega), if_neg (by omega), if_pos hc]
 exact lexL_fuel res val _ _ _ _ _ (by rw [List.length_drop]; omega) (Nat.le_refl _)
def plainC (c : UInt8) : Prop := ¬ c.toNat = 10 ∧ ¬ (c.toNat = 32 ∨ c.toNat = 9) ∧ ¬ c.toNat = 35
theorem plex_bad (t : Bs) (c : UInt8) (hc : plainC c) (hk : (tokL res val (c :: t)).1 = 0) (p n : Nat) : plex res val (c :: t) p n = .error p := by
 unfold plex; simp only [List.length_cons, lexL]; rw [if_neg hc.1, if_neg hc.2.1, if_neg hc.2.2, if_pos hk]
def mkTk (l : Bs) (p n : Nat) : Tk := { kind := (tokL res val l).1, text := if (tokL res val l).1 = 4 then l.tail.take ((tokL res val l).2 - 2) else l.take (tokL res val l).2, line := n, pos := p }
theorem plex_tok (t : Bs) (c : UInt8) (hc : plainC c) (hk : (tokL res val (c :: t)).1 ≠ 0) (p n : Nat) : plex res val (c :: t) p n = (match plex res val ((c :: t).drop (tokL res val (c :: t)).2) (p + (tokL res val (c :: t)).2) n with
   | .error m => .error m
   | .ok l => .ok (mkTk res val (c :: t) p n :: l)) := by
 have h := tokL_le res val (c :: t) hk
 unfold plex
 rw [lexL_fuel res val ((c :: t).drop (tokL res val (c :: t)).2).length t.length _ _ _ (Nat.le_refl _) (by rw [List.length_drop, List.length_cons]; omega)]
 simp only [List.length_cons, lexL]; rw [if_neg hc.1, if_neg hc.2.1, if_neg hc.2.2, if_neg hk]
 rfl
theorem plex_ind {P : Bs → Nat → Nat → Prop} (nil : ∀ p n, P [] p n) (lf : ∀ t (c : UInt8) p n, c.toNat = 10 → P t (p + 1) (n + 1) → P (c :: t) p n)
  (bl : ∀ t (c : UInt8) p n, (c.toNat = 32 ∨ c.toNat = 9) → P t (p + 1) n → P (c :: t) p n)
  (note : ∀ t (c : UInt8) p n, c.toNat = 35 → P (t.drop (runB notN t)) (p + (runB notN t + 1)) n → P (c :: t) p n)
  (bad : ∀ t (c : UInt8) p n, plainC c → (tokL res val (c :: t)).1 = 0 → P (c :: t) p n)
  (tok : ∀ t (c : UInt8) p n, plainC c → (tokL res val (c :: t)).1 ≠ 0 → P ((c :: t).drop (tokL res val (c :: t)).2) (p + (tokL res val (c :: t)).2) n → P (c :: t) p n) :
  ∀ (f : Nat) (l : Bs) (p n : Nat), l.length ≤ f → P l p n
 | _, [], p, n, _ => nil p n
 | 0, c :: t, _, _, h => by simp at h
 | f + 1, c :: t, p, n, h => by
  simp only [List.length_cons] at h
  have ih := fun l' p' n' (h : l'.length ≤ t.length) => plex_ind nil lf bl note bad tok f l' p' n' (by omega)
  by_cases h1 : c.toNat = 10
  ·
   exact lf t c p n h1 (ih t _ _ (Nat.le_refl _))
  ·
   by_cases h2 : c.toNat = 32 ∨ c.toNat = 9
   ·
    exact bl t c p n h2 (ih t _ _ (Nat.le_refl _))
   ·
    by_cases h3 : c.toNat = 35
    ·
     exact note t c p n h3 (ih _ _ _ (by rw [List.length_drop]; omega))
    ·
     by_cases hk : (tokL res val (c :: t)).1 = 0
     ·
      exact bad t c p n ⟨h1, h2, h3⟩ hk
     ·
      have := tokL_le res val (c :: t) hk
      exact tok t c p n ⟨h1, h2, h3⟩ hk (ih _ _ _ (by rw [List.length_drop, List.length_cons]; omega))
def srcL (t : Tk) : Bs := if t.kind = 4 then 34 :: (t.text ++ [34]) else t.text
theorem tokL_four (c : UInt8) (t : Bs) (h : (tokL res val (c :: t)).1 = 4) : c = 34 ∧ (t.drop (runB notQ t)).head? = some 34 ∧ (tokL res val (c :: t)).2 = runB notQ t + 2 := by
 simp only [tokL] at h ⊢
 by_cases a1 : isL c = true
 ·
  rw [if_pos a1] at h; repeat' split at h
  all_goals exact absurd h (by simp)
 ·
  rw [if_neg a1] at h ⊢
  by_cases a2 : c.toNat = 47 ∨ c.toNat = 44 ∨ c.toNat = 58
  ·
   rw [if_pos a2] at h; exact absurd h (by decide)
  ·
   rw [if_neg a2] at h ⊢
   by_cases a3 : c.toNat = 34
   ·
    rw [if_pos a3] at h ⊢
    by_cases a4 : (t.drop (runB notQ t)).head? = some 34 ∧ runB notQ t ≤ 2000
    ·
     rw [if_pos a4]; exact ⟨UInt8.toNat_inj.1 a3, a4.1, rfl⟩
    ·
     rw [if_neg a4] at h; exact absurd h (by decide)
   ·
    rw [if_neg a3] at h; repeat' split at h
    all_goals exact absurd h (by simp)
theorem srcL_mk (c : UInt8) (t : Bs) (p n : Nat) : srcL (mkTk res val (c :: t) p n) = (c :: t).take (tokL res val (c :: t)).2 := by
 unfold srcL mkTk
 by_cases h4 : (tokL res val (c :: t)).1 = 4
 ·
  obtain ⟨rfl, h1, h2⟩ := tokL_four res val c t h4
  rw [if_pos h4, if_pos h4, h2, List.tail_cons, show runB notQ t + 2 - 2 = runB notQ t by omega, List.take_succ_cons, take_run_succ notQ t 34 h1]
 ·
  rw [if_neg h4, if_neg h4]
theorem toks_from (s : Bs) (l : Bs) (p n : Nat) : ∀ toks, s.drop p = l → p ≤ s.length → plex res val l p n = .ok toks → ∀ tk ∈ toks, tk.pos < s.length ∧ tk = mkTk res val (s.drop tk.pos) tk.pos tk.line ∧ (tokL res val (s.drop tk.pos)).1 ≠ 0 := by
 refine plex_ind res val (P := fun l p n => ∀ toks, s.drop p = l → p ≤ s.length → plex res val l p n = .ok toks → ∀ tk ∈ toks, tk.pos < s.length ∧ tk = mkTk res val (s.drop tk.pos) tk.pos tk.line ∧ (tokL res val (s.drop tk.pos)).1 ≠ 0) ?_ ?_ ?_ ?_ ?_ ?_ l.length l p n (Nat.le_refl _)
 ·
  intro p n toks hl hp hx tk ht
  obtain rfl := Except.ok.inj hx
  simp at ht
 ·
  intro t c p n hc ih toks hl hp hx
  rw [plex_lf _ _ _ _ hc] at hx
  exact ih toks (by rw [← List.drop_drop, hl]; rfl) (by have := congrArg List.length hl; simp at this; omega) hx
 ·
  intro t c p n hc ih toks hl hp hx
  rw [plex_blank _ _ _ _ hc] at hx
  exact ih toks (by rw [← List.drop_drop, hl]; rfl) (by have := congrArg List.length hl; simp at this; omega) hx
 ·
  intro t c p n hc ih toks hl hp hx
  rw [plex_note _ _ _ _ hc] at hx
  have hr := runB_le notN t
  exact ih toks (by rw [← List.drop_drop, hl, List.drop_succ_cons]) (by have := congrArg List.length hl; simp at this; omega) hx
 ·
  intro t c p n hc hk toks hl hp hx
  rw [plex_bad _ _ _ _ hc hk] at hx
  cases hx
 ·
  intro t c p n hc hk ih toks hl hp hx
  have hlen : s.length = p + (c :: t).length := by have := congrArg List.length hl; simp only [List.length_drop] at this; simp only [List.length_cons] at this ⊢; omega
  have hle := tokL_le res val (c :: t) hk
  rw [plex_tok _ _ _ _ hc hk] at hx
  generalize hy : plex res val ((c :: t).drop (tokL res val (c :: t)).2) (p + (tokL res val (c :: t)).2) n = y at hx
  cases y with
  | error m => cases hx
  | ok l' =>
   obtain rfl := Except.ok.inj hx
   intro tk ht
   rcases List.mem_cons.1 ht with rfl | ht
   ·
    show p < _ ∧ mkTk _ _ _ _ _ = mkTk _ _ (s.drop p) _ _ ∧ (tokL _ _ (s.drop p)).1 ≠ 0
    rw [hl]; exact ⟨by simp only [List.length_cons] at hlen; omega, rfl, hk⟩
   ·
    exact ih l' (by rw [← List.drop_drop, hl]) (by omega) hy tk ht
theorem longest (l : Bs) (x : UInt8) (h : ((l.drop (tokL res val l).2).head? = some x)) : ((tokL res val l).1 = 1 ∨ (tokL res val l).1 = 2 → isW x = false) ∧ ((tokL res val l).1 = 3 → isD x = false) := by
 cases l with
 | nil => simp [tokL]
 | cons c t =>
  simp only [tokL] at h ⊢
  by_cases a1 : isL c = true
  ·
   rw [if_pos a1] at h ⊢
   have hw : ((c :: t).drop (runB isW t + 1)).head? = some x → isW x = false := fun h => runB_drop isW t x (by simpa using h)
   by_cases a2 : res ((c :: t).take (runB isW t + 1)) = true
   ·
    rw [if_pos a2] at h ⊢; exact ⟨fun _ => hw h, fun h => absurd h (by simp)⟩
   ·
    rw [if_neg a2] at h ⊢
    by_cases a3 : runB isW t + 1 ≤ 30
    ·
     rw [if_pos a3] at h ⊢; exact ⟨fun _ => hw h, fun h => absurd h (by simp)⟩
    ·
     rw [if_neg a3]; exact ⟨fun h => absurd h (by simp), fun h => absurd h (by simp)⟩
  ·
   rw [if_neg a1] at h ⊢
   by_cases a2 : c.toNat = 47 ∨ c.toNat = 44 ∨ c.toNat = 58
   ·
    rw [if_pos a2]; exact ⟨fun h => absurd h (by simp), fun h => absurd h (by simp)⟩
   ·
    rw [if_neg a2] at h ⊢
    by_cases a3 : c.toNat = 34
    ·
     rw [if_pos a3]
     by_cases a4 : (t.drop (runB notQ t)).head? = some 34 ∧ runB notQ t ≤ 2000
     ·
      rw [if_pos a4]; exact ⟨fun h => absurd h (by simp), fun h => absurd h (by simp)⟩
     ·
      rw [if_neg a4]; exact ⟨fun h => absurd h (by simp), fun h => absurd h (by simp)⟩
    ·
     rw [if_neg a3] at h ⊢
     by_cases a4 : c.toNat = 45 ∨ isD c = true
     ·
      rw [if_pos a4] at h ⊢
      by_cases a5 : val ((c :: t).take (runB isD t + 1)) = true
      ·
       rw [if_pos a5] at h ⊢; exact ⟨fun h => absurd h (by simp), fun _ => runB_drop isD t x (by simpa using h)⟩
      ·
       rw [if_neg a5]; exact ⟨fun h => absurd h (by simp), fun h => absurd h (by simp)⟩
     ·
      rw [if_neg a4]; exact ⟨fun h => absurd h (by simp), fun h => absurd h (by simp)⟩
theorem plex_len (l : Bs) (p n : Nat) : ∀ toks, plex res val l p n = .ok toks → toks.length ≤ l.length := by
 refine plex_ind res val (P := fun l p n => ∀ toks, plex res val l p n = .ok toks → toks.length ≤ l.length) ?_ ?_ ?_ ?_ ?_ ?_ l.length l p n (Nat.le_refl _)
 ·
  intro p n toks hx
  obtain rfl := Except.ok.inj hx
  exact Nat.le_refl _
 ·
  intro t c p n hc ih toks hx
  rw [plex_lf _ _ _ _ hc] at hx
  have := ih toks hx; simp only [List.length_cons]; omega
 ·
  intro t c p n hc ih toks hx
  rw [plex_blank _ _ _ _ hc] at hx
  have := ih toks hx; simp only [List.length_cons]; omega
 ·
  intro t c p n hc ih toks hx
  rw [plex_note _ _ _ _ hc] at hx
  have := ih toks hx; rw [List.length_drop] at this; simp only [List.length_cons]; omega
 ·
  intro t c p n hc hk toks hx
  rw [plex_bad _ _ _ _ hc hk] at hx
  cases hx
 ·
  intro t c p n hc hk ih toks hx
  have hle := tokL_le res val (c :: t) hk
  rw [plex_tok _ _ _ _ hc hk] at hx
  generalize hy : plex res val ((c :: t).drop (tokL res val (c :: t)).2) (p + (tokL res val (c :: t)).2) n = y at hx
  cases y with
  | error m => cases hx
  | ok l' =>
   obtain rfl := Except.ok.inj hx
   have := ih l' hy
   rw [List.length_drop] at this; simp only [List.length_cons] at hle ⊢; simp only [List.length_cons] at this; omega
def digL (l : Bs) : Bs := if l.head? = some 45 then l.tail else l
def okV (l : Bs) : Bool := decide (1 ≤ (digL l).length) && decide ((digL l).length ≤ 6) && (digL l).all isD && !(decide ((digL l).head? = some 48) && decide (l ≠ [48]))
def decV : Int → Bs → Int
 | a, [] => a
 | a, c :: t => decV (10 * a + ((c.toNat : Int) - 48)) t
def valV (l : Bs) : Int := if l.head? = some 45 then - decV 0 (digL l) else decV 0 (digL l)
theorem decFrom_ok : ∀ (l : Bs) (a : Nat), l.all isD = true → ∃ n : Nat, Go.Lib.decFrom a l = some n ∧ (n : Int) = decV a l
 | [], a, _ => ⟨a, rfl, rfl⟩
 | c :: t, a, h => by
  rw [List.all_cons, Bool.and_eq_true] at h
  have hc : 48 ≤ c.toNat ∧ c.toNat ≤ 57 := of_decide_eq_true h.1
  obtain ⟨n, h1, h2⟩ := decFrom_ok t (a * 10 + (c.toNat - 48)) h.2
  refine ⟨n, ?_, ?_⟩
  ·
   simp only [Go.Lib.decFrom, Go.Lib.digitVal]; rw [if_pos hc]; exact h1
  ·
   rw [h2]; simp only [decV]; congr 1; omega
theorem decNat_ok (l : Bs) (hl : 1 ≤ l.length) (h : l.all isD = true) : ∃ n : Nat, Go.Lib.decNat l = some n ∧ (n : Int) = decV 0 l := by
 obtain ⟨n, h1, h2⟩ := decFrom_ok l 0 h
 refine ⟨n, ?_, h2⟩
 unfold Go.Lib.decNat
 rw [if_neg (by cases l with
  | nil => simp at hl
  | cons => simp), h1]
theorem atoi_ok (l : Bs) (h : okV l = true) : Go.Lib.atoi l = some (valV l) := by
 simp only [okV, Bool.and_eq_true, decide_eq_true_eq] at h
 obtain ⟨n, h1, h2⟩ := decNat_ok (digL l) h.1.1.1 h.1.2
 cases l with
 | nil => simp [digL] at h
 | cons c t =>
  by_cases hc : c = 45
  ·
   subst hc
   simp only [digL, List.head?_cons, if_true, List.tail_cons] at h1 h2
   simp only [Go.Lib.atoi, valV, digL, List.head?_cons, if_true, List.tail_cons, beq_self_eq_true]
   rw [h1]; simp [h2]
  ·
   have e : digL (c :: t) = c :: t := by simp [digL, hc]
   rw [e] at h1 h2 h
   have h43 : c ≠ 43 := by rintro rfl; have := h.1.2; rw [List.all_cons] at this; exact absurd this (by simp [isD])
   simp only [Go.Lib.atoi, valV, e, List.head?_cons]
   rw [if_neg (by simpa using hc), if_neg (by simpa using h43), if_neg (by simpa using hc), h1]; simp [h2]
theorem indexAny_run : ∀ t : Bs, Go.Lib.indexAny t [34, 10] = if runB notQ t < t.length then (runB notQ t : Int) else -1
 | [] => rfl
 | c :: t => by
  have ih := indexAny_run t
  have hle := runB_le notQ t
  have hq : ([34, 10] : Bs).contains c = !notQ c := by
   have e1 : (c == 34) = decide (c.toNat = 34) := by
    rw [Bool.eq_iff_iff, beq_iff_eq, decide_eq_true_eq, ← UInt8.toNat_inj]; rfl
   have e2 : (c == 10) = decide (c.toNat = 10) := by
    rw [Bool.eq_iff_iff, beq_iff_eq, decide_eq_true_eq, ← UInt8.toNat_inj]; rfl
   simp only [notQ, List.contains_cons, List.contains_nil, Bool.or_false, e1, e2]
   simp
  have e0 : Go.Lib.indexAny (c :: t) [34, 10] = if (!notQ c) = true then 0 else if (Go.Lib.indexAny t [34, 10] == -1) = true then -1 else Go.Lib.indexAny t [34, 10] + 1 := by rw [Go.Lib.indexAny, hq]
  rw [e0, ih]
  cases hn : notQ c with
  | true =>
   have er : runB notQ (c :: t) = runB notQ t + 1 := by simp only [runB, hn, if_true]
   rw [er, List.length_cons]
   by_cases h : runB notQ t < t.length
   ·
    rw [if_neg (by simp), if_pos h, if_neg (by rw [beq_iff_eq]; omega), if_pos (by omega)]; omega
   ·
    rw [if_neg (by simp), if_neg h, if_pos (by simp), if_neg (by omega)]
  | false =>
   have er : runB notQ (c :: t) = 0 := by simp [runB, hn]
   rw [er, List.length_cons]
   rw [if_pos (by simp), if_pos (by omega)]; rfl

end Go.Proofs.YthjmbagkomnpgaaDoor.Plain
end
section
namespace Go.Proofs.YthjmbagkomnpgaaDoor.Plain
open Go Go.RowKit Go.Proofs.YthjmbagkomnpgaaDoor.L Go.Proofs.YthjmbagkomnpgaaDoorW.PrintWords Go.Proofs.YthjmbagkomnpgaaDoorW.PrintLast

def mk (l : Bs) : ByteArray := ⟨l.toArray⟩
theorem mk_of (s : ByteArray) : s = mk s.data.toList := by cases s; simp [mk]
theorem mk_size (l : Bs) : (mk l).size = l.length := by simp [mk, ByteArray.size]
theorem mk_data (l : Bs) : (mk l).data.toList = l := by simp [mk]
theorem mk_toList (l : Bs) : (mk l).toList = l := by rw [ByteArray.toList_eq, mk_data]
theorem ext_mk (s t : ByteArray) (h : s.data.toList = t.data.toList) : s = t := by rw [mk_of s, mk_of t, h]
theorem mk_extract (l : Bs) (a b : Nat) : (mk l).extract a b = mk ((l.drop a).take (b - a)) := by
 apply ext_mk
 rw [mk_data, ByteArray.data_extract, Array.toList_extract]
 simp [mk, List.extract]
theorem mk_from (l : Bs) (a : Nat) : (mk l).extract a (mk l).size = mk (l.drop a) := by
 rw [mk_extract, mk_size, List.take_of_length_le (by simp)]
theorem mk_upto (l : Bs) (b : Nat) : (mk l).extract 0 b = mk (l.take b) := by rw [mk_extract]; simp
theorem mk_append (a b : Bs) : mk a ++ mk b = mk (a ++ b) := by
 apply ext_mk
 rw [mk_data, ByteArray.data_append]; simp [mk]
theorem bt_mk (l : Bs) (i : Nat) (h : i < l.length) : bt (mk l) (i : Int) = ((l[i]'h).toNat : Int) := by
 unfold bt
 rw [dif_pos (by rw [mk_size]; simpa using h)]
 rfl
theorem bt_head (c : UInt8) (t : Bs) : bt (mk (c :: t)) 0 = (c.toNat : Int) := bt_mk (c :: t) 0 (by simp)
theorem wrap_nat {i : Nat} (h : i ≤ 9223372036854775806) : wrap64 ((i : Int) + 1) = ((i + 1 : Nat) : Int) := by unfold wrap64; omega
theorem wrap_id {i : Int} (h0 : -9223372036854775808 ≤ i) (h : i ≤ 9223372036854775807) : wrap64 i = i := by unfold wrap64; omega

theorem letter_ev (c : UInt8) : lexer_letter.f (c.toNat : Int) = some (isL c) := by
 unfold lexer_letter.f isL
 repeat' split
 all_goals (congr 1; rw [Bool.eq_iff_iff]; simp only [Bool.or_eq_true, decide_eq_true_eq, true_iff, Bool.false_eq_true, false_iff]; omega)
theorem digit_ev (c : UInt8) : lexer_digit.f (c.toNat : Int) = some (isD c) := by
 unfold lexer_digit.f isD
 repeat' split
 all_goals (congr 1; rw [Bool.eq_iff_iff]; simp only [decide_eq_true_eq, Bool.false_eq_true, false_iff]; omega)
theorem wordc_ev (c : UInt8) : lexer_wordc.f (c.toNat : Int) = some (isW c) := by
 unfold lexer_wordc.f isW
 rw [letter_ev, digit_ev]
 cases isL c with
 | true => rfl
 | false =>
  cases isD c with
  | true => rfl
  | false =>
   simp only [Option.bind_some, Bool.false_or, Bool.false_eq_true, if_false]
   by_cases h : c.toNat = 45
   ·
    rw [if_pos (by omega)]; simp [h]
   ·
    rw [if_neg (by omega)]; congr 1
    rw [Bool.eq_iff_iff, beq_iff_eq, Bool.or_eq_true, decide_eq_true_eq, decide_eq_true_eq]; omega
theorem notec_ev (c : UInt8) : lexer_notec.f (c.toNat : Int) = some (notN c) := by
 unfold lexer_notec.f notN
 congr 1
 rw [Bool.eq_iff_iff, bne_iff_ne, decide_eq_true_eq]; omega
theorem runB_cons (p : UInt8 → Bool) (c : UInt8) (t : Bs) : runB p (c :: t) = if p c = true then runB p t + 1 else 0 := rfl

theorem runw_l (l : Bs) (hl : l.length ≤ 140737488351232) : ∀ (d i : Nat), i + d = l.length → Ev (fun k => lexer_run_word.l0 k (mk l) (i : Int)) ((i + runB isW (l.drop i) : Nat) : Int)
 | 0, i, h => by
  obtain rfl : i = l.length := by omega
  refine Ev.step (f := fun _ => some ((l.length : Nat) : Int)) (fun k => ?_) (by simpa [runB] using Ev.now _)
  simp only [lexer_run_word.l0]; rw [if_neg (by rw [mk_size]; omega)]
 | d + 1, i, h => by
  have hi : i < l.length := by omega
  rw [List.drop_eq_getElem_cons hi, runB_cons]
  cases hp : isW l[i] with
  | true =>
   refine Ev.step (f := fun k => lexer_run_word.l0 k (mk l) ((i + 1 : Nat) : Int)) (fun k => ?_) (by have := runw_l l hl d (i + 1) (by omega); rw [if_pos rfl, show i + (runB isW (l.drop (i + 1)) + 1) = i + 1 + runB isW (l.drop (i + 1)) by omega]; exact this)
   simp only [lexer_run_word.l0]; rw [if_pos (by rw [mk_size]; omega), if_pos (by omega), bt_mk l i hi, wordc_ev, hp, wrap_nat (by omega)]; rfl
  | false =>
   refine Ev.step (f := fun _ => some (i : Int)) (fun k => ?_) (by rw [if_neg (by simp)]; exact Ev.now _)
   simp only [lexer_run_word.l0]; rw [if_pos (by rw [mk_size]; omega), if_pos (by omega), bt_mk l i hi, wordc_ev, hp]; rfl
theorem runw_ev (l : Bs) (hl : l.length ≤ 140737488351232) : Ev (fun k => lexer_run_word.f k (mk l)) ((runB isW l : Nat) : Int) := by
 have := runw_l l hl l.length 0 (by omega)
 simpa [lexer_run_word.f] using this
theorem rund_l (l : Bs) (hl : l.length ≤ 140737488351232) : ∀ (d i : Nat), i + d = l.length → Ev (fun k => lexer_run_digit.l0 k (mk l) (i : Int)) ((i + runB isD (l.drop i) : Nat) : Int)
 | 0, i, h => by
  obtain rfl : i = l.length := by omega
  refine Ev.step (f := fun _ => some ((l.length : Nat) : Int)) (fun k => ?_) (by simpa [runB] using Ev.now _)
  simp only [lexer_run_digit.l0]; rw [if_neg (by rw [mk_size]; omega)]
 | d + 1, i, h => by
  have hi : i < l.length := by omega
  rw [List.drop_eq_getElem_cons hi, runB_cons]
  cases hp : isD l[i] with
  | true =>
   refine Ev.step (f := fun k => lexer_run_digit.l0 k (mk l) ((i + 1 : Nat) : Int)) (fun k => ?_) (by have := rund_l l hl d (i + 1) (by omega); rw [if_pos rfl, show i + (runB isD (l.drop (i + 1)) + 1) = i + 1 + runB isD (l.drop (i + 1)) by omega]; exact this)
   simp only [lexer_run_digit.l0]; rw [if_pos (by rw [mk_size]; omega), if_pos (by omega), bt_mk l i hi, digit_ev, hp, wrap_nat (by omega)]; rfl
  | false =>
   refine Ev.step (f := fun _ => some (i : Int)) (fun k => ?_) (by rw [if_neg (by simp)]; exact Ev.now _)
   simp only [lexer_run_digit.l0]; rw [if_pos (by rw [mk_size]; omega), if_pos (by omega), bt_mk l i hi, digit_ev, hp]; rfl
theorem rund_ev (l : Bs) (hl : l.length ≤ 140737488351232) : Ev (fun k => lexer_run_digit.f k (mk l)) ((runB isD l : Nat) : Int) := by
 have := rund_l l hl l.length 0 (by omega)
 simpa [lexer_run_digit.f] using this
theorem runn_l (l : Bs) (hl : l.length ≤ 140737488351232) : ∀ (d i : Nat), i + d = l.length → Ev (fun k => lexer_run_note.l0 k (mk l) (i : Int)) ((i + runB notN (l.drop i) : Nat) : Int)
 | 0, i, h => by
  obtain rfl : i = l.length := by omega
  refine Ev.step (f := fun _ => some ((l.length : Nat) : Int)) (fun k => ?_) (by simpa [runB] using Ev.now _)
  simp only [lexer_run_note.l0]; rw [if_neg (by rw [mk_size]; omega)]
 | d + 1, i, h => by
  have hi : i < l.length := by omega
  rw [List.drop_eq_getElem_cons hi, runB_cons]
  cases hp : notN l[i] with
  | true =>
   refine Ev.step (f := fun k => lexer_run_note.l0 k (mk l) ((i + 1 : Nat) : Int)) (fun k => ?_) (by have := runn_l l hl d (i + 1) (by omega); rw [if_pos rfl, show i + (runB notN (l.drop (i + 1)) + 1) = i + 1 + runB notN (l.drop (i + 1)) by omega]; exact this)
   simp only [lexer_run_note.l0]; rw [if_pos (by rw [mk_size]; omega), if_pos (by omega), bt_mk l i hi, notec_ev, hp, wrap_nat (by omega)]; rfl
  | false =>
   refine Ev.step (f := fun _ => some (i : Int)) (fun k => ?_) (by rw [if_neg (by simp)]; exact Ev.now _)
   simp only [lexer_run_note.l0]; rw [if_pos (by rw [mk_size]; omega), if_pos (by omega), bt_mk l i hi, notec_ev, hp]; rfl
theorem runn_ev (l : Bs) (hl : l.length ≤ 140737488351232) : Ev (fun k => lexer_run_note.f k (mk l)) ((runB notN l : Nat) : Int) := by
 have := runn_l l hl l.length 0 (by omega)
 simpa [lexer_run_note.f] using this
theorem runB_eq_length (p : UInt8 → Bool) : ∀ l : Bs, runB p l = l.length ↔ l.all p = true
 | [] => by simp [runB]
 | c :: t => by
  rw [runB_cons, List.all_cons, Bool.and_eq_true, ← runB_eq_length p t, List.length_cons]
  split
  ·
   rename_i h; simp [h]
  ·
   rename_i h; simp [h]

def resB (l : Bs) : Bool := ([[100, 101, 115, 105, 103, 110], [111, 114, 100, 101, 114], [109, 105, 114, 114, 111, 114], [116, 105, 101, 114], [97, 110, 103, 108, 101], [97, 116], [100, 101, 112, 116, 104], [109, 101, 101, 116], [101, 100, 103, 101], [104, 101, 105, 103, 104, 116], [116, 104, 114, 111, 117, 103, 104]] : List Bs).any (fun x => decide (l = x))
theorem res_ev (l : Bs) : lexer_Reserved.f (mk l) = some (resB l) := by
 unfold lexer_Reserved.f resB
 simp only [mk_toList, List.any_cons, List.any_nil, Bool.or_false]
 repeat' split
 all_goals simp_all
def nameB (l : Bs) : Bool := wordB l && decide (l.length ≤ 30) && !resB l
theorem isW_of_L {c : UInt8} (h : isL c = true) : isW c = true := by unfold isW; rw [h]; rfl
def wl : Bs → Int
 | [] => 0
 | c :: t => if isL c = true then ((runB isW t + 1 : Nat) : Int) else 0
theorem wl_cons (c : UInt8) (t : Bs) : wl (c :: t) = if isL c = true then ((runB isW t + 1 : Nat) : Int) else 0 := rfl
theorem word_ev (l : Bs) (hl : l.length ≤ 140737488351232) : Ev (fun k => lexer_word.f k (mk l)) (wl l) := by
 cases l with
 | nil => exact Ev.congr (fun k => by unfold lexer_word.f; rw [mk_toList, if_pos rfl]) (Ev.now 0)
 | cons c t =>
  have hs : ∀ k, lexer_word.f k (mk (c :: t)) = (if isL c = true then ((lexer_run_word.f k (mk (c :: t))).bind fun t110 => some t110) else some 0) := fun k => by
   unfold lexer_word.f
   rw [mk_toList, if_neg (by simp), if_pos (by rw [mk_size]; simp), bt_head, letter_ev]; rfl
  refine Ev.congr hs ?_
  rw [wl_cons]
  cases h : isL c with
  | true =>
   have := Ev.bind (f := fun _ t => some t) (runw_ev (c :: t) hl) (Ev.now _)
   rw [runB_cons, if_pos (isW_of_L h)] at this
   simpa using this
  | false => simpa using Ev.now (0 : Int)
theorem wordB_eq (c : UInt8) (t : Bs) : wordB (c :: t) = (isL c && decide (runB isW t + 1 = (c :: t).length)) := by
 have h : t.all isW = decide (runB isW t + 1 = (c :: t).length) := by
  rw [Bool.eq_iff_iff, decide_eq_true_eq, List.length_cons, ← runB_eq_length]; omega
 rw [wordB, h]
theorem name_ev (l : Bs) (hl : l.length ≤ 140737488351232) : Ev (fun k => lexer_IsName.f k (mk l)) (nameB l) := by
 cases l with
 | nil => exact Ev.congr (f := fun _ => some false) (fun k => by unfold lexer_IsName.f; rw [mk_toList, if_pos rfl]) (Ev.now _)
 | cons c t =>
  unfold nameB
  by_cases h30 : (c :: t).length ≤ 30
  ·
   refine Ev.congr (fun k => by unfold lexer_IsName.f; rw [mk_toList, if_neg (by simp), if_pos (by rw [mk_size]; omega), mk_size, res_ev]) (Ev.bind (word_ev (c :: t) hl) ?_)
   rw [decide_eq_true h30, wordB_eq, Bool.and_true, wl_cons]
   cases h : isL c with
   | false =>
    rw [if_neg (show ¬ (false = true) by simp), if_neg (by rw [List.length_cons]; omega), Bool.false_and]
    exact Ev.now _
   | true =>
    simp only [if_true, Bool.true_and]
    by_cases hr : runB isW t + 1 = (c :: t).length
    ·
     refine Ev.congr (f := fun _ => some (!resB (c :: t))) (fun k => ?_) (by rw [decide_eq_true hr, Bool.true_and]; exact Ev.now _)
     rw [if_pos (by omega)]; rfl
    ·
     refine Ev.congr (f := fun _ => some false) (fun k => ?_) (by rw [decide_eq_false hr, Bool.false_and]; exact Ev.now _)
     rw [if_neg (by omega)]
  ·
   refine Ev.congr (f := fun _ => some false) (fun k => by unfold lexer_IsName.f; rw [mk_toList, if_neg (by simp), if_neg (by rw [mk_size]; omega)]) ?_
   rw [decide_eq_false h30]; simpa using Ev.now false
theorem trim_ev (l : Bs) : strings_TrimPrefix.f (mk l) (⟨#[45]⟩ : ByteArray) = some (mk (digL l)) := by
 have h1 : (⟨#[45]⟩ : ByteArray) = mk [45] := rfl
 have hp : stringslite_HasPrefix.f (mk l) (mk [45]) = some (decide (l.head? = some 45)) := by
  unfold stringslite_HasPrefix.f
  rw [mk_size, mk_size]
  cases l with
  | nil => simp
  | cons c t =>
   rw [if_pos (by simp only [List.length_cons, List.length_nil]; omega), if_pos (by simp), if_pos (by simp only [List.length_cons, List.length_nil]; omega), mk_upto, mk_toList, mk_toList]
   congr 1
   rw [Bool.eq_iff_iff, beq_iff_eq, decide_eq_true_eq]; simp
 unfold strings_TrimPrefix.f stringslite_TrimPrefix.f
 rw [h1, hp]
 unfold digL
 simp only [Option.bind_some]
 by_cases h : l.head? = some 45
 ·
  have hlen : 1 ≤ l.length := by cases l with
   | nil => simp at h
   | cons => simp
  rw [decide_eq_true h, if_pos rfl, if_pos (by omega), if_pos (by rw [mk_size, mk_size]; simp; omega), if_pos h, mk_from]
  simp [mk_size]
 ·
  rw [decide_eq_false h, if_neg (by simp), if_neg h]; rfl
theorem value_ev (l : Bs) (hl : l.length ≤ 140737488351232) : Ev (fun k => lexer_Value.f k (mk l)) (if okV l = true then (valV l, true) else (0, false)) := by
 have hd : (digL l).length ≤ l.length := by unfold digL; split <;> simp
 by_cases h1 : digL l = []
 ·
  refine Ev.congr (f := fun _ => some (0, false)) (fun k => ?_) (by simpa [okV, h1] using Ev.now _)
  unfold lexer_Value.f; rw [trim_ev, Option.bind_some, mk_toList, if_pos h1]
 ·
  have hlen : 1 ≤ (digL l).length := by rw [Nat.one_le_iff_ne_zero]; simpa using h1
  by_cases h2 : (digL l).length > 6
  ·
   refine Ev.congr (f := fun _ => some (0, false)) (fun k => ?_) (by
    have h6 : ¬ (digL l).length ≤ 6 := by omega
    simpa [okV, h6] using Ev.now ((0 : Int), false))
   unfold lexer_Value.f; rw [trim_ev, Option.bind_some, mk_toList, if_neg h1, if_pos (by rw [mk_size]; omega)]
  ·
   refine Ev.congr (fun k => by unfold lexer_Value.f; rw [trim_ev, Option.bind_some, mk_toList, if_neg h1, if_neg (by rw [mk_size]; omega), mk_size, mk_toList]) (Ev.bind (rund_ev (digL l) (by omega)) ?_)
   by_cases h3 : runB isD (digL l) = (digL l).length
   ·
    rw [if_pos (by omega), if_pos (by omega)]
    have h3' := (runB_eq_length isD (digL l)).1 h3
    have hat : okV l = true → strconv_Atoi.f (mk l) = some (valV l, none) := fun h => by
     have hl6 : l.length ≤ 7 := by unfold digL at h2; split at h2 <;> simp at h2 <;> omega
     unfold strconv_Atoi.f
     rw [if_pos (by rw [mk_size]; omega), mk_data, atoi_ok l h]; rfl
    have h48 : bt (mk (digL l)) 0 = 48 ↔ (digL l).head? = some 48 := by
     obtain ⟨c, t, e⟩ : ∃ c t, digL l = c :: t := by
      cases e : digL l with
      | nil => exact absurd e h1
      | cons c t => exact ⟨c, t, rfl⟩
     rw [e, bt_head]
     simp only [List.head?_cons, Option.some.injEq]
     rw [← UInt8.toNat_inj]
     show (c.toNat : Int) = 48 ↔ c.toNat = 48
     omega
    have hok : okV l = !(decide ((digL l).head? = some 48) && decide (l ≠ [48])) := by
     unfold okV
     rw [decide_eq_true hlen, decide_eq_true (show (digL l).length ≤ 6 by omega), h3']; rfl
    by_cases h4 : (digL l).head? = some 48
    ·
     rw [if_pos (h48.2 h4)]
     by_cases h5 : l = [48]
     ·
      have ho : okV l = true := by rw [hok, decide_eq_false (show ¬ l ≠ [48] by simpa using h5), Bool.and_false]; rfl
      rw [if_pos h5, hat ho, if_pos ho]; exact Ev.now _
     ·
      have ho : okV l = false := by rw [hok, decide_eq_true h4, decide_eq_true h5]; rfl
      rw [if_neg h5, if_neg (by simp [ho])]; exact Ev.now _
    ·
     have ho : okV l = true := by rw [hok, decide_eq_false h4]; rfl
     rw [if_neg (fun h => h4 (h48.1 h)), hat ho, if_pos ho]; exact Ev.now _
   ·
    have ho : okV l = false := by
     unfold okV
     rw [show (digL l).all isD = false by rw [Bool.eq_false_iff]; exact fun h => h3 ((runB_eq_length isD (digL l)).2 h)]
     simp
    rw [if_neg (by omega), if_neg (by simp [ho])]; exact Ev.now _

def tokI (l : Bs) : Int × Int := (((tokL resB okV l).1 : Int), ((tokL resB okV l).2 : Int))
theorem nameB_take (c : UInt8) (t : Bs) (h : isL c = true) : nameB ((c :: t).take (runB isW t + 1)) = (decide (runB isW t + 1 ≤ 30) && !resB ((c :: t).take (runB isW t + 1))) := by
 have hw : wordB ((c :: t).take (runB isW t + 1)) = true := by
  rw [List.take_succ_cons, wordB, h, Bool.true_and, List.all_eq_true]
  exact fun x hx => runB_all isW t x hx
 have hlen : ((c :: t).take (runB isW t + 1)).length = runB isW t + 1 := by
  have := runB_le isW t
  rw [List.length_take, List.length_cons]; omega
 unfold nameB
 rw [hw, hlen, Bool.true_and]
theorem token_num (c : UInt8) (t : Bs) (hl : (c :: t).length ≤ 100000) (h1 : isL c = false) (h2 : ¬ (c.toNat = 47 ∨ c.toNat = 44 ∨ c.toNat = 58)) (h3 : ¬ c.toNat = 34) (b : Bool) (hb : b = false) :
  Ev (fun k => lexer_token.j0 k (mk (c :: t)) (c.toNat : Int) b) (tokI (c :: t)) := by
 subst hb
 have hlc : (c :: t).length = t.length + 1 := List.length_cons
 have hr := runB_le isD t
 have key : ∀ sg r : Nat, digL (c :: t) = (c :: t).drop sg → sg + (digL (c :: t)).length = (c :: t).length → runB isD (digL (c :: t)) = r → sg + r ≤ (c :: t).length →
   (if okV ((c :: t).take (sg + r)) = true then ((3 : Int), ((sg + r : Nat) : Int)) else (0, 0)) = tokI (c :: t) → Ev (fun k => lexer_token.j0 k (mk (c :: t)) (c.toNat : Int) false) (tokI (c :: t)) := by
  intro sg r e1 e2 e3 e4 e5
  have w1 : wrap64 (((c :: t).length : Int) - ((digL (c :: t)).length : Int)) = (sg : Int) := by rw [wrap_id (by omega) (by omega)]; omega
  have w2 : wrap64 ((sg : Int) + (r : Int)) = ((sg + r : Nat) : Int) := by rw [wrap_id (by omega) (by omega)]; omega
  refine Ev.step (f := fun k => (lexer_run_digit.f k (mk (digL (c :: t)))).bind fun t118 => (if 0 ≤ (wrap64 ((sg : Int) + t118)) then (if (wrap64 ((sg : Int) + t118)) ≤ ((c :: t).length : Int) then ((lexer_Value.f k ((mk (c :: t)).extract 0 ((wrap64 ((sg : Int) + t118)) : Int).toNat)).bind fun bt119 => (if bt119.2 = true then (some ((3 : Int), wrap64 ((sg : Int) + t118))) else (some (0, 0)))) else (none)) else (none))) (fun k => ?_) ?_
  ·
   simp only [lexer_token.j0]
   rw [if_neg (by simp), if_neg (by omega), trim_ev]
   simp only [Option.bind_some, mk_size, w1]
   rw [if_pos (by omega), if_pos (by omega), Int.toNat_natCast, mk_extract, List.take_of_length_le (by simp), ← e1]
  ·
   refine Ev.bind (rund_ev _ (by omega)) ?_
   rw [e3, w2]
   refine Ev.congr (fun k => by rw [if_pos (by omega), if_pos (by omega), Int.toNat_natCast, mk_upto]) (Ev.bind (value_ev _ (by rw [List.length_take]; omega)) ?_)
   rw [← e5]
   cases okV ((c :: t).take (sg + r)) with
   | true => exact Ev.now _
   | false => exact Ev.now _
 have tk : tokI (c :: t) = if c.toNat = 45 ∨ isD c = true then (if okV ((c :: t).take (runB isD t + 1)) = true then (3, ((runB isD t + 1 : Nat) : Int)) else (0, 0)) else (0, 0) := by
  unfold tokI
  simp only [tokL]
  rw [if_neg (by simp [h1]), if_neg h2, if_neg h3]
  by_cases h4 : c.toNat = 45 ∨ isD c = true
  ·
   rw [if_pos h4, if_pos h4]
   cases okV ((c :: t).take (runB isD t + 1)) <;> rfl
  ·
   rw [if_neg h4, if_neg h4]; rfl
 by_cases h45 : c = 45
 ·
  subst h45
  have ed : digL ((45 : UInt8) :: t) = t := by simp [digL]
  refine key 1 (runB isD t) (by rw [ed]; rfl) (by rw [ed]; omega) (by rw [ed]) (by omega) ?_
  rw [tk, if_pos (show (45 : UInt8).toNat = 45 ∨ isD 45 = true from .inl (by decide)), Nat.add_comm 1]
 ·
  have ed : digL (c :: t) = c :: t := by simp [digL, h45]
  have n45 : ¬ c.toNat = 45 := fun h => h45 (UInt8.toNat_inj.1 h)
  by_cases hD : isD c = true
  ·
   refine key 0 (runB isD t + 1) (by rw [ed]; rfl) (by rw [ed]; omega) (by rw [ed, runB_cons, if_pos hD]) (by omega) ?_
   rw [tk, if_pos (show c.toNat = 45 ∨ isD c = true from .inr hD), Nat.zero_add]
  ·
   refine key 0 0 (by rw [ed]; rfl) (by rw [ed]; omega) (by rw [ed, runB_cons, if_neg hD]) (by omega) ?_
   rw [tk, if_neg (show ¬ (c.toNat = 45 ∨ isD c = true) from fun h => h.elim n45 hD)]; rfl
theorem quote_ix (t : Bs) (hb : (mk t).size < 4294967281) : strings_IndexAny.f ((mk (34 :: t)).extract 1 (mk (34 :: t)).size) (⟨#[34, 10]⟩ : ByteArray) = some (if runB notQ t < t.length then (runB notQ t : Int) else -1) := by
 rw [mk_from, List.drop_succ_cons, List.drop_zero]
 unfold strings_IndexAny.f
 rw [if_pos (And.intro rfl hb), mk_data, indexAny_run]
theorem quote_tk (t : Bs) : tokI (34 :: t) = if (t.drop (runB notQ t)).head? = some 34 ∧ runB notQ t ≤ 2000 then (4, ((runB notQ t + 2 : Nat) : Int)) else (0, 0) := by
 unfold tokI
 simp only [tokL]
 rw [if_neg (show ¬ isL 34 = true by decide), if_neg (show ¬ ((34 : UInt8).toNat = 47 ∨ (34 : UInt8).toNat = 44 ∨ (34 : UInt8).toNat = 58) by decide), if_pos (show (34 : UInt8).toNat = 34 from rfl)]
 by_cases h4 : (t.drop (runB notQ t)).head? = some 34 ∧ runB notQ t ≤ 2000
 ·
  rw [if_pos h4, if_pos h4]; rfl
 ·
  rw [if_neg h4, if_neg h4]; rfl
theorem quote_bt (t : Bs) (n : Nat) (hn : n < t.length) : bt (mk (34 :: t)) ((n + 1 : Nat) : Int) = ((t[n]'hn).toNat : Int) := by rw [bt_mk _ _ (by rw [List.length_cons]; omega)]; rfl
theorem quote_hit (t : Bs) (k n : Nat) (hn : n < t.length) (hlt : t.length ≤ 100000) (hix : strings_IndexAny.f ((mk (34 :: t)).extract 1 (mk (34 :: t)).size) (⟨#[34, 10]⟩ : ByteArray) = some (n : Int)) :
  lexer_token.j0 (k + 1) (mk (34 :: t)) ((34 : UInt8).toNat : Int) false = if ((t[n]'hn).toNat : Int) = 34 then (if (n : Int) > 2000 then some (0, 0) else some (4, ((n + 2 : Nat) : Int))) else some (0, 0) := by
 have hb := quote_bt t n hn
 have hs : (mk (34 :: t)).size = t.length + 1 := by rw [mk_size]; rfl
 have h1 : wrap64 (1 + (n : Int)) = ((n + 1 : Nat) : Int) := by rw [wrap_id (by omega) (by omega)]; omega
 have h2 : wrap64 ((n : Int) + 2) = ((n + 2 : Nat) : Int) := by rw [wrap_id (by omega) (by omega)]; omega
 simp only [lexer_token.j0]
 rw [if_neg (by simp), if_pos (by decide), if_pos (by omega)]
 rw [hix]
 rw [Option.bind_some, if_neg (by omega), h1, if_pos (by omega), if_pos (by omega), hb, h2]
theorem token_quote (c : UInt8) (t : Bs) (hl : (c :: t).length ≤ 100000) (h3 : c.toNat = 34) (b : Bool) (hb : b = false) :
  Ev (fun k => lexer_token.j0 k (mk (c :: t)) (c.toNat : Int) b) (tokI (c :: t)) := by
 subst hb
 obtain rfl : c = 34 := UInt8.toNat_inj.1 h3
 have hlc : ((34 : UInt8) :: t).length = t.length + 1 := List.length_cons
 have hr := runB_le notQ t
 have tk := quote_tk t
 have hix := quote_ix t (by rw [mk_size]; omega)
 by_cases hn : runB notQ t < t.length
 ·
  have hh : (t.drop (runB notQ t)).head? = some (t[runB notQ t]'hn) := by rw [List.drop_eq_getElem_cons hn]; rfl
  rw [if_pos hn] at hix
  refine Ev.step (f := fun _ => some (tokI (34 :: t))) (fun k => ?_) (Ev.now _)
  rw [quote_hit t k _ hn (by omega) hix, tk, hh]
  by_cases h34 : t[runB notQ t]'hn = 34
  ·
   have e34 : ((t[runB notQ t]'hn).toNat : Int) = 34 := by rw [h34]; decide
   rw [if_pos e34]
   by_cases h2 : runB notQ t ≤ 2000
   ·
    rw [if_neg (by omega), if_pos ⟨by rw [h34], h2⟩]
   ·
    rw [if_pos (by omega), if_neg (fun h => h2 h.2)]
  ·
   have : ¬ ((t[runB notQ t]'hn).toNat : Int) = 34 := fun h => h34 (UInt8.toNat_inj.1 (Int.ofNat.inj h))
   rw [if_neg this, if_neg (fun h => h34 (Option.some.inj h.1))]
 ·
  rw [if_neg hn] at hix
  refine Ev.step (f := fun _ => some (tokI (34 :: t))) (fun k => ?_) (Ev.now _)
  simp only [lexer_token.j0]
  rw [if_neg (by simp), if_pos (by decide), if_pos (by rw [mk_size]; omega), hix]
  rw [Option.bind_some, if_pos (by omega), tk, List.drop_of_length_le (by omega), if_neg (by simp)]
theorem token_ev (c : UInt8) (t : Bs) (hl : (c :: t).length ≤ 100000) : Ev (fun k => lexer_token.f k (mk (c :: t))) (tokI (c :: t)) := by
 have hlc : (c :: t).length = t.length + 1 := List.length_cons
 refine Ev.congr (fun k => by unfold lexer_token.f; rfl) (Ev.bind (word_ev (c :: t) (by omega)) ?_)
 rw [wl_cons]
 by_cases h1 : isL c = true
 ·
  rw [if_pos h1]
  have hr := runB_le isW t
  have tk : tokI (c :: t) = if resB ((c :: t).take (runB isW t + 1)) = true then (2, ((runB isW t + 1 : Nat) : Int)) else if runB isW t + 1 ≤ 30 then (1, ((runB isW t + 1 : Nat) : Int)) else (0, 0) := by
   unfold tokI
   simp only [tokL]
   rw [if_pos h1]
   cases resB ((c :: t).take (runB isW t + 1)) with
   | true => rfl
   | false =>
    rw [if_neg (show ¬ (false = true) by simp), if_neg (show ¬ (false = true) by simp)]
    by_cases h30 : runB isW t + 1 ≤ 30
    ·
     rw [if_pos h30, if_pos h30]; rfl
    ·
     rw [if_neg h30, if_neg h30]; rfl
  rw [tk]
  refine Ev.congr (fun k => by rw [if_pos (by omega), if_pos (by omega), if_pos (by rw [mk_size]; omega), Int.toNat_natCast, mk_upto, res_ev, Option.bind_some]) ?_
  cases hres : resB ((c :: t).take (runB isW t + 1)) with
  | true => exact Ev.now _
  | false =>
   rw [if_neg (show ¬ (false = true) by simp)]
   have hnm := nameB_take c t h1
   rw [hres] at hnm
   refine Ev.congr (fun k => by rw [if_neg (show ¬ (false = true) by simp)]) (Ev.bind (name_ev _ (by rw [List.length_take]; omega)) ?_)
   rw [hnm]
   by_cases h30 : runB isW t + 1 ≤ 30
   ·
    rw [if_pos h30, decide_eq_true h30]; exact Ev.now _
   ·
    rw [if_neg h30, decide_eq_false h30]; exact Ev.now _
 ·
  have h1f : isL c = false := by simpa using h1
  have hz : (0 : Int) < ((mk (c :: t)).size : Int) := by rw [mk_size]; omega
  have five : (c.toNat = 47 ∨ c.toNat = 44 ∨ c.toNat = 58) → Ev (fun k => lexer_token.j0 k (mk (c :: t)) (c.toNat : Int) true) (tokI (c :: t)) := fun h2 => by
   have tk : tokI (c :: t) = (5, 1) := by
    unfold tokI
    simp only [tokL]
    rw [if_neg h1, if_pos h2]; rfl
   rw [tk]
   exact Ev.step (f := fun _ => some (5, 1)) (fun k => by simp only [lexer_token.j0, if_true]) (Ev.now _)
  rw [if_neg h1]
  by_cases a : c.toNat = 47
  ·
   exact Ev.congr (fun k => by rw [if_neg (by omega), if_pos hz, bt_head, if_pos (by omega)]) (five (.inl a))
  ·
   by_cases a2 : c.toNat = 44
   ·
    exact Ev.congr (fun k => by rw [if_neg (by omega), if_pos hz, bt_head, if_neg (by omega), if_pos (by omega)]) (five (.inr (.inl a2)))
   ·
    refine Ev.congr (fun k => by rw [if_neg (by omega), if_pos hz, bt_head, if_neg (by omega), if_neg (by omega)]) ?_
    by_cases a3 : c.toNat = 58
    ·
     rw [show ((c.toNat : Int) == 58) = true by rw [beq_iff_eq]; omega]; exact five (.inr (.inr a3))
    ·
     have hb : ((c.toNat : Int) == 58) = false := by rw [beq_eq_false_iff_ne]; omega
     by_cases a4 : c.toNat = 34
     ·
      exact token_quote c t hl a4 _ hb
     ·
      exact token_num c t hl h1f (by omega) a4 _ hb
end Go.Proofs.YthjmbagkomnpgaaDoor.Plain
end
section
namespace Go.Proofs.YthjmbagkomnpgaaDoor.Plain
open Go Go.RowKit Go.Proofs.YthjmbagkomnpgaaDoor.L Go.Proofs.YthjmbagkomnpgaaDoorW.PrintWords Go.Proofs.YthjmbagkomnpgaaDoorW.PrintLast

def own1 (t : Tk) : S38 := ⟨(t.kind : Int), mk t.text, (t.line : Int), (t.pos : Int)⟩
def ownR (acc : List S38) : Except Nat (List Tk) → List S38 × Int × Int
 | .error n => ([], (n : Int), 4)
 | .ok l => (acc ++ l.map own1, 0, 0)
theorem drop_facts {s l : Bs} {p : Nat} {c : UInt8} {t : Bs} (h : s.drop p = l) (hc : l = c :: t) : p < s.length ∧ s.length = p + t.length + 1 ∧ bt (mk s) (p : Int) = (c.toNat : Int) := by
 subst hc
 have hlen := congrArg List.length h
 simp only [List.length_drop, List.length_cons] at hlen
 have hp : p < s.length := by omega
 refine ⟨hp, by omega, ?_⟩
 rw [bt_mk s p hp]
 have : s.drop p = s[p] :: s.drop (p + 1) := List.drop_eq_getElem_cons hp
 rw [this] at h
 rw [(List.cons.inj h).1]
/-- What Lex does with a token. -/
def afterTok (k : Nat) (x0 : ByteArray) (x2 : List S38) (x3 x5 : Int) (bt122 : Int × Int) : Option (List S38 × Int × Int) := if bt122.1 = 0 then (some (([] : List (S38)), x3, 4)) else (if x3 ≤ (wrap64 (x3 + bt122.2)) then (if (wrap64 (x3 + bt122.2)) ≤ (x0.size : Int) then (if bt122.1 = 4 then (if 1 ≤ (wrap64 (bt122.2 - 1)) then (if (wrap64 (bt122.2 - 1)) ≤ ((x0.extract (x3 : Int).toNat ((wrap64 (x3 + bt122.2)) : Int).toNat).size : Int) then (if x2.length < 3518437208883 then (lexer_Lex.l0 k x0 (x2 ++ [(⟨bt122.1, (x0.extract (x3 : Int).toNat ((wrap64 (x3 + bt122.2)) : Int).toNat).extract 1 ((wrap64 (bt122.2 - 1)) : Int).toNat, x5, x3⟩ : S38)]) (wrap64 (x3 + bt122.2)) x5) else (none)) else (none)) else (none)) else (if x2.length < 3518437208883 then (lexer_Lex.l0 k x0 (x2 ++ [(⟨bt122.1, x0.extract (x3 : Int).toNat ((wrap64 (x3 + bt122.2)) : Int).toNat, x5, x3⟩ : S38)]) (wrap64 (x3 + bt122.2)) x5) else (none))) else (none)) else (none))
theorem afterTok_ok (k : Nat) (s : Bs) (acc : List S38) (p n kd m : Nat) (hp : p + m ≤ s.length) (hs : s.length ≤ 100000) (ha : acc.length ≤ 100000) (h0 : kd ≠ 0) (hm : kd = 4 → 2 ≤ m) :
  afterTok k (mk s) acc (p : Int) (n : Int) ((kd : Int), (m : Int)) = lexer_Lex.l0 k (mk s) (acc ++ [⟨(kd : Int), if kd = 4 then mk ((((s.drop p).take m).drop 1).take (m - 2)) else mk ((s.drop p).take m), (n : Int), (p : Int)⟩]) ((p + m : Nat) : Int) (n : Int) := by
 have w1 : wrap64 ((p : Int) + (m : Int)) = ((p + m : Nat) : Int) := by rw [wrap_id (by omega) (by omega)]; omega
 have hx : (mk s).extract p (p + m) = mk ((s.drop p).take m) := by
  rw [mk_extract, show p + m - p = m by omega]
 have hx' : (mk s).extract ((p : Int)).toNat (((p + m : Nat) : Int)).toNat = mk ((s.drop p).take m) := by rw [Int.toNat_natCast, Int.toNat_natCast, hx]
 have c0 : ¬ (kd : Int) = 0 := by omega
 have c1 : (p : Int) ≤ ((p + m : Nat) : Int) := by omega
 have c2 : ((p + m : Nat) : Int) ≤ ((mk s).size : Int) := by rw [mk_size]; omega
 have c3 : acc.length < 3518437208883 := Nat.lt_of_le_of_lt ha (by decide)
 have hlen : (mk ((s.drop p).take m)).size = m := by rw [mk_size, List.length_take, List.length_drop]; omega
 unfold afterTok
 simp only [w1, hx']
 rw [if_neg c0, if_pos c1, if_pos c2]
 by_cases h4 : kd = 4
 ·
  have hm2 := hm h4
  have w2 : wrap64 ((m : Int) - 1) = ((m - 1 : Nat) : Int) := by rw [wrap_id (by omega) (by omega)]; omega
  have c4 : (kd : Int) = 4 := by omega
  have c5 : (1 : Int) ≤ ((m - 1 : Nat) : Int) := by omega
  have c6 : ((m - 1 : Nat) : Int) ≤ ((mk ((s.drop p).take m)).size : Int) := by rw [hlen]; omega
  have hy : (mk ((s.drop p).take m)).extract 1 (((m - 1 : Nat) : Int)).toNat = mk ((((s.drop p).take m).drop 1).take (m - 2)) := by rw [Int.toNat_natCast, mk_extract, show m - 1 - 1 = m - 2 by omega]
  rw [if_pos c4, w2, if_pos c5, if_pos c6, if_pos c3, hy, if_pos h4]
 ·
  have c4 : ¬ (kd : Int) = 4 := by omega
  rw [if_neg c4, if_pos c3, if_neg h4]
set_option maxHeartbeats 4000000 in
theorem lex_l (s : Bs) (hs : s.length ≤ 100000) (l : Bs) (p n : Nat) : ∀ acc : List S38, s.drop p = l → p ≤ s.length → n ≤ p + 1 → acc.length ≤ p →
  Ev (fun k => lexer_Lex.l0 k (mk s) acc (p : Int) (n : Int)) (ownR acc (plex resB okV l p n)) := by
 refine plex_ind resB okV (P := fun l p n => ∀ acc : List S38, s.drop p = l → p ≤ s.length → n ≤ p + 1 → acc.length ≤ p →
  Ev (fun k => lexer_Lex.l0 k (mk s) acc (p : Int) (n : Int)) (ownR acc (plex resB okV l p n))) ?_ ?_ ?_ ?_ ?_ ?_ l.length l p n (Nat.le_refl _)
 ·
  intro p n acc hl hp hn ha
  have : p = s.length := by have := congrArg List.length hl; simp at this; omega
  refine Ev.step (f := fun _ => some (acc, 0, 0)) (fun k => ?_) (by simpa [plex_nil, ownR] using Ev.now _)
  simp only [lexer_Lex.l0]; rw [if_neg (by rw [mk_size]; omega)]
 ·
  intro t c p n hc ih acc hl hp hn ha
  obtain ⟨h1, h2, h3⟩ := drop_facts hl rfl
  rw [plex_lf _ _ _ _ hc]
  refine Ev.step (f := fun k => lexer_Lex.l0 k (mk s) acc ((p + 1 : Nat) : Int) ((n + 1 : Nat) : Int)) (fun k => ?_) (ih acc (by rw [← List.drop_drop, hl]; rfl) (by omega) (by omega) (by omega))
  simp only [lexer_Lex.l0]; rw [if_pos (by rw [mk_size]; omega), if_pos (by omega), h3, if_pos (by omega), wrap_nat (by omega), wrap_nat (by omega)]
 ·
  intro t c p n hc ih acc hl hp hn ha
  obtain ⟨h1, h2, h3⟩ := drop_facts hl rfl
  rw [plex_blank _ _ _ _ hc]
  have hi := ih acc (by rw [← List.drop_drop, hl]; rfl) (by omega) (by omega) (by omega)
  have hj : Ev (fun k => lexer_Lex.j1 k (mk s) acc (p : Int) (n : Int) (c.toNat : Int) true) (ownR acc (plex resB okV t (p + 1) n)) :=
   Ev.step (f := fun k => lexer_Lex.l0 k (mk s) acc ((p + 1 : Nat) : Int) (n : Int)) (fun k => by simp only [lexer_Lex.j1]; rw [if_pos trivial, wrap_nat (by omega)]) hi
  refine Ev.step (fun k => ?_) hj
  simp only [lexer_Lex.l0]; rw [if_pos (by rw [mk_size]; omega), if_pos (by omega), h3, if_neg (by omega)]
  by_cases h32 : c.toNat = 32
  ·
   rw [if_pos (by omega), show ((c.toNat : Int) == 32) = true by rw [beq_iff_eq]; omega]
  ·
   rw [if_neg (by omega), show ((c.toNat : Int) == 9) = true by rw [beq_iff_eq]; omega]
 ·
  intro t c p n hc ih acc hl hp hn ha
  obtain ⟨h1, h2, h3⟩ := drop_facts hl rfl
  rw [plex_note _ _ _ _ hc]
  have hr := runB_le notN t
  have hi := ih acc (by rw [← List.drop_drop, hl, List.drop_succ_cons]) (by omega) (by omega) (by omega)
  have hn35 : notN c = true := by unfold notN; rw [decide_eq_true_eq]; omega
  have hj : Ev (fun k => lexer_Lex.j1 k (mk s) acc (p : Int) (n : Int) (c.toNat : Int) false) (ownR acc (plex resB okV (t.drop (runB notN t)) (p + (runB notN t + 1)) n)) := by
   refine Ev.step (f := fun k => (lexer_run_note.f k (mk (c :: t))).bind fun t121 => lexer_Lex.l0 k (mk s) acc (wrap64 ((p : Int) + t121)) (n : Int)) (fun k => ?_) (Ev.bind (runn_ev (c :: t) (by rw [List.length_cons]; omega)) ?_)
   ·
    simp only [lexer_Lex.j1]; rw [if_neg (by simp), if_pos (by omega), if_pos (by omega), if_pos (by rw [mk_size]; omega), Int.toNat_natCast, mk_from, hl]
   ·
    rw [runB_cons, if_pos hn35, wrap_id (by omega) (by omega), show (p : Int) + ((runB notN t + 1 : Nat) : Int) = ((p + (runB notN t + 1) : Nat) : Int) by omega]
    exact hi
  refine Ev.step (fun k => ?_) hj
  simp only [lexer_Lex.l0]; rw [if_pos (by rw [mk_size]; omega), if_pos (by omega), h3, if_neg (by omega), if_neg (by omega), show ((c.toNat : Int) == 9) = false by rw [beq_eq_false_iff_ne]; omega]
 ·
  intro t c p n hc hk acc hl hp hn ha
  obtain ⟨h1, h2, h3⟩ := drop_facts hl rfl
  rw [plex_bad _ _ _ _ hc hk]
  have hj : Ev (fun k => lexer_Lex.j1 k (mk s) acc (p : Int) (n : Int) (c.toNat : Int) false) ([], (p : Int), 4) := by
   refine Ev.step (f := fun k => (lexer_token.f k (mk (c :: t))).bind (afterTok k (mk s) acc (p : Int) (n : Int))) (fun k => ?_) (Ev.bind (token_ev c t (by rw [List.length_cons]; omega)) ?_)
   ·
    simp only [lexer_Lex.j1]; rw [if_neg (by simp), if_neg (by have := hc.2.2; omega), if_pos (by omega), if_pos (by rw [mk_size]; omega), Int.toNat_natCast, mk_from, hl]; rfl
   ·
    refine Ev.congr (f := fun _ => some ([], (p : Int), 4)) (fun k => ?_) (Ev.now _)
    unfold afterTok; rw [if_pos (by show (((tokL resB okV (c :: t)).1 : Nat) : Int) = 0; rw [hk]; rfl)]
  refine Ev.step (fun k => ?_) hj
  have := hc.1; have := hc.2.1
  simp only [lexer_Lex.l0]; rw [if_pos (by rw [mk_size]; omega), if_pos (by omega), h3, if_neg (by omega), if_neg (by omega), show ((c.toNat : Int) == 9) = false by rw [beq_eq_false_iff_ne]; omega]
 ·
  intro t c p n hc hk ih acc hl hp hn ha
  obtain ⟨h1, h2, h3⟩ := drop_facts hl rfl
  have hle := tokL_le resB okV (c :: t) hk
  rw [List.length_cons] at hle
  rw [plex_tok _ _ _ _ hc hk]
  have hi := ih (acc ++ [own1 (mkTk resB okV (c :: t) p n)]) (by rw [← List.drop_drop, hl]) (by omega) (by omega) (by rw [List.length_append]; simp; omega)
  have hR : ownR (acc ++ [own1 (mkTk resB okV (c :: t) p n)]) (plex resB okV ((c :: t).drop (tokL resB okV (c :: t)).2) (p + (tokL resB okV (c :: t)).2) n) = ownR acc (match plex resB okV ((c :: t).drop (tokL resB okV (c :: t)).2) (p + (tokL resB okV (c :: t)).2) n with
   | .error m => .error m
   | .ok l => .ok (mkTk resB okV (c :: t) p n :: l)) := by
   cases plex resB okV ((c :: t).drop (tokL resB okV (c :: t)).2) (p + (tokL resB okV (c :: t)).2) n with
   | error m => rfl
   | ok l => simp [ownR]
  rw [hR] at hi
  generalize ownR acc (match plex resB okV ((c :: t).drop (tokL resB okV (c :: t)).2) (p + (tokL resB okV (c :: t)).2) n with
   | .error m => .error m
   | .ok l => .ok (mkTk resB okV (c :: t) p n :: l)) = R at hi ⊢
  have hj : Ev (fun k => lexer_Lex.j1 k (mk s) acc (p : Int) (n : Int) (c.toNat : Int) false) R := by
   refine Ev.step (f := fun k => (lexer_token.f k (mk (c :: t))).bind (afterTok k (mk s) acc (p : Int) (n : Int))) (fun k => ?_) (Ev.bind (token_ev c t (by rw [List.length_cons]; omega)) ?_)
   ·
    simp only [lexer_Lex.j1]; rw [if_neg (by simp), if_neg (by have := hc.2.2; omega), if_pos (by omega), if_pos (by rw [mk_size]; omega), Int.toNat_natCast, mk_from, hl]; rfl
   ·
    have hown : own1 (mkTk resB okV (c :: t) p n) = ⟨(((tokL resB okV (c :: t)).1 : Nat) : Int), if (tokL resB okV (c :: t)).1 = 4 then mk ((((s.drop p).take (tokL resB okV (c :: t)).2).drop 1).take ((tokL resB okV (c :: t)).2 - 2)) else mk ((s.drop p).take (tokL resB okV (c :: t)).2), (n : Int), (p : Int)⟩ := by
     unfold own1 mkTk
     rw [hl]
     by_cases h4 : (tokL resB okV (c :: t)).1 = 4
     ·
      obtain ⟨_, _, h42⟩ := tokL_four resB okV c t h4
      rw [if_pos h4, if_pos h4, h42, List.take_succ_cons, List.drop_succ_cons, List.drop_zero, List.tail_cons, List.take_take, show min (runB notQ t + 2 - 2) (runB notQ t + 1) = runB notQ t + 2 - 2 by omega]
     ·
      rw [if_neg h4, if_neg h4]
    have hm4 : (tokL resB okV (c :: t)).1 = 4 → 2 ≤ (tokL resB okV (c :: t)).2 := fun h4 => by
     obtain ⟨_, _, h42⟩ := tokL_four resB okV c t h4
     rw [h42]; exact Nat.le_add_left _ _
    have hpm : p + (tokL resB okV (c :: t)).2 ≤ s.length := by omega
    rw [hown] at hi
    have ha' : acc.length ≤ 100000 := by omega
    clear hR hown
    exact Ev.congr (fun k => afterTok_ok k s acc p n _ _ hpm hs ha' hk hm4) hi
  refine Ev.step (fun k => ?_) hj
  have := hc.1; have := hc.2.1
  simp only [lexer_Lex.l0]; rw [if_pos (by rw [mk_size]; omega), if_pos (by omega), h3, if_neg (by omega), if_neg (by omega), show ((c.toNat : Int) == 9) = false by rw [beq_eq_false_iff_ne]; omega]
theorem lex_ev (s : Bs) (hs : s.length ≤ 20000) : Ev (fun k => lexer_Lex.f k (mk s)) (ownR [] (plex resB okV s 0 1)) := by
 have := lex_l s (by omega) s 0 1 [] (by simp) (by omega) (by omega) (by simp)
 refine Ev.congr (fun k => ?_) this
 unfold lexer_Lex.f; rw [if_neg (by rw [mk_size]; omega)]; rfl
end Go.Proofs.YthjmbagkomnpgaaDoor.Plain
end
section
namespace Go.Proofs.YthjmbagkomnpgaaDoor.Plain
open Go Go.RowKit Go.Proofs.YthjmbagkomnpgaaDoor.L Go.Proofs.YthjmbagkomnpgaaDoorW.PrintWords Go.Proofs.YthjmbagkomnpgaaDoorW.PrintLast

def awakeText : Bs := [116, 105, 101, 114, 32, 67, 49, 32, 97, 110, 103, 108, 101, 32, 51, 48, 47, 45, 51, 53, 32, 97, 116, 32, 48, 32, 35, 32, 109, 97, 105, 110]
def awakeToks : List Tk := [⟨2, [116, 105, 101, 114], 1, 0⟩, ⟨1, [67, 49], 1, 5⟩, ⟨2, [97, 110, 103, 108, 101], 1, 8⟩, ⟨3, [51, 48], 1, 14⟩, ⟨5, [47], 1, 16⟩, ⟨3, [45, 51, 53], 1, 17⟩, ⟨2, [97, 116], 1, 21⟩, ⟨3, [48], 1, 24⟩]
theorem awake_plex : plex resB okV awakeText 0 1 = .ok awakeToks := by kernel_rfl
theorem awake_n1 : nameB [67, 49] = true := by decide
theorem awake_n2 : nameB [116, 105, 101, 114] = false := by decide
theorem awake_ev : Ev (fun k => culetlaw13_awake.f k) true := by
 have h := lex_ev awakeText (by decide)
 rw [awake_plex] at h
 have h1 := name_ev [67, 49] (by decide)
 have h2 := name_ev [116, 105, 101, 114] (by decide)
 rw [awake_n1] at h1
 rw [awake_n2] at h2
 refine Ev.congr (fun k => by unfold culetlaw13_awake.f; rfl) (Ev.bind h ?_)
 refine Ev.congr (f := fun k => (lexer_IsName.f k (mk [67, 49])).bind fun t141 => if t141 = true then (lexer_IsName.f k (mk [116, 105, 101, 114])).bind fun t142 => some (!t142) else some false) (fun k => ?_) ?_
 ·
  simp only [ownR, awakeToks, List.map_cons, List.map_nil, List.nil_append, own1, rd_T38]
  rw [if_pos trivial, if_pos trivial, if_pos (by decide), if_pos (by decide), if_pos (by rfl), if_pos (by decide), if_pos (by rfl), if_pos (by decide), if_pos (by exact mk_toList [45, 51, 53]), if_pos (by rfl), if_pos (by decide), if_pos (by rfl)]
  rfl
 ·
  refine Ev.bind h1 ?_
  exact Ev.congr (fun k => if_pos rfl) (Ev.bind h2 (Ev.now _))
end Go.Proofs.YthjmbagkomnpgaaDoor.Plain
end
