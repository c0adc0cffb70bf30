-- Written by this session's own programs; what the law does not lean on is left out. Lean checks it.
import Derived.Test.YtejgenhmhahgeaaDoorXP
import Derived.Test.YtejgenhmhahgeaaDoorXTx45
import Derived.Test.YtejgenhmhahgeaaDoorXTx46
import Derived.Test.YtejgenhmhahgeaaDoorXTx47
import Derived.Test.YtejgenhmhahgeaaDoorXTx48
import Derived.Test.YtejgenhmhahgeaaDoorXTx49
import Derived.Test.YtejgenhmhahgeaaDoorXTx50
import Derived.Lib.AtoiTie
import Derived.Lib.SplitLaws
import Derived.Lib.IndexBytes
import Derived.Test.YtejgenhmhahgeaaDoorXTx52
import Derived.Test.YtejgenhmhahgeaaDoorXTx53
import Derived.Test.YtejgenhmhahgeaaDoorXTx54
import Derived.Test.YtejgenhmhahgeaaDoorXTx55
section
namespace Go.Proofs.YtejgenhmhahgeaaDoor.Plain
set_option linter.unusedVariables false
set_option linter.unusedSimpArgs false
open Go Go.RowKit Go.Proofs.YtejgenhmhahgeaaDoor.T Go.Proofs.YtejgenhmhahgeaaDoorW.PrintWords Go.Proofs.YtejgenhmhahgeaaDoorW.PrintLast Go.Proofs.YtejgenhmhahgeaaDoorW.PrintMore

theorem digits_eq (n : Nat) : Lib.decDigits n = if n < 10 then [UInt8.ofNat (48 + n)] else Lib.decDigits (n / 10) ++ [UInt8.ofNat (48 + n % 10)] := by
 rw [Lib.decDigits]
 split <;> rfl
theorem digit_str (n : Nat) (h : n ≤ 1000000) : strOfNums [(wrap64 (48 + (Int.tmod (n : Int) 10))) % 256] = mk [UInt8.ofNat (48 + n % 10)] := by
 have e : (wrap64 (48 + (Int.tmod (n : Int) 10))) % 256 = ((48 + n % 10 : Nat) : Int) := by
  rw [Int.tmod_eq_emod_of_nonneg (by omega), wrap_id (by omega) (by omega)]
  omega
 rw [e]; rfl
theorem ritoa_l (u : Nat) : u ≤ 1000000 → ∀ acc : Bs, acc.length + u ≤ 2000000 → Ev (fun k => culetref44_Itoa.l0 k (u : Int) (mk acc)) (mk ((if u = 0 then [] else Lib.decDigits u) ++ acc)) := by
 induction u using Nat.strongRecOn with
 | ind u ih =>
  intro hu acc ha
  by_cases h0 : u = 0
  ·
   subst h0
   refine Ev.step (f := fun _ => some (mk acc)) (fun k => ?_) (Ev.now _)
   simp only [culetref44_Itoa.l0]; rw [if_neg (by omega)]
  ·
   rw [if_neg h0]
   ·
    have h := ih (u / 10) (by omega) (by omega) (UInt8.ofNat (48 + u % 10) :: acc) (by rw [List.length_cons]; omega)
    have e : (if u / 10 = 0 then [] else Lib.decDigits (u / 10)) ++ UInt8.ofNat (48 + u % 10) :: acc = Lib.decDigits u ++ acc := by
     rw [digits_eq u]
     by_cases h1 : u < 10
     ·
      rw [if_pos (by omega), if_pos h1, Nat.mod_eq_of_lt h1]; rfl
     ·
      rw [if_neg (by omega), if_neg h1, List.append_assoc]; rfl
    rw [e] at h
    refine Ev.step (fun k => ?_) h
    simp only [culetref44_Itoa.l0]
    have c : (mk [UInt8.ofNat (48 + u % 10)]).size + (mk acc).size ≤ 9223372036854775807 := by rw [mk_size, mk_size, List.length_singleton]; omega
    rw [if_pos (by omega), Option.bind_some, digit_str u hu, if_pos c, mk_append, Int.tdiv_eq_ediv_of_nonneg (by omega), wrap_id (by omega) (by omega)]; rfl
theorem ritoa_ev {n : Int} (h0 : 0 ≤ n) (h1 : n ≤ 1000000) : Ev (fun k => culetref44_Itoa.f k n) (mk (Lib.itoa n)) := by
 obtain ⟨u, rfl⟩ : ∃ u : Nat, n = (u : Int) := ⟨n.toNat, by omega⟩
 have h := ritoa_l (u / 10) (by omega) [UInt8.ofNat (48 + u % 10)] (by rw [List.length_singleton]; omega)
 have e : (if u / 10 = 0 then [] else Lib.decDigits (u / 10)) ++ [UInt8.ofNat (48 + u % 10)] = Lib.itoa (u : Int) := by
  have hn : ¬ ((u : Nat) : Int) < 0 := by omega
  unfold Lib.itoa
  rw [if_neg hn, Int.toNat_natCast, digits_eq u]
  by_cases h1 : u < 10
  ·
   rw [if_pos (by omega), if_pos h1, Nat.mod_eq_of_lt h1]; rfl
  ·
   rw [if_neg (by omega), if_neg h1]
 rw [e] at h
 refine Ev.step (fun k => ?_) h
 simp only [culetref44_Itoa.f]
 rw [if_neg (by omega), digit_str u (by omega), Int.tdiv_eq_ediv_of_nonneg (by omega), wrap_id (by omega) (by omega)]; rfl

theorem join_snoc (sep x y : Bs) (r : List Bs) : Lib.join (x :: r ++ [y]) sep = Lib.join (x :: r) sep ++ sep ++ y := by
 rw [List.cons_append, Lib.join_cons, Lib.join_cons]
 unfold Lib.joinTail
 rw [List.map_append, List.flatten_append]
 simp
def upto (s : ByteArray) (l : List S63) (i : Nat) : Bs := s.data.toList ++ [58] ++ Lib.join ((l.take i).map partB) [44]
theorem upto_le {s : ByteArray} (hs : s.size ≤ 1000) {l : List S63} (v : V s l) (i : Nat) : (upto s l i).length ≤ 50000000 := by
 have hn : s.data.toList.length = s.size := by rw [Array.length_toList]; rfl
 have hj : (Lib.join ((l.take i).map partB) [44]).length ≤ 20 * 2000005 := by
  refine Nat.le_trans (join_le [44] rfl 2000004 _ (fun x hx => ?_)) (by rw [List.length_map, List.length_take]; exact Nat.mul_le_mul_right _ (Nat.le_trans (Nat.min_le_right _ _) v.len20))
  obtain ⟨y, hy, rfl⟩ := List.mem_map.1 hx
  obtain ⟨j, hj, rfl⟩ := List.getElem_of_mem (List.mem_of_mem_take hy)
  exact part_le v hj
 unfold upto
 rw [List.length_append, List.length_append, List.length_singleton]
 omega
theorem rprint_l (s : ByteArray) (hs : s.size ≤ 1000) {l : List S42} (v : V s (own l)) : ∀ (d i : Nat), i + d = l.length → Ev (fun k => culetref44_Print.l0 k (mk (upto s (own l) i)) (i : Int) s l) (mk (printB s (own l)), 0)
 | 0, i, h => by
  obtain rfl : i = l.length := by omega
  refine Ev.step (f := fun _ => some (mk (printB s (own l)), 0)) (fun k => ?_) (Ev.now _)
  simp only [culetref44_Print.l0]
  rw [if_neg (by omega)]
  unfold upto printB
  rw [show l.length = (own l).length from (own_length l).symm, List.take_length]
 | d + 1, i, h => by
  have hi : i < l.length := by omega
  have hi' : i < (own l).length := by rw [own_length]; exact hi
  have ih := rprint_l s hs v d (i + 1) (by omega)
  have h20 := v.len20
  rw [own_length] at h20
  have hu := upto_le hs v i
  have hp := part_le v hi'
  have a := itoa_le (v.nn hi') (v.hi i hi')
  have b := itoa_le (v.p0 i hi') (v.p1 i hi')
  have ea := ritoa_ev (v.nn hi') (v.hi i hi')
  have eb := ritoa_ev (v.p0 i hi') (v.p1 i hi')
  have f0 : F (own l) i = (rd_T42 l (i : Int)).f0 := by unfold F; rw [own_rd]
  have p0 : P (own l) i = (rd_T42 l (i : Int)).f1 := by unfold P; rw [own_rd]
  rw [f0] at a ea
  rw [p0] at b eb
  have c1 : 1 + (mk (Lib.itoa (rd_T42 l (i : Int)).f0)).size ≤ 9223372036854775807 := by rw [mk_size]; omega
  have c2 : ((⟨#[32]⟩ : ByteArray) ++ mk (Lib.itoa (rd_T42 l (i : Int)).f0)).size + 1 ≤ 9223372036854775807 := by rw [ByteArray.size_append, mk_size, show (⟨#[32]⟩ : ByteArray).size = 1 from rfl]; omega
  have c3 : (((⟨#[32]⟩ : ByteArray) ++ mk (Lib.itoa (rd_T42 l (i : Int)).f0)) ++ (⟨#[64]⟩ : ByteArray)).size + (mk (Lib.itoa (rd_T42 l (i : Int)).f1)).size ≤ 9223372036854775807 := by rw [ByteArray.size_append, ByteArray.size_append, mk_size, mk_size, show (⟨#[32]⟩ : ByteArray).size = 1 from rfl, show (⟨#[64]⟩ : ByteArray).size = 1 from rfl]; omega
  have ep : (((⟨#[32]⟩ : ByteArray) ++ mk (Lib.itoa (rd_T42 l (i : Int)).f0)) ++ (⟨#[64]⟩ : ByteArray)) ++ mk (Lib.itoa (rd_T42 l (i : Int)).f1) = mk (partB (own l)[i]) := by
   rw [show (⟨#[32]⟩ : ByteArray) = mk [32] from rfl, show (⟨#[64]⟩ : ByteArray) = mk [64] from rfl, mk_append, mk_append, mk_append, ← f0, ← p0]
   unfold F P
   rw [rd63 hi']; rfl
  have tk : (own l).take (i + 1) = (own l).take i ++ [(own l)[i]] := List.take_succ_eq_append_getElem hi'
  by_cases h0 : i = 0
  ·
   subst h0
   have c4 : (mk (upto s (own l) 0)).size + (mk (partB (own l)[0])).size ≤ 9223372036854775807 := by rw [mk_size, mk_size]; omega
   have eu : mk (upto s (own l) 0) ++ mk (partB (own l)[0]) = mk (upto s (own l) (0 + 1)) := by
    rw [mk_append]
    unfold upto
    rw [tk, List.take_zero, List.nil_append, List.map_nil, Lib.join_nil, List.append_nil, List.map_cons, List.map_nil, Lib.join_one]
   refine Ev.step (f := fun k => ((culetref44_Itoa.f k ((rd_T42 l ((0 : Nat) : Int)).f0)).bind fun t336 => (if 1 + t336.size ≤ 9223372036854775807 then (if ((⟨#[32]⟩ : ByteArray) ++ t336).size + 1 ≤ 9223372036854775807 then ((culetref44_Itoa.f k ((rd_T42 l ((0 : Nat) : Int)).f1)).bind fun t338 => (if (((⟨#[32]⟩ : ByteArray) ++ t336) ++ (⟨#[64]⟩ : ByteArray)).size + t338.size ≤ 9223372036854775807 then (if (mk (upto s (own l) 0)).size + ((((⟨#[32]⟩ : ByteArray) ++ t336) ++ (⟨#[64]⟩ : ByteArray)) ++ t338).size ≤ 9223372036854775807 then (culetref44_Print.l0 k ((mk (upto s (own l) 0)) ++ ((((⟨#[32]⟩ : ByteArray) ++ t336) ++ (⟨#[64]⟩ : ByteArray)) ++ t338)) ((0 + 1 : Nat) : Int) s l) else (none)) else (none))) else (none)) else (none)))) (fun k => ?_) ?_
   ·
    simp only [culetref44_Print.l0]
    rw [if_pos (by omega), if_neg (by omega), if_pos (by omega), wrap_nat (by omega)]
   ·
    refine Ev.bind ea ?_
    simp only [c1, c2, if_true]
    refine Ev.bind eb ?_
    simp only [c3, ep, c4, eu, if_true]
    exact ih
  ·
   have c0 : (mk (upto s (own l) i)).size + 1 ≤ 9223372036854775807 := by rw [mk_size]; omega
   have c4 : ((mk (upto s (own l) i)) ++ (⟨#[44]⟩ : ByteArray)).size + (mk (partB (own l)[i])).size ≤ 9223372036854775807 := by rw [ByteArray.size_append, mk_size, mk_size, show (⟨#[44]⟩ : ByteArray).size = 1 from rfl]; omega
   have eu : (mk (upto s (own l) i) ++ (⟨#[44]⟩ : ByteArray)) ++ mk (partB (own l)[i]) = mk (upto s (own l) (i + 1)) := by
    rw [show (⟨#[44]⟩ : ByteArray) = mk [44] from rfl, mk_append, mk_append]
    unfold upto
    rw [tk, List.map_append]
    cases hq : (own l).take i with
    | nil =>
     have := congrArg List.length hq
     rw [List.length_take, List.length_nil] at this
     omega
    | cons q r =>
     rw [List.map_cons, show [(own l)[i]].map partB = [partB (own l)[i]] from rfl, join_snoc]
     simp only [List.append_assoc]
   refine Ev.step (f := fun k => ((culetref44_Itoa.f k ((rd_T42 l (i : Int)).f0)).bind fun t332 => (if 1 + t332.size ≤ 9223372036854775807 then (if ((⟨#[32]⟩ : ByteArray) ++ t332).size + 1 ≤ 9223372036854775807 then ((culetref44_Itoa.f k ((rd_T42 l (i : Int)).f1)).bind fun t334 => (if (((⟨#[32]⟩ : ByteArray) ++ t332) ++ (⟨#[64]⟩ : ByteArray)).size + t334.size ≤ 9223372036854775807 then (if ((mk (upto s (own l) i)) ++ (⟨#[44]⟩ : ByteArray)).size + ((((⟨#[32]⟩ : ByteArray) ++ t332) ++ (⟨#[64]⟩ : ByteArray)) ++ t334).size ≤ 9223372036854775807 then (culetref44_Print.l0 k (((mk (upto s (own l) i)) ++ (⟨#[44]⟩ : ByteArray)) ++ ((((⟨#[32]⟩ : ByteArray) ++ t332) ++ (⟨#[64]⟩ : ByteArray)) ++ t334)) ((i + 1 : Nat) : Int) s l) else (none)) else (none))) else (none)) else (none)))) (fun k => ?_) ?_
   ·
    simp only [culetref44_Print.l0]
    rw [if_pos (by omega), if_pos (by omega), if_pos c0, if_pos (by omega), wrap_nat (by omega)]
   ·
    refine Ev.bind ea ?_
    simp only [c1, c2, if_true]
    refine Ev.bind eb ?_
    simp only [c3, ep, c4, eu, if_true]
    exact ih
def neB (a b : List S42) (i : Nat) : Bool := !((rd_T42 a (i : Int)).f0 == (rd_T42 b (i : Int)).f0) || !((rd_T42 a (i : Int)).f1 == (rd_T42 b (i : Int)).f1)
def eqB (s : ByteArray) (a : List S42) (t : ByteArray) (b : List S42) : Bool := decide (s.toList = t.toList) && (decide (a.length = b.length) && (List.range' 0 a.length).all (fun i => !neB a b i))
theorem requal_l (s t : ByteArray) (a b : List S42) (ha : a.length ≤ 100000) (hl : a.length = b.length) : ∀ (d i : Nat), i + d = a.length → Ev (fun k => culetref44_Equal.l0 k (i : Int) s a t b) ((List.range' i d).all (fun i => !neB a b i))
 | 0, i, h => by
  obtain rfl : i = a.length := by omega
  refine Ev.step (f := fun _ => some true) (fun k => ?_) (Ev.now _)
  simp only [culetref44_Equal.l0]; rw [if_neg (by omega)]
 | d + 1, i, h => by
  rw [List.range'_succ, List.all_cons]
  have st : ∀ k, culetref44_Equal.l0 (k + 1) (i : Int) s a t b = if neB a b i = true then some false else culetref44_Equal.l0 k ((i + 1 : Nat) : Int) s a t b := by
   intro k
   simp only [culetref44_Equal.l0]
   rw [if_pos (by omega), if_pos (by omega), if_pos (by omega), wrap_nat (by omega)]; rfl
  cases hc : neB a b i with
  | true => exact Ev.step (f := fun _ => some false) (fun k => by rw [st, if_pos hc]) (Ev.now _)
  | false => exact Ev.step (fun k => by rw [st, hc, if_neg (by simp)]) (requal_l s t a b ha hl d (i + 1) (by omega))
theorem rEqual_ev (s : ByteArray) (a : List S42) (t : ByteArray) (b : List S42) (ha : a.length ≤ 100000) : Ev (fun k => culetref44_Equal.f k s a t b) (eqB s a t b) := by
 have bad : Ev (fun k => culetref44_Equal.j0 k true s a t b) false := Ev.step (f := fun _ => some false) (fun k => by simp only [culetref44_Equal.j0, if_true]) (Ev.now _)
 unfold culetref44_Equal.f eqB
 by_cases h : s.toList = t.toList
 ·
  simp only [h, if_true, decide_true, Bool.true_and]
  by_cases hl : a.length = b.length
  ·
   rw [decide_eq_true hl, Bool.true_and, show ((a.length : Int) != (b.length : Int)) = false from bne_eq_false_iff_eq.2 (by omega)]
   exact Ev.step (f := fun k => culetref44_Equal.l0 k ((0 : Nat) : Int) s a t b) (fun k => by simp only [culetref44_Equal.j0]; rfl) (requal_l s t a b ha hl a.length 0 (by omega))
  ·
   rw [decide_eq_false hl, Bool.false_and, show ((a.length : Int) != (b.length : Int)) = true from bne_iff_ne.2 (by omega)]
   exact bad
 ·
  simp only [h, if_false, decide_false, Bool.false_and]; exact bad
theorem eqB_refl (s : ByteArray) (a : List S42) : eqB s a s a = true := by
 unfold eqB
 rw [decide_eq_true rfl, decide_eq_true rfl, Bool.true_and, Bool.true_and, List.all_eq_true]
 intro i _
 unfold neB
 simp
end Go.Proofs.YtejgenhmhahgeaaDoor.Plain
end
section
namespace Go.Proofs.YtejgenhmhahgeaaDoor.Plain
set_option linter.unusedVariables false
set_option linter.unusedSimpArgs false
open Go Go.RowKit Go.Proofs.YtejgenhmhahgeaaDoor.T Go.Proofs.YtejgenhmhahgeaaDoorW.PrintWords Go.Proofs.YtejgenhmhahgeaaDoorW.PrintLast Go.Proofs.YtejgenhmhahgeaaDoorW.PrintMore

def dv (c : UInt8) : Nat := c.toNat - 48
def val : Nat → Bs → Nat
 | acc, [] => acc
 | acc, c :: t => val (10 * acc + dv c) t
theorem val_append : ∀ (a b : Bs) (acc : Nat), val acc (a ++ b) = val (val acc a) b
 | [], b, acc => rfl
 | c :: a, b, acc => val_append a b _
theorem val_lt : ∀ (s : Bs) (acc : Nat), s.all isD = true → val acc s < (acc + 1) * 10 ^ s.length
 | [], acc, h => by unfold val; simp
 | c :: t, acc, h => by
  rw [List.all_cons, Bool.and_eq_true] at h
  have ih := val_lt t (10 * acc + dv c) h.2
  have hc : dv c ≤ 9 := by have := h.1; unfold isD at this; have := of_decide_eq_true this; unfold dv; omega
  have : (10 * acc + dv c + 1) * 10 ^ t.length ≤ ((acc + 1) * 10) * 10 ^ t.length := Nat.mul_le_mul_right _ (by omega)
  unfold val
  rw [List.length_cons, Nat.pow_succ, Nat.mul_comm (10 ^ t.length) 10, ← Nat.mul_assoc]
  omega
theorem dg_toNat {d : Nat} (h : d < 10) : (UInt8.ofNat (48 + d)).toNat = 48 + d := by
 rw [UInt8.toNat_ofNat']; omega
theorem dg_isD {d : Nat} (h : d < 10) : isD (UInt8.ofNat (48 + d)) = true := by
 unfold isD; rw [dg_toNat h]; exact decide_eq_true (by omega)
theorem dg_dv {d : Nat} (h : d < 10) : dv (UInt8.ofNat (48 + d)) = d := by
 unfold dv; rw [dg_toNat h]; omega
theorem of_dv {c : UInt8} (h : isD c = true) : UInt8.ofNat (48 + dv c) = c := by
 unfold isD at h
 have := of_decide_eq_true h
 unfold dv
 rw [show 48 + (c.toNat - 48) = c.toNat by omega]
 exact UInt8.ofNat_toNat
theorem digits_all : ∀ (n : Nat), (Lib.decDigits n).all isD = true := by
 intro n
 induction n using Nat.strongRecOn with
 | ind n ih =>
  rw [digits_eq]
  split
  ·
   rw [List.all_cons, dg_isD (by assumption)]; rfl
  ·
   rw [List.all_append, ih (n / 10) (by omega), List.all_cons, dg_isD (by omega)]; rfl
theorem digits_val : ∀ (n : Nat), val 0 (Lib.decDigits n) = n := by
 intro n
 induction n using Nat.strongRecOn with
 | ind n ih =>
  rw [digits_eq]
  split
  ·
   unfold val val; rw [dg_dv (by assumption)]; omega
  ·
   rw [val_append, ih (n / 10) (by omega)]
   unfold val val
   rw [dg_dv (by omega)]; omega
theorem digits_len : ∀ (k n : Nat), n < 10 ^ (k + 1) → (Lib.decDigits n).length ≤ k + 1
 | 0, n, h => by
  rw [digits_eq, if_pos (by omega)]; simp
 | k + 1, n, h => by
  rw [digits_eq]
  split
  ·
   simp
  ·
   rw [List.length_append, List.length_singleton]
   have := digits_len k (n / 10) (by rw [Nat.pow_succ] at h; omega)
   omega
/-- The first byte is no zero, or it is the only one. -/
def headB (s : Bs) : Bool := match s with | [] => false | c :: t => decide (c.toNat ≠ 48) || t.isEmpty
theorem digits_head : ∀ (n : Nat), 0 < n → ∃ c t, Lib.decDigits n = c :: t ∧ c.toNat ≠ 48 := by
 intro n
 induction n using Nat.strongRecOn with
 | ind n ih =>
  intro h
  rw [digits_eq]
  split
  ·
   exact ⟨_, _, rfl, by rw [dg_toNat (by assumption)]; omega⟩
  ·
   obtain ⟨c, t, e, h1⟩ := ih (n / 10) (by omega) (by omega)
   exact ⟨c, _, by rw [e]; rfl, h1⟩
theorem digits_headB (n : Nat) : headB (Lib.decDigits n) = true := by
 rcases Nat.eq_zero_or_pos n with rfl | h
 ·
  rw [digits_eq]; rfl
 ·
  obtain ⟨c, t, e, h1⟩ := digits_head n h
  rw [e]
  show (decide (c.toNat ≠ 48) || t.isEmpty) = true
  rw [decide_eq_true h1]; rfl
theorem digits_of_val : ∀ (k : Nat) (s : Bs), s.length = k + 1 → s.all isD = true → headB s = true → Lib.decDigits (val 0 s) = s
 | 0, s, hl, ha, hh => by
  match s, hl with
  | [c], _ =>
   rw [List.all_cons, List.all_nil, Bool.and_true] at ha
   have hc : dv c ≤ 9 := by have h := ha; unfold isD at h; have := of_decide_eq_true h; unfold dv; omega
   unfold val val
   rw [Nat.mul_zero, Nat.zero_add, digits_eq, if_pos (by omega), of_dv ha]
 | k + 1, s, hl, ha, hh => by
  have hne : s ≠ [] := by intro e; rw [e] at hl; simp at hl
  obtain ⟨r, c, rfl⟩ : ∃ r c, s = r ++ [c] := ⟨s.dropLast, s.getLast hne, (List.dropLast_concat_getLast hne).symm⟩
  rw [List.length_append, List.length_singleton] at hl
  rw [List.all_append, Bool.and_eq_true, List.all_cons, List.all_nil, Bool.and_true] at ha
  have hr : headB r = true ∧ ∀ c t, r = c :: t → c.toNat ≠ 48 := by
   cases r with
   | nil => simp at hl
   | cons x t =>
    have h2 : (decide (x.toNat ≠ 48) || (t ++ [c]).isEmpty) = true := hh
    have h3 : (t ++ [c]).isEmpty = false := by cases t <;> rfl
    rw [h3, Bool.or_false] at h2
    refine ⟨?_, fun y u e => ?_⟩
    ·
     show (decide (x.toNat ≠ 48) || t.isEmpty) = true
     rw [h2]; rfl
    ·
     injection e with e1 _
     rw [← e1]; exact of_decide_eq_true h2
  have ih := digits_of_val k r (by omega) ha.1 hr.1
  have hc : dv c ≤ 9 := by have h := ha.2; unfold isD at h; have := of_decide_eq_true h; unfold dv; omega
  have hm : val 0 r ≠ 0 := by
   intro e
   rw [e, digits_eq] at ih
   exact hr.2 _ _ ih.symm (by decide)
  rw [val_append]
  unfold val val
  rw [digits_eq, if_neg (by omega), show (10 * val 0 r + dv c) / 10 = val 0 r by omega, show (10 * val 0 r + dv c) % 10 = dv c by omega, ih, of_dv ha.2]
theorem itoa_nat (n : Nat) : Lib.itoa (n : Int) = Lib.decDigits n := by
 have hn : ¬ ((n : Nat) : Int) < 0 := by omega
 unfold Lib.itoa
 rw [if_neg hn, Int.toNat_natCast]
theorem decFrom_val : ∀ (s : Bs) (acc : Nat), s.all isD = true → Lib.decFrom acc s = some (val acc s)
 | [], acc, h => rfl
 | c :: t, acc, h => by
  rw [List.all_cons, Bool.and_eq_true] at h
  have hc := of_decide_eq_true (show decide (48 ≤ c.toNat ∧ c.toNat ≤ 57) = true from h.1)
  unfold Lib.decFrom Lib.digitVal val
  rw [if_pos hc, Nat.mul_comm 10 acc]
  exact decFrom_val t _ h.2
theorem atoi_digits (n : Nat) (h : n ≤ 1000000) : atoiV (Lib.decDigits n) = (n : Int) := by
 have hl := digits_len 6 n (by omega)
 have ha := digits_all n
 have hd := decFrom_val _ 0 ha
 rw [digits_val] at hd
 have e : Lib.atoi (Lib.decDigits n) = some (n : Int) := by
  cases hq : Lib.decDigits n with
  | nil => have := digits_headB n; rw [hq] at this; exact absurd this (by decide)
  | cons c t =>
   rw [hq] at ha hd
   rw [List.all_cons, Bool.and_eq_true] at ha
   have hc := of_decide_eq_true (show decide (48 ≤ c.toNat ∧ c.toNat ≤ 57) = true from ha.1)
   have n1 : (c == 45) = false := beq_eq_false_iff_ne.2 (fun e => by rw [e] at hc; exact absurd hc (by decide))
   have n2 : (c == 43) = false := beq_eq_false_iff_ne.2 (fun e => by rw [e] at hc; exact absurd hc (by decide))
   unfold Lib.atoi Lib.decNat
   dsimp only
   rw [n1, n2]
   simp only [Bool.false_eq_true, if_false, List.isEmpty_cons, hd]; rfl
 unfold atoiV
 rw [Lib.atoiAll_short _ (by omega), e]; rfl

def partsB (c : UInt8) : Bs → List Bs
 | [] => [[]]
 | x :: t => if x = c then [] :: partsB c t else (match partsB c t with | h :: r => (x :: h) :: r | [] => [[x]])
theorem parts_none {c : UInt8} : ∀ {a : Bs}, c ∉ a → partsB c a = [a]
 | [], _ => rfl
 | x :: t, h => by
  rw [List.mem_cons, not_or] at h
  unfold partsB
  rw [if_neg (fun e => h.1 e.symm), parts_none h.2]
theorem parts_hit {c : UInt8} : ∀ {a : Bs} (b : Bs), c ∉ a → partsB c (a ++ c :: b) = a :: partsB c b
 | [], b, _ => by
  show partsB c (c :: b) = _
  conv => lhs; unfold partsB
  rw [if_pos rfl]
 | x :: t, b, h => by
  rw [List.mem_cons, not_or] at h
  show partsB c (x :: (t ++ c :: b)) = _
  conv => lhs; unfold partsB
  rw [if_neg (fun e => h.1 e.symm), parts_hit b h.2]
theorem parts_ne (c : UInt8) : ∀ (s : Bs), partsB c s ≠ []
 | [] => by unfold partsB; simp
 | x :: t => by
  unfold partsB
  split
  ·
   simp
  ·
   cases partsB c t <;> simp
theorem join_parts (c : UInt8) : ∀ (s : Bs), Lib.join (partsB c s) [c] = s
 | [] => by unfold partsB; rw [Lib.join_one]
 | x :: t => by
  have ih := join_parts c t
  unfold partsB
  cases hq : partsB c t with
  | nil => exact absurd hq (parts_ne c t)
  | cons h r =>
   rw [hq, Lib.join_cons] at ih
   split
   ·
    next e =>
    rw [Lib.join_cons]
    unfold Lib.joinTail at ih ⊢
    rw [List.map_cons, List.flatten_cons, List.nil_append, List.append_assoc, ih, e]; rfl
   ·
    show Lib.join ((x :: h) :: r) [c] = _
    rw [Lib.join_cons, List.cons_append, ih]
theorem parts_join (c : UInt8) : ∀ (l : List Bs), l ≠ [] → (∀ x ∈ l, c ∉ x) → partsB c (Lib.join l [c]) = l
 | [], h, _ => absurd rfl h
 | [x], _, hx => by rw [Lib.join_one]; exact parts_none (hx x List.mem_cons_self)
 | x :: y :: r, _, hx => by
  have ih := parts_join c (y :: r) (by simp) (fun z hz => hx z (List.mem_cons_of_mem _ hz))
  have e : Lib.join (x :: y :: r) [c] = x ++ c :: Lib.join (y :: r) [c] := by
   rw [Lib.join_cons, Lib.join_cons]
   unfold Lib.joinTail
   rw [List.map_cons, List.flatten_cons, List.append_assoc]; rfl
  rw [e, parts_hit _ (hx x List.mem_cons_self), ih]

theorem index_none {c : UInt8} : ∀ {a : Bs}, c ∉ a → Lib.index a [c] = -1
 | [], _ => rfl
 | x :: t, h => by
  rw [List.mem_cons, not_or] at h
  rw [Lib.index_one]
  unfold Lib.indexByte
  rw [show (x == c) = false from beq_eq_false_iff_ne.2 (fun e => h.1 e.symm)]
  have := index_none h.2
  rw [Lib.index_one] at this
  rw [this]; rfl
theorem index_hit {c : UInt8} (b : Bs) : ∀ {a : Bs}, c ∉ a → Lib.index (a ++ c :: b) [c] = (a.length : Int)
 | [], _ => by
  show Lib.index (c :: b) [c] = _
  rw [Lib.index_one]
  unfold Lib.indexByte
  rw [show (c == c) = true from beq_iff_eq.2 rfl]; rfl
 | x :: t, h => by
  rw [List.mem_cons, not_or] at h
  have ih := index_hit b h.2
  rw [Lib.index_one] at ih
  show Lib.index (x :: (t ++ c :: b)) [c] = _
  rw [Lib.index_one]
  unfold Lib.indexByte
  rw [show (x == c) = false from beq_eq_false_iff_ne.2 (fun e => h.1 e.symm), ih, show (((t.length : Nat) : Int) == -1) = false from beq_eq_false_iff_ne.2 (by omega)]
  simp
theorem cut_hit {c : UInt8} {a : Bs} (b : Bs) (h : c ∉ a) : Lib.cut (a ++ c :: b) [c] = (a, b, true) := by
 unfold Lib.cut
 rw [index_hit b h, if_pos (by omega), Int.toNat_natCast]
 simp
theorem first_split {c : UInt8} : ∀ (s : Bs), c ∈ s → ∃ a b, s = a ++ c :: b ∧ c ∉ a
 | x :: t, h => by
  by_cases e : x = c
  ·
   exact ⟨[], t, by rw [e]; rfl, by simp⟩
  ·
   have h' : c ∈ t := by
    rcases List.mem_cons.1 h with q | q
    ·
     exact absurd q.symm e
    ·
     exact q
   obtain ⟨a, b, rfl, ha⟩ := first_split t h'
   exact ⟨x :: a, b, rfl, by rw [List.mem_cons, not_or]; exact ⟨fun q => e q.symm, ha⟩⟩
theorem split_parts (c : UInt8) : ∀ (n k : Nat) (s : Bs), s.length ≤ n → s.count c ≤ k → (Lib.splitB (mk [c]) 0 k (mk s)).map (·.data.toList) = partsB c s := by
 intro n
 induction n with
 | zero =>
  intro k s h _
  have : s = [] := List.length_eq_zero_iff.1 (by omega)
  subst this
  cases k with
  | zero => rfl
  | succ k =>
   rw [Lib.splitB_miss _ _ _ _ (show Lib.index (mk ([] : Bs)).data.toList (mk [c]).data.toList = -1 from rfl)]; rfl
 | succ n ih =>
  intro k s h hk
  by_cases hc : c ∈ s
  ·
   obtain ⟨a, b, rfl, ha⟩ := first_split s hc
   rw [List.count_append, List.count_cons_self] at hk
   obtain ⟨k, rfl⟩ : ∃ m, k = m + 1 := ⟨k - 1, by omega⟩
   have hi : Lib.indexB (mk (a ++ c :: b)) (mk [c]) = ((a.length : Nat) : Int) := by
    show Lib.index (mk (a ++ c :: b)).data.toList (mk [c]).data.toList = _
    rw [mk_data, mk_data]; exact index_hit b ha
   rw [Lib.splitB_hit _ _ _ _ _ hi, parts_hit b ha, List.map_cons, Nat.add_zero, mk_upto, mk_data, List.take_left, mk_size, List.length_singleton, mk_from, show (a ++ c :: b).drop (a.length + 1) = b by rw [List.drop_append]; simp]
   rw [List.length_append, List.length_cons] at h
   rw [ih k b (by omega) (by omega)]
  ·
   rw [parts_none hc]
   have hm : Lib.indexB (mk s) (mk [c]) = -1 := by
    show Lib.index (mk s).data.toList (mk [c]).data.toList = -1
    rw [mk_data, mk_data]; exact index_none hc
   rw [Lib.splitB_miss _ _ _ _ hm, List.map_cons, List.map_nil, mk_data]
end Go.Proofs.YtejgenhmhahgeaaDoor.Plain
end
section
namespace Go.Proofs.YtejgenhmhahgeaaDoor.Plain
set_option linter.unusedVariables false
set_option linter.unusedSimpArgs false
open Go Go.RowKit Go.Proofs.YtejgenhmhahgeaaDoor.T Go.Proofs.YtejgenhmhahgeaaDoorW.PrintWords Go.Proofs.YtejgenhmhahgeaaDoorW.PrintLast Go.Proofs.YtejgenhmhahgeaaDoorW.PrintMore

theorem mem_take_step {s : Bs} {c : UInt8} {f i : Nat} (hf : f ≤ i) (hi : i < s.length) (h : c ∉ (s.drop f).take (i - f)) (hc : s[i] ≠ c) : c ∉ (s.drop f).take (i + 1 - f) := by
 have e : i + 1 - f = (i - f) + 1 := by omega
 have hl : i - f < (s.drop f).length := by rw [List.length_drop]; omega
 rw [e, List.take_succ_eq_append_getElem hl, List.mem_append, not_or]
 refine ⟨h, ?_⟩
 rw [List.mem_singleton, List.getElem_drop]
 have : f + (i - f) = i := by omega
 simp only [this]
 exact fun q => hc q.symm
theorem drop_split {s : Bs} {f i : Nat} (hf : f ≤ i) (hi : i < s.length) : s.drop f = (s.drop f).take (i - f) ++ s[i] :: s.drop (i + 1) := by
 conv => lhs; rw [← List.take_append_drop (i - f) (s.drop f)]
 rw [List.drop_drop, show f + (i - f) = i by omega, List.drop_eq_getElem_cons hi]
theorem parts_l (s : Bs) (hs : s.length ≤ 100000) (c : UInt8) : ∀ (d f i : Nat) (out : List Bs), i + d = s.length → f ≤ i → out.length ≤ f → c ∉ (s.drop f).take (i - f) → Ev (fun k => culetref44_Parts.l0 k (mk s) (c.toNat : Int) (out.map mk) (f : Int) (i : Int)) ((out ++ partsB c (s.drop f)).map mk)
 | 0, f, i, out, h, hf, ho, hc => by
  obtain rfl : i = s.length := by omega
  have e : partsB c (s.drop f) = [s.drop f] := parts_none (by rwa [List.take_of_length_le (by rw [List.length_drop]; exact Nat.le_refl _)] at hc)
  have hm : (out.map mk).length < 8796093022208 := by rw [List.length_map]; omega
  have ex : (mk s).extract f s.length = mk (s.drop f) := by rw [mk_extract, List.take_of_length_le (by rw [List.length_drop]; exact Nat.le_refl _)]
  rw [e]
  refine Ev.step (f := fun k => culetref44_Parts.l0 k (mk s) (c.toNat : Int) ((out ++ [s.drop f]).map mk) ((s.length + 1 : Nat) : Int) ((s.length + 1 : Nat) : Int)) (fun k => ?_) (Ev.step (f := fun _ => some ((out ++ [s.drop f]).map mk)) (fun k => ?_) (Ev.now _))
  ·
   simp only [culetref44_Parts.l0, mk_size]
   rw [if_pos (Int.le_refl _), if_pos trivial, if_pos (by omega), if_pos (by omega), if_pos hm, wrap_nat (by omega), Int.toNat_natCast, Int.toNat_natCast, ex, List.map_append]; rfl
  ·
   simp only [culetref44_Parts.l0, mk_size]
   rw [if_neg (by omega)]
 | d + 1, f, i, out, h, hf, ho, hc => by
  have hi : i < s.length := by omega
  have hm : (out.map mk).length < 8796093022208 := by rw [List.length_map]; omega
  have hb : bt (mk s) (i : Int) = ((s[i]'hi).toNat : Int) := bt_mk s i hi
  by_cases q : s[i] = c
  ·
   have ds := drop_split hf hi
   rw [q] at ds
   rw [ds, parts_hit _ hc]
   have ih := parts_l s hs c d (i + 1) (i + 1) (out ++ [(s.drop f).take (i - f)]) (by omega) (Nat.le_refl _) (by rw [List.length_append, List.length_singleton]; omega) (by rw [Nat.sub_self, List.take_zero]; simp)
   rw [List.append_assoc] at ih
   refine Ev.step (fun k => ?_) ih
   have ex : (mk s).extract f i = mk ((s.drop f).take (i - f)) := mk_extract s f i
   have hq : bt (mk s) (i : Int) = (c.toNat : Int) := by rw [hb, q]
   simp only [culetref44_Parts.l0, mk_size]
   rw [if_pos (by omega), if_neg (by omega), if_pos (by omega), if_pos (by omega), if_pos hq, if_pos (by omega), if_pos (by omega), if_pos hm, wrap_nat (by omega), Int.toNat_natCast, Int.toNat_natCast, ex, List.map_append]; rfl
  ·
   have ih := parts_l s hs c d f (i + 1) out (by omega) (by omega) ho (mem_take_step hf hi hc q)
   refine Ev.step (fun k => ?_) ih
   have hq : ¬ bt (mk s) (i : Int) = (c.toNat : Int) := by
    rw [hb]
    intro e
    exact q (UInt8.toNat_inj.1 (by omega))
   simp only [culetref44_Parts.l0, mk_size]
   rw [if_pos (by omega), if_neg (by omega), if_pos (by omega), if_pos (by omega), if_neg hq, wrap_nat (by omega)]
theorem Parts_ev (s : Bs) (hs : s.length ≤ 100000) (c : UInt8) : Ev (fun k => culetref44_Parts.f k (mk s) (c.toNat : Int)) ((partsB c s).map mk) := by
 have := parts_l s hs c s.length 0 0 [] (by omega) (Nat.le_refl _) (Nat.zero_le _) (by simp)
 exact this

def numEnd (s : Bs) : Bool := decide (1 ≤ s.length) && (decide (s.length ≤ 9) && headB s)
theorem numEnd_ev (s : Bs) (hs : s.length ≤ 100000) (n : Int) : (if ((mk s).size : Int) ≥ 1 then (if ((mk s).size : Int) ≤ 9 then (if 0 < ((mk s).size : Int) then (if (bt (mk s) 0) = 48 then (some (n, (((mk s).size : Int) == 1))) else (some (n, true))) else (none)) else (some (n, false))) else (some (n, false))) = some (n, numEnd s) := by
 unfold numEnd
 rw [mk_size]
 cases s with
 | nil => rfl
 | cons c t =>
  rw [bt_head]
  have h1 : 1 ≤ (c :: t).length := by rw [List.length_cons]; omega
  rw [if_pos (by omega), decide_eq_true h1, Bool.true_and]
  by_cases h9 : (c :: t).length ≤ 9
  ·
   rw [if_pos (by omega), if_pos (by omega), decide_eq_true h9, Bool.true_and]
   show _ = some (n, decide (c.toNat ≠ 48) || t.isEmpty)
   by_cases h48 : c.toNat = 48
   ·
    rw [if_pos (by omega), decide_eq_false (by omega), Bool.false_or, List.length_cons]
    cases t with
    | nil => rfl
    | cons x u =>
     rw [show ((((x :: u).length + 1 : Nat) : Int) == 1) = false from beq_eq_false_iff_ne.2 (by rw [List.length_cons]; omega)]; rfl
   ·
    rw [if_neg (by omega), decide_eq_true h48, Bool.true_or]
  ·
   rw [if_neg (by omega), decide_eq_false h9, Bool.false_and]
theorem number_l (s : Bs) (hs : s.length ≤ 100000) : ∀ (d i : Nat), i + d = s.length → (s.take i).all isD = true → Ev (fun k => culetref44_Number.l0 k (mk s) ((val 0 (s.take (min i 9)) : Nat) : Int) (i : Int)) (if (s.drop i).all isD = true then (((val 0 (s.take 9) : Nat) : Int), numEnd s) else (0, false))
 | 0, i, h, ha => by
  obtain rfl : i = s.length := by omega
  rw [List.drop_length]
  have e : s.take (min s.length 9) = s.take 9 := by
   rcases Nat.le_total s.length 9 with q | q
   ·
    rw [Nat.min_eq_left q, List.take_of_length_le (Nat.le_refl _), List.take_of_length_le q]
   ·
    rw [Nat.min_eq_right q]
  refine Ev.step (f := fun _ => some (((val 0 (s.take 9) : Nat) : Int), numEnd s)) (fun k => ?_) (Ev.now _)
  simp only [culetref44_Number.l0]
  rw [if_neg (by rw [mk_size]; omega), e, numEnd_ev s hs]
 | d + 1, i, h, ha => by
  have hi : i < s.length := by omega
  have hb : bt (mk s) (i : Int) = ((s[i]'hi).toNat : Int) := bt_mk s i hi
  rw [List.drop_eq_getElem_cons hi, List.all_cons]
  cases hd : isD s[i] with
  | false =>
   rw [Bool.false_and]
   have st : ∀ k, culetref44_Number.l0 (k + 1) (mk s) ((val 0 (s.take (min i 9)) : Nat) : Int) (i : Int) = culetref44_Number.j1 k (mk s) ((val 0 (s.take (min i 9)) : Nat) : Int) (i : Int) true := by
    intro k
    unfold isD at hd
    have hd := of_decide_eq_false hd
    simp only [culetref44_Number.l0]
    rw [if_pos (by rw [mk_size]; omega), if_pos (by omega), hb]
    by_cases q : (s[i]'hi).toNat < 48
    ·
     rw [if_pos (by omega)]
    ·
     rw [if_neg (by omega), decide_eq_true (by omega)]
   exact Ev.step st (Ev.step (f := fun _ => some (0, false)) (fun k => by simp only [culetref44_Number.j1, if_true]) (by simp only [Bool.false_eq_true, if_false]; exact Ev.now _))
  | true =>
   rw [Bool.true_and]
   have hd' := hd
   unfold isD at hd'
   have hd' := of_decide_eq_true hd'
   have ha' : (s.take (i + 1)).all isD = true := by
    rw [List.take_succ_eq_append_getElem hi, List.all_append, ha, List.all_cons, hd]; rfl
   have st : ∀ k, culetref44_Number.l0 (k + 1) (mk s) ((val 0 (s.take (min i 9)) : Nat) : Int) (i : Int) = culetref44_Number.j1 k (mk s) ((val 0 (s.take (min i 9)) : Nat) : Int) (i : Int) false := by
    intro k
    simp only [culetref44_Number.l0]
    rw [if_pos (by rw [mk_size]; omega), if_pos (by omega), hb, if_neg (by omega), decide_eq_false (by omega)]
   refine Ev.step st (Ev.step (fun k => ?_) (number_l s hs d (i + 1) (by omega) ha'))
   simp only [culetref44_Number.j1]
   rw [if_neg (by simp)]
   by_cases h9 : i < 9
   ·
    have hv : val 0 (s.take i) < 1000000000 := by
     have a1 := val_lt (s.take i) 0 ha
     have a2 : (0 + 1) * 10 ^ (s.take i).length ≤ 1 * 10 ^ 9 := by
      rw [Nat.zero_add]
      exact Nat.mul_le_mul_left _ (Nat.pow_le_pow_right (by decide) (by rw [List.length_take]; omega))
     have a3 : (1 * 10 ^ 9 : Nat) = 1000000000 := by decide
     omega
    have e1 : min i 9 = i := by omega
    have e2 : min (i + 1) 9 = i + 1 := by omega
    rw [e1, e2, if_pos (by omega), if_pos (by omega), if_pos (by rw [mk_size]; omega), hb, wrap_nat (by omega)]
    have e3 : val 0 (s.take (i + 1)) = 10 * val 0 (s.take i) + dv s[i] := by
     rw [List.take_succ_eq_append_getElem hi, val_append]; rfl
    have hdv : dv s[i] = (s[i]'hi).toNat - 48 := rfl
    have w1 : wrap64 (10 * ((val 0 (s.take i) : Nat) : Int)) = 10 * ((val 0 (s.take i) : Nat) : Int) := wrap_id (by omega) (by omega)
    rw [w1, e3]
    have w2 : wrap64 (10 * ((val 0 (s.take i) : Nat) : Int) + (((s[i]'hi).toNat : Int) - 48) % 256) = ((10 * val 0 (s.take i) + dv s[i] : Nat) : Int) := by
     have : (((s[i]'hi).toNat : Int) - 48) % 256 = ((dv s[i] : Nat) : Int) := by omega
     rw [this, wrap_id (by omega) (by omega)]; omega
    rw [w2]
   ·
    have e1 : min i 9 = 9 := by omega
    have e2 : min (i + 1) 9 = 9 := by omega
    rw [e1, e2, if_neg (by omega), wrap_nat (by omega)]
/-- A number from 0 on in its decimal notation, of at most 9 digits. -/
def canon (s : Bs) : Bool := s.all isD && numEnd s
theorem Number_ev (s : Bs) (hs : s.length ≤ 100000) : ∃ r, Ev (fun k => culetref44_Number.f k (mk s)) r ∧ r.2 = canon s ∧ (canon s = true → r.1 = ((val 0 s : Nat) : Int)) := by
 have h := number_l s hs s.length 0 (by omega) rfl
 refine ⟨_, h, ?_, fun hc => ?_⟩
 ·
  unfold canon
  rw [List.drop_zero]
  cases s.all isD <;> simp
 ·
  unfold canon at hc
  rw [Bool.and_eq_true] at hc
  rw [List.drop_zero, if_pos hc.1]
  have h9 := hc.2
  unfold numEnd at h9
  rw [Bool.and_eq_true, Bool.and_eq_true, decide_eq_true_iff, decide_eq_true_iff] at h9
  rw [List.take_of_length_le h9.2.1]
theorem canon_itoa {s : Bs} (h : canon s = true) : s = Lib.itoa ((val 0 s : Nat) : Int) := by
 unfold canon numEnd at h
 rw [Bool.and_eq_true, Bool.and_eq_true, Bool.and_eq_true, decide_eq_true_iff, decide_eq_true_iff] at h
 rw [itoa_nat, digits_of_val (s.length - 1) s (by omega) h.1 h.2.2.2]
theorem itoa_canon {n : Int} (h0 : 0 ≤ n) (h1 : n ≤ 1000000) : canon (Lib.itoa n) = true ∧ ((val 0 (Lib.itoa n) : Nat) : Int) = n := by
 obtain ⟨u, rfl⟩ : ∃ u : Nat, n = (u : Int) := ⟨n.toNat, by omega⟩
 have hl := digits_len 6 u (by omega)
 rw [itoa_nat, digits_val]
 refine ⟨?_, rfl⟩
 unfold canon numEnd
 rw [digits_all, digits_headB, Bool.true_and, Bool.and_true, decide_eq_true (by omega : (Lib.decDigits u).length ≤ 9), Bool.and_true]
 refine decide_eq_true ?_
 cases hq : Lib.decDigits u with
 | nil => have := digits_headB u; rw [hq] at this; exact absurd this (by decide)
 | cons _ _ => rw [List.length_cons]; omega
end Go.Proofs.YtejgenhmhahgeaaDoor.Plain
end
section
namespace Go.Proofs.YtejgenhmhahgeaaDoor.Plain
set_option linter.unusedVariables false
set_option linter.unusedSimpArgs false
open Go Go.RowKit Go.Proofs.YtejgenhmhahgeaaDoor.T Go.Proofs.YtejgenhmhahgeaaDoorW.PrintWords Go.Proofs.YtejgenhmhahgeaaDoorW.PrintLast Go.Proofs.YtejgenhmhahgeaaDoorW.PrintMore

theorem parts_len (c : UInt8) : ∀ (s z : Bs), z ∈ partsB c s → z.length ≤ s.length
 | [], z, h => by unfold partsB at h; rw [List.mem_singleton.1 h]; exact Nat.le_refl _
 | x :: t, z, h => by
  have ih := parts_len c t
  unfold partsB at h
  split at h
  ·
   rcases List.mem_cons.1 h with rfl | h
   ·
    exact Nat.zero_le _
   ·
    have := ih z h; rw [List.length_cons]; omega
  ·
   cases hq : partsB c t with
   | nil => exact absurd hq (parts_ne c t)
   | cons a r =>
    rw [hq] at h ih
    rcases List.mem_cons.1 h with rfl | h
    ·
     have := ih a List.mem_cons_self; rw [List.length_cons, List.length_cons]; omega
    ·
     have := ih z (List.mem_cons_of_mem _ h); rw [List.length_cons]; omega
theorem parts_count (c : UInt8) : ∀ (s : Bs), (partsB c s).length ≤ s.length + 1
 | [] => by unfold partsB; exact Nat.le_refl _
 | x :: t => by
  have ih := parts_count c t
  unfold partsB
  split
  ·
   rw [List.length_cons, List.length_cons]; omega
  ·
   cases hq : partsB c t with
   | nil => exact absurd hq (parts_ne c t)
   | cons a r => rw [hq, List.length_cons] at ih; rw [List.length_cons, List.length_cons]; omega
def clsR (p : Bs) : Option S42 := match p with
 | [] => none
 | x :: q => if x = 32 then (match partsB 64 q with
  | [a, b] => if canon a = true ∧ canon b = true then some ⟨((val 0 a : Nat) : Int), ((val 0 b : Nat) : Int)⟩ else none
  | _ => none) else none
def ERR : ByteArray × List S42 × Int := ((⟨#[]⟩ : ByteArray), [], 4)
def resR (name : Bs) (out : List S42) : List Bs → ByteArray × List S42 × Int
 | [] => if vB (mk name) (own out) = true then (mk name, out, 0) else ERR
 | p :: r => match clsR p with
  | some c => resR name (out ++ [c]) r
  | none => ERR
theorem rdOf_mk (l : List Bs) (i : Nat) (hi : i < l.length) : rdOf ByteArray.empty (l.map mk) (i : Int) = mk l[i] := by
 unfold rdOf
 rw [Int.toNat_natCast, List.getD_eq_getElem?_getD, List.getElem?_map, List.getElem?_eq_getElem hi]; rfl
theorem rparse_l (name : Bs) (hn : name.length ≤ 1000) (ps : List Bs) (hx : ∀ x ∈ ps, x.length ≤ 1000) (hl : ps.length ≤ 1000) : ∀ (d i : Nat) (out : List S42), i + d = ps.length → out.length = i → Ev (fun k => culetref44_Parse.l0 k (ps.map mk) (i : Int) (mk name) out) (resR name out (ps.drop i))
 | 0, i, out, h, ho => by
  obtain rfl : i = ps.length := by omega
  rw [List.drop_length]
  have hlen : (ps.map mk).length = ps.length := List.length_map _
  refine Ev.step (f := fun k => (culetref44_Valid.f k (mk name) out).bind fun t410 => (if t410 = true then (some (mk name, out, 0)) else (some ((⟨#[]⟩ : ByteArray), ([] : List (S42)), 4)))) (fun k => ?_) ?_
  ·
   simp only [culetref44_Parse.l0]; rw [if_neg (by omega)]
  ·
   refine Ev.bind (rvalid_ev (mk name) (by rw [mk_size]; exact hn) out (by omega)) ?_
   unfold resR ERR
   cases vB (mk name) (own out) with
   | false => simp only [Bool.false_eq_true, if_false]; exact Ev.now _
   | true => simp only [if_true]; exact Ev.now _
 | d + 1, i, out, h, ho => by
  have hi : i < ps.length := by omega
  have hlen : (ps.map mk).length = ps.length := List.length_map _
  have hxi := hx ps[i] (List.getElem_mem hi)
  have er := rdOf_mk ps i hi
  rw [List.drop_eq_getElem_cons hi]
  have bad : ∀ k, culetref44_Parse.j1 (k + 1) (ps.map mk) (i : Int) true (mk name) out = some ERR := fun k => by simp only [culetref44_Parse.j1, if_true]; rfl
  unfold resR
  cases hp : ps[i] with
  | nil =>
   have st : ∀ k, culetref44_Parse.l0 (k + 1) (ps.map mk) (i : Int) (mk name) out = culetref44_Parse.j1 k (ps.map mk) (i : Int) true (mk name) out := by
    intro k
    simp only [culetref44_Parse.l0]
    rw [if_pos (by omega), if_pos (by omega), er, hp, if_pos (by rfl)]
   exact Ev.step st (Ev.step (f := fun _ => some ERR) bad (Ev.now _))
  | cons x q =>
   have st : ∀ k, culetref44_Parse.l0 (k + 1) (ps.map mk) (i : Int) (mk name) out = culetref44_Parse.j1 k (ps.map mk) (i : Int) ((x.toNat : Int) != 32) (mk name) out := by
    intro k
    simp only [culetref44_Parse.l0]
    rw [if_pos (by omega), if_pos (by omega), er, hp, mk_size, bt_head, if_neg (by rw [List.length_cons]; omega), if_pos (by rw [List.length_cons]; omega)]
   refine Ev.step st ?_
   unfold clsR
   by_cases h32 : x = 32
   ·
    have e32 : ((x.toNat : Int) != 32) = false := by rw [h32]; rfl
    rw [e32]
    simp only [h32, if_true]
    have hq : q.length ≤ 1000 := by rw [hp, List.length_cons] at hxi; omega
    have ext : (mk (x :: q)).extract 1 (mk (x :: q)).size = mk q := mk_from (x :: q) 1
    have st2 : ∀ k, culetref44_Parse.j1 (k + 1) (ps.map mk) (i : Int) false (mk name) out = ((culetref44_Parts.f k (mk q) 64).bind fun t414 => (if (t414.length : Int) = 2 then (if 0 < (t414.length : Int) then ((culetref44_Number.f k (rdOf ByteArray.empty t414 0)).bind fun bt418 => (if 1 < (t414.length : Int) then ((culetref44_Number.f k (rdOf ByteArray.empty t414 1)).bind fun bt421 => (if bt418.2 = true then (if bt421.2 = true then (if out.length < 8796093022208 then (culetref44_Parse.l0 k (ps.map mk) ((i + 1 : Nat) : Int) (mk name) (out ++ [(⟨bt418.1, bt421.1⟩ : S42)])) else (none)) else (some ((⟨#[]⟩ : ByteArray), ([] : List (S42)), 4))) else (some ((⟨#[]⟩ : ByteArray), ([] : List (S42)), 4)))) else (none))) else (none)) else (some ((⟨#[]⟩ : ByteArray), ([] : List (S42)), 4)))) := by
     intro k
     simp only [culetref44_Parse.j1]
     rw [if_neg (by simp), if_pos (by omega), if_pos (by omega), er, hp, ext, if_pos (by rw [mk_size, List.length_cons]; omega), wrap_nat (by omega)]
    refine Ev.step st2 (Ev.bind (Parts_ev q (by omega) 64) ?_)
    have hlm : ∀ l : List Bs, ((l.map mk).length : Int) = (l.length : Int) := fun l => by rw [List.length_map]
    have hmem : ∀ z ∈ partsB 64 q, z.length ≤ 1000 := by
     intro z hz
     have := parts_len 64 q z hz
     omega
    cases hpq : partsB 64 q with
    | nil => exact absurd hpq (parts_ne 64 q)
    | cons a r =>
     cases r with
     | nil =>
      have hne : ¬ (((0 + 1 : Nat) : Int) = 2) := by decide
      simp only [hlm, List.length_cons, List.length_nil, hne, if_false]; exact Ev.now _
     | cons b r =>
      cases r with
      | cons z u =>
       have hne : ¬ (((u.length + 1 + 1 + 1 : Nat) : Int) = 2) := by omega
       simp only [hlm, List.length_cons, hne, if_false]; exact Ev.now _
      | nil =>
       obtain ⟨ra, ea, ca, va⟩ := Number_ev a (by have := hmem a (by rw [hpq]; simp); omega)
       obtain ⟨rb, eb, cb, vb⟩ := Number_ev b (by have := hmem b (by rw [hpq]; simp); omega)
       have l2 : (([a, b] : List Bs).map mk).length = 2 := rfl
       have x0 : rdOf ByteArray.empty (([a, b] : List Bs).map mk) 0 = mk a := rfl
       have x1 : rdOf ByteArray.empty (([a, b] : List Bs).map mk) 1 = mk b := rfl
       simp only [l2, x0, x1]
       simp only [show (((2 : Nat) : Int) = 2) = True from eq_true rfl, show ((0 : Int) < ((2 : Nat) : Int)) = True from eq_true (by decide), show ((1 : Int) < ((2 : Nat) : Int)) = True from eq_true (by decide), if_true]
       refine Ev.bind ea (Ev.bind eb ?_)
       rw [ca, cb]
       cases hca : canon a with
       | false => simp only [Bool.false_eq_true, if_false, false_and]; exact Ev.now _
       | true =>
        cases hcb : canon b with
        | false => simp only [Bool.false_eq_true, if_false, if_true, and_false]; exact Ev.now _
        | true =>
         have hm : out.length < 8796093022208 := by omega
         simp only [if_true, and_self, hm]
         rw [va hca, vb hcb]
         exact rparse_l name hn ps hx hl d (i + 1) _ (by omega) (by rw [List.length_append, List.length_singleton]; omega)
   ·
    have e32 : ((x.toNat : Int) != 32) = true := bne_iff_ne.2 (fun e => h32 (UInt8.toNat_inj.1 (by have : (32 : UInt8).toNat = 32 := rfl; omega)))
    rw [e32]
    simp only [h32, if_false]
    exact Ev.step (f := fun _ => some ERR) bad (Ev.now _)
def rparseR (s : Bs) : ByteArray × List S42 × Int := if s.length > 400 then ERR else (match partsB 58 s with
 | [a, b] => resR a [] (partsB 44 b)
 | _ => ERR)
theorem rParse_ev (s : Bs) (hs : s.length ≤ 100000) : Ev (fun k => culetref44_Parse.f k (mk s)) (rparseR s) := by
 unfold culetref44_Parse.f rparseR
 rw [mk_size]
 by_cases h4 : s.length > 400
 ·
  have h4' : (s.length : Int) > 400 := by omega
  simp only [h4, h4', if_true]; exact Ev.now _
 ·
  have h4' : ¬ (s.length : Int) > 400 := by omega
  simp only [h4, h4', if_false]
  refine Ev.bind (Parts_ev s hs 58) ?_
  have hlm : ∀ l : List Bs, ((l.map mk).length : Int) = (l.length : Int) := fun l => by rw [List.length_map]
  cases hp : partsB 58 s with
  | nil => exact absurd hp (parts_ne 58 s)
  | cons a r =>
   cases r with
   | nil =>
    have hne : ¬ (((0 + 1 : Nat) : Int) = 2) := by decide
    simp only [hlm, List.length_cons, List.length_nil, hne, if_false]; exact Ev.now _
   | cons b r =>
    cases r with
    | cons z u =>
     have hne : ¬ (((u.length + 1 + 1 + 1 : Nat) : Int) = 2) := by omega
     simp only [hlm, List.length_cons, hne, if_false]; exact Ev.now _
    | nil =>
     have l2 : (([a, b] : List Bs).map mk).length = 2 := rfl
     have x0 : rdOf ByteArray.empty (([a, b] : List Bs).map mk) 0 = mk a := rfl
     have x1 : rdOf ByteArray.empty (([a, b] : List Bs).map mk) 1 = mk b := rfl
     simp only [l2, x0, x1]
     simp only [show (((2 : Nat) : Int) = 2) = True from eq_true rfl, show ((0 : Int) < ((2 : Nat) : Int)) = True from eq_true (by decide), show ((1 : Int) < ((2 : Nat) : Int)) = True from eq_true (by decide), if_true]
     have la := parts_len 58 s a (by rw [hp]; simp)
     have lb := parts_len 58 s b (by rw [hp]; simp)
     refine Ev.bind (Parts_ev b (by omega) 44) ?_
     have := rparse_l a (by omega) (partsB 44 b) (fun x hx => by have := parts_len 44 b x hx; omega) (by have := parts_count 44 b; omega) (partsB 44 b).length 0 [] (by omega) rfl
     exact this
def back (l : List S63) : List S42 := l.map (fun c => ⟨c.f0, c.f1⟩)
theorem own_back (l : List S63) : own (back l) = l := by
 unfold own back
 rw [List.map_map]
 conv => rhs; rw [← List.map_id l]
 exact List.map_congr_left (fun x _ => rfl)
theorem back_own (l : List S42) : back (own l) = l := by
 unfold own back
 rw [List.map_map]
 conv => rhs; rw [← List.map_id l]
 exact List.map_congr_left (fun x _ => rfl)
theorem theirs_l (s : ByteArray) (l : List S63) (hl : l.length ≤ 100000) : ∀ (d i : Nat), i + d = l.length → Ev (fun k => culetlaw44_theirs.l0 k l (l.length : Int) (i : Int) s (back (l.take i))) (s, back l)
 | 0, i, h => by
  obtain rfl : i = l.length := by omega
  refine Ev.step (f := fun _ => some (s, back l)) (fun k => ?_) (Ev.now _)
  simp only [culetlaw44_theirs.l0]; rw [if_neg (by omega), List.take_length]
 | d + 1, i, h => by
  have hi : i < l.length := by omega
  refine Ev.step (f := fun k => culetlaw44_theirs.l0 k l (l.length : Int) ((i + 1 : Nat) : Int) s (back (l.take (i + 1)))) (fun k => ?_) (theirs_l s l hl d (i + 1) (by omega))
  have e : back (l.take (i + 1)) = back (l.take i) ++ [⟨l[i].f0, l[i].f1⟩] := by unfold back; rw [List.take_succ_eq_append_getElem hi, List.map_append]; rfl
  have hn : (back (l.take i)).length < 8796093022208 := by unfold back; rw [List.length_map, List.length_take]; omega
  simp only [culetlaw44_theirs.l0]
  rw [if_pos (by omega), if_pos (by omega), if_pos (by omega), if_pos hn, wrap_nat (by omega), rd63 hi, e]
theorem theirs_ev (s : ByteArray) (l : List S63) (hl : l.length ≤ 100000) : Ev (fun k => culetlaw44_theirs.f k s l) (s, back l) := theirs_l s l hl l.length 0 (by omega)

theorem digit_not {c : UInt8} (h : isD c = true) : c ≠ 58 ∧ c ≠ 44 ∧ c ≠ 64 := by
 have := of_decide_eq_true (show decide (48 ≤ c.toNat ∧ c.toNat ≤ 57) = true from h)
 refine ⟨?_, ?_, ?_⟩ <;> (intro e; rw [e] at this; exact absurd this (by decide))
theorem itoa_not {n : Int} (h0 : 0 ≤ n) : (58 : UInt8) ∉ Lib.itoa n ∧ (44 : UInt8) ∉ Lib.itoa n ∧ (64 : UInt8) ∉ Lib.itoa n := by
 obtain ⟨u, rfl⟩ : ∃ u : Nat, n = (u : Int) := ⟨n.toNat, by omega⟩
 rw [itoa_nat]
 have ha := digits_all u
 rw [List.all_eq_true] at ha
 exact ⟨fun h => (digit_not (ha _ h)).1 rfl, fun h => (digit_not (ha _ h)).2.1 rfl, fun h => (digit_not (ha _ h)).2.2 rfl⟩
theorem part_not {x : S63} (h0 : 0 ≤ x.f0) (h1 : 0 ≤ x.f1) : (58 : UInt8) ∉ partB x ∧ (44 : UInt8) ∉ partB x := by
 obtain ⟨a1, a2, _⟩ := itoa_not h0
 obtain ⟨b1, b2, _⟩ := itoa_not h1
 unfold partB
 simp only [List.mem_append, List.mem_singleton, not_or]
 exact ⟨⟨⟨⟨by decide, a1⟩, by decide⟩, b1⟩, ⟨⟨⟨by decide, a2⟩, by decide⟩, b2⟩⟩
theorem runB_all (p : UInt8 → Bool) : ∀ (t : Bs), runB p t = t.length → t.all p = true := fun t h => (runB_eq_length p t).1 h
theorem name_not {l : Bs} (h : nameB l = true) : (58 : UInt8) ∉ l := by
 unfold nameB at h
 rw [Bool.and_eq_true, Bool.and_eq_true] at h
 have hw := h.1.1
 cases l with
 | nil => simp
 | cons c t =>
  rw [wordB_eq, Bool.and_eq_true, decide_eq_true_iff, List.length_cons] at hw
  have ha := runB_all isW t (by omega)
  rw [List.all_eq_true] at ha
  rw [List.mem_cons, not_or]
  refine ⟨fun e => ?_, fun e => ?_⟩
  ·
   have := hw.1; rw [← e] at this; exact absurd this (by decide)
  ·
   exact absurd (ha _ e) (by decide)
theorem join_not {c : UInt8} : ∀ (l : List Bs), (∀ x ∈ l, c ∉ x) → c ≠ 44 → c ∉ Lib.join l [44]
 | [], _, _ => by rw [Lib.join_nil]; simp
 | x :: r, hx, hc => by
  rw [Lib.join_cons, List.mem_append, not_or]
  refine ⟨hx x List.mem_cons_self, ?_⟩
  unfold Lib.joinTail
  intro h
  obtain ⟨z, hz, hcz⟩ := List.mem_flatten.1 h
  obtain ⟨y, hy, rfl⟩ := List.mem_map.1 hz
  rcases List.mem_append.1 hcz with q | q
  ·
   exact hc (List.mem_singleton.1 q)
  ·
   exact hx y (List.mem_cons_of_mem _ hy) q
theorem V.all {s : ByteArray} {l : List S63} (v : V s l) {x : S63} (hx : x ∈ l) : 0 ≤ x.f0 ∧ x.f0 ≤ 1000000 ∧ 0 ≤ x.f1 ∧ x.f1 ≤ 1000000 := by
 obtain ⟨i, hi, rfl⟩ := List.getElem_of_mem hx
 have a := v.nn hi
 have b := v.hi i hi
 have c := v.p0 i hi
 have d := v.p1 i hi
 unfold F at a b
 unfold P at c d
 rw [rd63 hi] at a b c d
 exact ⟨a, b, c, d⟩
theorem parseC_part {x : S63} (h0 : 0 ≤ x.f0) (h1 : x.f0 ≤ 1000000) (h2 : 0 ≤ x.f1) (h3 : x.f1 ≤ 1000000) : parseC (partB x) = x := by
 obtain ⟨u, hu⟩ : ∃ u : Nat, x.f0 = (u : Int) := ⟨x.f0.toNat, by omega⟩
 obtain ⟨w, hw⟩ : ∃ w : Nat, x.f1 = (w : Int) := ⟨x.f1.toNat, by omega⟩
 have tr : Lib.trimPrefix (partB x) [32] = Lib.itoa x.f0 ++ 64 :: Lib.itoa x.f1 := by
  unfold Lib.trimPrefix partB
  have hp : Lib.hasPrefix ([32] ++ Lib.itoa x.f0 ++ [64] ++ Lib.itoa x.f1) [32] = true := by
   simp [Lib.hasPrefix]
  rw [if_pos hp]
  simp
 have cu := cut_hit (Lib.itoa x.f1) (itoa_not h0).2.2
 unfold parseC
 rw [tr, cu]
 dsimp only
 rw [hu, hw, itoa_nat, itoa_nat, atoi_digits u (by omega), atoi_digits w (by omega), ← hu, ← hw]
theorem map_parseC {s : ByteArray} {l : List S63} (v : V s l) : (l.map partB).map parseC = l := by
 rw [List.map_map]
 conv => rhs; rw [← List.map_id l]
 refine List.map_congr_left (fun x hx => ?_)
 obtain ⟨a, b, c, d⟩ := v.all hx
 exact parseC_part a b c d
theorem commas_parts (s : Bs) : commas s = partsB 44 s := by
 unfold commas
 refine split_parts 44 s.length _ s (Nat.le_refl _) ?_
 show s.count 44 ≤ Lib.count (mk s).data.toList (mk [44]).data.toList
 rw [mk_data, mk_data, Lib.count_one]
 exact Nat.le_refl _
theorem parts_ps {s : ByteArray} {l : List S63} (v : V s l) : partsB 44 (Lib.join (l.map partB) [44]) = l.map partB := by
 refine parts_join 44 _ (fun e => ?_) (fun x hx => ?_)
 ·
  have := v.len1
  have := congrArg List.length e
  rw [List.length_map, List.length_nil] at this
  omega
 ·
  obtain ⟨y, hy, rfl⟩ := List.mem_map.1 hx
  obtain ⟨a, _, c, _⟩ := v.all hy
  exact (part_not a c).2
theorem print_split {s : Bs} {l : List S63} (v : V (mk s) l) : printB (mk s) l = s ++ 58 :: Lib.join (l.map partB) [44] ∧ (58 : UInt8) ∉ s ∧ (58 : UInt8) ∉ Lib.join (l.map partB) [44] := by
 refine ⟨?_, ?_, ?_⟩
 ·
  unfold printB; rw [mk_data, List.append_assoc]; rfl
 ·
  have := v.name; rw [mk_data] at this; exact name_not this
 ·
  refine join_not _ (fun x hx => ?_) (by decide)
  obtain ⟨y, hy, rfl⟩ := List.mem_map.1 hx
  obtain ⟨a, _, c, _⟩ := v.all hy
  exact (part_not a c).1
theorem parse_print {s : Bs} {l : List S63} (hv : vB (mk s) l = true) (h4 : (printB (mk s) l).length ≤ 400) : parseR (printB (mk s) l) = (mk s, l, 0) := by
 have v := V_of hv
 obtain ⟨e, n1, n2⟩ := print_split v
 have cu := cut_hit (Lib.join (l.map partB) [44]) n1
 rw [← e] at cu
 unfold parseR
 rw [cu]
 dsimp only
 rw [if_pos ⟨rfl, h4⟩, commas_parts, parts_ps v, map_parseC v]
 unfold fin
 rw [if_pos ⟨hv, rfl⟩]
theorem resR_map {name : Bs} : ∀ (l : List S42) (out : List S42), (∀ x ∈ l, 0 ≤ x.f0 ∧ x.f0 ≤ 1000000 ∧ 0 ≤ x.f1 ∧ x.f1 ≤ 1000000) → resR name out ((own l).map partB) = resR name (out ++ l) []
 | [], out, _ => by rw [List.append_nil]; rfl
 | x :: r, out, h => by
  obtain ⟨a, b, c, d⟩ := h x List.mem_cons_self
  have hc : clsR (partB ⟨x.f0, x.f1⟩) = some x := by
   have hp : partB ⟨x.f0, x.f1⟩ = 32 :: (Lib.itoa x.f0 ++ 64 :: Lib.itoa x.f1) := by
    unfold partB; simp
   have hq : partsB 64 (Lib.itoa x.f0 ++ 64 :: Lib.itoa x.f1) = [Lib.itoa x.f0, Lib.itoa x.f1] := by
    rw [parts_hit _ (itoa_not a).2.2, parts_none (itoa_not c).2.2]
   rw [hp]
   unfold clsR
   dsimp only
   rw [if_pos rfl, hq]
   dsimp only
   rw [if_pos ⟨(itoa_canon a b).1, (itoa_canon c d).1⟩, (itoa_canon a b).2, (itoa_canon c d).2]
  show resR name out (partB ⟨x.f0, x.f1⟩ :: (own r).map partB) = _
  conv => lhs; unfold resR
  rw [hc]
  dsimp only
  rw [resR_map r (out ++ [x]) (fun y hy => h y (List.mem_cons_of_mem _ hy)), List.append_assoc]; rfl
theorem rparse_print {s : Bs} {l : List S42} (hv : vB (mk s) (own l) = true) (h4 : (printB (mk s) (own l)).length ≤ 400) : rparseR (printB (mk s) (own l)) = (mk s, l, 0) := by
 have v := V_of hv
 obtain ⟨e, n1, n2⟩ := print_split v
 unfold rparseR
 rw [if_neg (by omega), e, parts_hit _ n1, parts_none n2]
 dsimp only
 rw [parts_ps v, resR_map l [] (fun x hx => ?_), List.nil_append]
 ·
  unfold resR
  rw [if_pos hv]
 ·
  have := v.all (x := ⟨x.f0, x.f1⟩) (List.mem_map.2 ⟨x, hx, rfl⟩)
  exact this
theorem clsR_part {p : Bs} {c : S42} (h : clsR p = some c) : p = partB ⟨c.f0, c.f1⟩ := by
 cases p with
 | nil => cases h
 | cons x q =>
  unfold clsR at h
  dsimp only at h
  split at h
  ·
   next e =>
   cases hp : partsB 64 q with
   | nil => exact absurd hp (parts_ne 64 q)
   | cons a r =>
    rw [hp] at h
    cases r with
    | nil => cases h
    | cons b r =>
     cases r with
     | cons z u => cases h
     | nil =>
      dsimp only at h
      split at h
      ·
       next hc =>
       obtain rfl := Option.some.inj h
       have hj := join_parts 64 q
       rw [hp, Lib.join_cons] at hj
       unfold Lib.joinTail at hj
       rw [List.map_cons, List.map_nil, List.flatten_cons, List.flatten_nil, List.append_nil] at hj
       unfold partB
       dsimp only
       rw [← canon_itoa hc.1, ← canon_itoa hc.2, ← hj, e]
       simp
      ·
       cases h
  ·
   cases h
theorem resR_ok {name : Bs} : ∀ (ps : List Bs) (out : List S42), resR name out ps = ERR ∨ ∃ l, ps = (own l).map partB ∧ resR name out ps = (mk name, out ++ l, 0) ∧ vB (mk name) (own (out ++ l)) = true
 | [], out => by
  unfold resR
  split
  ·
   next h => exact .inr ⟨[], rfl, by rw [List.append_nil], by rw [List.append_nil]; exact h⟩
  ·
   exact .inl rfl
 | p :: r, out => by
  unfold resR
  cases hc : clsR p with
  | none => exact .inl rfl
  | some c =>
   dsimp only
   rcases resR_ok r (out ++ [c]) with h | ⟨l, h1, h2, h3⟩
   ·
    exact .inl h
   ·
    refine .inr ⟨c :: l, ?_, ?_, ?_⟩
    ·
     rw [h1, clsR_part hc]; rfl
    ·
     rw [h2, List.append_assoc]; rfl
    ·
     rw [List.append_assoc] at h3; exact h3
theorem rparse_ok (s : Bs) : rparseR s = ERR ∨ ∃ name l, vB (mk name) (own l) = true ∧ printB (mk name) (own l) = s ∧ s.length ≤ 400 := by
 unfold rparseR
 split
 ·
  exact .inl rfl
 ·
  next h4 =>
  cases hp : partsB 58 s with
  | nil => exact .inl rfl
  | cons a r =>
   cases r with
   | nil => exact .inl rfl
   | cons b r =>
    cases r with
    | cons z u => exact .inl rfl
    | nil =>
     dsimp only
     rcases resR_ok (name := a) (partsB 44 b) [] with h | ⟨l, h1, h2, h3⟩
     ·
      exact .inl h
     ·
      refine .inr ⟨a, l, h3, ?_, by omega⟩
      have hj := join_parts 58 s
      rw [hp, Lib.join_cons] at hj
      unfold Lib.joinTail at hj
      rw [List.map_cons, List.map_nil, List.flatten_cons, List.flatten_nil, List.append_nil] at hj
      have hb := join_parts 44 b
      rw [h1] at hb
      unfold printB
      rw [mk_data, hb, ← hj, List.append_assoc]
theorem parse_ok (s : Bs) : parseR s = ((⟨#[]⟩ : ByteArray), [], 4) ∨ ∃ name l, vB (mk name) l = true ∧ printB (mk name) l = s ∧ s.length ≤ 400 := by
 unfold parseR
 split
 ·
  next h =>
  unfold fin
  split
  ·
   next h2 => exact .inr ⟨_, _, h2.1, h2.2, h.2⟩
  ·
   exact .inl rfl
 ·
  exact .inl rfl
theorem parse_same (s : Bs) : ∃ n l e, parseR s = (n, own l, e) ∧ rparseR s = (n, l, e) := by
 by_cases h : ∃ name l, vB (mk name) (own l) = true ∧ printB (mk name) (own l) = s ∧ s.length ≤ 400
 ·
  obtain ⟨name, l, h1, h2, h3⟩ := h
  rw [← h2] at h3
  refine ⟨mk name, l, 0, ?_, ?_⟩
  ·
   rw [← h2]; exact parse_print h1 h3
  ·
   rw [← h2]; exact rparse_print h1 h3
 ·
  refine ⟨(⟨#[]⟩ : ByteArray), [], 4, ?_, ?_⟩
  ·
   rcases parse_ok s with q | ⟨name, l, h1, h2, h3⟩
   ·
    exact q
   ·
    exact absurd ⟨name, back l, by rw [own_back]; exact h1, by rw [own_back]; exact h2, h3⟩ h
  ·
   rcases rparse_ok s with q | q
   ·
    exact q
   ·
    exact absurd q h
end Go.Proofs.YtejgenhmhahgeaaDoor.Plain
end
