-- Written by this session's own programs; what the law does not lean on is left out. Lean checks it.
import Derived.Test.YtejgenhmhahgeaaDoorFP
import Derived.Test.YtejgenhmhahgeaaDoorFTx45
import Derived.Test.YtejgenhmhahgeaaDoorFTx46
import Derived.Test.YtejgenhmhahgeaaDoorFTx47
import Derived.Test.YtejgenhmhahgeaaDoorFTx48
import Derived.Test.YtejgenhmhahgeaaDoorFTx49
import Derived.Test.YtejgenhmhahgeaaDoorFTx50
namespace Go.Proofs.YtejgenhmhahgeaaDoor.Plain
set_option linter.unusedVariables false
set_option linter.unusedSimpArgs false
open Go Go.RowKit Go.Proofs.YtejgenhmhahgeaaDoor.T Go.Proofs.YtejgenhmhahgeaaDoorW.PrintWords Go.Proofs.YtejgenhmhahgeaaDoorW.PrintLast Go.Proofs.YtejgenhmhahgeaaDoorW.PrintMore

theorem digits_eq (n : Nat) : Lib.decDigits n = if n < 10 then [UInt8.ofNat (48 + n)] else Lib.decDigits (n / 10) ++ [UInt8.ofNat (48 + n % 10)] := by
 rw [Lib.decDigits]
 split <;> rfl
theorem digit_str (n : Nat) (h : n ≤ 1000000) : strOfNums [(wrap64 (48 + (Int.tmod (n : Int) 10))) % 256] = mk [UInt8.ofNat (48 + n % 10)] := by
 have e : (wrap64 (48 + (Int.tmod (n : Int) 10))) % 256 = ((48 + n % 10 : Nat) : Int) := by
  rw [Int.tmod_eq_emod_of_nonneg (by omega), wrap_id (by omega) (by omega)]
  omega
 rw [e]; rfl
theorem ritoa_l (u : Nat) : u ≤ 1000000 → ∀ acc : Bs, acc.length + u ≤ 2000000 → Ev (fun k => culetref44_Itoa.l0 k (u : Int) (mk acc)) (mk ((if u = 0 then [] else Lib.decDigits u) ++ acc)) := by
 induction u using Nat.strongRecOn with
 | ind u ih =>
  intro hu acc ha
  by_cases h0 : u = 0
  ·
   subst h0
   refine Ev.step (f := fun _ => some (mk acc)) (fun k => ?_) (Ev.now _)
   simp only [culetref44_Itoa.l0]; rw [if_neg (by omega)]
  ·
   rw [if_neg h0]
   ·
    have h := ih (u / 10) (by omega) (by omega) (UInt8.ofNat (48 + u % 10) :: acc) (by rw [List.length_cons]; omega)
    have e : (if u / 10 = 0 then [] else Lib.decDigits (u / 10)) ++ UInt8.ofNat (48 + u % 10) :: acc = Lib.decDigits u ++ acc := by
     rw [digits_eq u]
     by_cases h1 : u < 10
     ·
      rw [if_pos (by omega), if_pos h1, Nat.mod_eq_of_lt h1]; rfl
     ·
      rw [if_neg (by omega), if_neg h1, List.append_assoc]; rfl
    rw [e] at h
    refine Ev.step (fun k => ?_) h
    simp only [culetref44_Itoa.l0]
    have c : (mk [UInt8.ofNat (48 + u % 10)]).size + (mk acc).size ≤ 9223372036854775807 := by rw [mk_size, mk_size, List.length_singleton]; omega
    rw [if_pos (by omega), Option.bind_some, digit_str u hu, if_pos c, mk_append, Int.tdiv_eq_ediv_of_nonneg (by omega), wrap_id (by omega) (by omega)]; rfl
theorem ritoa_ev {n : Int} (h0 : 0 ≤ n) (h1 : n ≤ 1000000) : Ev (fun k => culetref44_Itoa.f k n) (mk (Lib.itoa n)) := by
 obtain ⟨u, rfl⟩ : ∃ u : Nat, n = (u : Int) := ⟨n.toNat, by omega⟩
 have h := ritoa_l (u / 10) (by omega) [UInt8.ofNat (48 + u % 10)] (by rw [List.length_singleton]; omega)
 have e : (if u / 10 = 0 then [] else Lib.decDigits (u / 10)) ++ [UInt8.ofNat (48 + u % 10)] = Lib.itoa (u : Int) := by
  have hn : ¬ ((u : Nat) : Int) < 0 := by omega
  unfold Lib.itoa
  rw [if_neg hn, Int.toNat_natCast, digits_eq u]
  by_cases h1 : u < 10
  ·
   rw [if_pos (by omega), if_pos h1, Nat.mod_eq_of_lt h1]; rfl
  ·
   rw [if_neg (by omega), if_neg h1]
 rw [e] at h
 refine Ev.step (fun k => ?_) h
 simp only [culetref44_Itoa.f]
 rw [if_neg (by omega), digit_str u (by omega), Int.tdiv_eq_ediv_of_nonneg (by omega), wrap_id (by omega) (by omega)]; rfl

theorem join_snoc (sep x y : Bs) (r : List Bs) : Lib.join (x :: r ++ [y]) sep = Lib.join (x :: r) sep ++ sep ++ y := by
 rw [List.cons_append, Lib.join_cons, Lib.join_cons]
 unfold Lib.joinTail
 rw [List.map_append, List.flatten_append]
 simp
def upto (s : ByteArray) (l : List S63) (i : Nat) : Bs := s.data.toList ++ [58] ++ Lib.join ((l.take i).map partB) [44]
theorem upto_le {s : ByteArray} (hs : s.size ≤ 1000) {l : List S63} (v : V s l) (i : Nat) : (upto s l i).length ≤ 50000000 := by
 have hn : s.data.toList.length = s.size := by rw [Array.length_toList]; rfl
 have hj : (Lib.join ((l.take i).map partB) [44]).length ≤ 20 * 2000005 := by
  refine Nat.le_trans (join_le [44] rfl 2000004 _ (fun x hx => ?_)) (by rw [List.length_map, List.length_take]; exact Nat.mul_le_mul_right _ (Nat.le_trans (Nat.min_le_right _ _) v.len20))
  obtain ⟨y, hy, rfl⟩ := List.mem_map.1 hx
  obtain ⟨j, hj, rfl⟩ := List.getElem_of_mem (List.mem_of_mem_take hy)
  exact part_le v hj
 unfold upto
 rw [List.length_append, List.length_append, List.length_singleton]
 omega
theorem rprint_l (s : ByteArray) (hs : s.size ≤ 1000) {l : List S42} (v : V s (own l)) : ∀ (d i : Nat), i + d = l.length → Ev (fun k => culetref44_Print.l0 k (mk (upto s (own l) i)) (i : Int) s l) (mk (printB s (own l)), 0)
 | 0, i, h => by
  obtain rfl : i = l.length := by omega
  refine Ev.step (f := fun _ => some (mk (printB s (own l)), 0)) (fun k => ?_) (Ev.now _)
  simp only [culetref44_Print.l0]
  rw [if_neg (by omega)]
  unfold upto printB
  rw [show l.length = (own l).length from (own_length l).symm, List.take_length]
 | d + 1, i, h => by
  have hi : i < l.length := by omega
  have hi' : i < (own l).length := by rw [own_length]; exact hi
  have ih := rprint_l s hs v d (i + 1) (by omega)
  have h20 := v.len20
  rw [own_length] at h20
  have hu := upto_le hs v i
  have hp := part_le v hi'
  have a := itoa_le (v.nn hi') (v.hi i hi')
  have b := itoa_le (v.p0 i hi') (v.p1 i hi')
  have ea := ritoa_ev (v.nn hi') (v.hi i hi')
  have eb := ritoa_ev (v.p0 i hi') (v.p1 i hi')
  have f0 : F (own l) i = (rd_T42 l (i : Int)).f0 := by unfold F; rw [own_rd]
  have p0 : P (own l) i = (rd_T42 l (i : Int)).f1 := by unfold P; rw [own_rd]
  rw [f0] at a ea
  rw [p0] at b eb
  have c1 : 1 + (mk (Lib.itoa (rd_T42 l (i : Int)).f0)).size ≤ 9223372036854775807 := by rw [mk_size]; omega
  have c2 : ((⟨#[32]⟩ : ByteArray) ++ mk (Lib.itoa (rd_T42 l (i : Int)).f0)).size + 1 ≤ 9223372036854775807 := by rw [ByteArray.size_append, mk_size, show (⟨#[32]⟩ : ByteArray).size = 1 from rfl]; omega
  have c3 : (((⟨#[32]⟩ : ByteArray) ++ mk (Lib.itoa (rd_T42 l (i : Int)).f0)) ++ (⟨#[64]⟩ : ByteArray)).size + (mk (Lib.itoa (rd_T42 l (i : Int)).f1)).size ≤ 9223372036854775807 := by rw [ByteArray.size_append, ByteArray.size_append, mk_size, mk_size, show (⟨#[32]⟩ : ByteArray).size = 1 from rfl, show (⟨#[64]⟩ : ByteArray).size = 1 from rfl]; omega
  have ep : (((⟨#[32]⟩ : ByteArray) ++ mk (Lib.itoa (rd_T42 l (i : Int)).f0)) ++ (⟨#[64]⟩ : ByteArray)) ++ mk (Lib.itoa (rd_T42 l (i : Int)).f1) = mk (partB (own l)[i]) := by
   rw [show (⟨#[32]⟩ : ByteArray) = mk [32] from rfl, show (⟨#[64]⟩ : ByteArray) = mk [64] from rfl, mk_append, mk_append, mk_append, ← f0, ← p0]
   unfold F P
   rw [rd63 hi']; rfl
  have tk : (own l).take (i + 1) = (own l).take i ++ [(own l)[i]] := List.take_succ_eq_append_getElem hi'
  by_cases h0 : i = 0
  ·
   subst h0
   have c4 : (mk (upto s (own l) 0)).size + (mk (partB (own l)[0])).size ≤ 9223372036854775807 := by rw [mk_size, mk_size]; omega
   have eu : mk (upto s (own l) 0) ++ mk (partB (own l)[0]) = mk (upto s (own l) (0 + 1)) := by
    rw [mk_append]
    unfold upto
    rw [tk, List.take_zero, List.nil_append, List.map_nil, Lib.join_nil, List.append_nil, List.map_cons, List.map_nil, Lib.join_one]
   refine Ev.step (f := fun k => ((culetref44_Itoa.f k ((rd_T42 l ((0 : Nat) : Int)).f0)).bind fun t336 => (if 1 + t336.size ≤ 9223372036854775807 then (if ((⟨#[32]⟩ : ByteArray) ++ t336).size + 1 ≤ 9223372036854775807 then ((culetref44_Itoa.f k ((rd_T42 l ((0 : Nat) : Int)).f1)).bind fun t338 => (if (((⟨#[32]⟩ : ByteArray) ++ t336) ++ (⟨#[64]⟩ : ByteArray)).size + t338.size ≤ 9223372036854775807 then (if (mk (upto s (own l) 0)).size + ((((⟨#[32]⟩ : ByteArray) ++ t336) ++ (⟨#[64]⟩ : ByteArray)) ++ t338).size ≤ 9223372036854775807 then (culetref44_Print.l0 k ((mk (upto s (own l) 0)) ++ ((((⟨#[32]⟩ : ByteArray) ++ t336) ++ (⟨#[64]⟩ : ByteArray)) ++ t338)) ((0 + 1 : Nat) : Int) s l) else (none)) else (none))) else (none)) else (none)))) (fun k => ?_) ?_
   ·
    simp only [culetref44_Print.l0]
    rw [if_pos (by omega), if_neg (by omega), if_pos (by omega), wrap_nat (by omega)]
   ·
    refine Ev.bind ea ?_
    simp only [c1, c2, if_true]
    refine Ev.bind eb ?_
    simp only [c3, ep, c4, eu, if_true]
    exact ih
  ·
   have c0 : (mk (upto s (own l) i)).size + 1 ≤ 9223372036854775807 := by rw [mk_size]; omega
   have c4 : ((mk (upto s (own l) i)) ++ (⟨#[44]⟩ : ByteArray)).size + (mk (partB (own l)[i])).size ≤ 9223372036854775807 := by rw [ByteArray.size_append, mk_size, mk_size, show (⟨#[44]⟩ : ByteArray).size = 1 from rfl]; omega
   have eu : (mk (upto s (own l) i) ++ (⟨#[44]⟩ : ByteArray)) ++ mk (partB (own l)[i]) = mk (upto s (own l) (i + 1)) := by
    rw [show (⟨#[44]⟩ : ByteArray) = mk [44] from rfl, mk_append, mk_append]
    unfold upto
    rw [tk, List.map_append]
    cases hq : (own l).take i with
    | nil =>
     have := congrArg List.length hq
     rw [List.length_take, List.length_nil] at this
     omega
    | cons q r =>
     rw [List.map_cons, show [(own l)[i]].map partB = [partB (own l)[i]] from rfl, join_snoc]
     simp only [List.append_assoc]
   refine Ev.step (f := fun k => ((culetref44_Itoa.f k ((rd_T42 l (i : Int)).f0)).bind fun t332 => (if 1 + t332.size ≤ 9223372036854775807 then (if ((⟨#[32]⟩ : ByteArray) ++ t332).size + 1 ≤ 9223372036854775807 then ((culetref44_Itoa.f k ((rd_T42 l (i : Int)).f1)).bind fun t334 => (if (((⟨#[32]⟩ : ByteArray) ++ t332) ++ (⟨#[64]⟩ : ByteArray)).size + t334.size ≤ 9223372036854775807 then (if ((mk (upto s (own l) i)) ++ (⟨#[44]⟩ : ByteArray)).size + ((((⟨#[32]⟩ : ByteArray) ++ t332) ++ (⟨#[64]⟩ : ByteArray)) ++ t334).size ≤ 9223372036854775807 then (culetref44_Print.l0 k (((mk (upto s (own l) i)) ++ (⟨#[44]⟩ : ByteArray)) ++ ((((⟨#[32]⟩ : ByteArray) ++ t332) ++ (⟨#[64]⟩ : ByteArray)) ++ t334)) ((i + 1 : Nat) : Int) s l) else (none)) else (none))) else (none)) else (none)))) (fun k => ?_) ?_
   ·
    simp only [culetref44_Print.l0]
    rw [if_pos (by omega), if_pos (by omega), if_pos c0, if_pos (by omega), wrap_nat (by omega)]
   ·
    refine Ev.bind ea ?_
    simp only [c1, c2, if_true]
    refine Ev.bind eb ?_
    simp only [c3, ep, c4, eu, if_true]
    exact ih
theorem rPrint_ev (s : ByteArray) (hs : s.size ≤ 1000) (l : List S42) (hl : l.length ≤ 100000) : Ev (fun k => culetref44_Print.f k s l) (if vB s (own l) = true then (mk (printB s (own l)), 0) else ((⟨#[]⟩ : ByteArray), 1)) := by
 unfold culetref44_Print.f
 refine Ev.bind (rvalid_ev s hs l hl) ?_
 cases hv : vB s (own l) with
 | false => simp only [Bool.false_eq_true, if_false]; exact Ev.now _
 | true =>
  have c : s.size + 1 ≤ 9223372036854775807 := by omega
  simp only [c, if_true]
  have := rprint_l s hs (V_of hv) l.length 0 (by omega)
  have e : s ++ (⟨#[58]⟩ : ByteArray) = mk (upto s (own l) 0) := by
   unfold upto
   rw [List.take_zero, List.map_nil, Lib.join_nil, List.append_nil]
   conv => lhs; rw [mk_of s]
   rw [show (⟨#[58]⟩ : ByteArray) = mk [58] from rfl, mk_append]
  rw [e]
  exact this

theorem val_cls {s : ByteArray} {l : List S63} (v : V s l) {i : Nat} (hi : i < l.length) : valN l (F l i) = F l i * P l i / 1000 := by
 unfold valN
 rw [cI_eq v hi (Int.le_refl _) (fun h => v.up i h)]
theorem val_cls1 {s : ByteArray} {l : List S63} (v : V s l) {i : Nat} (hi : i + 1 < l.length) : valN l (F l (i + 1) - 1) = (F l (i + 1) - 1) * P l i / 1000 := by
 have := v.up i hi
 unfold valN
 rw [cI_eq v (c := i) (by omega) (by omega) (fun _ => by omega)]
theorem rfair_l (s : ByteArray) {l : List S42} (v : V s (own l)) : ∀ (d i : Nat), 1 ≤ i → i + d = l.length → Ev (fun k => culetref44_Fair.l0 k (i : Int) s l) ((List.range' i d).all (fun i => decide (valN (own l) (F (own l) i - 1) ≤ valN (own l) (F (own l) i))))
 | 0, i, h1, h => by
  obtain rfl : i = l.length := by omega
  refine Ev.step (f := fun _ => some true) (fun k => ?_) (Ev.now _)
  simp only [culetref44_Fair.l0]; rw [if_neg (by omega)]
 | d + 1, i, h1, h => by
  obtain ⟨j, rfl⟩ : ∃ j, i = j + 1 := ⟨i - 1, by omega⟩
  have hl : (own l).length = l.length := own_length l
  have hi : j + 1 < (own l).length := by omega
  have hj : j < (own l).length := by omega
  have h20 := v.len20
  have a := v.nn hi
  have b := v.hi _ hi
  have up := v.up j hi
  have a' := v.nn hj
  obtain ⟨m0, m1⟩ := mul_range (by omega : 0 ≤ F (own l) (j + 1) - 1) (by omega) (v.p0 j hj) (v.p1 j hj)
  obtain ⟨n0, n1⟩ := mul_range a b (v.p0 _ hi) (v.p1 _ hi)
  have f0 : F (own l) (j + 1) = (rd_T42 l ((j + 1 : Nat) : Int)).f0 := by unfold F; rw [own_rd]
  have p0 : P (own l) (j + 1) = (rd_T42 l ((j + 1 : Nat) : Int)).f1 := by unfold P; rw [own_rd]
  have p1 : P (own l) j = (rd_T42 l (j : Int)).f1 := by unfold P; rw [own_rd]
  rw [List.range'_succ, List.all_cons, val_cls v hi, val_cls1 v hi]
  have st : ∀ k, culetref44_Fair.l0 (k + 1) ((j + 1 : Nat) : Int) s l = if (F (own l) (j + 1) - 1) * P (own l) j / 1000 > F (own l) (j + 1) * P (own l) (j + 1) / 1000 then some false else culetref44_Fair.l0 k ((j + 1 + 1 : Nat) : Int) s l := by
   intro k
   have w1 : wrap64 (((j + 1 : Nat) : Int) - 1) = (j : Int) := by unfold wrap64; omega
   have w2 : wrap64 ((rd_T42 l ((j + 1 : Nat) : Int)).f0 - 1) = F (own l) (j + 1) - 1 := by rw [← f0]; exact wrap_id (by omega) (by omega)
   simp only [culetref44_Fair.l0]
   rw [if_pos (by omega), if_pos (by omega), w1, if_pos (by omega), if_pos (by omega), w2, wrap_nat (by omega), ← f0, ← p0, ← p1]
   generalize (F (own l) (j + 1) - 1) * P (own l) j = m at m0 m1 ⊢
   generalize F (own l) (j + 1) * P (own l) (j + 1) = n at n0 n1 ⊢
   have e1 : wrap64 m = m := wrap_id (by omega) (by omega)
   have e2 : wrap64 n = n := wrap_id (by omega) (by omega)
   rw [e1, e2, Int.tdiv_eq_ediv_of_nonneg m0, Int.tdiv_eq_ediv_of_nonneg n0]
   have e3 : wrap64 (m / 1000) = m / 1000 := wrap_id (by omega) (by omega)
   have e4 : wrap64 (n / 1000) = n / 1000 := wrap_id (by omega) (by omega)
   rw [e3, e4]
  by_cases hc : (F (own l) (j + 1) - 1) * P (own l) j / 1000 ≤ F (own l) (j + 1) * P (own l) (j + 1) / 1000
  ·
   rw [decide_eq_true hc, Bool.true_and]
   exact Ev.step (fun k => by rw [st, if_neg (Int.not_lt.2 hc)]) (rfair_l s v d (j + 1 + 1) (by omega) (by omega))
  ·
   rw [decide_eq_false hc, Bool.false_and]
   exact Ev.step (f := fun _ => some false) (fun k => by rw [st, if_pos (Int.not_le.1 hc)]) (Ev.now _)
theorem rFair_ev (s : ByteArray) (hs : s.size ≤ 1000) (l : List S42) (hl : l.length ≤ 100000) : Ev (fun k => culetref44_Fair.f k s l) (vB s (own l) && fairB (own l)) := by
 unfold culetref44_Fair.f
 refine Ev.bind (rvalid_ev s hs l hl) ?_
 cases hv : vB s (own l) with
 | false => simp only [Bool.false_eq_true, if_false, Bool.false_and]; exact Ev.now _
 | true =>
  have v := V_of hv
  have h1 := v.len1
  rw [own_length] at h1
  simp only [if_true, Bool.true_and]
  have := rfair_l s v (l.length - 1) 1 (Nat.le_refl _) (by omega)
  unfold fairB
  rw [own_length]
  exact this

def neB (a b : List S42) (i : Nat) : Bool := !((rd_T42 a (i : Int)).f0 == (rd_T42 b (i : Int)).f0) || !((rd_T42 a (i : Int)).f1 == (rd_T42 b (i : Int)).f1)
def eqB (s : ByteArray) (a : List S42) (t : ByteArray) (b : List S42) : Bool := decide (s.toList = t.toList) && (decide (a.length = b.length) && (List.range' 0 a.length).all (fun i => !neB a b i))
theorem requal_l (s t : ByteArray) (a b : List S42) (ha : a.length ≤ 100000) (hl : a.length = b.length) : ∀ (d i : Nat), i + d = a.length → Ev (fun k => culetref44_Equal.l0 k (i : Int) s a t b) ((List.range' i d).all (fun i => !neB a b i))
 | 0, i, h => by
  obtain rfl : i = a.length := by omega
  refine Ev.step (f := fun _ => some true) (fun k => ?_) (Ev.now _)
  simp only [culetref44_Equal.l0]; rw [if_neg (by omega)]
 | d + 1, i, h => by
  rw [List.range'_succ, List.all_cons]
  have st : ∀ k, culetref44_Equal.l0 (k + 1) (i : Int) s a t b = if neB a b i = true then some false else culetref44_Equal.l0 k ((i + 1 : Nat) : Int) s a t b := by
   intro k
   simp only [culetref44_Equal.l0]
   rw [if_pos (by omega), if_pos (by omega), if_pos (by omega), wrap_nat (by omega)]; rfl
  cases hc : neB a b i with
  | true => exact Ev.step (f := fun _ => some false) (fun k => by rw [st, if_pos hc]) (Ev.now _)
  | false => exact Ev.step (fun k => by rw [st, hc, if_neg (by simp)]) (requal_l s t a b ha hl d (i + 1) (by omega))
theorem rEqual_ev (s : ByteArray) (a : List S42) (t : ByteArray) (b : List S42) (ha : a.length ≤ 100000) : Ev (fun k => culetref44_Equal.f k s a t b) (eqB s a t b) := by
 have bad : Ev (fun k => culetref44_Equal.j0 k true s a t b) false := Ev.step (f := fun _ => some false) (fun k => by simp only [culetref44_Equal.j0, if_true]) (Ev.now _)
 unfold culetref44_Equal.f eqB
 by_cases h : s.toList = t.toList
 ·
  simp only [h, if_true, decide_true, Bool.true_and]
  by_cases hl : a.length = b.length
  ·
   rw [decide_eq_true hl, Bool.true_and, show ((a.length : Int) != (b.length : Int)) = false from bne_eq_false_iff_eq.2 (by omega)]
   exact Ev.step (f := fun k => culetref44_Equal.l0 k ((0 : Nat) : Int) s a t b) (fun k => by simp only [culetref44_Equal.j0]; rfl) (requal_l s t a b ha hl a.length 0 (by omega))
  ·
   rw [decide_eq_false hl, Bool.false_and, show ((a.length : Int) != (b.length : Int)) = true from bne_iff_ne.2 (by omega)]
   exact bad
 ·
  simp only [h, if_false, decide_false, Bool.false_and]; exact bad
theorem equal_l (a b : List S42) (ha : a.length ≤ 100000) (hl : a.length = b.length) : ∀ (d i : Nat), i + d = a.length → Ev (fun k => tariff_Class_44.l0 k (own a) (own b) ((own a).length : Int) (i : Int)) ((List.range' i d).all (fun i => !neB a b i))
 | 0, i, h => by
  have la : (own a).length = a.length := own_length a
  obtain rfl : i = a.length := by omega
  refine Ev.step (f := fun _ => some true) (fun k => ?_) (Ev.now _)
  simp only [tariff_Class_44.l0]; rw [if_neg (by omega)]
 | d + 1, i, h => by
  have la : (own a).length = a.length := own_length a
  have lb : (own b).length = b.length := own_length b
  rw [List.range'_succ, List.all_cons]
  have st : ∀ k, tariff_Class_44.l0 (k + 1) (own a) (own b) ((own a).length : Int) (i : Int) = if neB a b i = true then some false else tariff_Class_44.l0 k (own a) (own b) ((own a).length : Int) ((i + 1 : Nat) : Int) := by
   intro k
   simp only [tariff_Class_44.l0]
   rw [if_pos (by omega), if_pos (by omega), if_pos (by omega), if_pos (by omega), wrap_nat (by omega), own_rd, own_rd]; rfl
  cases hc : neB a b i with
  | true => exact Ev.step (f := fun _ => some false) (fun k => by rw [st, if_pos hc]) (Ev.now _)
  | false => exact Ev.step (fun k => by rw [st, hc, if_neg (by simp)]) (equal_l a b ha hl d (i + 1) (by omega))
theorem Equal_ev (s : ByteArray) (a : List S42) (t : ByteArray) (b : List S42) (ha : a.length ≤ 100000) : Ev (fun k => tariff_Equal.f k s (own a) t (own b)) (eqB s a t b) := by
 have la : (own a).length = a.length := own_length a
 have lb : (own b).length = b.length := own_length b
 unfold tariff_Equal.f eqB
 by_cases h : s.toList = t.toList
 ·
  simp only [h, if_true, decide_true, Bool.true_and]
  refine Ev.bind (f := fun _ t => some t) ?_ (Ev.now _)
  unfold tariff_Class_44.f
  by_cases hl : a.length = b.length
  ·
   rw [decide_eq_true hl, Bool.true_and]
   have hc : ((own a).length : Int) = ((own b).length : Int) := by omega
   simp only [if_pos hc]
   exact equal_l a b ha hl a.length 0 (by omega)
  ·
   have hc : ¬ ((own a).length : Int) = ((own b).length : Int) := by omega
   rw [decide_eq_false hl, Bool.false_and]
   simp only [if_neg hc]
   exact Ev.now _
 ·
  simp only [h, if_false, decide_false, Bool.false_and]; exact Ev.now _
theorem eqB_refl (s : ByteArray) (a : List S42) : eqB s a s a = true := by
 unfold eqB
 rw [decide_eq_true rfl, decide_eq_true rfl, Bool.true_and, Bool.true_and, List.all_eq_true]
 intro i _
 unfold neB
 simp
end Go.Proofs.YtejgenhmhahgeaaDoor.Plain
