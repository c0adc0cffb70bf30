-- Written by this session's own programs; what the law does not lean on is left out. Lean checks it.
import Derived.Test.YthjmbagkomnpgaaDoorJShelf
import Derived.Laws.RangeAny
import Derived.Deep.LoopGhost
import Derived.Deep.QuietTactic
import Derived.BigQuiet
import Derived.OrdersHeld
import Derived.Deep.CutBlock
import Derived.WalkKit
import Derived.Shelf.Abstract
import Derived.Deep.RegionWith
namespace Go.Proofs.YthjmbagkomnpgaaDoor.L
open Go Go.Shelf Go.RowKit
set_option linter.unusedVariables false
set_option linter.unusedSimpArgs false
theorem decode_bytes (s : ByteArray) (pos : Nat) (h : pos < s.size) (ha : 128 ≤ (s[pos]'h).toNat) : pos + (Utf8.decode s pos).2 ≤ s.size ∧ ∀ k, k < (Utf8.decode s pos).2 → 128 ≤ (s.get! (pos + k)).toNat := by
 have g0 : (s.get! (pos + 0)).toNat = (s[pos]'h).toNat := by rw [get_at s pos h]
 have hn : ¬ (s[pos]'h).toNat < 128 := by omega
 have one : ∀ k, k < 1 → 128 ≤ (s.get! (pos + k)).toNat := fun k hk => by
  obtain rfl : k = 0 := by omega
  omega
 have hb : ∀ k, (s.get! (pos + k)).toNat < 256 := fun k => (s.get! (pos + k)).toNat_lt
 have b1 := hb 1; have b2 := hb 2; have b3 := hb 3
 simp only [Utf8.decode, g0, hn, if_false]
 split
 ·
  rename_i c
  simp only [Bool.and_eq_true, decide_eq_true_eq, beq_iff_eq] at c
  split
  ·
   refine ⟨by omega, fun k hk => ?_⟩
   obtain rfl | rfl : k = 0 ∨ k = 1 := by omega
   ·
    omega
   ·
    omega
  ·
   exact ⟨by omega, one⟩
 ·
  split
  ·
   rename_i c
   simp only [Bool.and_eq_true, decide_eq_true_eq, beq_iff_eq] at c
   split
   ·
    refine ⟨by omega, fun k hk => ?_⟩
    obtain rfl | rfl | rfl : k = 0 ∨ k = 1 ∨ k = 2 := by omega
    all_goals omega
   ·
    exact ⟨by omega, one⟩
  ·
   split
   ·
    rename_i c
    simp only [Bool.and_eq_true, decide_eq_true_eq, beq_iff_eq] at c
    split
    ·
     refine ⟨by omega, fun k hk => ?_⟩
     obtain rfl | rfl | rfl | rfl : k = 0 ∨ k = 1 ∨ k = 2 ∨ k = 3 := by omega
     all_goals omega
    ·
     exact ⟨by omega, one⟩
   ·
    exact ⟨by omega, one⟩
theorem encode_high (r : Int) (h : 128 ≤ r) : ∃ n : Nat, n ≤ 2 ∧ (Utf8.encode r).size = n + 2 ∧ ∀ hn : n + 1 < (Utf8.encode r).size, 128 ≤ ((Utf8.encode r)[n + 1]'hn).toNat := by
 have key : ∀ c : Nat, 128 ≤ c → ∃ n : Nat, n ≤ 2 ∧ (let b := fun n : Nat => UInt8.ofNat n; (if c < 128 then ({ data := #[b c] } : ByteArray) else if c < 2048 then { data := #[b (192 + c / 64), b (128 + c % 64)] } else if c < 65536 then { data := #[b (224 + c / 4096), b (128 + c / 64 % 64), b (128 + c % 64)] } else { data := #[b (240 + c / 262144), b (128 + c / 4096 % 64), b (128 + c / 64 % 64), b (128 + c % 64)] }).size = n + 2 ∧ ∀ hn, 128 ≤ ((if c < 128 then ({ data := #[b c] } : ByteArray) else if c < 2048 then { data := #[b (192 + c / 64), b (128 + c % 64)] } else if c < 65536 then { data := #[b (224 + c / 4096), b (128 + c / 64 % 64), b (128 + c % 64)] } else { data := #[b (240 + c / 262144), b (128 + c / 4096 % 64), b (128 + c / 64 % 64), b (128 + c % 64)] })[n + 1]'hn).toNat) := by
  intro c hc
  have hl : 128 ≤ (UInt8.ofNat (128 + c % 64)).toNat := by rw [UInt8.toNat_ofNat']; omega
  by_cases h2 : c < 2048
  ·
   refine ⟨0, by omega, ?_⟩
   simp only [if_neg (show ¬ c < 128 by omega), if_pos h2]
   exact ⟨rfl, fun _ => hl⟩
  ·
   by_cases h3 : c < 65536
   ·
    refine ⟨1, by omega, ?_⟩
    simp only [if_neg (show ¬ c < 128 by omega), if_neg h2, if_pos h3]
    exact ⟨rfl, fun _ => hl⟩
   ·
    refine ⟨2, by omega, ?_⟩
    simp only [if_neg (show ¬ c < 128 by omega), if_neg h2, if_neg h3]
    exact ⟨rfl, fun _ => hl⟩
 have hc : 128 ≤ (if Utf8.valid r = true then r.toNat else Utf8.runeError) := by
  split
  ·
   omega
  ·
   decide
 exact key _ hc
theorem indexAny_long (s : ByteArray) (w : World) (h8 : 8 < s.size) (hs : s.size < 4294967281) :
  Calls Tryd.prog 42 #[.string s, .string ⟨#[34, 10]⟩] w fun e w' => e = .returned (.int .i64 (Lib.indexAny s.data.toList [34, 10])) ∧ Below w.heap.size w w' := by
 refine (Tryd.strings_IndexAny_long (zero_of_info (P := Tryd.prog) (t := 74) (n := 256) (by kernel_rfl)).1 s ⟨#[34, 10]⟩ w (by decide) h8 hs (by decide) ?_).mono ?_
 ·
  intro j b hb
  have : b ∈ [(34 : UInt8), 10] := List.mem_of_getElem? hb
  simp at this
  rcases this with rfl | rfl <;> decide
 ·
  rintro e w' ⟨rfl, rfl⟩
  exact ⟨rfl, ((Below.refl _ _).alloc (Nat.le_refl _) _).alloc (by simp) _⟩
set_option maxHeartbeats 4000000 in
set_option maxRecDepth 100000 in
theorem indexRune_two (r : Int) (h : 128 ≤ r) (hr : r ≠ 65533) (s : ByteArray) (h2 : s.size = 2) (hb : ∀ q : 1 < s.size, (s[1]'q).toNat = 10) (w : World) (hv : Lib.validRune r = true) (rs : ByteArray) (hrs : Utf8.encode r = rs) (hs : rs.size = 2) (hl : ∀ q : 1 < rs.size, 128 ≤ (rs[1]'q).toNat) :
  Calls Tryd.prog 50 #[.string s, .int .i32 r] w fun e w' => e = .returned (.int .i64 (-1)) ∧ ∃ q, w' = w.drewN q := by
 have c0 : decide (0 ≤ r) = true := decide_eq_true (by omega)
 have c1 : decide (r < 128) = false := decide_eq_false (by omega)
 have c2 : (r == 65533) = false := beq_eq_false_iff_ne.mpr hr
 obtain ⟨y, hy⟩ : ∃ y : Int, ((rs[1]'(by omega)).toNat : Int) = y := ⟨_, rfl⟩
 obtain ⟨z, hz⟩ : ∃ z : Int, ((s[1]'(by omega)).toNat : Int) = z := ⟨_, rfl⟩
 have hzy : z ≠ y := by
  have h := hb (by omega)
  have h' := hl (by omega)
  rw [← hy, ← hz, h]; omega
 have hyz' : (z != y) = true := bne_iff_ne.mpr hzy
 have hyq : ∀ q : (1 : Int).toNat < rs.size, ((rs[(1 : Int).toNat]'q).toNat : Int) = y := fun q => hy
 have hbq : ∀ q : (1 : Int).toNat < s.size, ((s[(1 : Int).toNat]'q).toNat : Int) = z := fun q => hz
 have hs1 : (s.size : Int) = 2 := by omega
 have hs2 : (rs.size : Int) = 2 := by omega
 have hx : s.extract 2 s.size = ⟨#[]⟩ := by rw [h2]; apply ByteArray.ext; simp
 have hx2 : s.extract 2 2 = ⟨#[]⟩ := by apply ByteArray.ext; simp
 have hib : ∀ x, Lib.indexByte [] x = -1 := fun _ => rfl
 clear hl hb
 go_enter Tryd.func50, Tryd.ntmps50
 go_wp2_with (go_at_call 62; refine (Tryd.utf8_ValidRune r _).mono ?_; rintro e w' ⟨rfl, rfl⟩; rw [hv])
 go_step3
 go_wp2
 go_loopg [9] 0 (fun g v9 wx => v9 = .int .i64 1 ∧ wx = w')
 case atStart => exact ⟨rfl, rfl⟩
 case round =>
  obtain ⟨rfl, rfl⟩ := hrel
  go_wp2
  go_step3
  go_wp2
  go_region
  all_goals go_wp2
  all_goals (go_region_with (go_at_call 61; refine (Tryd.strings_IndexByte _ _ _).mono ?_; rintro e w' ⟨rfl, rfl⟩))
  all_goals go_wp2

  all_goals (simp only [Exit.noGoto_ret, Exit.inBlock, Exit.then])
  all_goals go_ret
  all_goals exact ⟨rfl, 2, rfl⟩
set_option maxHeartbeats 4000000 in
set_option maxRecDepth 100000 in
theorem indexRune_three (r : Int) (h : 128 ≤ r) (hr : r ≠ 65533) (s : ByteArray) (h2 : s.size = 2) (w : World) (hv : Lib.validRune r = true) (rs : ByteArray) (hrs : Utf8.encode r = rs) (hs : rs.size = 3) :
  Calls Tryd.prog 50 #[.string s, .int .i32 r] w fun e w' => e = .returned (.int .i64 (-1)) ∧ ∃ q, w' = w.drewN q := by
 have c0 : decide (0 ≤ r) = true := decide_eq_true (by omega)
 have c1 : decide (r < 128) = false := decide_eq_false (by omega)
 have c2 : (r == 65533) = false := beq_eq_false_iff_ne.mpr hr
 have hs1 : (s.size : Int) = 2 := by omega
 have hs2 : (rs.size : Int) = 3 := by omega
 go_enter Tryd.func50, Tryd.ntmps50
 go_wp2_with (go_at_call 62; refine (Tryd.utf8_ValidRune r _).mono ?_; rintro e w' ⟨rfl, rfl⟩; rw [hv])
 go_step3
 go_wp2
 go_loopg [9] 0 (fun g v9 wx => v9 = .int .i64 2 ∧ wx = w')
 case atStart => exact ⟨rfl, rfl⟩
 case round =>
  obtain ⟨rfl, rfl⟩ := hrel
  go_wp2
  simp only [Exit.noGoto_ret, Exit.inBlock]
  go_ret
  exact ⟨rfl, 0, rfl⟩
set_option maxHeartbeats 4000000 in
set_option maxRecDepth 100000 in
theorem indexRune_four (r : Int) (h : 128 ≤ r) (hr : r ≠ 65533) (s : ByteArray) (h2 : s.size = 2) (w : World) (hv : Lib.validRune r = true) (rs : ByteArray) (hrs : Utf8.encode r = rs) (hs : rs.size = 4) :
  Calls Tryd.prog 50 #[.string s, .int .i32 r] w fun e w' => e = .returned (.int .i64 (-1)) ∧ ∃ q, w' = w.drewN q := by
 have c0 : decide (0 ≤ r) = true := decide_eq_true (by omega)
 have c1 : decide (r < 128) = false := decide_eq_false (by omega)
 have c2 : (r == 65533) = false := beq_eq_false_iff_ne.mpr hr
 have hs1 : (s.size : Int) = 2 := by omega
 have hs2 : (rs.size : Int) = 4 := by omega
 go_enter Tryd.func50, Tryd.ntmps50
 go_wp2_with (go_at_call 62; refine (Tryd.utf8_ValidRune r _).mono ?_; rintro e w' ⟨rfl, rfl⟩; rw [hv])
 go_step3
 go_wp2
 go_loopg [9] 0 (fun g v9 wx => v9 = .int .i64 3 ∧ wx = w')
 case atStart => exact ⟨rfl, rfl⟩
 case round =>
  obtain ⟨rfl, rfl⟩ := hrel
  go_wp2
  simp only [Exit.noGoto_ret, Exit.inBlock]
  go_ret
  exact ⟨rfl, 0, rfl⟩
set_option maxHeartbeats 4000000 in
set_option maxRecDepth 100000 in
theorem indexRune_bad (r : Int) (h : 128 ≤ r) (hr : r ≠ 65533) (s : ByteArray) (w : World) (hv : Lib.validRune r = false) :
  Calls Tryd.prog 50 #[.string s, .int .i32 r] w fun e w' => e = .returned (.int .i64 (-1)) ∧ ∃ q, w' = w.drewN q := by
 have c0 : decide (0 ≤ r) = true := decide_eq_true (by omega)
 have c1 : decide (r < 128) = false := decide_eq_false (by omega)
 have c2 : (r == 65533) = false := beq_eq_false_iff_ne.mpr hr
 go_enter Tryd.func50, Tryd.ntmps50
 go_wp2_with (go_at_call 62; refine (Tryd.utf8_ValidRune r _).mono ?_; rintro e w' ⟨rfl, hw⟩; rw [hw, hv])
 go_ret
 exact ⟨rfl, 0, rfl⟩
set_option maxHeartbeats 8000000 in
set_option maxRecDepth 100000 in
theorem indexRune_err (s : ByteArray) (h2 : s.size = 2) (hb0 : ∀ q : 0 < s.size, (s[0]'q).toNat = 34) (hb1 : ∀ q : 1 < s.size, (s[1]'q).toNat = 10) (w : World) :
  Calls Tryd.prog 50 #[.string s, .int .i32 65533] w fun e w' => e = .returned (.int .i64 (-1)) ∧ ∃ q, w' = w.iter s q := by
 have HA : Aside (∀ i : Nat, ∀ q : i < s.size, (s[i]'q).toNat < 128) := fun i q => by
  obtain rfl | rfl : i = 0 ∨ i = 1 := by omega
  ·
   rw [hb0]; decide
  ·
   rw [hb1]; decide
 clear hb0 hb1
 go_enter Tryd.func50, Tryd.ntmps50
 go_wp2
 go_loopg [5, 6] 2 (fun g _ _ wx => ∃ i : Nat, i + g = 2 ∧ wx = w.iter s i)
 case atStart => exact ⟨0, by omega, rfl⟩
 case round =>
  obtain ⟨i, hig, rfl⟩ := hrel
  cases gk with
  | zero =>
   obtain rfl : i = 2 := by omega
   have hnx := fun ty => run_next_end (P := Tryd.prog) w s 2 ty (by omega)
   go_wp2
   go_ret
   exact ⟨rfl, _, rfl⟩
  | succ g =>
   have hi : i < s.size := by omega
   obtain ⟨x, hx⟩ : ∃ x : UInt8, s[i]'hi = x := ⟨_, rfl⟩
   have hx128 : x.toNat < 128 := by rw [← hx]; exact HA.out i hi
   have hnx := fun ty => run_next_ascii (P := Tryd.prog) w s i ty hi (by rw [hx]; exact hx128)
   rw [hx] at hnx
   clear hx
   have hne : ((x.toNat : Int) == 65533) = false := beq_eq_false_iff_ne.mpr (by omega)
   go_wp2
   go_roundg g
   case measure => omega
   case rel => exact ⟨i + 1, by omega, rfl⟩
def itSet (W : World) (g : Nat) (s : ByteArray) (p : Nat) : World := { W with heap := W.heap.setIfInBounds g (.stringIter s p) }
theorem run_next_in (W : World) (g : Nat) (s : ByteArray) (pos : Nat) (ty : TypeId) (hg : W.heap[g]? = some (.stringIter s pos)) (h : pos < s.size) :
  (Instr.next (.pointer (some ⟨g, 0, none⟩)) true ty).run Tryd.prog W = .ok (.tuple #[.bool true, .int .i64 pos, .int .i32 (Utf8.decode s pos).1]) (itSet W g s (pos + (Utf8.decode s pos).2)) := by
 simp only [Instr.next, getObj, setObj, Sem.run_bind, Sem.run, hg, Result.andThen, h, if_true]
 simp [goInt, itSet]
theorem run_next_out (W : World) (g : Nat) (s : ByteArray) (pos : Nat) (ty : TypeId) (hg : W.heap[g]? = some (.stringIter s pos)) (h : ¬ pos < s.size) :
  (Instr.next (.pointer (some ⟨g, 0, none⟩)) true ty).run Tryd.prog W = .ok (.tuple #[.bool false]) W := by
 simp [Instr.next, getObj, Sem.run, hg, h]
theorem itSet_at (W : World) (g : Nat) (s : ByteArray) (p : Nat) (hg : g < W.heap.size) : (itSet W g s p).heap[g]? = some (.stringIter s p) := by
 simp [itSet, hg]
theorem itSet_size (W : World) (g : Nat) (s : ByteArray) (p : Nat) : (itSet W g s p).heap.size = W.heap.size := by simp [itSet]
theorem itSet_below (W : World) (g : Nat) (s : ByteArray) (p : Nat) : Below g W (itSet W g s p) :=
 ⟨rfl, rfl, rfl, by rw [itSet_size]; exact Nat.le_refl _, fun k hk => by simp [itSet, show g ≠ k by omega]⟩
theorem below_drewN (B : Nat) (w : World) (n : Nat) : Below B w (w.drewN n) := ⟨rfl, rfl, rfl, Nat.le_refl _, fun _ _ => rfl⟩
theorem indexRune_any (s : ByteArray) (r : Int) (w : World) (h : 128 ≤ r) (h2 : s.size = 2) (hb0 : ∀ q : 0 < s.size, (s[0]'q).toNat = 34) (hb1 : ∀ q : 1 < s.size, (s[1]'q).toNat = 10) :
  Calls Tryd.prog 50 #[.string s, .int .i32 r] w fun e w' => e = .returned (.int .i64 (-1)) ∧ Below w.heap.size w w' := by
 by_cases hr : r = 65533
 ·
  subst hr
  refine (indexRune_err s h2 hb0 hb1 w).mono ?_
  rintro e w' ⟨rfl, q, rfl⟩
  exact ⟨rfl, (Below.refl _ _).alloc (Nat.le_refl _) _⟩
 ·
  have fin : ∀ e w', (e = Ending.returned (Value.int .i64 (-1)) ∧ ∃ q, w' = w.drewN q) → e = .returned (.int .i64 (-1)) ∧ Below w.heap.size w w' := by
   rintro e w' ⟨rfl, q, rfl⟩
   exact ⟨rfl, below_drewN _ _ _⟩
  cases hv : Lib.validRune r with
  | false => exact (indexRune_bad r h hr s w hv).mono fin
  | true =>
   obtain ⟨n, hn2, hs, hl⟩ := encode_high r h
   obtain rfl | rfl | rfl : n = 0 ∨ n = 1 ∨ n = 2 := by omega
   ·
    exact (indexRune_two r h hr s h2 hb1 w hv _ rfl hs hl).mono fin
   ·
    exact (indexRune_three r h hr s h2 w hv _ rfl hs).mono fin
   ·
    exact (indexRune_four r h hr s h2 w hv _ rfl hs).mono fin
theorem noAny_more (s : ByteArray) (i k : Nat) (hno : Lib.NoAny s.data.toList [34, 10] i) (hk : i + k ≤ s.size) (hh : ∀ j, j < k → 128 ≤ (s.get! (i + j)).toNat) : Lib.NoAny s.data.toList [34, 10] (i + k) := by
 intro j b hj hb
 by_cases hji : j < i
 ·
  exact hno j b hji hb
 ·
  have hjs : j < s.size := by omega
  have e := Lib.data_getElem? s j hjs
  rw [e] at hb
  obtain rfl := Option.some.inj hb
  have := hh (j - i) (by omega)
  rw [show i + (j - i) = j by omega] at this
  have e2 : s.get! j = s[j]'hjs := get_at s j hjs
  rw [e2] at this
  rw [Bool.eq_false_iff]
  intro hc
  simp only [List.contains_cons, List.contains_nil, Bool.or_false, Bool.or_eq_true, beq_iff_eq] at hc
  rcases hc with hc | hc <;> (rw [hc] at this; exact absurd this (by decide))
set_option maxHeartbeats 8000000 in
set_option maxRecDepth 1000000 in
theorem indexAny_short (s chars : ByteArray) (w : World) (h2 : chars.size = 2) (hl : chars.data.toList = [34, 10]) (hb0 : ∀ q : 0 < chars.size, (chars[0]'q).toNat = 34) (hb1 : ∀ q : 1 < chars.size, (chars[1]'q).toNat = 10) (h8 : s.size ≤ 8) :
  Calls Tryd.prog 42 #[.string s, .string chars] w fun e w' => e = .returned (.int .i64 (Lib.indexAny s.data.toList [34, 10])) ∧ Below w.heap.size w w' := by
 have HB0 : Aside (∀ q : 0 < chars.size, (chars[0]'q).toNat = 34) := hb0
 have HB1 : Aside (∀ q : 1 < chars.size, (chars[1]'q).toNat = 10) := hb1
 have HL : Aside (chars.data.toList = [34, 10]) := hl
 have H2 : Aside (chars.size = 2) := h2
 have hemp : chars.toList.isEmpty = false := by rw [Lib.toList_data, hl]; rfl
 have hn0 : (chars.toList == []) = false := by rw [Lib.toList_data, hl]; rfl
 have hn1 : ((chars.size : Int) == 1) = false := beq_eq_false_iff_ne.2 (by omega)
 have h8z : decide ((8 : Int) < (s.size : Int)) = false := decide_eq_false (by omega)
 clear hb0 hb1 hl h2
 have e50 : ∀ args w, (callFunc 50 args).run Tryd.prog w = .ok (.enter 50 args) w := enters_of Tryd.func50 (by kernel_rfl) rfl
 have e51 : ∀ args w, (callFunc 51 args).run Tryd.prog w = .ok (.enter 51 args) w := enters_of Tryd.func51 (by kernel_rfl) rfl
 go_enter Tryd.func42, Tryd.ntmps42
 go_wp2_with (go_at_fn 51; refine (Tryd.strings_shouldUseASCIISet _ _).mono ?_; rintro e w' ⟨rfl, hw⟩; rw [hw, h8z])
 go_loopg [9, 10] s.size (fun g _ _ wx => ∃ i : Nat, i + g = s.size ∧ Aside (wx.heap[w.heap.size]? = some (.stringIter s i)) ∧ Aside (Below w.heap.size w wx) ∧ Aside (Lib.NoAny s.data.toList [34, 10] i))
 case atStart => exact ⟨0, by omega, World.iter_heap _ _ _, (Below.refl _ _).alloc (Nat.le_refl _) _, Lib.NoAny.zero _ _⟩
 case round =>
  obtain ⟨i, hig, HI, HW, HN⟩ := hrel
  by_cases hi : i < s.size
  ·
   have hnx := fun ty => run_next_in wr w.heap.size s i ty HI.out hi
   have hlt : w.heap.size < wr.heap.size := by
    rcases Nat.lt_or_ge w.heap.size wr.heap.size with h | h
    ·
     exact h
    ·
     have := HI.out; rw [Array.getElem?_eq_none h] at this; cases this
   obtain ⟨x, hx⟩ : ∃ x : UInt8, s[i]'hi = x := ⟨_, rfl⟩
   have hxl : s.data.toList[i]? = some x := by rw [← hx]; exact Lib.data_getElem? s i hi
   by_cases hx128 : x.toNat < 128
   ·
    rw [decode_ascii s i hi (by rw [hx]; exact hx128), hx] at hnx
    have Hx : Aside (s.data.toList[i]? = some x) := hxl
    have hback : ((x.toNat : Int)).toNat.toUInt8 = x := by simp
    have HI' : Aside ((itSet wr w.heap.size s (i + 1)).heap[w.heap.size]? = some (.stringIter s (i + 1))) := itSet_at _ _ _ _ hlt
    have HW' : Aside (Below w.heap.size w (itSet wr w.heap.size s (i + 1))) := HW.out.trans (itSet_below _ _ _ _)
    have hcon := Lib.contains_iff_indexByte [34, 10] x
    clear hxl hx HI HW
    generalize hW1 : itSet wr w.heap.size s (i + 1) = W1 at *
    clear hW1
    cases hin : ([34, 10] : List UInt8).contains x
    ·
     rw [hin] at hcon
     have hlt0 : ¬ ((0 : Int) ≤ Lib.indexByte [34, 10] x) := of_decide_eq_false hcon.symm
     clear hcon
     go_wp2_with (go_at_fn 50; refine (Tryd.strings_IndexRune_ascii _ _ _ (by omega) (by omega)).mono ?_; rintro e w' ⟨rfl, hw⟩; rw [hw, hback, HL.out])
     go_roundg (s.size - (i + 1))
     case measure => omega
     case rel => exact ⟨i + 1, by omega, HI', HW', HN.out.succ Hx.out hin⟩
    ·
     rw [hin] at hcon
     have hge : (0 : Int) ≤ Lib.indexByte [34, 10] x := of_decide_eq_true hcon.symm
     clear hcon
     go_wp2_with (go_at_fn 50; refine (Tryd.strings_IndexRune_ascii _ _ _ (by omega) (by omega)).mono ?_; rintro e w' ⟨rfl, hw⟩; rw [hw, hback, HL.out])
     go_ret
     exact ⟨by rw [Lib.indexAny_hit HN.out Hx.out hin]; rfl, HW'.out⟩
   ·
    have hd := decode_high s i hi (by rw [hx]; omega)
    have hdb := decode_bytes s i hi (by rw [hx]; omega)
    have HN' : Aside (Lib.NoAny s.data.toList [34, 10] (i + (Utf8.decode s i).2)) := noAny_more s i _ HN.out hdb.1 hdb.2
    obtain ⟨k, hk⟩ : ∃ k : Nat, (Utf8.decode s i).2 = k := ⟨_, rfl⟩
    obtain ⟨rr, hrr⟩ : ∃ rr : Int, ((Utf8.decode s i).1 : Int) = rr := ⟨_, rfl⟩
    have hk1 : 1 ≤ k := by rw [← hk]; exact hd.2
    have hks : i + k ≤ s.size := by rw [← hk]; exact hdb.1
    have hr128 : 128 ≤ rr := by have := hd.1; omega
    rw [hk] at HN'
    rw [hk, hrr] at hnx
    have HI' : Aside ((itSet wr w.heap.size s (i + k)).heap[w.heap.size]? = some (.stringIter s (i + k))) := itSet_at _ _ _ _ hlt
    have HW' : Aside (Below w.heap.size w (itSet wr w.heap.size s (i + k))) := HW.out.trans (itSet_below _ _ _ _)
    have hsz : (itSet wr w.heap.size s (i + k)).heap.size = wr.heap.size := itSet_size _ _ _ _
    clear hd hdb hk hrr hxl hx HI HW HN
    generalize hW1 : itSet wr w.heap.size s (i + k) = W1 at *
    clear hW1
    have HZ : Aside (w.heap.size < W1.heap.size) := show w.heap.size < W1.heap.size by omega
    clear hlt hsz
    go_wp2_with (go_at_fn 50; refine (indexRune_any _ _ _ hr128 H2.out HB0.out HB1.out).mono ?_; rintro e w1 ⟨rfl, hb⟩; have Hb : Aside (Below W1.heap.size W1 w1) := hb; clear hb)
    go_roundg (s.size - (i + k))
    case measure => omega
    case rel => exact ⟨i + k, by omega, (show _ = _ by rw [Hb.out.block _ HZ.out]; exact HI'.out), HW'.out.trans (Hb.out.mono (Nat.le_of_lt HZ.out)), HN'⟩
  ·
   obtain rfl : i = s.size := by omega
   have hnx := fun ty => run_next_out wr w.heap.size s s.size ty HI.out hi
   go_wp2
   go_ret
   exact ⟨by rw [Lib.indexAny_none (by rw [← Lib.size_eq]; exact HN.out)]; rfl, HW.out⟩
theorem indexAny_quote (s : ByteArray) (w : World) (hs : s.size < 4294967281) :
  Calls Tryd.prog 42 #[.string s, .string ⟨#[34, 10]⟩] w fun e w' => e = .returned (.int .i64 (Lib.indexAny s.data.toList [34, 10])) ∧ Below w.heap.size w w' := by
 by_cases h8 : 8 < s.size
 ·
  exact indexAny_long s w h8 hs
 ·
  exact indexAny_short s ⟨#[34, 10]⟩ w rfl rfl (fun _ => rfl) (fun _ => rfl) (by omega)
end Go.Proofs.YthjmbagkomnpgaaDoor.L
