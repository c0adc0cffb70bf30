-- Written by this session's own programs; what the law does not lean on is left out. Lean checks it.
import Derived.Test.YtejgenhmhahgeaaDoorGS
import Derived.Test.YtejgenhmhahgeaaDoorGQ
import Derived.Test.YtejgenhmhahgeaaDoorGTx24
namespace Go.Proofs.YtejgenhmhahgeaaDoor.T
open Go.RowKit Go.Proofs.YtejgenhmhahgeaaDoorW.PrintWords Go.Proofs.YtejgenhmhahgeaaDoorW.PrintLast Go.Proofs.YtejgenhmhahgeaaDoorW.PrintMore
set_option linter.unusedVariables false
set_option linter.unusedSimpArgs false

def findO (p : S63 → Option Bool) : List S63 → Int → Option Int
 | [], _ => some (-1)
 | x :: r, i => (p x).bind fun b => if b = true then some i else findO p r (i + 1)
theorem findO_at (p : S63 → Option Bool) (l : List S63) (i : Nat) (hi : i < l.length) (n : Int) : findO p (l.drop i) n = (p (l.getD i z63)).bind fun b => if b = true then some n else findO p (l.drop (i + 1)) (n + 1) := by
 rw [List.drop_eq_getElem_cons hi]
 have e : l.getD i z63 = l[i] := by rw [List.getD_eq_getElem?_getD, List.getElem?_eq_getElem hi]; rfl
 rw [e]
 rfl
theorem fair_lit.eg : ∀ args w, (callFunc 40 args).run Tryd.prog w = .ok (.enter 40 args) w := enters_of Tryd.func40 (by kernel_rfl) rfl
set_option maxHeartbeats 4000000 in
set_option maxRecDepth 100000 in
theorem fair_idx.calls (A0 : Option Addr) (c0 : Nat) (l0 : List S63) (a1_0 : ByteArray) (A1_1 : Option Addr) (c1_1 : Nat) (l1_1 : List S63) (g : Nat) (r : Int) (w : World) (hr0 : Kd.C k63 w A0 l0.length l0) (hc0 : l0.length ≤ c0) (hr1_1 : Kd.C k63 w A1_1 l1_1.length l1_1) (hc1_1 : l1_1.length ≤ c1_1) (hlen : l0.length ≤ 100000) (hgb : w.heap[g]? = some (.cells #[.string a1_0, .slice A1_1 l1_1.length c1_1] 29 (0, 0))) (h : findO (fun x => tariff_Fair_c1.f x.f0 x.f1 a1_0 l1_1) l0 0 = some r) :
  Calls Tryd.prog 58 #[.slice A0 l0.length c0, .func (.func 40) #[] #[.pointer (some ⟨g, 0, none⟩)]] w fun e w' => e = .returned (.int .i64 r) ∧ Below w.heap.size w w' := by
 have hu := Tryd.underlying63
 have eg := fair_lit.eg
 have HR0 := Aside0.mk hr0
 have HR1 := Aside0.mk hr1_1
 have HC1 := Aside0.mk hc1_1
 have BK := Aside0.mk hgb
 have HB := Aside0.mk (Below.refl w.heap.size w)
 have HL := Aside0.mk hlen
 have HC0 := Aside0.mk hc0
 have H := Aside0.mk h
 clear hr0 hc0 hr1_1 hc1_1 hgb hlen h
 go_enter Tryd.func58, Tryd.ntmps58
 go_wp2
 go_loopg [8] l0.length (fun kq v8 w' => ∃ i : Nat, v8 = .int .i64 (i : Int) ∧ Aside0 (i + kq = l0.length) ∧ Aside0 (findO (fun x => tariff_Fair_c1.f x.f0 x.f1 a1_0 l1_1) (l0.drop i) (i : Int) = some r) ∧ Aside0 (Below w.heap.size w w'))
 case atStart => exact ⟨0, rfl, ⟨by omega⟩, H, HB⟩
 case round =>
  clear HB H
  obtain ⟨i, rfl, HI, HN, HB⟩ := hrel
  cases gk with
  | zero =>
   have hi : i = l0.length := by have := HI.out; omega
   have c1 : decide ((i : Int) < (l0.length : Int)) = false := decide_eq_false (by omega)
   have c2 : decide (i < l0.length) = false := decide_eq_false (by omega)
   obtain rfl : (-1 : Int) = r := Option.some.inj ((by rw [hi, List.drop_length]; rfl : some (-1 : Int) = findO (fun x => tariff_Fair_c1.f x.f0 x.f1 a1_0 l1_1) (l0.drop i) (i : Int)).trans HN.out)
   clear hi
   go_wp2
   go_ret
   exact ⟨rfl, HB.out⟩
  | succ k1 =>
   have hi : i < l0.length := by have := HI.out; omega
   have c1 : decide ((i : Int) < (l0.length : Int)) = true := decide_eq_true (by omega)
   have c2 : decide (i < l0.length) = true := decide_eq_true hi
   have c3 : ((i : Int) < (l0.length : Int)) = True := eq_true (by omega)
   have c4 : (0 ≤ (i : Int)) = True := eq_true (by omega)
   obtain ⟨ad, e1, hx0, hx1⟩ := at_T63 HR0.out (i : Int) (by omega) (by omega)
   cases e1
   rw [Int.toNat_natCast] at hx0 hx1
   replace hx0 := (HB.out.cell (World.block_lt_of_cell? w _ hx0)).trans hx0
   replace hx1 := (HB.out.cell (World.block_lt_of_cell? w _ hx1)).trans hx1
   have HX : Aside0 (rd_T63 l0 (i : Int) = l0.getD i z63) := ⟨by unfold rd_T63; rw [Int.toNat_natCast]⟩
   have HW := Aside0.mk (wrap_i i (by have := HL.out; omega))
   have hn := HN.out
   rw [findO_at _ _ _ hi, ← HX.out] at hn
   clear HN hi
   generalize hX : rd_T63 l0 (i : Int) = X at hx0 hx1 HX hn
   clear hX HX
   obtain ⟨b, hb, hn⟩ := Option.bind_eq_some_iff.mp hn
   have HQ := Aside0.mk hb
   clear hb
   cases b with
   | true =>
    rw [if_pos rfl] at hn
    obtain rfl := Option.some.inj hn
    clear hn
    go_wp2_with (go_at_fn 40; refine (tariff_Fair_c1.calls X.f0 X.f1 a1_0 A1_1 c1_1 l1_1 g true _ (Kd.C_below HR1.out HB.out) HC1.out (blk_below BK.out HB.out) HQ.out).mono ?_; rintro e w1 ⟨rfl, hb⟩; have HB2 := Aside0.mk (HB.out.trans (hb.mono HB.out.size)); clear hb)
    go_ret
    exact ⟨rfl, HB2.out⟩
   | false =>
    rw [if_neg (by decide)] at hn
    have HN := Aside0.mk hn
    clear hn
    go_wp2_with (go_at_fn 40; refine (tariff_Fair_c1.calls X.f0 X.f1 a1_0 A1_1 c1_1 l1_1 g false _ (Kd.C_below HR1.out HB.out) HC1.out (blk_below BK.out HB.out) HQ.out).mono ?_; rintro e w1 ⟨rfl, hb⟩; have HB2 := Aside0.mk (HB.out.trans (hb.mono HB.out.size)); clear hb)
    go_roundg k1
    case measure => omega
    case rel => exact ⟨i + 1, congrArg (Value.int .i64) HW.out, ⟨by have := HI.out; omega⟩, ⟨by have := HN.out; rwa [Int.natCast_add]⟩, HB2⟩
def fair_has.f (l0 : List S63) (a1_0 : ByteArray) (l1_1 : List S63) : Option Bool := if l0.length ≤ 100000 then ((findO (fun x => tariff_Fair_c1.f x.f0 x.f1 a1_0 l1_1) l0 0).bind fun n => some (decide (0 ≤ n))) else none
set_option maxHeartbeats 2000000 in
set_option maxRecDepth 100000 in
theorem fair_has.calls (A0 : Option Addr) (c0 : Nat) (l0 : List S63) (a1_0 : ByteArray) (A1_1 : Option Addr) (c1_1 : Nat) (l1_1 : List S63) {g : Nat} (r : Bool) (w : World) (hr0 : Kd.C k63 w A0 l0.length l0) (hc0 : l0.length ≤ c0) (hr1_1 : Kd.C k63 w A1_1 l1_1.length l1_1) (hc1_1 : l1_1.length ≤ c1_1) (hgb : w.heap[g]? = some (.cells #[.string a1_0, .slice A1_1 l1_1.length c1_1] 29 (0, 0))) (h : fair_has.f l0 a1_0 l1_1 = some r) :
  Calls Tryd.prog 39 #[.slice A0 l0.length c0, .func (.func 40) #[] #[.pointer (some ⟨g, 0, none⟩)]] w fun e w' => e = .returned (.bool r) ∧ Below w.heap.size w w' := by
 unfold fair_has.f at h
 by_cases hlen : l0.length ≤ 100000
 ·
  rw [if_pos hlen] at h
  obtain ⟨n, hn, hr⟩ := Option.bind_eq_some_iff.mp h
  obtain rfl := Option.some.inj hr
  have HN := Aside0.mk hn
  have BK := Aside0.mk hgb
  have HR1 := Aside0.mk hr1_1
  have HC1 := Aside0.mk hc1_1
  have HR0 := Aside0.mk hr0
  have HC0 := Aside0.mk hc0
  have HL := Aside0.mk hlen
  clear hn hr0 hc0 hlen h hgb hr1_1 hc1_1 hr
  go_enter Tryd.func39, Tryd.ntmps39
  go_wp2_with (go_at_call 58; refine (fair_idx.calls A0 c0 l0 a1_0 A1_1 c1_1 l1_1 g n _ HR0.out HC0.out HR1.out HC1.out HL.out BK.out HN.out).mono ?_; rintro e w1 ⟨rfl, hb⟩; have HB := Aside0.mk hb; clear hb)
  go_ret
  exact ⟨rfl, HB.out⟩
 ·
  rw [if_neg hlen] at h
  exact absurd h (by simp)

end Go.Proofs.YtejgenhmhahgeaaDoor.T
