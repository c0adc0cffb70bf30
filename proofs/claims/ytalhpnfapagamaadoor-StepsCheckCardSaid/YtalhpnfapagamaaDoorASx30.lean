-- Written by this session's own programs; what the law does not lean on is left out. Lean checks it.
import Derived.Test.YtalhpnfapagamaaDoorAS
namespace Go.Proofs.YtalhpnfapagamaaDoor.S
open Go.RowKit Go.Proofs.YtalhpnfapagamaaDoorW.PrintWords Go.Proofs.YtalhpnfapagamaaDoorW.PrintLast Go.Proofs.YtalhpnfapagamaaDoorW.PrintMore
set_option linter.unusedVariables false
set_option linter.unusedSimpArgs false

def strconv_Itoa.f (a0 : Int) : Option (ByteArray) := if 0 ≤ a0 ∧ a0 < 100 then (some ⟨(Lib.decDigits a0.toNat).toArray⟩) else none
set_option maxHeartbeats 2000000 in
theorem strconv_Itoa.calls (a0 : Int) (r : ByteArray) (w : World) (h : strconv_Itoa.f a0 = some r) :
  Calls Tryd.prog 26 #[.int .i64 a0] w fun e w' => e = .returned (.string r) ∧ w' = w := by
 unfold strconv_Itoa.f at h
 split at h
 ·
  next hh =>
  obtain rfl := Option.some.inj h
  have e : a0 = ((a0.toNat : Nat) : Int) := by omega
  rw [e]
  exact Tryd.strconv_Itoa_small a0.toNat (by omega) w
 ·
  exact absurd h (by simp)

end Go.Proofs.YtalhpnfapagamaaDoor.S
