/- What the reference's Bit, Field and Put (layer 1) compute, as plain arithmetic. -/
import Derived.Test.YtehbhpkmlmeblaaBits
import Derived.Test.YtehbhpkmlmeblaaQx4
namespace Go.Proofs.Ytehbhpkmlmeblaa.Ref01
open Go.RowKit Go.Proofs.YtehbhpkmlmeblaaW.PrintWords Go.Proofs.YtehbhpkmlmeblaaW.PrintLast Go.Proofs.YtehbhpkmlmeblaaW.PrintMore Go.Proofs.Ytehbhpkmlmeblaa.Bits Go.Proofs.Ytehbhpkmlmeblaa.Q
set_option linter.unusedVariables false
set_option linter.unusedSimpArgs false

theorem shr_u64 (a : Nat) (i : Nat) (hi : i < 64) : shr .u64 (a : Int) (i : Int) = ((a / 2 ^ i : Nat) : Int) := by
  have hm : min ((i : Int)).toNat IntKind.u64.bits = i := by
    have : IntKind.u64.bits = 64 := rfl
    rw [this]; omega
  unfold shr
  rw [hm, Int.natCast_ediv]; rfl

end Go.Proofs.Ytehbhpkmlmeblaa.Ref01
