import Derived.Test.YtmjnenjeckeklaaDoorChecked
import Derived.Lib.Strings
import Derived.Lib.Slices
import Derived.Lib.Small
import Derived.Lib.Walk
import Derived.Lib.BitFns
namespace Go.Proofs.YtmjnenjeckeklaaDoor.HLen64
set_option maxHeartbeats 4000000 in
set_option maxRecDepth 100000 in
theorem len64 (a0 : Int) (w : World) (h0 : 0 ≤ a0) (h1 : a0 ≤ 18446744073709551615) :
    Calls Tryd.prog 69 #[.int .u64 a0] w fun e w' => e = .returned (.int .i64 (Lib.bitLen a0.toNat)) ∧ w' = w := by
  go_enter Tryd.func69, Tryd.ntmps69
  go_wp2
  all_goals (go_ret; refine ⟨congrArg Ending.returned (congrArg (Value.int IntKind.i64) ?_), rfl⟩)
  all_goals first
    | (rw [Lib.len8_of (a0 / 4294967296 / 65536 / 256 % 256) (by omega) (by omega)]
       have e : (a0 / 4294967296 / 65536 / 256 % 256).toNat = a0.toNat / 72057594037927936 := by omega
       have l := Lib.bitLen_le8' (a0 / 4294967296 / 65536 / 256 % 256) (by omega) (by omega)
       have s := Lib.bitLen_shift56 a0.toNat (by omega) (by omega)
       rw [e] at l ⊢
       omega)
    | (rw [Lib.len8_of (a0 / 4294967296 / 65536 % 256) (by omega) (by omega)]
       have e : (a0 / 4294967296 / 65536 % 256).toNat = a0.toNat / 281474976710656 := by omega
       have l := Lib.bitLen_le8' (a0 / 4294967296 / 65536 % 256) (by omega) (by omega)
       have s := Lib.bitLen_shift48 a0.toNat (by omega) (by omega)
       rw [e] at l ⊢
       omega)
    | (rw [Lib.len8_of (a0 / 4294967296 / 256 % 256) (by omega) (by omega)]
       have e : (a0 / 4294967296 / 256 % 256).toNat = a0.toNat / 1099511627776 := by omega
       have l := Lib.bitLen_le8' (a0 / 4294967296 / 256 % 256) (by omega) (by omega)
       have s := Lib.bitLen_shift40 a0.toNat (by omega) (by omega)
       rw [e] at l ⊢
       omega)
    | (rw [Lib.len8_of (a0 / 4294967296 % 256) (by omega) (by omega)]
       have e : (a0 / 4294967296 % 256).toNat = a0.toNat / 4294967296 := by omega
       have l := Lib.bitLen_le8' (a0 / 4294967296 % 256) (by omega) (by omega)
       have s := Lib.bitLen_shift32 a0.toNat (by omega) (by omega)
       rw [e] at l ⊢
       omega)
    | (rw [Lib.len8_of (a0 / 65536 / 256 % 256) (by omega) (by omega)]
       have e : (a0 / 65536 / 256 % 256).toNat = a0.toNat / 16777216 := by omega
       have l := Lib.bitLen_le8' (a0 / 65536 / 256 % 256) (by omega) (by omega)
       have s := Lib.bitLen_shift24 a0.toNat (by omega) (by omega)
       rw [e] at l ⊢
       omega)
    | (rw [Lib.len8_of (a0 / 65536 % 256) (by omega) (by omega)]
       have e : (a0 / 65536 % 256).toNat = a0.toNat / 65536 := by omega
       have l := Lib.bitLen_le8' (a0 / 65536 % 256) (by omega) (by omega)
       have s := Lib.bitLen_shift16 a0.toNat (by omega) (by omega)
       rw [e] at l ⊢
       omega)
    | (rw [Lib.len8_of (a0 / 256 % 256) (by omega) (by omega)]
       have e : (a0 / 256 % 256).toNat = a0.toNat / 256 := by omega
       have l := Lib.bitLen_le8' (a0 / 256 % 256) (by omega) (by omega)
       have s := Lib.bitLen_shift8 a0.toNat (by omega) (by omega)
       rw [e] at l ⊢
       omega)
    | (rw [Lib.len8_of (a0 % 256) (by omega) (by omega)]
       have e : (a0 % 256).toNat = a0.toNat := by omega
       have l := Lib.bitLen_le8' (a0 % 256) (by omega) (by omega)
       rw [e] at l ⊢
       omega)
end Go.Proofs.YtmjnenjeckeklaaDoor.HLen64
