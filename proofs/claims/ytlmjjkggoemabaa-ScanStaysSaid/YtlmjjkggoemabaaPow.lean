/- Powers of two: the reference's Power, shifts of one. -/
import Derived.Test.YtlmjjkggoemabaaBits
import Derived.Test.YtlmjjkggoemabaaQx4
namespace Go.Proofs.Ytlmjjkggoemabaa.Pow
open Go.RowKit Go.Proofs.YtlmjjkggoemabaaW.PrintWords Go.Proofs.YtlmjjkggoemabaaW.PrintLast Go.Proofs.YtlmjjkggoemabaaW.PrintMore Go.Proofs.Ytlmjjkggoemabaa.Bits Go.Proofs.Ytlmjjkggoemabaa.Q
set_option linter.unusedVariables false
set_option linter.unusedSimpArgs false

/-- two to an order -/
def pw (o : Int) : Int := ((2 ^ o.toNat : Nat) : Int)
theorem pw_pos (o : Int) : 1 ≤ pw o := by
  unfold pw
  have := Nat.two_pow_pos o.toNat
  omega
theorem pw_succ (o : Int) (h : 0 ≤ o) : pw (o + 1) = 2 * pw o := by
  unfold pw
  rw [show (o + 1).toNat = o.toNat + 1 by omega, Nat.pow_succ]
  push_cast
  omega
theorem pw_le {a b : Int} (h : a ≤ b) : pw a ≤ pw b := by
  unfold pw
  have := Nat.pow_le_pow_right (show 1 ≤ 2 by decide) (show a.toNat ≤ b.toNat by omega)
  omega
theorem pw_zero : pw 0 = 1 := rfl
theorem pw_le62 {o : Int} (h : o ≤ 62) : pw o ≤ 4611686018427387904 := pw_le (b := 62) h

theorem power_loop (o : Int) (ho : o ≤ 62) : ∀ (d : Nat) (i : Int), 0 ≤ i → i + d = o → Ev (fun k => paviorref01_Power.l0 k o (pw i) i) (pw o) := by
  intro d
  induction d with
  | zero =>
    intro i h0 hd
    refine Ev.step (f := fun _ => some (pw o)) (fun k => ?_) (Ev.now _)
    have : i = o := by omega
    subst this
    simp only [paviorref01_Power.l0]
    rw [if_neg (by omega)]
  | succ d ih =>
    intro i h0 hd
    refine Ev.step (fun k => ?_) (ih (i + 1) (by omega) (by omega))
    simp only [paviorref01_Power.l0]
    have h1 := pw_pos i
    have h2 := pw_succ i h0
    have h3 := pw_le62 (show i + 1 ≤ 62 by omega)
    rw [if_pos (by omega), wrap64_of (n := pw i * 2) (by omega) (by omega), wrap64_of (n := i + 1) (by omega) (by omega), show pw i * 2 = pw (i + 1) by omega]
theorem power_ev (o : Int) (h0 : 0 ≤ o) (ho : o ≤ 62) : Ev (fun k => paviorref01_Power.f k o) (pw o) := power_loop o ho o.toNat 0 (by omega) (by omega)
theorem power_le0 (o : Int) (h0 : o ≤ 0) : Ev (fun k => paviorref01_Power.f k o) 1 := by
  refine Ev.step (f := fun _ => some 1) (fun k => ?_) (Ev.now _)
  unfold paviorref01_Power.f
  simp only [paviorref01_Power.l0]
  rw [if_neg (by omega)]

theorem shl_one (o : Int) (h0 : 0 ≤ o) (ho : o ≤ 62) : shl .i64 1 o = pw o := by
  unfold shl pw
  have hm : min o.toNat IntKind.i64.bits = o.toNat := by
    have : IntKind.i64.bits = 64 := rfl
    rw [this]; omega
  rw [hm, Int.one_mul, show (2 : Int) ^ o.toNat = ((2 ^ o.toNat : Nat) : Int) by rw [Int.natCast_pow]; rfl]
  have h1 := pw_le62 ho
  have h2 := pw_pos o
  unfold pw at h1 h2
  rw [IntKind.wrap_i64]
  omega

end Go.Proofs.Ytlmjjkggoemabaa.Pow
