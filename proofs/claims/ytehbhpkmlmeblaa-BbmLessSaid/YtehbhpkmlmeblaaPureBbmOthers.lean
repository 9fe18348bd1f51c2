import Derived.Test.YtehbhpkmlmeblaaBbmLib
namespace Go.Proofs.Ytehbhpkmlmeblaa.V
open Go Go.RowKit Go.Proofs Go.Proofs.Ytehbhpkmlmeblaa.Q Go.Proofs.Ytehbhpkmlmeblaa.PteLib Go.Proofs.YtehbhpkmlmeblaaW.PrintWords Go.Proofs.Ytehbhpkmlmeblaa.Bits
set_option linter.unusedVariables false
set_option linter.unusedSimpArgs false
set_option maxRecDepth 100000
theorem order_0 : bbm_order.f 0 = some 9 := by kernel_rfl
theorem order_1 : bbm_order.f 1 = some 6 := by kernel_rfl
theorem order_2 : bbm_order.f 2 = some 3 := by kernel_rfl
theorem order_3 : bbm_order.f 3 = some 0 := by kernel_rfl
theorem pow_9 : IntKind.i64.wrap (1 * 2 ^ min (9 : Int).toNat IntKind.i64.bits) = 512 := by kernel_rfl
theorem pow_6 : IntKind.i64.wrap (1 * 2 ^ min (6 : Int).toNat IntKind.i64.bits) = 64 := by kernel_rfl
theorem pow_3 : IntKind.i64.wrap (1 * 2 ^ min (3 : Int).toNat IntKind.i64.bits) = 8 := by kernel_rfl
theorem pow_0 : IntKind.i64.wrap (1 * 2 ^ min (0 : Int).toNat IntKind.i64.bits) = 1 := by kernel_rfl
theorem order_of {lv : Int} (h0 : 0 ≤ lv) (h3 : lv ≤ 3) : ∃ r, bbm_order.f lv = some r ∧ 0 ≤ r ∧ IntKind.i64.wrap (1 * 2 ^ min r.toNat IntKind.i64.bits) = many lv := by
  have : lv = 0 ∨ lv = 1 ∨ lv = 2 ∨ lv = 3 := by omega
  rcases this with rfl | rfl | rfl | rfl
  · exact ⟨9, order_0, by omega, pow_9⟩
  · exact ⟨6, order_1, by omega, pow_6⟩
  · exact ⟨3, order_2, by omega, pow_3⟩
  · exact ⟨0, order_3, by omega, pow_0⟩
def gapOf (a b e x : Int) : Gap := ⟨a, b, e, many b, List.replicate (many b).toNat false, x⟩
theorem write_shut {a b c d e x : Int} {clk : Nat} {key : Int × Int} (h : MayP a b c d e) (x0 : 0 ≤ x) (x1 : x < 18446744073709551616) (hx : x % 2 = 1) :
    Write.f 1000 ⟨key, none, clk, false⟩ a b c d e x 0 = some (⟨(c, d), some (clk, gapOf a b e x), clk + 1, false⟩, none) := by
  obtain ⟨r, h1, h2, h3⟩ := order_of h.b0 h.b1
  have h4 : (bitI .and .u64 x 1 == 1) = true := by rw [bitI_and, and1 x x0 x1, hx]; rfl
  have h5 : (bitI .and .u64 0 1 == 0) = true := by kernel_rfl
  have hp := @many_pos b
  have hle : many b ≤ 1000000000 := by unfold many; repeat' split; all_goals omega
  simp only [Write.f, Write0.f, own_may h, change_l h.b0 h.b1 x0 x1, Option.bind_some, Bool.not_true, cond_false, h4, h5, cond_true, h1, decide_eq_true h2, h3, decide_eq_true (show 0 ≤ many b by omega), decide_eq_true hle, Bool.and_self, Option.beq_none, Option.isNone_none]
  rfl
theorem write_open {a b c d e x : Int} {clk : Nat} {key : Int × Int} (h : MayP a b c d e) (x0 : 0 ≤ x) (x1 : x < 18446744073709551616) (hx : x % 2 = 1) :
    Write.f 1000 ⟨key, none, clk, false⟩ a b c d e 0 x = some (⟨(c, d), none, clk, false⟩, none) := by
  have h4 : (bitI .and .u64 x 1 == 1) = true := by rw [bitI_and, and1 x x0 x1, hx]; rfl
  have h5 : (bitI .and .u64 0 1 == 0) = true := by kernel_rfl
  have h6 : (bitI .and .u64 0 1 == 1) = false := by kernel_rfl
  simp only [Write.f, Write0.f, own_may h, change_r h.b0 h.b1 x0 x1, Option.bind_some, Bool.not_true, cond_false, h4, h5, h6, cond_true, Option.beq_none, Option.isNone_none]
theorem space_other {k clk born : Nat} {key : Int × Int} {g : Gap} {br : Bool} {o : Int} (h : g.asid ≠ o) : Space.f k ⟨key, some (born, g), clk, br⟩ o = some ⟨key, some (born, g), clk, br⟩ := by
  have : (g.asid == o) = false := by simpa using h
  simp only [Space.f, Space1.f, this, cond_false]
theorem told_other {k clk born : Nat} {key : Int × Int} {g : Gap} {br : Bool} {o p : Int} (h : g.asid ≠ o) : Told.f k ⟨key, some (born, g), clk, br⟩ o p = some ⟨key, some (born, g), clk, br⟩ := by
  have : (g.asid == o) = false := by simpa using h
  simp only [Told.f, Told1.f, this, cond_false]
theorem open_one {k clk born : Nat} {key : Int × Int} {g : Gap} {br : Bool} (h : 0 < g.left) : Open.f k ⟨key, some (born, g), clk, br⟩ = some (⟨key, some (born, g), clk, br⟩, 1) := by
  simp only [Open.f, Open1.f, decide_eq_true (show g.left > 0 from h), cond_true]
  rfl
theorem open_none {k clk : Nat} {key : Int × Int} {br : Bool} : Open.f k ⟨key, none, clk, br⟩ = some (⟨(0, 0), none, clk, br⟩, 0) := rfl
theorem forget_hit {k clk born : Nat} {c d : Int} {g : Gap} {br : Bool} (d0 : 0 ≤ d) (d1 : d ≤ 7) : Forget.f k ⟨(c, d), some (born, g), clk, br⟩ c = some ⟨(c, d), none, clk, br⟩ := by
  have : d = 0 ∨ d = 1 ∨ d = 2 ∨ d = 3 ∨ d = 4 ∨ d = 5 ∨ d = 6 ∨ d = 7 := by omega
  rcases this with rfl | rfl | rfl | rfl | rfl | rfl | rfl | rfl <;> simp [Forget.f, Forget1.f]
theorem wrap_small {x : Int} (h0 : 0 ≤ x) (h1 : x < 1000000) : IntKind.i64.wrap x = x := by
  simp only [IntKind.wrap, IntKind.bits, IntKind.signed]
  simp
  omega
theorem tmod2 {x : Int} (x0 : 0 ≤ x) : ((x.tmod 2) == 0) = (x % 2 == 0) := by rw [Int.tmod_eq_emod_of_nonneg x0]
end Go.Proofs.Ytehbhpkmlmeblaa.V
