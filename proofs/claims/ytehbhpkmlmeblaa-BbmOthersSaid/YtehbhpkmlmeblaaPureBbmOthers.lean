import Derived.Test.YtehbhpkmlmeblaaBbmLib
namespace Go.Proofs.Ytehbhpkmlmeblaa.V
open Go Go.RowKit Go.Proofs Go.Proofs.Ytehbhpkmlmeblaa.Q Go.Proofs.Ytehbhpkmlmeblaa.PteLib Go.Proofs.YtehbhpkmlmeblaaW.PrintWords Go.Proofs.Ytehbhpkmlmeblaa.Bits
set_option linter.unusedVariables false
set_option linter.unusedSimpArgs false
set_option maxRecDepth 100000
theorem order_0 : bbm_order.f 0 = some 9 := by kernel_rfl
theorem order_1 : bbm_order.f 1 = some 6 := by kernel_rfl
theorem order_2 : bbm_order.f 2 = some 3 := by kernel_rfl
theorem order_3 : bbm_order.f 3 = some 0 := by kernel_rfl
theorem pow_9 : IntKind.i64.wrap (1 * 2 ^ min (9 : Int).toNat IntKind.i64.bits) = 512 := by kernel_rfl
theorem pow_6 : IntKind.i64.wrap (1 * 2 ^ min (6 : Int).toNat IntKind.i64.bits) = 64 := by kernel_rfl
theorem pow_3 : IntKind.i64.wrap (1 * 2 ^ min (3 : Int).toNat IntKind.i64.bits) = 8 := by kernel_rfl
theorem pow_0 : IntKind.i64.wrap (1 * 2 ^ min (0 : Int).toNat IntKind.i64.bits) = 1 := by kernel_rfl
theorem order_of {lv : Int} (h0 : 0 ≤ lv) (h3 : lv ≤ 3) : ∃ r, bbm_order.f lv = some r ∧ 0 ≤ r ∧ IntKind.i64.wrap (1 * 2 ^ min r.toNat IntKind.i64.bits) = many lv := by
  have : lv = 0 ∨ lv = 1 ∨ lv = 2 ∨ lv = 3 := by omega
  rcases this with rfl | rfl | rfl | rfl
  · exact ⟨9, order_0, by omega, pow_9⟩
  · exact ⟨6, order_1, by omega, pow_6⟩
  · exact ⟨3, order_2, by omega, pow_3⟩
  · exact ⟨0, order_3, by omega, pow_0⟩
def gapOf (a b e x : Int) : Gap := ⟨a, b, e, many b, List.replicate (many b).toNat false, x⟩
theorem write_shut {a b c d e x : Int} {clk : Nat} {key : Int × Int} (h : MayP a b c d e) (x0 : 0 ≤ x) (x1 : x < 18446744073709551616) (hx : x % 2 = 1) :
    Write.f 1000 ⟨key, none, clk, false⟩ a b c d e x 0 = some (⟨(c, d), some (clk, gapOf a b e x), clk + 1, false⟩, none) := by
  obtain ⟨r, h1, h2, h3⟩ := order_of h.b0 h.b1
  have h4 : (bitI .and .u64 x 1 == 1) = true := by rw [bitI_and, and1 x x0 x1, hx]; rfl
  have h5 : (bitI .and .u64 0 1 == 0) = true := by kernel_rfl
  have hp := @many_pos b
  have hle : many b ≤ 1000000000 := by unfold many; repeat' split; all_goals omega
  simp only [Write.f, Write0.f, own_may h, change_l h.b0 h.b1 x0 x1, Option.bind_some, Bool.not_true, cond_false, h4, h5, cond_true, h1, decide_eq_true h2, h3, decide_eq_true (show 0 ≤ many b by omega), decide_eq_true hle, Bool.and_self, Option.beq_none, Option.isNone_none]
  rfl
theorem write_open {a b c d e x : Int} {clk : Nat} {key : Int × Int} (h : MayP a b c d e) (x0 : 0 ≤ x) (x1 : x < 18446744073709551616) (hx : x % 2 = 1) :
    Write.f 1000 ⟨key, none, clk, false⟩ a b c d e 0 x = some (⟨(c, d), none, clk, false⟩, none) := by
  have h4 : (bitI .and .u64 x 1 == 1) = true := by rw [bitI_and, and1 x x0 x1, hx]; rfl
  have h5 : (bitI .and .u64 0 1 == 0) = true := by kernel_rfl
  have h6 : (bitI .and .u64 0 1 == 1) = false := by kernel_rfl
  simp only [Write.f, Write0.f, own_may h, change_r h.b0 h.b1 x0 x1, Option.bind_some, Bool.not_true, cond_false, h4, h5, h6, cond_true, Option.beq_none, Option.isNone_none]
theorem space_other {k clk born : Nat} {key : Int × Int} {g : Gap} {br : Bool} {o : Int} (h : g.asid ≠ o) : Space.f k ⟨key, some (born, g), clk, br⟩ o = some ⟨key, some (born, g), clk, br⟩ := by
  have : (g.asid == o) = false := by simpa using h
  simp only [Space.f, Space1.f, this, cond_false]
theorem told_other {k clk born : Nat} {key : Int × Int} {g : Gap} {br : Bool} {o p : Int} (h : g.asid ≠ o) : Told.f k ⟨key, some (born, g), clk, br⟩ o p = some ⟨key, some (born, g), clk, br⟩ := by
  have : (g.asid == o) = false := by simpa using h
  simp only [Told.f, Told1.f, this, cond_false]
theorem open_one {k clk born : Nat} {key : Int × Int} {g : Gap} {br : Bool} (h : 0 < g.left) : Open.f k ⟨key, some (born, g), clk, br⟩ = some (⟨key, some (born, g), clk, br⟩, 1) := by
  simp only [Open.f, Open1.f, decide_eq_true (show g.left > 0 from h), cond_true]
  rfl
theorem open_none {k clk : Nat} {key : Int × Int} {br : Bool} : Open.f k ⟨key, none, clk, br⟩ = some (⟨(0, 0), none, clk, br⟩, 0) := rfl
theorem forget_hit {k clk born : Nat} {c d : Int} {g : Gap} {br : Bool} (d0 : 0 ≤ d) (d1 : d ≤ 7) : Forget.f k ⟨(c, d), some (born, g), clk, br⟩ c = some ⟨(c, d), none, clk, br⟩ := by
  have : d = 0 ∨ d = 1 ∨ d = 2 ∨ d = 3 ∨ d = 4 ∨ d = 5 ∨ d = 6 ∨ d = 7 := by omega
  rcases this with rfl | rfl | rfl | rfl | rfl | rfl | rfl | rfl <;> simp [Forget.f, Forget1.f]
theorem wrap_small {x : Int} (h0 : 0 ≤ x) (h1 : x < 1000000) : IntKind.i64.wrap x = x := by
  simp only [IntKind.wrap, IntKind.bits, IntKind.signed]
  simp
  omega
theorem others_loop {a b c d e x y o : Int} {r1 r4 : Bool} {r2 r3 : Watch} {q1 q2 : Watch × Option Int} {r25 : Watch} {clk born : Nat} {key : Int × Int} {g : Gap} {w2 : Watch} (hm : MayP a b c d e) (hg : g.asid ≠ o) (hl : 0 < g.left) (hr : r1 = true)
    (hw2 : w2 = ⟨(c, d), some (born, gapOf a b e x), clk, false⟩) (y0 : 0 ≤ y) (y1 : y < 18446744073709551616) (hy : y % 2 = 1) : ∀ (n : Nat) (i : Int), 0 ≤ i → i ≤ many b → many b - i < n →
    BbmOthers.l1 1000 a o b c d e x y r1 r2 r3 r4 q1 q2 r25 n ⟨key, some (born, g), clk, false⟩ w2 i = some true := by
  intro n
  induction n with
  | zero => intro i h0 h1 h2; omega
  | succ n ih =>
    intro i h0 h1 h2
    have hle : many b ≤ 512 := by unfold many; repeat' split; all_goals omega
    unfold BbmOthers.l1
    simp only [many_of hm.b0 hm.b1, Option.bind_some]
    by_cases hi : i < many b
    · simp only [decide_eq_true hi, cond_true, told_other hg, Option.bind_some]
      rw [wrap_small (x := i + 1) (by omega) (by omega)]
      exact ih (i + 1) (by omega) (by omega) (by omega)
    · subst hw2; subst hr
      simp only [decide_eq_false hi, cond_false, open_one hl, Option.bind_some, Broken.f, bne_self_eq_false, forget_hit hm.d0 hm.d1, write_open hm y0 y1 hy, open_none, cond_true, beq_self_eq_true, Bool.not_false]
theorem tmod2 {x : Int} (x0 : 0 ≤ x) : ((x.tmod 2) == 0) = (x % 2 == 0) := by rw [Int.tmod_eq_emod_of_nonneg x0]
theorem others (a o b c d e x y : Int) (x0 : 0 ≤ x) (x1 : x < 18446744073709551616) (y0 : 0 ≤ y) (y1 : y < 18446744073709551616) : BbmOthers.f 1000 a o b c d e x y = some true := by
  obtain ⟨m, h1, h2⟩ := ref_may a b c d e
  unfold BbmOthers.f
  simp only [up_true, New.f, Option.bind_some, h1, cond_true]
  cases m with
  | false => rfl
  | true =>
    have hm := h2 rfl
    simp only [Bool.not_true, cond_false]
    by_cases hb : b = 0
    · subst hb; rfl
    have hb' : (b == 0) = false := by simpa using hb
    rw [hb', tmod2 x0, tmod2 y0]
    by_cases hx : x % 2 = 0
    · simp [hx]
    have hx' : (x % 2 == 0) = false := by simpa using hx
    by_cases hy : y % 2 = 0
    · simp [hx', hy]
    have hy' : (y % 2 == 0) = false := by simpa using hy
    by_cases ho : a = o
    · subst ho; simp [hx', hy']
    have ho' : (a == o) = false := by simpa using ho
    have hx2 : x % 2 = 1 := by omega
    have hy2 : y % 2 = 1 := by omega
    simp only [hx', hy', ho', cond_false, write_shut hm x0 x1 hx2, Option.bind_some]
    rw [space_other (g := gapOf a b e x) ho]
    simp only [Option.bind_some]
    have hle : many b ≤ 512 := by unfold many; repeat' split; all_goals omega
    have hp := @many_pos b
    exact others_loop hm (g := gapOf a b e x) ho hp rfl rfl y0 y1 hy2 1000 0 (by omega) (by omega) (by omega)
end Go.Proofs.Ytehbhpkmlmeblaa.V
