/- Layer 5: what may, of and Clash compute; the reference's. -/
import Derived.Test.YtfbjhioefkimbaaBits
import Derived.Test.YtfbjhioefkimbaaQx1
import Derived.Test.YtfbjhioefkimbaaQx2
import Derived.Test.YtfbjhioefkimbaaQx3
namespace Go.Proofs.Ytfbjhioefkimbaa.TlbLib
open Go.RowKit Go.Proofs.YtfbjhioefkimbaaW.PrintWords Go.Proofs.YtfbjhioefkimbaaW.PrintLast Go.Proofs.YtfbjhioefkimbaaW.PrintMore Go.Proofs.Ytfbjhioefkimbaa.Bits Go.Proofs.Ytfbjhioefkimbaa.Q
set_option linter.unusedVariables false
set_option linter.unusedSimpArgs false

def okA (n o : Int) : Prop := 0 ≤ n ∧ n ≤ 1099511627776 ∧ 0 ≤ o ∧ o ≤ 20
instance (n o : Int) : Decidable (okA n o) := by unfold okA; infer_instance
theorem may_align (n o : Int) : word_may.f n o = some (decide (okA n o)) := by
  unfold word_may.f
  by_cases a : n ≥ 0
  · rw [if_pos a]
    by_cases b : n ≤ 1099511627776
    · rw [if_pos b]
      by_cases c : o ≥ 0
      · rw [if_pos c]; exact congrArg some (decide_eq_decide.mpr (by unfold okA; omega))
      · rw [if_neg c]; exact congrArg some (decide_eq_false (by unfold okA; omega)).symm
    · rw [if_neg b]; exact congrArg some (decide_eq_false (by unfold okA; omega)).symm
  · rw [if_neg a]; exact congrArg some (decide_eq_false (by unfold okA; omega)).symm

theorem andNot_low (a o : Nat) (ha : a < 2 ^ 62) (ho : o ≤ 40) : bits .andNot .i64 (a : Int) (((2 ^ o - 1 : Nat)) : Int) = ((a / 2 ^ o * 2 ^ o : Nat) : Int) := by
  have hp := Nat.two_pow_pos o
  have hpo : 2 ^ o ≤ 2 ^ 40 := Nat.pow_le_pow_right (by decide) ho
  have h40 : (2 : Nat) ^ 40 = 1099511627776 := by decide
  have h62 : (2 : Nat) ^ 62 = 4611686018427387904 := by decide
  have ha' : a % 2 ^ 64 = a := Nat.mod_eq_of_lt (by have : (2 : Nat) ^ 64 = 18446744073709551616 := by decide
                                                    omega)
  have hb' : (2 ^ o - 1) % 2 ^ 64 = 2 ^ o - 1 := Nat.mod_eq_of_lt (by have : (2 : Nat) ^ 64 = 18446744073709551616 := by decide
                                                                      omega)
  have e64 : IntKind.i64.bits = 64 := rfl
  simp only [bits, e64, BitVec.ofInt_natCast, BitVec.toNat_and, BitVec.toNat_not, BitVec.toNat_ofNat, ha', hb']
  have key : a &&& (2 ^ 64 - 1 - (2 ^ o - 1)) = a / 2 ^ o * 2 ^ o := by
    have hm : 2 ^ o - 1 < 2 ^ 64 := by have : (2 : Nat) ^ 64 = 18446744073709551616 := by decide
                                       omega
    apply Nat.eq_of_testBit_eq
    intro i
    rw [Nat.testBit_and, show a / 2 ^ o * 2 ^ o = (a / 2 ^ o) <<< o by rw [Nat.shiftLeft_eq], Nat.testBit_shiftLeft, Nat.testBit_div_two_pow]
    have c1 : (2 ^ 64 - 1 - (2 ^ o - 1)).testBit i = (decide (i < 64) && !(2 ^ o - 1).testBit i) := by
      have := Nat.testBit_two_pow_sub_succ hm i
      rw [show 2 ^ 64 - (2 ^ o - 1 + 1) = 2 ^ 64 - 1 - (2 ^ o - 1) by omega] at this
      exact this
    rw [c1, Nat.testBit_two_pow_sub_one]
    by_cases h64 : i < 64
    · by_cases h : o ≤ i
      · simp [h64, h, show ¬ i < o by omega, Nat.sub_add_cancel h]
      · simp [h64, h, show i < o by omega]
    · have hz : a.testBit i = false := Nat.testBit_lt_two_pow (Nat.lt_of_lt_of_le ha (Nat.pow_le_pow_right (by decide) (by omega)))
      by_cases h : o ≤ i
      · simp [hz, h, Nat.sub_add_cancel h]
      · simp [hz, h]
  rw [key, IntKind.wrap_i64]
  have := Nat.div_mul_le_self a (2 ^ o)
  omega


theorem low0 : wrap64 (shl .i64 1 0 - 1) = ((2 ^ 0 - 1 : Nat) : Int) := by decide +kernel
theorem low2 : wrap64 (shl .i64 1 2 - 1) = ((2 ^ 2 - 1 : Nat) : Int) := by decide +kernel
theorem low3 : wrap64 (shl .i64 1 3 - 1) = ((2 ^ 3 - 1 : Nat) : Int) := by decide +kernel
/-- the pages of an entry -/
def pwE (o : Int) : Int := if o = 3 then 8 else if o = 2 then 4 else 1
def okE (e : S30) : Prop := 0 ≤ e.f0 ∧ e.f0 ≤ 255 ∧ 0 ≤ e.f1 ∧ e.f1 < 4096 ∧ 0 ≤ e.f3 ∧ (e.f2 = 0 ∨ e.f2 = 2 ∨ e.f2 = 3) ∧ e.f1 % pwE e.f2 = 0
instance (e : S30) : Decidable (okE e) := by unfold okE; infer_instance
def ofE (e : S30) (a p : Int) : Prop := e.f0 = a ∧ e.f1 ≤ p ∧ p < e.f1 + pwE e.f2
instance (e : S30) (a p : Int) : Decidable (ofE e a p) := by unfold ofE; infer_instance
def clashE (x y : S30) : Bool := decide (okE x ∧ okE y ∧ ofE x x.f0 (mx x.f1 y.f1) ∧ ofE y x.f0 (mx x.f1 y.f1) ∧ (x.f2 ≠ y.f2 ∨ x.f4 ≠ y.f4 ∨ x.f5 ≠ y.f5 ∨ x.f3 - x.f1 ≠ y.f3 - y.f1))
theorem Down_at (n o : Int) (m : Nat) (hm : wrap64 (shl .i64 1 o - 1) = ((2 ^ m - 1 : Nat) : Int)) (hm2 : m ≤ 40) (h0 : 0 ≤ n) (h1 : n < 4096) (ho : 0 ≤ o) (ho2 : o ≤ 20) : word_Down.f n o = some (n - n % (2 ^ m : Nat), none) := by
  unfold word_Down.f
  rw [may_align, Option.bind_some, if_pos (decide_eq_true (show okA n o from ⟨h0, by omega, ho, ho2⟩)), if_pos ho, hm]
  obtain ⟨k, rfl⟩ : ∃ k : Nat, n = k := ⟨n.toNat, by omega⟩
  rw [andNot_low k m (by have : (2 : Nat) ^ 62 = 4611686018427387904 := by decide
                         omega) hm2]
  have := Nat.div_add_mod' k (2 ^ m)
  have e : ((k / 2 ^ m * 2 ^ m : Nat) : Int) = (k : Int) - (k : Int) % ((2 ^ m : Nat) : Int) := by
    rw [← Int.natCast_emod]
    omega
  rw [e]
theorem may_eq (k : Nat) (x0 x1 x2 x3 : Int) (x4 x5 : Bool) : tlb_may.f (k + 2) x0 x1 x2 x3 x4 x5 = some (decide (okE ⟨x0, x1, x2, x3, x4, x5⟩)) := by
  have bad : ∀ (h : ¬ okE ⟨x0, x1, x2, x3, x4, x5⟩), tlb_may.j0 (k + 2) true x0 x1 x2 x3 x4 x5 = some (decide (okE ⟨x0, x1, x2, x3, x4, x5⟩)) := by
    intro h
    rw [decide_eq_false h, tlb_may.j0, if_pos rfl]
  unfold tlb_may.f
  by_cases c1 : x0 < 0
  · rw [if_pos c1]; exact bad (fun h => by have := h.1; simp only at this; omega)
  rw [if_neg c1]
  by_cases c2 : x0 > 255
  · rw [if_pos c2]; exact bad (fun h => by have := h.2.1; simp only at this; omega)
  rw [if_neg c2]
  by_cases c3 : x1 < 0
  · rw [if_pos c3]; exact bad (fun h => by have := h.2.2.1; simp only at this; omega)
  rw [if_neg c3]
  by_cases c4 : x1 ≥ 4096
  · rw [if_pos c4]; exact bad (fun h => by have := h.2.2.2.1; simp only at this; omega)
  rw [if_neg c4]
  by_cases c5 : x3 < 0
  · rw [decide_eq_true c5]; exact bad (fun h => by have := h.2.2.2.2.1; simp only at this; omega)
  rw [decide_eq_false c5, tlb_may.j0, if_neg Bool.false_ne_true]
  have key : ∀ m : Nat, wrap64 (shl .i64 1 x2 - 1) = ((2 ^ m - 1 : Nat) : Int) → m ≤ 40 → 0 ≤ x2 → x2 ≤ 20 → (x2 = 0 ∨ x2 = 2 ∨ x2 = 3) → pwE x2 = ((2 ^ m : Nat) : Int) → tlb_may.j1 (k + 1) false x0 x1 x2 x3 x4 x5 = some (decide (okE ⟨x0, x1, x2, x3, x4, x5⟩)) := by
    intro m h1 h2 h3 h4 h5 h6
    rw [tlb_may.j1, if_neg Bool.false_ne_true, Down_at x1 x2 m h1 h2 (by omega) (by omega) h3 h4, Option.bind_some]
    simp only [Option.isNone_none, if_true]
    refine congrArg some ?_
    rw [Bool.eq_iff_iff, beq_iff_eq, decide_eq_true_iff]
    unfold okE
    simp only [h6]
    constructor
    · intro h
      exact ⟨by omega, by omega, by omega, by omega, by omega, h5, by omega⟩
    · rintro ⟨_, _, _, _, _, _, h⟩
      omega
  by_cases d0 : x2 = 0
  · rw [if_pos d0]; subst d0; exact key 0 low0 (by omega) (by omega) (by omega) (.inl rfl) (by decide)
  rw [if_neg d0]
  by_cases d2 : x2 = 2
  · rw [if_pos d2]; subst d2; exact key 2 low2 (by omega) (by omega) (by omega) (.inr (.inl rfl)) (by decide)
  rw [if_neg d2]
  by_cases d3 : x2 = 3
  · subst d3
    rw [show ((3 : Int) != 3) = false by decide]
    exact key 3 low3 (by omega) (by omega) (by omega) (.inr (.inr rfl)) (by decide)
  · rw [show (x2 != 3) = true by simpa using d3, tlb_may.j1, if_pos rfl, decide_eq_false]
    rintro ⟨_, _, _, _, _, h, _⟩
    simp only at h
    omega
theorem of_eq (x : S30) (a p : Int) (hx : okE x) (hp : p ≤ 9223372036854775807) : tlb_of.f x.f0 x.f1 x.f2 x.f3 x.f4 x.f5 a p = some (decide (ofE x a p)) := by
  obtain ⟨h1, h2, h3, h4, h5, h6, h7⟩ := hx
  unfold tlb_of.f
  by_cases c : x.f0 = a
  · rw [if_pos c]
    by_cases d : p ≥ x.f1
    · rw [if_pos d, if_pos (by omega), wrap64_of (by omega) (by omega)]
      refine congrArg some ?_
      have e : shl .i64 1 x.f2 = pwE x.f2 := by
        rcases h6 with h | h | h <;> rw [h] <;> decide +kernel
      rw [e]
      refine decide_eq_decide.mpr ?_
      unfold ofE
      constructor
      · intro h; exact ⟨c, d, by omega⟩
      · intro h; omega
    · rw [if_neg d, decide_eq_false]
      rintro ⟨_, h, _⟩
      omega
  · rw [if_neg c, decide_eq_false]
    exact fun h => c h.1
/-- an entry as Go may hold it -/
def wfE (e : S30) : Prop := e.f3 ≤ 9223372036854775807 ∧ -9223372036854775808 ≤ e.f3
theorem mx_le {a b c : Int} (h1 : a ≤ c) (h2 : b ≤ c) : mx a b ≤ c := by unfold mx; split <;> omega
theorem Clash_eq (k : Nat) (x y : S30) (hx : wfE x) (hy : wfE y) : tlb_Clash.f (k + 2) x.f0 x.f1 x.f2 x.f3 x.f4 x.f5 y.f0 y.f1 y.f2 y.f3 y.f4 y.f5 = some (clashE x y) := by
  have no : ¬ (okE x ∧ okE y ∧ ofE x x.f0 (mx x.f1 y.f1) ∧ ofE y x.f0 (mx x.f1 y.f1)) → tlb_Clash.j0 (k + 2) true x.f0 x.f1 x.f2 x.f3 x.f4 x.f5 y.f0 y.f1 y.f2 y.f3 y.f4 y.f5 = some (clashE x y) := by
    intro h
    rw [tlb_Clash.j0, if_pos rfl]
    refine congrArg some (decide_eq_false ?_).symm
    exact fun g => h ⟨g.1, g.2.1, g.2.2.1, g.2.2.2.1⟩
  unfold tlb_Clash.f
  rw [may_eq, Option.bind_some]
  by_cases c1 : okE x
  · rw [if_pos (decide_eq_true c1), may_eq, Option.bind_some]
    by_cases c2 : okE y
    · have hm : mx x.f1 y.f1 ≤ 9223372036854775807 := mx_le (by have := c1.2.2.2.1; omega) (by have := c2.2.2.2.1; omega)
      rw [if_pos (decide_eq_true c2), of_eq x _ _ c1 hm, Option.bind_some]
      by_cases c3 : ofE x x.f0 (mx x.f1 y.f1)
      · rw [if_pos (decide_eq_true c3), of_eq y _ _ c2 hm, Option.bind_some]
        by_cases c4 : ofE y x.f0 (mx x.f1 y.f1)
        · rw [decide_eq_true c4, Bool.not_true, tlb_Clash.j0, if_neg Bool.false_ne_true]
          have w1 : wrap64 (x.f3 - x.f1) = x.f3 - x.f1 := by
            obtain ⟨_, _, g1, g2, g3, _⟩ := c1
            exact wrap64_of (by omega) (by have := hx.1; omega)
          have w2 : wrap64 (y.f3 - y.f1) = y.f3 - y.f1 := by
            obtain ⟨_, _, g1, g2, g3, _⟩ := c2
            exact wrap64_of (by omega) (by have := hy.1; omega)
          rw [w1, w2]
          unfold clashE
          by_cases d1 : x.f2 = y.f2
          · rw [if_pos d1]
            by_cases d2 : x.f4 = y.f4
            · rw [if_neg (by simpa using d2)]
              by_cases d3 : x.f5 = y.f5
              · rw [if_neg (by simpa using d3)]
                refine congrArg some ?_
                rw [Bool.eq_iff_iff, decide_eq_true_iff]
                simp [c1, c2, c3, c4, d1, d2, d3]
              · rw [if_pos (by simpa using d3)]
                simp [c1, c2, c3, c4, d3]
            · rw [if_pos (by simpa using d2)]
              simp [c1, c2, c3, c4, d2]
          · rw [if_neg d1]
            simp [c1, c2, c3, c4, d1]
        · rw [decide_eq_false c4, Bool.not_false]
          exact no (fun h => c4 h.2.2.2)
      · rw [if_neg (by simpa using c3)]
        exact no (fun h => c3 h.2.2.1)
    · rw [if_neg (by simpa using c2)]
      exact no (fun h => c2 h.2.1)
  · rw [if_neg (by simpa using c1)]
    exact no (fun h => c1 h.1)
theorem pwE_le (o : Int) : pwE o ≤ 8 ∧ 1 ≤ pwE o := by
  unfold pwE
  split
  · omega
  · split <;> omega
/-- the reference's -/
theorem refpower (o : Int) : paviorref05_power.f o = some (pwE o) := by
  unfold paviorref05_power.f pwE
  split
  · rfl
  · split <;> rfl
theorem refIs (x : S30) (a p : Int) (h : okE x) : paviorref05_Is.f x.f0 x.f1 x.f2 x.f3 x.f4 x.f5 a p = some (decide (ofE x a p)) := by
  obtain ⟨h1, h2, h3, h4, h5, h6, h7⟩ := h
  unfold paviorref05_Is.f
  have hb : pwE x.f2 ≤ 8 ∧ 1 ≤ pwE x.f2 := by exact pwE_le _
  by_cases c : x.f0 = a
  · rw [if_pos c]
    by_cases d : p ≥ x.f1
    · rw [if_pos d, refpower, Option.bind_some, wrap64_of (by omega) (by omega)]
      refine congrArg some (decide_eq_decide.mpr ?_)
      unfold ofE
      constructor
      · intro h; exact ⟨c, d, h⟩
      · intro h; exact h.2.2
    · rw [if_neg d, decide_eq_false]
      rintro ⟨_, h, _⟩
      omega
  · rw [if_neg c, decide_eq_false]
    exact fun h => c h.1
theorem refMay (k : Nat) (x : S30) (h : okE x) : paviorref05_May.f (k + 1) x.f0 x.f1 x.f2 x.f3 x.f4 x.f5 = some true := by
  obtain ⟨h1, h2, h3, h4, h5, h6, h7⟩ := h
  unfold paviorref05_May.f
  rw [if_neg (by omega), if_neg (by omega), if_neg (by omega), if_neg (by omega), decide_eq_false (by omega), paviorref05_May.j0, if_neg Bool.false_ne_true]
  have hb := (pwE_le x.f2).2
  have e : (Int.tmod x.f1 (pwE x.f2) == 0) = true := by
    rw [beq_iff_eq, Int.tmod_eq_emod_of_nonneg (by omega)]
    exact h7
  rcases h6 with h | h | h
  · rw [if_pos h, refpower, Option.bind_some, if_neg (by omega), e]
  · rw [if_neg (by omega), if_pos h, refpower, Option.bind_some, if_neg (by omega), e]
  · rw [if_neg (by omega), if_neg (by omega), if_pos h, refpower, Option.bind_some, if_neg (by omega), e]
theorem wfE_of {x : S30} (h : (Lit.int .i64 x.f3).wf = true) : wfE x := ⟨(wf_i64.mp h).2, (wf_i64.mp h).1⟩
end Go.Proofs.Ytfbjhioefkimbaa.TlbLib
