/- What pte's Encode and Decode, and the reference's Word, May and Decode (layer 2), compute. -/
import Derived.Test.YtehbhpkmlmeblaaRef01
import Derived.Test.YtehbhpkmlmeblaaQx4
import Derived.Test.YtehbhpkmlmeblaaQx6
import Derived.Test.YtehbhpkmlmeblaaQx5
namespace Go.Proofs.Ytehbhpkmlmeblaa.PteLib
open Go.RowKit Go.Proofs.YtehbhpkmlmeblaaW.PrintWords Go.Proofs.YtehbhpkmlmeblaaW.PrintLast Go.Proofs.YtehbhpkmlmeblaaW.PrintMore Go.Proofs.Ytehbhpkmlmeblaa.Bits Go.Proofs.Ytehbhpkmlmeblaa.Ref01 Go.Proofs.Ytehbhpkmlmeblaa.Q
set_option linter.unusedVariables false
set_option linter.unusedSimpArgs false

def MayP (lv k f : Int) (wr ex se fo : Bool) (so : Int) : Prop :=
  0 ≤ lv ∧ lv ≤ 3 ∧ 0 ≤ f ∧ f < 512 ∧ 0 ≤ so ∧ so ≤ 7 ∧
  ((k = 0 ∧ f = 0 ∧ wr = false ∧ ex = false ∧ se = false ∧ fo = false ∧ so = 0) ∨
   (k = 1 ∧ lv ≤ 2 ∧ wr = false ∧ ex = false ∧ se = false ∧ fo = false ∧ so = 0) ∨
   (k = 2 ∧ lv = 2 ∧ fo = false ∧ f % 8 = 0) ∨ (k = 3 ∧ lv = 3) ∨ (k = 4 ∧ se = false ∧ fo = false))

instance (lv k f : Int) (wr ex se fo : Bool) (so : Int) : Decidable (MayP lv k f wr ex se fo so) := by unfold MayP; infer_instance

def low (k : Int) : Int := if k = 2 then 65 else if k = 3 then 67 else 10
def wordI (k f : Int) (wr ex se fo : Bool) (so : Int) : Int :=
  if k = 0 then 0 else if k = 1 then f * 4096 + 3 else
  f * 4096 + low k + so * 36028797018963968 + (if wr = true then 0 else 128) + (if ex = true then 0 else 18014398509481984) + (if se = true then 1024 else 0) + (if fo = true then 4503599627370496 else 0)

theorem or128 (x : Int) (h0 : 0 ≤ x) (h1 : x < 18446744073709551616) (hz : x / 128 % 2 = 0) : Go.bits .or .u64 x 128 = x + 128 := or_bit x 7 (by omega) h0 h1 hz
theorem or54 (x : Int) (h0 : 0 ≤ x) (h1 : x < 18446744073709551616) (hz : x / 18014398509481984 % 2 = 0) : Go.bits .or .u64 x 18014398509481984 = x + 18014398509481984 := or_bit x 54 (by omega) h0 h1 hz
theorem or1024 (x : Int) (h0 : 0 ≤ x) (h1 : x < 18446744073709551616) (hz : x / 1024 % 2 = 0) : Go.bits .or .u64 x 1024 = x + 1024 := or_bit x 10 (by omega) h0 h1 hz
theorem or52 (x : Int) (h0 : 0 ≤ x) (h1 : x < 18446744073709551616) (hz : x / 4503599627370496 % 2 = 0) : Go.bits .or .u64 x 4503599627370496 = x + 4503599627370496 := or_bit x 52 (by omega) h0 h1 hz
theorem or12 (x y : Int) (h0 : 0 ≤ x) (h1 : x < 512) (y0 : 0 ≤ y) (y1 : y < 4096) : Go.bits .or .u64 (x * 4096) y = x * 4096 + y :=
  or_low (x * 4096) y 12 (by omega) (by omega) (by omega) y0 (by omega) (by omega)
theorem or55 (x y : Int) (h0 : 0 ≤ x) (h1 : x < 512) (y0 : 0 ≤ y) (y1 : y < 36028797018963968) : Go.bits .or .u64 y (x * 36028797018963968) = x * 36028797018963968 + y :=
  or_high (x * 36028797018963968) y 55 (by omega) (by omega) (by omega) y0 (by omega) (by omega)

theorem encode_j1 (k : Nat) (hk : 1 ≤ k) (kd f : Int) (wr ex se fo : Bool) (so l : Int) (hf0 : 0 ≤ f) (hf : f < 512) (hs0 : 0 ≤ so) (hs : so ≤ 7) (hl : l = 65 ∨ l = 67 ∨ l = 10) :
    pte_Encode.j1 k (f * 4096 + l) kd f wr ex se fo so = some (f * 4096 + l + so * 36028797018963968 + (if wr = true then 0 else 128) + (if ex = true then 0 else 18014398509481984) + (if se = true then 1024 else 0) + (if fo = true then 4503599627370496 else 0), none) := by
  obtain ⟨k, rfl⟩ : ∃ m, k = m + 1 := ⟨k - 1, by omega⟩
  simp only [pte_Encode.j1]
  rw [wrap_u64_eq so, Int.emod_eq_of_lt hs0 (by omega), wrap_u64_eq, Int.emod_eq_of_lt (by omega) (by omega), or55 so _ hs0 (by omega) (by omega) (by omega)]
  unfold pte_with.f
  have w1 : ∃ b1 : Int, (if wr = true then (0 : Int) else 128) = b1 ∧ (b1 = 0 ∨ b1 = 128) ∧ (if (!wr) = true then some (Go.bits .or .u64 (so * 36028797018963968 + (f * 4096 + l)) 128) else some (so * 36028797018963968 + (f * 4096 + l))) = some (so * 36028797018963968 + (f * 4096 + l) + b1) := by
    cases wr
    · exact ⟨128, rfl, .inr rfl, by rw [if_pos (by rfl), or128 _ (by omega) (by omega) (by omega)]⟩
    · exact ⟨0, rfl, .inl rfl, by simp⟩
  obtain ⟨b1, e1, hb1, e1'⟩ := w1
  rw [e1', e1]
  simp only [Option.bind_some]
  clear e1 e1'
  generalize hx : so * 36028797018963968 + (f * 4096 + l) + b1 = x
  have w2 : ∃ b2 : Int, (if ex = true then (0 : Int) else 18014398509481984) = b2 ∧ (b2 = 0 ∨ b2 = 18014398509481984) ∧ (if (!ex) = true then some (Go.bits .or .u64 x 18014398509481984) else some x) = some (x + b2) := by
    cases ex
    · exact ⟨_, rfl, .inr rfl, by rw [if_pos (by rfl), or54 _ (by omega) (by omega) (by omega)]; simp⟩
    · exact ⟨0, rfl, .inl rfl, by simp⟩
  obtain ⟨b2, e2, hb2, e2'⟩ := w2
  rw [e2', e2]
  simp only [Option.bind_some]
  clear e2 e2'
  generalize hy : x + b2 = y
  have w3 : ∃ b3 : Int, (if se = true then (1024 : Int) else 0) = b3 ∧ (b3 = 0 ∨ b3 = 1024) ∧ (if se = true then some (Go.bits .or .u64 y 1024) else some y) = some (y + b3) := by
    cases se
    · exact ⟨0, rfl, .inl rfl, by simp⟩
    · exact ⟨_, rfl, .inr rfl, by rw [if_pos rfl, or1024 _ (by omega) (by omega) (by omega)]; simp⟩
  obtain ⟨b3, e3, hb3, e3'⟩ := w3
  rw [e3', e3]
  simp only [Option.bind_some]
  clear e3 e3'
  generalize hz : y + b3 = z
  have w4 : ∃ b4 : Int, (if fo = true then (4503599627370496 : Int) else 0) = b4 ∧ (b4 = 0 ∨ b4 = 4503599627370496) ∧ (if fo = true then some (Go.bits .or .u64 z 4503599627370496) else some z) = some (z + b4) := by
    cases fo
    · exact ⟨0, rfl, .inl rfl, by simp⟩
    · exact ⟨_, rfl, .inr rfl, by rw [if_pos rfl, or52 _ (by omega) (by omega) (by omega)]; simp⟩
  obtain ⟨b4, e4, hb4, e4'⟩ := w4
  rw [e4', e4]
  simp only [Option.bind_some]
  congr 2
  omega

/-- the program's own 'may', told as MayP (numbers aside) -/
theorem may_iff (lv k f : Int) (wr ex se fo : Bool) (so : Int) (h0 : 0 ≤ lv) (h1 : lv ≤ 3) (hf0 : 0 ≤ f) (hf : f < 512) (hs0 : 0 ≤ so) (hs : so ≤ 7) :
    pte_may.f lv k f wr ex se fo so = some (decide (MayP lv k f wr ex se fo so)) := by
  unfold pte_may.f
  have ht : Int.tmod f 8 = f % 8 := Int.tmod_eq_emod_of_nonneg hf0
  rw [ht]
  have key : ∀ b : Bool, (b = true ↔ MayP lv k f wr ex se fo so) → some b = some (decide (MayP lv k f wr ex se fo so)) := by
    intro b hb
    congr 1
    rw [Bool.eq_iff_iff, hb, decide_eq_true_eq]
  by_cases k0 : k = 0
  · subst k0
    rw [if_pos rfl]
    refine key _ ?_
    cases wr <;> cases ex <;> cases se <;> cases fo <;> simp [MayP, h0, h1, hf0, hf, hs0, hs]
  rw [if_neg k0]
  by_cases k1 : k = 1
  · subst k1
    rw [if_pos rfl]
    by_cases hl : lv < 3
    · rw [if_pos hl]
      have hl' : lv ≤ 2 := by omega
      refine key _ ?_
      cases wr <;> cases ex <;> cases se <;> cases fo <;> simp [MayP, h0, h1, hf0, hf, hs0, hs, hl']
    · rw [if_neg hl]
      have hl' : ¬ lv ≤ 2 := by omega
      refine key _ ?_
      simp [MayP, hl']
  rw [if_neg k1]
  by_cases k2 : k = 2
  · subst k2
    rw [if_pos rfl]
    by_cases hl : lv = 2
    · rw [if_pos hl]
      cases fo
      · rw [if_neg (by decide)]
        refine key _ ?_
        simp [MayP, hf0, hf, hs0, hs, hl]
      · rw [if_pos rfl]
        refine key _ ?_
        simp [MayP]
    · rw [if_neg hl]
      refine key _ ?_
      simp [MayP, hl]
  rw [if_neg k2]
  by_cases k3 : k = 3
  · subst k3
    rw [if_pos rfl]
    refine key _ ?_
    simp [MayP, h0, h1, hf0, hf, hs0, hs]
  rw [if_neg k3]
  by_cases k4 : k = 4
  · subst k4
    rw [if_pos rfl]
    cases se
    · rw [if_neg (by decide)]
      refine key _ ?_
      simp [MayP, h0, h1, hf0, hf, hs0, hs]
    · rw [if_pos rfl]
      refine key _ ?_
      simp [MayP]
  rw [if_neg k4]
  refine key _ ?_
  simp [MayP, k0, k1, k2, k3, k4]

theorem encode_yes (n : Nat) (hn : 2 ≤ n) (lv k f : Int) (wr ex se fo : Bool) (so : Int) (h : MayP lv k f wr ex se fo so) :
    pte_Encode.f n lv k f wr ex se fo so = some (wordI k f wr ex se fo so, none) := by
  obtain ⟨n, rfl⟩ : ∃ m, n = m + 1 := ⟨n - 1, by omega⟩
  have h' := h
  obtain ⟨a, b, c, d, e, g, hk⟩ := h
  have hn1 : 1 ≤ n := by omega
  unfold pte_Encode.f
  rw [if_neg (by omega), if_neg (by omega), if_neg (by omega), if_neg (by omega), if_neg (by omega), if_neg (by omega), may_iff lv k f wr ex se fo so a b c d e g]
  simp only [Option.bind_some, h', decide_true, Bool.not_true]
  simp only [pte_Encode.j0]
  rw [if_neg (by decide)]
  unfold wordI
  by_cases k0 : k = 0
  · rw [if_pos k0, if_pos k0]
  rw [if_neg k0, if_neg k0]
  have hw : IntKind.u64.wrap (IntKind.u64.wrap f * 4096) = f * 4096 := by rw [wrap_u64_eq f, Int.emod_eq_of_lt c (by omega), wrap_u64_eq, Int.emod_eq_of_lt (by omega) (by omega)]
  rw [hw]
  by_cases k1 : k = 1
  · rw [if_pos k1, if_pos k1, or12 f 1 c d (by omega) (by omega)]
    have : Go.bits .or .u64 (f * 4096 + 1) 2 = f * 4096 + 1 + 2 := or_bit (f * 4096 + 1) 1 (by omega) (by omega) (by omega) (by show (f * 4096 + 1) / 2 % 2 = 0; omega)
    rw [this]
    congr 2
    omega
  rw [if_neg k1, if_neg k1]
  by_cases k3 : k = 3
  · rw [if_pos k3, or12 f 67 c d (by omega) (by omega), encode_j1 n hn1 k f wr ex se fo so 67 c d e g (.inr (.inl rfl)), show low k = 67 by unfold low; rw [if_neg (by omega), if_pos k3]]
  rw [if_neg k3]
  by_cases k2 : k = 2
  · rw [if_pos k2, or12 f 65 c d (by omega) (by omega), encode_j1 n hn1 k f wr ex se fo so 65 c d e g (.inl rfl), show low k = 65 by unfold low; rw [if_pos k2]]
  · rw [if_neg k2, or12 f 10 c d (by omega) (by omega), encode_j1 n hn1 k f wr ex se fo so 10 c d e g (.inr (.inr rfl)), show low k = 10 by unfold low; rw [if_neg k2, if_neg k3]]

theorem encode_no (n : Nat) (hn : 2 ≤ n) (lv k f : Int) (wr ex se fo : Bool) (so : Int) (h : ¬ MayP lv k f wr ex se fo so) :
    pte_Encode.f n lv k f wr ex se fo so = some (0, some 1) := by
  obtain ⟨n, rfl⟩ : ∃ m, n = m + 1 := ⟨n - 1, by omega⟩
  unfold pte_Encode.f
  have hj : pte_Encode.j0 (n + 1) true k f wr ex se fo so = some (0, some 1) := by simp only [pte_Encode.j0]; rw [if_pos trivial]
  by_cases a : lv < 0
  · rw [if_pos a, hj]
  rw [if_neg a]
  by_cases b : lv > 3
  · rw [if_pos b, hj]
  rw [if_neg b]
  by_cases c : f < 0
  · rw [if_pos c, hj]
  rw [if_neg c]
  by_cases d : f ≥ 512
  · rw [if_pos d, hj]
  rw [if_neg d]
  by_cases e : so < 0
  · rw [if_pos e, hj]
  rw [if_neg e]
  by_cases g : so > 7
  · rw [if_pos g, hj]
  rw [if_neg g, may_iff lv k f wr ex se fo so (by omega) (by omega) (by omega) (by omega) (by omega) (by omega)]
  simp only [Option.bind_some, h, decide_false, Bool.not_false]
  exact hj

theorem word_bounds {lv k f : Int} {wr ex se fo : Bool} {so : Int} (h : MayP lv k f wr ex se fo so) : 0 ≤ wordI k f wr ex se fo so ∧ wordI k f wr ex se fo so < 18446744073709551616 := by
  obtain ⟨a, b, c, d, e, g, hk⟩ := h
  unfold wordI low
  split
  · omega
  split
  · omega
  repeat' split
  all_goals omega

/-! ### reading a word -/
theorem get_of (w : Int) (at_ n : Nat) (h0 : 0 ≤ w) (h1 : w < 18446744073709551616) (hn1 : 1 ≤ n) (hn : at_ + n ≤ 64) (hn2 : n ≤ 62) : pte_get.f w (at_ : Int) (n : Int) = some (w / ((2 ^ at_ : Nat) : Int) % ((2 ^ n : Nat) : Int)) := by
  obtain ⟨a, rfl⟩ := Int.eq_ofNat_of_zero_le h0
  have ha := natlt h1
  unfold pte_get.f word_Field.f word_field.f word_mask.f
  rw [if_pos (by omega), if_pos (by omega), if_pos (by omega), if_pos (by omega), wrap64_of (by omega) (by omega)]
  simp only [Option.bind_some]
  rw [if_pos (by simp; omega), if_pos (by omega), if_pos (by omega), shr_u64 a at_ (by omega)]
  simp only [Option.bind_some]
  have hp : (2 : Nat) ^ n ≤ 2 ^ 62 := Nat.pow_le_pow_right (by decide) hn2
  have h62 : (2 : Nat) ^ 62 = 4611686018427387904 := by decide
  have hpos : 0 < 2 ^ n := Nat.two_pow_pos n
  have hsh : shl .u64 1 (n : Int) = ((2 ^ n : Nat) : Int) := by
    unfold shl
    have hm : min ((n : Int)).toNat IntKind.u64.bits = n := by
      have : IntKind.u64.bits = 64 := rfl
      rw [this]; omega
    rw [hm, Int.one_mul, wrap_u64_eq, show (2 : Int) ^ n = ((2 ^ n : Nat) : Int) by rw [Int.natCast_pow]; rfl]
    exact Int.emod_eq_of_lt (by omega) (by omega)
  have hd : a / 2 ^ at_ < 2 ^ 64 := Nat.lt_of_le_of_lt (Nat.div_le_self _ _) ha
  rw [hsh, wrap_u64_eq, Int.emod_eq_of_lt (by omega) (by omega), show ((2 ^ n : Nat) : Int) - 1 = ((2 ^ n - 1 : Nat) : Int) by omega, and_u64_nat _ _ hd (by omega), Nat.and_two_pow_sub_one_eq_mod]
  rw [if_pos (by rfl)]
  congr 1
  have h2 : ((a / 2 ^ at_ % 2 ^ n : Nat) : Int) = (a : Int) / ((2 ^ at_ : Nat) : Int) % ((2 ^ n : Nat) : Int) := by rw [Int.natCast_emod, Int.natCast_ediv]
  have h3 := Nat.mod_lt (a / 2 ^ at_) hpos
  rw [← h2]
  exact wrap64_of (by omega) (by omega)

def isFrame (w : Int) : Int := w / 4096 % 68719476736
def isSoft (w : Int) : Int := w / 36028797018963968 % 8
theorem get_frame (w : Int) (h0 : 0 ≤ w) (h1 : w < 18446744073709551616) : pte_get.f w 12 36 = some (isFrame w) := get_of w 12 36 h0 h1 (by omega) (by omega) (by omega)
theorem get_soft (w : Int) (h0 : 0 ≤ w) (h1 : w < 18446744073709551616) : pte_get.f w 55 3 = some (isSoft w) := get_of w 55 3 h0 h1 (by omega) (by omega) (by omega)
theorem and128 (x : Int) (h0 : 0 ≤ x) (h1 : x < 18446744073709551616) : Go.bits .and .u64 x 128 = x / 128 % 2 * 128 := and_bit x 7 (by omega) h0 h1
theorem and54 (x : Int) (h0 : 0 ≤ x) (h1 : x < 18446744073709551616) : Go.bits .and .u64 x 18014398509481984 = x / 18014398509481984 % 2 * 18014398509481984 := and_bit x 54 (by omega) h0 h1
theorem and1024 (x : Int) (h0 : 0 ≤ x) (h1 : x < 18446744073709551616) : Go.bits .and .u64 x 1024 = x / 1024 % 2 * 1024 := and_bit x 10 (by omega) h0 h1
theorem and52 (x : Int) (h0 : 0 ≤ x) (h1 : x < 18446744073709551616) : Go.bits .and .u64 x 4503599627370496 = x / 4503599627370496 % 2 * 4503599627370496 := and_bit x 52 (by omega) h0 h1
theorem and1 (x : Int) (h0 : 0 ≤ x) (h1 : x < 18446744073709551616) : Go.bits .and .u64 x 1 = x % 2 := by
  have := and_bit x 0 (by omega) h0 h1
  simpa using this
theorem and2 (x : Int) (h0 : 0 ≤ x) (h1 : x < 18446744073709551616) : Go.bits .and .u64 x 2 = x / 2 % 2 * 2 := and_bit x 1 (by omega) h0 h1

def hasW (w : Int) : Bool := decide (w / 128 % 2 = 0)
def hasX (w : Int) : Bool := decide (w / 18014398509481984 % 2 = 0)
def hasS (w : Int) : Bool := decide (w / 1024 % 2 = 1)
def hasF (w : Int) : Bool := decide (w / 4503599627370496 % 2 = 1)
theorem rights_of (w k : Int) (h0 : 0 ≤ w) (h1 : w < 18446744073709551616) : pte_rights.f w k = some (k, isFrame w, hasW w, hasX w, hasS w, hasF w, isSoft w) := by
  unfold pte_rights.f
  rw [get_frame w h0 h1, get_soft w h0 h1]
  simp only [Option.bind_some]
  rw [and128 w h0 h1, and54 w h0 h1, and1024 w h0 h1, and52 w h0 h1]
  have e1 : (w / 128 % 2 * 128 == 0) = hasW w := by unfold hasW; rw [Bool.eq_iff_iff]; simp; omega
  have e2 : (w / 18014398509481984 % 2 * 18014398509481984 == 0) = hasX w := by unfold hasX; rw [Bool.eq_iff_iff]; simp; omega
  have e3 : (w / 1024 % 2 * 1024 != 0) = hasS w := by unfold hasS; rw [Bool.eq_iff_iff]; simp; omega
  have e4 : (w / 4503599627370496 % 2 * 4503599627370496 != 0) = hasF w := by unfold hasF; rw [Bool.eq_iff_iff]; simp; omega
  rw [e1, e2, e3, e4]

abbrev Dsc := Int × Int × Bool × Bool × Bool × Bool × Int
def may (lv : Int) (d : Dsc) : Prop := MayP lv d.1 d.2.1 d.2.2.1 d.2.2.2.1 d.2.2.2.2.1 d.2.2.2.2.2.1 d.2.2.2.2.2.2
instance (lv : Int) (d : Dsc) : Decidable (may lv d) := by unfold may; infer_instance
def word (d : Dsc) : Int := wordI d.1 d.2.1 d.2.2.1 d.2.2.2.1 d.2.2.2.2.1 d.2.2.2.2.2.1 d.2.2.2.2.2.2
def BAD : Dsc := (5, 0, false, false, false, false, 0)
def readI (lv w : Int) : Dsc :=
  if w = 0 then (0, 0, false, false, false, false, 0)
  else if w % 2 = 0 then (4, isFrame w, hasW w, hasX w, hasS w, hasF w, isSoft w)
  else if w / 2 % 2 = 0 then (2, isFrame w, hasW w, hasX w, hasS w, hasF w, isSoft w)
  else if lv < 3 then (1, isFrame w, false, false, false, false, 0)
  else (3, isFrame w, hasW w, hasX w, hasS w, hasF w, isSoft w)

theorem read_of (n : Nat) (hn : 1 ≤ n) (lv w : Int) (h0 : 0 ≤ w) (h1 : w < 18446744073709551616) : pte_read.f n lv w = some (readI lv w) := by
  obtain ⟨n, rfl⟩ : ∃ m, n = m + 1 := ⟨n - 1, by omega⟩
  unfold pte_read.f readI
  rw [and1 w h0 h1, and2 w h0 h1]
  by_cases z : w = 0
  · rw [if_pos z, if_pos z]
  rw [if_neg z, if_neg z]
  by_cases a : w % 2 = 0
  · rw [if_pos a, if_pos a, rights_of w 4 h0 h1]; rfl
  rw [if_neg a, if_neg a]
  by_cases b : w / 2 % 2 = 0
  · rw [if_pos (by omega), if_pos b]
    simp only [pte_read.j0]
    rw [if_neg (by decide), and2 w h0 h1, if_pos (by omega), rights_of w 2 h0 h1]; rfl
  rw [if_neg (by omega), if_neg b]
  simp only [pte_read.j0]
  by_cases c : lv < 3
  · rw [if_pos (by simpa using c), if_pos c, get_frame w h0 h1]; rfl
  · rw [if_neg (by simpa using c), if_neg c, and2 w h0 h1, if_neg (by omega), rights_of w 3 h0 h1]; rfl

theorem fields (f so l b1 b2 b3 b4 : Int) (hf0 : 0 ≤ f) (hf : f < 512) (hs0 : 0 ≤ so) (hs : so ≤ 7) (hl : l = 65 ∨ l = 67 ∨ l = 10) (h1 : b1 = 0 ∨ b1 = 128) (h2 : b2 = 0 ∨ b2 = 18014398509481984) (h3 : b3 = 0 ∨ b3 = 1024) (h4 : b4 = 0 ∨ b4 = 4503599627370496) (x : Int) (hx : x = f * 4096 + l + so * 36028797018963968 + b1 + b2 + b3 + b4) :
    isFrame x = f ∧ isSoft x = so ∧ x / 128 % 2 = b1 / 128 ∧ x / 18014398509481984 % 2 = b2 / 18014398509481984 ∧ x / 1024 % 2 = b3 / 1024 ∧ x / 4503599627370496 % 2 = b4 / 4503599627370496 ∧ x % 2 = l % 2 ∧ x / 2 % 2 = l / 2 % 2 := by
  unfold isFrame isSoft
  refine ⟨?_, ?_, ?_, ?_, ?_, ?_, ?_, ?_⟩ <;> omega

theorem low_cases (k : Int) : low k = 65 ∨ low k = 67 ∨ low k = 10 := by
  unfold low
  repeat' split
  all_goals omega

theorem fields_word (k f : Int) (wr ex se fo : Bool) (so : Int) (hf0 : 0 ≤ f) (hf : f < 512) (hs0 : 0 ≤ so) (hs : so ≤ 7) (k0 : k ≠ 0) (k1 : k ≠ 1) :
    isFrame (wordI k f wr ex se fo so) = f ∧ isSoft (wordI k f wr ex se fo so) = so ∧ hasW (wordI k f wr ex se fo so) = wr ∧ hasX (wordI k f wr ex se fo so) = ex ∧ hasS (wordI k f wr ex se fo so) = se ∧ hasF (wordI k f wr ex se fo so) = fo ∧ wordI k f wr ex se fo so % 2 = low k % 2 ∧ wordI k f wr ex se fo so / 2 % 2 = low k / 2 % 2 := by
  have hx : wordI k f wr ex se fo so = f * 4096 + low k + so * 36028797018963968 + (if wr = true then 0 else 128) + (if ex = true then 0 else 18014398509481984) + (if se = true then 1024 else 0) + (if fo = true then 4503599627370496 else 0) := by unfold wordI; rw [if_neg k0, if_neg k1]
  obtain ⟨a, b, c, d, e, g, p, q⟩ := fields f so (low k) (if wr = true then 0 else 128) (if ex = true then 0 else 18014398509481984) (if se = true then 1024 else 0) (if fo = true then 4503599627370496 else 0) hf0 hf hs0 hs (low_cases k) (by split <;> simp) (by split <;> simp) (by split <;> simp) (by split <;> simp) _ hx
  refine ⟨a, b, ?_, ?_, ?_, ?_, p, q⟩
  · unfold hasW; rw [c]; cases wr <;> decide
  · unfold hasX; rw [d]; cases ex <;> decide
  · unfold hasS; rw [e]; cases se <;> decide
  · unfold hasF; rw [g]; cases fo <;> decide

/-- A word that says something is read as it. -/
theorem read_word {lv : Int} {d : Dsc} (h : may lv d) : readI lv (word d) = d := by
  obtain ⟨k, f, wr, ex, se, fo, so⟩ := d
  unfold may at h
  simp only at h
  obtain ⟨a, b, c, d, e, g, hk⟩ := h
  unfold word readI
  simp only
  rcases hk with ⟨rfl, rfl, rfl, rfl, rfl, rfl, rfl⟩ | ⟨rfl, hl, rfl, rfl, rfl, rfl, rfl⟩ | hk
  · simp [wordI]
  · have hw : wordI 1 f false false false false 0 = f * 4096 + 3 := by unfold wordI; rw [if_neg (by omega), if_pos rfl]
    rw [hw, if_neg (by omega), if_neg (by omega), if_neg (by omega), if_pos (by omega), show isFrame (f * 4096 + 3) = f by unfold isFrame; omega]
  · obtain ⟨r1, r2, r3, r4, r5, r6, r7, r8⟩ := fields_word k f wr ex se fo so c d e g (by omega) (by omega)
    rw [r1, r2, r3, r4, r5, r6, r7, r8]
    have hl : low k = 65 ∧ k = 2 ∨ low k = 67 ∧ k = 3 ∨ low k = 10 ∧ k = 4 := by
      unfold low
      repeat' split
      all_goals omega
    rcases hl with ⟨h1, rfl⟩ | ⟨h1, rfl⟩ | ⟨h1, rfl⟩
    · rw [h1] at r7 r8 ⊢
      rw [if_neg (by omega), if_neg (by omega), if_pos (by omega)]
    · rw [h1] at r7 r8 ⊢
      rw [if_neg (by omega), if_neg (by omega), if_neg (by omega), if_neg (by omega)]
    · rw [h1] at r7 r8 ⊢
      by_cases z : wordI 4 f wr ex se fo so = 0
      · rw [z] at r8; omega
      · rw [if_neg z, if_pos (by omega)]

/-- What a word says at a level: something that has it, or nothing has. -/
def IsDec (lv w : Int) (r : Dsc) : Prop := (may lv r ∧ word r = w) ∨ (r = BAD ∧ ∀ d, may lv d → word d ≠ w)

theorem may_inj {l1 l2 : Int} {a b : Dsc} (ha : may l1 a) (hb : may l2 b) (h : word a = word b) : a = b := by
  have ra := read_word ha
  have rb := read_word hb
  rw [h] at ra
  -- the two readings are of one word; they part at the level alone, between a table's and a page's
  obtain ⟨k, f, wr, ex, se, fo, so⟩ := a
  obtain ⟨k', f', wr', ex', se', fo', so'⟩ := b
  by_cases hl : (l1 < 3 ↔ l2 < 3)
  · have : readI l1 (word (k', f', wr', ex', se', fo', so')) = readI l2 (word (k', f', wr', ex', se', fo', so')) := by
      unfold readI
      by_cases h1 : l1 < 3
      · rw [if_pos h1, if_pos (hl.mp h1)]
      · rw [if_neg h1, if_neg (fun h2 => h1 (hl.mpr h2))]
    rw [← ra, this, rb]
  · unfold may at ha hb
    unfold word at h ra rb
    simp only at ha hb h ra rb
    obtain ⟨a1, a2, a3, a4, a5, a6, hk⟩ := ha
    obtain ⟨b1, b2, b3, b4, b5, b6, hk'⟩ := hb
    unfold readI at ra rb
    by_cases z : wordI k' f' wr' ex' se' fo' so' = 0
    · rw [if_pos z] at ra rb; rw [← ra, ← rb]
    rw [if_neg z] at ra rb
    by_cases o : wordI k' f' wr' ex' se' fo' so' % 2 = 0
    · rw [if_pos o] at ra rb; rw [← ra, ← rb]
    rw [if_neg o] at ra rb
    by_cases t : wordI k' f' wr' ex' se' fo' so' / 2 % 2 = 0
    · rw [if_pos t] at ra rb; rw [← ra, ← rb]
    rw [if_neg t] at ra rb
    exfalso
    -- one is a table's, the other a page's: their sixth bits part
    have six : ∀ (k f : Int) (wr ex se fo : Bool) (so : Int), 0 ≤ f → f < 512 → 0 ≤ so → so ≤ 7 → k = 3 → wordI k f wr ex se fo so / 64 % 2 = 1 := by
      intro k f wr ex se fo so h1 h2 h3 h4 h5
      subst h5
      unfold wordI low
      rw [if_neg (by omega), if_neg (by omega), if_neg (by omega), if_pos rfl]
      have e1 : ∃ b : Int, (if wr = true then (0 : Int) else 128) = b ∧ (b = 0 ∨ b = 128) := ⟨_, rfl, by split <;> simp⟩
      have e2 : ∃ b : Int, (if ex = true then (0 : Int) else 18014398509481984) = b ∧ (b = 0 ∨ b = 18014398509481984) := ⟨_, rfl, by split <;> simp⟩
      have e3 : ∃ b : Int, (if se = true then (1024 : Int) else 0) = b ∧ (b = 0 ∨ b = 1024) := ⟨_, rfl, by split <;> simp⟩
      have e4 : ∃ b : Int, (if fo = true then (4503599627370496 : Int) else 0) = b ∧ (b = 0 ∨ b = 4503599627370496) := ⟨_, rfl, by split <;> simp⟩
      obtain ⟨c1, e1, h1⟩ := e1
      obtain ⟨c2, e2, h2⟩ := e2
      obtain ⟨c3, e3, h3⟩ := e3
      obtain ⟨c4, e4, h4⟩ := e4
      rw [e1, e2, e3, e4]
      omega
    have tab : ∀ (f : Int) (wr ex se fo : Bool) (so : Int), wordI 1 f wr ex se fo so / 64 % 2 = 0 := by
      intro f wr ex se fo so
      unfold wordI
      rw [if_neg (by omega), if_pos rfl]
      omega
    by_cases h1 : l1 < 3
    · rw [if_pos h1] at ra
      have h2 : ¬ l2 < 3 := fun h2 => hl ⟨fun _ => h2, fun _ => h1⟩
      rw [if_neg h2] at rb
      have k1 : k = 1 := by have := congrArg Prod.fst ra; simpa using this.symm
      have k3 : k' = 3 := by have := congrArg Prod.fst rb; simpa using this.symm
      have s3 := six k' f' wr' ex' se' fo' so' b3 b4 b5 b6 k3
      rw [← h, k1, tab] at s3
      omega
    · rw [if_neg h1] at ra
      have h2 : l2 < 3 := by
        by_cases h2 : l2 < 3
        · exact h2
        · exact absurd ⟨fun h3 => absurd h3 h1, fun h3 => absurd h3 h2⟩ hl
      rw [if_pos h2] at rb
      have k3 : k = 3 := by have := congrArg Prod.fst ra; simpa using this.symm
      have k1 : k' = 1 := by have := congrArg Prod.fst rb; simpa using this.symm
      have s3 := six k f wr ex se fo so a3 a4 a5 a6 k3
      rw [h, k1, tab] at s3
      omega

theorem isDec_unique {lv w : Int} {r s : Dsc} (hr : IsDec lv w r) (hs : IsDec lv w s) : r = s := by
  rcases hr with ⟨h1, h2⟩ | ⟨h1, h2⟩ <;> rcases hs with ⟨h3, h4⟩ | ⟨h3, h4⟩
  · exact may_inj h1 h3 (h2.trans h4.symm)
  · exact absurd h2 (h4 r h1)
  · exact absurd h4 (h2 s h3)
  · rw [h1, h3]

/-- What Decode tells. -/
theorem decode_yes (n : Nat) (hn : 3 ≤ n) (lv w : Int) (h0 : 0 ≤ lv) (h3 : lv ≤ 3) (w0 : 0 ≤ w) (w1 : w < 18446744073709551616) :
    ∃ k f wr ex se fo so, pte_Decode.f n lv w = some (k, f, wr, ex, se, fo, so, none) ∧ IsDec lv w (k, f, wr, ex, se, fo, so) := by
  obtain ⟨n, rfl⟩ : ∃ m, n = m + 1 := ⟨n - 1, by omega⟩
  obtain ⟨n, rfl⟩ : ∃ m, n = m + 1 := ⟨n - 1, by omega⟩
  unfold pte_Decode.f
  rw [if_neg (by omega)]
  simp only [pte_Decode.j0]
  rw [if_neg (by simp; omega), read_of (n + 1) (by omega) lv w w0 w1]
  simp only [Option.bind_some]
  rcases hr : readI lv w with ⟨k, f, wr, ex, se, fo, so⟩
  simp only
  have none_other : ∀ d, may lv d → word d = w → d = (k, f, wr, ex, se, fo, so) := by
    intro d hd hw
    rw [← hr, ← hw, read_word hd]
  by_cases hm : MayP lv k f wr ex se fo so
  · rw [encode_yes (n + 1) (by omega) lv k f wr ex se fo so hm]
    simp only [Option.bind_some, Option.isNone_none, if_true, pte_Decode.j1]
    by_cases hw : wordI k f wr ex se fo so = w
    · rw [if_neg (by simp [hw])]
      exact ⟨k, f, wr, ex, se, fo, so, rfl, .inl ⟨hm, hw⟩⟩
    · rw [if_pos (by simpa using hw)]
      refine ⟨5, 0, false, false, false, false, 0, rfl, .inr ⟨rfl, fun d hd hwd => ?_⟩⟩
      have := none_other d hd hwd
      subst this
      exact hw hwd
  · rw [encode_no (n + 1) (by omega) lv k f wr ex se fo so hm]
    simp only [Option.bind_some, Option.isNone_some, pte_Decode.j1]
    rw [if_neg (by decide)]
    simp only [if_true]
    refine ⟨5, 0, false, false, false, false, 0, rfl, .inr ⟨rfl, fun d hd hwd => ?_⟩⟩
    have := none_other d hd hwd
    subst this
    exact hm hd

end Go.Proofs.Ytehbhpkmlmeblaa.PteLib
