/- Layer 19: what is moved rises and where to falls; what is broken at one order is broken at the next; at the order 0 nothing is. -/
import Derived.Test.YtlmjjkggoemabaaScanBroken
import Derived.Test.YtlmjjkggoemabaaScanPairs
namespace Go.Proofs.Ytlmjjkggoemabaa.ScanTurns
open Go.RowKit Go.Proofs.YtlmjjkggoemabaaW.PrintWords Go.Proofs.YtlmjjkggoemabaaW.PrintMore Go.Proofs.Ytlmjjkggoemabaa.Bits Go.Proofs.Ytlmjjkggoemabaa.Pow Go.Proofs.Ytlmjjkggoemabaa.Q Go.Proofs.Ytlmjjkggoemabaa.HBroken Go.Proofs.Ytlmjjkggoemabaa.ScanBroken
open Go.Proofs.Ytlmjjkggoemabaa.ScanLib (firstT lastT firstT_bd lastT_bd firstT_is firstT_none firstT_stays setF setM setF_len setM_len pairsOf cond)
set_option linter.unusedVariables false
set_option linter.unusedSimpArgs false

theorem W_iff (f : List Bool) (p j : Nat) (hp : 0 < p) : W f p j = true ↔ j * p + p ≤ f.length ∧ ∀ t, j * p ≤ t → t < j * p + p → f.getD t false = true := by
  rw [← all_W f p j hp, Bool.and_eq_true, decide_eq_true_iff, List.all_eq_true]
  constructor
  · rintro ⟨h1, h2⟩
    refine ⟨h1, fun t a b => ?_⟩
    obtain ⟨m, rfl⟩ : ∃ m, t = j * p + m := ⟨t - j * p, by omega⟩
    have hm : m < (pt f p j).length := by rw [pt_len]; omega
    rw [← pt_getD f p j m hm, List.getD_eq_getElem?_getD, List.getElem?_eq_getElem hm]
    exact h2 _ (List.getElem_mem hm)
  · rintro ⟨h1, h2⟩
    refine ⟨h1, fun x hx => ?_⟩
    obtain ⟨m, hm, rfl⟩ := List.getElem_of_mem hx
    have h3 := h2 (j * p + m) (by omega) (by rw [pt_len] at hm; omega)
    rw [← pt_getD f p j m hm, List.getD_eq_getElem?_getD, List.getElem?_eq_getElem hm] at h3
    exact h3

theorem bad_up (f : List Bool) (p : Nat) (hp : 0 < p) (i : Nat) (h : bad f p i = true) : bad f (p * 2) i = true := by
  unfold bad at h ⊢
  rw [Bool.and_eq_true] at h ⊢
  refine ⟨h.1, ?_⟩
  cases hw : W f (p * 2) (i / (p * 2)) with
  | false => rfl
  | true =>
    obtain ⟨h1, h2⟩ := (W_iff f (p * 2) _ (by omega)).mp hw
    have h3 : W f p (i / p) = true := by
      rw [W_iff f p _ hp]
      have e : i / (p * 2) = i / p / 2 := (Nat.div_div_eq_div_mul i p 2).symm
      rw [e] at h1 h2
      generalize i / p = q at h1 h2 ⊢
      have a1 : q / 2 * (p * 2) ≤ q * p := by
        rw [Nat.mul_comm p 2, ← Nat.mul_assoc]
        exact Nat.mul_le_mul_right p (by omega)
      have a2 : q * p + p ≤ q / 2 * (p * 2) + p * 2 := by
        rw [Nat.mul_comm p 2, ← Nat.mul_assoc, ← Nat.succ_mul, ← Nat.add_mul]
        exact Nat.mul_le_mul_right p (by omega)
      exact ⟨by omega, fun t x y => h2 t (by omega) (by omega)⟩
    rw [h3] at h
    exact absurd h.2 (by decide)
theorem B_up (f : List Bool) (p : Nat) (hp : 0 < p) (i : Nat) : B f p i ≤ B f (p * 2) i :=
  List.countP_mono_left (fun x _ h => bad_up f p hp x h)
theorem B_one (f : List Bool) (i : Nat) (hi : i ≤ f.length) : B f 1 i = 0 := by
  unfold B
  rw [List.countP_eq_zero]
  intro x hx
  rw [List.mem_range] at hx
  unfold bad
  cases hf : f.getD x false with
  | false => simp
  | true =>
    have : W f 1 (x / 1) = true := by
      rw [W_iff f 1 _ (by omega), Nat.div_one]
      refine ⟨by omega, fun t a b => ?_⟩
      obtain rfl : t = x := by omega
      exact hf
    rw [this]
    simp

theorem firstT_le (m : List Bool) (i j : Nat) (hj : j < i) (h : m.getD j false = true) : 0 ≤ firstT m i ∧ firstT m i ≤ j := by
  have h1 : 0 ≤ firstT m (j + 1) := Int.not_lt.mp (fun c => by have := firstT_none m (j + 1) c j (by omega); rw [h] at this; cases this)
  have h2 := firstT_stays m (j + 1) (i - (j + 1)) h1
  rw [show j + 1 + (i - (j + 1)) = i by omega] at h2
  have := firstT_bd m (j + 1)
  omega
theorem lastT_is (f : List Bool) (i : Nat) (h : 0 ≤ lastT f i) : f.getD (lastT f i).toNat false = true := by
  induction i with
  | zero => simp [lastT] at h
  | succ i ih =>
    rw [lastT] at h ⊢
    split
    · next c => simpa using c
    · next c => rw [if_neg c] at h; exact ih h
theorem lastT_ge (f : List Bool) (i j : Nat) (hj : j < i) (h : f.getD j false = true) : (j : Int) ≤ lastT f i := by
  induction i with
  | zero => omega
  | succ i ih =>
    rw [lastT]
    split
    · omega
    · next c =>
      by_cases e : j = i
      · subst e; exact absurd h c
      · exact ih (by omega)
theorem getD_set (l : List Bool) (i j : Nat) (b : Bool) : (l.set i b).getD j false = if i = j ∧ j < l.length then b else l.getD j false := by
  simp only [List.getD_eq_getElem?_getD, List.getElem?_set]
  by_cases e : i = j
  · subst e
    by_cases c : i < l.length
    · simp [c]
    · simp [c]
  · simp [e]

theorem rise (f m : List Bool) (hl : f.length = m.length) (h : cond f m) (h' : cond (setF f m) (setM f m)) :
    firstT m m.length < firstT (setM f m) (setM f m).length ∧ lastT (setF f m) (setF f m).length < lastT f f.length := by
  obtain ⟨a1, a2⟩ := h
  obtain ⟨b1, b2⟩ := h'
  have ba := firstT_bd m m.length
  have bb := lastT_bd f f.length
  have ca := firstT_bd (setM f m) (setM f m).length
  have cb := lastT_bd (setF f m) (setF f m).length
  have hf := firstT_is (setM f m) _ b1
  have hg := lastT_is (setF f m) (setF f m).length (by omega)
  rw [setM_len] at ca hf b1 b2 ⊢
  rw [setF_len] at cb hg b2 ⊢
  generalize ht : firstT (setM f m) m.length = t at *
  generalize hu : lastT (setF f m) f.length = u at *
  constructor
  · unfold setM at hf
    rw [getD_set, getD_set] at hf
    simp only [List.length_set] at hf
    split at hf
    · cases hf
    split at hf
    · cases hf
    next c1 c2 =>
    have := firstT_le m m.length t.toNat (by omega) hf
    omega
  · unfold setF at hg
    rw [getD_set, getD_set] at hg
    simp only [List.length_set] at hg
    split at hg
    · cases hg
    split at hg
    · omega
    next c1 c2 =>
    have := lastT_ge f f.length u.toNat (by omega) hg
    omega

theorem rises (c : Nat) : ∀ (f m : List Bool), f.length = m.length → ∀ (i : Nat) (a b : S35), (pairsOf c f m)[i]? = some a → (pairsOf c f m)[i + 1]? = some b → a.f0 < b.f0 ∧ b.f1 < a.f1 := by
  induction c with
  | zero => intro f m hl i a b h; simp [pairsOf] at h
  | succ c ih =>
    intro f m hl i a b h1 h2
    rw [pairsOf] at h1 h2
    by_cases hc : cond f m
    · rw [if_pos hc] at h1 h2
      rw [List.getElem?_cons_succ] at h2
      cases i with
      | succ i =>
        rw [List.getElem?_cons_succ] at h1
        exact ih _ _ (by rw [setF_len, setM_len]; exact hl) i a b h1 h2
      | zero =>
        rw [List.getElem?_cons_zero] at h1
        obtain rfl := Option.some.inj h1
        cases c with
        | zero => simp [pairsOf] at h2
        | succ c =>
          rw [pairsOf] at h2
          by_cases hc' : cond (setF f m) (setM f m)
          · rw [if_pos hc', List.getElem?_cons_zero] at h2
            obtain rfl := Option.some.inj h2
            exact rise f m hl hc hc'
          · rw [if_neg hc'] at h2
            cases h2
    · rw [if_neg hc] at h1
      cases h1

end Go.Proofs.Ytlmjjkggoemabaa.ScanTurns
