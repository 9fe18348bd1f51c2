/- What the reference's May, Word and Decode (layer 2) compute. -/
import Derived.Test.YtehbhpkmlmeblaaPteLib
namespace Go.Proofs.Ytehbhpkmlmeblaa.PteLib
open Go.RowKit Go.Proofs.YtehbhpkmlmeblaaW.PrintWords Go.Proofs.YtehbhpkmlmeblaaW.PrintLast Go.Proofs.YtehbhpkmlmeblaaW.PrintMore Go.Proofs.Ytehbhpkmlmeblaa.Bits Go.Proofs.Ytehbhpkmlmeblaa.Ref01 Go.Proofs.Ytehbhpkmlmeblaa.Q
set_option linter.unusedVariables false
set_option linter.unusedSimpArgs false

theorem refMay (n : Nat) (hn : 1 ≤ n) (lv k f : Int) (wr ex se fo : Bool) (so : Int) : paviorref02_May.f n lv k f wr ex se fo so = some (decide (MayP lv k f wr ex se fo so)) := by
  obtain ⟨n, rfl⟩ : ∃ m, n = m + 1 := ⟨n - 1, by omega⟩
  have hj : (lv < 0 ∨ lv > 3 ∨ f < 0 ∨ f ≥ 512 ∨ so < 0 ∨ so > 7) → paviorref02_May.j0 (n + 1) lv true k f wr ex se fo so = some (decide (MayP lv k f wr ex se fo so)) := by
    intro h
    simp only [paviorref02_May.j0]
    rw [if_pos trivial]
    congr 1
    symm
    rw [decide_eq_false_iff_not]
    intro hm
    obtain ⟨a, b, c, d, e, g, _⟩ := hm
    omega
  unfold paviorref02_May.f
  by_cases a : lv < 0
  · rw [if_pos a, hj (by omega)]
  rw [if_neg a]
  by_cases b : lv > 3
  · rw [if_pos b, hj (by omega)]
  rw [if_neg b]
  by_cases c : f < 0
  · rw [if_pos c, hj (by omega)]
  rw [if_neg c]
  by_cases d : f ≥ 512
  · rw [if_pos d, hj (by omega)]
  rw [if_neg d]
  by_cases e : so < 0
  · rw [if_pos e, hj (by omega)]
  rw [if_neg e]
  by_cases g : so > 7
  · rw [show decide (so > 7) = true by simpa using g, hj (by omega)]
  have h0 : 0 ≤ lv := by omega
  have h1 : lv ≤ 3 := by omega
  have hf0 : 0 ≤ f := by omega
  have hf : f < 512 := by omega
  have hs0 : 0 ≤ so := by omega
  have hs : so ≤ 7 := by omega
  rw [show decide (so > 7) = false by simpa using g]
  simp only [paviorref02_May.j0]
  rw [if_neg (by decide)]
  have ht : Int.tmod f 8 = f % 8 := Int.tmod_eq_emod_of_nonneg hf0
  rw [ht]
  have key : ∀ b : Bool, (b = true ↔ MayP lv k f wr ex se fo so) → some b = some (decide (MayP lv k f wr ex se fo so)) := by
    intro b hb
    congr 1
    rw [Bool.eq_iff_iff, hb, decide_eq_true_eq]
  by_cases k0 : k = 0
  · subst k0
    rw [if_pos rfl]
    by_cases z : f = 0
    · rw [if_pos z]
      cases wr <;> cases ex <;> cases se <;> cases fo <;> simp [MayP, h0, h1, hs0, hs, z]
      rw [Bool.eq_iff_iff]; simp
    · rw [if_neg z]
      refine key _ ?_
      simp [MayP, z]
  rw [if_neg k0]
  by_cases k1 : k = 1
  · subst k1
    rw [if_pos rfl]
    by_cases hl : lv ≤ 2
    · rw [if_pos hl]
      cases wr <;> cases ex <;> cases se <;> cases fo <;> simp [MayP, h0, h1, hf0, hf, hs0, hs, hl]
      rw [Bool.eq_iff_iff]; simp
    · rw [if_neg hl]
      refine key _ ?_
      simp [MayP, hl]
  rw [if_neg k1]
  by_cases k2 : k = 2
  · subst k2
    rw [if_pos rfl]
    by_cases hl : lv = 2
    · rw [if_pos hl]
      cases fo
      · rw [if_neg (by decide)]
        refine key _ ?_
        simp [MayP, hf0, hf, hs0, hs, hl]
      · rw [if_pos rfl]
        refine key _ ?_
        simp [MayP]
    · rw [if_neg hl]
      refine key _ ?_
      simp [MayP, hl]
  rw [if_neg k2]
  by_cases k3 : k = 3
  · subst k3
    rw [if_pos rfl]
    refine key _ ?_
    simp [MayP, h0, h1, hf0, hf, hs0, hs]
  rw [if_neg k3]
  by_cases k4 : k = 4
  · subst k4
    rw [if_pos rfl]
    cases se
    · rw [if_neg (by decide)]
      refine key _ ?_
      simp [MayP, h0, h1, hf0, hf, hs0, hs]
    · rw [if_pos rfl]
      refine key _ ?_
      simp [MayP]
  rw [if_neg k4]
  refine key _ ?_
  simp [MayP, k0, k1, k2, k3, k4]

theorem refSet (n : Nat) (hn : 129 ≤ n) (w : Int) (i : Nat) (b : Bool) (h0 : 0 ≤ w) (h1 : w < 18446744073709551616) (hi : i + 1 ≤ 64) (hz : w / ((2 ^ i : Nat) : Int) % 2 = 0) :
    paviorref02_set.f n w (i : Int) b = some (w + (if b = true then ((2 ^ i : Nat) : Int) else 0)) := by
  unfold paviorref02_set.f
  cases b
  · simp
  · rw [if_pos rfl, if_pos rfl]
    have h := put_add w 1 i 1 h0 h1 (by omega) (by decide) hi hz n hn
    rw [Int.one_mul] at h
    rw [show ((1 : Nat) : Int) = (1 : Int) from rfl] at h
    rw [h]
    rfl

theorem refWord (n : Nat) (hn : 129 ≤ n) (k f : Int) (wr ex se fo : Bool) (so : Int) (hf0 : 0 ≤ f) (hf : f < 512) (hs0 : 0 ≤ so) (hs : so ≤ 7) :
    paviorref02_Word.f n k f wr ex se fo so = some (wordI k f wr ex se fo so) := by
  unfold paviorref02_Word.f wordI
  by_cases k0 : k = 0
  · rw [if_pos k0, if_pos k0]
  rw [if_neg k0, if_neg k0, wrap_u64_eq f, Int.emod_eq_of_lt hf0 (by omega)]
  have p1 : paviorref01_Put.f n 0 12 36 f = some (0 + f * 4096) := put_add 0 f 12 36 (by omega) (by omega) hf0 (by show f < 68719476736; omega) (by omega) (by decide) n hn
  rw [p1]
  simp only [Option.bind_some, Int.zero_add]
  by_cases k1 : k = 1
  · have p2 : paviorref01_Put.f n (f * 4096) 0 2 3 = some (f * 4096 + 3 * 1) := put_add (f * 4096) 3 0 2 (by omega) (by omega) (by omega) (by decide) (by omega) (by show f * 4096 / 1 % 4 = 0; omega) n hn
    rw [if_pos k1, if_pos k1, p2]
    rfl
  rw [if_neg k1, if_neg k1, wrap_u64_eq so, Int.emod_eq_of_lt hs0 (by omega)]
  have p3 : paviorref01_Put.f n (f * 4096) 55 3 so = some (f * 4096 + so * 36028797018963968) := put_add (f * 4096) so 55 3 (by omega) (by omega) hs0 (by show so < 8; omega) (by omega) (by show f * 4096 / 36028797018963968 % 8 = 0; omega) n hn
  rw [p3]
  simp only [Option.bind_some]
  have e1 : ∃ b : Int, (if (!wr) = true then (128 : Int) else 0) = b ∧ (b = 0 ∨ b = 128) ∧ (if wr = true then (0 : Int) else 128) = b := ⟨_, rfl, by cases wr <;> simp, by cases wr <;> simp⟩
  have e2 : ∃ b : Int, (if (!ex) = true then (18014398509481984 : Int) else 0) = b ∧ (b = 0 ∨ b = 18014398509481984) ∧ (if ex = true then (0 : Int) else 18014398509481984) = b := ⟨_, rfl, by cases ex <;> simp, by cases ex <;> simp⟩
  have e3 : ∃ b : Int, (if se = true then (1024 : Int) else 0) = b ∧ (b = 0 ∨ b = 1024) := ⟨_, rfl, by split <;> simp⟩
  have e4 : ∃ b : Int, (if fo = true then (4503599627370496 : Int) else 0) = b ∧ (b = 0 ∨ b = 4503599627370496) := ⟨_, rfl, by split <;> simp⟩
  obtain ⟨b1, e1, h1, e1'⟩ := e1
  obtain ⟨b2, e2, h2, e2'⟩ := e2
  obtain ⟨b3, e3, h3⟩ := e3
  obtain ⟨b4, e4, h4⟩ := e4
  have s1 : paviorref02_set.f n (f * 4096 + so * 36028797018963968) 7 (!wr) = some (f * 4096 + so * 36028797018963968 + (if (!wr) = true then (128 : Int) else 0)) := refSet n hn _ 7 _ (by omega) (by omega) (by omega) (by show _ / 128 % 2 = 0; omega)
  rw [s1, e1]
  simp only [Option.bind_some]
  have s2 : paviorref02_set.f n (f * 4096 + so * 36028797018963968 + b1) 54 (!ex) = some (f * 4096 + so * 36028797018963968 + b1 + (if (!ex) = true then (18014398509481984 : Int) else 0)) := refSet n hn _ 54 _ (by omega) (by omega) (by omega) (by show _ / 18014398509481984 % 2 = 0; omega)
  rw [s2, e2]
  simp only [Option.bind_some]
  have s3 : paviorref02_set.f n (f * 4096 + so * 36028797018963968 + b1 + b2) 10 se = some (f * 4096 + so * 36028797018963968 + b1 + b2 + (if se = true then (1024 : Int) else 0)) := refSet n hn _ 10 _ (by omega) (by omega) (by omega) (by show _ / 1024 % 2 = 0; omega)
  rw [s3, e3]
  simp only [Option.bind_some]
  have s4 : paviorref02_set.f n (f * 4096 + so * 36028797018963968 + b1 + b2 + b3) 52 fo = some (f * 4096 + so * 36028797018963968 + b1 + b2 + b3 + (if fo = true then (4503599627370496 : Int) else 0)) := refSet n hn _ 52 _ (by omega) (by omega) (by omega) (by show _ / 4503599627370496 % 2 = 0; omega)
  rw [s4, e4]
  simp only [Option.bind_some]
  rw [e1', e2']
  generalize hx : f * 4096 + so * 36028797018963968 + b1 + b2 + b3 + b4 = x
  by_cases k2 : k = 2
  · have p4 : paviorref01_Put.f n x 0 2 1 = some (x + 1 * 1) := put_add x 1 0 2 (by omega) (by omega) (by omega) (by decide) (by omega) (by show x / 1 % 4 = 0; omega) n hn
    have s5 : paviorref02_set.f n (x + 1 * 1) 6 true = some (x + 1 * 1 + 64) := refSet n hn _ 6 true (by omega) (by omega) (by omega) (by show _ / 64 % 2 = 0; omega)
    rw [if_pos k2, p4]
    simp only [Option.bind_some]
    rw [s5, show low k = 65 by unfold low; rw [if_pos k2]]
    simp only [Option.bind_some]
    congr 1
    omega
  rw [if_neg k2]
  by_cases k3 : k = 3
  · have p4 : paviorref01_Put.f n x 0 2 3 = some (x + 3 * 1) := put_add x 3 0 2 (by omega) (by omega) (by omega) (by decide) (by omega) (by show x / 1 % 4 = 0; omega) n hn
    have s5 : paviorref02_set.f n (x + 3 * 1) 6 true = some (x + 3 * 1 + 64) := refSet n hn _ 6 true (by omega) (by omega) (by omega) (by show _ / 64 % 2 = 0; omega)
    rw [if_pos k3, p4]
    simp only [Option.bind_some]
    rw [s5, show low k = 67 by unfold low; rw [if_neg k2, if_pos k3]]
    simp only [Option.bind_some]
    congr 1
    omega
  · have p4 : paviorref01_Put.f n x 1 3 5 = some (x + 5 * 2) := put_add x 5 1 3 (by omega) (by omega) (by omega) (by decide) (by omega) (by show x / 2 % 8 = 0; omega) n hn
    rw [if_neg k3, p4, show low k = 10 by unfold low; rw [if_neg k2, if_neg k3]]
    simp only [Option.bind_some]
    congr 1
    omega

/-! ### the reference's Decode -/
end Go.Proofs.Ytehbhpkmlmeblaa.PteLib
