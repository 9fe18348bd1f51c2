/- What the reference's May, Word and Decode (layer 2) compute. -/
import Derived.Test.YtobbcfpkmmafnabPteLib
namespace Go.Proofs.Ytobbcfpkmmafnab.PteLib
open Go.RowKit Go.Proofs.YtobbcfpkmmafnabW.PrintWords Go.Proofs.YtobbcfpkmmafnabW.PrintLast Go.Proofs.YtobbcfpkmmafnabW.PrintMore Go.Proofs.Ytobbcfpkmmafnab.Bits Go.Proofs.Ytobbcfpkmmafnab.Ref01 Go.Proofs.Ytobbcfpkmmafnab.Q
set_option linter.unusedVariables false
set_option linter.unusedSimpArgs false

theorem refMay (n : Nat) (hn : 1 ≤ n) (lv k f : Int) (wr ex se fo : Bool) (so : Int) : paviorref02_May.f n lv k f wr ex se fo so = some (decide (MayP lv k f wr ex se fo so)) := by
  obtain ⟨n, rfl⟩ : ∃ m, n = m + 1 := ⟨n - 1, by omega⟩
  have hj : (lv < 0 ∨ lv > 3 ∨ f < 0 ∨ f ≥ 512 ∨ so < 0 ∨ so > 7) → paviorref02_May.j0 (n + 1) lv true k f wr ex se fo so = some (decide (MayP lv k f wr ex se fo so)) := by
    intro h
    simp only [paviorref02_May.j0]
    rw [if_pos trivial]
    congr 1
    symm
    rw [decide_eq_false_iff_not]
    intro hm
    obtain ⟨a, b, c, d, e, g, _⟩ := hm
    omega
  unfold paviorref02_May.f
  by_cases a : lv < 0
  · rw [if_pos a, hj (by omega)]
  rw [if_neg a]
  by_cases b : lv > 3
  · rw [if_pos b, hj (by omega)]
  rw [if_neg b]
  by_cases c : f < 0
  · rw [if_pos c, hj (by omega)]
  rw [if_neg c]
  by_cases d : f ≥ 512
  · rw [if_pos d, hj (by omega)]
  rw [if_neg d]
  by_cases e : so < 0
  · rw [if_pos e, hj (by omega)]
  rw [if_neg e]
  by_cases g : so > 7
  · rw [show decide (so > 7) = true by simpa using g, hj (by omega)]
  have h0 : 0 ≤ lv := by omega
  have h1 : lv ≤ 3 := by omega
  have hf0 : 0 ≤ f := by omega
  have hf : f < 512 := by omega
  have hs0 : 0 ≤ so := by omega
  have hs : so ≤ 7 := by omega
  rw [show decide (so > 7) = false by simpa using g]
  simp only [paviorref02_May.j0]
  rw [if_neg (by decide)]
  have ht : Int.tmod f 8 = f % 8 := Int.tmod_eq_emod_of_nonneg hf0
  rw [ht]
  have key : ∀ b : Bool, (b = true ↔ MayP lv k f wr ex se fo so) → some b = some (decide (MayP lv k f wr ex se fo so)) := by
    intro b hb
    congr 1
    rw [Bool.eq_iff_iff, hb, decide_eq_true_eq]
  by_cases k0 : k = 0
  · subst k0
    rw [if_pos rfl]
    by_cases z : f = 0
    · rw [if_pos z]
      cases wr <;> cases ex <;> cases se <;> cases fo <;> simp [MayP, h0, h1, hs0, hs, z]
      rw [Bool.eq_iff_iff]; simp
    · rw [if_neg z]
      refine key _ ?_
      simp [MayP, z]
  rw [if_neg k0]
  by_cases k1 : k = 1
  · subst k1
    rw [if_pos rfl]
    by_cases hl : lv ≤ 2
    · rw [if_pos hl]
      cases wr <;> cases ex <;> cases se <;> cases fo <;> simp [MayP, h0, h1, hf0, hf, hs0, hs, hl]
      rw [Bool.eq_iff_iff]; simp
    · rw [if_neg hl]
      refine key _ ?_
      simp [MayP, hl]
  rw [if_neg k1]
  by_cases k2 : k = 2
  · subst k2
    rw [if_pos rfl]
    by_cases hl : lv = 2
    · rw [if_pos hl]
      cases fo
      · rw [if_neg (by decide)]
        refine key _ ?_
        simp [MayP, hf0, hf, hs0, hs, hl]
      · rw [if_pos rfl]
        refine key _ ?_
        simp [MayP]
    · rw [if_neg hl]
      refine key _ ?_
      simp [MayP, hl]
  rw [if_neg k2]
  by_cases k3 : k = 3
  · subst k3
    rw [if_pos rfl]
    refine key _ ?_
    simp [MayP, h0, h1, hf0, hf, hs0, hs]
  rw [if_neg k3]
  by_cases k4 : k = 4
  · subst k4
    rw [if_pos rfl]
    cases se
    · rw [if_neg (by decide)]
      refine key _ ?_
      simp [MayP, h0, h1, hf0, hf, hs0, hs]
    · rw [if_pos rfl]
      refine key _ ?_
      simp [MayP]
  rw [if_neg k4]
  refine key _ ?_
  simp [MayP, k0, k1, k2, k3, k4]

theorem refSet (n : Nat) (hn : 129 ≤ n) (w : Int) (i : Nat) (b : Bool) (h0 : 0 ≤ w) (h1 : w < 18446744073709551616) (hi : i + 1 ≤ 64) (hz : w / ((2 ^ i : Nat) : Int) % 2 = 0) :
    paviorref02_set.f n w (i : Int) b = some (w + (if b = true then ((2 ^ i : Nat) : Int) else 0)) := by
  unfold paviorref02_set.f
  cases b
  · simp
  · rw [if_pos rfl, if_pos rfl]
    have h := put_add w 1 i 1 h0 h1 (by omega) (by decide) hi hz n hn
    rw [Int.one_mul] at h
    rw [show ((1 : Nat) : Int) = (1 : Int) from rfl] at h
    rw [h]
    rfl

theorem refWord (n : Nat) (hn : 129 ≤ n) (k f : Int) (wr ex se fo : Bool) (so : Int) (hf0 : 0 ≤ f) (hf : f < 512) (hs0 : 0 ≤ so) (hs : so ≤ 7) :
    paviorref02_Word.f n k f wr ex se fo so = some (wordI k f wr ex se fo so) := by
  unfold paviorref02_Word.f wordI
  by_cases k0 : k = 0
  · rw [if_pos k0, if_pos k0]
  rw [if_neg k0, if_neg k0, wrap_u64_eq f, Int.emod_eq_of_lt hf0 (by omega)]
  have p1 : paviorref01_Put.f n 0 12 36 f = some (0 + f * 4096) := put_add 0 f 12 36 (by omega) (by omega) hf0 (by show f < 68719476736; omega) (by omega) (by decide) n hn
  rw [p1]
  simp only [Option.bind_some, Int.zero_add]
  by_cases k1 : k = 1
  · have p2 : paviorref01_Put.f n (f * 4096) 0 2 3 = some (f * 4096 + 3 * 1) := put_add (f * 4096) 3 0 2 (by omega) (by omega) (by omega) (by decide) (by omega) (by show f * 4096 / 1 % 4 = 0; omega) n hn
    rw [if_pos k1, if_pos k1, p2]
    rfl
  rw [if_neg k1, if_neg k1, wrap_u64_eq so, Int.emod_eq_of_lt hs0 (by omega)]
  have p3 : paviorref01_Put.f n (f * 4096) 55 3 so = some (f * 4096 + so * 36028797018963968) := put_add (f * 4096) so 55 3 (by omega) (by omega) hs0 (by show so < 8; omega) (by omega) (by show f * 4096 / 36028797018963968 % 8 = 0; omega) n hn
  rw [p3]
  simp only [Option.bind_some]
  have e1 : ∃ b : Int, (if (!wr) = true then (128 : Int) else 0) = b ∧ (b = 0 ∨ b = 128) ∧ (if wr = true then (0 : Int) else 128) = b := ⟨_, rfl, by cases wr <;> simp, by cases wr <;> simp⟩
  have e2 : ∃ b : Int, (if (!ex) = true then (18014398509481984 : Int) else 0) = b ∧ (b = 0 ∨ b = 18014398509481984) ∧ (if ex = true then (0 : Int) else 18014398509481984) = b := ⟨_, rfl, by cases ex <;> simp, by cases ex <;> simp⟩
  have e3 : ∃ b : Int, (if se = true then (1024 : Int) else 0) = b ∧ (b = 0 ∨ b = 1024) := ⟨_, rfl, by split <;> simp⟩
  have e4 : ∃ b : Int, (if fo = true then (4503599627370496 : Int) else 0) = b ∧ (b = 0 ∨ b = 4503599627370496) := ⟨_, rfl, by split <;> simp⟩
  obtain ⟨b1, e1, h1, e1'⟩ := e1
  obtain ⟨b2, e2, h2, e2'⟩ := e2
  obtain ⟨b3, e3, h3⟩ := e3
  obtain ⟨b4, e4, h4⟩ := e4
  have s1 : paviorref02_set.f n (f * 4096 + so * 36028797018963968) 7 (!wr) = some (f * 4096 + so * 36028797018963968 + (if (!wr) = true then (128 : Int) else 0)) := refSet n hn _ 7 _ (by omega) (by omega) (by omega) (by show _ / 128 % 2 = 0; omega)
  rw [s1, e1]
  simp only [Option.bind_some]
  have s2 : paviorref02_set.f n (f * 4096 + so * 36028797018963968 + b1) 54 (!ex) = some (f * 4096 + so * 36028797018963968 + b1 + (if (!ex) = true then (18014398509481984 : Int) else 0)) := refSet n hn _ 54 _ (by omega) (by omega) (by omega) (by show _ / 18014398509481984 % 2 = 0; omega)
  rw [s2, e2]
  simp only [Option.bind_some]
  have s3 : paviorref02_set.f n (f * 4096 + so * 36028797018963968 + b1 + b2) 10 se = some (f * 4096 + so * 36028797018963968 + b1 + b2 + (if se = true then (1024 : Int) else 0)) := refSet n hn _ 10 _ (by omega) (by omega) (by omega) (by show _ / 1024 % 2 = 0; omega)
  rw [s3, e3]
  simp only [Option.bind_some]
  have s4 : paviorref02_set.f n (f * 4096 + so * 36028797018963968 + b1 + b2 + b3) 52 fo = some (f * 4096 + so * 36028797018963968 + b1 + b2 + b3 + (if fo = true then (4503599627370496 : Int) else 0)) := refSet n hn _ 52 _ (by omega) (by omega) (by omega) (by show _ / 4503599627370496 % 2 = 0; omega)
  rw [s4, e4]
  simp only [Option.bind_some]
  rw [e1', e2']
  generalize hx : f * 4096 + so * 36028797018963968 + b1 + b2 + b3 + b4 = x
  by_cases k2 : k = 2
  · have p4 : paviorref01_Put.f n x 0 2 1 = some (x + 1 * 1) := put_add x 1 0 2 (by omega) (by omega) (by omega) (by decide) (by omega) (by show x / 1 % 4 = 0; omega) n hn
    have s5 : paviorref02_set.f n (x + 1 * 1) 6 true = some (x + 1 * 1 + 64) := refSet n hn _ 6 true (by omega) (by omega) (by omega) (by show _ / 64 % 2 = 0; omega)
    rw [if_pos k2, p4]
    simp only [Option.bind_some]
    rw [s5, show low k = 65 by unfold low; rw [if_pos k2]]
    simp only [Option.bind_some]
    congr 1
    omega
  rw [if_neg k2]
  by_cases k3 : k = 3
  · have p4 : paviorref01_Put.f n x 0 2 3 = some (x + 3 * 1) := put_add x 3 0 2 (by omega) (by omega) (by omega) (by decide) (by omega) (by show x / 1 % 4 = 0; omega) n hn
    have s5 : paviorref02_set.f n (x + 3 * 1) 6 true = some (x + 3 * 1 + 64) := refSet n hn _ 6 true (by omega) (by omega) (by omega) (by show _ / 64 % 2 = 0; omega)
    rw [if_pos k3, p4]
    simp only [Option.bind_some]
    rw [s5, show low k = 67 by unfold low; rw [if_neg k2, if_pos k3]]
    simp only [Option.bind_some]
    congr 1
    omega
  · have p4 : paviorref01_Put.f n x 1 3 5 = some (x + 5 * 2) := put_add x 5 1 3 (by omega) (by omega) (by omega) (by decide) (by omega) (by show x / 2 % 8 = 0; omega) n hn
    rw [if_neg k3, p4, show low k = 10 by unfold low; rw [if_neg k2, if_neg k3]]
    simp only [Option.bind_some]
    congr 1
    omega

/-! ### the reference's Decode -/
def cand (w κ : Int) : Dsc :=
  if κ = 0 then (0, 0, false, false, false, false, 0)
  else if κ = 1 then (1, isFrame w, false, false, false, false, 0)
  else (κ, isFrame w, hasW w, hasX w, hasS w, hasF w, isSoft w)

theorem cand_of {lv w : Int} {d : Dsc} (h : may lv d) (hw : word d = w) : d = cand w d.1 ∧ 0 ≤ d.1 ∧ d.1 ≤ 4 ∧ isFrame w < 512 := by
  obtain ⟨k, f, wr, ex, se, fo, so⟩ := d
  unfold may at h
  unfold word at hw
  simp only at h hw ⊢
  obtain ⟨a, b, c, d, e, g, hk⟩ := h
  unfold cand
  rcases hk with ⟨rfl, rfl, rfl, rfl, rfl, rfl, rfl⟩ | ⟨rfl, hl, rfl, rfl, rfl, rfl, rfl⟩ | hk
  · have hz : w = 0 := by rw [← hw]; simp [wordI]
    rw [if_pos rfl, hz]
    exact ⟨rfl, by omega, by omega, by decide⟩
  · have hz : w = f * 4096 + 3 := by rw [← hw]; unfold wordI; rw [if_neg (by omega), if_pos rfl]
    have hfr : isFrame w = f := by rw [hz]; unfold isFrame; omega
    rw [if_neg (by omega), if_pos rfl, hfr]
    exact ⟨rfl, by omega, by omega, d⟩
  · obtain ⟨r1, r2, r3, r4, r5, r6, _, _⟩ := fields_word k f wr ex se fo so c d e g (by omega) (by omega)
    rw [hw] at r1 r2 r3 r4 r5 r6
    rw [if_neg (by omega), if_neg (by omega), r1, r2, r3, r4, r5, r6]
    exact ⟨rfl, by omega, by omega, d⟩

theorem ref_loop (lv w : Int) (hfr : isFrame w < 512) :
    ∀ (d : Nat) (κ : Int), 0 ≤ κ → κ + d = 5 → ∀ n, 129 + 8 * d ≤ n → (∀ κ', 0 ≤ κ' → κ' < κ → ¬ (may lv (cand w κ') ∧ word (cand w κ') = w)) →
      ∃ k f wr ex se fo so, paviorref02_Decode.l0 n lv w κ 0 (isFrame w) (hasW w) (hasX w) (hasS w) (hasF w) (isSoft w) = some (k, f, wr, ex, se, fo, so) ∧ IsDec lv w (k, f, wr, ex, se, fo, so) := by
  intro d
  induction d with
  | zero =>
    intro κ k0 kd n hn hno
    obtain ⟨n, rfl⟩ : ∃ m, n = m + 1 := ⟨n - 1, by omega⟩
    simp only [paviorref02_Decode.l0]
    rw [if_neg (by omega)]
    refine ⟨5, 0, false, false, false, false, 0, rfl, .inr ⟨rfl, fun d hd hw => ?_⟩⟩
    obtain ⟨h1, h2, h3, _⟩ := cand_of hd hw
    refine hno d.1 h2 (by omega) ?_
    rw [← h1]
    exact ⟨hd, hw⟩
  | succ d ih =>
    intro κ k0 kd n hn hno
    obtain ⟨n, rfl⟩ : ∃ m, n = m + 1 := ⟨n - 1, by omega⟩
    obtain ⟨n, rfl⟩ : ∃ m, n = m + 1 := ⟨n - 1, by omega⟩
    obtain ⟨n, rfl⟩ : ∃ m, n = m + 1 := ⟨n - 1, by omega⟩
    obtain ⟨n, rfl⟩ : ∃ m, n = m + 1 := ⟨n - 1, by omega⟩
    have hso0 : 0 ≤ isSoft w := by unfold isSoft; omega
    have hso : isSoft w ≤ 7 := by unfold isSoft; omega
    have hfr0 : 0 ≤ isFrame w := by unfold isFrame; omega
    have step : (¬ (may lv (cand w κ) ∧ word (cand w κ) = w) → ∃ k f wr ex se fo so, paviorref02_Decode.l0 (n) lv w (κ + 1) 0 (isFrame w) (hasW w) (hasX w) (hasS w) (hasF w) (isSoft w) = some (k, f, wr, ex, se, fo, so) ∧ IsDec lv w (k, f, wr, ex, se, fo, so)) := by
      intro hc
      refine ih (κ + 1) (by omega) (by omega) n (by omega) (fun κ' h0 h1 => ?_)
      by_cases e : κ' = κ
      · subst e; exact hc
      · exact hno κ' h0 (by omega)
    have hk1 : wrap64 (κ + 1) = κ + 1 := wrap64_of (by omega) (by omega)
    -- what j2 tells of a candidate
    have hj2 : ∀ (k f : Int) (wr ex se fo : Bool) (so : Int), cand w κ = (k, f, wr, ex, se, fo, so) → 0 ≤ f → f < 512 → 0 ≤ so → so ≤ 7 →
        ∃ k' f' wr' ex' se' fo' so', paviorref02_Decode.j2 (n + 2) lv w κ 0 (isFrame w) (hasW w) (hasX w) (hasS w) (hasF w) (isSoft w) k f wr ex se fo so = some (k', f', wr', ex', se', fo', so') ∧ IsDec lv w (k', f', wr', ex', se', fo', so') := by
      intro k f wr ex se fo so hc f0 f1 s0 s1
      simp only [paviorref02_Decode.j2]
      rw [refMay (n + 1) (by omega)]
      simp only [Option.bind_some]
      by_cases hm : MayP lv k f wr ex se fo so
      · rw [if_pos (by simpa using hm), refWord (n + 1) (by omega) k f wr ex se fo so f0 f1 s0 s1]
        simp only [Option.bind_some, paviorref02_Decode.j3]
        by_cases hw : wordI k f wr ex se fo so = w
        · rw [if_pos (by simpa using hw)]
          exact ⟨k, f, wr, ex, se, fo, so, rfl, .inl ⟨hm, hw⟩⟩
        · rw [if_neg (by simpa using hw), hk1]
          exact step (fun h => hw (by rw [hc] at h; exact h.2))
      · rw [if_neg (by simpa using hm)]
        simp only [paviorref02_Decode.j3]
        rw [if_neg (by decide), hk1]
        exact step (fun h => hm (by rw [hc] at h; exact h.1))
    simp only [paviorref02_Decode.l0]
    rw [if_pos (by omega)]
    by_cases z : κ = 0
    · subst z
      rw [if_pos rfl]
      simp only [paviorref02_Decode.j1]
      rw [if_neg (by omega)]
      exact hj2 0 0 false false false false 0 (by simp [cand]) (by omega) (by omega) (by omega) (by omega)
    · rw [if_neg z]
      simp only [paviorref02_Decode.j1]
      by_cases o : κ = 1
      · subst o
        rw [if_pos rfl]
        exact hj2 1 (isFrame w) false false false false 0 (by unfold cand; rw [if_neg (by omega), if_pos rfl]) hfr0 hfr (by omega) (by omega)
      · rw [if_neg o]
        exact hj2 κ (isFrame w) (hasW w) (hasX w) (hasS w) (hasF w) (isSoft w) (by unfold cand; rw [if_neg z, if_neg o]) hfr0 hfr hso0 hso

/-- What the reference's Decode tells. -/
theorem refDecode (n : Nat) (hn : 200 ≤ n) (lv w : Int) (w0 : 0 ≤ w) (w1 : w < 18446744073709551616) :
    ∃ k f wr ex se fo so, paviorref02_Decode.f n lv w = some (k, f, wr, ex, se, fo, so) ∧ IsDec lv w (k, f, wr, ex, se, fo, so) := by
  unfold paviorref02_Decode.f
  have f1 : paviorref01_Field.f n w 12 36 = some (isFrame w) := field_int w 12 36 w0 w1 (by omega) n (by omega)
  have f2 : paviorref01_Field.f n w 55 3 = some (isSoft w) := field_int w 55 3 w0 w1 (by omega) n (by omega)
  have b1 : paviorref01_Bit.f w 7 = some (w / 128 % 2) := bit_int w 7 w0 w1 (by omega)
  have b2 : paviorref01_Bit.f w 54 = some (w / 18014398509481984 % 2) := bit_int w 54 w0 w1 (by omega)
  have b3 : paviorref01_Bit.f w 10 = some (w / 1024 % 2) := bit_int w 10 w0 w1 (by omega)
  have b4 : paviorref01_Bit.f w 52 = some (w / 4503599627370496 % 2) := bit_int w 52 w0 w1 (by omega)
  rw [f1]
  simp only [Option.bind_some]
  have hfr0 : 0 ≤ isFrame w ∧ isFrame w < 68719476736 := by unfold isFrame; omega
  have hso0 : 0 ≤ isSoft w ∧ isSoft w ≤ 7 := by unfold isSoft; omega
  by_cases hf : isFrame w ≥ 512
  · rw [if_pos hf]
    refine ⟨5, 0, false, false, false, false, 0, rfl, .inr ⟨rfl, fun d hd hw => ?_⟩⟩
    have := (cand_of hd hw).2.2.2
    omega
  · rw [if_neg hf, b1, b2, b3, b4, f2]
    simp only [Option.bind_some]
    rw [wrap64_of (by omega) (by omega), wrap64_of (by omega) (by omega)]
    exact ref_loop lv w (by omega) 5 0 (by omega) (by omega) n (by omega) (fun κ' h0 h1 => by omega)

end Go.Proofs.Ytobbcfpkmmafnab.PteLib
