/- At which levels a table's, a block's, a page's and a moving one's word says the same, and at which it is reserved: the pure statement of PteLevels, for every level, descriptor and other level. -/
import Derived.Test.YtobbcfpkmmafnabPteUp
import Derived.Test.YtobbcfpkmmafnabQx10
namespace Go.Proofs.Ytobbcfpkmmafnab.Pure
open Go.RowKit Go.Proofs.Ytobbcfpkmmafnab.Q Go.Proofs.YtobbcfpkmmafnabW.PrintWords Go.Proofs.YtobbcfpkmmafnabW.PrintLast Go.Proofs.Ytobbcfpkmmafnab.PteLib Go.Proofs.Ytobbcfpkmmafnab.Bits
set_option linter.unusedVariables false
set_option linter.unusedSimpArgs false

theorem levels_of (n : Nat) (hn : 20 ≤ n) (lv k f : Int) (wr ex se fo : Bool) (so o : Int) (o0 : 0 ≤ o) : paviorlaw02_PteLevels.j0 n lv o true k f wr ex se fo so = some true := by
  obtain ⟨n, rfl⟩ : ∃ m, n = m + 1 := ⟨n - 1, by omega⟩
  obtain ⟨n, rfl⟩ : ∃ m, n = m + 1 := ⟨n - 1, by omega⟩
  simp only [paviorlaw02_PteLevels.j0]
  by_cases hm : MayP lv k f wr ex se fo so
  · rw [encode_yes (n + 1) (by omega) lv k f wr ex se fo so hm]
    simp only [Option.bind_some, Option.isNone_none, if_true]
    have ht : Int.tmod o 4 = o % 4 := Int.tmod_eq_emod_of_nonneg o0
    rw [ht]
    generalize hp : o % 4 = p
    have hp0 : 0 ≤ p ∧ p ≤ 3 := by omega
    have hwb := word_bounds hm
    have bad : ¬ MayP p k f wr ex se fo so → IsDec p (wordI k f wr ex se fo so) (5, 0, false, false, false, false, 0) := by
      intro hn
      refine .inr ⟨rfl, fun d hd hw => ?_⟩
      have := may_inj hd (show may lv (k, f, wr, ex, se, fo, so) from hm) hw
      subst this
      exact hn hd
    have good : MayP p k f wr ex se fo so → IsDec p (wordI k f wr ex se fo so) (k, f, wr, ex, se, fo, so) := fun h => .inl ⟨h, rfl⟩
    have yes : MayP p k f wr ex se fo so → ∀ x12 : Bool, x12 = false → ((pte_Decode.f (n + 1) p (wordI k f wr ex se fo so)).bind fun bt285 => paviorlaw02_PteLevels.j1 (n + 1) true bt285.2.2.2.2.2.2.2 x12 k f wr ex se fo so bt285.1 bt285.2.1 bt285.2.2.1 bt285.2.2.2.1 bt285.2.2.2.2.1 bt285.2.2.2.2.2.1 bt285.2.2.2.2.2.2.1) = some true := by
      intro h x12 hx
      rw [decode_of (n + 1) (by omega) hp0.1 hp0.2 hwb.1 hwb.2 (good h)]
      subst hx
      simp [paviorlaw02_PteLevels.j1]
    have no : ¬ MayP p k f wr ex se fo so → ∀ x12 : Bool, x12 = true → ((pte_Decode.f (n + 1) p (wordI k f wr ex se fo so)).bind fun bt285 => paviorlaw02_PteLevels.j1 (n + 1) true bt285.2.2.2.2.2.2.2 x12 k f wr ex se fo so bt285.1 bt285.2.1 bt285.2.2.1 bt285.2.2.2.1 bt285.2.2.2.2.1 bt285.2.2.2.2.2.1 bt285.2.2.2.2.2.2.1) = some true := by
      intro h x12 hx
      rw [decode_of (n + 1) (by omega) hp0.1 hp0.2 hwb.1 hwb.2 (bad h)]
      subst hx
      simp [paviorlaw02_PteLevels.j1]
    obtain ⟨a, b, c, d, e, g, hk⟩ := hm
    by_cases k1 : k = 1
    · simp only [if_pos k1]
      by_cases p3 : p = 3
      · simp only [if_pos p3]
        exact no (fun h => by obtain ⟨_, _, _, _, _, _, h⟩ := h; omega) true rfl
      · simp only [if_neg p3]
        simp only [if_neg (show ¬ k = 2 by omega), if_neg (show ¬ k = 3 by omega)]
        refine yes ⟨hp0.1, hp0.2, c, d, e, g, ?_⟩ false rfl
        rcases hk with h | ⟨_, _, h⟩ | h | h | h
        · omega
        · exact .inr (.inl ⟨k1, by omega, h⟩)
        · omega
        · omega
        · omega
    · simp only [if_neg k1]
      by_cases k2 : k = 2
      · simp only [if_pos k2]
        by_cases pl : p = lv
        · exact yes (by rw [pl]; exact ⟨a, b, c, d, e, g, hk⟩) _ (by simpa using pl)
        · exact no (fun h => by obtain ⟨_, _, _, _, _, _, h⟩ := h; omega) _ (by simpa using pl)
      · simp only [if_neg k2]
        by_cases k3 : k = 3
        · simp only [if_pos k3]
          by_cases pl : p = lv
          · exact yes (by rw [pl]; exact ⟨a, b, c, d, e, g, hk⟩) _ (by simpa using pl)
          · exact no (fun h => by obtain ⟨_, _, _, _, _, _, h⟩ := h; omega) _ (by simpa using pl)
        · simp only [if_neg k3]
          refine yes ⟨hp0.1, hp0.2, c, d, e, g, ?_⟩ false rfl
          rcases hk with h | h | h | h | h
          · exact .inl h
          · omega
          · omega
          · omega
          · exact .inr (.inr (.inr (.inr h)))
  · rw [encode_no (n + 1) (by omega) lv k f wr ex se fo so hm]
    simp

theorem PteLevels : paviorlaw02_PteLevels.Pure := by
  intro lv k f wr ex se fo so o hlv hd ho
  obtain ⟨o0, o1⟩ := wf_i64.mp ho
  refine ⟨40, ?_⟩
  unfold paviorlaw02_PteLevels.f
  rw [up_true 40 (by omega)]
  simp only [Option.bind_some]
  by_cases h : o < 0
  · rw [if_pos h, wrap64_of (n := o + 1) (by omega) (by omega), wrap64_of (by omega) (by omega)]
    exact levels_of 40 (by omega) lv k f wr ex se fo so _ (by omega)
  · rw [if_neg h]
    exact levels_of 40 (by omega) lv k f wr ex se fo so o (by omega)

end Go.Proofs.Ytobbcfpkmmafnab.Pure
