/- What isn't the same hasn't the same word: the pure statement of PteUnlike, for every level and two descriptors. -/
import Derived.Test.YtobbcfpkmmafnabPteUp
import Derived.Test.YtobbcfpkmmafnabQx9
namespace Go.Proofs.Ytobbcfpkmmafnab.Pure
open Go.RowKit Go.Proofs.Ytobbcfpkmmafnab.Q Go.Proofs.YtobbcfpkmmafnabW.PrintWords Go.Proofs.YtobbcfpkmmafnabW.PrintLast Go.Proofs.Ytobbcfpkmmafnab.PteLib Go.Proofs.Ytobbcfpkmmafnab.Bits
set_option linter.unusedVariables false
set_option linter.unusedSimpArgs false

theorem PteUnlike : paviorlaw02_PteUnlike.Pure := by
  intro lv k f wr ex se fo so k' f' wr' ex' se' fo' so' hlv hd hd'
  refine ⟨10, ?_⟩
  unfold paviorlaw02_PteUnlike.f
  rw [up_true 10 (by omega)]
  simp only [Option.bind_some]
  by_cases hm : MayP lv k f wr ex se fo so
  · rw [encode_yes 10 (by omega) lv k f wr ex se fo so hm]
    simp only [Option.bind_some, Option.isNone_none, if_true]
    by_cases hm' : MayP lv k' f' wr' ex' se' fo' so'
    · rw [encode_yes 10 (by omega) lv k' f' wr' ex' se' fo' so' hm']
      simp only [Option.bind_some, Option.isNone_none, if_true, paviorlaw02_PteUnlike.j0]
      rw [if_neg (by decide)]
      congr 1
      rw [beq_iff_eq, Bool.eq_iff_iff]
      simp only [Bool.and_eq_true, beq_iff_eq]
      constructor
      · intro h
        have := may_inj (show may lv (k, f, wr, ex, se, fo, so) from hm) (show may lv (k', f', wr', ex', se', fo', so') from hm') h
        simp only [Prod.mk.injEq] at this
        exact this
      · rintro ⟨rfl, rfl, rfl, rfl, rfl, rfl, rfl⟩
        rfl
    · rw [encode_no 10 (by omega) lv k' f' wr' ex' se' fo' so' hm']
      simp [paviorlaw02_PteUnlike.j0]
  · rw [encode_no 10 (by omega) lv k f wr ex se fo so hm]
    by_cases hm' : MayP lv k' f' wr' ex' se' fo' so'
    · rw [encode_yes 10 (by omega) lv k' f' wr' ex' se' fo' so' hm']
      simp [paviorlaw02_PteUnlike.j0]
    · rw [encode_no 10 (by omega) lv k' f' wr' ex' se' fo' so' hm']
      simp [paviorlaw02_PteUnlike.j0]

end Go.Proofs.Ytobbcfpkmmafnab.Pure
