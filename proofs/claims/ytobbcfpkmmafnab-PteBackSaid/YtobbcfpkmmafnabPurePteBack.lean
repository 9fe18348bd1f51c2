/- What was encoded is decoded as it was, and what was decoded, and isn't reserved, is encoded as that word: the pure statement of PteBack, for every level, descriptor and word. -/
import Derived.Test.YtobbcfpkmmafnabPteUp
import Derived.Test.YtobbcfpkmmafnabQx8
namespace Go.Proofs.Ytobbcfpkmmafnab.Pure
open Go.RowKit Go.Proofs.Ytobbcfpkmmafnab.Q Go.Proofs.YtobbcfpkmmafnabW.PrintWords Go.Proofs.YtobbcfpkmmafnabW.PrintLast Go.Proofs.Ytobbcfpkmmafnab.PteLib Go.Proofs.Ytobbcfpkmmafnab.Bits
set_option linter.unusedVariables false
set_option linter.unusedSimpArgs false

theorem back_tail (n : Nat) (hn : 10 ≤ n) (lv w : Int) (w0 : 0 ≤ w) (w1 : w < 18446744073709551616) (k f : Int) (wr ex se fo : Bool) (so : Int) (h0 : 0 ≤ lv) (h3 : lv ≤ 3) (hd : IsDec lv w (k, f, wr, ex, se, fo, so)) :
    k = 5 ∨ (k ≠ 5 ∧ pte_Encode.f n lv k f wr ex se fo so = some (w, none)) := by
  rcases hd with ⟨h1, h2⟩ | ⟨h1, h2⟩
  · right
    have hm : MayP lv k f wr ex se fo so := h1
    refine ⟨?_, ?_⟩
    · obtain ⟨_, _, _, _, _, _, hk⟩ := hm
      omega
    · rw [encode_yes n (by omega) lv k f wr ex se fo so hm]
      congr 2
  · left
    have := congrArg Prod.fst h1
    exact this

theorem PteBack : paviorlaw02_PteBack.Pure := by
  intro lv k f wr ex se fo so w hlv hd hw
  obtain ⟨w0, w1⟩ := wf_u64.mp hw
  refine ⟨201, ?_⟩
  unfold paviorlaw02_PteBack.f
  rw [up_true 201 (by omega)]
  simp only [Option.bind_some]
  by_cases hl : lv < 0 ∨ 3 < lv
  · have hm : ¬ MayP lv k f wr ex se fo so := fun hm => by have := hm.1; have := hm.2.1; omega
    rw [encode_no 201 (by omega) lv k f wr ex se fo so hm, decode_no 201 (by omega) lv w hl]
    simp [paviorlaw02_PteBack.j2]
  · obtain ⟨k', f', wr', ex', se', fo', so', he, hdec⟩ := decode_yes 200 (by omega) lv w (by omega) (by omega) w0 w1
    have he201 := decode_of 201 (by omega) (show 0 ≤ lv by omega) (show lv ≤ 3 by omega) w0 w1 hdec
    have hb := back_tail 199 (by omega) lv w w0 w1 k' f' wr' ex' se' fo' so' (by omega) (by omega) hdec
    have hb2 := back_tail 200 (by omega) lv w w0 w1 k' f' wr' ex' se' fo' so' (by omega) (by omega) hdec
    by_cases hm : MayP lv k f wr ex se fo so
    · have hwb := word_bounds hm
      rw [encode_yes 201 (by omega) lv k f wr ex se fo so hm]
      simp only [Option.bind_some, Option.isNone_none, if_true]
      rw [decode_of 201 (by omega) (by omega) (by omega) hwb.1 hwb.2 (show IsDec lv (wordI k f wr ex se fo so) (k, f, wr, ex, se, fo, so) from .inl ⟨hm, rfl⟩)]
      simp only [Option.bind_some, Option.isNone_none, if_true, paviorlaw02_PteBack.j0]
      rw [if_neg (by simp), he]
      simp only [Option.bind_some, Option.isNone_none, if_true, paviorlaw02_PteBack.j1]
      rcases hb with h5 | ⟨h5, hb⟩
      · simp [h5]
      · rw [if_neg (by simpa using h5), hb]; simp
    · rw [encode_no 201 (by omega) lv k f wr ex se fo so hm, he201]
      simp only [Option.bind_some, Option.isNone_none, Option.isNone_some, if_true]
      rw [if_neg (by decide)]
      simp only [paviorlaw02_PteBack.j2]
      rcases hb2 with h5 | ⟨h5, hb2⟩
      · simp [h5]
      · rw [if_neg (by simpa using h5), hb2]; simp

end Go.Proofs.Ytobbcfpkmmafnab.Pure
