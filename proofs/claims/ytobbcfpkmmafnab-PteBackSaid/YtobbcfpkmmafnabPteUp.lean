/- The head of layer 2's statements is true. -/
import Derived.Test.YtobbcfpkmmafnabPteRef
namespace Go.Proofs.Ytobbcfpkmmafnab.PteLib
open Go.RowKit Go.Proofs.YtobbcfpkmmafnabW.PrintWords Go.Proofs.YtobbcfpkmmafnabW.PrintLast Go.Proofs.YtobbcfpkmmafnabW.PrintMore Go.Proofs.Ytobbcfpkmmafnab.Bits Go.Proofs.Ytobbcfpkmmafnab.Ref01 Go.Proofs.Ytobbcfpkmmafnab.Q
set_option linter.unusedVariables false
set_option linter.unusedSimpArgs false

theorem isDec_zero {lv : Int} (h0 : 0 ≤ lv) (h3 : lv ≤ 3) : IsDec lv 0 (0, 0, false, false, false, false, 0) :=
  .inl ⟨by unfold may MayP; simp; omega, by simp [word, wordI]⟩
theorem decode_of (n : Nat) (hn : 3 ≤ n) {lv w k f : Int} {wr ex se fo : Bool} {so : Int} (h0 : 0 ≤ lv) (h3 : lv ≤ 3) (w0 : 0 ≤ w) (w1 : w < 18446744073709551616) (h : IsDec lv w (k, f, wr, ex, se, fo, so)) :
    pte_Decode.f n lv w = some (k, f, wr, ex, se, fo, so, none) := by
  obtain ⟨k', f', wr', ex', se', fo', so', he, hd⟩ := decode_yes n hn lv w h0 h3 w0 w1
  have := isDec_unique h hd
  simp only [Prod.mk.injEq] at this
  obtain ⟨rfl, rfl, rfl, rfl, rfl, rfl, rfl⟩ := this
  exact he
theorem bad_at_one : IsDec 0 1 (5, 0, false, false, false, false, 0) := by
  refine .inr ⟨rfl, fun d hd hw => ?_⟩
  have h1 := read_word hd
  rw [hw] at h1
  have : ¬ may 0 (readI 0 1) := by decide
  exact this (h1 ▸ hd)

theorem up_true (n : Nat) (hn : 3 ≤ n) : paviorlaw02_up.f n = some true := by
  unfold paviorlaw02_up.f
  rw [decode_of n hn (by omega) (by omega) (by omega) (by omega) (isDec_zero (lv := 3) (by omega) (by omega))]
  rw [encode_yes n (by omega) 3 3 2 true true false false 0 (by decide)]
  rw [decode_of n hn (by omega) (by omega) (by omega) (by omega) bad_at_one]
  decide

end Go.Proofs.Ytobbcfpkmmafnab.PteLib
