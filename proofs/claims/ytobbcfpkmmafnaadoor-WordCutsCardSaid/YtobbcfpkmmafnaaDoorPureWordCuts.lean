/- The runs of any numbers, or that they may not be, are what the document's reference says: the pure statement of WordCuts, for every two numbers. -/
import Derived.Test.YtobbcfpkmmafnaaDoorWordField
import Derived.Test.YtobbcfpkmmafnaaDoorWordRefs
import Derived.Test.YtobbcfpkmmafnaaDoorQx4
namespace Go.Proofs.YtobbcfpkmmafnaaDoor.Pure
open Go.RowKit Go.Proofs.YtobbcfpkmmafnaaDoor.Q Go.Proofs.YtobbcfpkmmafnaaDoorW.PrintWords Go.Proofs.YtobbcfpkmmafnaaDoorW.PrintLast Go.Proofs.YtobbcfpkmmafnaaDoor.WordLib Go.Proofs.YtobbcfpkmmafnaaDoor.Bits
set_option linter.unusedVariables false
set_option linter.unusedSimpArgs false

theorem cuts_same (l : List S39) (hl : l.length ≤ 4000000) : ∀ (d i : Nat), i + d = l.length → Ev (fun k => paviorlaw01_WordCuts.l0 k true l l (i : Int)) true := by
  intro d
  induction d with
  | zero =>
    intro i hi
    refine ev_succ (ev_now (fun k => ?_))
    simp only [paviorlaw01_WordCuts.l0]
    rw [if_neg (by omega)]
  | succ d ih =>
    intro i hi
    refine ev_succ (Ev.congr (fun k => ?_) (ih (i + 1) (by omega)))
    simp only [paviorlaw01_WordCuts.l0]
    rw [if_pos (by omega), if_pos (by omega), if_pos (by omega), if_neg (by simp), wrap64_of (by omega) (by omega)]
    rfl

theorem WordCuts : paviorlaw01_WordCuts.Pure := by
  intro a b ha hb
  refine Ev.rounds ?_
  unfold paviorlaw01_WordCuts.f
  refine Ev.bind up_ev ?_
  by_cases h : a < 0 ∨ b < a ∨ 1048576 < b
  · refine Ev.bind (cut_no a b h) ?_
    refine ev_succ (ev_now (fun k => ?_))
    by_cases h1 : a < 0
    · rw [if_pos h1]; simp [paviorlaw01_WordCuts.j0]
    rw [if_neg h1]
    by_cases h2 : b < a
    · rw [if_pos h2]; simp [paviorlaw01_WordCuts.j0]
    rw [if_neg h2, show decide (b > 1048576) = true by simp; omega]
    simp [paviorlaw01_WordCuts.j0]
  · obtain ⟨a, rfl⟩ := Int.eq_ofNat_of_zero_le (show 0 ≤ a by omega)
    obtain ⟨b, rfl⟩ := Int.eq_ofNat_of_zero_le (show 0 ≤ b by omega)
    obtain ⟨l, hl, hlen⟩ := isCut_ex b (b - a) a (Nat.le_refl _)
    refine Ev.bind (cut_ok a b (by omega) (by omega) l hl) ?_
    simp only [if_neg (show ¬ (a : Int) < 0 by omega), if_neg (show ¬ (b : Int) < (a : Int) by omega), show decide ((b : Int) > 1048576) = false by simp; omega]
    refine ev_succ ?_
    simp only [paviorlaw01_WordCuts.j0, Bool.false_eq_true, if_false, Option.isNone_none, if_true]
    refine Ev.bind (ref_cut_ok a b (by omega) l hl) ?_
    refine ev_succ ?_
    simp only [paviorlaw01_WordCuts.j1, bne_self_eq_false, Bool.false_eq_true, if_false]
    exact cuts_same l (by omega) l.length 0 (by omega)

end Go.Proofs.YtobbcfpkmmafnaaDoor.Pure
