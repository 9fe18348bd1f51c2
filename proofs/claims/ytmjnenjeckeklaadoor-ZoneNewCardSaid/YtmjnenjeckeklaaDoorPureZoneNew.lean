/- ZoneNew, as a plain law: a zone of any frames is what the document says; of too many or none there is none. -/
import Derived.Test.YtmjnenjeckeklaaDoorB5
import Derived.Test.YtmjnenjeckeklaaDoorZoneSame
namespace Go.Proofs.YtmjnenjeckeklaaDoor.V
open Go Go.RowKit Go.Proofs Go.Proofs.YtmjnenjeckeklaaDoor.Q Go.Proofs.YtmjnenjeckeklaaDoorW.PrintWords
set_option linter.unusedVariables false
set_option linter.unusedSimpArgs false
set_option maxRecDepth 100000
theorem ZoneNew.plain (a0 : Int) (h1 : 1 ≤ a0) (h2 : a0 ≤ 512) : ZoneNew.f 1000 a0 = some true := by
  have hup : up.f 1000 = some true := by kernel_rfl
  obtain ⟨z, m, hz, hm, g⟩ := new_same h1 h2
  have e1 : ((none : Option Int) == none) = true := rfl
  unfold ZoneNew.f
  rw [hup, Option.bind_some, hz, Option.bind_some, decide_eq_false (show ¬ a0 < 1 by omega), decide_eq_false (show ¬ a0 > 512 by omega)]
  simp only [cond_true, cond_false, e1]
  rw [hm, Option.bind_some, same_eq g h2]
  rfl
theorem ZoneNewNo.plain (a0 : Int) (h : a0 < 1 ∨ a0 > 512) : ZoneNewNo.f 1000 a0 = some true := by
  have hup : up.f 1000 = some true := by kernel_rfl
  have hn : NewNo.f 1000 a0 = some ((), some 1) := by
    unfold NewNo.f
    by_cases h1 : a0 < 1
    · rw [decide_eq_true h1]; rfl
    · rw [decide_eq_false h1, decide_eq_true (show a0 > 512 by omega)]; rfl
  have hz : ZNewNo.f 1000 a0 = some ((), some 1) := by
    unfold ZNewNo.f
    rw [hn]
    rfl
  unfold ZoneNewNo.f
  rw [hup, Option.bind_some, hz, Option.bind_some]
  by_cases h1 : a0 < 1
  · rw [decide_eq_true h1]; rfl
  · rw [decide_eq_false h1, decide_eq_true (show a0 > 512 by omega)]; rfl
theorem ZoneNewC.ac (k : Nat) (a0 : Int) (r : Bool) (h : r = true) : ACD Tryd.prog 28 3 [.c (.v (.int .i64 a0))] [none] [.c (.v (.bool r))] := by
  subst h
  by_cases h1 : 1 ≤ a0 ∧ a0 ≤ 512
  · exact ZoneNew.ac 1000 a0 true (ZoneNew.plain a0 h1.1 h1.2)
  · exact ZoneNewNo.ac 1000 a0 true (ZoneNewNo.plain a0 (by omega))
end Go.Proofs.YtmjnenjeckeklaaDoor.V
