/- BuddyNew, as a plain law: a store of any frames is what the document says; of too many or none there is none. -/
import Derived.Test.YtehbhpkmlmeblaaDoorB3
import Derived.Test.YtehbhpkmlmeblaaDoorBuddyRef
namespace Go.Proofs.YtehbhpkmlmeblaaDoor.V
open Go Go.RowKit Go.Proofs Go.Proofs.YtehbhpkmlmeblaaDoor.Q Go.Proofs.YtehbhpkmlmeblaaDoorW.PrintWords
set_option linter.unusedVariables false
set_option linter.unusedSimpArgs false
set_option maxRecDepth 100000
theorem BuddyNew.plain (a0 : Int) (h1 : 1 ≤ a0) (h2 : a0 ≤ 512) : BuddyNew.f 1000 a0 = some true := by
  have hup : up.f 1000 = some true := by kernel_rfl
  obtain ⟨l, hn, hi, hc, _⟩ := new_eq (n := a0) (k := 1000) h1 h2 (by omega)
  have hlen : ((List.replicate a0.toNat true).length : Int) = a0 := by rw [List.length_replicate]; omega
  unfold BuddyNew.f
  have e1 : ((none : Option Int) == none) = true := rfl
  rw [hup, Option.bind_some, hn, Option.bind_some, decide_eq_false (show ¬ a0 < 1 by omega), decide_eq_false (show ¬ a0 > 512 by omega)]
  simp only [cond_true, cond_false, e1]
  rw [rnew_eq (by omega) h2 (by omega), Option.bind_some, same_eq (by rw [List.length_replicate]; omega) (by rw [hlen]; exact hi) (fun t => by rw [hc t]; exact (fr_new (by omega)).symm)]
  rfl
theorem BuddyNewNo.plain (a0 : Int) (h : a0 < 1 ∨ a0 > 512) : BuddyNewNo.f 1000 a0 = some true := by
  have hup : up.f 1000 = some true := by kernel_rfl
  have hn : NewNo.f 1000 a0 = some ((), some 1) := by
    unfold NewNo.f
    by_cases h1 : a0 < 1
    · rw [decide_eq_true h1]; rfl
    · rw [decide_eq_false h1, decide_eq_true (show a0 > 512 by omega)]; rfl
  unfold BuddyNewNo.f
  rw [hup, Option.bind_some, hn, Option.bind_some]
  by_cases h1 : a0 < 1
  · rw [decide_eq_true h1]; rfl
  · rw [decide_eq_false h1, decide_eq_true (show a0 > 512 by omega)]; rfl
theorem BuddyNewC.ac (k : Nat) (a0 : Int) (r : Bool) (h : r = true) : ACD Tryd.prog 38 4 [.c (.v (.int .i64 a0))] [none] [.c (.v (.bool r))] := by
  subst h
  by_cases h1 : 1 ≤ a0 ∧ a0 ≤ 512
  · exact BuddyNew.ac 1000 a0 true (BuddyNew.plain a0 h1.1 h1.2)
  · exact BuddyNewNo.ac 1000 a0 true (BuddyNewNo.plain a0 (by omega))
end Go.Proofs.YtehbhpkmlmeblaaDoor.V
