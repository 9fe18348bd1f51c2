-- Written by this session's program wip/tools/xprint.py (the kit's printer, turned by it); not the kit's own print.
import Derived.Test.YtlmjjkggoemabaaQx0
import Derived.Test.YtlmjjkggoemabaaQx3
import Derived.Test.YtlmjjkggoemabaaHChunk
import Derived.Test.YtlmjjkggoemabaaHBroken
namespace Go.Proofs.Ytlmjjkggoemabaa.Q
open Go.RowKit Go.Proofs.YtlmjjkggoemabaaW.PrintWords Go.Proofs.YtlmjjkggoemabaaW.PrintLast Go.Proofs.YtlmjjkggoemabaaW.PrintMore
attribute [local go_sem] max2_int min2_int max_two min_two max_three min_three max_four min_four   -- for this text's walks alone
set_option linter.unusedVariables false
set_option linter.unusedSimpArgs false

attribute [local go_sem high] eqErr_some neErr_some eqErr_left neErr_left
--ALONE HChunk HBroken
/-! ### scan_Broken: function 17 -/
def scan_Broken.f (k : Nat) (a0 : Int) (l1 : List (S41)) (a2 : Int) : Option (Int × Option Int) := (scan_marked.f k a0 l1 []).bind fun bt => (if bt.2.2 = true then (if a2 < 0 then (some (0, some 1)) else (if 9 < a2 then (some (0, some 1)) else (if 0 < bt.1.length then (if bt.1.length ≤ 1048576 then (some (((HBroken.tot bt.1 (2 ^ a2.toNat) (List.range (HBroken.rounds bt.1.length (2 ^ a2.toNat))) : Nat) : Int), none)) else (none)) else (none)))) else (some (0, some 1)))
theorem scan_Broken.mono : ∀ a0 a1 a2 k, LeO (scan_Broken.f k a0 a1 a2) (scan_Broken.f (k + 1) a0 a1 a2) := by
  intro a0 a1 a2 k
  unfold scan_Broken.f
  exact LeO.bind (scan_marked.mono _ _ _ _) (fun _ => LeO.refl _)
theorem scan_Broken.calls (k : Nat) (a0 : Int) (A1 : Option Addr) (c1 : Nat) (l1 : List (S41)) (a2 : Int) (r1 : Int) (r2 : Option Int) (w : World) (hr1 : Kd.C k41 w A1 l1.length l1) (hc1 : l1.length ≤ c1) (h : scan_Broken.f k a0 l1 a2 = some (r1, r2)) :
    Calls Try.prog 17 #[.int .i64 a0, .slice A1 l1.length c1, .int .i64 a2] w fun e w' => e = .returned (.tuple #[.int .i64 r1, errW r2]) ∧ Below w.heap.size w w' := by
  unfold scan_Broken.f at h
  obtain ⟨⟨f, m, ok⟩, hm, h⟩ := Option.bind_eq_some_iff.mp h
  dsimp only at h
  by_cases c1_ : ok = true
  · subst c1_
    rw [if_pos rfl] at h
    by_cases c2 : a2 < 0
    · rw [if_pos c2] at h
      obtain ⟨rfl, rfl⟩ := Prod.mk.inj (Option.some.inj h)
      exact HBroken.broken_no k a0 A1 c1 l1 a2 f m true w hr1 hc1 hm (.inr (.inl c2))
    · rw [if_neg c2] at h
      by_cases c3 : 9 < a2
      · rw [if_pos c3] at h
        obtain ⟨rfl, rfl⟩ := Prod.mk.inj (Option.some.inj h)
        exact HBroken.broken_no k a0 A1 c1 l1 a2 f m true w hr1 hc1 hm (.inr (.inr c3))
      · rw [if_neg c3] at h
        by_cases c4 : 0 < f.length
        · rw [if_pos c4] at h
          by_cases c5 : f.length ≤ 1048576
          · rw [if_pos c5] at h
            obtain ⟨rfl, rfl⟩ := Prod.mk.inj (Option.some.inj h)
            exact HBroken.broken_yes k a0 A1 c1 l1 a2 f m w hr1 hc1 hm (by omega) (by omega) c4 c5
          · rw [if_neg c5] at h; cases h
        · rw [if_neg c4] at h; cases h
  · rw [if_neg c1_] at h
    obtain ⟨rfl, rfl⟩ := Prod.mk.inj (Option.some.inj h)
    exact HBroken.broken_no k a0 A1 c1 l1 a2 f m ok w hr1 hc1 hm (.inl (Bool.eq_false_iff.mpr c1_))


end Go.Proofs.Ytlmjjkggoemabaa.Q
