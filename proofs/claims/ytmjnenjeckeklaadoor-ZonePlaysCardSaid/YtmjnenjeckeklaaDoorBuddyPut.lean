import Derived.Test.YtmjnenjeckeklaaDoorBuddyFind
namespace Go.Proofs.YtmjnenjeckeklaaDoor.V
open Go Go.RowKit Go.Proofs
set_option linter.unusedVariables false
set_option linter.unusedSimpArgs false
theorem putb_all {n : Int} {s : Sto} {x : Blk} {k : Nat} (h : Inv n s.l) (hn : n ≤ 512) (ok : Ok n x) (dis : ∀ t, In t x → ¬ Cov s.l t) (nbx : ∀ y ∈ s.l, ¬ Bud x y ∧ ¬ Bud y x) (hk : 1000 ≤ k) :
    ∃ l, putb.f k s x = some ⟨s.n, l⟩ ∧ Inv n l ∧ (∀ t, Cov l t ↔ Cov s.l t ∨ In t x) ∧ (∀ y, y ∈ l ↔ y = x ∨ y ∈ s.l) ∧ tot l = tot s.l + pw x.o := by
  obtain ⟨A, B, e, hA, hB⟩ := split_at x.f h.lt
  have hlen := h.len hn
  refine ⟨A ++ x :: B, putb_eq e hA hB (by omega) hk, ?_, ?_, ?_, ?_⟩
  · rw [e] at h dis nbx
    exact h.put ok dis nbx hA hB
  · intro t; rw [e]; exact cov_mid
  · intro y; rw [e]; exact mem_mid
  · rw [e]; exact tot_mid
theorem pw_step {o j p f : Int} (o0 : 0 ≤ o) (hoj : o ≤ j) (hjp : j < p) (p5 : p ≤ 5) (ha : f % pw p = 0) : pw (j + 1) = 2 * pw j ∧ pw (j + 1) ≤ pw p ∧ f % (2 * pw j) = 0 ∧ (f + pw j) % pw j = 0 ∧ ¬ (f + pw j) % (2 * pw j) = 0 ∧ pw o ≤ pw j := by
  have hj : (j = 0 ∧ pw j = 1 ∧ pw (j + 1) = 2) ∨ (j = 1 ∧ pw j = 2 ∧ pw (j + 1) = 4) ∨ (j = 2 ∧ pw j = 4 ∧ pw (j + 1) = 8) ∨ (j = 3 ∧ pw j = 8 ∧ pw (j + 1) = 16) ∨ (j = 4 ∧ pw j = 16 ∧ pw (j + 1) = 32) := by
    rcases (by omega : j = 0 ∨ j = 1 ∨ j = 2 ∨ j = 3 ∨ j = 4) with rfl | rfl | rfl | rfl | rfl <;> decide
  have hp := pw_cases (show 0 ≤ p by omega) p5
  have ho := pw_cases o0 (show o ≤ 5 by omega)
  rcases hj with ⟨e1, p1, p2⟩ | ⟨e1, p1, p2⟩ | ⟨e1, p1, p2⟩ | ⟨e1, p1, p2⟩ | ⟨e1, p1, p2⟩ <;> rw [p1, p2] <;>
  rcases hp with ⟨e3, p3⟩ | ⟨e3, p3⟩ | ⟨e3, p3⟩ | ⟨e3, p3⟩ | ⟨e3, p3⟩ | ⟨e3, p3⟩ <;> rw [p3] at ha ⊢ <;> omega
theorem pw_mono {o p f : Int} (o0 : 0 ≤ o) (hop : o ≤ p) (p5 : p ≤ 5) (ha : f % pw p = 0) : pw o ≤ pw p ∧ f % pw o = 0 := by
  have hp := pw_cases (show 0 ≤ p by omega) p5
  have ho := pw_cases o0 (show o ≤ 5 by omega)
  rcases ho with ⟨e1, p1⟩ | ⟨e1, p1⟩ | ⟨e1, p1⟩ | ⟨e1, p1⟩ | ⟨e1, p1⟩ | ⟨e1, p1⟩ <;> rw [p1] <;>
  rcases hp with ⟨e3, p3⟩ | ⟨e3, p3⟩ | ⟨e3, p3⟩ | ⟨e3, p3⟩ | ⟨e3, p3⟩ | ⟨e3, p3⟩ <;> rw [p3] at ha ⊢ <;> omega
end Go.Proofs.YtmjnenjeckeklaaDoor.V
