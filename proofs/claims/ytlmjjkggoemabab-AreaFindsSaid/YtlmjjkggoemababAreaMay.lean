/- Layer 9: what the reference's May computes. -/
import Derived.Test.YtlmjjkggoemababAreaUp
import Derived.Test.YtlmjjkggoemababQx9
namespace Go.Proofs.Ytlmjjkggoemabab.AreaUp
open Go.RowKit Go.Proofs.YtlmjjkggoemababW.PrintWords Go.Proofs.YtlmjjkggoemababW.PrintMore Go.Proofs.Ytlmjjkggoemabab.Bits Go.Proofs.Ytlmjjkggoemabab.Q Go.Proofs.Ytlmjjkggoemabab.AreaLib Go.Proofs.Ytlmjjkggoemabab.AreaEv
set_option linter.unusedVariables false
set_option linter.unusedSimpArgs false

/-! ### the reference's May -/
theorem may_step (k : Nat) (l : List S32) (i : Nat) (hi : i < l.length) (hl : l.length ≤ 600) (g : good l i) : paviorref09_May.l0 (k + 1) l (i : Int) = paviorref09_May.j1 k l (i : Int) false := by
  simp only [paviorref09_May.l0]
  rw [if_pos (by omega), if_pos (by omega), rspan_eq, Option.bind_some, if_pos (decide_eq_true g.1)]
  by_cases h2 : 0 < i
  · have e : wrap64 ((i : Int) - 1) = (i : Int) - 1 := wrap64_of (by omega) (by omega)
    rw [if_pos (by omega), e, if_pos (by omega), if_pos (by omega)]
    obtain ⟨g1, g2⟩ := g.2 h2
    rw [if_neg (by omega)]
    by_cases h4 : (rd_T32 l ((i : Int) - 1)).f1 = (rd_T32 l i).f0
    · rw [if_pos h4]
      have h5 : attr (rd_T32 l ((i : Int) - 1)) ≠ attr (rd_T32 l i) := fun h => g2 ⟨h4, h⟩
      generalize rd_T32 l ((i : Int) - 1) = x at h5 ⊢
      generalize rd_T32 l i = y at h5 ⊢
      obtain ⟨x0, x1, ⟨x2, x3⟩, x4⟩ := x
      obtain ⟨y0, y1, ⟨y2, y3⟩, y4⟩ := y
      unfold attr at h5
      cases x2 <;> cases x3 <;> cases x4 <;> cases y2 <;> cases y3 <;> cases y4 <;> first | rfl | exact absurd rfl h5
    · rw [if_neg h4]
  · rw [if_neg (by omega)]
theorem may_bad (l : List S32) (i : Nat) (hi : i < l.length) (hl : l.length ≤ 600) (g : ¬ good l i) : Ev (fun k => paviorref09_May.l0 k l (i : Int)) false := by
  have hj : Ev (fun k => paviorref09_May.j1 k l (i : Int) true) false := ev_succ (ev_now (fun k => by simp only [paviorref09_May.j1]; rw [if_pos trivial]))
  by_cases h1 : spanP (rd_T32 l i).f0 (rd_T32 l i).f1
  · refine via (fun k => ?_) hj
    simp only [paviorref09_May.l0]
    rw [if_pos (by omega), if_pos (by omega), rspan_eq, Option.bind_some, if_pos (decide_eq_true h1)]
    have h2 : 0 < i := Nat.pos_of_ne_zero (fun c => g ⟨h1, fun c' => absurd c' (by omega)⟩)
    have e : wrap64 ((i : Int) - 1) = (i : Int) - 1 := wrap64_of (by omega) (by omega)
    rw [if_pos (by omega), e, if_pos (by omega), if_pos (by omega)]
    by_cases h3 : (rd_T32 l ((i : Int) - 1)).f1 > (rd_T32 l i).f0
    · rw [if_pos h3]
    · rw [if_neg h3]
      have h4 : touch (rd_T32 l ((i : Int) - 1)) (rd_T32 l i) := Classical.byContradiction (fun n => g ⟨h1, fun _ => ⟨by omega, n⟩⟩)
      rw [if_pos h4.1]
      have h5 := h4.2
      generalize rd_T32 l ((i : Int) - 1) = x at h5 ⊢
      generalize rd_T32 l i = y at h5 ⊢
      obtain ⟨x0, x1, ⟨x2, x3⟩, x4⟩ := x
      obtain ⟨y0, y1, ⟨y2, y3⟩, y4⟩ := y
      simp only [attr, Prod.mk.injEq] at h5
      obtain ⟨a, b, c⟩ := h5
      subst a; subst b; subst c
      simp
  · refine ev_succ (ev_now (fun k => ?_))
    simp only [paviorref09_May.l0]
    rw [if_pos (by omega), if_pos (by omega), rspan_eq, Option.bind_some, if_neg (by simpa using h1)]
theorem may_loop (l : List S32) (hl : l.length ≤ 600) : ∀ (d i : Nat), i + d = l.length →
    ((∀ j, i ≤ j → j < l.length → good l j) → Ev (fun k => paviorref09_May.l0 k l (i : Int)) true) ∧
    (¬ (∀ j, i ≤ j → j < l.length → good l j) → Ev (fun k => paviorref09_May.l0 k l (i : Int)) false) := by
  intro d
  induction d with
  | zero =>
    intro i hi
    refine ⟨fun _ => ?_, fun h => absurd (fun j a b => by omega) h⟩
    refine ev_succ (ev_now (fun k => ?_))
    simp only [paviorref09_May.l0]
    rw [if_neg (by omega)]
  | succ d ih =>
    intro i hi
    by_cases g : good l i
    · have h1 : ∀ r : Bool, Ev (fun k => paviorref09_May.l0 k l ((i + 1 : Nat) : Int)) r → Ev (fun k => paviorref09_May.l0 k l (i : Int)) r := by
        intro r hr
        refine via (fun k => may_step k l i (by omega) hl g) ?_
        refine Ev.step (fun k => ?_) hr
        simp only [paviorref09_May.j1]
        rw [if_neg Bool.false_ne_true, wrap64_of (by omega) (by omega)]
        rfl
      obtain ⟨i1, i2⟩ := ih (i + 1) (by omega)
      refine ⟨fun h => h1 _ (i1 (fun j a b => h j (by omega) b)), fun h => h1 _ (i2 (fun h' => h (fun j a b => ?_)))⟩
      by_cases c : j = i
      · subst c; exact g
      · exact h' j (by omega) b
    · exact ⟨fun h => absurd (h i (Nat.le_refl _) (by omega)) g, fun _ => may_bad l i (by omega) hl g⟩
theorem may_ev (l : List S32) (hl : l.length ≤ 600) : Ev (fun k => paviorref09_May.f k l) (decide (valid l)) := by
  unfold paviorref09_May.f
  by_cases c' : l.length ≤ 64
  · simp only [if_neg (show ¬ ((l.length : Int) > 64) by omega)]
    obtain ⟨h1, h2⟩ := may_loop l hl l.length 0 (by omega)
    have e : (∀ j, 0 ≤ j → j < l.length → good l j) ↔ canon l := by
      rw [← good_canon]
      exact ⟨fun h j => h j (Nat.zero_le _), fun h j _ => h j⟩
    by_cases c : canon l
    · rw [decide_eq_true ⟨c, c'⟩]
      exact h1 (e.mpr c)
    · rw [decide_eq_false (fun h => c h.1)]
      exact h2 (fun h => c (e.mp h))
  · simp only [if_pos (show ((l.length : Int) > 64) by omega)]
    rw [decide_eq_false (fun h => c' h.2)]
    exact ev_now (fun _ => rfl)

end Go.Proofs.Ytlmjjkggoemabab.AreaUp
