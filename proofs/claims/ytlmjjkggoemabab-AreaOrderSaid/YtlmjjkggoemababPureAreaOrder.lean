/- The order in which unlike pages are laid doesn't matter: the pure statement of AreaOrder (more than 200 areas are let go by the law itself). -/
import Derived.Test.YtlmjjkggoemababAreaCode
import Derived.Test.YtlmjjkggoemababAreaSame
import Derived.Test.YtlmjjkggoemababQx15
namespace Go.Proofs.Ytlmjjkggoemabab.Pure
open Go.RowKit Go.Proofs.Ytlmjjkggoemabab.Q Go.Proofs.YtlmjjkggoemababW.PrintWords Go.Proofs.Ytlmjjkggoemabab.Bits Go.Proofs.Ytlmjjkggoemabab.AreaLib Go.Proofs.Ytlmjjkggoemabab.AreaEv Go.Proofs.Ytlmjjkggoemabab.AreaUp
set_option linter.unusedVariables false
set_option linter.unusedSimpArgs false

theorem order_same {l : List S32} {a b : S32} (hl : valid l) (ha : spanP a.f0 a.f1) (hb : spanP b.f0 b.f1) (h : b.f1 ≤ a.f0 ∨ a.f1 ≤ b.f0) : layL (layL l a) b = layL (layL l b) a := by
  have c1 := lay_canon hl.1 ha
  have c2 := lay_canon hl.1 hb
  refine canon_uniq (lay_canon c1 hb) (lay_canon c2 ha) (fun p _ _ => ?_)
  rw [lay_at c1 hb, lay_at c2 ha, lay_at hl.1 ha, lay_at hl.1 hb]
  by_cases x : b.f0 ≤ p ∧ p < b.f1
  · rw [if_pos x, if_neg (by omega), if_pos x]
  · rw [if_neg x, if_neg x]

theorem order_end (z : List S32) (a b : S32) (X Y : List S32) (hx : Ev (fun k => area_Lay.f k X b.f0 b.f1 b.f2.f0 b.f2.f1 b.f3) (fin z)) (hy : Ev (fun k => area_Lay.f k Y a.f0 a.f1 a.f2.f0 a.f2.f1 a.f3) (fin z)) :
    Ev (fun k => paviorlaw09_AreaOrder.j1 k true X Y false a.f0 a.f1 a.f2.f0 a.f2.f1 a.f3 b.f0 b.f1 b.f2.f0 b.f2.f1 b.f3) true := by
  refine ev_succ ?_
  simp -implicitDefEqProofs only [paviorlaw09_AreaOrder.j1, Bool.false_eq_true, if_false, if_true]
  refine Ev.bind hx ?_
  refine Ev.bind hy ?_
  have hc := code_ev (fin z).2
  have hl := fin_len z
  refine Ev.bind hc ?_
  refine Ev.bind hc ?_
  simp -implicitDefEqProofs only [if_true]
  refine Ev.bind (same_ev _ (by omega)) ?_
  exact ev_now (fun _ => rfl)
theorem order_off (l : List S32) (a b : S32) : Ev (fun k => paviorlaw09_AreaOrder.j0 k l true true a.f0 a.f1 a.f2.f0 a.f2.f1 a.f3 b.f0 b.f1 b.f2.f0 b.f2.f1 b.f3) true :=
  ev_succ (ev_now (fun k => by simp only [paviorlaw09_AreaOrder.j0]; rw [if_pos trivial]))
theorem order_on (l : List S32) (a b : S32) (hl : l.length ≤ 600) (h : spanP a.f0 a.f1 → spanP b.f0 b.f1 → b.f1 ≤ a.f0 ∨ a.f1 ≤ b.f0) : Ev (fun k => paviorlaw09_AreaOrder.j0 k l true false a.f0 a.f1 a.f2.f0 a.f2.f1 a.f3 b.f0 b.f1 b.f2.f0 b.f2.f1 b.f3) true := by
  have off : ∀ X Y : List S32, Ev (fun k => paviorlaw09_AreaOrder.j1 k true X Y true a.f0 a.f1 a.f2.f0 a.f2.f1 a.f3 b.f0 b.f1 b.f2.f0 b.f2.f1 b.f3) true := fun X Y =>
    ev_succ (ev_now (fun k => by simp only [paviorlaw09_AreaOrder.j1]; rw [if_pos trivial]))
  refine ev_succ ?_
  simp -implicitDefEqProofs only [paviorlaw09_AreaOrder.j0, Bool.false_eq_true, if_false]
  obtain ⟨u, hu⟩ : ∃ u, u = if valid l ∧ spanP a.f0 a.f1 then fin (layL l a) else ([], some 1) := ⟨_, rfl⟩
  obtain ⟨v, hv⟩ : ∃ v, v = if valid l ∧ spanP b.f0 b.f1 then fin (layL l b) else ([], some 1) := ⟨_, rfl⟩
  have e1 := lay_ev l a hl
  have e2 := lay_ev l b hl
  rw [← hu] at e1
  rw [← hv] at e2
  refine Ev.bind e1 ?_
  refine Ev.bind e2 ?_
  by_cases nu : u.2.isNone = true
  · simp only [if_pos nu]
    by_cases nv : v.2.isNone = true
    · simp only [if_pos nv]
      obtain ⟨⟨h1, h2⟩, h3, h4⟩ := told hu nu
      obtain ⟨⟨h5, h6⟩, h7, h8⟩ := told hv nv
      rw [h4, h8]
      have c1 := lay_canon h1.1 h2
      have c2 := lay_canon h1.1 h6
      have x1 := lay_ev (layL l a) b (by omega)
      have x2 := lay_ev (layL l b) a (by omega)
      rw [if_pos ⟨⟨c1, h3⟩, h6⟩] at x1
      rw [if_pos ⟨⟨c2, h7⟩, h2⟩, ← order_same h1 h2 h6 (h h2 h6)] at x2
      exact order_end _ a b _ _ x1 x2
    · simp only [if_neg nv]
      exact off _ _
  · simp only [if_neg nu]
    exact off _ _
theorem area_order (l : List S32) (a b : S32) : Ev (fun k => paviorlaw09_AreaOrder.f k l a.f0 a.f1 a.f2.f0 a.f2.f1 a.f3 b.f0 b.f1 b.f2.f0 b.f2.f1 b.f3) true := by
  unfold paviorlaw09_AreaOrder.f
  refine Ev.bind up_ev ?_
  by_cases hl : (l.length : Int) > 200
  · simp only [if_pos hl]
    exact order_off l a b
  · simp only [if_neg hl]
    by_cases c1 : a.f0 < b.f1
    · simp only [if_pos c1]
      by_cases c2 : b.f0 < a.f1
      · simp only [decide_eq_true c2]
        exact order_off l a b
      · simp only [decide_eq_false c2]
        exact order_on l a b (by omega) (fun _ _ => .inr (by omega))
    · simp only [if_neg c1]
      exact order_on l a b (by omega) (fun _ _ => .inl (by omega))

theorem AreaOrder : paviorlaw09_AreaOrder.Pure := fun l a0 a1 a2 a3 a4 b0 b1 b2 b3 b4 _ _ _ _ => Ev.rounds (area_order l ⟨a0, a1, ⟨a2, a3⟩, a4⟩ ⟨b0, b1, ⟨b2, b3⟩, b4⟩)

end Go.Proofs.Ytlmjjkggoemabab.Pure
