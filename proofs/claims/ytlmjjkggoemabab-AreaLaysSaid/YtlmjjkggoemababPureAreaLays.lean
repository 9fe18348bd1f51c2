/- Any list with any area laid over, or any pages cut out, or what is amiss, is what the document's reference says page by page: the pure statement of AreaLays (more than 200 areas are let go by the law itself). -/
import Derived.Test.YtlmjjkggoemababAreaMay
import Derived.Test.YtlmjjkggoemababAreaRef
import Derived.Test.YtlmjjkggoemababQx13
namespace Go.Proofs.Ytlmjjkggoemabab.Pure
open Go.RowKit Go.Proofs.Ytlmjjkggoemabab.Q Go.Proofs.YtlmjjkggoemababW.PrintWords Go.Proofs.Ytlmjjkggoemabab.Bits Go.Proofs.Ytlmjjkggoemabab.AreaLib Go.Proofs.Ytlmjjkggoemabab.AreaEv Go.Proofs.Ytlmjjkggoemabab.AreaUp Go.Proofs.Ytlmjjkggoemabab.AreaRef
set_option linter.unusedVariables false
set_option linter.unusedSimpArgs false

theorem lays_loop (l : List S32) (a : S32) (x y : List S32 × Option Int) (ha : spanP a.f0 a.f1) (g h : Int → Option At)
    (hx : Ev (fun k => paviorlaw09_right.f k x.1 x.2 (pgs (fun q => if a.f0 ≤ q ∧ q < a.f1 then some (attr a) else g q))) true) (hy : Ev (fun k => paviorlaw09_right.f k y.1 y.2 (pgs (fun q => if a.f0 ≤ q ∧ q < a.f1 then none else h q))) true) :
    ∀ (d : Nat) (i : Int), a.f0 ≤ i → i + d = a.f1 → Ev (fun k => paviorlaw09_AreaLays.l0 k true x.1 x.2 y.1 y.2 (pgs (fun q => if a.f0 ≤ q ∧ q < i then some (attr a) else g q)) (pgs (fun q => if a.f0 ≤ q ∧ q < i then none else h q)) i a.f0 a.f1 a.f2.f0 a.f2.f1 a.f3) true := by
  intro d
  induction d with
  | zero =>
    intro i h1 h2
    obtain rfl : i = a.f1 := by omega
    refine ev_succ ?_
    simp -implicitDefEqProofs only [paviorlaw09_AreaLays.l0, if_neg (show ¬ a.f1 < a.f1 by omega), if_true]
    refine Ev.bind hx ?_
    simp -implicitDefEqProofs only [if_true]
    refine Ev.bind hy ?_
    exact ev_now (fun _ => rfl)
  | succ d ih =>
    intro i h1 h2
    obtain ⟨s1, s2, s3⟩ := ha
    have h3 := ih (i + 1) (by omega) (by omega)
    have e1 : pgs (fun q => if a.f0 ≤ q ∧ q < i + 1 then some (attr a) else g q) = (pgs (fun q => if a.f0 ≤ q ∧ q < i then some (attr a) else g q)).set i.toNat (encP (some (attr a))) := by
      rw [pgs_set _ i _ (by omega)]
      exact pgs_congr (fun p _ _ => by
        unfold upd
        by_cases c : p = i
        · rw [if_pos c, if_pos (by omega)]
        · rw [if_neg c]
          dsimp only
          by_cases c2 : a.f0 ≤ p ∧ p < i
          · rw [if_pos c2, if_pos (by omega)]
          · rw [if_neg c2, if_neg (by omega)])
    have e2 : pgs (fun q => if a.f0 ≤ q ∧ q < i + 1 then none else h q) = (pgs (fun q => if a.f0 ≤ q ∧ q < i then none else h q)).set i.toNat (encP none) := by
      rw [pgs_set _ i _ (by omega)]
      exact pgs_congr (fun p _ _ => by
        unfold upd
        by_cases c : p = i
        · rw [if_pos c, if_pos (by omega)]
        · rw [if_neg c]
          dsimp only
          by_cases c2 : a.f0 ≤ p ∧ p < i
          · rw [if_pos c2, if_pos (by omega)]
          · rw [if_neg c2, if_neg (by omega)])
    rw [e1, e2] at h3
    refine Ev.step (fun k => ?_) h3
    rw [paviorlaw09_AreaLays.l0, if_pos (by omega), if_pos (by omega), pgs_len, if_pos (by omega), pgs_len, if_pos (by omega), wrap64_of (by omega) (by omega)]
    rfl
theorem lays_bad (l : List S32) (a : S32) (x y : List S32 × Option Int) (hx : x = ([], some 1)) (hy : y = ([], some 1)) : Ev (fun k => paviorlaw09_AreaLays.j0 k l true x.1 x.2 y.1 y.2 true a.f0 a.f1 a.f2.f0 a.f2.f1 a.f3) true := by
  subst hx
  subst hy
  exact ev_succ (ev_now (fun k => by simp [paviorlaw09_AreaLays.j0]))
theorem area_lays (l : List S32) (a : S32) : Ev (fun k => paviorlaw09_AreaLays.f k l a.f0 a.f1 a.f2.f0 a.f2.f1 a.f3) true := by
  unfold paviorlaw09_AreaLays.f
  refine Ev.bind up_ev ?_
  by_cases hl : (l.length : Int) > 200
  · simp only [if_pos hl]
    exact ev_now (fun _ => rfl)
  · simp only [if_neg hl]
    have e1 := lay_ev l a (by omega)
    have e2 := cut_ev l a.f0 a.f1 (by omega)
    refine Ev.bind e1 ?_
    refine Ev.bind e2 ?_
    refine Ev.bind (may_ev l (by omega)) ?_
    by_cases v : valid l
    · simp -implicitDefEqProofs only [decide_eq_true v, if_true, rspan_eq, Option.bind_some]
      by_cases s : spanP a.f0 a.f1
      · simp -implicitDefEqProofs only [decide_eq_true s, Bool.not_true]
        simp only [if_pos (show valid l ∧ spanP a.f0 a.f1 from ⟨v, s⟩)]
        refine ev_succ ?_
        simp -implicitDefEqProofs only [paviorlaw09_AreaLays.j0, Bool.false_eq_true, if_false]
        refine Ev.bind (of_ev l v) ?_
        refine Ev.bind (of_ev l v) ?_
        have h1 := lays_loop l a (fin (layL l a)) (fin (cutL l a.f0 a.f1)) s (at_ l) (at_ l)
          (right_ev _ _ (lay_canon v.1 s) (fun p _ _ => lay_at v.1 s p)) (right_ev _ _ (cut_canon v.1 s) (fun p _ _ => cutl_at v.1 s p)) (a.f1 - a.f0).toNat a.f0 (Int.le_refl _) (by have := s.2.1; omega)
        have q1 : pgs (fun q => if a.f0 ≤ q ∧ q < a.f0 then some (attr a) else at_ l q) = pgs (at_ l) := pgs_congr (fun p _ _ => by rw [if_neg (by omega)])
        have q2 : pgs (fun q => if a.f0 ≤ q ∧ q < a.f0 then none else at_ l q) = pgs (at_ l) := pgs_congr (fun p _ _ => by rw [if_neg (by omega)])
        rw [q1, q2] at h1
        exact h1
      · simp -implicitDefEqProofs only [decide_eq_false s, Bool.not_false]
        exact lays_bad l a _ _ (if_neg (fun h => s h.2)) (if_neg (fun h => s h.2))
    · simp -implicitDefEqProofs only [decide_eq_false v, Bool.false_eq_true, if_false]
      exact lays_bad l a _ _ (if_neg (fun h => v h.1)) (if_neg (fun h => v h.1))

theorem AreaLays : paviorlaw09_AreaLays.Pure := fun l a0 a1 a2 a3 a4 _ _ _ => Ev.rounds (area_lays l ⟨a0, a1, ⟨a2, a3⟩, a4⟩)

end Go.Proofs.Ytlmjjkggoemabab.Pure
