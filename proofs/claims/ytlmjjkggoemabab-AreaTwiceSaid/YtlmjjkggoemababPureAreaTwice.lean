/- What is laid twice is laid once; what is cut twice is cut once; of all pages nothing is left: the pure statement of AreaTwice (more than 200 areas are let go by the law itself). -/
import Derived.Test.YtlmjjkggoemababAreaUp
import Derived.Test.YtlmjjkggoemababQx14
namespace Go.Proofs.Ytlmjjkggoemabab.Pure
open Go.RowKit Go.Proofs.Ytlmjjkggoemabab.Q Go.Proofs.YtlmjjkggoemababW.PrintWords Go.Proofs.Ytlmjjkggoemabab.Bits Go.Proofs.Ytlmjjkggoemabab.AreaLib Go.Proofs.Ytlmjjkggoemabab.AreaEv Go.Proofs.Ytlmjjkggoemabab.AreaUp
set_option linter.unusedVariables false
set_option linter.unusedSimpArgs false

theorem lay_twice {l : List S32} {a : S32} (hl : valid l) (ha : spanP a.f0 a.f1) : layL (layL l a) a = layL l a := by
  have c1 := lay_canon hl.1 ha
  refine canon_uniq (lay_canon c1 ha) c1 (fun p _ _ => ?_)
  rw [lay_at c1 ha, lay_at hl.1 ha]
  by_cases x : a.f0 ≤ p ∧ p < a.f1
  · rw [if_pos x, if_pos x]
  · rw [if_neg x, if_neg x]
theorem cut_twice {l : List S32} {f t : Int} (hl : valid l) (ha : spanP f t) : cutL (cutL l f t) f t = cutL l f t := by
  have c1 := cut_canon hl.1 ha
  refine canon_uniq (cut_canon c1 ha) c1 (fun p _ _ => ?_)
  rw [cutl_at c1 ha, cutl_at hl.1 ha]
  by_cases x : f ≤ p ∧ p < t
  · rw [if_pos x, if_pos x]
  · rw [if_neg x, if_neg x]
theorem cut_all {l : List S32} (hl : canon l) : cutL l 0 4096 = [] := by
  have s : spanP 0 4096 := ⟨by omega, by omega, by omega⟩
  refine canon_uniq (cut_canon hl s) ⟨by show (0 : Int) ≤ 4096; omega, trivial⟩ (fun p h1 h2 => ?_)
  rw [cutl_at hl s, if_pos ⟨h1, h2⟩]
  rfl
/-- the two that are asked of a list that was cut -/
theorem twice_cut {l : List S32} {f t : Int} (hl : valid l) (ha : spanP f t) (h : (cutL l f t).length ≤ 64) :
    Ev (fun k => area_Cut.f k (cutL l f t) f t) (cutL l f t, none) ∧ Ev (fun k => area_Cut.f k (cutL l f t) 0 4096) ([], none) := by
  have c1 := cut_canon hl.1 ha
  have x1 := cut_ev (cutL l f t) f t (by omega)
  have x2 := cut_ev (cutL l f t) 0 4096 (by omega)
  rw [if_pos ⟨⟨c1, h⟩, ha⟩, cut_twice hl ha, fin_ok h] at x1
  rw [if_pos ⟨⟨c1, h⟩, ⟨by omega, by omega, by omega⟩⟩, cut_all c1] at x2
  exact ⟨x1, x2⟩
theorem twice_j0 (l : List S32) (a : S32) (v : List S32 × Option Int) (hv : v = if valid l ∧ spanP a.f0 a.f1 then fin (cutL l a.f0 a.f1) else ([], some 1)) :
    Ev (fun k => paviorlaw09_AreaTwice.j0 k true v.1 v.2 false a.f0 a.f1 a.f2.f0 a.f2.f1 a.f3) true := by
  refine ev_succ ?_
  simp -implicitDefEqProofs only [paviorlaw09_AreaTwice.j0, Bool.false_eq_true, if_false]
  by_cases nv : v.2.isNone = true
  · simp only [if_pos nv]
    obtain ⟨⟨h1, h2⟩, h3, h4⟩ := told hv nv
    obtain ⟨x1, x2⟩ := twice_cut h1 h2 h3
    rw [h4]
    refine Ev.bind x1 ?_
    refine Ev.bind x2 ?_
    simp -implicitDefEqProofs only [Option.isNone_none, if_true]
    refine Ev.bind (same_ev _ (by omega)) ?_
    simp -implicitDefEqProofs only [if_true]
    exact ev_succ (ev_now (fun k => by simp [paviorlaw09_AreaTwice.j1]))
  · simp only [if_neg nv]
    exact ev_now (fun _ => rfl)
theorem area_twice (l : List S32) (a : S32) : Ev (fun k => paviorlaw09_AreaTwice.f k l a.f0 a.f1 a.f2.f0 a.f2.f1 a.f3) true := by
  unfold paviorlaw09_AreaTwice.f
  refine Ev.bind up_ev ?_
  by_cases hl : (l.length : Int) > 200
  · simp only [if_pos hl]
    exact ev_now (fun _ => rfl)
  · simp only [if_neg hl]
    obtain ⟨u, hu⟩ : ∃ u, u = if valid l ∧ spanP a.f0 a.f1 then fin (layL l a) else ([], some 1) := ⟨_, rfl⟩
    obtain ⟨v, hv⟩ : ∃ v, v = if valid l ∧ spanP a.f0 a.f1 then fin (cutL l a.f0 a.f1) else ([], some 1) := ⟨_, rfl⟩
    have e1 := lay_ev l a (by omega)
    have e2 := cut_ev l a.f0 a.f1 (by omega)
    rw [← hu] at e1
    rw [← hv] at e2
    refine Ev.bind e1 ?_
    refine Ev.bind e2 ?_
    by_cases nu : u.2.isNone = true
    · simp only [if_pos nu]
      obtain ⟨⟨h1, h2⟩, h3, h4⟩ := told hu nu
      have c1 := lay_canon h1.1 h2
      have x1 := lay_ev (layL l a) a (by omega)
      rw [if_pos ⟨⟨c1, h3⟩, h2⟩, lay_twice h1 h2, fin_ok h3] at x1
      rw [h4]
      refine Ev.bind x1 ?_
      simp -implicitDefEqProofs only [Option.isNone_none, if_true]
      refine Ev.bind (same_ev _ (by omega)) ?_
      exact twice_j0 l a v hv
    · simp only [if_neg nu]
      by_cases nv : v.2.isNone = true
      · simp only [if_pos nv]
        obtain ⟨⟨h1, h2⟩, h3, h4⟩ := told hv nv
        obtain ⟨x1, x2⟩ := twice_cut h1 h2 h3
        rw [h4]
        refine Ev.bind x1 ?_
        refine Ev.bind x2 ?_
        simp -implicitDefEqProofs only [Option.isNone_none, if_true]
        refine Ev.bind (same_ev _ (by omega)) ?_
        simp -implicitDefEqProofs only [if_true]
        exact ev_succ (ev_now (fun k => by simp [paviorlaw09_AreaTwice.j2]))
      · simp only [if_neg nv]
        exact ev_now (fun _ => rfl)

theorem AreaTwice : paviorlaw09_AreaTwice.Pure := fun l a0 a1 a2 a3 a4 _ _ _ => Ev.rounds (area_twice l ⟨a0, a1, ⟨a2, a3⟩, a4⟩)

end Go.Proofs.Ytlmjjkggoemabab.Pure
