/- Any list with any rights laid over any pages, and with Huge, or what is amiss, is what the document's reference says page by page: the pure statement of AreaChanges (more than 200 areas are let go by the law itself). -/
import Derived.Test.YtlmjjkggoemababAreaMay
import Derived.Test.YtlmjjkggoemababAreaRef
import Derived.Test.YtlmjjkggoemababAreaEach
import Derived.Test.YtlmjjkggoemababQx25
namespace Go.Proofs.Ytlmjjkggoemabab.Pure
open Go.RowKit Go.Proofs.Ytlmjjkggoemabab.Q Go.Proofs.YtlmjjkggoemababW.PrintWords Go.Proofs.Ytlmjjkggoemabab.Bits Go.Proofs.Ytlmjjkggoemabab.AreaLib Go.Proofs.Ytlmjjkggoemabab.AreaEv Go.Proofs.Ytlmjjkggoemabab.AreaUp Go.Proofs.Ytlmjjkggoemabab.AreaRef Go.Proofs.Ytlmjjkggoemabab.AreaEach
set_option linter.unusedVariables false
set_option linter.unusedSimpArgs false

def withR (w x : Bool) (a : At) : At := (w, x, a.2.2)
def withH (h : Bool) (a : At) : At := (a.1, a.2.1, h)
theorem keepsR (w x : Bool) : keeps (area_Change.of w x) (withR w x) := fun _ => ⟨rfl, rfl, rfl⟩
theorem keepsH (h : Bool) : keeps (area_Advise.of h) (withH h) := fun _ => ⟨rfl, rfl, rfl⟩
def updAll (g : Int → Option At) (ψ : At → At) (f t : Int) : Int → Option At := fun q => if f ≤ q ∧ q < t then (g q).map ψ else g q

/-! ### the reference's Change -/
theorem rc_l1 (t : Int) (ht : t ≤ 4096) (m : Bool) (h a b : Bool) (r : Bool × List S40) (ψ : At → At) (hψ : ψ = if m = true then withR a b else withH h) : ∀ (d : Nat) (i : Int) (g : Int → Option At), 0 ≤ i → i + d = t → (∀ p, i ≤ p → p < t → g p ≠ none) →
    r = (true, pgs (updAll g ψ i t)) → Ev (fun k => paviorref09_Change.l1 k (pgs g) t m h i a b) r := by
  intro d
  induction d with
  | zero =>
    intro i g hi hd hg hr
    subst hr
    refine ev_succ (ev_now (fun k => ?_))
    rw [paviorref09_Change.l1, if_neg (by omega)]
    rw [show pgs (updAll g ψ i t) = pgs g from pgs_congr (fun p _ _ => by unfold updAll; rw [if_neg (by omega)])]
  | succ d ih =>
    intro i g hi hd hg hr
    have hi4 : i < 4096 := by omega
    obtain ⟨v, hv⟩ : ∃ v, g i = some v := by
      cases hx : g i with
      | none => exact absurd hx (hg i (Int.le_refl _) (by omega))
      | some v => exact ⟨v, rfl⟩
    have h1 := ih (i + 1) (upd g i (some (ψ v))) (by omega) (by omega) (fun p p1 p2 => by unfold upd; rw [if_neg (by omega)]; exact hg p (by omega) p2) (by
      rw [hr, show pgs (updAll (upd g i (some (ψ v))) ψ (i + 1) t) = pgs (updAll g ψ i t) from pgs_congr (fun p _ _ => by
        unfold updAll upd
        by_cases c : p = i
        · subst c
          rw [if_neg (by omega), if_pos rfl, if_pos (by omega), hv]
          rfl
        · rw [if_neg c]
          by_cases c2 : i + 1 ≤ p ∧ p < t
          · rw [if_pos c2, if_pos (by omega)]
          · rw [if_neg c2, if_neg (by omega)])])
    rw [← pgs_set g i _ hi] at h1
    have hrd : rd_T40 (pgs g) i = encP (some v) := by rw [pgs_get g i hi hi4, hv]
    refine Ev.step (fun k => ?_) h1
    rw [paviorref09_Change.l1, if_pos (by omega)]
    cases m with
    | true =>
      rw [if_pos rfl, if_pos hi, pgs_len, if_pos (by omega), hrd, Option.bind_some]
      have hs : (pgs g).set i.toNat (⟨(encP (some v)).f0, a, (encP (some v)).f2, (encP (some v)).f3⟩ : S40) = pgs (upd g i (some (a, v.2.1, v.2.2))) := pgs_set g i (some (a, v.2.1, v.2.2)) hi
      rw [hs, pgs_get _ i hi hi4, show upd g i (some (a, v.2.1, v.2.2)) i = some (a, v.2.1, v.2.2) from if_pos rfl, wrap64_of (by omega) (by omega), ← hs, List.set_set, hψ, if_pos rfl]
      rfl
    | false =>
      rw [if_neg Bool.false_ne_true, if_pos hi, pgs_len, if_pos (by omega), hrd, wrap64_of (by omega) (by omega), hψ, if_neg Bool.false_ne_true]
      rfl
theorem rc_l0 (f t : Int) (hf : 0 ≤ f) (ht : t ≤ 4096) (m h a b : Bool) (g : Int → Option At) (r : Bool × List S40)
    (hgo : (∀ p, f ≤ p → p < t → g p ≠ none) → Ev (fun k => paviorref09_Change.l1 k (pgs g) t m h f a b) r) (hno : (∃ p, f ≤ p ∧ p < t ∧ g p = none) → r = (false, pgs g)) : ∀ (d : Nat) (i : Int), f ≤ i → i + d = t → (∀ p, f ≤ p → p < i → g p ≠ none) →
    Ev (fun k => paviorref09_Change.l0 k (pgs g) f t m h i a b) r := by
  intro d
  induction d with
  | zero =>
    intro i hi hd hg
    refine Ev.step (fun k => ?_) (hgo (fun p p1 p2 => hg p p1 (by omega)))
    rw [paviorref09_Change.l0, if_neg (by omega)]
  | succ d ih =>
    intro i hi hd hg
    have hi4 : i < 4096 := by omega
    cases hv : g i with
    | none =>
      rw [hno ⟨i, hi, by omega, hv⟩]
      refine ev_succ (ev_now (fun k => ?_))
      rw [paviorref09_Change.l0, if_pos (by omega), if_pos (by omega), pgs_len, if_pos (by omega), pgs_get g i (by omega) hi4, hv, if_neg (by decide)]
    | some v =>
      refine Ev.step (fun k => ?_) (ih (i + 1) (by omega) (by omega) (fun p p1 p2 => by
        by_cases c : p = i
        · rw [c, hv]; simp
        · exact hg p p1 (by omega)))
      rw [paviorref09_Change.l0, if_pos (by omega), if_pos (by omega), pgs_len, if_pos (by omega), pgs_get g i (by omega) hi4, hv, if_pos (show (encP (some v)).f0 = true from rfl), wrap64_of (by omega) (by omega)]
theorem rc_ev (g : Int → Option At) (f t : Int) (s : spanP f t) (m a b h : Bool) :
    ((∀ p, f ≤ p → p < t → g p ≠ none) → Ev (fun k => paviorref09_Change.f k (pgs g) f t m a b h) (true, pgs (updAll g (if m = true then withR a b else withH h) f t))) ∧
    ((∃ p, f ≤ p ∧ p < t ∧ g p = none) → Ev (fun k => paviorref09_Change.f k (pgs g) f t m a b h) (false, pgs g)) := by
  obtain ⟨s1, s2, s3⟩ := s
  unfold paviorref09_Change.f
  constructor
  · intro hg
    exact rc_l0 f t s1 s3 m h a b g _ (fun _ => rc_l1 t s3 m h a b _ _ rfl (t - f).toNat f g s1 (by omega) hg rfl) (fun ⟨p, p1, p2, p3⟩ => absurd p3 (hg p p1 p2)) (t - f).toNat f (Int.le_refl _) (by omega) (fun p p1 p2 => by omega)
  · rintro ⟨p, p1, p2, p3⟩
    exact rc_l0 f t s1 s3 m h a b g _ (fun hg => absurd p3 (hg p p1 p2)) (fun _ => rfl) (t - f).toNat f (Int.le_refl _) (by omega) (fun p p1 p2 => by omega)

theorem changes_bad (l : List S32) (a : S32) (x y : List S32 × Option Int) (hx : x = ([], some 1)) (hy : y = ([], some 1)) : Ev (fun k => paviorlaw09_AreaChanges.j0 k l true x.1 x.2 y.1 y.2 true a.f0 a.f1 a.f2.f0 a.f2.f1 a.f3) true := by
  subst hx
  subst hy
  exact ev_succ (ev_now (fun k => by simp [paviorlaw09_AreaChanges.j0]))
theorem changes_none (P Q : List S40) : Ev (fun k => paviorlaw09_AreaChanges.j1 k true [] (some 3) [] (some 3) P Q true) true := ev_succ (ev_now (fun k => by simp [paviorlaw09_AreaChanges.j1]))
theorem changes_right (x y : List S32 × Option Int) (P Q : List S40) (hx : Ev (fun k => paviorlaw09_right.f k x.1 x.2 P) true) (hy : Ev (fun k => paviorlaw09_right.f k y.1 y.2 Q) true) : Ev (fun k => paviorlaw09_AreaChanges.j1 k true x.1 x.2 y.1 y.2 P Q false) true := by
  refine ev_succ ?_
  simp -implicitDefEqProofs only [paviorlaw09_AreaChanges.j1, Bool.false_eq_true, if_false, if_true]
  refine Ev.bind hx ?_
  simp -implicitDefEqProofs only [if_true]
  refine Ev.bind hy ?_
  exact ev_now (fun _ => rfl)
theorem area_changes (l : List S32) (a : S32) : Ev (fun k => paviorlaw09_AreaChanges.f k l a.f0 a.f1 a.f2.f0 a.f2.f1 a.f3) true := by
  unfold paviorlaw09_AreaChanges.f
  refine Ev.bind up_ev ?_
  by_cases hl : (l.length : Int) > 200
  · simp only [if_pos hl]
    exact ev_now (fun _ => rfl)
  · simp only [if_neg hl]
    have e1 := each_ev (keepsR a.f2.f0 a.f2.f1) l a.f0 a.f1 (by omega)
    have e2 := each_ev (keepsH a.f3) l a.f0 a.f1 (by omega)
    refine Ev.bind (show Ev (fun k => area_Change.f k l a.f0 a.f1 a.f2.f0 a.f2.f1) _ from e1) ?_
    refine Ev.bind (show Ev (fun k => area_Advise.f k l a.f0 a.f1 a.f3) _ from e2) ?_
    refine Ev.bind (may_ev l (by omega)) ?_
    by_cases v : valid l
    · simp -implicitDefEqProofs only [decide_eq_true v, if_true, rspan_eq, Option.bind_some]
      by_cases s : spanP a.f0 a.f1
      · simp -implicitDefEqProofs only [decide_eq_true s, Bool.not_true]
        simp only [if_pos (show valid l ∧ spanP a.f0 a.f1 from ⟨v, s⟩)]
        refine ev_succ ?_
        simp -implicitDefEqProofs only [paviorlaw09_AreaChanges.j0, Bool.false_eq_true, if_false]
        refine Ev.bind (of_ev l v) ?_
        refine Ev.bind (of_ev l v) ?_
        obtain ⟨r1, r2⟩ := rc_ev (at_ l) a.f0 a.f1 s true a.f2.f0 a.f2.f1 false
        obtain ⟨r3, r4⟩ := rc_ev (at_ l) a.f0 a.f1 s false a.f2.f0 a.f2.f1 a.f3
        by_cases c : sumL (cut a.f0 a.f1 l) < a.f1 - a.f0
        · have hn := (sum_none v.1 s).mp c
          simp only [if_pos c]
          refine Ev.bind (r2 hn) ?_
          refine Ev.bind (r4 hn) ?_
          simp -implicitDefEqProofs only [Bool.false_eq_true, if_false]
          exact changes_none _ _
        · have hg : ∀ p, a.f0 ≤ p → p < a.f1 → at_ l p ≠ none := fun p p1 p2 p3 => c ((sum_none v.1 s).mpr ⟨p, p1, p2, p3⟩)
          simp only [if_neg c]
          refine Ev.bind (r1 hg) ?_
          refine Ev.bind (r3 hg) ?_
          simp -implicitDefEqProofs only [if_true, Bool.not_true, Bool.false_eq_true, if_false]
          exact changes_right _ _ _ _ (right_ev _ _ (each_canon (keepsR a.f2.f0 a.f2.f1) v.1 s) (fun p _ _ => each_at (keepsR a.f2.f0 a.f2.f1) v.1 s p)) (right_ev _ _ (each_canon (keepsH a.f3) v.1 s) (fun p _ _ => each_at (keepsH a.f3) v.1 s p))
      · simp -implicitDefEqProofs only [decide_eq_false s, Bool.not_false]
        exact changes_bad l a _ _ (if_neg (fun h => s h.2)) (if_neg (fun h => s h.2))
    · simp -implicitDefEqProofs only [decide_eq_false v, Bool.false_eq_true, if_false]
      exact changes_bad l a _ _ (if_neg (fun h => v h.1)) (if_neg (fun h => v h.1))

theorem AreaChanges : paviorlaw09_AreaChanges.Pure := fun l a0 a1 a2 a3 a4 _ _ _ => Ev.rounds (area_changes l ⟨a0, a1, ⟨a2, a3⟩, a4⟩)

end Go.Proofs.Ytlmjjkggoemabab.Pure
