/- What was laid is found, and other pages keep theirs; what was cut isn't found: the pure statement of AreaKeeps (more than 200 areas are let go by the law itself). -/
import Derived.Test.YtlmjjkggoemababAreaFind
import Derived.Test.YtlmjjkggoemababQx19
namespace Go.Proofs.Ytlmjjkggoemabab.Pure
open Go.RowKit Go.Proofs.Ytlmjjkggoemabab.Q Go.Proofs.YtlmjjkggoemababW.PrintWords Go.Proofs.Ytlmjjkggoemabab.Bits Go.Proofs.Ytlmjjkggoemabab.AreaLib Go.Proofs.Ytlmjjkggoemabab.AreaEv Go.Proofs.Ytlmjjkggoemabab.AreaUp Go.Proofs.Ytlmjjkggoemabab.AreaFind
set_option linter.unusedVariables false
set_option linter.unusedSimpArgs false

def av : Option At → At
  | some v => v
  | none => (false, false, false)
def herr : Option At → Option Int
  | some _ => none
  | none => some 3
theorem find_parts (m : List S32) (p : Int) : ∃ x0 x1, findR (AreaFind.look m p) = (x0, x1, (av (at_ m p)).1, (av (at_ m p)).2.1, (av (at_ m p)).2.2, herr (at_ m p)) := by
  rw [look_at]
  cases AreaFind.look m p with
  | none => exact ⟨0, 0, rfl⟩
  | some x => exact ⟨x.f0, x.f1, rfl⟩
theorem find_valid {m : List S32} (v : valid m) (p : Int) : ∃ x0 x1, Ev (fun k => area_Find.f k m p) (x0, x1, (av (at_ m p)).1, (av (at_ m p)).2.1, (av (at_ m p)).2.2, herr (at_ m p)) := by
  obtain ⟨x0, x1, h⟩ := find_parts m p
  have hf := find_ev m p (by have := v.2; omega)
  rw [if_pos v, h] at hf
  exact ⟨x0, x1, hf⟩

theorem k1_same (k : Nat) (p : Int) (Y1 : List S32) (Y2 g : Option Int) (b0 b1 c0 c1 : Int) (r0 r1 r2 : Bool) : paviorlaw09_AreaKeeps.j1 (k + 1) p true Y1 Y2 g false g false b0 b1 r0 r1 r2 c0 c1 r0 r1 r2 = paviorlaw09_AreaKeeps.j2 k p true Y1 Y2 g false false b0 b1 r0 r1 r2 := by
  simp [paviorlaw09_AreaKeeps.j1, paviorlaw00_Code.f]
theorem k1_in (k : Nat) (p : Int) (Y1 : List S32) (Y2 g h : Option Int) (b0 b1 c0 c1 : Int) (r0 r1 r2 s0 s1 s2 : Bool) : paviorlaw09_AreaKeeps.j1 (k + 1) p true Y1 Y2 g true h false b0 b1 r0 r1 r2 c0 c1 s0 s1 s2 = paviorlaw09_AreaKeeps.j2 k p true Y1 Y2 g true false b0 b1 r0 r1 r2 := by
  simp [paviorlaw09_AreaKeeps.j1]
theorem k4 : Ev (fun k => paviorlaw09_AreaKeeps.j4 k true false) true := ev_succ (ev_now (fun k => by simp [paviorlaw09_AreaKeeps.j4]))
theorem k6 : Ev (fun k => paviorlaw09_AreaKeeps.j6 k true false) true := ev_succ (ev_now (fun k => by simp [paviorlaw09_AreaKeeps.j6]))
theorem k3_same (g : Option Int) (b0 b1 c0 c1 : Int) (r0 r1 r2 : Bool) : Ev (fun k => paviorlaw09_AreaKeeps.j3 k true g false g false b0 b1 r0 r1 r2 c0 c1 r0 r1 r2) true :=
  Ev.step (fun k => by simp [paviorlaw09_AreaKeeps.j3, paviorlaw00_Code.f]) k4
theorem k3_in (g h : Option Int) (b0 b1 c0 c1 : Int) (r0 r1 r2 s0 s1 s2 : Bool) : Ev (fun k => paviorlaw09_AreaKeeps.j3 k true g true h false b0 b1 r0 r1 r2 c0 c1 s0 s1 s2) true :=
  Ev.step (fun k => by simp [paviorlaw09_AreaKeeps.j3]) k4
theorem k5_same (g : Option Int) (b0 b1 c0 c1 : Int) (r0 r1 r2 : Bool) : Ev (fun k => paviorlaw09_AreaKeeps.j5 k true g false g false b0 b1 r0 r1 r2 c0 c1 r0 r1 r2) true :=
  Ev.step (fun k => by simp [paviorlaw09_AreaKeeps.j5, paviorlaw00_Code.f]) k6
theorem k5_in (g h : Option Int) (b0 b1 c0 c1 : Int) (r0 r1 r2 s0 s1 s2 : Bool) : Ev (fun k => paviorlaw09_AreaKeeps.j5 k true g true h false b0 b1 r0 r1 r2 c0 c1 s0 s1 s2) true :=
  Ev.step (fun k => by simp [paviorlaw09_AreaKeeps.j5]) k6

/-- the second half: what was cut -/
theorem keeps_cut (l : List S32) (f t p : Int) (y : List S32 × Option Int) (hy : y = if valid l ∧ spanP f t then fin (cutL l f t) else ([], some 1)) (b0 b1 : Int) (b : At) (g : Option Int) (hb : valid l → b = av (at_ l p) ∧ g = herr (at_ l p)) (inn : Bool) (hi : inn = decide (f ≤ p ∧ p < t)) :
    Ev (fun k => paviorlaw09_AreaKeeps.j2 k p true y.1 y.2 g inn false b0 b1 b.1 b.2.1 b.2.2) true := by
  refine ev_succ ?_
  simp -implicitDefEqProofs only [paviorlaw09_AreaKeeps.j2, Bool.false_eq_true, if_false]
  by_cases ny : y.2.isNone = true
  · simp only [if_pos ny]
    obtain ⟨⟨v, s⟩, h3, h4⟩ := told hy ny
    rw [h4]
    have c1 := cut_canon v.1 s
    obtain ⟨x0, x1, hf⟩ := find_valid (m := cutL l f t) ⟨c1, h3⟩ p
    refine Ev.bind hf ?_
    have hat := cutl_at v.1 s p
    obtain ⟨hb1, hb2⟩ := hb v
    by_cases c : f ≤ p ∧ p < t
    · rw [if_pos c] at hat
      rw [hat, hi, decide_eq_true c]
      exact Ev.congr (fun k => by simp [herr, av]) (k3_in g (some 3) b0 b1 x0 x1 b.1 b.2.1 b.2.2 false false false)
    · rw [if_neg c] at hat
      rw [hat, hi, decide_eq_false c, ← hb1, ← hb2]
      exact Ev.congr (fun k => by simp) (k3_same g b0 b1 x0 x1 b.1 b.2.1 b.2.2)
  · simp only [if_neg ny]
    exact ev_now (fun _ => rfl)
/-- the same where nothing was laid -/
theorem keeps_cut5 (l : List S32) (a : S32) (p : Int) (x y : List S32 × Option Int) (nx : ¬ x.2.isNone = true) (hy : y = if valid l ∧ spanP a.f0 a.f1 then fin (cutL l a.f0 a.f1) else ([], some 1)) (b0 b1 : Int) (b : At) (g : Option Int) (hb : valid l → b = av (at_ l p) ∧ g = herr (at_ l p)) (inn : Bool) (hi : inn = decide (a.f0 ≤ p ∧ p < a.f1)) :
    Ev (fun k => paviorlaw09_AreaKeeps.j0 k p true x.1 x.2 y.1 y.2 g inn a.f0 a.f1 a.f2.f0 a.f2.f1 a.f3 b0 b1 b.1 b.2.1 b.2.2) true := by
  refine ev_succ ?_
  simp only [paviorlaw09_AreaKeeps.j0, if_neg nx]
  by_cases ny : y.2.isNone = true
  · simp only [if_pos ny]
    obtain ⟨⟨v, s⟩, h3, h4⟩ := told hy ny
    rw [h4]
    have c1 := cut_canon v.1 s
    obtain ⟨x0, x1, hf⟩ := find_valid (m := cutL l a.f0 a.f1) ⟨c1, h3⟩ p
    refine Ev.bind hf ?_
    have hat := cutl_at v.1 s p
    obtain ⟨hb1, hb2⟩ := hb v
    by_cases c : a.f0 ≤ p ∧ p < a.f1
    · rw [if_pos c] at hat
      rw [hat, hi, decide_eq_true c]
      exact Ev.congr (fun k => by simp [herr, av]) (k5_in g (some 3) b0 b1 x0 x1 b.1 b.2.1 b.2.2 false false false)
    · rw [if_neg c] at hat
      rw [hat, hi, decide_eq_false c, ← hb1, ← hb2]
      exact Ev.congr (fun k => by simp) (k5_same g b0 b1 x0 x1 b.1 b.2.1 b.2.2)
  · simp only [if_neg ny]
    exact ev_now (fun _ => rfl)
theorem keeps_j0 (l : List S32) (a : S32) (p : Int) (x y : List S32 × Option Int) (hx : x = if valid l ∧ spanP a.f0 a.f1 then fin (layL l a) else ([], some 1)) (hy : y = if valid l ∧ spanP a.f0 a.f1 then fin (cutL l a.f0 a.f1) else ([], some 1)) (b0 b1 : Int) (b : At) (g : Option Int) (hb : valid l → b = av (at_ l p) ∧ g = herr (at_ l p)) (inn : Bool) (hi : inn = decide (a.f0 ≤ p ∧ p < a.f1)) :
    Ev (fun k => paviorlaw09_AreaKeeps.j0 k p true x.1 x.2 y.1 y.2 g inn a.f0 a.f1 a.f2.f0 a.f2.f1 a.f3 b0 b1 b.1 b.2.1 b.2.2) true := by
  by_cases nx : x.2.isNone = true
  · have hc := keeps_cut l a.f0 a.f1 p y hy b0 b1 b g hb inn hi
    refine ev_succ ?_
    simp only [paviorlaw09_AreaKeeps.j0, if_pos nx]
    obtain ⟨⟨v, s⟩, h3, h4⟩ := told hx nx
    rw [h4]
    have c1 := lay_canon v.1 s
    obtain ⟨x0, x1, hf⟩ := find_valid (m := layL l a) ⟨c1, h3⟩ p
    refine Ev.bind hf ?_
    have hat := lay_at v.1 s p
    obtain ⟨hb1, hb2⟩ := hb v
    by_cases c : a.f0 ≤ p ∧ p < a.f1
    · rw [if_pos c] at hat
      rw [hi, decide_eq_true c] at hc ⊢
      rw [hat]
      refine Ev.congr (fun k => ?_) (via (g := fun k => paviorlaw09_AreaKeeps.j1 k p true y.1 y.2 g true none false b0 b1 b.1 b.2.1 b.2.2 x0 x1 a.f2.f0 a.f2.f1 a.f3) (fun k => k1_in k p y.1 y.2 g none b0 b1 x0 x1 b.1 b.2.1 b.2.2 a.f2.f0 a.f2.f1 a.f3) hc)
      simp [herr, av, attr]
    · rw [if_neg c] at hat
      rw [hi, decide_eq_false c] at hc ⊢
      rw [hat, ← hb1, ← hb2]
      refine Ev.congr (fun k => ?_) (via (g := fun k => paviorlaw09_AreaKeeps.j1 k p true y.1 y.2 g false g false b0 b1 b.1 b.2.1 b.2.2 x0 x1 b.1 b.2.1 b.2.2) (fun k => k1_same k p y.1 y.2 g b0 b1 x0 x1 b.1 b.2.1 b.2.2) hc)
      simp
  · exact keeps_cut5 l a p x y nx hy b0 b1 b g hb inn hi
theorem area_keeps (l : List S32) (a : S32) (p : Int) : Ev (fun k => paviorlaw09_AreaKeeps.f k l a.f0 a.f1 a.f2.f0 a.f2.f1 a.f3 p) true := by
  unfold paviorlaw09_AreaKeeps.f
  refine Ev.bind up_ev ?_
  by_cases hl : (l.length : Int) > 200
  · simp only [if_pos hl]
    exact ev_now (fun _ => rfl)
  · simp only [if_neg hl]
    refine Ev.bind (lay_ev l a (by omega)) ?_
    refine Ev.bind (cut_ev l a.f0 a.f1 (by omega)) ?_
    obtain ⟨b0, b1, b, g, hbf, hb⟩ : ∃ (b0 b1 : Int) (b : At) (g : Option Int), Ev (fun k => area_Find.f k l p) (b0, b1, b.1, b.2.1, b.2.2, g) ∧ (valid l → b = av (at_ l p) ∧ g = herr (at_ l p)) := by
      by_cases v : valid l
      · obtain ⟨x0, x1, h⟩ := find_valid v p
        exact ⟨x0, x1, _, _, h, fun _ => ⟨rfl, rfl⟩⟩
      · have hf := find_ev l p (by omega)
        rw [if_neg v] at hf
        exact ⟨0, 0, (false, false, false), some 1, hf, fun v' => absurd v' v⟩
    refine Ev.bind hbf ?_
    by_cases c : p ≥ a.f0
    · simp only [if_pos c]
      exact keeps_j0 l a p _ _ rfl rfl b0 b1 b g hb _ (decide_eq_decide.mpr (by omega))
    · simp only [if_neg c]
      exact keeps_j0 l a p _ _ rfl rfl b0 b1 b g hb _ (by rw [decide_eq_false (by omega)])

theorem AreaKeeps : paviorlaw09_AreaKeeps.Pure := fun l a0 a1 a2 a3 a4 p _ _ _ _ => Ev.rounds (area_keeps l ⟨a0, a1, ⟨a2, a3⟩, a4⟩ p)

end Go.Proofs.Ytlmjjkggoemabab.Pure
