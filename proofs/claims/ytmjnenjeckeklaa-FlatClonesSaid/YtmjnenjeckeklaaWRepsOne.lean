
import Derived.Test.YtmjnenjeckeklaaWWords
set_option linter.unusedSimpArgs false
namespace Go.Proofs.YtmjnenjeckeklaaW.PrintWords
theorem jj.one {α : Type} {R : α → List Value → Prop} {ps : List α} {cs : List Value} {p : α} {v : Value} (hp : R p [v]) (h : jj R 1 ps cs) : jj R 1 (p :: ps) (v :: cs) := by
 refine ⟨by simp [h.1], fun j q hq => ?_⟩
 cases j with
 | zero =>
  simp only [bF, aC] at hq; subst hq; simpa using hp
 | succ j =>
  simp only [fE] at hq; have h1 := h.2 j q hq; simpa [b8] using h1
theorem jj.front {α : Type} {R : α → List Value → Prop} {size : Nat} {ps : List α} {cs c all : List Value} {p : α} (hp : R p c) (hc : c.length = size) (h : jj R size ps cs) (ha : c ++ cs = all) : jj R size (p :: ps) all := by
 subst ha; refine ⟨by rw [aI, hc, h.1, bC, cz, fo], fun j q hq => ?_⟩
 cases j with
 | zero =>
  simp only [bF, aC] at hq; subst hq; rw [dH, cl, dg (by omega), cP (by omega)]; exact hp
 | succ j =>
  simp only [fE] at hq; have h1 := h.2 j q hq; rw [cz, List.drop_append, List.drop_of_length_le (by rw [hc]; exact Nat.le_add_left _ _), cn, hc, Nat.add_sub_cancel]; exact h1
theorem jj.c2 {α : Type} {R : α → List Value → Prop} {ps : List α} {cs : List Value} {p : α} {va vb : Value} (hp : R p [va, vb]) (h : jj R 2 ps cs) : jj R 2 (p :: ps) (va :: vb :: cs) := jj.front hp rfl h rfl
theorem jj.c3 {α : Type} {R : α → List Value → Prop} {ps : List α} {cs : List Value} {p : α} {va vb vc : Value} (hp : R p [va, vb, vc]) (h : jj R 3 ps cs) : jj R 3 (p :: ps) (va :: vb :: vc :: cs) := jj.front hp rfl h rfl
theorem jj.c4 {α : Type} {R : α → List Value → Prop} {ps : List α} {cs : List Value} {p : α} {va vb vc vd : Value} (hp : R p [va, vb, vc, vd]) (h : jj R 4 ps cs) : jj R 4 (p :: ps) (va :: vb :: vc :: vd :: cs) := jj.front hp rfl h rfl
theorem jj.c5 {α : Type} {R : α → List Value → Prop} {ps : List α} {cs : List Value} {p : α} {va vb vc vd ve : Value} (hp : R p [va, vb, vc, vd, ve]) (h : jj R 5 ps cs) : jj R 5 (p :: ps) (va :: vb :: vc :: vd :: ve :: cs) := jj.front hp rfl h rfl
theorem jj.c6 {α : Type} {R : α → List Value → Prop} {ps : List α} {cs : List Value} {p : α} {va vb vc vd ve vf : Value} (hp : R p [va, vb, vc, vd, ve, vf]) (h : jj R 6 ps cs) : jj R 6 (p :: ps) (va :: vb :: vc :: vd :: ve :: vf :: cs) := jj.front hp rfl h rfl
theorem jj.c7 {α : Type} {R : α → List Value → Prop} {ps : List α} {cs : List Value} {p : α} {va vb vc vd ve vf vg : Value} (hp : R p [va, vb, vc, vd, ve, vf, vg]) (h : jj R 7 ps cs) : jj R 7 (p :: ps) (va :: vb :: vc :: vd :: ve :: vf :: vg :: cs) := jj.front hp rfl h rfl
theorem jj.c8 {α : Type} {R : α → List Value → Prop} {ps : List α} {cs : List Value} {p : α} {va vb vc vd ve vf vg vh : Value} (hp : R p [va, vb, vc, vd, ve, vf, vg, vh]) (h : jj R 8 ps cs) : jj R 8 (p :: ps) (va :: vb :: vc :: vd :: ve :: vf :: vg :: vh :: cs) := jj.front hp rfl h rfl
theorem jj.c9 {α : Type} {R : α → List Value → Prop} {ps : List α} {cs : List Value} {p : α} {va vb vc vd ve vf vg vh vi : Value} (hp : R p [va, vb, vc, vd, ve, vf, vg, vh, vi]) (h : jj R 9 ps cs) : jj R 9 (p :: ps) (va :: vb :: vc :: vd :: ve :: vf :: vg :: vh :: vi :: cs) := jj.front hp rfl h rfl
theorem jj.xD {α : Type} {R : α → List Value → Prop} {ps : List α} {cs : List Value} {p : α} {va vb vc vd ve vf vg vh vi vj : Value} (hp : R p [va, vb, vc, vd, ve, vf, vg, vh, vi, vj]) (h : jj R 10 ps cs) : jj R 10 (p :: ps) (va :: vb :: vc :: vd :: ve :: vf :: vg :: vh :: vi :: vj :: cs) := jj.front hp rfl h rfl
end Go.Proofs.YtmjnenjeckeklaaW.PrintWords
