
import Derived.Test.YtmjnenjeckeklaaWWords
namespace Go.Proofs.YtmjnenjeckeklaaW.PrintWords
theorem cy.one {α : Type} {R : α → List Value → Prop} {ps : List α} {cs : List Value} {p : α} {v : Value} (hp : R p [v]) (h : cy R 1 ps cs) : cy R 1 (p :: ps) (v :: cs) := by
 refine ⟨by simp [h.1], fun j q hq => ?_⟩
 cases j with
 | zero =>
  simp only [List.getElem?_cons_zero, Option.some.injEq] at hq; subst hq; simpa using hp
 | succ j =>
  simp only [List.getElem?_cons_succ] at hq; have h1 := h.2 j q hq; simpa [Nat.mul_one] using h1
theorem cy.front {α : Type} {R : α → List Value → Prop} {size : Nat} {ps : List α} {cs c all : List Value} {p : α} (hp : R p c) (hc : c.length = size) (h : cy R size ps cs) (ha : c ++ cs = all) : cy R size (p :: ps) all := by
 subst ha; refine ⟨by rw [List.length_append, hc, h.1, List.length_cons, Nat.succ_mul, Nat.add_comm], fun j q hq => ?_⟩
 cases j with
 | zero =>
  simp only [List.getElem?_cons_zero, Option.some.injEq] at hq; subst hq; rw [Nat.zero_mul, List.drop_zero, List.take_append_of_le_length (by omega), List.take_of_length_le (by omega)]; exact hp
 | succ j =>
  simp only [List.getElem?_cons_succ] at hq; have h1 := h.2 j q hq; rw [Nat.succ_mul, List.drop_append, List.drop_of_length_le (by rw [hc]; exact Nat.le_add_left _ _), List.nil_append, hc, Nat.add_sub_cancel]; exact h1
theorem cy.c2 {α : Type} {R : α → List Value → Prop} {ps : List α} {cs : List Value} {p : α} {va vb : Value} (hp : R p [va, vb]) (h : cy R 2 ps cs) : cy R 2 (p :: ps) (va :: vb :: cs) := cy.front hp rfl h rfl
theorem cy.c3 {α : Type} {R : α → List Value → Prop} {ps : List α} {cs : List Value} {p : α} {va vb vc : Value} (hp : R p [va, vb, vc]) (h : cy R 3 ps cs) : cy R 3 (p :: ps) (va :: vb :: vc :: cs) := cy.front hp rfl h rfl
theorem cy.c4 {α : Type} {R : α → List Value → Prop} {ps : List α} {cs : List Value} {p : α} {va vb vc vd : Value} (hp : R p [va, vb, vc, vd]) (h : cy R 4 ps cs) : cy R 4 (p :: ps) (va :: vb :: vc :: vd :: cs) := cy.front hp rfl h rfl
theorem cy.c5 {α : Type} {R : α → List Value → Prop} {ps : List α} {cs : List Value} {p : α} {va vb vc vd ve : Value} (hp : R p [va, vb, vc, vd, ve]) (h : cy R 5 ps cs) : cy R 5 (p :: ps) (va :: vb :: vc :: vd :: ve :: cs) := cy.front hp rfl h rfl
theorem cy.c6 {α : Type} {R : α → List Value → Prop} {ps : List α} {cs : List Value} {p : α} {va vb vc vd ve vf : Value} (hp : R p [va, vb, vc, vd, ve, vf]) (h : cy R 6 ps cs) : cy R 6 (p :: ps) (va :: vb :: vc :: vd :: ve :: vf :: cs) := cy.front hp rfl h rfl
theorem cy.c7 {α : Type} {R : α → List Value → Prop} {ps : List α} {cs : List Value} {p : α} {va vb vc vd ve vf vg : Value} (hp : R p [va, vb, vc, vd, ve, vf, vg]) (h : cy R 7 ps cs) : cy R 7 (p :: ps) (va :: vb :: vc :: vd :: ve :: vf :: vg :: cs) := cy.front hp rfl h rfl
theorem cy.c8 {α : Type} {R : α → List Value → Prop} {ps : List α} {cs : List Value} {p : α} {va vb vc vd ve vf vg vh : Value} (hp : R p [va, vb, vc, vd, ve, vf, vg, vh]) (h : cy R 8 ps cs) : cy R 8 (p :: ps) (va :: vb :: vc :: vd :: ve :: vf :: vg :: vh :: cs) := cy.front hp rfl h rfl
theorem cy.c9 {α : Type} {R : α → List Value → Prop} {ps : List α} {cs : List Value} {p : α} {va vb vc vd ve vf vg vh vi : Value} (hp : R p [va, vb, vc, vd, ve, vf, vg, vh, vi]) (h : cy R 9 ps cs) : cy R 9 (p :: ps) (va :: vb :: vc :: vd :: ve :: vf :: vg :: vh :: vi :: cs) := cy.front hp rfl h rfl
theorem cy.qM {α : Type} {R : α → List Value → Prop} {ps : List α} {cs : List Value} {p : α} {va vb vc vd ve vf vg vh vi vj : Value} (hp : R p [va, vb, vc, vd, ve, vf, vg, vh, vi, vj]) (h : cy R 10 ps cs) : cy R 10 (p :: ps) (va :: vb :: vc :: vd :: ve :: vf :: vg :: vh :: vi :: vj :: cs) := cy.front hp rfl h rfl
end Go.Proofs.YtmjnenjeckeklaaW.PrintWords
