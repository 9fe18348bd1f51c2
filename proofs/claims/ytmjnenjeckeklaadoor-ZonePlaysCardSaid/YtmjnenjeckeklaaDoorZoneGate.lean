import Derived.Test.YtmjnenjeckeklaaDoorZoneTake
namespace Go.Proofs.YtmjnenjeckeklaaDoor.V
open Go Go.RowKit Go.Proofs Go.Proofs.YtmjnenjeckeklaaDoor.Q Go.Proofs.YtmjnenjeckeklaaDoorW.PrintWords
set_option linter.unusedVariables false
set_option linter.unusedSimpArgs false
set_option maxRecDepth 100000
theorem has_yes {z : Zon} {g : Int} (h : 0 ≤ g ∧ g < (z.t.length : Int)) : has.f 1000 z g = some (z, true) := by
  unfold has.f
  rw [decide_eq_true (show g ≥ 0 from h.1), decide_eq_true h.2]
  rfl
theorem has_no {z : Zon} {g : Int} (h : ¬ (0 ≤ g ∧ g < (z.t.length : Int))) : has.f 1000 z g = some (z, false) := by
  unfold has.f
  by_cases h0 : g ≥ 0
  · rw [decide_eq_true h0, decide_eq_false (show ¬ g < (z.t.length : Int) from fun h1 => h ⟨h0, h1⟩)]; rfl
  · rw [decide_eq_false h0]; rfl
theorem zclose_no {z : Zon} {g : Int} (h : ¬ (0 ≤ g ∧ g < (z.t.length : Int))) : ZClose.f 1000 z g = some (z, some 1) := by
  unfold ZClose.f
  rw [has_no h]
  rfl
theorem zclose_eq {n : Int} {z : Zon} (Z : ZI n z) {g : Int} (h : 0 ≤ g ∧ g < (z.t.length : Int)) : ZClose.f 1000 z g = if z.c.getD g.toNat false = true then some (z, some 7) else some (⟨z.s, z.n, z.t, z.c.set g.toNat true⟩, none) := by
  have := Z.tl
  have := Z.cl
  unfold ZClose.f
  rw [has_yes h, Option.bind_some]
  simp only [Bool.not_true, cond_false]
  rw [decide_eq_true h.1, decide_eq_true (show g < (z.c.length : Int) by omega)]
  simp only [Bool.and_self, cond_true]
  cases z.c.getD g.toNat false <;> rfl
theorem ZI.shut {n : Int} {z : Zon} (Z : ZI n z) {t : List Int} {c : List Bool} (ht : t.length = z.t.length) (hc : c.length = z.c.length) : ZI n ⟨z.s, z.n, t, c⟩ := ⟨Z.inv, Z.sn, Z.zn, by simp only [ht]; exact Z.tl, by simp only [hc]; exact Z.cl⟩
theorem getD_setB {c : List Bool} {i j : Nat} {b : Bool} (h : i < c.length) : (c.set i b).getD j false = if i = j then b else c.getD j false := by
  rw [List.getD_eq_getElem?_getD, List.getD_eq_getElem?_getD, List.getElem?_set]
  by_cases hij : i = j
  · subst hij; simp [h]
  · simp [hij]
theorem getD_setI {t : List Int} {i j : Nat} {b : Int} (h : i < t.length) : (t.set i b).getD j 0 = if i = j then b else t.getD j 0 := by
  rw [List.getD_eq_getElem?_getD, List.getD_eq_getElem?_getD, List.getElem?_set]
  by_cases hij : i = j
  · subst hij; simp [h]
  · simp [hij]
theorem zempty_go {n : Int} {z : Zon} (Z : ZI n z) (hn : n ≤ 512) {g : Int} (g0 : 0 ≤ g) (g1 : g < (z.t.length : Int)) : ∀ (d fuel : Nat) (v : Int), (g * 8 + 8 - v).toNat ≤ d → d < fuel → g * 8 ≤ v → v ≤ g * 8 + 8 →
    ∃ b, ZEmpty.l1 1000 z g fuel z v = some (z, b) ∧ (b = true ↔ ∀ u, v ≤ u → u < g * 8 + 8 → u < n → Cov z.s.l u) := by
  have htl := Z.tl
  have hzn := Z.zn
  intro d
  induction d with
  | zero =>
    intro fuel v h1 h2 h3 h4
    obtain ⟨fuel, rfl⟩ : ∃ q, fuel = q + 1 := ⟨fuel - 1, by omega⟩
    unfold ZEmpty.l1
    rw [wrap_small (x := g + 1) (by omega) (by omega), wrap_small (x := (g + 1) * 8) (by omega) (by omega)]
    rw [decide_eq_false (by split <;> omega), cond_false]
    exact ⟨true, rfl, fun _ u _ _ _ => by omega, fun _ => rfl⟩
  | succ d ih =>
    intro fuel v h1 h2 h3 h4
    obtain ⟨fuel, rfl⟩ : ∃ q, fuel = q + 1 := ⟨fuel - 1, by omega⟩
    by_cases hv : v < g * 8 + 8 ∧ v < n
    · unfold ZEmpty.l1
      rw [wrap_small (x := g + 1) (by omega) (by omega), wrap_small (x := (g + 1) * 8) (by omega) (by omega)]
      rw [decide_eq_true (by split <;> omega), cond_true]
      by_cases hc : Cov z.s.l v
      · rw [isFree_yes Z.inv hn (by omega) hc, Option.bind_some]
        simp only [Bool.not_true, cond_false]
        rw [wrap_small (by omega) (by omega)]
        obtain ⟨b, e, hb⟩ := ih fuel (v + 1) (by omega) (by omega) (by omega) (by omega)
        refine ⟨b, e, hb.trans ⟨fun h u h5 h6 h7 => ?_, fun h u h5 h6 h7 => h u (by omega) h6 h7⟩⟩
        rcases Int.lt_or_eq_of_le h5 with h8 | h8
        · exact h u (by omega) h6 h7
        · rw [← h8]; exact hc
      · rw [isFree_no Z.inv hn (by omega) hc, Option.bind_some]
        exact ⟨false, rfl, (fun h => (by cases h)), fun h => absurd (h v (by omega) hv.1 hv.2) hc⟩
    · unfold ZEmpty.l1
      rw [wrap_small (x := g + 1) (by omega) (by omega), wrap_small (x := (g + 1) * 8) (by omega) (by omega)]
      rw [decide_eq_false (by split <;> omega), cond_false]
      exact ⟨true, rfl, fun _ u _ _ _ => by omega, fun _ => rfl⟩
theorem zempty_eq {n : Int} {z : Zon} (Z : ZI n z) (hn : n ≤ 512) {g : Int} (g0 : 0 ≤ g) (g1 : g < (z.t.length : Int)) : ∃ b, ZEmpty.f 1000 z g = some (z, b) ∧ (b = true ↔ ∀ u, g * 8 ≤ u → u < g * 8 + 8 → u < n → Cov z.s.l u) := by
  have htl := Z.tl
  unfold ZEmpty.f
  rw [wrap_small (x := g * 8) (by omega) (by omega)]
  exact zempty_go Z hn g0 g1 8 1000 (g * 8) (by omega) (by omega) (by omega) (by omega)
theorem zopen_no {z : Zon} {g : Int} (h : ¬ (0 ≤ g ∧ g < (z.t.length : Int))) : ZOpen.f 1000 z g = some (z, some 1) := by
  unfold ZOpen.f
  rw [has_no h]
  rfl
theorem zopen_eq {n : Int} {z : Zon} (Z : ZI n z) (hn : n ≤ 512) {g : Int} (h : 0 ≤ g ∧ g < (z.t.length : Int)) : (z.c.getD g.toNat false = false ∧ ZOpen.f 1000 z g = some (z, some 7)) ∨
    (z.c.getD g.toNat false = true ∧ ∃ b : Bool, (b = true ↔ ∀ u, g * 8 ≤ u → u < g * 8 + 8 → u < n → Cov z.s.l u) ∧ ZOpen.f 1000 z g = some (⟨z.s, z.n, if b = true then z.t.set g.toNat 1 else z.t, z.c.set g.toNat false⟩, none)) := by
  have htl := Z.tl
  have hcl := Z.cl
  unfold ZOpen.f
  rw [has_yes h, Option.bind_some]
  simp only [Bool.not_true, cond_false]
  rw [decide_eq_true h.1, decide_eq_true (show g < (z.c.length : Int) by omega)]
  simp only [Bool.and_self, cond_true]
  cases hc : z.c.getD g.toNat false with
  | false => exact .inl ⟨rfl, rfl⟩
  | true =>
    have Z1 : ZI n ⟨z.s, z.n, z.t, z.c.set g.toNat false⟩ := Z.shut rfl (List.length_set ..)
    obtain ⟨b, e, hb⟩ := zempty_eq Z1 hn h.1 h.2
    refine .inr ⟨rfl, b, hb, ?_⟩
    simp only [Bool.not_true, cond_false]
    rw [e, Option.bind_some]
    cases b with
    | true =>
      simp only [cond_true]
      rw [decide_eq_true h.2]
      rfl
    | false => rfl
end Go.Proofs.YtmjnenjeckeklaaDoor.V
