import Derived.Test.YtmjnenjeckeklaaDoorBuddyMod
namespace Go.Proofs.YtmjnenjeckeklaaDoor.V
open Go Go.RowKit Go.Proofs Go.Proofs.YtmjnenjeckeklaaDoor.Q Go.Proofs.YtmjnenjeckeklaaDoorW.PrintWords
set_option linter.unusedVariables false
set_option linter.unusedSimpArgs false
set_option maxRecDepth 100000
theorem getD_set {m : List Bool} {i j : Nat} {b : Bool} (h : i < m.length) : (m.set i b).getD j false = if i = j then b else m.getD j false := by
  rw [List.getD_eq_getElem?_getD, List.getD_eq_getElem?_getD, List.getElem?_set]
  by_cases hij : i = j
  · subst hij; simp [h]
  · simp [hij]
theorem rset_go {m : List Bool} {f o : Int} {b : Bool} (hm : m.length ≤ 512) (h : Ok m.length ⟨f, o⟩) : ∀ (d n : Nat) (w : List Bool) (v : Int), 0 ≤ v → v ≤ pw o → (pw o - v).toNat ≤ d → d < n → w.length = m.length →
    (∀ j : Nat, w.getD j false = if f ≤ (j : Int) ∧ (j : Int) < f + v then b else m.getD j false) →
    ∃ w', RSet.l1 1000 m f o b n w v = some w' ∧ w'.length = m.length ∧ ∀ j : Nat, w'.getD j false = if f ≤ (j : Int) ∧ (j : Int) < f + pw o then b else m.getD j false := by
  have h0 := h.f0
  have h1 := h.en
  have hp := pw_le h.o0 h.o5
  have hP := power_eq h.o0 h.o5
  simp only at h0 h1 hp hP
  intro d
  induction d with
  | zero =>
    intro n w v v0 v1 v2 v3 hw hg
    obtain ⟨n, rfl⟩ : ∃ q, n = q + 1 := ⟨n - 1, by omega⟩
    unfold RSet.l1
    rw [hP, Option.bind_some, decide_eq_false (show ¬ v < pw o by omega), cond_false]
    obtain rfl : v = pw o := by omega
    exact ⟨w, rfl, hw, hg⟩
  | succ d ih =>
    intro n w v v0 v1 v2 v3 hw hg
    by_cases hv : v < pw o
    · obtain ⟨n, rfl⟩ : ∃ q, n = q + 1 := ⟨n - 1, by omega⟩
      unfold RSet.l1
      rw [hP, Option.bind_some, decide_eq_true hv, cond_true, wrap_small (x := f + v) (by omega) (by omega), decide_eq_true (show 0 ≤ f + v by omega), decide_eq_true (show f + v < (w.length : Int) by omega)]
      simp only [Bool.and_self, cond_true]
      rw [wrap_small (by omega) (by omega)]
      refine ih n _ (v + 1) (by omega) (by omega) (by omega) (by omega) (by rw [List.length_set]; exact hw) (fun j => ?_)
      rw [getD_set (by omega), hg j]
      by_cases hj : (f + v).toNat = j
      · rw [if_pos hj, if_pos (by omega)]
      · rw [if_neg hj]
        by_cases hc : f ≤ (j : Int) ∧ (j : Int) < f + v
        · rw [if_pos hc, if_pos (by omega)]
        · rw [if_neg hc, if_neg (by omega)]
    · exact ih n w v v0 v1 (by omega) (by omega) hw hg
theorem rset_eq {m : List Bool} {f o : Int} {b : Bool} (hm : m.length ≤ 512) (h : Ok m.length ⟨f, o⟩) : ∃ m', RSet.f 1000 m f o b = some m' ∧ m'.length = m.length ∧ ∀ u, fr m' u ↔ (In u ⟨f, o⟩ ∧ b = true) ∨ (¬ In u ⟨f, o⟩ ∧ fr m u) := by
  have h0 := h.f0
  have hp := pw_le h.o0 h.o5
  simp only at h0 hp
  unfold RSet.f
  obtain ⟨w, e, hl, hg⟩ := rset_go (b := b) hm h 32 1000 m 0 (by omega) (by omega) (by omega) (by omega) rfl (fun j => by rw [if_neg (by omega)])
  refine ⟨w, e, hl, fun u => ?_⟩
  unfold fr In
  simp only
  rw [hg]
  by_cases hu : 0 ≤ u
  · by_cases hc : f ≤ u ∧ u < f + pw o
    · rw [if_pos (by omega)]
      exact ⟨fun h => .inl ⟨hc, h.2⟩, fun h => h.elim (fun h => ⟨hu, h.2⟩) (fun h => absurd hc h.1)⟩
    · rw [if_neg (by omega)]
      exact ⟨fun h => .inr ⟨hc, h⟩, fun h => h.elim (fun h => absurd h.1 hc) (fun h => h.2)⟩
  · exact ⟨fun h => absurd h.1 hu, fun h => h.elim (fun h => absurd (by omega : 0 ≤ u) hu) (fun h => absurd h.2.1 hu)⟩
end Go.Proofs.YtmjnenjeckeklaaDoor.V
