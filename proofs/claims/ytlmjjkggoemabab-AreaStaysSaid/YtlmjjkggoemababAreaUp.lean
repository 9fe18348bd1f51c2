/- Layer 9: what Room computes, and the document's examples. -/
import Derived.Test.YtlmjjkggoemababAreaEv
namespace Go.Proofs.Ytlmjjkggoemabab.AreaUp
open Go.RowKit Go.Proofs.YtlmjjkggoemababW.PrintWords Go.Proofs.YtlmjjkggoemababW.PrintMore Go.Proofs.Ytlmjjkggoemabab.Bits Go.Proofs.Ytlmjjkggoemabab.Q Go.Proofs.Ytlmjjkggoemabab.AreaLib Go.Proofs.Ytlmjjkggoemabab.AreaEv
set_option linter.unusedVariables false
set_option linter.unusedSimpArgs false

def roomL (pages : Int) : Int → List S32 → Option Int
  | at0, [] => if 4096 - at0 < pages then none else some at0
  | at0, x :: l => if x.f0 - at0 ≥ pages then some at0 else roomL pages x.f1 l
def roomR : Option Int → Int × Option Int
  | some n => (n, none)
  | none => (0, some 5)
theorem room_loop (pages : Int) : ∀ (suf pre : List S32) (at0 : Int), (pre ++ suf).length ≤ 600 → 0 ≤ at0 → lies at0 suf 4096 →
    Ev (fun k => area_Room.l0 k pages at0 (pre ++ suf) ((pre ++ suf).length : Int) (pre.length : Int)) (roomR (roomL pages at0 suf)) := by
  intro suf
  induction suf with
  | nil =>
    intro pre at0 hlen h0 hl
    have h1 : at0 ≤ 4096 := hl
    refine ev_succ (ev_now (fun k => ?_))
    simp only [area_Room.l0]
    rw [if_neg (by simp), wrap64_of (by omega) (by omega)]
    unfold roomL
    by_cases c : 4096 - at0 < pages
    · rw [if_pos c, if_pos c]; rfl
    · rw [if_neg c, if_neg c]; rfl
  | cons x suf ih =>
    intro pre at0 hlen h0 hl
    obtain ⟨l1, l2, l3⟩ := hl
    have := lies_le l3
    have hp : (pre ++ x :: suf).length = pre.length + (suf.length + 1) := by simp
    have h1 := ih (pre ++ [x]) x.f1 (by simpa using hlen) (by omega) l3
    rw [roomL]
    by_cases c : x.f0 - at0 ≥ pages
    · rw [if_pos c]
      refine ev_succ (ev_now (fun k => ?_))
      simp only [area_Room.l0]
      rw [if_pos (by omega), if_pos (by omega), if_pos (by omega), rd32_at, wrap64_of (by omega) (by omega), if_pos c]
      rfl
    · rw [if_neg c]
      rw [List.append_assoc] at h1
      refine Ev.step (fun k => ?_) h1
      simp only [area_Room.l0]
      rw [if_pos (by omega), if_pos (by omega), if_pos (by omega), rd32_at, wrap64_of (n := x.f0 - at0) (by omega) (by omega), if_neg c, wrap64_of (by omega) (by omega)]
      simp
theorem room_ev (l : List S32) (pages : Int) (hl : l.length ≤ 600) : Ev (fun k => area_Room.f k l pages) (if valid l ∧ 1 ≤ pages then roomR (roomL pages 0 l) else (0, some 1)) := by
  have bad : Ev (fun k => area_Room.j0 k l pages true) (0, some 1) := ev_succ (ev_now (fun k => by simp only [area_Room.j0]; rw [if_pos trivial]))
  unfold area_Room.f
  refine Ev.bind (check_ev l hl) ?_
  by_cases v : valid l
  · simp only [if_pos v, Option.isNone_none, if_true]
    by_cases s : 1 ≤ pages
    · rw [if_pos ⟨v, s⟩, decide_eq_false (by omega)]
      have h1 := room_loop pages l [] 0 hl (Int.le_refl _) v.1.1
      refine Ev.step (fun k => ?_) h1
      simp only [area_Room.j0]
      rw [if_neg Bool.false_ne_true]
      rfl
    · rw [if_neg (fun h => s h.2), decide_eq_true (by omega)]
      exact bad
  · simp only [if_neg v, Option.isNone_some, Bool.false_eq_true, if_false]
    rw [if_neg (fun h => v h.1)]
    exact bad

theorem up_ev : Ev (fun k => paviorlaw09_up.f k) true := by
  have v1 : valid [⟨0, 4, ⟨false, false⟩, false⟩] := by decide +kernel
  have v2 : valid [⟨0, 6, ⟨false, false⟩, false⟩] := by decide +kernel
  have h1 := lay_ev [⟨0, 4, ⟨false, false⟩, false⟩] ⟨4, 6, ⟨false, false⟩, false⟩ (by simp)
  rw [if_pos ⟨v1, by decide +kernel⟩, show fin (layL [⟨0, 4, ⟨false, false⟩, false⟩] ⟨4, 6, ⟨false, false⟩, false⟩) = ([⟨0, 6, ⟨false, false⟩, false⟩], none) by rfl] at h1
  have h2 := cut_ev [⟨0, 6, ⟨false, false⟩, false⟩] 2 4 (by simp)
  rw [if_pos ⟨v2, by decide +kernel⟩, show fin (cutL [⟨0, 6, ⟨false, false⟩, false⟩] 2 4) = ([⟨0, 2, ⟨false, false⟩, false⟩, ⟨4, 6, ⟨false, false⟩, false⟩], none) by rfl] at h2
  have h3 := room_ev [⟨0, 6, ⟨false, false⟩, false⟩] 3 (by simp)
  rw [if_pos ⟨v2, by decide +kernel⟩, show roomR (roomL 3 0 [⟨0, 6, ⟨false, false⟩, false⟩]) = (6, none) by rfl] at h3
  unfold paviorlaw09_up.f
  refine Ev.bind h1 ?_
  refine Ev.bind h2 ?_
  refine Ev.bind h3 ?_
  exact ev_now (fun k => by rfl)
theorem valid_len {l : List S32} (h : valid l) : l.length ≤ 64 := h.2
theorem fin_ok {z : List S32} (h : z.length ≤ 64) : fin z = (z, none) := by unfold fin; rw [if_pos h]
theorem fin_full {z : List S32} (h : ¬ z.length ≤ 64) : fin z = ([], some 5) := by unfold fin; rw [if_neg h]
/-- what is told when it may not be, or when it may -/
theorem told {l : List S32} {P : Prop} [Decidable P] {r : List S32 × Option Int} (h : r = if P then fin l else ([], some 1)) (hn : r.2.isNone = true) : P ∧ l.length ≤ 64 ∧ r = (l, none) := by
  by_cases p : P
  · rw [if_pos p] at h
    by_cases c : l.length ≤ 64
    · rw [fin_ok c] at h; exact ⟨p, c, h⟩
    · rw [fin_full c] at h; rw [h] at hn; cases hn
  · rw [if_neg p] at h; rw [h] at hn; cases hn
theorem told_err {l : List S32} {P : Prop} [Decidable P] {r : List S32 × Option Int} (h : r = if P then fin l else ([], some 1)) (hn : ¬ r.2.isNone = true) : r.2 = some 1 ∧ ¬ P ∨ r.2 = some 5 ∧ P := by
  by_cases p : P
  · rw [if_pos p] at h
    by_cases c : l.length ≤ 64
    · rw [fin_ok c] at h; rw [h] at hn; exact absurd rfl hn
    · rw [fin_full c] at h; rw [h]; exact .inr ⟨rfl, p⟩
  · rw [if_neg p] at h; rw [h]; exact .inl ⟨rfl, p⟩
end Go.Proofs.Ytlmjjkggoemabab.AreaUp
