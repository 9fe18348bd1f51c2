/- Layer 9: what Find computes, and what Room says of the pages. -/
import Derived.Test.YtlmjjkggoemababAreaUp
import Derived.Test.YtlmjjkggoemababQx17
namespace Go.Proofs.Ytlmjjkggoemabab.AreaFind
open Go.RowKit Go.Proofs.YtlmjjkggoemababW.PrintWords Go.Proofs.YtlmjjkggoemababW.PrintMore Go.Proofs.Ytlmjjkggoemabab.Bits Go.Proofs.Ytlmjjkggoemabab.Q Go.Proofs.Ytlmjjkggoemabab.AreaLib Go.Proofs.Ytlmjjkggoemabab.AreaEv Go.Proofs.Ytlmjjkggoemabab.AreaUp
set_option linter.unusedVariables false
set_option linter.unusedSimpArgs false

def look : List S32 → Int → Option S32
  | [], _ => none
  | x :: l, p => if x.f0 ≤ p ∧ p < x.f1 then some x else look l p
theorem look_at : ∀ (l : List S32) (p : Int), at_ l p = (look l p).map attr
  | [], _ => rfl
  | x :: l, p => by
    rw [at_, look]
    by_cases c : x.f0 ≤ p ∧ p < x.f1
    · rw [if_pos c, if_pos c]; rfl
    · rw [if_neg c, if_neg c]; exact look_at l p
theorem look_in : ∀ {l : List S32} {p : Int} {x : S32}, look l p = some x → x.f0 ≤ p ∧ p < x.f1
  | [], _, _, h => by cases h
  | y :: l, p, x, h => by
    rw [look] at h
    by_cases c : y.f0 ≤ p ∧ p < y.f1
    · rw [if_pos c] at h
      obtain rfl := Option.some.inj h
      exact c
    · rw [if_neg c] at h
      exact look_in h
theorem has_eq (p : Int) (x : S32) : area_find.has p x = decide (x.f0 ≤ p ∧ p < x.f1) := by
  unfold area_find.has
  by_cases c : x.f0 ≤ p <;> by_cases d : p < x.f1 <;> simp [c, d]
theorem find_loop (L : List S32) (hL : L.length ≤ 600) (p : Int) : ∀ (suf pre : List S32), L = pre ++ suf →
    (∃ j : Nat, ∃ x, j < L.length ∧ L[j]? = some x ∧ look suf p = some x ∧ Ev (fun k => api_Area_40.l0 k L (area_find.has p) (L.length : Int) (pre.length : Int)) (j : Int)) ∨
    (look suf p = none ∧ Ev (fun k => api_Area_40.l0 k L (area_find.has p) (L.length : Int) (pre.length : Int)) (-1)) := by
  intro suf
  induction suf with
  | nil =>
    intro pre he
    refine .inr ⟨rfl, ev_succ (ev_now (fun k => ?_))⟩
    rw [api_Area_40.l0, if_neg (by rw [he]; simp)]
  | cons x suf ih =>
    intro pre he
    have hp : L.length = pre.length + (suf.length + 1) := by rw [he]; simp
    have hx : rd_T32 L (pre.length : Int) = x := by rw [he]; exact rd32_at pre x suf
    have ha : ∀ k, api_Area_40.l0 (k + 1) L (area_find.has p) (L.length : Int) (pre.length : Int) = if x.f0 ≤ p ∧ p < x.f1 then some (pre.length : Int) else api_Area_40.l0 k L (area_find.has p) (L.length : Int) ((pre.length + 1 : Nat) : Int) := by
      intro k
      rw [api_Area_40.l0, if_pos (by omega), if_pos (by omega), if_pos (by omega), hx]
      unfold ap71.f
      rw [Option.bind_some, has_eq, wrap64_of (by omega) (by omega)]
      by_cases c : x.f0 ≤ p ∧ p < x.f1
      · rw [if_pos c, if_pos (decide_eq_true c)]
      · rw [if_neg c, if_neg (by simpa using c)]
        rfl
    rw [look]
    by_cases c : x.f0 ≤ p ∧ p < x.f1
    · refine .inl ⟨pre.length, x, by omega, by rw [he]; simp, by rw [if_pos c], ev_succ (ev_now (fun k => ?_))⟩
      rw [ha k, if_pos c]
    · rw [if_neg c]
      have h1 := ih (pre ++ [x]) (by rw [he]; simp)
      rw [show (pre ++ [x]).length = pre.length + 1 by simp] at h1
      rcases h1 with ⟨j, y, a1, a2, a3, a4⟩ | ⟨a1, a2⟩
      · exact .inl ⟨j, y, a1, a2, a3, Ev.step (fun k => by rw [ha k, if_neg c]) a4⟩
      · exact .inr ⟨a1, Ev.step (fun k => by rw [ha k, if_neg c]) a2⟩
def findR : Option S32 → Int × Int × Bool × Bool × Bool × Option Int
  | some x => (x.f0, x.f1, x.f2.f0, x.f2.f1, x.f3, none)
  | none => (0, 0, false, false, false, some 3)
theorem find_ev (l : List S32) (p : Int) (hl : l.length ≤ 600) : Ev (fun k => area_Find.f k l p) (if valid l then findR (look l p) else (0, 0, false, false, false, some 1)) := by
  unfold area_Find.f
  refine Ev.bind (check_ev l hl) ?_
  by_cases v : valid l
  · simp only [if_pos v, Option.isNone_none, if_true]
    rcases find_loop l hl p l [] rfl with ⟨j, x, a1, a2, a3, a4⟩ | ⟨a1, a2⟩
    · refine Ev.bind (show Ev (fun k => area_find.f k l p) (j : Int) from a4) ?_
      refine ev_now (fun k => ?_)
      have e : rd_T32 l (j : Int) = x := by
        unfold rd_T32
        rw [Int.toNat_natCast, List.getD_eq_getElem?_getD, a2]
        rfl
      rw [if_neg (by omega), if_pos (by omega), if_pos (by omega), e, a3]
      rfl
    · refine Ev.bind (show Ev (fun k => area_find.f k l p) (-1) from a2) ?_
      refine ev_now (fun k => ?_)
      rw [if_pos (by omega), a1]
      rfl
  · simp only [if_neg v, Option.isNone_some, Bool.false_eq_true, if_false]
    exact ev_now (fun k => rfl)

/-! ### where there is room -/
theorem room_says (pages : Int) (hp : 1 ≤ pages) : ∀ (l : List S32) (a n : Int), 0 ≤ a → lies a l 4096 → roomL pages a l = some n →
    a ≤ n ∧ n + pages ≤ 4096 ∧ (∀ i, n ≤ i → i < n + pages → at_ l i = none) ∧ (n = a ∨ (a < n ∧ at_ l (n - 1) ≠ none))
  | [], a, n, h0, hl, h => by
    rw [roomL] at h
    by_cases c : 4096 - a < pages
    · rw [if_pos c] at h; cases h
    · rw [if_neg c] at h
      obtain rfl := Option.some.inj h
      exact ⟨Int.le_refl _, by omega, fun _ _ _ => rfl, .inl rfl⟩
  | x :: l, a, n, h0, hl, h => by
    obtain ⟨l1, l2, l3⟩ := hl
    have l4 := lies_le l3
    rw [roomL] at h
    by_cases c : x.f0 - a ≥ pages
    · rw [if_pos c] at h
      obtain rfl := Option.some.inj h
      exact ⟨Int.le_refl _, by omega, fun i a1 a2 => at_lt (l := x :: l) (q := x.f0) (e := 4096) ⟨Int.le_refl _, l2, l3⟩ (by omega), .inl rfl⟩
    · rw [if_neg c] at h
      obtain ⟨r1, r2, r3, r4⟩ := room_says pages hp l x.f1 n (by omega) l3 h
      refine ⟨by omega, r2, fun i a1 a2 => ?_, .inr ⟨by omega, ?_⟩⟩
      · rw [at_, if_neg (by omega)]
        exact r3 i a1 a2
      · rcases r4 with rfl | ⟨r5, r6⟩
        · rw [at_, if_pos (by omega)]
          simp
        · rw [at_, if_neg (by omega)]
          exact r6
theorem find_none {l : List S32} {p : Int} (h : at_ l p = none) : findR (look l p) = (0, 0, false, false, false, some 3) := by
  rw [look_at] at h
  cases hx : look l p with
  | none => rfl
  | some x => rw [hx] at h; cases h
theorem find_some {l : List S32} {p : Int} (h : at_ l p ≠ none) : ∃ x, look l p = some x := by
  cases hx : look l p with
  | none => rw [look_at, hx] at h; exact absurd rfl h
  | some x => exact ⟨x, rfl⟩
end Go.Proofs.Ytlmjjkggoemabab.AreaFind
