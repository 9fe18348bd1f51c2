/- Where there is room no page is found, and ahead of it there is less room: the pure statement of AreaRooms (more than 200 areas are let go by the law itself). -/
import Derived.Test.YtlmjjkggoemababAreaFind
import Derived.Test.YtlmjjkggoemababQx20
namespace Go.Proofs.Ytlmjjkggoemabab.Pure
open Go.RowKit Go.Proofs.Ytlmjjkggoemabab.Q Go.Proofs.YtlmjjkggoemababW.PrintWords Go.Proofs.Ytlmjjkggoemabab.Bits Go.Proofs.Ytlmjjkggoemabab.AreaLib Go.Proofs.Ytlmjjkggoemabab.AreaEv Go.Proofs.Ytlmjjkggoemabab.AreaUp Go.Proofs.Ytlmjjkggoemabab.AreaFind
set_option linter.unusedVariables false
set_option linter.unusedSimpArgs false

theorem rooms_end (l : List S32) (pages n : Int) (hl : l.length ≤ 600) (v : valid l) (hn : 0 ≤ n) (h2 : n + pages ≤ 4096) (hp : 1 ≤ pages) (h4 : n = 0 ∨ (0 < n ∧ at_ l (n - 1) ≠ none)) (i : Int) : Ev (fun k => paviorlaw09_AreaRooms.j1 k l pages true n i false) true := by
  refine ev_succ ?_
  have w1 : wrap64 (n + pages) = n + pages := wrap64_of (by omega) (by omega)
  simp -implicitDefEqProofs only [paviorlaw09_AreaRooms.j1, Bool.false_eq_true, if_false, w1, if_neg (show ¬ n + pages > 4096 by omega)]
  rcases h4 with rfl | ⟨h5, h6⟩
  · exact ev_now (fun k => by rw [if_neg (by omega)])
  · simp only [if_pos (show n > 0 from h5), wrap64_of (n := n - 1) (by omega) (by omega)]
    have hf := find_ev l (n - 1) hl
    obtain ⟨x, hx⟩ := find_some h6
    rw [if_pos v, hx] at hf
    refine Ev.bind hf ?_
    exact ev_now (fun k => rfl)
theorem rooms_loop (l : List S32) (pages n : Int) (hl : l.length ≤ 600) (v : valid l) (hn : 0 ≤ n) (h2 : n + pages ≤ 4096) (hp : 1 ≤ pages) (h3 : ∀ i, n ≤ i → i < n + pages → at_ l i = none) (h4 : n = 0 ∨ (0 < n ∧ at_ l (n - 1) ≠ none)) :
    ∀ (d : Nat) (i : Int), n ≤ i → i + d = n + pages → Ev (fun k => paviorlaw09_AreaRooms.l0 k l pages true n i) true := by
  have w1 : wrap64 (n + pages) = n + pages := wrap64_of (by omega) (by omega)
  have w2 : wrap64 (n + 50) = n + 50 := wrap64_of (by omega) (by omega)
  intro d
  induction d with
  | zero =>
    intro i h5 h6
    refine Ev.step (fun k => ?_) (rooms_end l pages n hl v hn h2 hp h4 i)
    rw [paviorlaw09_AreaRooms.l0, w1, if_neg (by omega)]
  | succ d ih =>
    intro i h5 h6
    by_cases c : i < n + 50
    · refine Ev.step (f := fun k => paviorlaw09_AreaRooms.j1 k l pages true n i true) (fun k => ?_) ?_
      · rw [paviorlaw09_AreaRooms.l0, w1, if_pos (by omega), w2, decide_eq_true c]
      · refine ev_succ ?_
        simp -implicitDefEqProofs only [paviorlaw09_AreaRooms.j1, if_true]
        have hf := find_ev l i hl
        rw [if_pos v, find_none (h3 i h5 (by omega))] at hf
        refine Ev.bind hf ?_
        simp -implicitDefEqProofs only [Option.isNone_some, Bool.false_eq_true, if_false, Option.getD_some, if_true, wrap64_of (n := i + 1) (by omega) (by omega)]
        exact ih (i + 1) (by omega) (by omega)
    · refine Ev.step (fun k => ?_) (rooms_end l pages n hl v hn h2 hp h4 i)
      rw [paviorlaw09_AreaRooms.l0, w1, if_pos (by omega), w2, decide_eq_false c]
theorem area_rooms (l : List S32) (pages : Int) : Ev (fun k => paviorlaw09_AreaRooms.f k l pages) true := by
  unfold paviorlaw09_AreaRooms.f
  refine Ev.bind up_ev ?_
  by_cases hl : (l.length : Int) > 200
  · simp only [if_pos hl]
    exact ev_now (fun _ => rfl)
  · simp only [if_neg hl]
    refine Ev.bind (room_ev l pages (by omega)) ?_
    by_cases v : valid l ∧ 1 ≤ pages
    · simp only [if_pos v]
      cases hr : roomL pages 0 l with
      | none => exact ev_now (fun k => by simp [roomR])
      | some n =>
        obtain ⟨r1, r2, r3, r4⟩ := room_says pages v.2 l 0 n (Int.le_refl _) v.1.1.1 hr
        simp -implicitDefEqProofs only [roomR, Option.isNone_none, if_true]
        exact rooms_loop l pages n (by omega) v.1 r1 r2 v.2 r3 r4 pages.toNat n (Int.le_refl _) (by omega)
    · simp only [if_neg v]
      exact ev_now (fun k => by simp)

theorem AreaRooms : paviorlaw09_AreaRooms.Pure := fun l pages _ _ _ => Ev.rounds (area_rooms l pages)

end Go.Proofs.Ytlmjjkggoemabab.Pure
