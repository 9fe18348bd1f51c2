/- Any page's own, or what is amiss, and where there is room for any pages, is what the document's reference says page by page: the pure statement of AreaFinds (more than 200 areas are let go by the law itself). -/
import Derived.Test.YtlmjjkggoemababAreaMay
import Derived.Test.YtlmjjkggoemababAreaRef
import Derived.Test.YtlmjjkggoemababAreaFind
import Derived.Test.YtlmjjkggoemababQx18
namespace Go.Proofs.Ytlmjjkggoemabab.Pure
open Go.RowKit Go.Proofs.Ytlmjjkggoemabab.Q Go.Proofs.YtlmjjkggoemababW.PrintWords Go.Proofs.Ytlmjjkggoemabab.Bits Go.Proofs.Ytlmjjkggoemabab.AreaLib Go.Proofs.Ytlmjjkggoemabab.AreaEv Go.Proofs.Ytlmjjkggoemabab.AreaUp Go.Proofs.Ytlmjjkggoemabab.AreaRef Go.Proofs.Ytlmjjkggoemabab.AreaFind
set_option linter.unusedVariables false
set_option linter.unusedSimpArgs false

/-! ### the first room is the reference's -/
theorem room_min (pages : Int) (hp : 1 ≤ pages) : ∀ (l : List S32) (a n : Int), lies a l 4096 → roomL pages a l = some n → ∀ s, a ≤ s → s < n → ∃ i, s ≤ i ∧ i < s + pages ∧ at_ l i ≠ none
  | [], a, n, hl, h, s, s1, s2 => by
    rw [roomL] at h
    by_cases c : 4096 - a < pages
    · rw [if_pos c] at h; cases h
    · rw [if_neg c] at h
      obtain rfl := Option.some.inj h
      omega
  | x :: l, a, n, hl, h, s, s1, s2 => by
    obtain ⟨l1, l2, l3⟩ := hl
    rw [roomL] at h
    by_cases c : x.f0 - a ≥ pages
    · rw [if_pos c] at h
      obtain rfl := Option.some.inj h
      omega
    · rw [if_neg c] at h
      by_cases d : s < x.f1
      · by_cases e : s < x.f0
        · exact ⟨x.f0, by omega, by omega, by rw [at_, if_pos (by omega)]; simp⟩
        · exact ⟨s, by omega, by omega, by rw [at_, if_pos (by omega)]; simp⟩
      · obtain ⟨i, i1, i2, i3⟩ := room_min pages hp l x.f1 n l3 h s (by omega) s2
        exact ⟨i, i1, i2, by rw [at_, if_neg (by omega)]; exact i3⟩
theorem room_no (pages : Int) (hp : 1 ≤ pages) : ∀ (l : List S32) (a : Int), lies a l 4096 → roomL pages a l = none → ∀ s, a ≤ s → s + pages ≤ 4096 → ∃ i, s ≤ i ∧ i < s + pages ∧ at_ l i ≠ none
  | [], a, hl, h, s, s1, s2 => by
    rw [roomL] at h
    by_cases c : 4096 - a < pages
    · omega
    · rw [if_neg c] at h; cases h
  | x :: l, a, hl, h, s, s1, s2 => by
    obtain ⟨l1, l2, l3⟩ := hl
    rw [roomL] at h
    by_cases c : x.f0 - a ≥ pages
    · rw [if_pos c] at h; cases h
    · rw [if_neg c] at h
      by_cases d : s < x.f1
      · by_cases e : s < x.f0
        · exact ⟨x.f0, by omega, by omega, by rw [at_, if_pos (by omega)]; simp⟩
        · exact ⟨s, by omega, by omega, by rw [at_, if_pos (by omega)]; simp⟩
      · obtain ⟨i, i1, i2, i3⟩ := room_no pages hp l x.f1 l3 h s (by omega) s2
        exact ⟨i, i1, i2, by rw [at_, if_neg (by omega)]; exact i3⟩
theorem rr_loop (g : Int → Option At) (pages r : Int) (hp : 1 ≤ pages) (hpm : pages ≤ 9223372036854775807)
    (hyes : ∀ s, 0 ≤ s → s + pages ≤ 4096 → (∀ i, s ≤ i → i < s + pages → g i = none) → (∀ s', 0 ≤ s' → s' < s → ∃ i, s' ≤ i ∧ i < s' + pages ∧ g i ≠ none) → r = s)
    (hno : (∀ s, 0 ≤ s → s + pages ≤ 4096 → ∃ i, s ≤ i ∧ i < s + pages ∧ g i ≠ none) → r = -1) :
    ∀ (d : Nat) (i c : Int), 0 ≤ c → c ≤ i → c < pages → i + d = 4096 → (∀ j, i - c ≤ j → j < i → g j = none) → (∀ s, 0 ≤ s → s + pages ≤ i → ∃ j, s ≤ j ∧ j < s + pages ∧ g j ≠ none) →
      (∀ s, 0 ≤ s → s < i - c → ∃ j, s ≤ j ∧ j < i - c ∧ g j ≠ none) →
      Ev (fun k => paviorref09_Room.l0 k (pgs g) pages c i) r := by
  intro d
  induction d with
  | zero =>
    intro i c c0 c1 c2 hd hfree hbefore hcut
    obtain rfl : i = 4096 := by omega
    rw [hno (fun s s1 s2 => hbefore s s1 s2)]
    refine ev_succ (ev_now (fun k => ?_))
    rw [paviorref09_Room.l0, if_neg (by omega)]
  | succ d ih =>
    intro i c c0 c1 c2 hd hfree hbefore hcut
    have hi4 : i < 4096 := by omega
    cases hv : g i with
    | some v =>
      have h1 := ih (i + 1) 0 (Int.le_refl _) (by omega) (by omega) (by omega) (fun j a b => by omega)
        (fun s s1 s2 => by
          by_cases e : s + pages ≤ i
          · exact hbefore s s1 e
          · exact ⟨i, by omega, by omega, by rw [hv]; simp⟩)
        (fun s s1 s2 => ⟨i, by omega, by omega, by rw [hv]; simp⟩)
      refine Ev.step (f := fun k => paviorref09_Room.j1 k (pgs g) pages 0 i) (fun k => ?_) (Ev.step (fun k => ?_) h1)
      · rw [paviorref09_Room.l0, if_pos hi4, if_pos (by omega), pgs_len, if_pos (by omega), pgs_get g i (by omega) hi4, hv, if_pos (show (encP (some v)).f0 = true from rfl)]
      · rw [paviorref09_Room.j1, if_neg (by omega), wrap64_of (by omega) (by omega)]
    | none =>
      have w : wrap64 (c + 1) = c + 1 := wrap64_of (by omega) (by omega)
      have hfree' : ∀ j, i + 1 - (c + 1) ≤ j → j < i + 1 → g j = none := fun j a b => by
        by_cases e : j = i
        · rw [e]; exact hv
        · exact hfree j (by omega) (by omega)
      have hstep : ∀ k, paviorref09_Room.l0 (k + 1) (pgs g) pages c i = paviorref09_Room.j1 k (pgs g) pages (c + 1) i := fun k => by
        rw [paviorref09_Room.l0, if_pos hi4, if_pos (by omega), pgs_len, if_pos (by omega), pgs_get g i (by omega) hi4, hv, if_neg (by decide), w]
      by_cases e : c + 1 = pages
      · have hr : r = i - pages + 1 := hyes (i - pages + 1) (by omega) (by omega) (fun j a b => hfree' j (by omega) (by omega)) (fun s' s1 s2 => hbefore s' s1 (by omega))
        rw [hr]
        refine Ev.step hstep (ev_succ (ev_now (fun k => ?_)))
        rw [paviorref09_Room.j1, if_pos e, wrap64_of (n := i - pages) (by omega) (by omega), wrap64_of (by omega) (by omega)]
      · have h1 := ih (i + 1) (c + 1) (by omega) (by omega) (by omega) (by omega) hfree'
          (fun s s1 s2 => by
            by_cases q : s + pages ≤ i
            · exact hbefore s s1 q
            · obtain ⟨j, j1, j2, j3⟩ := hcut s s1 (by omega)
              exact ⟨j, j1, by omega, j3⟩)
          (fun s s1 s2 => by
            obtain ⟨j, j1, j2, j3⟩ := hcut s s1 (by omega)
            exact ⟨j, j1, by omega, j3⟩)
        refine Ev.step hstep (Ev.step (fun k => ?_) h1)
        rw [paviorref09_Room.j1, if_neg e, wrap64_of (by omega) (by omega)]
def roomZ : Option Int → Int
  | some n => n
  | none => -1
theorem refroom_ev (l : List S32) (v : valid l) (pages : Int) (hp : 1 ≤ pages) (hpm : pages ≤ 9223372036854775807) : Ev (fun k => paviorref09_Room.f k (pgs (at_ l)) pages) (roomZ (roomL pages 0 l)) := by
  unfold paviorref09_Room.f
  refine rr_loop (at_ l) pages _ hp hpm (fun s s1 s2 s3 s4 => ?_) (fun h => ?_) 4096 0 0 (Int.le_refl _) (Int.le_refl _) (by omega) (by omega) (fun j a b => by omega) (fun s a b => by omega) (fun s a b => by omega)
  · cases hr : roomL pages 0 l with
    | none =>
      obtain ⟨i, i1, i2, i3⟩ := room_no pages hp l 0 v.1.1 hr s s1 s2
      exact absurd (s3 i i1 i2) i3
    | some n =>
      obtain ⟨r1, r2, r3, r4⟩ := room_says pages hp l 0 n (Int.le_refl _) v.1.1 hr
      rcases Int.lt_trichotomy n s with c | c | c
      · obtain ⟨i, i1, i2, i3⟩ := s4 n r1 c
        exact absurd (r3 i i1 i2) i3
      · exact c
      · obtain ⟨i, i1, i2, i3⟩ := room_min pages hp l 0 n v.1.1 hr s s1 c
        exact absurd (s3 i i1 i2) i3
  · cases hr : roomL pages 0 l with
    | none => rfl
    | some n =>
      obtain ⟨r1, r2, r3, r4⟩ := room_says pages hp l 0 n (Int.le_refl _) v.1.1 hr
      obtain ⟨i, i1, i2, i3⟩ := h n r1 r2
      exact absurd (r3 i i1 i2) i3

/-! ### a page's own -/
theorem finds_j2 (l : List S32) (p : Int) (v : valid l) (F : Int × Int × Bool × Bool × Bool × Option Int) (hF : F = findR (AreaFind.look l p)) :
    Ev (fun k => paviorlaw09_AreaFinds.j2 k p true F.2.2.2.2.2 (pgs (at_ l)) F.1 F.2.1 F.2.2.1 F.2.2.2.1 F.2.2.2.2.1) true := by
  subst hF
  have none_ : at_ l p = none → Ev (fun k => paviorlaw09_AreaFinds.j3 k p true (findR (AreaFind.look l p)).2.2.2.2.2 (pgs (at_ l)) true (findR (AreaFind.look l p)).1 (findR (AreaFind.look l p)).2.1 (findR (AreaFind.look l p)).2.2.1 (findR (AreaFind.look l p)).2.2.2.1 (findR (AreaFind.look l p)).2.2.2.2.1) true := by
    intro h
    rw [find_none h]
    exact ev_succ (ev_now (fun k => by simp [paviorlaw09_AreaFinds.j3]))
  by_cases c1 : p < 0
  · refine Ev.step (fun k => ?_) (none_ (at_lt v.1.1 c1))
    rw [paviorlaw09_AreaFinds.j2, if_pos c1]
  · by_cases c2 : p > 4095
    · refine Ev.step (fun k => ?_) (none_ (at_ge v.1.1 (by omega)))
      rw [paviorlaw09_AreaFinds.j2, if_neg c1, if_pos c2]
    · have hrd := pgs_get (at_ l) p (by omega) (by omega)
      cases hv : at_ l p with
      | none =>
        rw [hv] at hrd
        refine Ev.step (fun k => ?_) (none_ hv)
        rw [paviorlaw09_AreaFinds.j2, if_neg c1, if_neg c2, if_pos (by omega), pgs_len, if_pos (by omega), hrd]
        rfl
      | some w =>
        obtain ⟨x, hx⟩ := find_some (l := l) (p := p) (by rw [hv]; simp)
        obtain ⟨x1, x2⟩ := look_in hx
        have hw : w = attr x := by
          have := look_at l p
          rw [hx, hv] at this
          exact Option.some.inj this
        rw [hv] at hrd
        rw [hx]
        refine Ev.step (f := fun k => paviorlaw09_AreaFinds.j3 k p true none (pgs (at_ l)) false x.f0 x.f1 x.f2.f0 x.f2.f1 x.f3) (fun k => ?_) (ev_succ (ev_now (fun k => ?_)))
        · rw [paviorlaw09_AreaFinds.j2, if_neg c1, if_neg c2, if_pos (by omega), pgs_len, if_pos (by omega), hrd]
          rfl
        · rw [paviorlaw09_AreaFinds.j3, if_neg Bool.false_ne_true, if_pos rfl, if_pos (show (none : Option Int).isNone = true from rfl), if_pos x1, if_pos x2, if_pos (by omega), pgs_len, if_pos (by omega), hrd, hw]
          simp [paviorref09_Area.f, encP, attr]
theorem area_finds (l : List S32) (p pages : Int) (hpm : pages ≤ 9223372036854775807) : Ev (fun k => paviorlaw09_AreaFinds.f k l p pages) true := by
  unfold paviorlaw09_AreaFinds.f
  refine Ev.bind up_ev ?_
  by_cases hl : (l.length : Int) > 200
  · simp only [if_pos hl]
    exact ev_now (fun _ => rfl)
  · simp only [if_neg hl]
    refine Ev.bind (find_ev l p (by omega)) ?_
    refine Ev.bind (room_ev l pages (by omega)) ?_
    refine Ev.bind (may_ev l (by omega)) ?_
    by_cases v : valid l
    · simp -implicitDefEqProofs only [decide_eq_true v, if_true]
      refine Ev.bind (of_ev l v) ?_
      simp only [if_pos v]
      have hj := finds_j2 l p v _ rfl
      by_cases c : pages < 1
      · simp only [if_pos c, if_neg (show ¬ (valid l ∧ 1 ≤ pages) from fun h => by omega)]
        refine Ev.congr (fun k => ?_) (Ev.step (g := fun k => paviorlaw09_AreaFinds.j0 k p true (findR (AreaFind.look l p)).2.2.2.2.2 (pgs (at_ l)) false (findR (AreaFind.look l p)).1 (findR (AreaFind.look l p)).2.1 (findR (AreaFind.look l p)).2.2.1 (findR (AreaFind.look l p)).2.2.2.1 (findR (AreaFind.look l p)).2.2.2.2.1) (fun k => ?_) hj)
        · simp
        · rw [paviorlaw09_AreaFinds.j0, if_neg Bool.false_ne_true]
      · simp only [if_neg c, if_pos (show valid l ∧ 1 ≤ pages from ⟨v, by omega⟩)]
        refine Ev.bind (refroom_ev l v pages (by omega) hpm) ?_
        have hj1 : Ev (fun k => paviorlaw09_AreaFinds.j1 k p true (findR (AreaFind.look l p)).2.2.2.2.2 (pgs (at_ l)) false (findR (AreaFind.look l p)).1 (findR (AreaFind.look l p)).2.1 (findR (AreaFind.look l p)).2.2.1 (findR (AreaFind.look l p)).2.2.2.1 (findR (AreaFind.look l p)).2.2.2.2.1) true :=
          Ev.step (fun k => by rw [paviorlaw09_AreaFinds.j1, if_neg Bool.false_ne_true]) hj
        cases hr : roomL pages 0 l with
        | none => exact Ev.congr (fun k => by simp [roomZ, roomR]) hj1
        | some n =>
          obtain ⟨r1, r2, r3, r4⟩ := room_says pages (by omega) l 0 n (Int.le_refl _) v.1.1 hr
          exact Ev.congr (fun k => by simp [roomZ, roomR, show ¬ n < 0 by omega, show 0 ≤ n by omega]) hj1
    · simp -implicitDefEqProofs only [decide_eq_false v, Bool.false_eq_true, if_false]
      simp only [if_neg v, if_neg (show ¬ (valid l ∧ 1 ≤ pages) from fun h => v h.1)]
      exact ev_now (fun k => by simp)

theorem AreaFinds : paviorlaw09_AreaFinds.Pure := fun l p pages _ _ _ h => Ev.rounds (area_finds l p pages (wf_i64.mp h).2)

end Go.Proofs.Ytlmjjkggoemabab.Pure
