/- Layer 9 in plain words: lists of areas, what each page has, lists that are laid, cut and joined; two lists that may be and say the same of every page are one. -/
import Derived.Test.YtlmjjkggoemababQx0
namespace Go.Proofs.Ytlmjjkggoemabab.AreaLib
open Go.RowKit Go.Proofs.YtlmjjkggoemababW.PrintWords Go.Proofs.Ytlmjjkggoemabab.Q
set_option linter.unusedVariables false
set_option linter.unusedSimpArgs false

abbrev At := Bool × Bool × Bool
def attr (x : S32) : At := (x.f2.f0, x.f2.f1, x.f3)
theorem ext32 {x y : S32} (h0 : x.f0 = y.f0) (h1 : x.f1 = y.f1) (h2 : attr x = attr y) : x = y := by
  obtain ⟨x0, x1, ⟨x2, x3⟩, x4⟩ := x
  obtain ⟨y0, y1, ⟨y2, y3⟩, y4⟩ := y
  simp only [attr, Prod.mk.injEq] at h0 h1 h2
  obtain ⟨a, b, c⟩ := h2
  subst h0; subst h1; subst a; subst b; subst c
  rfl
/-- what a page has -/
def at_ : List S32 → Int → Option At
  | [], _ => none
  | x :: l, p => if x.f0 ≤ p ∧ p < x.f1 then some (attr x) else at_ l p
/-- from q on up to e, one behind the other -/
def lies : Int → List S32 → Int → Prop
  | q, [], e => q ≤ e
  | q, x :: l, e => q ≤ x.f0 ∧ x.f0 < x.f1 ∧ lies x.f1 l e
def touch (y x : S32) : Prop := y.f1 = x.f0 ∧ attr y = attr x
instance (y x : S32) : Decidable (touch y x) := by unfold touch; infer_instance
/-- no two neighbours touch and are alike -/
def apart : List S32 → Prop
  | [] => True
  | [_] => True
  | y :: x :: l => ¬ touch y x ∧ apart (x :: l)
instance lies_dec : ∀ (q : Int) (l : List S32) (e : Int), Decidable (lies q l e)
  | q, [], e => by unfold lies; infer_instance
  | q, x :: l, e => by
    unfold lies
    have := lies_dec x.f1 l e
    infer_instance
instance apart_dec : ∀ l : List S32, Decidable (apart l)
  | [] => by unfold apart; infer_instance
  | [_] => by unfold apart; infer_instance
  | y :: x :: l => by
    unfold apart
    have := apart_dec (x :: l)
    infer_instance
def canon (l : List S32) : Prop := lies 0 l 4096 ∧ apart l
instance (l : List S32) : Decidable (canon l) := by unfold canon; infer_instance
def valid (l : List S32) : Prop := canon l ∧ l.length ≤ 64
instance (l : List S32) : Decidable (valid l) := by unfold valid; infer_instance
def spanP (a b : Int) : Prop := 0 ≤ a ∧ a < b ∧ b ≤ 4096
instance (a b : Int) : Decidable (spanP a b) := by unfold spanP; infer_instance

theorem lies_le : ∀ {l : List S32} {q e : Int}, lies q l e → q ≤ e
  | [], _, _, h => h
  | x :: l, _, _, h => by
    have := lies_le h.2.2
    have := h.1
    have := h.2.1
    omega
theorem lies_q {l : List S32} {q q' e : Int} (hq : q' ≤ q) (h : lies q l e) : lies q' l e := by
  cases l with
  | nil => exact Int.le_trans hq h
  | cons x l => exact ⟨Int.le_trans hq h.1, h.2⟩
theorem lies_e : ∀ {l : List S32} {q e e' : Int}, e ≤ e' → lies q l e → lies q l e'
  | [], _, _, _, he, h => Int.le_trans h he
  | x :: l, _, _, _, he, h => ⟨h.1, h.2.1, lies_e he h.2.2⟩
theorem lies_app : ∀ {l m : List S32} {q e e' : Int}, lies q l e → lies e m e' → lies q (l ++ m) e'
  | [], m, _, _, _, h, h' => lies_q h h'
  | x :: l, m, _, _, _, h, h' => ⟨h.1, h.2.1, lies_app h.2.2 h'⟩
theorem at_lt : ∀ {l : List S32} {q e p : Int}, lies q l e → p < q → at_ l p = none
  | [], _, _, _, _, _ => rfl
  | x :: l, q, e, p, h, hp => by
    have := h.1
    have := h.2.1
    rw [at_, if_neg (by omega)]
    exact at_lt h.2.2 (by omega)
theorem at_ge : ∀ {l : List S32} {q e p : Int}, lies q l e → e ≤ p → at_ l p = none
  | [], _, _, _, _, _ => rfl
  | x :: l, q, e, p, h, hp => by
    have := lies_le h.2.2
    rw [at_, if_neg (by omega)]
    exact at_ge h.2.2 hp
theorem at_app : ∀ (l m : List S32) (p : Int), at_ (l ++ m) p = (at_ l p).or (at_ m p)
  | [], m, p => by simp [at_]
  | x :: l, m, p => by
    rw [List.cons_append, at_, at_]
    split
    · rfl
    · exact at_app l m p

/-! ### joined -/
def jn : S32 → List S32 → List S32
  | y, [] => [y]
  | y, x :: l => if touch y x then jn ⟨y.f0, x.f1, y.f2, y.f3⟩ l else y :: jn x l
theorem jn_lies : ∀ {l : List S32} {y : S32} {q e : Int}, lies q (y :: l) e → lies q (jn y l) e
  | [], y, q, e, h => h
  | x :: l, y, q, e, h => by
    obtain ⟨h1, h2, h3, h4, h5⟩ := h
    rw [jn]
    by_cases t : touch y x
    · rw [if_pos t]
      have := t.1
      exact jn_lies ⟨h1, by show y.f0 < x.f1; omega, h5⟩
    · rw [if_neg t]
      exact ⟨h1, h2, jn_lies ⟨h3, h4, h5⟩⟩
theorem jn_head : ∀ (l : List S32) (y : S32), ∃ (f : Int) (t : List S32), jn y l = ⟨y.f0, f, y.f2, y.f3⟩ :: t
  | [], y => ⟨y.f1, [], rfl⟩
  | x :: l, y => by
    rw [jn]
    by_cases t : touch y x
    · rw [if_pos t]
      exact jn_head l ⟨y.f0, x.f1, y.f2, y.f3⟩
    · rw [if_neg t]
      exact ⟨y.f1, jn x l, rfl⟩
theorem jn_apart : ∀ (l : List S32) (y : S32), apart (jn y l)
  | [], y => trivial
  | x :: l, y => by
    rw [jn]
    by_cases t : touch y x
    · rw [if_pos t]
      exact jn_apart l _
    · rw [if_neg t]
      have h := jn_apart l x
      obtain ⟨f, r, hr⟩ := jn_head l x
      rw [hr] at h ⊢
      exact ⟨t, h⟩
theorem jn_at : ∀ (l : List S32) (y : S32) (q e : Int), lies q (y :: l) e → ∀ p, at_ (jn y l) p = at_ (y :: l) p
  | [], y, q, e, h, p => rfl
  | x :: l, y, q, e, h, p => by
    obtain ⟨h1, h2, h3, h4, h5⟩ := h
    rw [jn]
    by_cases t : touch y x
    · rw [if_pos t]
      have ht := t.1
      have ha := t.2
      rw [jn_at l ⟨y.f0, x.f1, y.f2, y.f3⟩ q e ⟨h1, by show y.f0 < x.f1; omega, h5⟩ p]
      simp only [at_]
      have e1 : attr (⟨y.f0, x.f1, y.f2, y.f3⟩ : S32) = attr y := rfl
      rw [e1]
      by_cases c1 : y.f0 ≤ p ∧ p < y.f1
      · rw [if_pos c1, if_pos (by omega)]
      · rw [if_neg c1]
        by_cases c2 : x.f0 ≤ p ∧ p < x.f1
        · rw [if_pos c2, if_pos (by omega), ha]
        · rw [if_neg c2, if_neg (by omega)]
    · rw [if_neg t, at_, at_, jn_at l x y.f1 e ⟨h3, h4, h5⟩ p]
def join : List S32 → List S32
  | [] => []
  | x :: l => jn x l
theorem join_lies {l : List S32} {q e : Int} (h : lies q l e) : lies q (join l) e := by
  cases l with
  | nil => exact h
  | cons x l => exact jn_lies h
theorem join_apart (l : List S32) : apart (join l) := by
  cases l with
  | nil => exact trivial
  | cons x l => exact jn_apart l x
theorem join_at {l : List S32} {q e : Int} (h : lies q l e) (p : Int) : at_ (join l) p = at_ l p := by
  cases l with
  | nil => rfl
  | cons x l => exact jn_at l x q e h p

/-! ### two lists that say the same -/
theorem apart_tail {x : S32} {l : List S32} (h : apart (x :: l)) : apart l := by
  cases l with
  | nil => exact trivial
  | cons y l => exact h.2
/-- where an area ends, the list says no more the same -/
theorem at_end {x : S32} {l : List S32} {e : Int} (h : lies x.f1 l e) (ha : apart (x :: l)) : at_ l x.f1 ≠ some (attr x) := by
  cases l with
  | nil => simp [at_]
  | cons y l =>
    obtain ⟨h1, h2, h3⟩ := h
    rw [at_]
    by_cases c : y.f0 ≤ x.f1 ∧ x.f1 < y.f1
    · rw [if_pos c]
      intro he
      exact ha.1 ⟨by omega, (Option.some.inj he).symm⟩
    · rw [if_neg c, at_lt h3 (by omega)]
      simp
theorem uniq : ∀ (l m : List S32) (q q' e e' : Int), lies q l e → apart l → lies q' m e' → apart m → (∀ p, at_ l p = at_ m p) → l = m
  | [], [], _, _, _, _, _, _, _, _, _ => rfl
  | [], y :: m, _, _, _, _, _, _, h', _, h => by
    have := h y.f0
    obtain ⟨h1, h2, h3⟩ := h'
    rw [at_, at_, if_pos ⟨Int.le_refl _, h2⟩] at this
    cases this
  | x :: l, [], _, _, _, _, hl, _, _, _, h => by
    have := h x.f0
    obtain ⟨h1, h2, h3⟩ := hl
    rw [at_, at_, if_pos ⟨Int.le_refl _, h2⟩] at this
    cases this
  | x :: l, y :: m, q, q', e, e', hl, al, hm, am, h => by
    obtain ⟨l1, l2, l3⟩ := hl
    obtain ⟨m1, m2, m3⟩ := hm
    have hx := h x.f0
    have hy := h y.f0
    have e0 : x.f0 = y.f0 := by
      rcases Int.lt_trichotomy x.f0 y.f0 with c | c | c
      · rw [at_, if_pos ⟨Int.le_refl _, l2⟩, at_lt (l := y :: m) (q := y.f0) (e := e') ⟨Int.le_refl _, m2, m3⟩ c] at hx
        cases hx
      · exact c
      · rw [at_lt (l := x :: l) (q := x.f0) (e := e) ⟨Int.le_refl _, l2, l3⟩ c, at_, if_pos ⟨Int.le_refl _, m2⟩] at hy
        cases hy
    have ea : attr x = attr y := by
      rw [at_, if_pos ⟨Int.le_refl _, l2⟩, at_, if_pos (by omega)] at hx
      exact Option.some.inj hx
    have e1 : x.f1 = y.f1 := by
      rcases Int.lt_trichotomy x.f1 y.f1 with c | c | c
      · have h1 := h x.f1
        rw [at_, if_neg (by omega), at_, if_pos (by omega), ← ea] at h1
        exact absurd h1 (at_end l3 al)
      · exact c
      · have h1 := h y.f1
        rw [at_, if_pos (by omega), at_, if_neg (by omega), ea] at h1
        exact absurd h1.symm (at_end m3 am)
    have et : x = y := ext32 e0 e1 ea
    have ht : l = m := by
      refine uniq l m x.f1 y.f1 e e' l3 (apart_tail al) m3 (apart_tail am) (fun p => ?_)
      by_cases c : p < x.f1
      · rw [at_lt l3 c, at_lt m3 (by omega)]
      · have h1 := h p
        rw [at_, if_neg (by omega), at_, if_neg (by omega)] at h1
        exact h1
    rw [et, ht]
theorem canon_uniq {l m : List S32} (hl : canon l) (hm : canon m) (h : ∀ p, 0 ≤ p → p < 4096 → at_ l p = at_ m p) : l = m :=
  uniq l m 0 0 4096 4096 hl.1 hl.2 hm.1 hm.2 (fun p => by
    by_cases c : p < 0
    · rw [at_lt hl.1 c, at_lt hm.1 c]
    · by_cases c' : 4096 ≤ p
      · rw [at_ge hl.1 c', at_ge hm.1 c']
      · exact h p (by omega) (by omega))

/-! ### parts -/
def clip (x y : Int) (a : S32) : Option S32 := if mx a.f0 x < mn a.f1 y then some ⟨mx a.f0 x, mn a.f1 y, a.f2, a.f3⟩ else none
def cut (x y : Int) (l : List S32) : List S32 := l.filterMap (clip x y)
theorem cut_cons (x y : Int) (a : S32) (l : List S32) : cut x y (a :: l) = if mx a.f0 x < mn a.f1 y then ⟨mx a.f0 x, mn a.f1 y, a.f2, a.f3⟩ :: cut x y l else cut x y l := by
  unfold cut
  rw [List.filterMap_cons]
  unfold clip
  by_cases c : mx a.f0 x < mn a.f1 y
  · rw [if_pos c, if_pos c]
  · rw [if_neg c, if_neg c]
theorem mx_eq (a b : Int) : mx a b = max a b := by unfold mx; split <;> omega
theorem mn_eq (a b : Int) : mn a b = min a b := by unfold mn; split <;> omega
theorem lies_cut (x y : Int) : ∀ (l : List S32) (q e c : Int), lies q l e → c ≤ y → c ≤ max q x → lies c (cut x y l) y
  | [], q, e, c, _, hc, _ => hc
  | a :: l, q, e, c, h, hc, hq => by
    obtain ⟨h1, h2, h3⟩ := h
    rw [cut_cons, mx_eq, mn_eq]
    by_cases t : max a.f0 x < min a.f1 y
    · rw [if_pos t]
      exact ⟨by show c ≤ max a.f0 x; omega, t, lies_cut x y l a.f1 e _ h3 (by show min a.f1 y ≤ y; omega) (by show min a.f1 y ≤ max a.f1 x; omega)⟩
    · rw [if_neg t]
      exact lies_cut x y l a.f1 e c h3 hc (by omega)
theorem at_cut (x y : Int) (p : Int) : ∀ l : List S32, at_ (cut x y l) p = if x ≤ p ∧ p < y then at_ l p else none
  | [] => by simp [cut, at_]
  | a :: l => by
    rw [cut_cons, mx_eq, mn_eq]
    have ih := at_cut x y p l
    by_cases t : max a.f0 x < min a.f1 y
    · rw [if_pos t, at_]
      have e1 : attr (⟨max a.f0 x, min a.f1 y, a.f2, a.f3⟩ : S32) = attr a := rfl
      rw [e1, ih]
      by_cases c : x ≤ p ∧ p < y
      · rw [if_pos c, if_pos c, at_]
        by_cases d : a.f0 ≤ p ∧ p < a.f1
        · rw [if_pos d, if_pos (by show max a.f0 x ≤ p ∧ p < min a.f1 y; omega)]
        · rw [if_neg d, if_neg (by show ¬ (max a.f0 x ≤ p ∧ p < min a.f1 y); omega)]
      · rw [if_neg c, if_neg c, if_neg (by show ¬ (max a.f0 x ≤ p ∧ p < min a.f1 y); omega)]
    · rw [if_neg t, ih]
      by_cases c : x ≤ p ∧ p < y
      · rw [if_pos c, if_pos c, at_, if_neg (by omega)]
      · rw [if_neg c, if_neg c]

/-! ### laid over, cut out -/
def layL (l : List S32) (a : S32) : List S32 := join (cut 0 a.f0 l ++ a :: cut a.f1 4096 l)
def cutL (l : List S32) (f t : Int) : List S32 := join (cut 0 f l ++ cut t 4096 l)
theorem lay_lies {l : List S32} {a : S32} (hl : lies 0 l 4096) (ha : spanP a.f0 a.f1) : lies 0 (cut 0 a.f0 l ++ a :: cut a.f1 4096 l) 4096 := by
  obtain ⟨a1, a2, a3⟩ := ha
  exact lies_app (lies_cut 0 a.f0 l 0 4096 0 hl a1 (by omega)) ⟨Int.le_refl _, a2, lies_cut a.f1 4096 l 0 4096 a.f1 hl a3 (by omega)⟩
theorem cut_lies {l : List S32} {f t : Int} (hl : lies 0 l 4096) (ha : spanP f t) : lies 0 (cut 0 f l ++ cut t 4096 l) 4096 := by
  obtain ⟨a1, a2, a3⟩ := ha
  exact lies_app (lies_cut 0 f l 0 4096 0 hl a1 (by omega)) (lies_q (Int.le_of_lt a2) (lies_cut t 4096 l 0 4096 t hl a3 (by omega)))
theorem lay_canon {l : List S32} {a : S32} (hl : canon l) (ha : spanP a.f0 a.f1) : canon (layL l a) := ⟨join_lies (lay_lies hl.1 ha), join_apart _⟩
theorem cut_canon {l : List S32} {f t : Int} (hl : canon l) (ha : spanP f t) : canon (cutL l f t) := ⟨join_lies (cut_lies hl.1 ha), join_apart _⟩
theorem lay_at {l : List S32} {a : S32} (hl : canon l) (ha : spanP a.f0 a.f1) (p : Int) : at_ (layL l a) p = if a.f0 ≤ p ∧ p < a.f1 then some (attr a) else at_ l p := by
  have hla := lay_lies hl.1 ha
  obtain ⟨a1, a2, a3⟩ := ha
  unfold layL
  rw [join_at hla, at_app, at_cut, at_, at_cut]
  by_cases c1 : p < 0
  · rw [at_lt hl.1 c1, if_neg (by omega), if_neg (by omega), if_neg (by omega), if_neg (by omega)]
    rfl
  by_cases c2 : 4096 ≤ p
  · rw [at_ge hl.1 c2, if_neg (by omega), if_neg (by omega), if_neg (by omega), if_neg (by omega)]
    rfl
  by_cases c3 : p < a.f0
  · rw [if_pos (by omega), if_neg (by omega), if_neg (by omega), if_neg (by omega)]
    cases at_ l p <;> rfl
  by_cases c4 : p < a.f1
  · rw [if_neg (by omega), if_pos (by omega), if_pos (by omega)]
    rfl
  · rw [if_neg (by omega), if_neg (by omega), if_pos (by omega), if_neg (by omega)]
    rfl
theorem cutl_at {l : List S32} {f t : Int} (hl : canon l) (ha : spanP f t) (p : Int) : at_ (cutL l f t) p = if f ≤ p ∧ p < t then none else at_ l p := by
  have hla := cut_lies hl.1 ha
  obtain ⟨a1, a2, a3⟩ := ha
  unfold cutL
  rw [join_at hla, at_app, at_cut, at_cut]
  by_cases c1 : p < 0
  · rw [at_lt hl.1 c1, if_neg (by omega), if_neg (by omega), if_neg (by omega)]
    rfl
  by_cases c2 : 4096 ≤ p
  · rw [at_ge hl.1 c2, if_neg (by omega), if_neg (by omega), if_neg (by omega)]
    rfl
  by_cases c3 : p < f
  · rw [if_pos (by omega), if_neg (by omega), if_neg (by omega)]
    cases at_ l p <;> rfl
  by_cases c4 : p < t
  · rw [if_neg (by omega), if_neg (by omega), if_pos (by omega)]
    rfl
  · rw [if_neg (by omega), if_pos (by omega), if_neg (by omega)]
    rfl
end Go.Proofs.Ytlmjjkggoemabab.AreaLib
