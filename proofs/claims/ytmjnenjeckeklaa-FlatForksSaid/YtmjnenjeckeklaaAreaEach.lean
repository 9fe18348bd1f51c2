import Derived.Test.YtmjnenjeckeklaaQx0
import Derived.Test.YtmjnenjeckeklaaBits
import Derived.Test.YtmjnenjeckeklaaQx8
import Derived.Test.YtmjnenjeckeklaaQx11
import Derived.Test.YtmjnenjeckeklaaQx6
import Derived.Test.YtmjnenjeckeklaaQx10
set_option linter.unusedVariables false
set_option linter.unusedSimpArgs false
namespace Go.Proofs.Ytmjnenjeckeklaa.AreaLib
open Go.RowKit Go.Proofs.YtmjnenjeckeklaaW.PrintWords Go.Proofs.Ytmjnenjeckeklaa.Q
abbrev At := Bool × Bool × Bool
def attr (x : S59) : At := (x.f2.f0, x.f2.f1, x.f3)
theorem ext32 {x y : S59} (h0 : x.f0 = y.f0) (h1 : x.f1 = y.f1) (h2 : attr x = attr y) : x = y := by
 obtain ⟨x0, x1, ⟨x2, x3⟩, x4⟩ := x; obtain ⟨y0, y1, ⟨y2, y3⟩, y4⟩ := y; simp only [attr, Prod.mk.injEq] at h0 h1 h2; obtain ⟨a, b, c⟩ := h2; subst h0; subst h1; subst a; subst b; subst c; rfl
def at_ : List S59 → Int → Option At
  | [], _ => none
  | x :: l, p => if x.f0 ≤ p ∧ p < x.f1 then some (attr x) else at_ l p
def lies : Int → List S59 → Int → Prop
  | q, [], e => q ≤ e
  | q, x :: l, e => q ≤ x.f0 ∧ x.f0 < x.f1 ∧ lies x.f1 l e
def touch (y x : S59) : Prop := y.f1 = x.f0 ∧ attr y = attr x
instance (y x : S59) : Decidable (touch y x) := by unfold touch; infer_instance
def apart : List S59 → Prop
  | [] => True
  | [_] => True
  | y :: x :: l => ¬ touch y x ∧ apart (x :: l)
instance lies_dec : ∀ (q : Int) (l : List S59) (e : Int), Decidable (lies q l e)
  | q, [], e => by unfold lies; infer_instance
  | q, x :: l, e => by
    unfold lies
    have := lies_dec x.f1 l e
    infer_instance
instance apart_dec : ∀ l : List S59, Decidable (apart l)
  | [] => by unfold apart; infer_instance
  | [_] => by unfold apart; infer_instance
  | y :: x :: l => by
    unfold apart
    have := apart_dec (x :: l)
    infer_instance
def canon (l : List S59) : Prop := lies 0 l 4096 ∧ apart l
instance (l : List S59) : Decidable (canon l) := by unfold canon; infer_instance
def valid (l : List S59) : Prop := canon l ∧ l.length ≤ 64
instance (l : List S59) : Decidable (valid l) := by unfold valid; infer_instance
def spanP (a b : Int) : Prop := 0 ≤ a ∧ a < b ∧ b ≤ 4096
instance (a b : Int) : Decidable (spanP a b) := by unfold spanP; infer_instance
theorem lies_le : ∀ {l : List S59} {q e : Int}, lies q l e → q ≤ e
  | [], _, _, h => h
  | x :: l, _, _, h => by
    have := lies_le h.2.2
    have := h.1
    have := h.2.1
    omega
theorem lies_q {l : List S59} {q q' e : Int} (hq : q' ≤ q) (h : lies q l e) : lies q' l e := by
 cases l with
 | nil => exact Int.le_trans hq h
 | cons x l => exact ⟨Int.le_trans hq h.1, h.2⟩
theorem lies_e : ∀ {l : List S59} {q e e' : Int}, e ≤ e' → lies q l e → lies q l e'
  | [], _, _, _, he, h => Int.le_trans h he
  | x :: l, _, _, _, he, h => ⟨h.1, h.2.1, lies_e he h.2.2⟩
theorem lies_app : ∀ {l m : List S59} {q e e' : Int}, lies q l e → lies e m e' → lies q (l ++ m) e'
  | [], m, _, _, _, h, h' => lies_q h h'
  | x :: l, m, _, _, _, h, h' => ⟨h.1, h.2.1, lies_app h.2.2 h'⟩
theorem at_lt : ∀ {l : List S59} {q e p : Int}, lies q l e → p < q → at_ l p = none
  | [], _, _, _, _, _ => rfl
  | x :: l, q, e, p, h, hp => by
    have := h.1
    have := h.2.1
    rw [at_, if_neg (by omega)]
    exact at_lt h.2.2 (by omega)
theorem at_ge : ∀ {l : List S59} {q e p : Int}, lies q l e → e ≤ p → at_ l p = none
  | [], _, _, _, _, _ => rfl
  | x :: l, q, e, p, h, hp => by
    have := lies_le h.2.2
    rw [at_, if_neg (by omega)]
    exact at_ge h.2.2 hp
theorem at_app : ∀ (l m : List S59) (p : Int), at_ (l ++ m) p = (at_ l p).or (at_ m p)
  | [], m, p => by simp [at_]
  | x :: l, m, p => by
    rw [List.cons_append, at_, at_]
    split
    · rfl
    · exact at_app l m p
def jn : S59 → List S59 → List S59
  | y, [] => [y]
  | y, x :: l => if touch y x then jn ⟨y.f0, x.f1, y.f2, y.f3⟩ l else y :: jn x l
theorem jn_lies : ∀ {l : List S59} {y : S59} {q e : Int}, lies q (y :: l) e → lies q (jn y l) e
  | [], y, q, e, h => h
  | x :: l, y, q, e, h => by
    obtain ⟨h1, h2, h3, h4, h5⟩ := h
    rw [jn]
    by_cases t : touch y x
    · rw [if_pos t]
      have := t.1
      exact jn_lies ⟨h1, by show y.f0 < x.f1; omega, h5⟩
    · rw [if_neg t]
      exact ⟨h1, h2, jn_lies ⟨h3, h4, h5⟩⟩
theorem jn_head : ∀ (l : List S59) (y : S59), ∃ (f : Int) (t : List S59), jn y l = ⟨y.f0, f, y.f2, y.f3⟩ :: t
  | [], y => ⟨y.f1, [], rfl⟩
  | x :: l, y => by
    rw [jn]
    by_cases t : touch y x
    · rw [if_pos t]
      exact jn_head l ⟨y.f0, x.f1, y.f2, y.f3⟩
    · rw [if_neg t]
      exact ⟨y.f1, jn x l, rfl⟩
theorem jn_apart : ∀ (l : List S59) (y : S59), apart (jn y l)
  | [], y => trivial
  | x :: l, y => by
    rw [jn]
    by_cases t : touch y x
    · rw [if_pos t]
      exact jn_apart l _
    · rw [if_neg t]
      have h := jn_apart l x
      obtain ⟨f, r, hr⟩ := jn_head l x
      rw [hr] at h ⊢
      exact ⟨t, h⟩
theorem jn_at : ∀ (l : List S59) (y : S59) (q e : Int), lies q (y :: l) e → ∀ p, at_ (jn y l) p = at_ (y :: l) p
  | [], y, q, e, h, p => rfl
  | x :: l, y, q, e, h, p => by
    obtain ⟨h1, h2, h3, h4, h5⟩ := h
    rw [jn]
    by_cases t : touch y x
    · rw [if_pos t]
      have ht := t.1
      have ha := t.2
      rw [jn_at l ⟨y.f0, x.f1, y.f2, y.f3⟩ q e ⟨h1, by show y.f0 < x.f1; omega, h5⟩ p]
      simp only [at_]
      have e1 : attr (⟨y.f0, x.f1, y.f2, y.f3⟩ : S59) = attr y := rfl
      rw [e1]
      by_cases c1 : y.f0 ≤ p ∧ p < y.f1
      · rw [if_pos c1, if_pos (by omega)]
      · rw [if_neg c1]
        by_cases c2 : x.f0 ≤ p ∧ p < x.f1
        · rw [if_pos c2, if_pos (by omega), ha]
        · rw [if_neg c2, if_neg (by omega)]
    · rw [if_neg t, at_, at_, jn_at l x y.f1 e ⟨h3, h4, h5⟩ p]
def join : List S59 → List S59
  | [] => []
  | x :: l => jn x l
theorem join_lies {l : List S59} {q e : Int} (h : lies q l e) : lies q (join l) e := by
 cases l with
 | nil => exact h
 | cons x l => exact jn_lies h
theorem join_apart (l : List S59) : apart (join l) := by
 cases l with
 | nil => exact trivial
 | cons x l => exact jn_apart l x
theorem join_at {l : List S59} {q e : Int} (h : lies q l e) (p : Int) : at_ (join l) p = at_ l p := by
 cases l with
 | nil => rfl
 | cons x l => exact jn_at l x q e h p
theorem apart_tail {x : S59} {l : List S59} (h : apart (x :: l)) : apart l := by
 cases l with
 | nil => exact trivial
 | cons y l => exact h.2
theorem at_end {x : S59} {l : List S59} {e : Int} (h : lies x.f1 l e) (ha : apart (x :: l)) : at_ l x.f1 ≠ some (attr x) := by
 cases l with
 | nil => simp [at_]
 | cons y l =>
  obtain ⟨h1, h2, h3⟩ := h; rw [at_]; by_cases c : y.f0 ≤ x.f1 ∧ x.f1 < y.f1
  · rw [if_pos c]; intro he; exact ha.1 ⟨by omega, (Option.some.inj he).symm⟩
  · rw [if_neg c, at_lt h3 (by omega)]; simp
theorem uniq : ∀ (l m : List S59) (q q' e e' : Int), lies q l e → apart l → lies q' m e' → apart m → (∀ p, at_ l p = at_ m p) → l = m
  | [], [], _, _, _, _, _, _, _, _, _ => rfl
  | [], y :: m, _, _, _, _, _, _, h', _, h => by
    have := h y.f0
    obtain ⟨h1, h2, h3⟩ := h'
    rw [at_, at_, if_pos ⟨Int.le_refl _, h2⟩] at this
    cases this
  | x :: l, [], _, _, _, _, hl, _, _, _, h => by
    have := h x.f0
    obtain ⟨h1, h2, h3⟩ := hl
    rw [at_, at_, if_pos ⟨Int.le_refl _, h2⟩] at this
    cases this
  | x :: l, y :: m, q, q', e, e', hl, al, hm, am, h => by
    obtain ⟨l1, l2, l3⟩ := hl
    obtain ⟨m1, m2, m3⟩ := hm
    have hx := h x.f0
    have hy := h y.f0
    have e0 : x.f0 = y.f0 := by
     rcases Int.lt_trichotomy x.f0 y.f0 with c | c | c
     · rw [at_, if_pos ⟨Int.le_refl _, l2⟩, at_lt (l := y :: m) (q := y.f0) (e := e') ⟨Int.le_refl _, m2, m3⟩ c] at hx; cases hx
     · exact c
     · rw [at_lt (l := x :: l) (q := x.f0) (e := e) ⟨Int.le_refl _, l2, l3⟩ c, at_, if_pos ⟨Int.le_refl _, m2⟩] at hy; cases hy
    have ea : attr x = attr y := by
     rw [at_, if_pos ⟨Int.le_refl _, l2⟩, at_, if_pos (by omega)] at hx; exact Option.some.inj hx
    have e1 : x.f1 = y.f1 := by
     rcases Int.lt_trichotomy x.f1 y.f1 with c | c | c
     · have h1 := h x.f1; rw [at_, if_neg (by omega), at_, if_pos (by omega), ← ea] at h1; exact absurd h1 (at_end l3 al)
     · exact c
     · have h1 := h y.f1; rw [at_, if_pos (by omega), at_, if_neg (by omega), ea] at h1; exact absurd h1.symm (at_end m3 am)
    have et : x = y := ext32 e0 e1 ea
    have ht : l = m := by
     refine uniq l m x.f1 y.f1 e e' l3 (apart_tail al) m3 (apart_tail am) (fun p => ?_); by_cases c : p < x.f1
     · rw [at_lt l3 c, at_lt m3 (by omega)]
     · have h1 := h p; rw [at_, if_neg (by omega), at_, if_neg (by omega)] at h1; exact h1
    rw [et, ht]
theorem canon_uniq {l m : List S59} (hl : canon l) (hm : canon m) (h : ∀ p, 0 ≤ p → p < 4096 → at_ l p = at_ m p) : l = m :=
  uniq l m 0 0 4096 4096 hl.1 hl.2 hm.1 hm.2 (fun p => by
    by_cases c : p < 0
    · rw [at_lt hl.1 c, at_lt hm.1 c]
    · by_cases c' : 4096 ≤ p
      · rw [at_ge hl.1 c', at_ge hm.1 c']
      · exact h p (by omega) (by omega))
def clip (x y : Int) (a : S59) : Option S59 := if mx a.f0 x < mn a.f1 y then some ⟨mx a.f0 x, mn a.f1 y, a.f2, a.f3⟩ else none
def cut (x y : Int) (l : List S59) : List S59 := l.filterMap (clip x y)
theorem cut_cons (x y : Int) (a : S59) (l : List S59) : cut x y (a :: l) = if mx a.f0 x < mn a.f1 y then ⟨mx a.f0 x, mn a.f1 y, a.f2, a.f3⟩ :: cut x y l else cut x y l := by
 unfold cut; rw [List.filterMap_cons]; unfold clip; by_cases c : mx a.f0 x < mn a.f1 y
 · rw [if_pos c, if_pos c]
 · rw [if_neg c, if_neg c]
theorem mx_eq (a b : Int) : mx a b = max a b := by unfold mx; split <;> omega
theorem mn_eq (a b : Int) : mn a b = min a b := by unfold mn; split <;> omega
theorem lies_cut (x y : Int) : ∀ (l : List S59) (q e c : Int), lies q l e → c ≤ y → c ≤ max q x → lies c (cut x y l) y
  | [], q, e, c, _, hc, _ => hc
  | a :: l, q, e, c, h, hc, hq => by
    obtain ⟨h1, h2, h3⟩ := h
    rw [cut_cons, mx_eq, mn_eq]
    by_cases t : max a.f0 x < min a.f1 y
    · rw [if_pos t]
      exact ⟨by show c ≤ max a.f0 x; omega, t, lies_cut x y l a.f1 e _ h3 (by show min a.f1 y ≤ y; omega) (by show min a.f1 y ≤ max a.f1 x; omega)⟩
    · rw [if_neg t]
      exact lies_cut x y l a.f1 e c h3 hc (by omega)
theorem at_cut (x y : Int) (p : Int) : ∀ l : List S59, at_ (cut x y l) p = if x ≤ p ∧ p < y then at_ l p else none
  | [] => by simp [cut, at_]
  | a :: l => by
    rw [cut_cons, mx_eq, mn_eq]
    have ih := at_cut x y p l
    by_cases t : max a.f0 x < min a.f1 y
    · rw [if_pos t, at_]
      have e1 : attr (⟨max a.f0 x, min a.f1 y, a.f2, a.f3⟩ : S59) = attr a := rfl
      rw [e1, ih]
      by_cases c : x ≤ p ∧ p < y
      · rw [if_pos c, if_pos c, at_]
        by_cases d : a.f0 ≤ p ∧ p < a.f1
        · rw [if_pos d, if_pos (by show max a.f0 x ≤ p ∧ p < min a.f1 y; omega)]
        · rw [if_neg d, if_neg (by show ¬ (max a.f0 x ≤ p ∧ p < min a.f1 y); omega)]
      · rw [if_neg c, if_neg c, if_neg (by show ¬ (max a.f0 x ≤ p ∧ p < min a.f1 y); omega)]
    · rw [if_neg t, ih]
      by_cases c : x ≤ p ∧ p < y
      · rw [if_pos c, if_pos c, at_, if_neg (by omega)]
      · rw [if_neg c, if_neg c]
def layL (l : List S59) (a : S59) : List S59 := join (cut 0 a.f0 l ++ a :: cut a.f1 4096 l)
def cutL (l : List S59) (f t : Int) : List S59 := join (cut 0 f l ++ cut t 4096 l)
theorem lay_lies {l : List S59} {a : S59} (hl : lies 0 l 4096) (ha : spanP a.f0 a.f1) : lies 0 (cut 0 a.f0 l ++ a :: cut a.f1 4096 l) 4096 := by
 obtain ⟨a1, a2, a3⟩ := ha; exact lies_app (lies_cut 0 a.f0 l 0 4096 0 hl a1 (by omega)) ⟨Int.le_refl _, a2, lies_cut a.f1 4096 l 0 4096 a.f1 hl a3 (by omega)⟩
theorem cut_lies {l : List S59} {f t : Int} (hl : lies 0 l 4096) (ha : spanP f t) : lies 0 (cut 0 f l ++ cut t 4096 l) 4096 := by
 obtain ⟨a1, a2, a3⟩ := ha; exact lies_app (lies_cut 0 f l 0 4096 0 hl a1 (by omega)) (lies_q (Int.le_of_lt a2) (lies_cut t 4096 l 0 4096 t hl a3 (by omega)))
theorem lay_canon {l : List S59} {a : S59} (hl : canon l) (ha : spanP a.f0 a.f1) : canon (layL l a) := ⟨join_lies (lay_lies hl.1 ha), join_apart _⟩
theorem cut_canon {l : List S59} {f t : Int} (hl : canon l) (ha : spanP f t) : canon (cutL l f t) := ⟨join_lies (cut_lies hl.1 ha), join_apart _⟩
theorem lay_at {l : List S59} {a : S59} (hl : canon l) (ha : spanP a.f0 a.f1) (p : Int) : at_ (layL l a) p = if a.f0 ≤ p ∧ p < a.f1 then some (attr a) else at_ l p := by
 have hla := lay_lies hl.1 ha; obtain ⟨a1, a2, a3⟩ := ha; unfold layL; rw [join_at hla, at_app, at_cut, at_, at_cut]; by_cases c1 : p < 0
 · rw [at_lt hl.1 c1, if_neg (by omega), if_neg (by omega), if_neg (by omega), if_neg (by omega)]; rfl
 by_cases c2 : 4096 ≤ p
 · rw [at_ge hl.1 c2, if_neg (by omega), if_neg (by omega), if_neg (by omega), if_neg (by omega)]; rfl
 by_cases c3 : p < a.f0
 · rw [if_pos (by omega), if_neg (by omega), if_neg (by omega), if_neg (by omega)]; cases at_ l p <;> rfl
 by_cases c4 : p < a.f1
 · rw [if_neg (by omega), if_pos (by omega), if_pos (by omega)]; rfl
 · rw [if_neg (by omega), if_neg (by omega), if_pos (by omega), if_neg (by omega)]; rfl
theorem cutl_at {l : List S59} {f t : Int} (hl : canon l) (ha : spanP f t) (p : Int) : at_ (cutL l f t) p = if f ≤ p ∧ p < t then none else at_ l p := by
 have hla := cut_lies hl.1 ha; obtain ⟨a1, a2, a3⟩ := ha; unfold cutL; rw [join_at hla, at_app, at_cut, at_cut]; by_cases c1 : p < 0
 · rw [at_lt hl.1 c1, if_neg (by omega), if_neg (by omega), if_neg (by omega)]; rfl
 by_cases c2 : 4096 ≤ p
 · rw [at_ge hl.1 c2, if_neg (by omega), if_neg (by omega), if_neg (by omega)]; rfl
 by_cases c3 : p < f
 · rw [if_pos (by omega), if_neg (by omega), if_neg (by omega)]; cases at_ l p <;> rfl
 by_cases c4 : p < t
 · rw [if_neg (by omega), if_neg (by omega), if_pos (by omega)]; rfl
 · rw [if_neg (by omega), if_pos (by omega), if_neg (by omega)]; rfl
end Go.Proofs.Ytmjnenjeckeklaa.AreaLib
namespace Go.Proofs.Ytmjnenjeckeklaa.AreaEv
open Go.RowKit Go.Proofs.YtmjnenjeckeklaaW.PrintWords Go.Proofs.YtmjnenjeckeklaaW.PrintMore Go.Proofs.Ytmjnenjeckeklaa.Bits Go.Proofs.Ytmjnenjeckeklaa.Q Go.Proofs.Ytmjnenjeckeklaa.AreaLib
theorem span_eq (a b : Int) : area_span.f a b = some (decide (spanP a b)) := by
 by_cases s : spanP a b
 · rw [decide_eq_true s]; obtain ⟨s1, s2, s3⟩ := s; unfold area_span.f; rw [if_pos (show a ≥ 0 from s1), if_pos s2, decide_eq_true s3]
 · rw [decide_eq_false s]; unfold area_span.f; by_cases h1 : a ≥ 0
   · rw [if_pos h1]; by_cases h2 : a < b
     · rw [if_pos h2, decide_eq_false (fun h3 => s ⟨h1, h2, h3⟩)]
     · rw [if_neg h2]
   · rw [if_neg h1]
theorem rspan_eq (a b : Int) : paviorref09_Span.f a b = some (decide (spanP a b)) := span_eq a b
theorem alike_eq (x y : S59) : area_alike.f x.f0 x.f1 x.f2.f0 x.f2.f1 x.f3 y.f0 y.f1 y.f2.f0 y.f2.f1 y.f3 = some (decide (attr x = attr y)) := by
 obtain ⟨x0, x1, ⟨x2, x3⟩, x4⟩ := x; obtain ⟨y0, y1, ⟨y2, y3⟩, y4⟩ := y; unfold area_alike.f attr; cases x2 <;> cases x3 <;> cases x4 <;> cases y2 <;> cases y3 <;> cases y4 <;> rfl
theorem rd32_at (pre : List S59) (b : S59) (suf : List S59) : rd_T59 (pre ++ b :: suf) (pre.length : Int) = b := by
 unfold rd_T59; rw [List.getD_eq_getElem?_getD]; simp
def good (l : List S59) (i : Nat) : Prop := spanP (rd_T59 l i).f0 (rd_T59 l i).f1 ∧ (0 < i → (rd_T59 l ((i : Int) - 1)).f1 ≤ (rd_T59 l i).f0 ∧ ¬ touch (rd_T59 l ((i : Int) - 1)) (rd_T59 l i))
instance (l : List S59) (i : Nat) : Decidable (good l i) := by unfold good; infer_instance
theorem good_zero (x : S59) (l : List S59) : good (x :: l) 0 ↔ spanP x.f0 x.f1 := by
 unfold good; constructor
 · intro h; exact h.1
 · intro h; exact ⟨h, fun c => absurd c (Nat.lt_irrefl _)⟩
theorem rd32_succ (x : S59) (l : List S59) (i : Nat) : rd_T59 (x :: l) ((i + 1 : Nat) : Int) = rd_T59 l (i : Int) := by
 unfold rd_T59; rw [Int.toNat_natCast, Int.toNat_natCast]; rfl
theorem good_one (x y : S59) (l : List S59) : good (x :: y :: l) 1 ↔ spanP y.f0 y.f1 ∧ x.f1 ≤ y.f0 ∧ ¬ touch x y := by
 unfold good; constructor
 · intro h; exact ⟨h.1, h.2 (by omega)⟩
 · intro h; exact ⟨h.1, fun _ => h.2⟩
theorem good_succ (x : S59) (l : List S59) (i : Nat) (hi : 0 < i) : good (x :: l) (i + 1) ↔ good l i := by
 unfold good; rw [rd32_succ, show ((i + 1 : Nat) : Int) - 1 = (((i - 1) + 1 : Nat) : Int) by omega, rd32_succ, show ((i - 1 : Nat) : Int) = (i : Int) - 1 by omega]; constructor
 · intro h; exact ⟨h.1, fun _ => h.2 (by omega)⟩
 · intro h; exact ⟨h.1, fun _ => h.2 hi⟩
theorem good_iff : ∀ (x : S59) (l : List S59), (∀ i, i < (x :: l).length → good (x :: l) i) ↔ (0 ≤ x.f0 ∧ lies x.f0 (x :: l) 4096 ∧ apart (x :: l))
  | x, [] => by
    constructor
    · intro h
      obtain ⟨h1, h2, h3⟩ := (good_zero x []).mp (h 0 (by simp))
      exact ⟨h1, ⟨Int.le_refl _, h2, h3⟩, trivial⟩
    · rintro ⟨h1, ⟨_, h2, h3⟩, _⟩ i hi
      obtain rfl : i = 0 := by simp at hi; omega
      exact (good_zero x []).mpr ⟨h1, h2, h3⟩
  | x, y :: l => by
    have ih := good_iff y l
    constructor
    · intro h
      have g0 := (good_zero x (y :: l)).mp (h 0 (by simp))
      have g1 := (good_one x y l).mp (h 1 (by simp))
      have hr : ∀ i, i < (y :: l).length → good (y :: l) i := by
       intro i hi; by_cases c : i = 0
       · subst c; exact (good_zero y l).mpr g1.1
       · exact (good_succ x (y :: l) i (by omega)).mp (h (i + 1) (by simp at hi ⊢; omega))
      obtain ⟨h1, ⟨_, h2, h3⟩, h4⟩ := ih.mp hr
      exact ⟨g0.1, ⟨Int.le_refl _, g0.2.1, g1.2.1, h2, h3⟩, g1.2.2, h4⟩
    · rintro ⟨h1, ⟨_, h2, h3, h4, h5⟩, h6, h7⟩
      have hr := ih.mpr ⟨by omega, ⟨Int.le_refl _, h4, h5⟩, h7⟩
      intro i hi
      match i with
      | 0 =>
        have := lies_le h5
        exact (good_zero x (y :: l)).mpr ⟨h1, h2, by omega⟩
      | 1 => exact (good_one x y l).mpr ⟨(good_zero y l).mp (hr 0 (by simp)), h3, h6⟩
      | i + 2 => exact (good_succ x (y :: l) (i + 1) (by omega)).mpr (hr (i + 1) (by simp at hi ⊢; omega))
theorem good_canon (l : List S59) : (∀ i, i < l.length → good l i) ↔ canon l := by
 cases l with
 | nil => exact ⟨fun _ => ⟨by show (0 : Int) ≤ 4096; omega, trivial⟩, fun _ i hi => by simp at hi⟩
 | cons x l =>
  rw [good_iff]; constructor
  · rintro ⟨h1, ⟨h2, h3⟩, h4⟩; exact ⟨⟨h1, h3⟩, h4⟩
  · rintro ⟨⟨h1, h3⟩, h4⟩; exact ⟨h1, ⟨Int.le_refl _, h3⟩, h4⟩
theorem c1 {α : Type} {p : Prop} [Decidable p] {x y : α} (h : p) : (bif decide p then x else y) = x := by rw [decide_eq_true h]; rfl
theorem c0 {α : Type} {p : Prop} [Decidable p] {x y : α} (h : ¬ p) : (bif decide p then x else y) = y := by rw [decide_eq_false h]; rfl
theorem c2 {α : Type} {p q : Prop} [Decidable p] [Decidable q] {x y : α} (h : p) (k : q) : (bif decide p && decide q then x else y) = x := by rw [decide_eq_true h, decide_eq_true k]; rfl
theorem wS {n : Int} (h0 : -9223372036854775808 ≤ n) (h1 : n ≤ 9223372036854775807) : Go.IntKind.i64.wrap n = n := by
 simp [Go.IntKind.wrap, Go.IntKind.bits, Go.IntKind.signed]; split <;> omega
theorem check_step (K k : Nat) (l : List S59) (i : Nat) (hi : i < l.length) (hl : l.length ≤ 600) : V.Check.l1 K l (k + 1) (i : Int) = if good l i then V.Check.l1 K l k ((i + 1 : Nat) : Int) else some (some 1) := by
 have rd : ∀ j : Int, l.getD j.toNat V.zA = rd_T59 l j := fun _ => rfl; have e1 : Go.IntKind.i64.wrap ((i : Int) + 1) = ((i + 1 : Nat) : Int) := by rw [wS (by omega) (by omega)]; rfl
 have al : ∀ x y : S59, V.fAlike.f K x y = some (decide (attr x = attr y)) := alike_eq; simp only [V.Check.l1, rd, e1, al, Option.bind_some, span_eq]; rw [c1 (by omega), c2 (by omega) (by omega)]; by_cases h1 : spanP (rd_T59 l i).f0 (rd_T59 l i).f1
 · rw [decide_eq_true h1]; simp only [Bool.not_true, cond_false]; by_cases h2 : 0 < i
   · have e : Go.IntKind.i64.wrap ((i : Int) - 1) = (i : Int) - 1 := wS (by omega) (by omega); rw [c1 (by omega), e, c2 (by omega) (by omega)]; by_cases h3 : (rd_T59 l ((i : Int) - 1)).f1 > (rd_T59 l i).f0
     · rw [c1 h3, if_neg (fun h => by have := (h.2 h2).1; omega)]
     · rw [c0 h3, c2 (by omega) (by omega)]; by_cases h4 : (rd_T59 l ((i : Int) - 1)).f1 = (rd_T59 l i).f0
       · rw [show ((rd_T59 l ((i : Int) - 1)).f1 == (rd_T59 l i).f0) = true by simpa using h4]; simp only [cond_true]; rw [c2 (by omega) (by omega)]; by_cases h5 : attr (rd_T59 l ((i : Int) - 1)) = attr (rd_T59 l i)
         · rw [c1 h5, if_neg (fun g => (g.2 h2).2 ⟨h4, h5⟩)]
         · rw [c0 h5, if_pos ⟨h1, fun _ => ⟨by omega, fun t => h5 t.2⟩⟩]
       · rw [show ((rd_T59 l ((i : Int) - 1)).f1 == (rd_T59 l i).f0) = false by simpa using h4]; simp only [cond_false]; rw [if_pos ⟨h1, fun _ => ⟨by omega, fun t => h4 t.1⟩⟩]
   · rw [c0 (by omega), if_pos ⟨h1, fun c => absurd c h2⟩]
 · rw [decide_eq_false h1, if_neg (fun h => h1 h.1)]; rfl
theorem check_loop (l : List S59) (hl : l.length ≤ 600) : ∀ (d i : Nat), i + d = l.length → ∀ K k, d < k →
    ((∀ j, i ≤ j → j < l.length → good l j) → V.Check.l1 K l k (i : Int) = some (if l.length ≤ 64 then none else some 1)) ∧
    (¬ (∀ j, i ≤ j → j < l.length → good l j) → V.Check.l1 K l k (i : Int) = some (some 1)) := by
 intro d
 induction d with
 | zero =>
  intro i hi K k hk; obtain ⟨k, rfl⟩ : ∃ m, k = m + 1 := ⟨k - 1, by omega⟩; refine ⟨fun _ => ?_, fun h => absurd (fun j a b => by omega) h⟩; rw [V.Check.l1, c0 (by omega)]; by_cases c : l.length ≤ 64
  · rw [if_pos c, c0 (by omega)]
  · rw [if_neg c, c1 (by omega)]
 | succ d ih =>
  intro i hi K k hk; obtain ⟨k, rfl⟩ : ∃ m, k = m + 1 := ⟨k - 1, by omega⟩; rw [check_step K k l i (by omega) hl]; by_cases g : good l i
  · rw [if_pos g]; obtain ⟨i1, i2⟩ := ih (i + 1) (by omega) K k (by omega); refine ⟨fun h => i1 (fun j a b => h j (by omega) b), fun h => i2 (fun h' => h (fun j a b => ?_))⟩; by_cases c : j = i
    · subst c; exact g
    · exact h' j (by omega) b
  · rw [if_neg g]; exact ⟨fun h => absurd (h i (Nat.le_refl _) (by omega)) g, fun _ => rfl⟩
theorem check_ev (l : List S59) (hl : l.length ≤ 600) : Ev (fun k => area_Check.f k l) (if valid l then none else some 1) := by
 have e : (∀ j, 0 ≤ j → j < l.length → good l j) ↔ canon l := by
  rw [← good_canon]; exact ⟨fun h j => h j (Nat.zero_le _), fun h j _ => h j⟩
 refine ⟨l.length + 1, fun k hk => ?_⟩; obtain ⟨h1, h2⟩ := check_loop l hl l.length 0 (by omega) k k (by omega); show V.Check.l1 k l k ((0 : Nat) : Int) = _; by_cases c : canon l
 · rw [h1 (e.mpr c)]; by_cases c' : l.length ≤ 64
   · rw [if_pos c', if_pos ⟨c, c'⟩]
   · rw [if_neg c', if_neg (fun h => c' h.2)]
 · rw [h2 (fun h => c (e.mp h)), if_neg (fun h => c h.1)]
theorem piece_eq (A : List S59) (a : S59) (x y : Int) (hA : A.length ≤ 2000) : area_parts_1.f A a.f0 a.f1 a.f2.f0 a.f2.f1 a.f3 x y = some (A ++ cut x y [a]) := by
 unfold area_parts_1.f; rw [cut_cons]; by_cases c : mx a.f0 x < mn a.f1 y
 · rw [if_pos c, if_pos c, if_pos (by omega)]; rfl
 · rw [if_neg c, if_neg c]; simp [cut]
theorem cut_app (x y : Int) (l m : List S59) : cut x y (l ++ m) = cut x y l ++ cut x y m := List.filterMap_append
theorem cut_len (x y : Int) (l : List S59) : (cut x y l).length ≤ l.length := List.length_filterMap_le _ _
theorem parts_loop (f t : Int) : ∀ (suf pre A I B : List S59), (pre ++ suf).length ≤ 600 → A.length ≤ pre.length → I.length ≤ pre.length → B.length ≤ pre.length →
    Ev (fun k => area_parts.l0 k f t A I B (pre ++ suf) ((pre ++ suf).length : Int) (pre.length : Int)) (A ++ cut 0 f suf, I ++ cut f t suf, B ++ cut t 4096 suf) := by
     intro suf
     induction suf with
     | nil =>
      intro pre A I B hlen hA hI hB; refine ev_succ (ev_now (fun k => ?_)); simp only [area_parts.l0]; rw [if_neg (by simp)]; simp [cut]
     | cons b suf ih =>
      intro pre A I B hlen hA hI hB; have hp : (pre ++ b :: suf).length = pre.length + (suf.length + 1) := by simp
      have c1 := cut_len 0 f [b]; have c2 := cut_len f t [b]; have c3 := cut_len t 4096 [b]; simp only [List.length_singleton] at c1 c2 c3; have h1 := ih (pre ++ [b]) (A ++ cut 0 f [b]) (I ++ cut f t [b]) (B ++ cut t 4096 [b]) (by simpa using hlen) (by simp; omega) (by simp; omega) (by simp; omega)
      have q : ∀ (Z : List S59) (x y : Int), Z ++ cut x y [b] ++ cut x y suf = Z ++ cut x y (b :: suf) := fun Z x y => by
       rw [List.append_assoc, ← cut_app]; rfl
      rw [q, q, q, List.append_assoc] at h1; refine Ev.step (fun k => ?_) h1; simp only [area_parts.l0]; rw [if_pos (by omega), if_pos (by omega), if_pos (by omega), rd32_at, piece_eq A b 0 f (by omega), Option.bind_some, piece_eq I b f t (by omega), Option.bind_some, piece_eq B b t 4096 (by omega), Option.bind_some, wrap64_of (by omega) (by omega)]; simp
theorem parts_ev (l : List S59) (f t : Int) (hl : l.length ≤ 600) : Ev (fun k => area_parts.f k l f t) (cut 0 f l, cut f t l, cut t 4096 l) := by
 have := parts_loop f t l [] [] [] [] hl (Nat.le_refl _) (Nat.le_refl _) (Nat.le_refl _); simpa [area_parts.f] using this
theorem rdL_at (pre : List (List S59)) (b : List S59) (suf : List (List S59)) : rd_L4 (pre ++ b :: suf) (pre.length : Int) = b := by
 unfold rd_L4; rw [List.getD_eq_getElem?_getD]; simp
theorem concat_l1 : ∀ (suf pre : List (List S59)) (A : List S59), (pre ++ suf).length ≤ 10 → A.length + suf.flatten.length ≤ 4000 →
    Ev (fun k => api_Area_69.l1 k A (pre ++ suf) ((pre ++ suf).length : Int) (pre.length : Int)) (A ++ suf.flatten) := by
     intro suf
     induction suf with
     | nil =>
      intro pre A hlen hA; refine ev_succ (ev_now (fun k => ?_)); simp only [api_Area_69.l1]; rw [if_neg (by simp)]; simp
     | cons b suf ih =>
      intro pre A hlen hA; have hp : (pre ++ b :: suf).length = pre.length + (suf.length + 1) := by simp
      simp only [List.flatten_cons, List.length_append] at hA; have h1 := ih (pre ++ [b]) (A ++ b) (by simpa using hlen) (by simp only [List.length_append]; omega); rw [List.append_assoc, List.append_assoc] at h1; refine Ev.step (fun k => ?_) h1; simp only [api_Area_69.l1]; rw [if_pos (by omega), if_pos (by omega), if_pos (by omega), rdL_at, if_pos (by omega), wrap64_of (by omega) (by omega)]; simp
theorem concat_l0 (L : List (List S59)) (hL : L.length ≤ 10) (hf : L.flatten.length ≤ 4000) : ∀ (suf pre : List (List S59)), pre ++ suf = L →
    Ev (fun k => api_Area_69.l0 k L (pre.flatten.length : Int) L (L.length : Int) (pre.length : Int)) L.flatten := by
     intro suf
     induction suf with
     | nil =>
      intro pre he; rw [List.append_nil] at he; subst he; have h1 := concat_l1 pre [] [] (by simpa using hL) (by simpa using hf); refine Ev.step (fun k => ?_) h1
      have hg : api_Area_73.f (pre.flatten.length : Int) = some [] := by
       unfold api_Area_73.f; rw [if_pos (by omega), if_pos (by omega)]
      rw [api_Area_69.l0, if_neg (by omega), hg]; rfl
     | cons b suf ih =>
      intro pre he; have h1 := ih (pre ++ [b]) (by simpa using he); have hp : L.length = pre.length + (suf.length + 1) := by rw [← he]; simp
      have hq : pre.flatten.length + b.length ≤ L.flatten.length := by rw [← he]; simp
      have e2 : (pre ++ [b]).flatten.length = pre.flatten.length + b.length := by simp
      have e3 : (pre ++ [b]).length = pre.length + 1 := by simp
      rw [e2, e3] at h1; refine Ev.step (fun k => ?_) h1; simp only [api_Area_69.l0]; have e : rd_L4 L (pre.length : Int) = b := by rw [← he]; exact rdL_at pre b suf
      rw [if_pos (by omega), if_pos (by omega), if_pos (by omega), e, wrap64_of (n := (pre.flatten.length : Int) + (b.length : Int)) (by omega) (by omega), if_neg (by omega), wrap64_of (by omega) (by omega)]; rfl
theorem concat_ev (L : List (List S59)) (hL : L.length ≤ 10) (hf : L.flatten.length ≤ 4000) : Ev (fun k => api_Area_69.f k L) L.flatten := by
 have := concat_l0 L hL hf L [] rfl; simpa [api_Area_69.f] using this
def fin (z : List S59) : List S59 × Option Int := if z.length ≤ 64 then (z, none) else ([], some 5)
theorem jn_go (L : List S59) (hL : L.length ≤ 4000) : ∀ (suf pre o : List S59) (y : S59), L = pre ++ suf → o.length + 1 ≤ pre.length →
    Ev (fun k => area_joined.l0 k (o ++ [y]) L (L.length : Int) (pre.length : Int)) (fin (o ++ jn y suf)) := by
     intro suf
     induction suf with
     | nil =>
      intro pre o y he ho; rw [List.append_nil] at he; subst he; refine ev_succ (ev_now (fun k => ?_)); simp only [area_joined.l0]; rw [if_neg (by omega)]; unfold fin jn; by_cases c : (o ++ [y]).length ≤ 64
      · rw [if_pos c, if_neg (by omega)]
      · rw [if_neg c, if_pos (by omega)]
     | cons x suf ih =>
      intro pre o y he ho; have hp : L.length = pre.length + (suf.length + 1) := by rw [he]; simp
      have hx : rd_T59 L (pre.length : Int) = x := by rw [he]; exact rd32_at pre x suf
      have hol : ((o ++ [y]).length : Int) = (o.length : Int) + 1 := by simp
      have w1 : wrap64 (((o ++ [y]).length : Int) - 1) = (o.length : Int) := by rw [hol, wrap64_of (by omega) (by omega)]; omega
      have hy : rd_T59 (o ++ [y]) (o.length : Int) = y := rd32_at o y []; have h1 := fun o' y' (ho' : o'.length + 1 ≤ pre.length + 1) => ih (pre ++ [x]) o' y' (by rw [he]; simp) (by simpa using ho'); rw [show (pre ++ [x]).length = pre.length + 1 by simp] at h1; have w2 : wrap64 ((pre.length : Int) + 1) = ((pre.length + 1 : Nat) : Int) := by rw [wrap64_of (by omega) (by omega)]; rfl
      refine Ev.step (f := fun k => area_joined.j1 k (o ++ [y]) ((o ++ [y]).length : Int) L (L.length : Int) (pre.length : Int) (decide (touch y x)) x.f0 x.f1 x.f2.f0 x.f2.f1 x.f3) (fun k => ?_) ?_
      · simp only [area_joined.l0]; rw [if_pos (by omega), if_pos (by omega), if_pos (by omega), if_pos (by omega), w1, hx, hy, if_pos (by omega), if_pos (by omega)]; by_cases c : y.f1 = x.f0
        · rw [if_pos c, alike_eq, Option.bind_some]; congr 1; exact decide_eq_decide.mpr ⟨fun h => ⟨c, h⟩, fun h => h.2⟩
        · rw [if_neg c, decide_eq_false (fun h => c h.1)]
      · rw [jn]; by_cases t : touch y x
        · rw [if_pos t, decide_eq_true t]; have h2 := h1 o ⟨y.f0, x.f1, y.f2, y.f3⟩ (by omega); refine Ev.step (fun k => ?_) h2; simp only [area_joined.j1]; rw [if_pos trivial, w1, hy, if_pos (by omega), if_pos (by omega), w2]; congr 1; simp
        · rw [if_neg t, decide_eq_false t]; have h2 := h1 (o ++ [y]) x (by simp; omega); have q : o ++ [y] ++ jn x suf = o ++ y :: jn x suf := by simp
          rw [q] at h2; refine Ev.step (fun k => ?_) h2; simp only [area_joined.j1]; rw [if_neg Bool.false_ne_true, if_pos (by omega), w2]
theorem joined_ev (L : List (List S59)) (hL : L.length ≤ 10) (hf : L.flatten.length ≤ 4000) : Ev (fun k => area_joined.f k L) (fin (join L.flatten)) := by
 unfold area_joined.f; refine Ev.bind (concat_ev L hL hf) ?_; generalize L.flatten = M at hf ⊢
 cases M with
 | nil => exact ev_succ (ev_now (fun k => by simp [area_joined.l0, fin, join]))
 | cons x l =>
  have h1 := jn_go (x :: l) hf l [x] [] x rfl (by simp); refine Ev.step (f := fun k => area_joined.j1 k [] 0 (x :: l) ((x :: l).length : Int) 0 false x.f0 x.f1 x.f2.f0 x.f2.f1 x.f3) (fun k => ?_) (Ev.step (fun k => ?_) h1)
  · simp only [area_joined.l0]; rw [if_pos (by simp), if_pos (by omega), if_pos (by simp), if_neg (by simp)]; rfl
  · simp only [area_joined.j1]; rw [if_neg Bool.false_ne_true, if_pos (by simp), wrap64_of (by omega) (by omega)]; rfl
theorem fin_none {z : List S59} (h : (fin z).2 = none) : z.length ≤ 64 ∧ fin z = (z, none) := by
 unfold fin at h ⊢; by_cases c : z.length ≤ 64
 · rw [if_pos c]; exact ⟨c, rfl⟩
 · rw [if_neg c] at h; cases h
theorem lay_ev (l : List S59) (a : S59) (hl : l.length ≤ 600) : Ev (fun k => area_Lay.f k l a.f0 a.f1 a.f2.f0 a.f2.f1 a.f3) (if valid l ∧ spanP a.f0 a.f1 then fin (layL l a) else ([], some 1)) := by
 have bad : Ev (fun k => area_Lay.j0 k l true a.f0 a.f1 a.f2.f0 a.f2.f1 a.f3) ([], some 1) := ev_succ (ev_now (fun k => by simp only [area_Lay.j0]; rw [if_pos trivial])); unfold area_Lay.f; refine Ev.bind (check_ev l hl) ?_; by_cases v : valid l
 · simp only [if_pos v, Option.isNone_none, if_true, span_eq, Option.bind_some]; by_cases s : spanP a.f0 a.f1
   · rw [if_pos ⟨v, s⟩, decide_eq_true s]; refine ev_succ ?_; simp -implicitDefEqProofs only [area_Lay.j0, Bool.not_true, Bool.false_eq_true, if_false]; refine Ev.bind (parts_ev l a.f0 a.f1 hl) ?_; have c1 := cut_len 0 a.f0 l; have c3 := cut_len a.f1 4096 l; have hj := joined_ev [cut 0 a.f0 l, [a], cut a.f1 4096 l] (by simp) (by simp; omega); refine Ev.bind hj ?_; refine ev_now (fun k => ?_); simp [layL]
   · rw [if_neg (fun h => s h.2), decide_eq_false s]; exact bad
 · simp only [if_neg v, Option.isNone_some, Bool.false_eq_true, if_false]; rw [if_neg (fun h => v h.1)]; exact bad
theorem cut_ev (l : List S59) (f t : Int) (hl : l.length ≤ 600) : Ev (fun k => area_Cut.f k l f t) (if valid l ∧ spanP f t then fin (cutL l f t) else ([], some 1)) := by
 have bad : Ev (fun k => area_Cut.j0 k l f t true) ([], some 1) := ev_succ (ev_now (fun k => by simp only [area_Cut.j0]; rw [if_pos trivial])); unfold area_Cut.f; refine Ev.bind (check_ev l hl) ?_; by_cases v : valid l
 · simp only [if_pos v, Option.isNone_none, if_true, span_eq, Option.bind_some]; by_cases s : spanP f t
   · rw [if_pos ⟨v, s⟩, decide_eq_true s]; refine ev_succ ?_; simp -implicitDefEqProofs only [area_Cut.j0, Bool.not_true, Bool.false_eq_true, if_false]; refine Ev.bind (parts_ev l f t hl) ?_; have c1 := cut_len 0 f l; have c3 := cut_len t 4096 l; have hj := joined_ev [cut 0 f l, cut t 4096 l] (by simp) (by simp; omega); refine Ev.bind hj ?_; refine ev_now (fun k => ?_); simp [cutL]
   · rw [if_neg (fun h => s h.2), decide_eq_false s]; exact bad
 · simp only [if_neg v, Option.isNone_some, Bool.false_eq_true, if_false]; rw [if_neg (fun h => v h.1)]; exact bad
end Go.Proofs.Ytmjnenjeckeklaa.AreaEv
namespace Go.Proofs.Ytmjnenjeckeklaa.AreaRef
open Go.RowKit Go.Proofs.YtmjnenjeckeklaaW.PrintWords Go.Proofs.YtmjnenjeckeklaaW.PrintMore Go.Proofs.Ytmjnenjeckeklaa.Bits Go.Proofs.Ytmjnenjeckeklaa.Q Go.Proofs.Ytmjnenjeckeklaa.AreaLib Go.Proofs.Ytmjnenjeckeklaa.AreaEv
def encP : Option At → S72
  | none => z72
  | some a => ⟨true, a.1, a.2.1, a.2.2⟩
def pgs (g : Int → Option At) : List S72 := (List.range 4096).map (fun p : Nat => encP (g (p : Int)))
theorem pgs_len (g : Int → Option At) : (pgs g).length = 4096 := by unfold pgs; rw [List.length_map, List.length_range]
theorem pgs_get (g : Int → Option At) (i : Int) (h0 : 0 ≤ i) (h1 : i < 4096) : rd_T72 (pgs g) i = encP (g i) := by
 obtain ⟨n, rfl⟩ : ∃ n : Nat, i = n := ⟨i.toNat, by omega⟩; have hn : n < 4096 := by omega
 unfold rd_T72 pgs; rw [Int.toNat_natCast, List.getD_eq_getElem?_getD, List.getElem?_map, List.getElem?_range hn]; rfl
def upd (g : Int → Option At) (i : Int) (v : Option At) : Int → Option At := fun q => if q = i then v else g q
theorem pgs_set (g : Int → Option At) (i : Int) (v : Option At) (h0 : 0 ≤ i) : (pgs g).set i.toNat (encP v) = pgs (upd g i v) := by
 obtain ⟨n, rfl⟩ : ∃ n : Nat, i = n := ⟨i.toNat, by omega⟩; unfold pgs upd; rw [Int.toNat_natCast]; apply List.ext_getElem?; intro j; rw [List.getElem?_set, List.getElem?_map, List.getElem?_map, List.length_map, List.length_range]; by_cases hj : j < 4096
 · rw [List.getElem?_range hj]; by_cases e : n = j
   · subst e; simp [hj]
   · have e' : ¬ ((j : Int) = (n : Int)) := by omega
     simp [e, e']
 · rw [List.getElem?_eq_none (by rw [List.length_range]; omega)]; by_cases e : n = j
   · subst e; simp [hj]
   · simp [e]
theorem pgs_congr {g h : Int → Option At} (e : ∀ p, 0 ≤ p → p < 4096 → g p = h p) : pgs g = pgs h := by
 unfold pgs; apply List.map_congr_left; intro p hp; rw [List.mem_range] at hp; rw [e (p : Int) (by omega) (by omega)]
theorem blankN (n : Nat) : List.replicate n z72 = (List.range n).map (fun p : Nat => encP ((fun _ => none : Int → Option At) (p : Int))) := by
 rw [List.map_const', List.length_range]; rfl
theorem blank : List.replicate 4096 z72 = pgs (fun _ => none) := by
 unfold pgs; exact blankN 4096
theorem encP_eq (u v : Option At) : ((encP u).f0 == (encP v).f0 && ((encP u).f1 == (encP v).f1 && ((encP u).f2 == (encP v).f2 && ((encP u).f3 == (encP v).f3)))) = decide (u = v) := by
 rcases u with _ | ⟨a, b, c⟩ <;> rcases v with _ | ⟨a', b', c'⟩
 · rfl
 · rfl
 · rfl
 · cases a <;> cases b <;> cases c <;> cases a' <;> cases b' <;> cases c' <;> rfl
theorem lies_snoc : ∀ {o : List S59} {y : S59} {q e : Int}, lies q (o ++ [y]) e → lies q o y.f0 ∧ y.f0 < y.f1 ∧ y.f1 ≤ e
  | [], y, q, e, h => ⟨h.1, h.2.1, h.2.2⟩
  | x :: o, y, q, e, h => by
    obtain ⟨h1, h2, h3⟩ := h
    obtain ⟨a, b, c⟩ := lies_snoc h3
    exact ⟨⟨h1, h2, a⟩, b, c⟩
theorem apart_snoc : ∀ {o : List S59} {y x : S59}, apart (o ++ [y]) → ¬ touch y x → apart (o ++ [y] ++ [x])
  | [], y, x, h, t => ⟨t, trivial⟩
  | [z], y, x, h, t => ⟨h.1, t, trivial⟩
  | z :: z' :: o, y, x, h, t => ⟨h.1, apart_snoc (o := z' :: o) h.2 t⟩
theorem run_end (g : Int → Option At) (a : Int) : ∀ (d : Nat) (t : Int), t + d = 4096 → a < t → (∀ p, a ≤ p → p < t → g p = g a) → ∃ e, t ≤ e ∧ e ≤ 4096 ∧ (∀ p, a ≤ p → p < e → g p = g a) ∧ (e < 4096 → g e ≠ g a) := by
 intro d
 induction d with
 | zero => intro t ht ha h; exact ⟨t, Int.le_refl _, by omega, h, fun c => by omega⟩
 | succ d ih =>
  intro t ht ha h; by_cases c : g t = g a
  · obtain ⟨e, h1, h2, h3, h4⟩ := ih (t + 1) (by omega) (by omega) (fun p p1 p2 => by
     by_cases e : p = t
     · rw [e]; exact c
     · exact h p p1 (by omega))
    exact ⟨e, by omega, h2, h3, h4⟩
  · exact ⟨t, Int.le_refl _, by omega, h, fun _ => c⟩
theorem to_inner (g : Int → Option At) (out : List S59) (a e : Int) (h0 : 0 ≤ a) (ha : a < 4096) (he : e ≤ 4096) (hs : ∀ p, a ≤ p → p < e → g p = g a) (hn : e < 4096 → g e ≠ g a) (r : List S59 × Bool) (h : Ev (fun k => paviorref09_To.j2 k (pgs g) out a e false) r) :
    ∀ (d : Nat) (t : Int), t + d = e → a < t → Ev (fun k => paviorref09_To.l1 k (pgs g) out a t) r := by
 have step : ∀ (t : Int) (k : Nat), a < t → t ≤ 4096 → paviorref09_To.l1 (k + 1) (pgs g) out a t = paviorref09_To.j2 k (pgs g) out a t (decide (t < 4096 ∧ g t = g a)) := by
  intro t k t1 t2; rw [paviorref09_To.l1]; by_cases c : t < 4096
  · rw [if_pos c, if_pos (by omega), pgs_len, if_pos (by omega), if_pos h0, if_pos (by omega), pgs_get g t (by omega) c, pgs_get g a h0 ha, encP_eq]; congr 1; exact decide_eq_decide.mpr ⟨fun q => ⟨c, q⟩, fun q => q.2⟩
  · rw [if_neg c, decide_eq_false (fun q => c q.1)]
 intro d
 induction d with
 | zero =>
  intro t ht h1; obtain rfl : t = e := by omega
  refine Ev.step (fun k => ?_) h; rw [step t k h1 he, decide_eq_false (fun q => hn q.1 q.2)]
 | succ d ih =>
  intro t ht h1; refine Ev.step (f := fun k => paviorref09_To.j2 k (pgs g) out a t true) (fun k => ?_) (Ev.step (fun k => ?_) (ih (t + 1) (by omega) (by omega)))
  · rw [step t k h1 (by omega), decide_eq_true ⟨by omega, hs t (by omega) (by omega)⟩]
  · rw [paviorref09_To.j2, if_pos rfl, wrap64_of (by omega) (by omega)]
theorem to_loop (g : Int → Option At) : ∀ (n : Nat) (a : Int) (out : List S59), 0 ≤ a → a ≤ 4096 → 4096 - a ≤ n → lies 0 out a → apart out → (out.length : Int) ≤ a → (∀ p, 0 ≤ p → p < a → at_ out p = g p) → (0 < a → a < 4096 → g (a - 1) ≠ g a) →
    ∃ z, canon z ∧ (∀ p, 0 ≤ p → p < 4096 → at_ z p = g p) ∧ Ev (fun k => paviorref09_To.l0 k (pgs g) out a) (z, decide (z.length ≤ 64)) := by
 intro n
 induction n with
 | zero =>
  intro a out h0 h1 hn hl ha hlen hat hb; obtain rfl : a = 4096 := by omega
  refine ⟨out, ⟨hl, ha⟩, hat, ev_succ (ev_now (fun k => ?_))⟩; rw [paviorref09_To.l0, if_neg (by omega)]; congr 2; exact decide_eq_decide.mpr (by omega)
 | succ n ih =>
  intro a out h0 h1 hn hl ha hlen hat hb; by_cases c : a < 4096
  · obtain ⟨e, e1, e2, e3, e4⟩ := run_end g a (4096 - (a + 1)).toNat (a + 1) (by omega) (by omega) (fun p p1 p2 => by rw [show p = a by omega])
    have go : ∀ (out' : List S59), lies 0 out' e → apart out' → (out'.length : Int) ≤ e → (∀ p, 0 ≤ p → p < e → at_ out' p = g p) →
        (∀ r, Ev (fun k => paviorref09_To.l0 k (pgs g) out' e) r → Ev (fun k => paviorref09_To.j2 k (pgs g) out a e false) r) →
        ∃ z, canon z ∧ (∀ p, 0 ≤ p → p < 4096 → at_ z p = g p) ∧ Ev (fun k => paviorref09_To.l0 k (pgs g) out a) (z, decide (z.length ≤ 64)) := by
      intro out' l' a' len' at' hj
      obtain ⟨z, z1, z2, z3⟩ := ih e out' (by omega) e2 (by omega) l' a' len' at' (fun _ he => by
        rw [e3 (e - 1) (by omega) (by omega)]
        exact fun q => e4 he q.symm)
      refine ⟨z, z1, z2, ?_⟩
      have h2 := to_inner g out a e h0 c e2 e3 e4 _ (hj _ z3) (e - (a + 1)).toNat (a + 1) (by omega) (by omega)
      refine Ev.step (fun k => ?_) h2
      rw [paviorref09_To.l0, if_pos c, wrap64_of (by omega) (by omega)]
    cases hg : g a with
    | none =>
     refine go out (lies_e (by omega) hl) ha (by omega) (fun p p0 p1 => ?_) (fun r hr => ?_)
     · by_cases d : p < a
       · exact hat p p0 d
       · rw [at_ge hl (by omega), e3 p (by omega) p1, hg]
     · refine Ev.step (fun k => ?_) hr; rw [paviorref09_To.j2, if_neg Bool.false_ne_true, if_pos h0, pgs_len, if_pos (by omega), pgs_get g a h0 c, hg, if_neg (by decide)]
    | some v =>
     obtain ⟨v0, v1, v2⟩ := v; have hx : lies a [⟨a, e, ⟨v0, v1⟩, v2⟩] e := ⟨Int.le_refl _, by show a < e; omega, Int.le_refl e⟩; refine go (out ++ [⟨a, e, ⟨v0, v1⟩, v2⟩]) (lies_app hl hx) ?_ (by simp; omega) (fun p p0 p1 => ?_) (fun r hr => ?_)
     · rcases List.eq_nil_or_concat out with rfl | ⟨o, y, rfl⟩
       · exact trivial
       · rw [List.concat_eq_append] at hl ha hat hlen ⊢; refine apart_snoc ha (fun t => ?_); obtain ⟨t1, t2⟩ := t; have t1' : y.f1 = a := t1; obtain ⟨b1, b2, b3⟩ := lies_snoc hl; have b4 := lies_le b1; have q := hat (a - 1) (by omega) (by omega); rw [at_app, at_ge b1 (by omega), Option.none_or, at_, if_pos (by omega)] at q; refine hb (by omega) c ?_; rw [← q, hg, t2]; rfl
     · rw [at_app]; by_cases d : p < a
       · rw [hat p p0 d, at_lt (l := [⟨a, e, ⟨v0, v1⟩, v2⟩]) hx d]; exact Option.or_none
       · rw [at_ge hl (by omega), Option.none_or, at_, if_pos (by show a ≤ p ∧ p < e; omega), e3 p (by omega) p1, hg]; rfl
     · refine Ev.step (fun k => ?_) hr; rw [paviorref09_To.j2, if_neg Bool.false_ne_true, if_pos h0, pgs_len, if_pos (by omega), pgs_get g a h0 c, hg, if_pos (show (encP (some (v0, v1, v2))).f0 = true from rfl)]; show (if out.length < 5864062014805 then _ else _) = _; rw [if_pos (by omega)]; rfl
  · obtain rfl : a = 4096 := by omega
    refine ⟨out, ⟨hl, ha⟩, hat, ev_succ (ev_now (fun k => ?_))⟩; rw [paviorref09_To.l0, if_neg (by omega)]; congr 2; exact decide_eq_decide.mpr (by omega)
theorem to_ev (g : Int → Option At) : ∃ z, canon z ∧ (∀ p, 0 ≤ p → p < 4096 → at_ z p = g p) ∧ Ev (fun k => paviorref09_To.f k (pgs g)) (z, decide (z.length ≤ 64)) :=
  to_loop g 4096 0 [] (Int.le_refl _) (by omega) (by omega) (Int.le_refl (0 : Int)) trivial (by simp) (fun p a b => by omega) (fun a => by omega)
end Go.Proofs.Ytmjnenjeckeklaa.AreaRef
namespace Go.Proofs.Ytmjnenjeckeklaa.AreaFind
open Go.RowKit Go.Proofs.YtmjnenjeckeklaaW.PrintWords Go.Proofs.YtmjnenjeckeklaaW.PrintMore Go.Proofs.Ytmjnenjeckeklaa.Bits Go.Proofs.Ytmjnenjeckeklaa.Q Go.Proofs.Ytmjnenjeckeklaa.AreaLib Go.Proofs.Ytmjnenjeckeklaa.AreaEv
def look : List S59 → Int → Option S59
  | [], _ => none
  | x :: l, p => if x.f0 ≤ p ∧ p < x.f1 then some x else look l p
theorem look_at : ∀ (l : List S59) (p : Int), at_ l p = (look l p).map attr
  | [], _ => rfl
  | x :: l, p => by
    rw [at_, look]
    by_cases c : x.f0 ≤ p ∧ p < x.f1
    · rw [if_pos c, if_pos c]; rfl
    · rw [if_neg c, if_neg c]; exact look_at l p
theorem has_eq (p : Int) (x : S59) : area_find.has p x = decide (x.f0 ≤ p ∧ p < x.f1) := by
 unfold area_find.has; by_cases c : x.f0 ≤ p <;> by_cases d : p < x.f1 <;> simp [c, d]
theorem find_loop (L : List S59) (hL : L.length ≤ 600) (p : Int) : ∀ (suf pre : List S59), L = pre ++ suf →
    (∃ j : Nat, ∃ x, j < L.length ∧ L[j]? = some x ∧ look suf p = some x ∧ Ev (fun k => api_Area_66.l0 k L (area_find.has p) (L.length : Int) (pre.length : Int)) (j : Int)) ∨
    (look suf p = none ∧ Ev (fun k => api_Area_66.l0 k L (area_find.has p) (L.length : Int) (pre.length : Int)) (-1)) := by
 intro suf
 induction suf with
 | nil =>
  intro pre he; refine .inr ⟨rfl, ev_succ (ev_now (fun k => ?_))⟩; rw [api_Area_66.l0, if_neg (by rw [he]; simp)]
 | cons x suf ih =>
  intro pre he; have hp : L.length = pre.length + (suf.length + 1) := by rw [he]; simp
  have hx : rd_T59 L (pre.length : Int) = x := by rw [he]; exact rd32_at pre x suf
  have ha : ∀ k, api_Area_66.l0 (k + 1) L (area_find.has p) (L.length : Int) (pre.length : Int) = if x.f0 ≤ p ∧ p < x.f1 then some (pre.length : Int) else api_Area_66.l0 k L (area_find.has p) (L.length : Int) ((pre.length + 1 : Nat) : Int) := by
   intro k; rw [api_Area_66.l0, if_pos (by omega), if_pos (by omega), if_pos (by omega), hx]; unfold ap115.f; rw [Option.bind_some, has_eq, wrap64_of (by omega) (by omega)]; by_cases c : x.f0 ≤ p ∧ p < x.f1
   · rw [if_pos c, if_pos (decide_eq_true c)]
   · rw [if_neg c, if_neg (by simpa using c)]; rfl
  rw [look]; by_cases c : x.f0 ≤ p ∧ p < x.f1
  · refine .inl ⟨pre.length, x, by omega, by rw [he]; simp, by rw [if_pos c], ev_succ (ev_now (fun k => ?_))⟩; rw [ha k, if_pos c]
  · rw [if_neg c]; have h1 := ih (pre ++ [x]) (by rw [he]; simp); rw [show (pre ++ [x]).length = pre.length + 1 by simp] at h1; rcases h1 with ⟨j, y, a1, a2, a3, a4⟩ | ⟨a1, a2⟩
    · exact .inl ⟨j, y, a1, a2, a3, Ev.step (fun k => by rw [ha k, if_neg c]) a4⟩
    · exact .inr ⟨a1, Ev.step (fun k => by rw [ha k, if_neg c]) a2⟩
def findR : Option S59 → Int × Int × Bool × Bool × Bool × Option Int
  | some x => (x.f0, x.f1, x.f2.f0, x.f2.f1, x.f3, none)
  | none => (0, 0, false, false, false, some 3)
theorem find_ev (l : List S59) (p : Int) (hl : l.length ≤ 600) : Ev (fun k => area_Find.f k l p) (if valid l then findR (look l p) else (0, 0, false, false, false, some 1)) := by
 unfold area_Find.f; refine Ev.bind (check_ev l hl) ?_; by_cases v : valid l
 · simp only [if_pos v, Option.isNone_none, if_true]; rcases find_loop l hl p l [] rfl with ⟨j, x, a1, a2, a3, a4⟩ | ⟨a1, a2⟩
   · refine Ev.bind (show Ev (fun k => area_find.f k l p) (j : Int) from a4) ?_; refine ev_now (fun k => ?_)
     have e : rd_T59 l (j : Int) = x := by
      unfold rd_T59; rw [Int.toNat_natCast, List.getD_eq_getElem?_getD, a2]; rfl
     rw [if_neg (by omega), if_pos (by omega), if_pos (by omega), e, a3]; rfl
   · refine Ev.bind (show Ev (fun k => area_find.f k l p) (-1) from a2) ?_; refine ev_now (fun k => ?_); rw [if_pos (by omega), a1]; rfl
 · simp only [if_neg v, Option.isNone_some, Bool.false_eq_true, if_false]; exact ev_now (fun k => rfl)
end Go.Proofs.Ytmjnenjeckeklaa.AreaFind
namespace Go.Proofs.Ytmjnenjeckeklaa.AreaEach
open Go.RowKit Go.Proofs.YtmjnenjeckeklaaW.PrintWords Go.Proofs.YtmjnenjeckeklaaW.PrintMore Go.Proofs.Ytmjnenjeckeklaa.Bits Go.Proofs.Ytmjnenjeckeklaa.Q Go.Proofs.Ytmjnenjeckeklaa.AreaLib Go.Proofs.Ytmjnenjeckeklaa.AreaEv
def sumL : List S59 → Int
  | [] => 0
  | x :: l => (x.f1 - x.f0) + sumL l
theorem sum_le : ∀ {l : List S59} {q e : Int}, lies q l e → 0 ≤ sumL l ∧ sumL l ≤ e - q
  | [], q, e, h => ⟨Int.le_refl _, by have : q ≤ e := h; show (0 : Int) ≤ e - q; omega⟩
  | x :: l, q, e, h => by
    obtain ⟨h1, h2, h3⟩ := h
    obtain ⟨i1, i2⟩ := sum_le h3
    rw [sumL]
    omega
theorem full : ∀ {l : List S59} {q e : Int}, lies q l e → ¬ sumL l < e - q → ∀ p, q ≤ p → p < e → at_ l p ≠ none
  | [], q, e, h, hs, p, p1, p2 => by
    have : ¬ (0 : Int) < e - q := hs
    omega
  | x :: l, q, e, h, hs, p, p1, p2 => by
    obtain ⟨h1, h2, h3⟩ := h
    have i := (sum_le h3).2
    rw [sumL] at hs
    rw [at_]
    by_cases c : x.f0 ≤ p ∧ p < x.f1
    · rw [if_pos c]; simp
    · rw [if_neg c]
      exact full h3 (by omega) p (by omega) p2
theorem gap : ∀ {l : List S59} {q e : Int}, lies q l e → sumL l < e - q → ∃ p, q ≤ p ∧ p < e ∧ at_ l p = none
  | [], q, e, h, hs => ⟨q, Int.le_refl _, by have : (0 : Int) < e - q := hs; omega, rfl⟩
  | x :: l, q, e, h, hs => by
    obtain ⟨h1, h2, h3⟩ := h
    have l4 := lies_le h3
    rw [sumL] at hs
    by_cases c : q < x.f0
    · exact ⟨q, Int.le_refl _, by omega, at_lt (l := x :: l) (q := x.f0) (e := e) ⟨Int.le_refl _, h2, h3⟩ c⟩
    · obtain ⟨p, p1, p2, p3⟩ := gap h3 (by omega)
      exact ⟨p, by omega, p2, by rw [at_, if_neg (by omega)]; exact p3⟩
theorem sum_app : ∀ (l m : List S59), sumL (l ++ m) = sumL l + sumL m
  | [], m => by simp [sumL]
  | x :: l, m => by rw [List.cons_append, sumL, sumL, sum_app l m]; omega
def keeps (φ : S59 → S59) (ψ : At → At) : Prop := ∀ x, (φ x).f0 = x.f0 ∧ (φ x).f1 = x.f1 ∧ attr (φ x) = ψ (attr x)
theorem lies_map {φ : S59 → S59} {ψ : At → At} (k : keeps φ ψ) : ∀ {l : List S59} {q e : Int}, lies q l e → lies q (l.map φ) e
  | [], _, _, h => h
  | x :: l, q, e, h => by
    obtain ⟨h1, h2, h3⟩ := h
    obtain ⟨k1, k2, _⟩ := k x
    rw [List.map_cons]
    exact ⟨by rw [k1]; exact h1, by rw [k1, k2]; exact h2, by rw [k2]; exact lies_map k h3⟩
theorem at_map {φ : S59 → S59} {ψ : At → At} (k : keeps φ ψ) (p : Int) : ∀ l : List S59, at_ (l.map φ) p = (at_ l p).map ψ
  | [] => rfl
  | x :: l => by
    obtain ⟨k1, k2, k3⟩ := k x
    rw [List.map_cons, at_, at_, k1, k2, k3]
    by_cases c : x.f0 ≤ p ∧ p < x.f1
    · rw [if_pos c, if_pos c]; rfl
    · rw [if_neg c, if_neg c]; exact at_map k p l
def eachL (φ : S59 → S59) (l : List S59) (f t : Int) : List S59 := join (cut 0 f l ++ ((cut f t l).map φ ++ cut t 4096 l))
theorem each_lies {φ : S59 → S59} {ψ : At → At} (k : keeps φ ψ) {l : List S59} {f t : Int} (hl : lies 0 l 4096) (ha : spanP f t) : lies 0 (cut 0 f l ++ ((cut f t l).map φ ++ cut t 4096 l)) 4096 := by
 obtain ⟨a1, a2, a3⟩ := ha; exact lies_app (lies_cut 0 f l 0 4096 0 hl a1 (by omega)) (lies_app (lies_map k (lies_cut f t l 0 4096 f hl (Int.le_of_lt a2) (by omega))) (lies_cut t 4096 l 0 4096 t hl a3 (by omega)))
theorem each_canon {φ : S59 → S59} {ψ : At → At} (k : keeps φ ψ) {l : List S59} {f t : Int} (hl : canon l) (ha : spanP f t) : canon (eachL φ l f t) := ⟨join_lies (each_lies k hl.1 ha), join_apart _⟩
theorem each_at {φ : S59 → S59} {ψ : At → At} (k : keeps φ ψ) {l : List S59} {f t : Int} (hl : canon l) (ha : spanP f t) (p : Int) : at_ (eachL φ l f t) p = if f ≤ p ∧ p < t then (at_ l p).map ψ else at_ l p := by
 have hla := each_lies k hl.1 ha; obtain ⟨a1, a2, a3⟩ := ha; unfold eachL; rw [join_at hla, at_app, at_app, at_map k, at_cut, at_cut, at_cut]; by_cases c1 : p < 0
 · rw [at_lt hl.1 c1, if_neg (by omega), if_neg (by omega), if_neg (by omega), if_neg (by omega)]; rfl
 by_cases c2 : 4096 ≤ p
 · rw [at_ge hl.1 c2, if_neg (by omega), if_neg (by omega), if_neg (by omega), if_neg (by omega)]; rfl
 by_cases c3 : p < f
 · rw [if_pos (by omega), if_neg (by omega), if_neg (by omega), if_neg (by omega)]; cases at_ l p <;> rfl
 by_cases c4 : p < t
 · rw [if_neg (by omega), if_pos (by omega), if_neg (by omega), if_pos (by omega)]; cases at_ l p <;> rfl
 · rw [if_neg (by omega), if_neg (by omega), if_pos (by omega), if_neg (by omega)]; rfl
theorem mem_in : ∀ {l : List S59} {q e : Int}, lies q l e → ∀ x, x ∈ l → q ≤ x.f0 ∧ x.f0 < x.f1 ∧ x.f1 ≤ e
  | [], _, _, _, x, hx => by simp at hx
  | y :: l, q, e, h, x, hx => by
    obtain ⟨h1, h2, h3⟩ := h
    have h4 := lies_le h3
    rcases List.mem_cons.mp hx with rfl | hx
    · exact ⟨h1, h2, h4⟩
    · obtain ⟨a, b, c⟩ := mem_in h3 x hx
      exact ⟨by omega, b, c⟩
theorem sum_pos : ∀ {l : List S59}, (∀ x, x ∈ l → x.f0 < x.f1) → 0 ≤ sumL l
  | [], _ => Int.le_refl _
  | y :: l, h => by
    have h1 := h y (by simp)
    have h2 := sum_pos (l := l) (fun x hx => h x (by simp [hx]))
    rw [sumL]
    omega
theorem each_loop (φ : S59 → S59) (f t : Int) (A B : List S59) (r : List S59 × Option Int) (M : List S59) (hM : M.length ≤ 600) (hb : ∀ x, x ∈ M → 0 ≤ x.f0 ∧ x.f0 < x.f1 ∧ x.f1 ≤ 4096) (hs : sumL M ≤ 4096)
    (h : Ev (fun k => area_each.l0 k f t φ A (M.map φ) B (sumL M) (M.length : Int) (M.length : Int)) r) : ∀ (suf pre : List S59), M = pre ++ suf →
    Ev (fun k => area_each.l0 k f t φ A (pre.map φ ++ suf) B (sumL pre) (M.length : Int) (pre.length : Int)) r := by
     intro suf
     induction suf with
     | nil =>
      intro pre he; rw [List.append_nil] at he; subst he; rw [List.append_nil]; exact h
     | cons x suf ih =>
      intro pre he; have hp : M.length = pre.length + (suf.length + 1) := by rw [he]; simp
      obtain ⟨x1, x2, x3⟩ := hb x (by rw [he]; simp); have s1 : 0 ≤ sumL pre := sum_pos (fun y hy => (hb y (by rw [he]; simp [hy])).2.1); have s2 : 0 ≤ sumL suf := sum_pos (fun y hy => (hb y (by rw [he]; simp [hy])).2.1); have s3 : sumL M = sumL pre + ((x.f1 - x.f0) + sumL suf) := by rw [he, sum_app, sumL]
      have h1 := ih (pre ++ [x]) (by rw [he]; simp); have e1 : sumL (pre ++ [x]) = sumL pre + (x.f1 - x.f0) := by rw [sum_app, sumL, sumL]; omega
      have e2 : (pre ++ [x]).length = pre.length + 1 := by simp
      have e3 : (pre ++ [x]).map φ ++ suf = pre.map φ ++ φ x :: suf := by simp
      rw [e1, e2, e3] at h1
      have hx : rd_T59 (pre.map φ ++ x :: suf) (pre.length : Int) = x := by
       have := rd32_at (pre.map φ) x suf; rwa [List.length_map] at this
      have hlen : ((pre.map φ ++ x :: suf).length : Int) = (M.length : Int) := by rw [hp]; simp
      have hset : (pre.map φ ++ x :: suf).set pre.length (φ x) = pre.map φ ++ φ x :: suf := by
       rw [List.set_append_right _ _ (by simp)]; simp
      refine Ev.step (fun k => ?_) h1; rw [area_each.l0, if_pos (by omega), if_pos (by omega), hlen, if_pos (by omega), hx]; unfold ap102.f; rw [Option.bind_some, wrap64_of (n := x.f1 - x.f0) (by omega) (by omega), wrap64_of (n := sumL pre + (x.f1 - x.f0)) (by omega) (by omega), wrap64_of (n := (pre.length : Int) + 1) (by omega) (by omega), Int.toNat_natCast]; rw [← hset]; rfl
theorem each_ev {φ : S59 → S59} {ψ : At → At} (kp : keeps φ ψ) (l : List S59) (f t : Int) (hl : l.length ≤ 600) :
    Ev (fun k => area_each.f k l f t φ) (if valid l ∧ spanP f t then (if sumL (cut f t l) < t - f then ([], some 3) else fin (eachL φ l f t)) else ([], some 1)) := by
     have bad : Ev (fun k => area_each.j0 k l f t φ true) ([], some 1) := ev_succ (ev_now (fun k => by simp only [area_each.j0]; rw [if_pos trivial])); unfold area_each.f; refine Ev.bind (check_ev l hl) ?_; by_cases v : valid l
     · simp only [if_pos v, Option.isNone_none, if_true, span_eq, Option.bind_some]; by_cases s : spanP f t
       · rw [if_pos ⟨v, s⟩, decide_eq_true s]; obtain ⟨s1, s2, s3⟩ := s; refine ev_succ ?_; simp -implicitDefEqProofs only [area_each.j0, Bool.not_true, Bool.false_eq_true, if_false]; refine Ev.bind (parts_ev l f t hl) ?_; have c1 := cut_len 0 f l; have c2 := cut_len f t l; have c3 := cut_len t 4096 l; have hc : lies f (cut f t l) t := lies_cut f t l 0 4096 f v.1.1 (Int.le_of_lt s2) (by omega); have hsum := sum_le hc
         have hend : Ev (fun k => area_each.l0 k f t φ (cut 0 f l) ((cut f t l).map φ) (cut t 4096 l) (sumL (cut f t l)) ((cut f t l).length : Int) ((cut f t l).length : Int)) (if sumL (cut f t l) < t - f then ([], some 3) else fin (eachL φ l f t)) := by
          refine ev_succ ?_; have w : wrap64 (t - f) = t - f := wrap64_of (by omega) (by omega); simp -implicitDefEqProofs only [area_each.l0, if_neg (show ¬ ((cut f t l).length : Int) < ((cut f t l).length : Int) by omega), w]; by_cases c : sumL (cut f t l) < t - f
          · simp only [if_pos c]; exact ev_now (fun _ => rfl)
          · simp only [if_neg c]; have hj := joined_ev [cut 0 f l, (cut f t l).map φ, cut t 4096 l] (by simp) (by simp; omega); refine Ev.bind hj ?_; refine ev_now (fun k => ?_); simp [eachL]
         exact each_loop φ f t (cut 0 f l) (cut t 4096 l) _ (cut f t l) (by omega) (fun x hx => by have := mem_in hc x hx; omega) (by omega) hend (cut f t l) [] rfl
       · rw [if_neg (fun h => s h.2), decide_eq_false s]; exact bad
     · simp only [if_neg v, Option.isNone_some, Bool.false_eq_true, if_false]; rw [if_neg (fun h => v h.1)]; exact bad
theorem sum_none {l : List S59} {f t : Int} (hl : canon l) (ha : spanP f t) : sumL (cut f t l) < t - f ↔ ∃ p, f ≤ p ∧ p < t ∧ at_ l p = none := by
 obtain ⟨s1, s2, s3⟩ := ha; have hc : lies f (cut f t l) t := lies_cut f t l 0 4096 f hl.1 (Int.le_of_lt s2) (by omega); constructor
 · intro h; obtain ⟨p, p1, p2, p3⟩ := gap hc h; rw [at_cut, if_pos ⟨p1, p2⟩] at p3; exact ⟨p, p1, p2, p3⟩
 · rintro ⟨p, p1, p2, p3⟩; refine Classical.byContradiction (fun h => ?_); have := full hc h p p1 p2; rw [at_cut, if_pos ⟨p1, p2⟩] at this; exact this p3
end Go.Proofs.Ytmjnenjeckeklaa.AreaEach
