import Derived.Test.YtmjnenjeckeklaaQx0
import Derived.Test.YtmjnenjeckeklaaBits
import Derived.Test.YtmjnenjeckeklaaQx8
import Derived.Test.YtmjnenjeckeklaaQx11
import Derived.Test.YtmjnenjeckeklaaQx6
import Derived.Test.YtmjnenjeckeklaaQx10
set_option linter.unusedVariables false
set_option linter.unusedSimpArgs false
namespace Go.Proofs.Ytmjnenjeckeklaa.AreaLib
open Go.RowKit Go.Proofs.YtmjnenjeckeklaaW.PrintWords Go.Proofs.Ytmjnenjeckeklaa.Q
abbrev At := Bool × Bool × Bool
def attr (x : aG) : At := (x.f2.f0, x.f2.f1, x.f3)
theorem OO {x y : aG} (h0 : x.f0 = y.f0) (h1 : x.f1 = y.f1) (h2 : attr x = attr y) : x = y := by
 obtain ⟨x0, x1, ⟨x2, x3⟩, x4⟩ := x; obtain ⟨y0, y1, ⟨y2, y3⟩, y4⟩ := y; simp only [attr, Prod.mk.injEq] at h0 h1 h2; obtain ⟨a, b, c⟩ := h2; subst h0; subst h1; subst a; subst b; subst c; rfl
def at_ : List aG → Int → Option At
  | [], _ => none
  | x :: l, p => if x.f0 ≤ p ∧ p < x.f1 then some (attr x) else at_ l p
def eT : Int → List aG → Int → Prop
  | q, [], e => q ≤ e
  | q, x :: l, e => q ≤ x.f0 ∧ x.f0 < x.f1 ∧ eT x.f1 l e
def kV (y x : aG) : Prop := y.f1 = x.f0 ∧ attr y = attr x
instance (y x : aG) : Decidable (kV y x) := by unfold kV; infer_instance
def apart : List aG → Prop
  | [] => True
  | [_] => True
  | y :: x :: l => ¬ kV y x ∧ apart (x :: l)
instance E7 : ∀ (q : Int) (l : List aG) (e : Int), Decidable (eT q l e)
  | q, [], e => by unfold eT; infer_instance
  | q, x :: l, e => by
    unfold eT
    have := E7 x.f1 l e
    infer_instance
instance Dh : ∀ l : List aG, Decidable (apart l)
  | [] => by unfold apart; infer_instance
  | [_] => by unfold apart; infer_instance
  | y :: x :: l => by
    unfold apart
    have := Dh (x :: l)
    infer_instance
def canon (l : List aG) : Prop := eT 0 l 4096 ∧ apart l
instance (l : List aG) : Decidable (canon l) := by unfold canon; infer_instance
def valid (l : List aG) : Prop := canon l ∧ l.length ≤ 64
instance (l : List aG) : Decidable (valid l) := by unfold valid; infer_instance
def dD (a b : Int) : Prop := 0 ≤ a ∧ a < b ∧ b ≤ 4096
instance (a b : Int) : Decidable (dD a b) := by unfold dD; infer_instance
theorem nv : ∀ {l : List aG} {q e : Int}, eT q l e → q ≤ e
  | [], _, _, h => h
  | x :: l, _, _, h => by
    have := nv h.2.2
    have := h.1
    have := h.2.1
    omega
theorem E8 {l : List aG} {q q' e : Int} (hq : q' ≤ q) (h : eT q l e) : eT q' l e := by
 cases l with
 | nil => exact Int.le_trans hq h
 | cons x l => exact ⟨Int.le_trans hq h.1, h.2⟩
theorem E9 : ∀ {l : List aG} {q e e' : Int}, e ≤ e' → eT q l e → eT q l e'
  | [], _, _, _, he, h => Int.le_trans h he
  | x :: l, _, _, _, he, h => ⟨h.1, h.2.1, E9 he h.2.2⟩
theorem kT : ∀ {l m : List aG} {q e e' : Int}, eT q l e → eT e m e' → eT q (l ++ m) e'
  | [], m, _, _, _, h, h' => E8 h h'
  | x :: l, m, _, _, _, h, h' => ⟨h.1, h.2.1, kT h.2.2 h'⟩
theorem jJ : ∀ {l : List aG} {q e p : Int}, eT q l e → p < q → at_ l p = none
  | [], _, _, _, _, _ => rfl
  | x :: l, q, e, p, h, hp => by
    have := h.1
    have := h.2.1
    rw [at_, if_neg (by omega)]
    exact jJ h.2.2 (by omega)
theorem mK : ∀ {l : List aG} {q e p : Int}, eT q l e → e ≤ p → at_ l p = none
  | [], _, _, _, _, _ => rfl
  | x :: l, q, e, p, h, hp => by
    have := nv h.2.2
    rw [at_, if_neg (by omega)]
    exact mK h.2.2 hp
theorem oE : ∀ (l m : List aG) (p : Int), at_ (l ++ m) p = (at_ l p).or (at_ m p)
  | [], m, p => by simp [at_]
  | x :: l, m, p => by
    rw [List.cons_append, at_, at_]
    split
    · rfl
    · exact oE l m p
def jn : aG → List aG → List aG
  | y, [] => [y]
  | y, x :: l => if kV y x then jn ⟨y.f0, x.f1, y.f2, y.f3⟩ l else y :: jn x l
theorem xj : ∀ {l : List aG} {y : aG} {q e : Int}, eT q (y :: l) e → eT q (jn y l) e
  | [], y, q, e, h => h
  | x :: l, y, q, e, h => by
    obtain ⟨h1, h2, h3, h4, h5⟩ := h
    rw [jn]
    by_cases t : kV y x
    · rw [if_pos t]
      have := t.1
      exact xj ⟨h1, by show y.f0 < x.f1; omega, h5⟩
    · rw [if_neg t]
      exact ⟨h1, h2, xj ⟨h3, h4, h5⟩⟩
theorem Ci : ∀ (l : List aG) (y : aG), ∃ (f : Int) (t : List aG), jn y l = ⟨y.f0, f, y.f2, y.f3⟩ :: t
  | [], y => ⟨y.f1, [], rfl⟩
  | x :: l, y => by
    rw [jn]
    by_cases t : kV y x
    · rw [if_pos t]
      exact Ci l ⟨y.f0, x.f1, y.f2, y.f3⟩
    · rw [if_neg t]
      exact ⟨y.f1, jn x l, rfl⟩
theorem tf : ∀ (l : List aG) (y : aG), apart (jn y l)
  | [], y => trivial
  | x :: l, y => by
    rw [jn]
    by_cases t : kV y x
    · rw [if_pos t]
      exact tf l _
    · rw [if_neg t]
      have h := tf l x
      obtain ⟨f, r, hr⟩ := Ci l x
      rw [hr] at h ⊢
      exact ⟨t, h⟩
theorem Fc : ∀ (l : List aG) (y : aG) (q e : Int), eT q (y :: l) e → ∀ p, at_ (jn y l) p = at_ (y :: l) p
  | [], y, q, e, h, p => rfl
  | x :: l, y, q, e, h, p => by
    obtain ⟨h1, h2, h3, h4, h5⟩ := h
    rw [jn]
    by_cases t : kV y x
    · rw [if_pos t]
      have ht := t.1
      have ha := t.2
      rw [Fc l ⟨y.f0, x.f1, y.f2, y.f3⟩ q e ⟨h1, by show y.f0 < x.f1; omega, h5⟩ p]
      simp only [at_]
      have e1 : attr (⟨y.f0, x.f1, y.f2, y.f3⟩ : aG) = attr y := rfl
      rw [e1]
      by_cases c1 : y.f0 ≤ p ∧ p < y.f1
      · rw [if_pos c1, if_pos (by omega)]
      · rw [if_neg c1]
        by_cases c2 : x.f0 ≤ p ∧ p < x.f1
        · rw [if_pos c2, if_pos (by omega), ha]
        · rw [if_neg c2, if_neg (by omega)]
    · rw [if_neg t, at_, at_, Fc l x y.f1 e ⟨h3, h4, h5⟩ p]
def join : List aG → List aG
  | [] => []
  | x :: l => jn x l
theorem qp {l : List aG} {q e : Int} (h : eT q l e) : eT q (join l) e := by
 cases l with
 | nil => exact h
 | cons x l => exact xj h
theorem oD (l : List aG) : apart (join l) := by
 cases l with
 | nil => exact trivial
 | cons x l => exact tf l x
theorem wD {l : List aG} {q e : Int} (h : eT q l e) (p : Int) : at_ (join l) p = at_ l p := by
 cases l with
 | nil => rfl
 | cons x l => exact Fc l x q e h p
theorem tg {x : aG} {l : List aG} (h : apart (x :: l)) : apart l := by
 cases l with
 | nil => exact trivial
 | cons y l => exact h.2
theorem Fe {x : aG} {l : List aG} {e : Int} (h : eT x.f1 l e) (ha : apart (x :: l)) : at_ l x.f1 ≠ some (attr x) := by
 cases l with
 | nil => simp [at_]
 | cons y l =>
  obtain ⟨h1, h2, h3⟩ := h; rw [at_]; by_cases c : y.f0 ≤ x.f1 ∧ x.f1 < y.f1
  · rw [if_pos c]; intro he; exact ha.1 ⟨by omega, (Option.some.inj he).symm⟩
  · rw [if_neg c, jJ h3 (by omega)]; simp
theorem uniq : ∀ (l m : List aG) (q q' e e' : Int), eT q l e → apart l → eT q' m e' → apart m → (∀ p, at_ l p = at_ m p) → l = m
  | [], [], _, _, _, _, _, _, _, _, _ => rfl
  | [], y :: m, _, _, _, _, _, _, h', _, h => by
    have := h y.f0
    obtain ⟨h1, h2, h3⟩ := h'
    rw [at_, at_, if_pos ⟨Int.le_refl _, h2⟩] at this
    cases this
  | x :: l, [], _, _, _, _, hl, _, _, _, h => by
    have := h x.f0
    obtain ⟨h1, h2, h3⟩ := hl
    rw [at_, at_, if_pos ⟨Int.le_refl _, h2⟩] at this
    cases this
  | x :: l, y :: m, q, q', e, e', hl, al, hm, am, h => by
    obtain ⟨l1, l2, l3⟩ := hl
    obtain ⟨m1, m2, m3⟩ := hm
    have hx := h x.f0
    have hy := h y.f0
    have e0 : x.f0 = y.f0 := by
     rcases Int.lt_trichotomy x.f0 y.f0 with c | c | c
     · rw [at_, if_pos ⟨Int.le_refl _, l2⟩, jJ (l := y :: m) (q := y.f0) (e := e') ⟨Int.le_refl _, m2, m3⟩ c] at hx; cases hx
     · exact c
     · rw [jJ (l := x :: l) (q := x.f0) (e := e) ⟨Int.le_refl _, l2, l3⟩ c, at_, if_pos ⟨Int.le_refl _, m2⟩] at hy; cases hy
    have ea : attr x = attr y := by
     rw [at_, if_pos ⟨Int.le_refl _, l2⟩, at_, if_pos (by omega)] at hx; exact Option.some.inj hx
    have e1 : x.f1 = y.f1 := by
     rcases Int.lt_trichotomy x.f1 y.f1 with c | c | c
     · have h1 := h x.f1; rw [at_, if_neg (by omega), at_, if_pos (by omega), ← ea] at h1; exact absurd h1 (Fe l3 al)
     · exact c
     · have h1 := h y.f1; rw [at_, if_pos (by omega), at_, if_neg (by omega), ea] at h1; exact absurd h1.symm (Fe m3 am)
    have et : x = y := OO e0 e1 ea
    have ht : l = m := by
     refine uniq l m x.f1 y.f1 e e' l3 (tg al) m3 (tg am) (fun p => ?_); by_cases c : p < x.f1
     · rw [jJ l3 c, jJ m3 (by omega)]
     · have h1 := h p; rw [at_, if_neg (by omega), at_, if_neg (by omega)] at h1; exact h1
    rw [et, ht]
theorem th {l m : List aG} (hl : canon l) (hm : canon m) (h : ∀ p, 0 ≤ p → p < 4096 → at_ l p = at_ m p) : l = m :=
  uniq l m 0 0 4096 4096 hl.1 hl.2 hm.1 hm.2 (fun p => by
    by_cases c : p < 0
    · rw [jJ hl.1 c, jJ hm.1 c]
    · by_cases c' : 4096 ≤ p
      · rw [mK hl.1 c', mK hm.1 c']
      · exact h p (by omega) (by omega))
def clip (x y : Int) (a : aG) : Option aG := if mx a.f0 x < mn a.f1 y then some ⟨mx a.f0 x, mn a.f1 y, a.f2, a.f3⟩ else none
def cut (x y : Int) (l : List aG) : List aG := l.filterMap (clip x y)
theorem tj (x y : Int) (a : aG) (l : List aG) : cut x y (a :: l) = if mx a.f0 x < mn a.f1 y then ⟨mx a.f0 x, mn a.f1 y, a.f2, a.f3⟩ :: cut x y l else cut x y l := by
 unfold cut; rw [List.filterMap_cons]; unfold clip; by_cases c : mx a.f0 x < mn a.f1 y
 · rw [if_pos c, if_pos c]
 · rw [if_neg c, if_neg c]
theorem Ks (a b : Int) : mx a b = max a b := by unfold mx; split <;> omega
theorem Kt (a b : Int) : mn a b = min a b := by unfold mn; split <;> omega
theorem gv (x y : Int) : ∀ (l : List aG) (q e c : Int), eT q l e → c ≤ y → c ≤ max q x → eT c (cut x y l) y
  | [], q, e, c, _, hc, _ => hc
  | a :: l, q, e, c, h, hc, hq => by
    obtain ⟨h1, h2, h3⟩ := h
    rw [tj, Ks, Kt]
    by_cases t : max a.f0 x < min a.f1 y
    · rw [if_pos t]
      exact ⟨by show c ≤ max a.f0 x; omega, t, gv x y l a.f1 e _ h3 (by show min a.f1 y ≤ y; omega) (by show min a.f1 y ≤ max a.f1 x; omega)⟩
    · rw [if_neg t]
      exact gv x y l a.f1 e c h3 hc (by omega)
theorem ku (x y : Int) (p : Int) : ∀ l : List aG, at_ (cut x y l) p = if x ≤ p ∧ p < y then at_ l p else none
  | [] => by simp [cut, at_]
  | a :: l => by
    rw [tj, Ks, Kt]
    have ih := ku x y p l
    by_cases t : max a.f0 x < min a.f1 y
    · rw [if_pos t, at_]
      have e1 : attr (⟨max a.f0 x, min a.f1 y, a.f2, a.f3⟩ : aG) = attr a := rfl
      rw [e1, ih]
      by_cases c : x ≤ p ∧ p < y
      · rw [if_pos c, if_pos c, at_]
        by_cases d : a.f0 ≤ p ∧ p < a.f1
        · rw [if_pos d, if_pos (by show max a.f0 x ≤ p ∧ p < min a.f1 y; omega)]
        · rw [if_neg d, if_neg (by show ¬ (max a.f0 x ≤ p ∧ p < min a.f1 y); omega)]
      · rw [if_neg c, if_neg c, if_neg (by show ¬ (max a.f0 x ≤ p ∧ p < min a.f1 y); omega)]
    · rw [if_neg t, ih]
      by_cases c : x ≤ p ∧ p < y
      · rw [if_pos c, if_pos c, at_, if_neg (by omega)]
      · rw [if_neg c, if_neg c]
def yQ (l : List aG) (a : aG) : List aG := join (cut 0 a.f0 l ++ a :: cut a.f1 4096 l)
def yR (l : List aG) (f t : Int) : List aG := join (cut 0 f l ++ cut t 4096 l)
theorem yS {l : List aG} {a : aG} (hl : eT 0 l 4096) (ha : dD a.f0 a.f1) : eT 0 (cut 0 a.f0 l ++ a :: cut a.f1 4096 l) 4096 := by
 obtain ⟨a1, a2, a3⟩ := ha; exact kT (gv 0 a.f0 l 0 4096 0 hl a1 (by omega)) ⟨Int.le_refl _, a2, gv a.f1 4096 l 0 4096 a.f1 hl a3 (by omega)⟩
theorem yT {l : List aG} {f t : Int} (hl : eT 0 l 4096) (ha : dD f t) : eT 0 (cut 0 f l ++ cut t 4096 l) 4096 := by
 obtain ⟨a1, a2, a3⟩ := ha; exact kT (gv 0 f l 0 4096 0 hl a1 (by omega)) (E8 (Int.le_of_lt a2) (gv t 4096 l 0 4096 t hl a3 (by omega)))
theorem Di {l : List aG} {a : aG} (hl : canon l) (ha : dD a.f0 a.f1) : canon (yQ l a) := ⟨qp (yS hl.1 ha), oD _⟩
theorem Dj {l : List aG} {f t : Int} (hl : canon l) (ha : dD f t) : canon (yR l f t) := ⟨qp (yT hl.1 ha), oD _⟩
theorem LW {l : List aG} {a : aG} (hl : canon l) (ha : dD a.f0 a.f1) (p : Int) : at_ (yQ l a) p = if a.f0 ≤ p ∧ p < a.f1 then some (attr a) else at_ l p := by
 have hla := yS hl.1 ha; obtain ⟨a1, a2, a3⟩ := ha; unfold yQ; rw [wD hla, oE, ku, at_, ku]; by_cases c1 : p < 0
 · rw [jJ hl.1 c1, if_neg (by omega), if_neg (by omega), if_neg (by omega), if_neg (by omega)]; rfl
 by_cases c2 : 4096 ≤ p
 · rw [mK hl.1 c2, if_neg (by omega), if_neg (by omega), if_neg (by omega), if_neg (by omega)]; rfl
 by_cases c3 : p < a.f0
 · rw [if_pos (by omega), if_neg (by omega), if_neg (by omega), if_neg (by omega)]; cases at_ l p <;> rfl
 by_cases c4 : p < a.f1
 · rw [if_neg (by omega), if_pos (by omega), if_pos (by omega)]; rfl
 · rw [if_neg (by omega), if_neg (by omega), if_pos (by omega), if_neg (by omega)]; rfl
theorem IM {l : List aG} {f t : Int} (hl : canon l) (ha : dD f t) (p : Int) : at_ (yR l f t) p = if f ≤ p ∧ p < t then none else at_ l p := by
 have hla := yT hl.1 ha; obtain ⟨a1, a2, a3⟩ := ha; unfold yR; rw [wD hla, oE, ku, ku]; by_cases c1 : p < 0
 · rw [jJ hl.1 c1, if_neg (by omega), if_neg (by omega), if_neg (by omega)]; rfl
 by_cases c2 : 4096 ≤ p
 · rw [mK hl.1 c2, if_neg (by omega), if_neg (by omega), if_neg (by omega)]; rfl
 by_cases c3 : p < f
 · rw [if_pos (by omega), if_neg (by omega), if_neg (by omega)]; cases at_ l p <;> rfl
 by_cases c4 : p < t
 · rw [if_neg (by omega), if_neg (by omega), if_pos (by omega)]; rfl
 · rw [if_neg (by omega), if_pos (by omega), if_neg (by omega)]; rfl
end Go.Proofs.Ytmjnenjeckeklaa.AreaLib
namespace Go.Proofs.Ytmjnenjeckeklaa.AreaEv
open Go.RowKit Go.Proofs.YtmjnenjeckeklaaW.PrintWords Go.Proofs.YtmjnenjeckeklaaW.PrintMore Go.Proofs.Ytmjnenjeckeklaa.Bits Go.Proofs.Ytmjnenjeckeklaa.Q Go.Proofs.Ytmjnenjeckeklaa.AreaLib
theorem pq (a b : Int) : b6.f a b = some (decide (dD a b)) := by
 by_cases s : dD a b
 · rw [decide_eq_true s]; obtain ⟨s1, s2, s3⟩ := s; unfold b6.f; rw [if_pos (show a ≥ 0 from s1), if_pos s2, decide_eq_true s3]
 · rw [decide_eq_false s]; unfold b6.f; by_cases h1 : a ≥ 0
   · rw [if_pos h1]; by_cases h2 : a < b
     · rw [if_pos h2, decide_eq_false (fun h3 => s ⟨h1, h2, h3⟩)]
     · rw [if_neg h2]
   · rw [if_neg h1]
theorem yU (a b : Int) : cu.f a b = some (decide (dD a b)) := pq a b
theorem yV (x y : aG) : fT.f x.f0 x.f1 x.f2.f0 x.f2.f1 x.f3 y.f0 y.f1 y.f2.f0 y.f2.f1 y.f3 = some (decide (attr x = attr y)) := by
 obtain ⟨x0, x1, ⟨x2, x3⟩, x4⟩ := x; obtain ⟨y0, y1, ⟨y2, y3⟩, y4⟩ := y; unfold fT.f attr; cases x2 <;> cases x3 <;> cases x4 <;> cases y2 <;> cases y3 <;> cases y4 <;> rfl
theorem pg (pre : List aG) (b : aG) (suf : List aG) : rd_T59 (pre ++ b :: suf) (pre.length : Int) = b := by
 unfold rd_T59; rw [List.getD_eq_getElem?_getD]; simp
def good (l : List aG) (i : Nat) : Prop := dD (rd_T59 l i).f0 (rd_T59 l i).f1 ∧ (0 < i → (rd_T59 l ((i : Int) - 1)).f1 ≤ (rd_T59 l i).f0 ∧ ¬ kV (rd_T59 l ((i : Int) - 1)) (rd_T59 l i))
instance (l : List aG) (i : Nat) : Decidable (good l i) := by unfold good; infer_instance
theorem jC (x : aG) (l : List aG) : good (x :: l) 0 ↔ dD x.f0 x.f1 := by
 unfold good; constructor
 · intro h; exact h.1
 · intro h; exact ⟨h, fun c => absurd c (Nat.lt_irrefl _)⟩
theorem vm (x : aG) (l : List aG) (i : Nat) : rd_T59 (x :: l) ((i + 1 : Nat) : Int) = rd_T59 l (i : Int) := by
 unfold rd_T59; rw [Int.toNat_natCast, Int.toNat_natCast]; rfl
theorem yW (x y : aG) (l : List aG) : good (x :: y :: l) 1 ↔ dD y.f0 y.f1 ∧ x.f1 ≤ y.f0 ∧ ¬ kV x y := by
 unfold good; constructor
 · intro h; exact ⟨h.1, h.2 (by omega)⟩
 · intro h; exact ⟨h.1, fun _ => h.2⟩
theorem vn (x : aG) (l : List aG) (i : Nat) (hi : 0 < i) : good (x :: l) (i + 1) ↔ good l i := by
 unfold good; rw [vm, show ((i + 1 : Nat) : Int) - 1 = (((i - 1) + 1 : Nat) : Int) by omega, vm, show ((i - 1 : Nat) : Int) = (i : Int) - 1 by omega]; constructor
 · intro h; exact ⟨h.1, fun _ => h.2 (by omega)⟩
 · intro h; exact ⟨h.1, fun _ => h.2 hi⟩
theorem yX : ∀ (x : aG) (l : List aG), (∀ i, i < (x :: l).length → good (x :: l) i) ↔ (0 ≤ x.f0 ∧ eT x.f0 (x :: l) 4096 ∧ apart (x :: l))
  | x, [] => by
    constructor
    · intro h
      obtain ⟨h1, h2, h3⟩ := (jC x []).mp (h 0 (by simp))
      exact ⟨h1, ⟨Int.le_refl _, h2, h3⟩, trivial⟩
    · rintro ⟨h1, ⟨_, h2, h3⟩, _⟩ i hi
      obtain rfl : i = 0 := by simp at hi; omega
      exact (jC x []).mpr ⟨h1, h2, h3⟩
  | x, y :: l => by
    have ih := yX y l
    constructor
    · intro h
      have g0 := (jC x (y :: l)).mp (h 0 (by simp))
      have g1 := (yW x y l).mp (h 1 (by simp))
      have hr : ∀ i, i < (y :: l).length → good (y :: l) i := by
       intro i hi; by_cases c : i = 0
       · subst c; exact (jC y l).mpr g1.1
       · exact (vn x (y :: l) i (by omega)).mp (h (i + 1) (by simp at hi ⊢; omega))
      obtain ⟨h1, ⟨_, h2, h3⟩, h4⟩ := ih.mp hr
      exact ⟨g0.1, ⟨Int.le_refl _, g0.2.1, g1.2.1, h2, h3⟩, g1.2.2, h4⟩
    · rintro ⟨h1, ⟨_, h2, h3, h4, h5⟩, h6, h7⟩
      have hr := ih.mpr ⟨by omega, ⟨Int.le_refl _, h4, h5⟩, h7⟩
      intro i hi
      match i with
      | 0 =>
        have := nv h5
        exact (jC x (y :: l)).mpr ⟨h1, h2, by omega⟩
      | 1 => exact (yW x y l).mpr ⟨(jC y l).mp (hr 0 (by simp)), h3, h6⟩
      | i + 2 => exact (vn x (y :: l) (i + 1) (by omega)).mpr (hr (i + 1) (by simp at hi ⊢; omega))
theorem AE (l : List aG) : (∀ i, i < l.length → good l i) ↔ canon l := by
 cases l with
 | nil => exact ⟨fun _ => ⟨by show (0 : Int) ≤ 4096; omega, trivial⟩, fun _ i hi => by simp at hi⟩
 | cons x l =>
  rw [yX]; constructor
  · rintro ⟨h1, ⟨h2, h3⟩, h4⟩; exact ⟨⟨h1, h3⟩, h4⟩
  · rintro ⟨⟨h1, h3⟩, h4⟩; exact ⟨h1, ⟨Int.le_refl _, h3⟩, h4⟩
theorem c1 {α : Type} {p : Prop} [Decidable p] {x y : α} (h : p) : (bif decide p then x else y) = x := by rw [decide_eq_true h]; rfl
theorem c0 {α : Type} {p : Prop} [Decidable p] {x y : α} (h : ¬ p) : (bif decide p then x else y) = y := by rw [decide_eq_false h]; rfl
theorem c2 {α : Type} {p q : Prop} [Decidable p] [Decidable q] {x y : α} (h : p) (k : q) : (bif decide p && decide q then x else y) = x := by rw [decide_eq_true h, decide_eq_true k]; rfl
theorem wS {n : Int} (h0 : -9223372036854775808 ≤ n) (h1 : n ≤ 9223372036854775807) : Go.IntKind.i64.wrap n = n := by
 simp [Go.IntKind.wrap, Go.IntKind.bits, Go.IntKind.signed]; split <;> omega
theorem AF (K k : Nat) (l : List aG) (i : Nat) (hi : i < l.length) (hl : l.length ≤ 600) : V.Check.l1 K l (k + 1) (i : Int) = if good l i then V.Check.l1 K l k ((i + 1 : Nat) : Int) else some (some 1) := by
 have rd : ∀ j : Int, l.getD j.toNat V.zA = rd_T59 l j := fun _ => rfl; have e1 : Go.IntKind.i64.wrap ((i : Int) + 1) = ((i + 1 : Nat) : Int) := by rw [wS (by omega) (by omega)]; rfl
 have al : ∀ x y : aG, V.tr.f K x y = some (decide (attr x = attr y)) := yV; simp only [V.Check.l1, rd, e1, al, Option.bind_some, pq]; rw [c1 (by omega), c2 (by omega) (by omega)]; by_cases h1 : dD (rd_T59 l i).f0 (rd_T59 l i).f1
 · rw [decide_eq_true h1]; simp only [Bool.not_true, cond_false]; by_cases h2 : 0 < i
   · have e : Go.IntKind.i64.wrap ((i : Int) - 1) = (i : Int) - 1 := wS (by omega) (by omega); rw [c1 (by omega), e, c2 (by omega) (by omega)]; by_cases h3 : (rd_T59 l ((i : Int) - 1)).f1 > (rd_T59 l i).f0
     · rw [c1 h3, if_neg (fun h => by have := (h.2 h2).1; omega)]
     · rw [c0 h3, c2 (by omega) (by omega)]; by_cases h4 : (rd_T59 l ((i : Int) - 1)).f1 = (rd_T59 l i).f0
       · rw [show ((rd_T59 l ((i : Int) - 1)).f1 == (rd_T59 l i).f0) = true by simpa using h4]; simp only [cond_true]; rw [c2 (by omega) (by omega)]; by_cases h5 : attr (rd_T59 l ((i : Int) - 1)) = attr (rd_T59 l i)
         · rw [c1 h5, if_neg (fun g => (g.2 h2).2 ⟨h4, h5⟩)]
         · rw [c0 h5, if_pos ⟨h1, fun _ => ⟨by omega, fun t => h5 t.2⟩⟩]
       · rw [show ((rd_T59 l ((i : Int) - 1)).f1 == (rd_T59 l i).f0) = false by simpa using h4]; simp only [cond_false]; rw [if_pos ⟨h1, fun _ => ⟨by omega, fun t => h4 t.1⟩⟩]
   · rw [c0 (by omega), if_pos ⟨h1, fun c => absurd c h2⟩]
 · rw [decide_eq_false h1, if_neg (fun h => h1 h.1)]; rfl
theorem AG (l : List aG) (hl : l.length ≤ 600) : ∀ (d i : Nat), i + d = l.length → ∀ K k, d < k →
    ((∀ j, i ≤ j → j < l.length → good l j) → V.Check.l1 K l k (i : Int) = some (if l.length ≤ 64 then none else some 1)) ∧
    (¬ (∀ j, i ≤ j → j < l.length → good l j) → V.Check.l1 K l k (i : Int) = some (some 1)) := by
 intro d
 induction d with
 | zero =>
  intro i hi K k hk; obtain ⟨k, rfl⟩ : ∃ m, k = m + 1 := ⟨k - 1, by omega⟩; refine ⟨fun _ => ?_, fun h => absurd (fun j a b => by omega) h⟩; rw [V.Check.l1, c0 (by omega)]; by_cases c : l.length ≤ 64
  · rw [if_pos c, c0 (by omega)]
  · rw [if_neg c, c1 (by omega)]
 | succ d ih =>
  intro i hi K k hk; obtain ⟨k, rfl⟩ : ∃ m, k = m + 1 := ⟨k - 1, by omega⟩; rw [AF K k l i (by omega) hl]; by_cases g : good l i
  · rw [if_pos g]; obtain ⟨i1, i2⟩ := ih (i + 1) (by omega) K k (by omega); refine ⟨fun h => i1 (fun j a b => h j (by omega) b), fun h => i2 (fun h' => h (fun j a b => ?_))⟩; by_cases c : j = i
    · subst c; exact g
    · exact h' j (by omega) b
  · rw [if_neg g]; exact ⟨fun h => absurd (h i (Nat.le_refl _) (by omega)) g, fun _ => rfl⟩
theorem pn (l : List aG) (hl : l.length ≤ 600) : Ev (fun k => cO.f k l) (if valid l then none else some 1) := by
 have e : (∀ j, 0 ≤ j → j < l.length → good l j) ↔ canon l := by
  rw [← AE]; exact ⟨fun h j => h j (Nat.zero_le _), fun h j _ => h j⟩
 refine ⟨l.length + 1, fun k hk => ?_⟩; obtain ⟨h1, h2⟩ := AG l hl l.length 0 (by omega) k k (by omega); show V.Check.l1 k l k ((0 : Nat) : Int) = _; by_cases c : canon l
 · rw [h1 (e.mpr c)]; by_cases c' : l.length ≤ 64
   · rw [if_pos c', if_pos ⟨c, c'⟩]
   · rw [if_neg c', if_neg (fun h => c' h.2)]
 · rw [h2 (fun h => c (e.mp h)), if_neg (fun h => c h.1)]
theorem tu (A : List aG) (a : aG) (x y : Int) (hA : A.length ≤ 2000) : dA.f A a.f0 a.f1 a.f2.f0 a.f2.f1 a.f3 x y = some (A ++ cut x y [a]) := by
 unfold dA.f; rw [tj]; by_cases c : mx a.f0 x < mn a.f1 y
 · rw [if_pos c, if_pos c, if_pos (by omega)]; rfl
 · rw [if_neg c, if_neg c]; simp [cut]
theorem IN (x y : Int) (l m : List aG) : cut x y (l ++ m) = cut x y l ++ cut x y m := List.filterMap_append
theorem iR (x y : Int) (l : List aG) : (cut x y l).length ≤ l.length := List.length_filterMap_le _ _
theorem AH (f t : Int) : ∀ (suf pre A I B : List aG), (pre ++ suf).length ≤ 600 → A.length ≤ pre.length → I.length ≤ pre.length → B.length ≤ pre.length →
    Ev (fun k => bZ.l0 k f t A I B (pre ++ suf) ((pre ++ suf).length : Int) (pre.length : Int)) (A ++ cut 0 f suf, I ++ cut f t suf, B ++ cut t 4096 suf) := by
     intro suf
     induction suf with
     | nil =>
      intro pre A I B hlen hA hI hB; refine fm (fR (fun k => ?_)); simp only [bZ.l0]; rw [if_neg (by simp)]; simp [cut]
     | cons b suf ih =>
      intro pre A I B hlen hA hI hB; have hp : (pre ++ b :: suf).length = pre.length + (suf.length + 1) := by simp
      have c1 := iR 0 f [b]; have c2 := iR f t [b]; have c3 := iR t 4096 [b]; simp only [List.length_singleton] at c1 c2 c3; have h1 := ih (pre ++ [b]) (A ++ cut 0 f [b]) (I ++ cut f t [b]) (B ++ cut t 4096 [b]) (by simpa using hlen) (by simp; omega) (by simp; omega) (by simp; omega)
      have q : ∀ (Z : List aG) (x y : Int), Z ++ cut x y [b] ++ cut x y suf = Z ++ cut x y (b :: suf) := fun Z x y => by
       rw [List.append_assoc, ← IN]; rfl
      rw [q, q, q, List.append_assoc] at h1; refine Ev.step (fun k => ?_) h1; simp only [bZ.l0]; rw [if_pos (by omega), if_pos (by omega), if_pos (by omega), pg, tu A b 0 f (by omega), Option.bind_some, tu I b f t (by omega), Option.bind_some, tu B b t 4096 (by omega), Option.bind_some, dN (by omega) (by omega)]; simp
theorem sZ (l : List aG) (f t : Int) (hl : l.length ≤ 600) : Ev (fun k => bZ.f k l f t) (cut 0 f l, cut f t l, cut t 4096 l) := by
 have := AH f t l [] [] [] [] hl (Nat.le_refl _) (Nat.le_refl _) (Nat.le_refl _); simpa [bZ.f] using this
theorem Ff (pre : List (List aG)) (b : List aG) (suf : List (List aG)) : rd_L4 (pre ++ b :: suf) (pre.length : Int) = b := by
 unfold rd_L4; rw [List.getD_eq_getElem?_getD]; simp
theorem Dk : ∀ (suf pre : List (List aG)) (A : List aG), (pre ++ suf).length ≤ 10 → A.length + suf.flatten.length ≤ 4000 →
    Ev (fun k => bK.l1 k A (pre ++ suf) ((pre ++ suf).length : Int) (pre.length : Int)) (A ++ suf.flatten) := by
     intro suf
     induction suf with
     | nil =>
      intro pre A hlen hA; refine fm (fR (fun k => ?_)); simp only [bK.l1]; rw [if_neg (by simp)]; simp
     | cons b suf ih =>
      intro pre A hlen hA; have hp : (pre ++ b :: suf).length = pre.length + (suf.length + 1) := by simp
      simp only [List.flatten_cons, List.length_append] at hA; have h1 := ih (pre ++ [b]) (A ++ b) (by simpa using hlen) (by simp only [List.length_append]; omega); rw [List.append_assoc, List.append_assoc] at h1; refine Ev.step (fun k => ?_) h1; simp only [bK.l1]; rw [if_pos (by omega), if_pos (by omega), if_pos (by omega), Ff, if_pos (by omega), dN (by omega) (by omega)]; simp
theorem Dl (L : List (List aG)) (hL : L.length ≤ 10) (hf : L.flatten.length ≤ 4000) : ∀ (suf pre : List (List aG)), pre ++ suf = L →
    Ev (fun k => bK.l0 k L (pre.flatten.length : Int) L (L.length : Int) (pre.length : Int)) L.flatten := by
     intro suf
     induction suf with
     | nil =>
      intro pre he; rw [List.append_nil] at he; subst he; have h1 := Dk pre [] [] (by simpa using hL) (by simpa using hf); refine Ev.step (fun k => ?_) h1
      have hg : gy.f (pre.flatten.length : Int) = some [] := by
       unfold gy.f; rw [if_pos (by omega), if_pos (by omega)]
      rw [bK.l0, if_neg (by omega), hg]; rfl
     | cons b suf ih =>
      intro pre he; have h1 := ih (pre ++ [b]) (by simpa using he); have hp : L.length = pre.length + (suf.length + 1) := by rw [← he]; simp
      have hq : pre.flatten.length + b.length ≤ L.flatten.length := by rw [← he]; simp
      have e2 : (pre ++ [b]).flatten.length = pre.flatten.length + b.length := by simp
      have e3 : (pre ++ [b]).length = pre.length + 1 := by simp
      rw [e2, e3] at h1; refine Ev.step (fun k => ?_) h1; simp only [bK.l0]; have e : rd_L4 L (pre.length : Int) = b := by rw [← he]; exact Ff pre b suf
      rw [if_pos (by omega), if_pos (by omega), if_pos (by omega), e, dN (n := (pre.flatten.length : Int) + (b.length : Int)) (by omega) (by omega), if_neg (by omega), dN (by omega) (by omega)]; rfl
theorem Dm (L : List (List aG)) (hL : L.length ≤ 10) (hf : L.flatten.length ≤ 4000) : Ev (fun k => bK.f k L) L.flatten := by
 have := Dl L hL hf L [] rfl; simpa [bK.f] using this
def fin (z : List aG) : List aG × Option Int := if z.length ≤ 64 then (z, none) else ([], some 5)
theorem OQ (L : List aG) (hL : L.length ≤ 4000) : ∀ (suf pre o : List aG) (y : aG), L = pre ++ suf → o.length + 1 ≤ pre.length →
    Ev (fun k => aH.l0 k (o ++ [y]) L (L.length : Int) (pre.length : Int)) (fin (o ++ jn y suf)) := by
     intro suf
     induction suf with
     | nil =>
      intro pre o y he ho; rw [List.append_nil] at he; subst he; refine fm (fR (fun k => ?_)); simp only [aH.l0]; rw [if_neg (by omega)]; unfold fin jn; by_cases c : (o ++ [y]).length ≤ 64
      · rw [if_pos c, if_neg (by omega)]
      · rw [if_neg c, if_pos (by omega)]
     | cons x suf ih =>
      intro pre o y he ho; have hp : L.length = pre.length + (suf.length + 1) := by rw [he]; simp
      have hx : rd_T59 L (pre.length : Int) = x := by rw [he]; exact pg pre x suf
      have hol : ((o ++ [y]).length : Int) = (o.length : Int) + 1 := by simp
      have w1 : wrap64 (((o ++ [y]).length : Int) - 1) = (o.length : Int) := by rw [hol, dN (by omega) (by omega)]; omega
      have hy : rd_T59 (o ++ [y]) (o.length : Int) = y := pg o y []; have h1 := fun o' y' (ho' : o'.length + 1 ≤ pre.length + 1) => ih (pre ++ [x]) o' y' (by rw [he]; simp) (by simpa using ho'); rw [show (pre ++ [x]).length = pre.length + 1 by simp] at h1; have w2 : wrap64 ((pre.length : Int) + 1) = ((pre.length + 1 : Nat) : Int) := by rw [dN (by omega) (by omega)]; rfl
      refine Ev.step (f := fun k => aH.j1 k (o ++ [y]) ((o ++ [y]).length : Int) L (L.length : Int) (pre.length : Int) (decide (kV y x)) x.f0 x.f1 x.f2.f0 x.f2.f1 x.f3) (fun k => ?_) ?_
      · simp only [aH.l0]; rw [if_pos (by omega), if_pos (by omega), if_pos (by omega), if_pos (by omega), w1, hx, hy, if_pos (by omega), if_pos (by omega)]; by_cases c : y.f1 = x.f0
        · rw [if_pos c, yV, Option.bind_some]; congr 1; exact decide_eq_decide.mpr ⟨fun h => ⟨c, h⟩, fun h => h.2⟩
        · rw [if_neg c, decide_eq_false (fun h => c h.1)]
      · rw [jn]; by_cases t : kV y x
        · rw [if_pos t, decide_eq_true t]; have h2 := h1 o ⟨y.f0, x.f1, y.f2, y.f3⟩ (by omega); refine Ev.step (fun k => ?_) h2; simp only [aH.j1]; rw [if_pos trivial, w1, hy, if_pos (by omega), if_pos (by omega), w2]; congr 1; simp
        · rw [if_neg t, decide_eq_false t]; have h2 := h1 (o ++ [y]) x (by simp; omega); have q : o ++ [y] ++ jn x suf = o ++ y :: jn x suf := by simp
          rw [q] at h2; refine Ev.step (fun k => ?_) h2; simp only [aH.j1]; rw [if_neg Bool.false_ne_true, if_pos (by omega), w2]
theorem qq (L : List (List aG)) (hL : L.length ≤ 10) (hf : L.flatten.length ≤ 4000) : Ev (fun k => aH.f k L) (fin (join L.flatten)) := by
 unfold aH.f; refine Ev.bind (Dm L hL hf) ?_; generalize L.flatten = M at hf ⊢
 cases M with
 | nil => exact fm (fR (fun k => by simp [aH.l0, fin, join]))
 | cons x l =>
  have h1 := OQ (x :: l) hf l [x] [] x rfl (by simp); refine Ev.step (f := fun k => aH.j1 k [] 0 (x :: l) ((x :: l).length : Int) 0 false x.f0 x.f1 x.f2.f0 x.f2.f1 x.f3) (fun k => ?_) (Ev.step (fun k => ?_) h1)
  · simp only [aH.l0]; rw [if_pos (by simp), if_pos (by omega), if_pos (by simp), if_neg (by simp)]; rfl
  · simp only [aH.j1]; rw [if_neg Bool.false_ne_true, if_pos (by simp), dN (by omega) (by omega)]; rfl
theorem LX (l : List aG) (a : aG) (hl : l.length ≤ 600) : Ev (fun k => dF.f k l a.f0 a.f1 a.f2.f0 a.f2.f1 a.f3) (if valid l ∧ dD a.f0 a.f1 then fin (yQ l a) else ([], some 1)) := by
 have bad : Ev (fun k => dF.j0 k l true a.f0 a.f1 a.f2.f0 a.f2.f1 a.f3) ([], some 1) := fm (fR (fun k => by simp only [dF.j0]; rw [if_pos trivial])); unfold dF.f; refine Ev.bind (pn l hl) ?_; by_cases v : valid l
 · simp only [if_pos v, Option.isNone_none, if_true, pq, Option.bind_some]; by_cases s : dD a.f0 a.f1
   · rw [if_pos ⟨v, s⟩, decide_eq_true s]; refine fm ?_; simp -implicitDefEqProofs only [dF.j0, Bool.not_true, Bool.false_eq_true, if_false]; refine Ev.bind (sZ l a.f0 a.f1 hl) ?_; have c1 := iR 0 a.f0 l; have c3 := iR a.f1 4096 l; have hj := qq [cut 0 a.f0 l, [a], cut a.f1 4096 l] (by simp) (by simp; omega); refine Ev.bind hj ?_; refine fR (fun k => ?_); simp [yQ]
   · rw [if_neg (fun h => s h.2), decide_eq_false s]; exact bad
 · simp only [if_neg v, Option.isNone_some, Bool.false_eq_true, if_false]; rw [if_neg (fun h => v h.1)]; exact bad
theorem LY (l : List aG) (f t : Int) (hl : l.length ≤ 600) : Ev (fun k => dG.f k l f t) (if valid l ∧ dD f t then fin (yR l f t) else ([], some 1)) := by
 have bad : Ev (fun k => dG.j0 k l f t true) ([], some 1) := fm (fR (fun k => by simp only [dG.j0]; rw [if_pos trivial])); unfold dG.f; refine Ev.bind (pn l hl) ?_; by_cases v : valid l
 · simp only [if_pos v, Option.isNone_none, if_true, pq, Option.bind_some]; by_cases s : dD f t
   · rw [if_pos ⟨v, s⟩, decide_eq_true s]; refine fm ?_; simp -implicitDefEqProofs only [dG.j0, Bool.not_true, Bool.false_eq_true, if_false]; refine Ev.bind (sZ l f t hl) ?_; have c1 := iR 0 f l; have c3 := iR t 4096 l; have hj := qq [cut 0 f l, cut t 4096 l] (by simp) (by simp; omega); refine Ev.bind hj ?_; refine fR (fun k => ?_); simp [yR]
   · rw [if_neg (fun h => s h.2), decide_eq_false s]; exact bad
 · simp only [if_neg v, Option.isNone_some, Bool.false_eq_true, if_false]; rw [if_neg (fun h => v h.1)]; exact bad
end Go.Proofs.Ytmjnenjeckeklaa.AreaEv
namespace Go.Proofs.Ytmjnenjeckeklaa.AreaRef
open Go.RowKit Go.Proofs.YtmjnenjeckeklaaW.PrintWords Go.Proofs.YtmjnenjeckeklaaW.PrintMore Go.Proofs.Ytmjnenjeckeklaa.Bits Go.Proofs.Ytmjnenjeckeklaa.Q Go.Proofs.Ytmjnenjeckeklaa.AreaLib Go.Proofs.Ytmjnenjeckeklaa.AreaEv
def iw : Option At → dL
  | none => NX
  | some a => ⟨true, a.1, a.2.1, a.2.2⟩
def fW (g : Int → Option At) : List dL := (List.range 4096).map (fun p : Nat => iw (g (p : Int)))
theorem fo (g : Int → Option At) : (fW g).length = 4096 := by unfold fW; rw [List.length_map, List.length_range]
theorem jt (g : Int → Option At) (i : Int) (h0 : 0 ≤ i) (h1 : i < 4096) : rd_T72 (fW g) i = iw (g i) := by
 obtain ⟨n, rfl⟩ : ∃ n : Nat, i = n := ⟨i.toNat, by omega⟩; have hn : n < 4096 := by omega
 unfold rd_T72 fW; rw [Int.toNat_natCast, List.getD_eq_getElem?_getD, List.getElem?_map, List.getElem?_range hn]; rfl
def dn (g : Int → Option At) (i : Int) (v : Option At) : Int → Option At := fun q => if q = i then v else g q
theorem xB (g : Int → Option At) (i : Int) (v : Option At) (h0 : 0 ≤ i) : (fW g).set i.toNat (iw v) = fW (dn g i v) := by
 obtain ⟨n, rfl⟩ : ∃ n : Nat, i = n := ⟨i.toNat, by omega⟩; unfold fW dn; rw [Int.toNat_natCast]; apply List.ext_getElem?; intro j; rw [List.getElem?_set, List.getElem?_map, List.getElem?_map, List.length_map, List.length_range]; by_cases hj : j < 4096
 · rw [List.getElem?_range hj]; by_cases e : n = j
   · subst e; simp [hj]
   · have e' : ¬ ((j : Int) = (n : Int)) := by omega
     simp [e, e']
 · rw [List.getElem?_eq_none (by rw [List.length_range]; omega)]; by_cases e : n = j
   · subst e; simp [hj]
   · simp [e]
theorem jD {g h : Int → Option At} (e : ∀ p, 0 ≤ p → p < 4096 → g p = h p) : fW g = fW h := by
 unfold fW; apply List.map_congr_left; intro p hp; rw [List.mem_range] at hp; rw [e (p : Int) (by omega) (by omega)]
theorem MV (n : Nat) : List.replicate n NX = (List.range n).map (fun p : Nat => iw ((fun _ => none : Int → Option At) (p : Int))) := by
 rw [List.map_const', List.length_range]; rfl
theorem blank : List.replicate 4096 NX = fW (fun _ => none) := by
 unfold fW; exact MV 4096
theorem JC (u v : Option At) : ((iw u).f0 == (iw v).f0 && ((iw u).f1 == (iw v).f1 && ((iw u).f2 == (iw v).f2 && ((iw u).f3 == (iw v).f3)))) = decide (u = v) := by
 rcases u with _ | ⟨a, b, c⟩ <;> rcases v with _ | ⟨a', b', c'⟩
 · rfl
 · rfl
 · rfl
 · cases a <;> cases b <;> cases c <;> cases a' <;> cases b' <;> cases c' <;> rfl
theorem vS : ∀ {o : List aG} {y : aG} {q e : Int}, eT q (o ++ [y]) e → eT q o y.f0 ∧ y.f0 < y.f1 ∧ y.f1 ≤ e
  | [], y, q, e, h => ⟨h.1, h.2.1, h.2.2⟩
  | x :: o, y, q, e, h => by
    obtain ⟨h1, h2, h3⟩ := h
    obtain ⟨a, b, c⟩ := vS h3
    exact ⟨⟨h1, h2, a⟩, b, c⟩
theorem uj : ∀ {o : List aG} {y x : aG}, apart (o ++ [y]) → ¬ kV y x → apart (o ++ [y] ++ [x])
  | [], y, x, h, t => ⟨t, trivial⟩
  | [z], y, x, h, t => ⟨h.1, t, trivial⟩
  | z :: z' :: o, y, x, h, t => ⟨h.1, uj (o := z' :: o) h.2 t⟩
theorem JD (g : Int → Option At) (a : Int) : ∀ (d : Nat) (t : Int), t + d = 4096 → a < t → (∀ p, a ≤ p → p < t → g p = g a) → ∃ e, t ≤ e ∧ e ≤ 4096 ∧ (∀ p, a ≤ p → p < e → g p = g a) ∧ (e < 4096 → g e ≠ g a) := by
 intro d
 induction d with
 | zero => intro t ht ha h; exact ⟨t, Int.le_refl _, by omega, h, fun c => by omega⟩
 | succ d ih =>
  intro t ht ha h; by_cases c : g t = g a
  · obtain ⟨e, h1, h2, h3, h4⟩ := ih (t + 1) (by omega) (by omega) (fun p p1 p2 => by
     by_cases e : p = t
     · rw [e]; exact c
     · exact h p p1 (by omega))
    exact ⟨e, by omega, h2, h3, h4⟩
  · exact ⟨t, Int.le_refl _, by omega, h, fun _ => c⟩
theorem GC (g : Int → Option At) (out : List aG) (a e : Int) (h0 : 0 ≤ a) (ha : a < 4096) (he : e ≤ 4096) (hs : ∀ p, a ≤ p → p < e → g p = g a) (hn : e < 4096 → g e ≠ g a) (r : List aG × Bool) (h : Ev (fun k => aD.j2 k (fW g) out a e false) r) :
    ∀ (d : Nat) (t : Int), t + d = e → a < t → Ev (fun k => aD.l1 k (fW g) out a t) r := by
 have step : ∀ (t : Int) (k : Nat), a < t → t ≤ 4096 → aD.l1 (k + 1) (fW g) out a t = aD.j2 k (fW g) out a t (decide (t < 4096 ∧ g t = g a)) := by
  intro t k t1 t2; rw [aD.l1]; by_cases c : t < 4096
  · rw [if_pos c, if_pos (by omega), fo, if_pos (by omega), if_pos h0, if_pos (by omega), jt g t (by omega) c, jt g a h0 ha, JC]; congr 1; exact decide_eq_decide.mpr ⟨fun q => ⟨c, q⟩, fun q => q.2⟩
  · rw [if_neg c, decide_eq_false (fun q => c q.1)]
 intro d
 induction d with
 | zero =>
  intro t ht h1; obtain rfl : t = e := by omega
  refine Ev.step (fun k => ?_) h; rw [step t k h1 he, decide_eq_false (fun q => hn q.1 q.2)]
 | succ d ih =>
  intro t ht h1; refine Ev.step (f := fun k => aD.j2 k (fW g) out a t true) (fun k => ?_) (Ev.step (fun k => ?_) (ih (t + 1) (by omega) (by omega)))
  · rw [step t k h1 (by omega), decide_eq_true ⟨by omega, hs t (by omega) (by omega)⟩]
  · rw [aD.j2, if_pos rfl, dN (by omega) (by omega)]
theorem JE (g : Int → Option At) : ∀ (n : Nat) (a : Int) (out : List aG), 0 ≤ a → a ≤ 4096 → 4096 - a ≤ n → eT 0 out a → apart out → (out.length : Int) ≤ a → (∀ p, 0 ≤ p → p < a → at_ out p = g p) → (0 < a → a < 4096 → g (a - 1) ≠ g a) →
    ∃ z, canon z ∧ (∀ p, 0 ≤ p → p < 4096 → at_ z p = g p) ∧ Ev (fun k => aD.l0 k (fW g) out a) (z, decide (z.length ≤ 64)) := by
 intro n
 induction n with
 | zero =>
  intro a out h0 h1 hn hl ha hlen hat hb; obtain rfl : a = 4096 := by omega
  refine ⟨out, ⟨hl, ha⟩, hat, fm (fR (fun k => ?_))⟩; rw [aD.l0, if_neg (by omega)]; congr 2; exact decide_eq_decide.mpr (by omega)
 | succ n ih =>
  intro a out h0 h1 hn hl ha hlen hat hb; by_cases c : a < 4096
  · obtain ⟨e, e1, e2, e3, e4⟩ := JD g a (4096 - (a + 1)).toNat (a + 1) (by omega) (by omega) (fun p p1 p2 => by rw [show p = a by omega])
    have go : ∀ (out' : List aG), eT 0 out' e → apart out' → (out'.length : Int) ≤ e → (∀ p, 0 ≤ p → p < e → at_ out' p = g p) →
        (∀ r, Ev (fun k => aD.l0 k (fW g) out' e) r → Ev (fun k => aD.j2 k (fW g) out a e false) r) →
        ∃ z, canon z ∧ (∀ p, 0 ≤ p → p < 4096 → at_ z p = g p) ∧ Ev (fun k => aD.l0 k (fW g) out a) (z, decide (z.length ≤ 64)) := by
      intro out' l' a' len' at' hj
      obtain ⟨z, z1, z2, z3⟩ := ih e out' (by omega) e2 (by omega) l' a' len' at' (fun _ he => by
        rw [e3 (e - 1) (by omega) (by omega)]
        exact fun q => e4 he q.symm)
      refine ⟨z, z1, z2, ?_⟩
      have h2 := GC g out a e h0 c e2 e3 e4 _ (hj _ z3) (e - (a + 1)).toNat (a + 1) (by omega) (by omega)
      refine Ev.step (fun k => ?_) h2
      rw [aD.l0, if_pos c, dN (by omega) (by omega)]
    cases hg : g a with
    | none =>
     refine go out (E9 (by omega) hl) ha (by omega) (fun p p0 p1 => ?_) (fun r hr => ?_)
     · by_cases d : p < a
       · exact hat p p0 d
       · rw [mK hl (by omega), e3 p (by omega) p1, hg]
     · refine Ev.step (fun k => ?_) hr; rw [aD.j2, if_neg Bool.false_ne_true, if_pos h0, fo, if_pos (by omega), jt g a h0 c, hg, if_neg (by decide)]
    | some v =>
     obtain ⟨v0, v1, v2⟩ := v; have hx : eT a [⟨a, e, ⟨v0, v1⟩, v2⟩] e := ⟨Int.le_refl _, by show a < e; omega, Int.le_refl e⟩; refine go (out ++ [⟨a, e, ⟨v0, v1⟩, v2⟩]) (kT hl hx) ?_ (by simp; omega) (fun p p0 p1 => ?_) (fun r hr => ?_)
     · rcases List.eq_nil_or_concat out with rfl | ⟨o, y, rfl⟩
       · exact trivial
       · rw [List.concat_eq_append] at hl ha hat hlen ⊢; refine uj ha (fun t => ?_); obtain ⟨t1, t2⟩ := t; have t1' : y.f1 = a := t1; obtain ⟨b1, b2, b3⟩ := vS hl; have b4 := nv b1; have q := hat (a - 1) (by omega) (by omega); rw [oE, mK b1 (by omega), Option.none_or, at_, if_pos (by omega)] at q; refine hb (by omega) c ?_; rw [← q, hg, t2]; rfl
     · rw [oE]; by_cases d : p < a
       · rw [hat p p0 d, jJ (l := [⟨a, e, ⟨v0, v1⟩, v2⟩]) hx d]; exact Option.or_none
       · rw [mK hl (by omega), Option.none_or, at_, if_pos (by show a ≤ p ∧ p < e; omega), e3 p (by omega) p1, hg]; rfl
     · refine Ev.step (fun k => ?_) hr; rw [aD.j2, if_neg Bool.false_ne_true, if_pos h0, fo, if_pos (by omega), jt g a h0 c, hg, if_pos (show (iw (some (v0, v1, v2))).f0 = true from rfl)]; show (if out.length < 5864062014805 then _ else _) = _; rw [if_pos (by omega)]; rfl
  · obtain rfl : a = 4096 := by omega
    refine ⟨out, ⟨hl, ha⟩, hat, fm (fR (fun k => ?_))⟩; rw [aD.l0, if_neg (by omega)]; congr 2; exact decide_eq_decide.mpr (by omega)
theorem FY (g : Int → Option At) : ∃ z, canon z ∧ (∀ p, 0 ≤ p → p < 4096 → at_ z p = g p) ∧ Ev (fun k => aD.f k (fW g)) (z, decide (z.length ≤ 64)) :=
  JE g 4096 0 [] (Int.le_refl _) (by omega) (by omega) (Int.le_refl (0 : Int)) trivial (by simp) (fun p a b => by omega) (fun a => by omega)
end Go.Proofs.Ytmjnenjeckeklaa.AreaRef
namespace Go.Proofs.Ytmjnenjeckeklaa.AreaFind
open Go.RowKit Go.Proofs.YtmjnenjeckeklaaW.PrintWords Go.Proofs.YtmjnenjeckeklaaW.PrintMore Go.Proofs.Ytmjnenjeckeklaa.Bits Go.Proofs.Ytmjnenjeckeklaa.Q Go.Proofs.Ytmjnenjeckeklaa.AreaLib Go.Proofs.Ytmjnenjeckeklaa.AreaEv
def look : List aG → Int → Option aG
  | [], _ => none
  | x :: l, p => if x.f0 ≤ p ∧ p < x.f1 then some x else look l p
theorem rU : ∀ (l : List aG) (p : Int), at_ l p = (look l p).map attr
  | [], _ => rfl
  | x :: l, p => by
    rw [at_, look]
    by_cases c : x.f0 ≤ p ∧ p < x.f1
    · rw [if_pos c, if_pos c]; rfl
    · rw [if_neg c, if_neg c]; exact rU l p
theorem has_eq (p : Int) (x : aG) : cA.has p x = decide (x.f0 ≤ p ∧ p < x.f1) := by
 unfold cA.has; by_cases c : x.f0 ≤ p <;> by_cases d : p < x.f1 <;> simp [c, d]
theorem DP (L : List aG) (hL : L.length ≤ 600) (p : Int) : ∀ (suf pre : List aG), L = pre ++ suf →
    (∃ j : Nat, ∃ x, j < L.length ∧ L[j]? = some x ∧ look suf p = some x ∧ Ev (fun k => cq.l0 k L (cA.has p) (L.length : Int) (pre.length : Int)) (j : Int)) ∨
    (look suf p = none ∧ Ev (fun k => cq.l0 k L (cA.has p) (L.length : Int) (pre.length : Int)) (-1)) := by
 intro suf
 induction suf with
 | nil =>
  intro pre he; refine .inr ⟨rfl, fm (fR (fun k => ?_))⟩; rw [cq.l0, if_neg (by rw [he]; simp)]
 | cons x suf ih =>
  intro pre he; have hp : L.length = pre.length + (suf.length + 1) := by rw [he]; simp
  have hx : rd_T59 L (pre.length : Int) = x := by rw [he]; exact pg pre x suf
  have ha : ∀ k, cq.l0 (k + 1) L (cA.has p) (L.length : Int) (pre.length : Int) = if x.f0 ≤ p ∧ p < x.f1 then some (pre.length : Int) else cq.l0 k L (cA.has p) (L.length : Int) ((pre.length + 1 : Nat) : Int) := by
   intro k; rw [cq.l0, if_pos (by omega), if_pos (by omega), if_pos (by omega), hx]; unfold vk.f; rw [Option.bind_some, has_eq, dN (by omega) (by omega)]; by_cases c : x.f0 ≤ p ∧ p < x.f1
   · rw [if_pos c, if_pos (decide_eq_true c)]
   · rw [if_neg c, if_neg (by simpa using c)]; rfl
  rw [look]; by_cases c : x.f0 ≤ p ∧ p < x.f1
  · refine .inl ⟨pre.length, x, by omega, by rw [he]; simp, by rw [if_pos c], fm (fR (fun k => ?_))⟩; rw [ha k, if_pos c]
  · rw [if_neg c]; have h1 := ih (pre ++ [x]) (by rw [he]; simp); rw [show (pre ++ [x]).length = pre.length + 1 by simp] at h1; rcases h1 with ⟨j, y, a1, a2, a3, a4⟩ | ⟨a1, a2⟩
    · exact .inl ⟨j, y, a1, a2, a3, Ev.step (fun k => by rw [ha k, if_neg c]) a4⟩
    · exact .inr ⟨a1, Ev.step (fun k => by rw [ha k, if_neg c]) a2⟩
def P5 : Option aG → Int × Int × Bool × Bool × Bool × Option Int
  | some x => (x.f0, x.f1, x.f2.f0, x.f2.f1, x.f3, none)
  | none => (0, 0, false, false, false, some 3)
theorem Je (l : List aG) (p : Int) (hl : l.length ≤ 600) : Ev (fun k => jB.f k l p) (if valid l then P5 (look l p) else (0, 0, false, false, false, some 1)) := by
 unfold jB.f; refine Ev.bind (pn l hl) ?_; by_cases v : valid l
 · simp only [if_pos v, Option.isNone_none, if_true]; rcases DP l hl p l [] rfl with ⟨j, x, a1, a2, a3, a4⟩ | ⟨a1, a2⟩
   · refine Ev.bind (show Ev (fun k => cA.f k l p) (j : Int) from a4) ?_; refine fR (fun k => ?_)
     have e : rd_T59 l (j : Int) = x := by
      unfold rd_T59; rw [Int.toNat_natCast, List.getD_eq_getElem?_getD, a2]; rfl
     rw [if_neg (by omega), if_pos (by omega), if_pos (by omega), e, a3]; rfl
   · refine Ev.bind (show Ev (fun k => cA.f k l p) (-1) from a2) ?_; refine fR (fun k => ?_); rw [if_pos (by omega), a1]; rfl
 · simp only [if_neg v, Option.isNone_some, Bool.false_eq_true, if_false]; exact fR (fun k => rfl)
end Go.Proofs.Ytmjnenjeckeklaa.AreaFind
namespace Go.Proofs.Ytmjnenjeckeklaa.AreaEach
open Go.RowKit Go.Proofs.YtmjnenjeckeklaaW.PrintWords Go.Proofs.YtmjnenjeckeklaaW.PrintMore Go.Proofs.Ytmjnenjeckeklaa.Bits Go.Proofs.Ytmjnenjeckeklaa.Q Go.Proofs.Ytmjnenjeckeklaa.AreaLib Go.Proofs.Ytmjnenjeckeklaa.AreaEv
def fQ : List aG → Int
  | [] => 0
  | x :: l => (x.f1 - x.f0) + fQ l
theorem Av : ∀ {l : List aG} {q e : Int}, eT q l e → 0 ≤ fQ l ∧ fQ l ≤ e - q
  | [], q, e, h => ⟨Int.le_refl _, by have : q ≤ e := h; show (0 : Int) ≤ e - q; omega⟩
  | x :: l, q, e, h => by
    obtain ⟨h1, h2, h3⟩ := h
    obtain ⟨i1, i2⟩ := Av h3
    rw [fQ]
    omega
theorem full : ∀ {l : List aG} {q e : Int}, eT q l e → ¬ fQ l < e - q → ∀ p, q ≤ p → p < e → at_ l p ≠ none
  | [], q, e, h, hs, p, p1, p2 => by
    have : ¬ (0 : Int) < e - q := hs
    omega
  | x :: l, q, e, h, hs, p, p1, p2 => by
    obtain ⟨h1, h2, h3⟩ := h
    have i := (Av h3).2
    rw [fQ] at hs
    rw [at_]
    by_cases c : x.f0 ≤ p ∧ p < x.f1
    · rw [if_pos c]; simp
    · rw [if_neg c]
      exact full h3 (by omega) p (by omega) p2
theorem QL : ∀ {l : List aG} {q e : Int}, eT q l e → fQ l < e - q → ∃ p, q ≤ p ∧ p < e ∧ at_ l p = none
  | [], q, e, h, hs => ⟨q, Int.le_refl _, by have : (0 : Int) < e - q := hs; omega, rfl⟩
  | x :: l, q, e, h, hs => by
    obtain ⟨h1, h2, h3⟩ := h
    have l4 := nv h3
    rw [fQ] at hs
    by_cases c : q < x.f0
    · exact ⟨q, Int.le_refl _, by omega, jJ (l := x :: l) (q := x.f0) (e := e) ⟨Int.le_refl _, h2, h3⟩ c⟩
    · obtain ⟨p, p1, p2, p3⟩ := QL h3 (by omega)
      exact ⟨p, by omega, p2, by rw [at_, if_neg (by omega)]; exact p3⟩
theorem wC : ∀ (l m : List aG), fQ (l ++ m) = fQ l + fQ m
  | [], m => by simp [fQ]
  | x :: l, m => by rw [List.cons_append, fQ, fQ, wC l m]; omega
def keeps (φ : aG → aG) (ψ : At → At) : Prop := ∀ x, (φ x).f0 = x.f0 ∧ (φ x).f1 = x.f1 ∧ attr (φ x) = ψ (attr x)
theorem yB {φ : aG → aG} {ψ : At → At} (k : keeps φ ψ) : ∀ {l : List aG} {q e : Int}, eT q l e → eT q (l.map φ) e
  | [], _, _, h => h
  | x :: l, q, e, h => by
    obtain ⟨h1, h2, h3⟩ := h
    obtain ⟨k1, k2, _⟩ := k x
    rw [List.map_cons]
    exact ⟨by rw [k1]; exact h1, by rw [k1, k2]; exact h2, by rw [k2]; exact yB k h3⟩
theorem EL {φ : aG → aG} {ψ : At → At} (k : keeps φ ψ) (p : Int) : ∀ l : List aG, at_ (l.map φ) p = (at_ l p).map ψ
  | [] => rfl
  | x :: l => by
    obtain ⟨k1, k2, k3⟩ := k x
    rw [List.map_cons, at_, at_, k1, k2, k3]
    by_cases c : x.f0 ≤ p ∧ p < x.f1
    · rw [if_pos c, if_pos c]; rfl
    · rw [if_neg c, if_neg c]; exact EL k p l
def j6 (φ : aG → aG) (l : List aG) (f t : Int) : List aG := join (cut 0 f l ++ ((cut f t l).map φ ++ cut t 4096 l))
theorem uW {φ : aG → aG} {ψ : At → At} (k : keeps φ ψ) {l : List aG} {f t : Int} (hl : eT 0 l 4096) (ha : dD f t) : eT 0 (cut 0 f l ++ ((cut f t l).map φ ++ cut t 4096 l)) 4096 := by
 obtain ⟨a1, a2, a3⟩ := ha; exact kT (gv 0 f l 0 4096 0 hl a1 (by omega)) (kT (yB k (gv f t l 0 4096 f hl (Int.le_of_lt a2) (by omega))) (gv t 4096 l 0 4096 t hl a3 (by omega)))
theorem Ax {φ : aG → aG} {ψ : At → At} (k : keeps φ ψ) {l : List aG} {f t : Int} (hl : canon l) (ha : dD f t) : canon (j6 φ l f t) := ⟨qp (uW k hl.1 ha), oD _⟩
theorem Ib {φ : aG → aG} {ψ : At → At} (k : keeps φ ψ) {l : List aG} {f t : Int} (hl : canon l) (ha : dD f t) (p : Int) : at_ (j6 φ l f t) p = if f ≤ p ∧ p < t then (at_ l p).map ψ else at_ l p := by
 have hla := uW k hl.1 ha; obtain ⟨a1, a2, a3⟩ := ha; unfold j6; rw [wD hla, oE, oE, EL k, ku, ku, ku]; by_cases c1 : p < 0
 · rw [jJ hl.1 c1, if_neg (by omega), if_neg (by omega), if_neg (by omega), if_neg (by omega)]; rfl
 by_cases c2 : 4096 ≤ p
 · rw [mK hl.1 c2, if_neg (by omega), if_neg (by omega), if_neg (by omega), if_neg (by omega)]; rfl
 by_cases c3 : p < f
 · rw [if_pos (by omega), if_neg (by omega), if_neg (by omega), if_neg (by omega)]; cases at_ l p <;> rfl
 by_cases c4 : p < t
 · rw [if_neg (by omega), if_pos (by omega), if_neg (by omega), if_pos (by omega)]; cases at_ l p <;> rfl
 · rw [if_neg (by omega), if_neg (by omega), if_pos (by omega), if_neg (by omega)]; rfl
theorem EM : ∀ {l : List aG} {q e : Int}, eT q l e → ∀ x, x ∈ l → q ≤ x.f0 ∧ x.f0 < x.f1 ∧ x.f1 ≤ e
  | [], _, _, _, x, hx => by simp at hx
  | y :: l, q, e, h, x, hx => by
    obtain ⟨h1, h2, h3⟩ := h
    have h4 := nv h3
    rcases List.mem_cons.mp hx with rfl | hx
    · exact ⟨h1, h2, h4⟩
    · obtain ⟨a, b, c⟩ := EM h3 x hx
      exact ⟨by omega, b, c⟩
theorem wF : ∀ {l : List aG}, (∀ x, x ∈ l → x.f0 < x.f1) → 0 ≤ fQ l
  | [], _ => Int.le_refl _
  | y :: l, h => by
    have h1 := h y (by simp)
    have h2 := wF (l := l) (fun x hx => h x (by simp [hx]))
    rw [fQ]
    omega
theorem C8 (φ : aG → aG) (f t : Int) (A B : List aG) (r : List aG × Option Int) (M : List aG) (hM : M.length ≤ 600) (hb : ∀ x, x ∈ M → 0 ≤ x.f0 ∧ x.f0 < x.f1 ∧ x.f1 ≤ 4096) (hs : fQ M ≤ 4096)
    (h : Ev (fun k => bE.l0 k f t φ A (M.map φ) B (fQ M) (M.length : Int) (M.length : Int)) r) : ∀ (suf pre : List aG), M = pre ++ suf →
    Ev (fun k => bE.l0 k f t φ A (pre.map φ ++ suf) B (fQ pre) (M.length : Int) (pre.length : Int)) r := by
     intro suf
     induction suf with
     | nil =>
      intro pre he; rw [List.append_nil] at he; subst he; rw [List.append_nil]; exact h
     | cons x suf ih =>
      intro pre he; have hp : M.length = pre.length + (suf.length + 1) := by rw [he]; simp
      obtain ⟨x1, x2, x3⟩ := hb x (by rw [he]; simp); have s1 : 0 ≤ fQ pre := wF (fun y hy => (hb y (by rw [he]; simp [hy])).2.1); have s2 : 0 ≤ fQ suf := wF (fun y hy => (hb y (by rw [he]; simp [hy])).2.1); have s3 : fQ M = fQ pre + ((x.f1 - x.f0) + fQ suf) := by rw [he, wC, fQ]
      have h1 := ih (pre ++ [x]) (by rw [he]; simp); have e1 : fQ (pre ++ [x]) = fQ pre + (x.f1 - x.f0) := by rw [wC, fQ, fQ]; omega
      have e2 : (pre ++ [x]).length = pre.length + 1 := by simp
      have e3 : (pre ++ [x]).map φ ++ suf = pre.map φ ++ φ x :: suf := by simp
      rw [e1, e2, e3] at h1
      have hx : rd_T59 (pre.map φ ++ x :: suf) (pre.length : Int) = x := by
       have := pg (pre.map φ) x suf; rwa [List.length_map] at this
      have hlen : ((pre.map φ ++ x :: suf).length : Int) = (M.length : Int) := by rw [hp]; simp
      have hset : (pre.map φ ++ x :: suf).set pre.length (φ x) = pre.map φ ++ φ x :: suf := by
       rw [List.set_append_right _ _ (by simp)]; simp
      refine Ev.step (fun k => ?_) h1; rw [bE.l0, if_pos (by omega), if_pos (by omega), hlen, if_pos (by omega), hx]; unfold uX.f; rw [Option.bind_some, dN (n := x.f1 - x.f0) (by omega) (by omega), dN (n := fQ pre + (x.f1 - x.f0)) (by omega) (by omega), dN (n := (pre.length : Int) + 1) (by omega) (by omega), Int.toNat_natCast]; rw [← hset]; rfl
theorem B7 {φ : aG → aG} {ψ : At → At} (kp : keeps φ ψ) (l : List aG) (f t : Int) (hl : l.length ≤ 600) :
    Ev (fun k => bE.f k l f t φ) (if valid l ∧ dD f t then (if fQ (cut f t l) < t - f then ([], some 3) else fin (j6 φ l f t)) else ([], some 1)) := by
     have bad : Ev (fun k => bE.j0 k l f t φ true) ([], some 1) := fm (fR (fun k => by simp only [bE.j0]; rw [if_pos trivial])); unfold bE.f; refine Ev.bind (pn l hl) ?_; by_cases v : valid l
     · simp only [if_pos v, Option.isNone_none, if_true, pq, Option.bind_some]; by_cases s : dD f t
       · rw [if_pos ⟨v, s⟩, decide_eq_true s]; obtain ⟨s1, s2, s3⟩ := s; refine fm ?_; simp -implicitDefEqProofs only [bE.j0, Bool.not_true, Bool.false_eq_true, if_false]; refine Ev.bind (sZ l f t hl) ?_; have c1 := iR 0 f l; have c2 := iR f t l; have c3 := iR t 4096 l; have hc : eT f (cut f t l) t := gv f t l 0 4096 f v.1.1 (Int.le_of_lt s2) (by omega); have hsum := Av hc
         have hend : Ev (fun k => bE.l0 k f t φ (cut 0 f l) ((cut f t l).map φ) (cut t 4096 l) (fQ (cut f t l)) ((cut f t l).length : Int) ((cut f t l).length : Int)) (if fQ (cut f t l) < t - f then ([], some 3) else fin (j6 φ l f t)) := by
          refine fm ?_; have w : wrap64 (t - f) = t - f := dN (by omega) (by omega); simp -implicitDefEqProofs only [bE.l0, if_neg (show ¬ ((cut f t l).length : Int) < ((cut f t l).length : Int) by omega), w]; by_cases c : fQ (cut f t l) < t - f
          · simp only [if_pos c]; exact fR (fun _ => rfl)
          · simp only [if_neg c]; have hj := qq [cut 0 f l, (cut f t l).map φ, cut t 4096 l] (by simp) (by simp; omega); refine Ev.bind hj ?_; refine fR (fun k => ?_); simp [j6]
         exact C8 φ f t (cut 0 f l) (cut t 4096 l) _ (cut f t l) (by omega) (fun x hx => by have := EM hc x hx; omega) (by omega) hend (cut f t l) [] rfl
       · rw [if_neg (fun h => s h.2), decide_eq_false s]; exact bad
     · simp only [if_neg v, Option.isNone_some, Bool.false_eq_true, if_false]; rw [if_neg (fun h => v h.1)]; exact bad
theorem yC {l : List aG} {f t : Int} (hl : canon l) (ha : dD f t) : fQ (cut f t l) < t - f ↔ ∃ p, f ≤ p ∧ p < t ∧ at_ l p = none := by
 obtain ⟨s1, s2, s3⟩ := ha; have hc : eT f (cut f t l) t := gv f t l 0 4096 f hl.1 (Int.le_of_lt s2) (by omega); constructor
 · intro h; obtain ⟨p, p1, p2, p3⟩ := QL hc h; rw [ku, if_pos ⟨p1, p2⟩] at p3; exact ⟨p, p1, p2, p3⟩
 · rintro ⟨p, p1, p2, p3⟩; refine Classical.byContradiction (fun h => ?_); have := full hc h p p1 p2; rw [ku, if_pos ⟨p1, p2⟩] at this; exact this p3
end Go.Proofs.Ytmjnenjeckeklaa.AreaEach
