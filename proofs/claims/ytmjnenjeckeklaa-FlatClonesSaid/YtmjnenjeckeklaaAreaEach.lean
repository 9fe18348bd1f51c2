import Derived.Test.YtmjnenjeckeklaaQx0
import Derived.Test.YtmjnenjeckeklaaBits
import Derived.Test.YtmjnenjeckeklaaQx8
import Derived.Test.YtmjnenjeckeklaaQx11
import Derived.Test.YtmjnenjeckeklaaQx6
import Derived.Test.YtmjnenjeckeklaaQx10
set_option linter.unusedVariables false
set_option linter.unusedSimpArgs false
namespace Go.Proofs.Ytmjnenjeckeklaa.AreaLib
open Go.RowKit Go.Proofs.YtmjnenjeckeklaaW.PrintWords Go.Proofs.Ytmjnenjeckeklaa.Q
abbrev At := Bool × Bool × Bool
def attr (x : gu) : At := (x.f2.f0, x.f2.f1, x.f3)
theorem TR {x y : gu} (h0 : x.f0 = y.f0) (h1 : x.f1 = y.f1) (h2 : attr x = attr y) : x = y := by
 obtain ⟨x0, x1, ⟨x2, x3⟩, x4⟩ := x; obtain ⟨y0, y1, ⟨y2, y3⟩, y4⟩ := y; simp only [attr, bE] at h0 h1 h2; obtain ⟨a, b, c⟩ := h2; subst h0; subst h1; subst a; subst b; subst c; rfl
def at_ : List gu → Int → Option At
  | [], _ => none
  | x :: l, p => if x.f0 ≤ p ∧ p < x.f1 then some (attr x) else at_ l p
def lB : Int → List gu → Int → Prop
  | q, [], e => q ≤ e
  | q, x :: l, e => q ≤ x.f0 ∧ x.f0 < x.f1 ∧ lB x.f1 l e
def q8 (y x : gu) : Prop := y.f1 = x.f0 ∧ attr y = attr x
instance (y x : gu) : Decidable (q8 y x) := by unfold q8; infer_instance
def apart : List gu → Prop
  | [] => True
  | [_] => True
  | y :: x :: l => ¬ q8 y x ∧ apart (x :: l)
instance KL : ∀ (q : Int) (l : List gu) (e : Int), Decidable (lB q l e)
  | q, [], e => by unfold lB; infer_instance
  | q, x :: l, e => by
    unfold lB
    have := KL x.f1 l e
    infer_instance
instance IU : ∀ l : List gu, Decidable (apart l)
  | [] => by unfold apart; infer_instance
  | [_] => by unfold apart; infer_instance
  | y :: x :: l => by
    unfold apart
    have := IU (x :: l)
    infer_instance
def canon (l : List gu) : Prop := lB 0 l 4096 ∧ apart l
instance (l : List gu) : Decidable (canon l) := by unfold canon; infer_instance
def valid (l : List gu) : Prop := canon l ∧ l.length ≤ 64
instance (l : List gu) : Decidable (valid l) := by unfold valid; infer_instance
def jV (a b : Int) : Prop := 0 ≤ a ∧ a < b ∧ b ≤ 4096
instance (a b : Int) : Decidable (jV a b) := by unfold jV; infer_instance
theorem tT : ∀ {l : List gu} {q e : Int}, lB q l e → q ≤ e
  | [], _, _, h => h
  | x :: l, _, _, h => by
    have := tT h.2.2
    have := h.1
    have := h.2.1
    omega
theorem KM {l : List gu} {q q' e : Int} (hq : q' ≤ q) (h : lB q l e) : lB q' l e := by
 cases l with
 | nil => exact fQ hq h
 | cons x l => exact ⟨fQ hq h.1, h.2⟩
theorem KN : ∀ {l : List gu} {q e e' : Int}, e ≤ e' → lB q l e → lB q l e'
  | [], _, _, _, he, h => fQ h he
  | x :: l, _, _, _, he, h => ⟨h.1, h.2.1, KN he h.2.2⟩
theorem qZ : ∀ {l m : List gu} {q e e' : Int}, lB q l e → lB e m e' → lB q (l ++ m) e'
  | [], m, _, _, _, h, h' => KM h h'
  | x :: l, m, _, _, _, h, h' => ⟨h.1, h.2.1, qZ h.2.2 h'⟩
theorem p7 : ∀ {l : List gu} {q e p : Int}, lB q l e → p < q → at_ l p = none
  | [], _, _, _, _, _ => rfl
  | x :: l, q, e, p, h, hp => by
    have := h.1
    have := h.2.1
    rw [at_, ag (by omega)]
    exact p7 h.2.2 (by omega)
theorem sX : ∀ {l : List gu} {q e p : Int}, lB q l e → e ≤ p → at_ l p = none
  | [], _, _, _, _, _ => rfl
  | x :: l, q, e, p, h, hp => by
    have := tT h.2.2
    rw [at_, ag (by omega)]
    exact sX h.2.2 hp
theorem uV : ∀ (l m : List gu) (p : Int), at_ (l ++ m) p = (at_ l p).or (at_ m p)
  | [], m, p => by simp [at_]
  | x :: l, m, p => by
    rw [bS, at_, at_]
    split
    · rfl
    · exact uV l m p
def jn : gu → List gu → List gu
  | y, [] => [y]
  | y, x :: l => if q8 y x then jn ⟨y.f0, x.f1, y.f2, y.f3⟩ l else y :: jn x l
theorem CF : ∀ {l : List gu} {y : gu} {q e : Int}, lB q (y :: l) e → lB q (jn y l) e
  | [], y, q, e, h => h
  | x :: l, y, q, e, h => by
    obtain ⟨h1, h2, h3, h4, h5⟩ := h
    rw [jn]
    by_cases t : q8 y x
    · rw [aj t]
      have := t.1
      exact CF ⟨h1, by show y.f0 < x.f1; omega, h5⟩
    · rw [ag t]
      exact ⟨h1, h2, CF ⟨h3, h4, h5⟩⟩
theorem Hw : ∀ (l : List gu) (y : gu), ∃ (f : Int) (t : List gu), jn y l = ⟨y.f0, f, y.f2, y.f3⟩ :: t
  | [], y => ⟨y.f1, [], rfl⟩
  | x :: l, y => by
    rw [jn]
    by_cases t : q8 y x
    · rw [aj t]
      exact Hw l ⟨y.f0, x.f1, y.f2, y.f3⟩
    · rw [ag t]
      exact ⟨y.f1, jn x l, rfl⟩
theorem zE : ∀ (l : List gu) (y : gu), apart (jn y l)
  | [], y => trivial
  | x :: l, y => by
    rw [jn]
    by_cases t : q8 y x
    · rw [aj t]
      exact zE l _
    · rw [ag t]
      have h := zE l x
      obtain ⟨f, r, hr⟩ := Hw l x
      rw [hr] at h ⊢
      exact ⟨t, h⟩
theorem KO : ∀ (l : List gu) (y : gu) (q e : Int), lB q (y :: l) e → ∀ p, at_ (jn y l) p = at_ (y :: l) p
  | [], y, q, e, h, p => rfl
  | x :: l, y, q, e, h, p => by
    obtain ⟨h1, h2, h3, h4, h5⟩ := h
    rw [jn]
    by_cases t : q8 y x
    · rw [aj t]
      have ht := t.1
      have ha := t.2
      rw [KO l ⟨y.f0, x.f1, y.f2, y.f3⟩ q e ⟨h1, by show y.f0 < x.f1; omega, h5⟩ p]
      simp only [at_]
      have e1 : attr (⟨y.f0, x.f1, y.f2, y.f3⟩ : gu) = attr y := rfl
      rw [e1]
      by_cases c1 : y.f0 ≤ p ∧ p < y.f1
      · rw [aj c1, aj (by omega)]
      · rw [ag c1]
        by_cases c2 : x.f0 ≤ p ∧ p < x.f1
        · rw [aj c2, aj (by omega), ha]
        · rw [ag c2, ag (by omega)]
    · rw [ag t, at_, at_, KO l x y.f1 e ⟨h3, h4, h5⟩ p]
def join : List gu → List gu
  | [] => []
  | x :: l => jn x l
theorem wX {l : List gu} {q e : Int} (h : lB q l e) : lB q (join l) e := by
 cases l with
 | nil => exact h
 | cons x l => exact CF h
theorem uU (l : List gu) : apart (join l) := by
 cases l with
 | nil => exact trivial
 | cons x l => exact zE l x
theorem Cc {l : List gu} {q e : Int} (h : lB q l e) (p : Int) : at_ (join l) p = at_ l p := by
 cases l with
 | nil => rfl
 | cons x l => exact KO l x q e h p
theorem zF {x : gu} {l : List gu} (h : apart (x :: l)) : apart l := by
 cases l with
 | nil => exact trivial
 | cons y l => exact h.2
theorem KP {x : gu} {l : List gu} {e : Int} (h : lB x.f1 l e) (ha : apart (x :: l)) : at_ l x.f1 ≠ some (attr x) := by
 cases l with
 | nil => simp [at_]
 | cons y l =>
  obtain ⟨h1, h2, h3⟩ := h; rw [at_]; by_cases c : y.f0 ≤ x.f1 ∧ x.f1 < y.f1
  · rw [aj c]; intro he; exact ha.1 ⟨by omega, (aZ he).symm⟩
  · rw [ag c, p7 h3 (by omega)]; simp
theorem uniq : ∀ (l m : List gu) (q q' e e' : Int), lB q l e → apart l → lB q' m e' → apart m → (∀ p, at_ l p = at_ m p) → l = m
  | [], [], _, _, _, _, _, _, _, _, _ => rfl
  | [], y :: m, _, _, _, _, _, _, h', _, h => by
    have := h y.f0
    obtain ⟨h1, h2, h3⟩ := h'
    rw [at_, at_, aj ⟨bM _, h2⟩] at this
    cases this
  | x :: l, [], _, _, _, _, hl, _, _, _, h => by
    have := h x.f0
    obtain ⟨h1, h2, h3⟩ := hl
    rw [at_, at_, aj ⟨bM _, h2⟩] at this
    cases this
  | x :: l, y :: m, q, q', e, e', hl, al, hm, am, h => by
    obtain ⟨l1, l2, l3⟩ := hl
    obtain ⟨m1, m2, m3⟩ := hm
    have hx := h x.f0
    have hy := h y.f0
    have e0 : x.f0 = y.f0 := by
     rcases Int.lt_trichotomy x.f0 y.f0 with c | c | c
     · rw [at_, aj ⟨bM _, l2⟩, p7 (l := y :: m) (q := y.f0) (e := e') ⟨bM _, m2, m3⟩ c] at hx; cases hx
     · exact c
     · rw [p7 (l := x :: l) (q := x.f0) (e := e) ⟨bM _, l2, l3⟩ c, at_, aj ⟨bM _, m2⟩] at hy; cases hy
    have ea : attr x = attr y := by
     rw [at_, aj ⟨bM _, l2⟩, at_, aj (by omega)] at hx; exact aZ hx
    have e1 : x.f1 = y.f1 := by
     rcases Int.lt_trichotomy x.f1 y.f1 with c | c | c
     · have h1 := h x.f1; rw [at_, ag (by omega), at_, aj (by omega), ← ea] at h1; exact absurd h1 (KP l3 al)
     · exact c
     · have h1 := h y.f1; rw [at_, aj (by omega), at_, ag (by omega), ea] at h1; exact absurd h1.symm (KP m3 am)
    have et : x = y := TR e0 e1 ea
    have ht : l = m := by
     refine uniq l m x.f1 y.f1 e e' l3 (zF al) m3 (zF am) (fun p => ?_); by_cases c : p < x.f1
     · rw [p7 l3 c, p7 m3 (by omega)]
     · have h1 := h p; rw [at_, ag (by omega), at_, ag (by omega)] at h1; exact h1
    rw [et, ht]
theorem zG {l m : List gu} (hl : canon l) (hm : canon m) (h : ∀ p, 0 ≤ p → p < 4096 → at_ l p = at_ m p) : l = m :=
  uniq l m 0 0 4096 4096 hl.1 hl.2 hm.1 hm.2 (fun p => by
    by_cases c : p < 0
    · rw [p7 hl.1 c, p7 hm.1 c]
    · by_cases c' : 4096 ≤ p
      · rw [sX hl.1 c', sX hm.1 c']
      · exact h p (by omega) (by omega))
def clip (x y : Int) (a : gu) : Option gu := if mx a.f0 x < mn a.f1 y then some ⟨mx a.f0 x, mn a.f1 y, a.f2, a.f3⟩ else none
def cut (x y : Int) (l : List gu) : List gu := l.filterMap (clip x y)
theorem zH (x y : Int) (a : gu) (l : List gu) : cut x y (a :: l) = if mx a.f0 x < mn a.f1 y then ⟨mx a.f0 x, mn a.f1 y, a.f2, a.f3⟩ :: cut x y l else cut x y l := by
 unfold cut; rw [List.filterMap_cons]; unfold clip; by_cases c : mx a.f0 x < mn a.f1 y
 · rw [aj c, aj c]
 · rw [ag c, ag c]
theorem PA (a b : Int) : mx a b = max a b := by unfold mx; split <;> omega
theorem PB (a b : Int) : mn a b = min a b := by unfold mn; split <;> omega
theorem m6 (x y : Int) : ∀ (l : List gu) (q e c : Int), lB q l e → c ≤ y → c ≤ max q x → lB c (cut x y l) y
  | [], q, e, c, _, hc, _ => hc
  | a :: l, q, e, c, h, hc, hq => by
    obtain ⟨h1, h2, h3⟩ := h
    rw [zH, PA, PB]
    by_cases t : max a.f0 x < min a.f1 y
    · rw [aj t]
      exact ⟨by show c ≤ max a.f0 x; omega, t, m6 x y l a.f1 e _ h3 (by show min a.f1 y ≤ y; omega) (by show min a.f1 y ≤ max a.f1 x; omega)⟩
    · rw [ag t]
      exact m6 x y l a.f1 e c h3 hc (by omega)
theorem qJ (x y : Int) (p : Int) : ∀ l : List gu, at_ (cut x y l) p = if x ≤ p ∧ p < y then at_ l p else none
  | [] => by simp [cut, at_]
  | a :: l => by
    rw [zH, PA, PB]
    have ih := qJ x y p l
    by_cases t : max a.f0 x < min a.f1 y
    · rw [aj t, at_]
      have e1 : attr (⟨max a.f0 x, min a.f1 y, a.f2, a.f3⟩ : gu) = attr a := rfl
      rw [e1, ih]
      by_cases c : x ≤ p ∧ p < y
      · rw [aj c, aj c, at_]
        by_cases d : a.f0 ≤ p ∧ p < a.f1
        · rw [aj d, aj (by show max a.f0 x ≤ p ∧ p < min a.f1 y; omega)]
        · rw [ag d, ag (by show ¬ (max a.f0 x ≤ p ∧ p < min a.f1 y); omega)]
      · rw [ag c, ag c, ag (by show ¬ (max a.f0 x ≤ p ∧ p < min a.f1 y); omega)]
    · rw [ag t, ih]
      by_cases c : x ≤ p ∧ p < y
      · rw [aj c, aj c, at_, ag (by omega)]
      · rw [ag c, ag c]
def DO (l : List gu) (a : gu) : List gu := join (cut 0 a.f0 l ++ a :: cut a.f1 4096 l)
def DP (l : List gu) (f t : Int) : List gu := join (cut 0 f l ++ cut t 4096 l)
theorem DQ {l : List gu} {a : gu} (hl : lB 0 l 4096) (ha : jV a.f0 a.f1) : lB 0 (cut 0 a.f0 l ++ a :: cut a.f1 4096 l) 4096 := by
 obtain ⟨a1, a2, a3⟩ := ha; exact qZ (m6 0 a.f0 l 0 4096 0 hl a1 (by omega)) ⟨bM _, a2, m6 a.f1 4096 l 0 4096 a.f1 hl a3 (by omega)⟩
theorem DR {l : List gu} {f t : Int} (hl : lB 0 l 4096) (ha : jV f t) : lB 0 (cut 0 f l ++ cut t 4096 l) 4096 := by
 obtain ⟨a1, a2, a3⟩ := ha; exact qZ (m6 0 f l 0 4096 0 hl a1 (by omega)) (KM (fm a2) (m6 t 4096 l 0 4096 t hl a3 (by omega)))
theorem IV {l : List gu} {a : gu} (hl : canon l) (ha : jV a.f0 a.f1) : canon (DO l a) := ⟨wX (DQ hl.1 ha), uU _⟩
theorem IW {l : List gu} {f t : Int} (hl : canon l) (ha : jV f t) : canon (DP l f t) := ⟨wX (DR hl.1 ha), uU _⟩
theorem Q2 {l : List gu} {a : gu} (hl : canon l) (ha : jV a.f0 a.f1) (p : Int) : at_ (DO l a) p = if a.f0 ≤ p ∧ p < a.f1 then some (attr a) else at_ l p := by
 have hla := DQ hl.1 ha; obtain ⟨a1, a2, a3⟩ := ha; unfold DO; rw [Cc hla, uV, qJ, at_, qJ]; by_cases c1 : p < 0
 · rw [p7 hl.1 c1, ag (by omega), ag (by omega), ag (by omega), ag (by omega)]; rfl
 by_cases c2 : 4096 ≤ p
 · rw [sX hl.1 c2, ag (by omega), ag (by omega), ag (by omega), ag (by omega)]; rfl
 by_cases c3 : p < a.f0
 · rw [aj (by omega), ag (by omega), ag (by omega), ag (by omega)]; cases at_ l p <;> rfl
 by_cases c4 : p < a.f1
 · rw [ag (by omega), aj (by omega), aj (by omega)]; rfl
 · rw [ag (by omega), ag (by omega), aj (by omega), ag (by omega)]; rfl
theorem NS {l : List gu} {f t : Int} (hl : canon l) (ha : jV f t) (p : Int) : at_ (DP l f t) p = if f ≤ p ∧ p < t then none else at_ l p := by
 have hla := DR hl.1 ha; obtain ⟨a1, a2, a3⟩ := ha; unfold DP; rw [Cc hla, uV, qJ, qJ]; by_cases c1 : p < 0
 · rw [p7 hl.1 c1, ag (by omega), ag (by omega), ag (by omega)]; rfl
 by_cases c2 : 4096 ≤ p
 · rw [sX hl.1 c2, ag (by omega), ag (by omega), ag (by omega)]; rfl
 by_cases c3 : p < f
 · rw [aj (by omega), ag (by omega), ag (by omega)]; cases at_ l p <;> rfl
 by_cases c4 : p < t
 · rw [ag (by omega), ag (by omega), aj (by omega)]; rfl
 · rw [ag (by omega), aj (by omega), ag (by omega)]; rfl
end Go.Proofs.Ytmjnenjeckeklaa.AreaLib
namespace Go.Proofs.Ytmjnenjeckeklaa.AreaEv
open Go.RowKit Go.Proofs.YtmjnenjeckeklaaW.PrintWords Go.Proofs.YtmjnenjeckeklaaW.PrintMore Go.Proofs.Ytmjnenjeckeklaa.Bits Go.Proofs.Ytmjnenjeckeklaa.Q Go.Proofs.Ytmjnenjeckeklaa.AreaLib
theorem vP (a b : Int) : iO.f a b = some (decide (jV a b)) := by
 by_cases s : jV a b
 · rw [ay s]; obtain ⟨s1, s2, s3⟩ := s; unfold iO.f; rw [aj (show a ≥ 0 from s1), aj s2, ay s3]
 · rw [aY s]; unfold iO.f; by_cases h1 : a ≥ 0
   · rw [aj h1]; by_cases h2 : a < b
     · rw [aj h2, aY (fun h3 => s ⟨h1, h2, h3⟩)]
     · rw [ag h2]
   · rw [ag h1]
theorem DS (a b : Int) : jf.f a b = some (decide (jV a b)) := vP a b
theorem DT (x y : gu) : mF.f x.f0 x.f1 x.f2.f0 x.f2.f1 x.f3 y.f0 y.f1 y.f2.f0 y.f2.f1 y.f3 = some (decide (attr x = attr y)) := by
 obtain ⟨x0, x1, ⟨x2, x3⟩, x4⟩ := x; obtain ⟨y0, y1, ⟨y2, y3⟩, y4⟩ := y; unfold mF.f attr; cases x2 <;> cases x3 <;> cases x4 <;> cases y2 <;> cases y3 <;> cases y4 <;> rfl
theorem vN (pre : List gu) (b : gu) (suf : List gu) : rd_T59 (pre ++ b :: suf) (pre.length : Int) = b := by
 unfold rd_T59; rw [aH]; simp
def good (l : List gu) (i : Nat) : Prop := jV (rd_T59 l i).f0 (rd_T59 l i).f1 ∧ (0 < i → (rd_T59 l ((i : Int) - 1)).f1 ≤ (rd_T59 l i).f0 ∧ ¬ q8 (rd_T59 l ((i : Int) - 1)) (rd_T59 l i))
instance (l : List gu) (i : Nat) : Decidable (good l i) := by unfold good; infer_instance
theorem pU (x : gu) (l : List gu) : good (x :: l) 0 ↔ jV x.f0 x.f1 := by
 unfold good; constructor
 · intro h; exact h.1
 · intro h; exact ⟨h, fun c => absurd c (bX _)⟩
theorem Bj (x : gu) (l : List gu) (i : Nat) : rd_T59 (x :: l) ((i + 1 : Nat) : Int) = rd_T59 l (i : Int) := by
 unfold rd_T59; rw [cY, cY]; rfl
theorem DU (x y : gu) (l : List gu) : good (x :: y :: l) 1 ↔ jV y.f0 y.f1 ∧ x.f1 ≤ y.f0 ∧ ¬ q8 x y := by
 unfold good; constructor
 · intro h; exact ⟨h.1, h.2 (by omega)⟩
 · intro h; exact ⟨h.1, fun _ => h.2⟩
theorem Bk (x : gu) (l : List gu) (i : Nat) (hi : 0 < i) : good (x :: l) (i + 1) ↔ good l i := by
 unfold good; rw [Bj, show ((i + 1 : Nat) : Int) - 1 = (((i - 1) + 1 : Nat) : Int) by omega, Bj, show ((i - 1 : Nat) : Int) = (i : Int) - 1 by omega]; constructor
 · intro h; exact ⟨h.1, fun _ => h.2 (by omega)⟩
 · intro h; exact ⟨h.1, fun _ => h.2 hi⟩
theorem DV : ∀ (x : gu) (l : List gu), (∀ i, i < (x :: l).length → good (x :: l) i) ↔ (0 ≤ x.f0 ∧ lB x.f0 (x :: l) 4096 ∧ apart (x :: l))
  | x, [] => by
    constructor
    · intro h
      obtain ⟨h1, h2, h3⟩ := (pU x []).mp (h 0 (by simp))
      exact ⟨h1, ⟨bM _, h2, h3⟩, trivial⟩
    · rintro ⟨h1, ⟨_, h2, h3⟩, _⟩ i hi
      obtain rfl : i = 0 := by simp at hi; omega
      exact (pU x []).mpr ⟨h1, h2, h3⟩
  | x, y :: l => by
    have ih := DV y l
    constructor
    · intro h
      have g0 := (pU x (y :: l)).mp (h 0 (by simp))
      have g1 := (DU x y l).mp (h 1 (by simp))
      have hr : ∀ i, i < (y :: l).length → good (y :: l) i := by
       intro i hi; by_cases c : i = 0
       · subst c; exact (pU y l).mpr g1.1
       · exact (Bk x (y :: l) i (by omega)).mp (h (i + 1) (by simp at hi ⊢; omega))
      obtain ⟨h1, ⟨_, h2, h3⟩, h4⟩ := ih.mp hr
      exact ⟨g0.1, ⟨bM _, g0.2.1, g1.2.1, h2, h3⟩, g1.2.2, h4⟩
    · rintro ⟨h1, ⟨_, h2, h3, h4, h5⟩, h6, h7⟩
      have hr := ih.mpr ⟨by omega, ⟨bM _, h4, h5⟩, h7⟩
      intro i hi
      match i with
      | 0 =>
        have := tT h5
        exact (pU x (y :: l)).mpr ⟨h1, h2, by omega⟩
      | 1 => exact (DU x y l).mpr ⟨(pU y l).mp (hr 0 (by simp)), h3, h6⟩
      | i + 2 => exact (Bk x (y :: l) (i + 1) (by omega)).mpr (hr (i + 1) (by simp at hi ⊢; omega))
theorem FG (l : List gu) : (∀ i, i < l.length → good l i) ↔ canon l := by
 cases l with
 | nil => exact ⟨fun _ => ⟨by show (0 : Int) ≤ 4096; omega, trivial⟩, fun _ i hi => by simp at hi⟩
 | cons x l =>
  rw [DV]; constructor
  · rintro ⟨h1, ⟨h2, h3⟩, h4⟩; exact ⟨⟨h1, h3⟩, h4⟩
  · rintro ⟨⟨h1, h3⟩, h4⟩; exact ⟨h1, ⟨bM _, h3⟩, h4⟩
theorem c1 {α : Type} {p : Prop} [Decidable p] {x y : α} (h : p) : (bif decide p then x else y) = x := by rw [ay h]; rfl
theorem c0 {α : Type} {p : Prop} [Decidable p] {x y : α} (h : ¬ p) : (bif decide p then x else y) = y := by rw [aY h]; rfl
theorem c2 {α : Type} {p q : Prop} [Decidable p] [Decidable q] {x y : α} (h : p) (k : q) : (bif decide p && decide q then x else y) = x := by rw [ay h, ay k]; rfl
theorem wS {n : Int} (h0 : -9223372036854775808 ≤ n) (h1 : n ≤ 9223372036854775807) : Go.IntKind.i64.wrap n = n := by
 simp [Go.IntKind.wrap, Go.IntKind.bits, Go.IntKind.signed]; split <;> omega
theorem FH (K k : Nat) (l : List gu) (i : Nat) (hi : i < l.length) (hl : l.length ≤ 600) : V.Check.l1 K l (k + 1) (i : Int) = if good l i then V.Check.l1 K l k ((i + 1 : Nat) : Int) else some (some 1) := by
 have rd : ∀ j : Int, l.getD j.toNat V.zA = rd_T59 l j := fun _ => rfl; have e1 : Go.IntKind.i64.wrap ((i : Int) + 1) = ((i + 1 : Nat) : Int) := by rw [wS (by omega) (by omega)]; rfl
 have al : ∀ x y : gu, V.zJ.f K x y = some (decide (attr x = attr y)) := DT; simp only [V.Check.l1, rd, e1, al, aq, vP]; rw [c1 (by omega), c2 (by omega) (by omega)]; by_cases h1 : jV (rd_T59 l i).f0 (rd_T59 l i).f1
 · rw [ay h1]; simp only [de, eS]; by_cases h2 : 0 < i
   · have e : Go.IntKind.i64.wrap ((i : Int) - 1) = (i : Int) - 1 := wS (by omega) (by omega); rw [c1 (by omega), e, c2 (by omega) (by omega)]; by_cases h3 : (rd_T59 l ((i : Int) - 1)).f1 > (rd_T59 l i).f0
     · rw [c1 h3, ag (fun h => by have := (h.2 h2).1; omega)]
     · rw [c0 h3, c2 (by omega) (by omega)]; by_cases h4 : (rd_T59 l ((i : Int) - 1)).f1 = (rd_T59 l i).f0
       · rw [show ((rd_T59 l ((i : Int) - 1)).f1 == (rd_T59 l i).f0) = true by simpa using h4]; simp only [dF]; rw [c2 (by omega) (by omega)]; by_cases h5 : attr (rd_T59 l ((i : Int) - 1)) = attr (rd_T59 l i)
         · rw [c1 h5, ag (fun g => (g.2 h2).2 ⟨h4, h5⟩)]
         · rw [c0 h5, aj ⟨h1, fun _ => ⟨by omega, fun t => h5 t.2⟩⟩]
       · rw [show ((rd_T59 l ((i : Int) - 1)).f1 == (rd_T59 l i).f0) = false by simpa using h4]; simp only [eS]; rw [aj ⟨h1, fun _ => ⟨by omega, fun t => h4 t.1⟩⟩]
   · rw [c0 (by omega), aj ⟨h1, fun c => absurd c h2⟩]
 · rw [aY h1, ag (fun h => h1 h.1)]; rfl
theorem FI (l : List gu) (hl : l.length ≤ 600) : ∀ (d i : Nat), i + d = l.length → ∀ K k, d < k →
    ((∀ j, i ≤ j → j < l.length → good l j) → V.Check.l1 K l k (i : Int) = some (if l.length ≤ 64 then none else some 1)) ∧
    (¬ (∀ j, i ≤ j → j < l.length → good l j) → V.Check.l1 K l k (i : Int) = some (some 1)) := by
 intro d
 induction d with
 | zero =>
  intro i hi K k hk; obtain ⟨k, rfl⟩ : ∃ m, k = m + 1 := ⟨k - 1, by omega⟩; refine ⟨fun _ => ?_, fun h => absurd (fun j a b => by omega) h⟩; rw [V.Check.l1, c0 (by omega)]; by_cases c : l.length ≤ 64
  · rw [aj c, c0 (by omega)]
  · rw [ag c, c1 (by omega)]
 | succ d ih =>
  intro i hi K k hk; obtain ⟨k, rfl⟩ : ∃ m, k = m + 1 := ⟨k - 1, by omega⟩; rw [FH K k l i (by omega) hl]; by_cases g : good l i
  · rw [aj g]; obtain ⟨i1, i2⟩ := ih (i + 1) (by omega) K k (by omega); refine ⟨fun h => i1 (fun j a b => h j (by omega) b), fun h => i2 (fun h' => h (fun j a b => ?_))⟩; by_cases c : j = i
    · subst c; exact g
    · exact h' j (by omega) b
  · rw [ag g]; exact ⟨fun h => absurd (h i (aM _) (by omega)) g, fun _ => rfl⟩
theorem vO (l : List gu) (hl : l.length ≤ 600) : Ev (fun k => jx.f k l) (if valid l then none else some 1) := by
 have e : (∀ j, 0 ≤ j → j < l.length → good l j) ↔ canon l := by
  rw [← FG]; exact ⟨fun h j => h j (Nat.zero_le _), fun h j _ => h j⟩
 refine ⟨l.length + 1, fun k hk => ?_⟩; obtain ⟨h1, h2⟩ := FI l hl l.length 0 (by omega) k k (by omega); show V.Check.l1 k l k ((0 : Nat) : Int) = _; by_cases c : canon l
 · rw [h1 (e.mpr c)]; by_cases c' : l.length ≤ 64
   · rw [aj c', aj ⟨c, c'⟩]
   · rw [ag c', ag (fun h => c' h.2)]
 · rw [h2 (fun h => c (e.mp h)), ag (fun h => c h.1)]
theorem zK (A : List gu) (a : gu) (x y : Int) (hA : A.length ≤ 2000) : jT.f A a.f0 a.f1 a.f2.f0 a.f2.f1 a.f3 x y = some (A ++ cut x y [a]) := by
 unfold jT.f; rw [zH]; by_cases c : mx a.f0 x < mn a.f1 y
 · rw [aj c, aj c, aj (by omega)]; rfl
 · rw [ag c, ag c]; simp [cut]
theorem NT (x y : Int) (l m : List gu) : cut x y (l ++ m) = cut x y l ++ cut x y m := List.filterMap_append
theorem oO (x y : Int) (l : List gu) : (cut x y l).length ≤ l.length := List.length_filterMap_le _ _
theorem FJ (f t : Int) : ∀ (suf pre A I B : List gu), (pre ++ suf).length ≤ 600 → A.length ≤ pre.length → I.length ≤ pre.length → B.length ≤ pre.length →
    Ev (fun k => iL.l0 k f t A I B (pre ++ suf) ((pre ++ suf).length : Int) (pre.length : Int)) (A ++ cut 0 f suf, I ++ cut f t suf, B ++ cut t 4096 suf) := by
     intro suf
     induction suf with
     | nil =>
      intro pre A I B hlen hA hI hB; refine lS (mC (fun k => ?_)); simp only [iL.l0]; rw [ag (by simp)]; simp [cut]
     | cons b suf ih =>
      intro pre A I B hlen hA hI hB; have hp : (pre ++ b :: suf).length = pre.length + (suf.length + 1) := by simp
      have c1 := oO 0 f [b]; have c2 := oO f t [b]; have c3 := oO t 4096 [b]; simp only [cx] at c1 c2 c3; have h1 := ih (pre ++ [b]) (A ++ cut 0 f [b]) (I ++ cut f t [b]) (B ++ cut t 4096 [b]) (by simpa using hlen) (by simp; omega) (by simp; omega) (by simp; omega)
      have q : ∀ (Z : List gu) (x y : Int), Z ++ cut x y [b] ++ cut x y suf = Z ++ cut x y (b :: suf) := fun Z x y => by
       rw [aW, ← NT]; rfl
      rw [q, q, q, aW] at h1; refine Ev.step (fun k => ?_) h1; simp only [iL.l0]; rw [aj (by omega), aj (by omega), aj (by omega), vN, zK A b 0 f (by omega), aq, zK I b f t (by omega), aq, zK B b t 4096 (by omega), aq, j8 (by omega) (by omega)]; simp
theorem zq (l : List gu) (f t : Int) (hl : l.length ≤ 600) : Ev (fun k => iL.f k l f t) (cut 0 f l, cut f t l, cut t 4096 l) := by
 have := FJ f t l [] [] [] [] hl (aM _) (aM _) (aM _); simpa [iL.f] using this
theorem KQ (pre : List (List gu)) (b : List gu) (suf : List (List gu)) : rd_L4 (pre ++ b :: suf) (pre.length : Int) = b := by
 unfold rd_L4; rw [aH]; simp
theorem IX : ∀ (suf pre : List (List gu)) (A : List gu), (pre ++ suf).length ≤ 10 → A.length + suf.flatten.length ≤ 4000 →
    Ev (fun k => iu.l1 k A (pre ++ suf) ((pre ++ suf).length : Int) (pre.length : Int)) (A ++ suf.flatten) := by
     intro suf
     induction suf with
     | nil =>
      intro pre A hlen hA; refine lS (mC (fun k => ?_)); simp only [iu.l1]; rw [ag (by simp)]; simp
     | cons b suf ih =>
      intro pre A hlen hA; have hp : (pre ++ b :: suf).length = pre.length + (suf.length + 1) := by simp
      simp only [cv, aI] at hA; have h1 := ih (pre ++ [b]) (A ++ b) (by simpa using hlen) (by simp only [aI]; omega); rw [aW, aW] at h1; refine Ev.step (fun k => ?_) h1; simp only [iu.l1]; rw [aj (by omega), aj (by omega), aj (by omega), KQ, aj (by omega), j8 (by omega) (by omega)]; simp
theorem IY (L : List (List gu)) (hL : L.length ≤ 10) (hf : L.flatten.length ≤ 4000) : ∀ (suf pre : List (List gu)), pre ++ suf = L →
    Ev (fun k => iu.l0 k L (pre.flatten.length : Int) L (L.length : Int) (pre.length : Int)) L.flatten := by
     intro suf
     induction suf with
     | nil =>
      intro pre he; rw [bA] at he; subst he; have h1 := IX pre [] [] (by simpa using hL) (by simpa using hf); refine Ev.step (fun k => ?_) h1
      have hg : m8.f (pre.flatten.length : Int) = some [] := by
       unfold m8.f; rw [aj (by omega), aj (by omega)]
      rw [iu.l0, ag (by omega), hg]; rfl
     | cons b suf ih =>
      intro pre he; have h1 := ih (pre ++ [b]) (by simpa using he); have hp : L.length = pre.length + (suf.length + 1) := by rw [← he]; simp
      have hq : pre.flatten.length + b.length ≤ L.flatten.length := by rw [← he]; simp
      have e2 : (pre ++ [b]).flatten.length = pre.flatten.length + b.length := by simp
      have e3 : (pre ++ [b]).length = pre.length + 1 := by simp
      rw [e2, e3] at h1; refine Ev.step (fun k => ?_) h1; simp only [iu.l0]; have e : rd_L4 L (pre.length : Int) = b := by rw [← he]; exact KQ pre b suf
      rw [aj (by omega), aj (by omega), aj (by omega), e, j8 (n := (pre.flatten.length : Int) + (b.length : Int)) (by omega) (by omega), ag (by omega), j8 (by omega) (by omega)]; rfl
theorem IZ (L : List (List gu)) (hL : L.length ≤ 10) (hf : L.flatten.length ≤ 4000) : Ev (fun k => iu.f k L) L.flatten := by
 have := IY L hL hf L [] rfl; simpa [iu.f] using this
def fin (z : List gu) : List gu × Option Int := if z.length ≤ 64 then (z, none) else ([], some 5)
theorem TT (L : List gu) (hL : L.length ≤ 4000) : ∀ (suf pre o : List gu) (y : gu), L = pre ++ suf → o.length + 1 ≤ pre.length →
    Ev (fun k => gz.l0 k (o ++ [y]) L (L.length : Int) (pre.length : Int)) (fin (o ++ jn y suf)) := by
     intro suf
     induction suf with
     | nil =>
      intro pre o y he ho; rw [bA] at he; subst he; refine lS (mC (fun k => ?_)); simp only [gz.l0]; rw [ag (by omega)]; unfold fin jn; by_cases c : (o ++ [y]).length ≤ 64
      · rw [aj c, ag (by omega)]
      · rw [ag c, aj (by omega)]
     | cons x suf ih =>
      intro pre o y he ho; have hp : L.length = pre.length + (suf.length + 1) := by rw [he]; simp
      have hx : rd_T59 L (pre.length : Int) = x := by rw [he]; exact vN pre x suf
      have hol : ((o ++ [y]).length : Int) = (o.length : Int) + 1 := by simp
      have w1 : wrap64 (((o ++ [y]).length : Int) - 1) = (o.length : Int) := by rw [hol, j8 (by omega) (by omega)]; omega
      have hy : rd_T59 (o ++ [y]) (o.length : Int) = y := vN o y []; have h1 := fun o' y' (ho' : o'.length + 1 ≤ pre.length + 1) => ih (pre ++ [x]) o' y' (by rw [he]; simp) (by simpa using ho'); rw [show (pre ++ [x]).length = pre.length + 1 by simp] at h1; have w2 : wrap64 ((pre.length : Int) + 1) = ((pre.length + 1 : Nat) : Int) := by rw [j8 (by omega) (by omega)]; rfl
      refine Ev.step (f := fun k => gz.j1 k (o ++ [y]) ((o ++ [y]).length : Int) L (L.length : Int) (pre.length : Int) (decide (q8 y x)) x.f0 x.f1 x.f2.f0 x.f2.f1 x.f3) (fun k => ?_) ?_
      · simp only [gz.l0]; rw [aj (by omega), aj (by omega), aj (by omega), aj (by omega), w1, hx, hy, aj (by omega), aj (by omega)]; by_cases c : y.f1 = x.f0
        · rw [aj c, DT, aq]; congr 1; exact eH.mpr ⟨fun h => ⟨c, h⟩, fun h => h.2⟩
        · rw [ag c, aY (fun h => c h.1)]
      · rw [jn]; by_cases t : q8 y x
        · rw [aj t, ay t]; have h2 := h1 o ⟨y.f0, x.f1, y.f2, y.f3⟩ (by omega); refine Ev.step (fun k => ?_) h2; simp only [gz.j1]; rw [aj trivial, w1, hy, aj (by omega), aj (by omega), w2]; congr 1; simp
        · rw [ag t, aY t]; have h2 := h1 (o ++ [y]) x (by simp; omega); have q : o ++ [y] ++ jn x suf = o ++ y :: jn x suf := by simp
          rw [q] at h2; refine Ev.step (fun k => ?_) h2; simp only [gz.j1]; rw [ag cA, aj (by omega), w2]
theorem wY (L : List (List gu)) (hL : L.length ≤ 10) (hf : L.flatten.length ≤ 4000) : Ev (fun k => gz.f k L) (fin (join L.flatten)) := by
 unfold gz.f; refine Ev.bind (IZ L hL hf) ?_; generalize L.flatten = M at hf ⊢
 cases M with
 | nil => exact lS (mC (fun k => by simp [gz.l0, fin, join]))
 | cons x l =>
  have h1 := TT (x :: l) hf l [x] [] x rfl (by simp); refine Ev.step (f := fun k => gz.j1 k [] 0 (x :: l) ((x :: l).length : Int) 0 false x.f0 x.f1 x.f2.f0 x.f2.f1 x.f3) (fun k => ?_) (Ev.step (fun k => ?_) h1)
  · simp only [gz.l0]; rw [aj (by simp), aj (by omega), aj (by simp), ag (by simp)]; rfl
  · simp only [gz.j1]; rw [ag cA, aj (by simp), j8 (by omega) (by omega)]; rfl
theorem Q3 (l : List gu) (a : gu) (hl : l.length ≤ 600) : Ev (fun k => jW.f k l a.f0 a.f1 a.f2.f0 a.f2.f1 a.f3) (if valid l ∧ jV a.f0 a.f1 then fin (DO l a) else ([], some 1)) := by
 have bad : Ev (fun k => jW.j0 k l true a.f0 a.f1 a.f2.f0 a.f2.f1 a.f3) ([], some 1) := lS (mC (fun k => by simp only [jW.j0]; rw [aj trivial])); unfold jW.f; refine Ev.bind (vO l hl) ?_; by_cases v : valid l
 · simp only [aj v, eo, cB, vP, aq]; by_cases s : jV a.f0 a.f1
   · rw [aj ⟨v, s⟩, ay s]; refine lS ?_; simp -implicitDefEqProofs only [jW.j0, de, bO, cQ]; refine Ev.bind (zq l a.f0 a.f1 hl) ?_; have c1 := oO 0 a.f0 l; have c3 := oO a.f1 4096 l; have hj := wY [cut 0 a.f0 l, [a], cut a.f1 4096 l] (by simp) (by simp; omega); refine Ev.bind hj ?_; refine mC (fun k => ?_); simp [DO]
   · rw [ag (fun h => s h.2), aY s]; exact bad
 · simp only [ag v, ep, bO, cQ]; rw [ag (fun h => v h.1)]; exact bad
theorem Q4 (l : List gu) (f t : Int) (hl : l.length ≤ 600) : Ev (fun k => jX.f k l f t) (if valid l ∧ jV f t then fin (DP l f t) else ([], some 1)) := by
 have bad : Ev (fun k => jX.j0 k l f t true) ([], some 1) := lS (mC (fun k => by simp only [jX.j0]; rw [aj trivial])); unfold jX.f; refine Ev.bind (vO l hl) ?_; by_cases v : valid l
 · simp only [aj v, eo, cB, vP, aq]; by_cases s : jV f t
   · rw [aj ⟨v, s⟩, ay s]; refine lS ?_; simp -implicitDefEqProofs only [jX.j0, de, bO, cQ]; refine Ev.bind (zq l f t hl) ?_; have c1 := oO 0 f l; have c3 := oO t 4096 l; have hj := wY [cut 0 f l, cut t 4096 l] (by simp) (by simp; omega); refine Ev.bind hj ?_; refine mC (fun k => ?_); simp [DP]
   · rw [ag (fun h => s h.2), aY s]; exact bad
 · simp only [ag v, ep, bO, cQ]; rw [ag (fun h => v h.1)]; exact bad
end Go.Proofs.Ytmjnenjeckeklaa.AreaEv
namespace Go.Proofs.Ytmjnenjeckeklaa.AreaRef
open Go.RowKit Go.Proofs.YtmjnenjeckeklaaW.PrintWords Go.Proofs.YtmjnenjeckeklaaW.PrintMore Go.Proofs.Ytmjnenjeckeklaa.Bits Go.Proofs.Ytmjnenjeckeklaa.Q Go.Proofs.Ytmjnenjeckeklaa.AreaLib Go.Proofs.Ytmjnenjeckeklaa.AreaEv
def oc : Option At → j5
  | none => S6
  | some a => ⟨true, a.1, a.2.1, a.2.2⟩
def mI (g : Int → Option At) : List j5 := (List.range 4096).map (fun p : Nat => oc (g (p : Int)))
theorem lT (g : Int → Option At) : (mI g).length = 4096 := by unfold mI; rw [ak, dS]
theorem pN (g : Int → Option At) (i : Int) (h0 : 0 ≤ i) (h1 : i < 4096) : rd_T72 (mI g) i = oc (g i) := by
 obtain ⟨n, rfl⟩ : ∃ n : Nat, i = n := ⟨i.toNat, by omega⟩; have hn : n < 4096 := by omega
 unfold rd_T72 mI; rw [cY, aH, bD, dK hn]; rfl
def jN (g : Int → Option At) (i : Int) (v : Option At) : Int → Option At := fun q => if q = i then v else g q
theorem CT (g : Int → Option At) (i : Int) (v : Option At) (h0 : 0 ≤ i) : (mI g).set i.toNat (oc v) = mI (jN g i v) := by
 obtain ⟨n, rfl⟩ : ∃ n : Nat, i = n := ⟨i.toNat, by omega⟩; unfold mI jN; rw [cY]; apply cZ; intro j; rw [List.getElem?_set, bD, bD, ak, dS]; by_cases hj : j < 4096
 · rw [dK hj]; by_cases e : n = j
   · subst e; simp [hj]
   · have e' : ¬ ((j : Int) = (n : Int)) := by omega
     simp [e, e']
 · rw [bH (by rw [dS]; omega)]; by_cases e : n = j
   · subst e; simp [hj]
   · simp [e]
theorem pV {g h : Int → Option At} (e : ∀ p, 0 ≤ p → p < 4096 → g p = h p) : mI g = mI h := by
 unfold mI; apply bY; intro p hp; rw [b6] at hp; rw [e (p : Int) (by omega) (by omega)]
theorem R7 (n : Nat) : List.replicate n S6 = (List.range n).map (fun p : Nat => oc ((fun _ => none : Int → Option At) (p : Int))) := by
 rw [List.map_const', dS]; rfl
theorem blank : List.replicate 4096 S6 = mI (fun _ => none) := by
 unfold mI; exact R7 4096
theorem ON (u v : Option At) : ((oc u).f0 == (oc v).f0 && ((oc u).f1 == (oc v).f1 && ((oc u).f2 == (oc v).f2 && ((oc u).f3 == (oc v).f3)))) = decide (u = v) := by
 rcases u with _ | ⟨a, b, c⟩ <;> rcases v with _ | ⟨a', b', c'⟩
 · rfl
 · rfl
 · rfl
 · cases a <;> cases b <;> cases c <;> cases a' <;> cases b' <;> cases c' <;> rfl
theorem BO : ∀ {o : List gu} {y : gu} {q e : Int}, lB q (o ++ [y]) e → lB q o y.f0 ∧ y.f0 < y.f1 ∧ y.f1 ≤ e
  | [], y, q, e, h => ⟨h.1, h.2.1, h.2.2⟩
  | x :: o, y, q, e, h => by
    obtain ⟨h1, h2, h3⟩ := h
    obtain ⟨a, b, c⟩ := BO h3
    exact ⟨⟨h1, h2, a⟩, b, c⟩
theorem Ap : ∀ {o : List gu} {y x : gu}, apart (o ++ [y]) → ¬ q8 y x → apart (o ++ [y] ++ [x])
  | [], y, x, h, t => ⟨t, trivial⟩
  | [z], y, x, h, t => ⟨h.1, t, trivial⟩
  | z :: z' :: o, y, x, h, t => ⟨h.1, Ap (o := z' :: o) h.2 t⟩
theorem OO (g : Int → Option At) (a : Int) : ∀ (d : Nat) (t : Int), t + d = 4096 → a < t → (∀ p, a ≤ p → p < t → g p = g a) → ∃ e, t ≤ e ∧ e ≤ 4096 ∧ (∀ p, a ≤ p → p < e → g p = g a) ∧ (e < 4096 → g e ≠ g a) := by
 intro d
 induction d with
 | zero => intro t ht ha h; exact ⟨t, bM _, by omega, h, fun c => by omega⟩
 | succ d ih =>
  intro t ht ha h; by_cases c : g t = g a
  · obtain ⟨e, h1, h2, h3, h4⟩ := ih (t + 1) (by omega) (by omega) (fun p p1 p2 => by
     by_cases e : p = t
     · rw [e]; exact c
     · exact h p p1 (by omega))
    exact ⟨e, by omega, h2, h3, h4⟩
  · exact ⟨t, bM _, by omega, h, fun _ => c⟩
theorem Ma (g : Int → Option At) (out : List gu) (a e : Int) (h0 : 0 ≤ a) (ha : a < 4096) (he : e ≤ 4096) (hs : ∀ p, a ≤ p → p < e → g p = g a) (hn : e < 4096 → g e ≠ g a) (r : List gu × Bool) (h : Ev (fun k => gx.j2 k (mI g) out a e false) r) :
    ∀ (d : Nat) (t : Int), t + d = e → a < t → Ev (fun k => gx.l1 k (mI g) out a t) r := by
 have step : ∀ (t : Int) (k : Nat), a < t → t ≤ 4096 → gx.l1 (k + 1) (mI g) out a t = gx.j2 k (mI g) out a t (decide (t < 4096 ∧ g t = g a)) := by
  intro t k t1 t2; rw [gx.l1]; by_cases c : t < 4096
  · rw [aj c, aj (by omega), lT, aj (by omega), aj h0, aj (by omega), pN g t (by omega) c, pN g a h0 ha, ON]; congr 1; exact eH.mpr ⟨fun q => ⟨c, q⟩, fun q => q.2⟩
  · rw [ag c, aY (fun q => c q.1)]
 intro d
 induction d with
 | zero =>
  intro t ht h1; obtain rfl : t = e := by omega
  refine Ev.step (fun k => ?_) h; rw [step t k h1 he, aY (fun q => hn q.1 q.2)]
 | succ d ih =>
  intro t ht h1; refine Ev.step (f := fun k => gx.j2 k (mI g) out a t true) (fun k => ?_) (Ev.step (fun k => ?_) (ih (t + 1) (by omega) (by omega)))
  · rw [step t k h1 (by omega), ay ⟨by omega, hs t (by omega) (by omega)⟩]
  · rw [gx.j2, aj rfl, j8 (by omega) (by omega)]
theorem OP (g : Int → Option At) : ∀ (n : Nat) (a : Int) (out : List gu), 0 ≤ a → a ≤ 4096 → 4096 - a ≤ n → lB 0 out a → apart out → (out.length : Int) ≤ a → (∀ p, 0 ≤ p → p < a → at_ out p = g p) → (0 < a → a < 4096 → g (a - 1) ≠ g a) →
    ∃ z, canon z ∧ (∀ p, 0 ≤ p → p < 4096 → at_ z p = g p) ∧ Ev (fun k => gx.l0 k (mI g) out a) (z, decide (z.length ≤ 64)) := by
 intro n
 induction n with
 | zero =>
  intro a out h0 h1 hn hl ha hlen hat hb; obtain rfl : a = 4096 := by omega
  refine ⟨out, ⟨hl, ha⟩, hat, lS (mC (fun k => ?_))⟩; rw [gx.l0, ag (by omega)]; congr 2; exact eH.mpr (by omega)
 | succ n ih =>
  intro a out h0 h1 hn hl ha hlen hat hb; by_cases c : a < 4096
  · obtain ⟨e, e1, e2, e3, e4⟩ := OO g a (4096 - (a + 1)).toNat (a + 1) (by omega) (by omega) (fun p p1 p2 => by rw [show p = a by omega])
    have go : ∀ (out' : List gu), lB 0 out' e → apart out' → (out'.length : Int) ≤ e → (∀ p, 0 ≤ p → p < e → at_ out' p = g p) →
        (∀ r, Ev (fun k => gx.l0 k (mI g) out' e) r → Ev (fun k => gx.j2 k (mI g) out a e false) r) →
        ∃ z, canon z ∧ (∀ p, 0 ≤ p → p < 4096 → at_ z p = g p) ∧ Ev (fun k => gx.l0 k (mI g) out a) (z, decide (z.length ≤ 64)) := by
      intro out' l' a' len' at' hj
      obtain ⟨z, z1, z2, z3⟩ := ih e out' (by omega) e2 (by omega) l' a' len' at' (fun _ he => by
        rw [e3 (e - 1) (by omega) (by omega)]
        exact fun q => e4 he q.symm)
      refine ⟨z, z1, z2, ?_⟩
      have h2 := Ma g out a e h0 c e2 e3 e4 _ (hj _ z3) (e - (a + 1)).toNat (a + 1) (by omega) (by omega)
      refine Ev.step (fun k => ?_) h2
      rw [gx.l0, aj c, j8 (by omega) (by omega)]
    cases hg : g a with
    | none =>
     refine go out (KN (by omega) hl) ha (by omega) (fun p p0 p1 => ?_) (fun r hr => ?_)
     · by_cases d : p < a
       · exact hat p p0 d
       · rw [sX hl (by omega), e3 p (by omega) p1, hg]
     · refine Ev.step (fun k => ?_) hr; rw [gx.j2, ag cA, aj h0, lT, aj (by omega), pN g a h0 c, hg, ag (by decide)]
    | some v =>
     obtain ⟨v0, v1, v2⟩ := v; have hx : lB a [⟨a, e, ⟨v0, v1⟩, v2⟩] e := ⟨bM _, by show a < e; omega, bM e⟩; refine go (out ++ [⟨a, e, ⟨v0, v1⟩, v2⟩]) (qZ hl hx) ?_ (by simp; omega) (fun p p0 p1 => ?_) (fun r hr => ?_)
     · rcases List.eq_nil_or_concat out with rfl | ⟨o, y, rfl⟩
       · exact trivial
       · rw [List.concat_eq_append] at hl ha hat hlen ⊢; refine Ap ha (fun t => ?_); obtain ⟨t1, t2⟩ := t; have t1' : y.f1 = a := t1; obtain ⟨b1, b2, b3⟩ := BO hl; have b4 := tT b1; have q := hat (a - 1) (by omega) (by omega); rw [uV, sX b1 (by omega), eZ, at_, aj (by omega)] at q; refine hb (by omega) c ?_; rw [← q, hg, t2]; rfl
     · rw [uV]; by_cases d : p < a
       · rw [hat p p0 d, p7 (l := [⟨a, e, ⟨v0, v1⟩, v2⟩]) hx d]; exact Option.or_none
       · rw [sX hl (by omega), eZ, at_, aj (by show a ≤ p ∧ p < e; omega), e3 p (by omega) p1, hg]; rfl
     · refine Ev.step (fun k => ?_) hr; rw [gx.j2, ag cA, aj h0, lT, aj (by omega), pN g a h0 c, hg, aj (show (oc (some (v0, v1, v2))).f0 = true from rfl)]; show (if out.length < 5864062014805 then _ else _) = _; rw [aj (by omega)]; rfl
  · obtain rfl : a = 4096 := by omega
    refine ⟨out, ⟨hl, ha⟩, hat, lS (mC (fun k => ?_))⟩; rw [gx.l0, ag (by omega)]; congr 2; exact eH.mpr (by omega)
theorem Ls (g : Int → Option At) : ∃ z, canon z ∧ (∀ p, 0 ≤ p → p < 4096 → at_ z p = g p) ∧ Ev (fun k => gx.f k (mI g)) (z, decide (z.length ≤ 64)) :=
  OP g 4096 0 [] (bM _) (by omega) (by omega) (bM (0 : Int)) trivial (by simp) (fun p a b => by omega) (fun a => by omega)
end Go.Proofs.Ytmjnenjeckeklaa.AreaRef
namespace Go.Proofs.Ytmjnenjeckeklaa.AreaFind
open Go.RowKit Go.Proofs.YtmjnenjeckeklaaW.PrintWords Go.Proofs.YtmjnenjeckeklaaW.PrintMore Go.Proofs.Ytmjnenjeckeklaa.Bits Go.Proofs.Ytmjnenjeckeklaa.Q Go.Proofs.Ytmjnenjeckeklaa.AreaLib Go.Proofs.Ytmjnenjeckeklaa.AreaEv
def look : List gu → Int → Option gu
  | [], _ => none
  | x :: l, p => if x.f0 ≤ p ∧ p < x.f1 then some x else look l p
theorem yG : ∀ (l : List gu) (p : Int), at_ l p = (look l p).map attr
  | [], _ => rfl
  | x :: l, p => by
    rw [at_, look]
    by_cases c : x.f0 ≤ p ∧ p < x.f1
    · rw [aj c, aj c]; rfl
    · rw [ag c, ag c]; exact yG l p
theorem has_eq (p : Int) (x : gu) : jl.has p x = decide (x.f0 ≤ p ∧ p < x.f1) := by
 unfold jl.has; by_cases c : x.f0 ≤ p <;> by_cases d : p < x.f1 <;> simp [c, d]
theorem Js (L : List gu) (hL : L.length ≤ 600) (p : Int) : ∀ (suf pre : List gu), L = pre ++ suf →
    (∃ j : Nat, ∃ x, j < L.length ∧ L[j]? = some x ∧ look suf p = some x ∧ Ev (fun k => jc.l0 k L (jl.has p) (L.length : Int) (pre.length : Int)) (j : Int)) ∨
    (look suf p = none ∧ Ev (fun k => jc.l0 k L (jl.has p) (L.length : Int) (pre.length : Int)) (-1)) := by
 intro suf
 induction suf with
 | nil =>
  intro pre he; refine .inr ⟨rfl, lS (mC (fun k => ?_))⟩; rw [jc.l0, ag (by rw [he]; simp)]
 | cons x suf ih =>
  intro pre he; have hp : L.length = pre.length + (suf.length + 1) := by rw [he]; simp
  have hx : rd_T59 L (pre.length : Int) = x := by rw [he]; exact vN pre x suf
  have ha : ∀ k, jc.l0 (k + 1) L (jl.has p) (L.length : Int) (pre.length : Int) = if x.f0 ≤ p ∧ p < x.f1 then some (pre.length : Int) else jc.l0 k L (jl.has p) (L.length : Int) ((pre.length + 1 : Nat) : Int) := by
   intro k; rw [jc.l0, aj (by omega), aj (by omega), aj (by omega), hx]; unfold Bh.f; rw [aq, has_eq, j8 (by omega) (by omega)]; by_cases c : x.f0 ≤ p ∧ p < x.f1
   · rw [aj c, aj (ay c)]
   · rw [ag c, ag (by simpa using c)]; rfl
  rw [look]; by_cases c : x.f0 ≤ p ∧ p < x.f1
  · refine .inl ⟨pre.length, x, by omega, by rw [he]; simp, by rw [aj c], lS (mC (fun k => ?_))⟩; rw [ha k, aj c]
  · rw [ag c]; have h1 := ih (pre ++ [x]) (by rw [he]; simp); rw [show (pre ++ [x]).length = pre.length + 1 by simp] at h1; rcases h1 with ⟨j, y, a1, a2, a3, a4⟩ | ⟨a1, a2⟩
    · exact .inl ⟨j, y, a1, a2, a3, Ev.step (fun k => by rw [ha k, ag c]) a4⟩
    · exact .inr ⟨a1, Ev.step (fun k => by rw [ha k, ag c]) a2⟩
def Vd : Option gu → Int × Int × Bool × Bool × Bool × Option Int
  | some x => (x.f0, x.f1, x.f2.f0, x.f2.f1, x.f3, none)
  | none => (0, 0, false, false, false, some 3)
theorem Oi (l : List gu) (p : Int) (hl : l.length ≤ 600) : Ev (fun k => pT.f k l p) (if valid l then Vd (look l p) else (0, 0, false, false, false, some 1)) := by
 unfold pT.f; refine Ev.bind (vO l hl) ?_; by_cases v : valid l
 · simp only [aj v, eo, cB]; rcases Js l hl p l [] rfl with ⟨j, x, a1, a2, a3, a4⟩ | ⟨a1, a2⟩
   · refine Ev.bind (show Ev (fun k => jl.f k l p) (j : Int) from a4) ?_; refine mC (fun k => ?_)
     have e : rd_T59 l (j : Int) = x := by
      unfold rd_T59; rw [cY, aH, a2]; rfl
     rw [ag (by omega), aj (by omega), aj (by omega), e, a3]; rfl
   · refine Ev.bind (show Ev (fun k => jl.f k l p) (-1) from a2) ?_; refine mC (fun k => ?_); rw [aj (by omega), a1]; rfl
 · simp only [ag v, ep, bO, cQ]; exact mC (fun k => rfl)
end Go.Proofs.Ytmjnenjeckeklaa.AreaFind
namespace Go.Proofs.Ytmjnenjeckeklaa.AreaEach
open Go.RowKit Go.Proofs.YtmjnenjeckeklaaW.PrintWords Go.Proofs.YtmjnenjeckeklaaW.PrintMore Go.Proofs.Ytmjnenjeckeklaa.Bits Go.Proofs.Ytmjnenjeckeklaa.Q Go.Proofs.Ytmjnenjeckeklaa.AreaLib Go.Proofs.Ytmjnenjeckeklaa.AreaEv
def mB : List gu → Int
  | [] => 0
  | x :: l => (x.f1 - x.f0) + mB l
theorem Fp : ∀ {l : List gu} {q e : Int}, lB q l e → 0 ≤ mB l ∧ mB l ≤ e - q
  | [], q, e, h => ⟨bM _, by have : q ≤ e := h; show (0 : Int) ≤ e - q; omega⟩
  | x :: l, q, e, h => by
    obtain ⟨h1, h2, h3⟩ := h
    obtain ⟨i1, i2⟩ := Fp h3
    rw [mB]
    omega
theorem full : ∀ {l : List gu} {q e : Int}, lB q l e → ¬ mB l < e - q → ∀ p, q ≤ p → p < e → at_ l p ≠ none
  | [], q, e, h, hs, p, p1, p2 => by
    have : ¬ (0 : Int) < e - q := hs
    omega
  | x :: l, q, e, h, hs, p, p1, p2 => by
    obtain ⟨h1, h2, h3⟩ := h
    have i := (Fp h3).2
    rw [mB] at hs
    rw [at_]
    by_cases c : x.f0 ≤ p ∧ p < x.f1
    · rw [aj c]; simp
    · rw [ag c]
      exact full h3 (by omega) p (by omega) p2
theorem VP : ∀ {l : List gu} {q e : Int}, lB q l e → mB l < e - q → ∃ p, q ≤ p ∧ p < e ∧ at_ l p = none
  | [], q, e, h, hs => ⟨q, bM _, by have : (0 : Int) < e - q := hs; omega, rfl⟩
  | x :: l, q, e, h, hs => by
    obtain ⟨h1, h2, h3⟩ := h
    have l4 := tT h3
    rw [mB] at hs
    by_cases c : q < x.f0
    · exact ⟨q, bM _, by omega, p7 (l := x :: l) (q := x.f0) (e := e) ⟨bM _, h2, h3⟩ c⟩
    · obtain ⟨p, p1, p2, p3⟩ := VP h3 (by omega)
      exact ⟨p, by omega, p2, by rw [at_, ag (by omega)]; exact p3⟩
theorem Cb : ∀ (l m : List gu), mB (l ++ m) = mB l + mB m
  | [], m => by simp [mB]
  | x :: l, m => by rw [bS, mB, mB, Cb l m]; omega
def keeps (φ : gu → gu) (ψ : At → At) : Prop := ∀ x, (φ x).f0 = x.f0 ∧ (φ x).f1 = x.f1 ∧ attr (φ x) = ψ (attr x)
theorem Du {φ : gu → gu} {ψ : At → At} (k : keeps φ ψ) : ∀ {l : List gu} {q e : Int}, lB q l e → lB q (l.map φ) e
  | [], _, _, h => h
  | x :: l, q, e, h => by
    obtain ⟨h1, h2, h3⟩ := h
    obtain ⟨k1, k2, _⟩ := k x
    rw [aK]
    exact ⟨by rw [k1]; exact h1, by rw [k1, k2]; exact h2, by rw [k2]; exact Du k h3⟩
theorem Kj {φ : gu → gu} {ψ : At → At} (k : keeps φ ψ) (p : Int) : ∀ l : List gu, at_ (l.map φ) p = (at_ l p).map ψ
  | [] => rfl
  | x :: l => by
    obtain ⟨k1, k2, k3⟩ := k x
    rw [aK, at_, at_, k1, k2, k3]
    by_cases c : x.f0 ≤ p ∧ p < x.f1
    · rw [aj c, aj c]; rfl
    · rw [ag c, ag c]; exact Kj k p l
def qw (φ : gu → gu) (l : List gu) (f t : Int) : List gu := join (cut 0 f l ++ ((cut f t l).map φ ++ cut t 4096 l))
theorem Ba {φ : gu → gu} {ψ : At → At} (k : keeps φ ψ) {l : List gu} {f t : Int} (hl : lB 0 l 4096) (ha : jV f t) : lB 0 (cut 0 f l ++ ((cut f t l).map φ ++ cut t 4096 l)) 4096 := by
 obtain ⟨a1, a2, a3⟩ := ha; exact qZ (m6 0 f l 0 4096 0 hl a1 (by omega)) (qZ (Du k (m6 f t l 0 4096 f hl (fm a2) (by omega))) (m6 t 4096 l 0 4096 t hl a3 (by omega)))
theorem Fq {φ : gu → gu} {ψ : At → At} (k : keeps φ ψ) {l : List gu} {f t : Int} (hl : canon l) (ha : jV f t) : canon (qw φ l f t) := ⟨wX (Ba k hl.1 ha), uU _⟩
theorem Na {φ : gu → gu} {ψ : At → At} (k : keeps φ ψ) {l : List gu} {f t : Int} (hl : canon l) (ha : jV f t) (p : Int) : at_ (qw φ l f t) p = if f ≤ p ∧ p < t then (at_ l p).map ψ else at_ l p := by
 have hla := Ba k hl.1 ha; obtain ⟨a1, a2, a3⟩ := ha; unfold qw; rw [Cc hla, uV, uV, Kj k, qJ, qJ, qJ]; by_cases c1 : p < 0
 · rw [p7 hl.1 c1, ag (by omega), ag (by omega), ag (by omega), ag (by omega)]; rfl
 by_cases c2 : 4096 ≤ p
 · rw [sX hl.1 c2, ag (by omega), ag (by omega), ag (by omega), ag (by omega)]; rfl
 by_cases c3 : p < f
 · rw [aj (by omega), ag (by omega), ag (by omega), ag (by omega)]; cases at_ l p <;> rfl
 by_cases c4 : p < t
 · rw [ag (by omega), aj (by omega), ag (by omega), aj (by omega)]; cases at_ l p <;> rfl
 · rw [ag (by omega), ag (by omega), aj (by omega), ag (by omega)]; rfl
theorem Kk : ∀ {l : List gu} {q e : Int}, lB q l e → ∀ x, x ∈ l → q ≤ x.f0 ∧ x.f0 < x.f1 ∧ x.f1 ≤ e
  | [], _, _, _, x, hx => by simp at hx
  | y :: l, q, e, h, x, hx => by
    obtain ⟨h1, h2, h3⟩ := h
    have h4 := tT h3
    rcases bx.mp hx with rfl | hx
    · exact ⟨h1, h2, h4⟩
    · obtain ⟨a, b, c⟩ := Kk h3 x hx
      exact ⟨by omega, b, c⟩
theorem Cd : ∀ {l : List gu}, (∀ x, x ∈ l → x.f0 < x.f1) → 0 ≤ mB l
  | [], _ => bM _
  | y :: l, h => by
    have h1 := h y (by simp)
    have h2 := Cd (l := l) (fun x hx => h x (by simp [hx]))
    rw [mB]
    omega
theorem IE (φ : gu → gu) (f t : Int) (A B : List gu) (r : List gu × Option Int) (M : List gu) (hM : M.length ≤ 600) (hb : ∀ x, x ∈ M → 0 ≤ x.f0 ∧ x.f0 < x.f1 ∧ x.f1 ≤ 4096) (hs : mB M ≤ 4096)
    (h : Ev (fun k => ia.l0 k f t φ A (M.map φ) B (mB M) (M.length : Int) (M.length : Int)) r) : ∀ (suf pre : List gu), M = pre ++ suf →
    Ev (fun k => ia.l0 k f t φ A (pre.map φ ++ suf) B (mB pre) (M.length : Int) (pre.length : Int)) r := by
     intro suf
     induction suf with
     | nil =>
      intro pre he; rw [bA] at he; subst he; rw [bA]; exact h
     | cons x suf ih =>
      intro pre he; have hp : M.length = pre.length + (suf.length + 1) := by rw [he]; simp
      obtain ⟨x1, x2, x3⟩ := hb x (by rw [he]; simp); have s1 : 0 ≤ mB pre := Cd (fun y hy => (hb y (by rw [he]; simp [hy])).2.1); have s2 : 0 ≤ mB suf := Cd (fun y hy => (hb y (by rw [he]; simp [hy])).2.1); have s3 : mB M = mB pre + ((x.f1 - x.f0) + mB suf) := by rw [he, Cb, mB]
      have h1 := ih (pre ++ [x]) (by rw [he]; simp); have e1 : mB (pre ++ [x]) = mB pre + (x.f1 - x.f0) := by rw [Cb, mB, mB]; omega
      have e2 : (pre ++ [x]).length = pre.length + 1 := by simp
      have e3 : (pre ++ [x]).map φ ++ suf = pre.map φ ++ φ x :: suf := by simp
      rw [e1, e2, e3] at h1
      have hx : rd_T59 (pre.map φ ++ x :: suf) (pre.length : Int) = x := by
       have := vN (pre.map φ) x suf; rwa [ak] at this
      have hlen : ((pre.map φ ++ x :: suf).length : Int) = (M.length : Int) := by rw [hp]; simp
      have hset : (pre.map φ ++ x :: suf).set pre.length (φ x) = pre.map φ ++ φ x :: suf := by
       rw [fJ _ _ (by simp)]; simp
      refine Ev.step (fun k => ?_) h1; rw [ia.l0, aj (by omega), aj (by omega), hlen, aj (by omega), hx]; unfold Bb.f; rw [aq, j8 (n := x.f1 - x.f0) (by omega) (by omega), j8 (n := mB pre + (x.f1 - x.f0)) (by omega) (by omega), j8 (n := (pre.length : Int) + 1) (by omega) (by omega), cY]; rw [← hset]; rfl
theorem Hg {φ : gu → gu} {ψ : At → At} (kp : keeps φ ψ) (l : List gu) (f t : Int) (hl : l.length ≤ 600) :
    Ev (fun k => ia.f k l f t φ) (if valid l ∧ jV f t then (if mB (cut f t l) < t - f then ([], some 3) else fin (qw φ l f t)) else ([], some 1)) := by
     have bad : Ev (fun k => ia.j0 k l f t φ true) ([], some 1) := lS (mC (fun k => by simp only [ia.j0]; rw [aj trivial])); unfold ia.f; refine Ev.bind (vO l hl) ?_; by_cases v : valid l
     · simp only [aj v, eo, cB, vP, aq]; by_cases s : jV f t
       · rw [aj ⟨v, s⟩, ay s]; obtain ⟨s1, s2, s3⟩ := s; refine lS ?_; simp -implicitDefEqProofs only [ia.j0, de, bO, cQ]; refine Ev.bind (zq l f t hl) ?_; have c1 := oO 0 f l; have c2 := oO f t l; have c3 := oO t 4096 l; have hc : lB f (cut f t l) t := m6 f t l 0 4096 f v.1.1 (fm s2) (by omega); have hsum := Fp hc
         have hend : Ev (fun k => ia.l0 k f t φ (cut 0 f l) ((cut f t l).map φ) (cut t 4096 l) (mB (cut f t l)) ((cut f t l).length : Int) ((cut f t l).length : Int)) (if mB (cut f t l) < t - f then ([], some 3) else fin (qw φ l f t)) := by
          refine lS ?_; have w : wrap64 (t - f) = t - f := j8 (by omega) (by omega); simp -implicitDefEqProofs only [ia.l0, ag (show ¬ ((cut f t l).length : Int) < ((cut f t l).length : Int) by omega), w]; by_cases c : mB (cut f t l) < t - f
          · simp only [aj c]; exact mC (fun _ => rfl)
          · simp only [ag c]; have hj := wY [cut 0 f l, (cut f t l).map φ, cut t 4096 l] (by simp) (by simp; omega); refine Ev.bind hj ?_; refine mC (fun k => ?_); simp [qw]
         exact IE φ f t (cut 0 f l) (cut t 4096 l) _ (cut f t l) (by omega) (fun x hx => by have := Kk hc x hx; omega) (by omega) hend (cut f t l) [] rfl
       · rw [ag (fun h => s h.2), aY s]; exact bad
     · simp only [ag v, ep, bO, cQ]; rw [ag (fun h => v h.1)]; exact bad
theorem Dv {l : List gu} {f t : Int} (hl : canon l) (ha : jV f t) : mB (cut f t l) < t - f ↔ ∃ p, f ≤ p ∧ p < t ∧ at_ l p = none := by
 obtain ⟨s1, s2, s3⟩ := ha; have hc : lB f (cut f t l) t := m6 f t l 0 4096 f hl.1 (fm s2) (by omega); constructor
 · intro h; obtain ⟨p, p1, p2, p3⟩ := VP hc h; rw [qJ, aj ⟨p1, p2⟩] at p3; exact ⟨p, p1, p2, p3⟩
 · rintro ⟨p, p1, p2, p3⟩; refine Classical.byContradiction (fun h => ?_); have := full hc h p p1 p2; rw [qJ, aj ⟨p1, p2⟩] at this; exact this p3
end Go.Proofs.Ytmjnenjeckeklaa.AreaEach
