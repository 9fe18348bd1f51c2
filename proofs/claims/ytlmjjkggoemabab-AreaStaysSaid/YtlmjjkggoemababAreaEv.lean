/- Layer 9: what Check, parts, slices.Concat, joined, Lay, Cut and the reference's May and Same compute. -/
import Derived.Test.YtlmjjkggoemababAreaLib
import Derived.Test.YtlmjjkggoemababBits
import Derived.Test.YtlmjjkggoemababQx8
namespace Go.Proofs.Ytlmjjkggoemabab.AreaEv
open Go.RowKit Go.Proofs.YtlmjjkggoemababW.PrintWords Go.Proofs.YtlmjjkggoemababW.PrintMore Go.Proofs.Ytlmjjkggoemabab.Bits Go.Proofs.Ytlmjjkggoemabab.Q Go.Proofs.Ytlmjjkggoemabab.AreaLib
set_option linter.unusedVariables false
set_option linter.unusedSimpArgs false

theorem via {α : Type} {g f : Nat → Option α} {r : α} (h : ∀ k, g (k + 1) = f k) (hf : Ev f r) : Ev g r := Ev.step h hf
theorem span_eq (a b : Int) : area_span.f a b = some (decide (spanP a b)) := by
  by_cases s : spanP a b
  · rw [decide_eq_true s]
    obtain ⟨s1, s2, s3⟩ := s
    unfold area_span.f
    rw [if_pos (show a ≥ 0 from s1), if_pos s2, decide_eq_true s3]
  · rw [decide_eq_false s]
    unfold area_span.f
    by_cases h1 : a ≥ 0
    · rw [if_pos h1]
      by_cases h2 : a < b
      · rw [if_pos h2, decide_eq_false (fun h3 => s ⟨h1, h2, h3⟩)]
      · rw [if_neg h2]
    · rw [if_neg h1]
theorem rspan_eq (a b : Int) : paviorref09_Span.f a b = some (decide (spanP a b)) := span_eq a b
theorem alike_eq (x y : S32) : area_alike.f x.f0 x.f1 x.f2.f0 x.f2.f1 x.f3 y.f0 y.f1 y.f2.f0 y.f2.f1 y.f3 = some (decide (attr x = attr y)) := by
  obtain ⟨x0, x1, ⟨x2, x3⟩, x4⟩ := x
  obtain ⟨y0, y1, ⟨y2, y3⟩, y4⟩ := y
  unfold area_alike.f attr
  cases x2 <;> cases x3 <;> cases x4 <;> cases y2 <;> cases y3 <;> cases y4 <;> rfl

theorem rd32_at (pre : List S32) (b : S32) (suf : List S32) : rd_T32 (pre ++ b :: suf) (pre.length : Int) = b := by
  unfold rd_T32
  rw [List.getD_eq_getElem?_getD]
  simp
theorem rd32_get (l : List S32) (i : Nat) (h : i < l.length) : rd_T32 l (i : Int) = l[i] := by
  unfold rd_T32
  rw [Int.toNat_natCast, List.getD_eq_getElem?_getD, List.getElem?_eq_getElem h]
  rfl

/-! ### which lists may be -/
def good (l : List S32) (i : Nat) : Prop := spanP (rd_T32 l i).f0 (rd_T32 l i).f1 ∧ (0 < i → (rd_T32 l ((i : Int) - 1)).f1 ≤ (rd_T32 l i).f0 ∧ ¬ touch (rd_T32 l ((i : Int) - 1)) (rd_T32 l i))
instance (l : List S32) (i : Nat) : Decidable (good l i) := by unfold good; infer_instance
theorem good_zero (x : S32) (l : List S32) : good (x :: l) 0 ↔ spanP x.f0 x.f1 := by
  unfold good
  constructor
  · intro h; exact h.1
  · intro h; exact ⟨h, fun c => absurd c (Nat.lt_irrefl _)⟩
theorem rd32_succ (x : S32) (l : List S32) (i : Nat) : rd_T32 (x :: l) ((i + 1 : Nat) : Int) = rd_T32 l (i : Int) := by
  unfold rd_T32
  rw [Int.toNat_natCast, Int.toNat_natCast]
  rfl
theorem good_one (x y : S32) (l : List S32) : good (x :: y :: l) 1 ↔ spanP y.f0 y.f1 ∧ x.f1 ≤ y.f0 ∧ ¬ touch x y := by
  unfold good
  constructor
  · intro h; exact ⟨h.1, h.2 (by omega)⟩
  · intro h; exact ⟨h.1, fun _ => h.2⟩
theorem good_succ (x : S32) (l : List S32) (i : Nat) (hi : 0 < i) : good (x :: l) (i + 1) ↔ good l i := by
  unfold good
  rw [rd32_succ, show ((i + 1 : Nat) : Int) - 1 = (((i - 1) + 1 : Nat) : Int) by omega, rd32_succ, show ((i - 1 : Nat) : Int) = (i : Int) - 1 by omega]
  constructor
  · intro h; exact ⟨h.1, fun _ => h.2 (by omega)⟩
  · intro h; exact ⟨h.1, fun _ => h.2 hi⟩
theorem good_iff : ∀ (x : S32) (l : List S32), (∀ i, i < (x :: l).length → good (x :: l) i) ↔ (0 ≤ x.f0 ∧ lies x.f0 (x :: l) 4096 ∧ apart (x :: l))
  | x, [] => by
    constructor
    · intro h
      obtain ⟨h1, h2, h3⟩ := (good_zero x []).mp (h 0 (by simp))
      exact ⟨h1, ⟨Int.le_refl _, h2, h3⟩, trivial⟩
    · rintro ⟨h1, ⟨_, h2, h3⟩, _⟩ i hi
      obtain rfl : i = 0 := by simp at hi; omega
      exact (good_zero x []).mpr ⟨h1, h2, h3⟩
  | x, y :: l => by
    have ih := good_iff y l
    constructor
    · intro h
      have g0 := (good_zero x (y :: l)).mp (h 0 (by simp))
      have g1 := (good_one x y l).mp (h 1 (by simp))
      have hr : ∀ i, i < (y :: l).length → good (y :: l) i := by
        intro i hi
        by_cases c : i = 0
        · subst c; exact (good_zero y l).mpr g1.1
        · exact (good_succ x (y :: l) i (by omega)).mp (h (i + 1) (by simp at hi ⊢; omega))
      obtain ⟨h1, ⟨_, h2, h3⟩, h4⟩ := ih.mp hr
      exact ⟨g0.1, ⟨Int.le_refl _, g0.2.1, g1.2.1, h2, h3⟩, g1.2.2, h4⟩
    · rintro ⟨h1, ⟨_, h2, h3, h4, h5⟩, h6, h7⟩
      have hr := ih.mpr ⟨by omega, ⟨Int.le_refl _, h4, h5⟩, h7⟩
      intro i hi
      match i with
      | 0 =>
        have := lies_le h5
        exact (good_zero x (y :: l)).mpr ⟨h1, h2, by omega⟩
      | 1 => exact (good_one x y l).mpr ⟨(good_zero y l).mp (hr 0 (by simp)), h3, h6⟩
      | i + 2 => exact (good_succ x (y :: l) (i + 1) (by omega)).mpr (hr (i + 1) (by simp at hi ⊢; omega))
theorem good_canon (l : List S32) : (∀ i, i < l.length → good l i) ↔ canon l := by
  cases l with
  | nil => exact ⟨fun _ => ⟨by show (0 : Int) ≤ 4096; omega, trivial⟩, fun _ i hi => by simp at hi⟩
  | cons x l =>
    rw [good_iff]
    constructor
    · rintro ⟨h1, ⟨h2, h3⟩, h4⟩
      exact ⟨⟨h1, h3⟩, h4⟩
    · rintro ⟨⟨h1, h3⟩, h4⟩
      exact ⟨h1, ⟨Int.le_refl _, h3⟩, h4⟩

theorem check_step (k : Nat) (l : List S32) (i : Nat) (hi : i < l.length) (hl : l.length ≤ 600) : area_Check.l0 (k + 1) l l (l.length : Int) (i : Int) = area_Check.j1 k l l (l.length : Int) (i : Int) (decide (¬ good l i)) := by
  have T : ¬ good l i → decide (¬ good l i) = true := fun g => by simp [g]
  have Fl : good l i → decide (¬ good l i) = false := fun g => by simp [g]
  simp only [area_Check.l0]
  rw [if_pos (by omega), if_pos (by omega), if_pos (by omega), span_eq, Option.bind_some]
  by_cases h1 : spanP (rd_T32 l i).f0 (rd_T32 l i).f1
  · rw [if_pos (decide_eq_true h1)]
    by_cases h2 : 0 < i
    · have e : wrap64 ((i : Int) - 1) = (i : Int) - 1 := wrap64_of (by omega) (by omega)
      rw [if_pos (by omega), e, if_pos (by omega), if_pos (by omega)]
      by_cases h3 : (rd_T32 l ((i : Int) - 1)).f1 > (rd_T32 l i).f0
      · rw [if_pos h3, T (fun h => by have := (h.2 h2).1; omega)]
      · rw [if_neg h3]
        by_cases h4 : (rd_T32 l ((i : Int) - 1)).f1 = (rd_T32 l i).f0
        · rw [if_pos h4, alike_eq, Option.bind_some]
          by_cases h5 : attr (rd_T32 l ((i : Int) - 1)) = attr (rd_T32 l i)
          · rw [decide_eq_true h5, T (fun g => (g.2 h2).2 ⟨h4, h5⟩)]
          · rw [decide_eq_false h5, Fl ⟨h1, fun _ => ⟨by omega, fun t => h5 t.2⟩⟩]
        · rw [if_neg h4, Fl ⟨h1, fun _ => ⟨by omega, fun t => h4 t.1⟩⟩]
    · rw [if_neg (by omega), Fl ⟨h1, fun c => absurd c h2⟩]
  · rw [if_neg (by simpa using h1), T (fun h => h1 h.1)]

theorem check_yes (k : Nat) (l : List S32) (i : Nat) (hi : i < l.length) (hl : l.length ≤ 600) (g : good l i) : area_Check.l0 (k + 1) l l (l.length : Int) (i : Int) = area_Check.j1 k l l (l.length : Int) (i : Int) false := by
  rw [check_step k l i hi hl]
  simp [g]
theorem check_no (k : Nat) (l : List S32) (i : Nat) (hi : i < l.length) (hl : l.length ≤ 600) (g : ¬ good l i) : area_Check.l0 (k + 1) l l (l.length : Int) (i : Int) = area_Check.j1 k l l (l.length : Int) (i : Int) true := by
  rw [check_step k l i hi hl]
  simp [g]
theorem check_loop (l : List S32) (hl : l.length ≤ 600) : ∀ (d i : Nat), i + d = l.length →
    ((∀ j, i ≤ j → j < l.length → good l j) → Ev (fun k => area_Check.l0 k l l (l.length : Int) (i : Int)) (if l.length ≤ 64 then none else some 1)) ∧
    (¬ (∀ j, i ≤ j → j < l.length → good l j) → Ev (fun k => area_Check.l0 k l l (l.length : Int) (i : Int)) (some 1)) := by
  intro d
  induction d with
  | zero =>
    intro i hi
    refine ⟨fun _ => ?_, fun h => absurd (fun j a b => by omega) h⟩
    refine ev_succ (ev_now (fun k => ?_))
    simp only [area_Check.l0]
    rw [if_neg (by omega)]
    by_cases c : l.length ≤ 64
    · rw [if_pos c, if_neg (by omega)]
    · rw [if_neg c, if_pos (by omega)]
  | succ d ih =>
    intro i hi
    by_cases g : good l i
    · have h1 : ∀ r : Option Int, Ev (fun k => area_Check.l0 k l l (l.length : Int) ((i + 1 : Nat) : Int)) r → Ev (fun k => area_Check.l0 k l l (l.length : Int) (i : Int)) r := by
        intro r hr
        refine via (fun k => check_yes k l i (by omega) hl g) ?_
        refine Ev.step (fun k => ?_) hr
        simp only [area_Check.j1]
        rw [if_neg Bool.false_ne_true, wrap64_of (by omega) (by omega)]
        rfl
      obtain ⟨i1, i2⟩ := ih (i + 1) (by omega)
      refine ⟨fun h => h1 _ (i1 (fun j a b => h j (by omega) b)), fun h => h1 _ (i2 (fun h' => h (fun j a b => ?_)))⟩
      by_cases c : j = i
      · subst c; exact g
      · exact h' j (by omega) b
    · refine ⟨fun h => absurd (h i (Nat.le_refl _) (by omega)) g, fun _ => ?_⟩
      refine via (fun k => check_no k l i (by omega) hl g) ?_
      exact ev_succ (ev_now (fun k => by simp only [area_Check.j1]; rw [if_pos trivial]))
theorem check_ev (l : List S32) (hl : l.length ≤ 600) : Ev (fun k => area_Check.f k l) (if valid l then none else some 1) := by
  obtain ⟨h1, h2⟩ := check_loop l hl l.length 0 (by omega)
  have e : (∀ j, 0 ≤ j → j < l.length → good l j) ↔ canon l := by
    rw [← good_canon]
    exact ⟨fun h j => h j (Nat.zero_le _), fun h j _ => h j⟩
  unfold area_Check.f
  by_cases c : canon l
  · have := h1 (e.mpr c)
    by_cases c' : l.length ≤ 64
    · rw [if_pos c'] at this
      rw [if_pos ⟨c, c'⟩]
      exact this
    · rw [if_neg c'] at this
      rw [if_neg (fun h => c' h.2)]
      exact this
  · have := h2 (fun h => c (e.mp h))
    rw [if_neg (fun h => c h.1)]
    exact this

/-! ### parts -/
theorem piece_eq (A : List S32) (a : S32) (x y : Int) (hA : A.length ≤ 2000) : area_parts_1.f A a.f0 a.f1 a.f2.f0 a.f2.f1 a.f3 x y = some (A ++ cut x y [a]) := by
  unfold area_parts_1.f
  rw [cut_cons]
  by_cases c : mx a.f0 x < mn a.f1 y
  · rw [if_pos c, if_pos c, if_pos (by omega)]
    rfl
  · rw [if_neg c, if_neg c]
    simp [cut]
theorem cut_app (x y : Int) (l m : List S32) : cut x y (l ++ m) = cut x y l ++ cut x y m := List.filterMap_append
theorem cut_len (x y : Int) (l : List S32) : (cut x y l).length ≤ l.length := List.length_filterMap_le _ _
theorem parts_loop (f t : Int) : ∀ (suf pre A I B : List S32), (pre ++ suf).length ≤ 600 → A.length ≤ pre.length → I.length ≤ pre.length → B.length ≤ pre.length →
    Ev (fun k => area_parts.l0 k f t A I B (pre ++ suf) ((pre ++ suf).length : Int) (pre.length : Int)) (A ++ cut 0 f suf, I ++ cut f t suf, B ++ cut t 4096 suf) := by
  intro suf
  induction suf with
  | nil =>
    intro pre A I B hlen hA hI hB
    refine ev_succ (ev_now (fun k => ?_))
    simp only [area_parts.l0]
    rw [if_neg (by simp)]
    simp [cut]
  | cons b suf ih =>
    intro pre A I B hlen hA hI hB
    have hp : (pre ++ b :: suf).length = pre.length + (suf.length + 1) := by simp
    have c1 := cut_len 0 f [b]
    have c2 := cut_len f t [b]
    have c3 := cut_len t 4096 [b]
    simp only [List.length_singleton] at c1 c2 c3
    have h1 := ih (pre ++ [b]) (A ++ cut 0 f [b]) (I ++ cut f t [b]) (B ++ cut t 4096 [b]) (by simpa using hlen) (by simp; omega) (by simp; omega) (by simp; omega)
    have q : ∀ (Z : List S32) (x y : Int), Z ++ cut x y [b] ++ cut x y suf = Z ++ cut x y (b :: suf) := fun Z x y => by
      rw [List.append_assoc, ← cut_app]
      rfl
    rw [q, q, q, List.append_assoc] at h1
    refine Ev.step (fun k => ?_) h1
    simp only [area_parts.l0]
    rw [if_pos (by omega), if_pos (by omega), if_pos (by omega), rd32_at, piece_eq A b 0 f (by omega), Option.bind_some, piece_eq I b f t (by omega), Option.bind_some, piece_eq B b t 4096 (by omega), Option.bind_some, wrap64_of (by omega) (by omega)]
    simp
theorem parts_ev (l : List S32) (f t : Int) (hl : l.length ≤ 600) : Ev (fun k => area_parts.f k l f t) (cut 0 f l, cut f t l, cut t 4096 l) := by
  have := parts_loop f t l [] [] [] [] hl (Nat.le_refl _) (Nat.le_refl _) (Nat.le_refl _)
  simpa [area_parts.f] using this

/-! ### slices.Concat -/
theorem rdL_at (pre : List (List S32)) (b : List S32) (suf : List (List S32)) : rd_L4 (pre ++ b :: suf) (pre.length : Int) = b := by
  unfold rd_L4
  rw [List.getD_eq_getElem?_getD]
  simp
theorem concat_l1 : ∀ (suf pre : List (List S32)) (A : List S32), (pre ++ suf).length ≤ 10 → A.length + suf.flatten.length ≤ 4000 →
    Ev (fun k => api_Area_39.l1 k A (pre ++ suf) ((pre ++ suf).length : Int) (pre.length : Int)) (A ++ suf.flatten) := by
  intro suf
  induction suf with
  | nil =>
    intro pre A hlen hA
    refine ev_succ (ev_now (fun k => ?_))
    simp only [api_Area_39.l1]
    rw [if_neg (by simp)]
    simp
  | cons b suf ih =>
    intro pre A hlen hA
    have hp : (pre ++ b :: suf).length = pre.length + (suf.length + 1) := by simp
    simp only [List.flatten_cons, List.length_append] at hA
    have h1 := ih (pre ++ [b]) (A ++ b) (by simpa using hlen) (by simp only [List.length_append]; omega)
    rw [List.append_assoc, List.append_assoc] at h1
    refine Ev.step (fun k => ?_) h1
    simp only [api_Area_39.l1]
    rw [if_pos (by omega), if_pos (by omega), if_pos (by omega), rdL_at, if_pos (by omega), wrap64_of (by omega) (by omega)]
    simp
theorem concat_l0 (L : List (List S32)) (hL : L.length ≤ 10) (hf : L.flatten.length ≤ 4000) : ∀ (suf pre : List (List S32)), pre ++ suf = L →
    Ev (fun k => api_Area_39.l0 k L (pre.flatten.length : Int) L (L.length : Int) (pre.length : Int)) L.flatten := by
  intro suf
  induction suf with
  | nil =>
    intro pre he
    rw [List.append_nil] at he
    subst he
    have h1 := concat_l1 pre [] [] (by simpa using hL) (by simpa using hf)
    refine Ev.step (fun k => ?_) h1
    have hg : api_Area_42.f (pre.flatten.length : Int) = some [] := by
      unfold api_Area_42.f
      rw [if_pos (by omega), if_pos (by omega)]
    rw [api_Area_39.l0, if_neg (by omega), hg]
    rfl
  | cons b suf ih =>
    intro pre he
    have h1 := ih (pre ++ [b]) (by simpa using he)
    have hp : L.length = pre.length + (suf.length + 1) := by rw [← he]; simp
    have hq : pre.flatten.length + b.length ≤ L.flatten.length := by rw [← he]; simp
    have e2 : (pre ++ [b]).flatten.length = pre.flatten.length + b.length := by simp
    have e3 : (pre ++ [b]).length = pre.length + 1 := by simp
    rw [e2, e3] at h1
    refine Ev.step (fun k => ?_) h1
    simp only [api_Area_39.l0]
    have e : rd_L4 L (pre.length : Int) = b := by rw [← he]; exact rdL_at pre b suf
    rw [if_pos (by omega), if_pos (by omega), if_pos (by omega), e, wrap64_of (n := (pre.flatten.length : Int) + (b.length : Int)) (by omega) (by omega), if_neg (by omega), wrap64_of (by omega) (by omega)]
    rfl
theorem concat_ev (L : List (List S32)) (hL : L.length ≤ 10) (hf : L.flatten.length ≤ 4000) : Ev (fun k => api_Area_39.f k L) L.flatten := by
  have := concat_l0 L hL hf L [] rfl
  simpa [api_Area_39.f] using this

/-! ### joined -/
def fin (z : List S32) : List S32 × Option Int := if z.length ≤ 64 then (z, none) else ([], some 5)
theorem jn_go (L : List S32) (hL : L.length ≤ 4000) : ∀ (suf pre o : List S32) (y : S32), L = pre ++ suf → o.length + 1 ≤ pre.length →
    Ev (fun k => area_joined.l0 k (o ++ [y]) L (L.length : Int) (pre.length : Int)) (fin (o ++ jn y suf)) := by
  intro suf
  induction suf with
  | nil =>
    intro pre o y he ho
    rw [List.append_nil] at he
    subst he
    refine ev_succ (ev_now (fun k => ?_))
    simp only [area_joined.l0]
    rw [if_neg (by omega)]
    unfold fin jn
    by_cases c : (o ++ [y]).length ≤ 64
    · rw [if_pos c, if_neg (by omega)]
    · rw [if_neg c, if_pos (by omega)]
  | cons x suf ih =>
    intro pre o y he ho
    have hp : L.length = pre.length + (suf.length + 1) := by rw [he]; simp
    have hx : rd_T32 L (pre.length : Int) = x := by rw [he]; exact rd32_at pre x suf
    have hol : ((o ++ [y]).length : Int) = (o.length : Int) + 1 := by simp
    have w1 : wrap64 (((o ++ [y]).length : Int) - 1) = (o.length : Int) := by rw [hol, wrap64_of (by omega) (by omega)]; omega
    have hy : rd_T32 (o ++ [y]) (o.length : Int) = y := rd32_at o y []
    have h1 := fun o' y' (ho' : o'.length + 1 ≤ pre.length + 1) => ih (pre ++ [x]) o' y' (by rw [he]; simp) (by simpa using ho')
    rw [show (pre ++ [x]).length = pre.length + 1 by simp] at h1
    have w2 : wrap64 ((pre.length : Int) + 1) = ((pre.length + 1 : Nat) : Int) := by rw [wrap64_of (by omega) (by omega)]; rfl
    refine Ev.step (f := fun k => area_joined.j1 k (o ++ [y]) ((o ++ [y]).length : Int) L (L.length : Int) (pre.length : Int) (decide (touch y x)) x.f0 x.f1 x.f2.f0 x.f2.f1 x.f3) (fun k => ?_) ?_
    · simp only [area_joined.l0]
      rw [if_pos (by omega), if_pos (by omega), if_pos (by omega), if_pos (by omega), w1, hx, hy, if_pos (by omega), if_pos (by omega)]
      by_cases c : y.f1 = x.f0
      · rw [if_pos c, alike_eq, Option.bind_some]
        congr 1
        exact decide_eq_decide.mpr ⟨fun h => ⟨c, h⟩, fun h => h.2⟩
      · rw [if_neg c, decide_eq_false (fun h => c h.1)]
    · rw [jn]
      by_cases t : touch y x
      · rw [if_pos t, decide_eq_true t]
        have h2 := h1 o ⟨y.f0, x.f1, y.f2, y.f3⟩ (by omega)
        refine Ev.step (fun k => ?_) h2
        simp only [area_joined.j1]
        rw [if_pos trivial, w1, hy, if_pos (by omega), if_pos (by omega), w2]
        congr 1
        simp
      · rw [if_neg t, decide_eq_false t]
        have h2 := h1 (o ++ [y]) x (by simp; omega)
        have q : o ++ [y] ++ jn x suf = o ++ y :: jn x suf := by simp
        rw [q] at h2
        refine Ev.step (fun k => ?_) h2
        simp only [area_joined.j1]
        rw [if_neg Bool.false_ne_true, if_pos (by omega), w2]
theorem joined_ev (L : List (List S32)) (hL : L.length ≤ 10) (hf : L.flatten.length ≤ 4000) : Ev (fun k => area_joined.f k L) (fin (join L.flatten)) := by
  unfold area_joined.f
  refine Ev.bind (concat_ev L hL hf) ?_
  generalize L.flatten = M at hf ⊢
  cases M with
  | nil => exact ev_succ (ev_now (fun k => by simp [area_joined.l0, fin, join]))
  | cons x l =>
    have h1 := jn_go (x :: l) hf l [x] [] x rfl (by simp)
    refine Ev.step (f := fun k => area_joined.j1 k [] 0 (x :: l) ((x :: l).length : Int) 0 false x.f0 x.f1 x.f2.f0 x.f2.f1 x.f3) (fun k => ?_) (Ev.step (fun k => ?_) h1)
    · simp only [area_joined.l0]
      rw [if_pos (by simp), if_pos (by omega), if_pos (by simp), if_neg (by simp)]
      rfl
    · simp only [area_joined.j1]
      rw [if_neg Bool.false_ne_true, if_pos (by simp), wrap64_of (by omega) (by omega)]
      rfl

/-! ### Lay and Cut -/
theorem fin_none {z : List S32} (h : (fin z).2 = none) : z.length ≤ 64 ∧ fin z = (z, none) := by
  unfold fin at h ⊢
  by_cases c : z.length ≤ 64
  · rw [if_pos c]; exact ⟨c, rfl⟩
  · rw [if_neg c] at h; cases h
theorem lay_ev (l : List S32) (a : S32) (hl : l.length ≤ 600) : Ev (fun k => area_Lay.f k l a.f0 a.f1 a.f2.f0 a.f2.f1 a.f3) (if valid l ∧ spanP a.f0 a.f1 then fin (layL l a) else ([], some 1)) := by
  have bad : Ev (fun k => area_Lay.j0 k l true a.f0 a.f1 a.f2.f0 a.f2.f1 a.f3) ([], some 1) := ev_succ (ev_now (fun k => by simp only [area_Lay.j0]; rw [if_pos trivial]))
  unfold area_Lay.f
  refine Ev.bind (check_ev l hl) ?_
  by_cases v : valid l
  · simp only [if_pos v, Option.isNone_none, if_true, span_eq, Option.bind_some]
    by_cases s : spanP a.f0 a.f1
    · rw [if_pos ⟨v, s⟩, decide_eq_true s]
      refine ev_succ ?_
      simp -implicitDefEqProofs only [area_Lay.j0, Bool.not_true, Bool.false_eq_true, if_false]
      refine Ev.bind (parts_ev l a.f0 a.f1 hl) ?_
      have c1 := cut_len 0 a.f0 l
      have c3 := cut_len a.f1 4096 l
      have hj := joined_ev [cut 0 a.f0 l, [a], cut a.f1 4096 l] (by simp) (by simp; omega)
      refine Ev.bind hj ?_
      refine ev_now (fun k => ?_)
      simp [layL]
    · rw [if_neg (fun h => s h.2), decide_eq_false s]
      exact bad
  · simp only [if_neg v, Option.isNone_some, Bool.false_eq_true, if_false]
    rw [if_neg (fun h => v h.1)]
    exact bad
theorem cut_ev (l : List S32) (f t : Int) (hl : l.length ≤ 600) : Ev (fun k => area_Cut.f k l f t) (if valid l ∧ spanP f t then fin (cutL l f t) else ([], some 1)) := by
  have bad : Ev (fun k => area_Cut.j0 k l f t true) ([], some 1) := ev_succ (ev_now (fun k => by simp only [area_Cut.j0]; rw [if_pos trivial]))
  unfold area_Cut.f
  refine Ev.bind (check_ev l hl) ?_
  by_cases v : valid l
  · simp only [if_pos v, Option.isNone_none, if_true, span_eq, Option.bind_some]
    by_cases s : spanP f t
    · rw [if_pos ⟨v, s⟩, decide_eq_true s]
      refine ev_succ ?_
      simp -implicitDefEqProofs only [area_Cut.j0, Bool.not_true, Bool.false_eq_true, if_false]
      refine Ev.bind (parts_ev l f t hl) ?_
      have c1 := cut_len 0 f l
      have c3 := cut_len t 4096 l
      have hj := joined_ev [cut 0 f l, cut t 4096 l] (by simp) (by simp; omega)
      refine Ev.bind hj ?_
      refine ev_now (fun k => ?_)
      simp [cutL]
    · rw [if_neg (fun h => s h.2), decide_eq_false s]
      exact bad
  · simp only [if_neg v, Option.isNone_some, Bool.false_eq_true, if_false]
    rw [if_neg (fun h => v h.1)]
    exact bad

end Go.Proofs.Ytlmjjkggoemabab.AreaEv
