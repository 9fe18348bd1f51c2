/- Layer 9: what comes of each of some pages' areas: each, and so Change and Advise. -/
import Derived.Test.YtlmjjkggoemababAreaUp
import Derived.Test.YtlmjjkggoemababQx21
namespace Go.Proofs.Ytlmjjkggoemabab.AreaEach
open Go.RowKit Go.Proofs.YtlmjjkggoemababW.PrintWords Go.Proofs.YtlmjjkggoemababW.PrintMore Go.Proofs.Ytlmjjkggoemabab.Bits Go.Proofs.Ytlmjjkggoemabab.Q Go.Proofs.Ytlmjjkggoemabab.AreaLib Go.Proofs.Ytlmjjkggoemabab.AreaEv Go.Proofs.Ytlmjjkggoemabab.AreaUp
set_option linter.unusedVariables false
set_option linter.unusedSimpArgs false

/-- how many pages areas have -/
def sumL : List S32 → Int
  | [] => 0
  | x :: l => (x.f1 - x.f0) + sumL l
theorem sum_le : ∀ {l : List S32} {q e : Int}, lies q l e → 0 ≤ sumL l ∧ sumL l ≤ e - q
  | [], q, e, h => ⟨Int.le_refl _, by have : q ≤ e := h; show (0 : Int) ≤ e - q; omega⟩
  | x :: l, q, e, h => by
    obtain ⟨h1, h2, h3⟩ := h
    obtain ⟨i1, i2⟩ := sum_le h3
    rw [sumL]
    omega
theorem full : ∀ {l : List S32} {q e : Int}, lies q l e → ¬ sumL l < e - q → ∀ p, q ≤ p → p < e → at_ l p ≠ none
  | [], q, e, h, hs, p, p1, p2 => by
    have : ¬ (0 : Int) < e - q := hs
    omega
  | x :: l, q, e, h, hs, p, p1, p2 => by
    obtain ⟨h1, h2, h3⟩ := h
    have i := (sum_le h3).2
    rw [sumL] at hs
    rw [at_]
    by_cases c : x.f0 ≤ p ∧ p < x.f1
    · rw [if_pos c]; simp
    · rw [if_neg c]
      exact full h3 (by omega) p (by omega) p2
theorem gap : ∀ {l : List S32} {q e : Int}, lies q l e → sumL l < e - q → ∃ p, q ≤ p ∧ p < e ∧ at_ l p = none
  | [], q, e, h, hs => ⟨q, Int.le_refl _, by have : (0 : Int) < e - q := hs; omega, rfl⟩
  | x :: l, q, e, h, hs => by
    obtain ⟨h1, h2, h3⟩ := h
    have l4 := lies_le h3
    rw [sumL] at hs
    by_cases c : q < x.f0
    · exact ⟨q, Int.le_refl _, by omega, at_lt (l := x :: l) (q := x.f0) (e := e) ⟨Int.le_refl _, h2, h3⟩ c⟩
    · obtain ⟨p, p1, p2, p3⟩ := gap h3 (by omega)
      exact ⟨p, by omega, p2, by rw [at_, if_neg (by omega)]; exact p3⟩
theorem sum_app : ∀ (l m : List S32), sumL (l ++ m) = sumL l + sumL m
  | [], m => by simp [sumL]
  | x :: l, m => by rw [List.cons_append, sumL, sumL, sum_app l m]; omega
/-- what leaves the pages as they are -/
def keeps (φ : S32 → S32) (ψ : At → At) : Prop := ∀ x, (φ x).f0 = x.f0 ∧ (φ x).f1 = x.f1 ∧ attr (φ x) = ψ (attr x)
theorem lies_map {φ : S32 → S32} {ψ : At → At} (k : keeps φ ψ) : ∀ {l : List S32} {q e : Int}, lies q l e → lies q (l.map φ) e
  | [], _, _, h => h
  | x :: l, q, e, h => by
    obtain ⟨h1, h2, h3⟩ := h
    obtain ⟨k1, k2, _⟩ := k x
    rw [List.map_cons]
    exact ⟨by rw [k1]; exact h1, by rw [k1, k2]; exact h2, by rw [k2]; exact lies_map k h3⟩
theorem at_map {φ : S32 → S32} {ψ : At → At} (k : keeps φ ψ) (p : Int) : ∀ l : List S32, at_ (l.map φ) p = (at_ l p).map ψ
  | [] => rfl
  | x :: l => by
    obtain ⟨k1, k2, k3⟩ := k x
    rw [List.map_cons, at_, at_, k1, k2, k3]
    by_cases c : x.f0 ≤ p ∧ p < x.f1
    · rw [if_pos c, if_pos c]; rfl
    · rw [if_neg c, if_neg c]; exact at_map k p l
def eachL (φ : S32 → S32) (l : List S32) (f t : Int) : List S32 := join (cut 0 f l ++ ((cut f t l).map φ ++ cut t 4096 l))
theorem each_lies {φ : S32 → S32} {ψ : At → At} (k : keeps φ ψ) {l : List S32} {f t : Int} (hl : lies 0 l 4096) (ha : spanP f t) : lies 0 (cut 0 f l ++ ((cut f t l).map φ ++ cut t 4096 l)) 4096 := by
  obtain ⟨a1, a2, a3⟩ := ha
  exact lies_app (lies_cut 0 f l 0 4096 0 hl a1 (by omega)) (lies_app (lies_map k (lies_cut f t l 0 4096 f hl (Int.le_of_lt a2) (by omega))) (lies_cut t 4096 l 0 4096 t hl a3 (by omega)))
theorem each_canon {φ : S32 → S32} {ψ : At → At} (k : keeps φ ψ) {l : List S32} {f t : Int} (hl : canon l) (ha : spanP f t) : canon (eachL φ l f t) := ⟨join_lies (each_lies k hl.1 ha), join_apart _⟩
theorem each_at {φ : S32 → S32} {ψ : At → At} (k : keeps φ ψ) {l : List S32} {f t : Int} (hl : canon l) (ha : spanP f t) (p : Int) : at_ (eachL φ l f t) p = if f ≤ p ∧ p < t then (at_ l p).map ψ else at_ l p := by
  have hla := each_lies k hl.1 ha
  obtain ⟨a1, a2, a3⟩ := ha
  unfold eachL
  rw [join_at hla, at_app, at_app, at_map k, at_cut, at_cut, at_cut]
  by_cases c1 : p < 0
  · rw [at_lt hl.1 c1, if_neg (by omega), if_neg (by omega), if_neg (by omega), if_neg (by omega)]
    rfl
  by_cases c2 : 4096 ≤ p
  · rw [at_ge hl.1 c2, if_neg (by omega), if_neg (by omega), if_neg (by omega), if_neg (by omega)]
    rfl
  by_cases c3 : p < f
  · rw [if_pos (by omega), if_neg (by omega), if_neg (by omega), if_neg (by omega)]
    cases at_ l p <;> rfl
  by_cases c4 : p < t
  · rw [if_neg (by omega), if_pos (by omega), if_neg (by omega), if_pos (by omega)]
    cases at_ l p <;> rfl
  · rw [if_neg (by omega), if_neg (by omega), if_pos (by omega), if_neg (by omega)]
    rfl

theorem mem_in : ∀ {l : List S32} {q e : Int}, lies q l e → ∀ x, x ∈ l → q ≤ x.f0 ∧ x.f0 < x.f1 ∧ x.f1 ≤ e
  | [], _, _, _, x, hx => by simp at hx
  | y :: l, q, e, h, x, hx => by
    obtain ⟨h1, h2, h3⟩ := h
    have h4 := lies_le h3
    rcases List.mem_cons.mp hx with rfl | hx
    · exact ⟨h1, h2, h4⟩
    · obtain ⟨a, b, c⟩ := mem_in h3 x hx
      exact ⟨by omega, b, c⟩
theorem sum_pos : ∀ {l : List S32}, (∀ x, x ∈ l → x.f0 < x.f1) → 0 ≤ sumL l
  | [], _ => Int.le_refl _
  | y :: l, h => by
    have h1 := h y (by simp)
    have h2 := sum_pos (l := l) (fun x hx => h x (by simp [hx]))
    rw [sumL]
    omega
theorem each_loop (φ : S32 → S32) (f t : Int) (A B : List S32) (r : List S32 × Option Int) (M : List S32) (hM : M.length ≤ 600) (hb : ∀ x, x ∈ M → 0 ≤ x.f0 ∧ x.f0 < x.f1 ∧ x.f1 ≤ 4096) (hs : sumL M ≤ 4096)
    (h : Ev (fun k => area_each.l0 k f t φ A (M.map φ) B (sumL M) (M.length : Int) (M.length : Int)) r) : ∀ (suf pre : List S32), M = pre ++ suf →
    Ev (fun k => area_each.l0 k f t φ A (pre.map φ ++ suf) B (sumL pre) (M.length : Int) (pre.length : Int)) r := by
  intro suf
  induction suf with
  | nil =>
    intro pre he
    rw [List.append_nil] at he
    subst he
    rw [List.append_nil]
    exact h
  | cons x suf ih =>
    intro pre he
    have hp : M.length = pre.length + (suf.length + 1) := by rw [he]; simp
    obtain ⟨x1, x2, x3⟩ := hb x (by rw [he]; simp)
    have s1 : 0 ≤ sumL pre := sum_pos (fun y hy => (hb y (by rw [he]; simp [hy])).2.1)
    have s2 : 0 ≤ sumL suf := sum_pos (fun y hy => (hb y (by rw [he]; simp [hy])).2.1)
    have s3 : sumL M = sumL pre + ((x.f1 - x.f0) + sumL suf) := by rw [he, sum_app, sumL]
    have h1 := ih (pre ++ [x]) (by rw [he]; simp)
    have e1 : sumL (pre ++ [x]) = sumL pre + (x.f1 - x.f0) := by rw [sum_app, sumL, sumL]; omega
    have e2 : (pre ++ [x]).length = pre.length + 1 := by simp
    have e3 : (pre ++ [x]).map φ ++ suf = pre.map φ ++ φ x :: suf := by simp
    rw [e1, e2, e3] at h1
    have hx : rd_T32 (pre.map φ ++ x :: suf) (pre.length : Int) = x := by
      have := rd32_at (pre.map φ) x suf
      rwa [List.length_map] at this
    have hlen : ((pre.map φ ++ x :: suf).length : Int) = (M.length : Int) := by rw [hp]; simp
    have hset : (pre.map φ ++ x :: suf).set pre.length (φ x) = pre.map φ ++ φ x :: suf := by
      rw [List.set_append_right _ _ (by simp)]
      simp
    refine Ev.step (fun k => ?_) h1
    rw [area_each.l0, if_pos (by omega), if_pos (by omega), hlen, if_pos (by omega), hx]
    unfold ap66.f
    rw [Option.bind_some, wrap64_of (n := x.f1 - x.f0) (by omega) (by omega), wrap64_of (n := sumL pre + (x.f1 - x.f0)) (by omega) (by omega), wrap64_of (n := (pre.length : Int) + 1) (by omega) (by omega), Int.toNat_natCast]
    rw [← hset]
    rfl
theorem each_ev {φ : S32 → S32} {ψ : At → At} (kp : keeps φ ψ) (l : List S32) (f t : Int) (hl : l.length ≤ 600) :
    Ev (fun k => area_each.f k l f t φ) (if valid l ∧ spanP f t then (if sumL (cut f t l) < t - f then ([], some 3) else fin (eachL φ l f t)) else ([], some 1)) := by
  have bad : Ev (fun k => area_each.j0 k l f t φ true) ([], some 1) := ev_succ (ev_now (fun k => by simp only [area_each.j0]; rw [if_pos trivial]))
  unfold area_each.f
  refine Ev.bind (check_ev l hl) ?_
  by_cases v : valid l
  · simp only [if_pos v, Option.isNone_none, if_true, span_eq, Option.bind_some]
    by_cases s : spanP f t
    · rw [if_pos ⟨v, s⟩, decide_eq_true s]
      obtain ⟨s1, s2, s3⟩ := s
      refine ev_succ ?_
      simp -implicitDefEqProofs only [area_each.j0, Bool.not_true, Bool.false_eq_true, if_false]
      refine Ev.bind (parts_ev l f t hl) ?_
      have c1 := cut_len 0 f l
      have c2 := cut_len f t l
      have c3 := cut_len t 4096 l
      have hc : lies f (cut f t l) t := lies_cut f t l 0 4096 f v.1.1 (Int.le_of_lt s2) (by omega)
      have hsum := sum_le hc
      have hend : Ev (fun k => area_each.l0 k f t φ (cut 0 f l) ((cut f t l).map φ) (cut t 4096 l) (sumL (cut f t l)) ((cut f t l).length : Int) ((cut f t l).length : Int)) (if sumL (cut f t l) < t - f then ([], some 3) else fin (eachL φ l f t)) := by
        refine ev_succ ?_
        have w : wrap64 (t - f) = t - f := wrap64_of (by omega) (by omega)
        simp -implicitDefEqProofs only [area_each.l0, if_neg (show ¬ ((cut f t l).length : Int) < ((cut f t l).length : Int) by omega), w]
        by_cases c : sumL (cut f t l) < t - f
        · simp only [if_pos c]
          exact ev_now (fun _ => rfl)
        · simp only [if_neg c]
          have hj := joined_ev [cut 0 f l, (cut f t l).map φ, cut t 4096 l] (by simp) (by simp; omega)
          refine Ev.bind hj ?_
          refine ev_now (fun k => ?_)
          simp [eachL]
      exact each_loop φ f t (cut 0 f l) (cut t 4096 l) _ (cut f t l) (by omega) (fun x hx => by have := mem_in hc x hx; omega) (by omega) hend (cut f t l) [] rfl
    · rw [if_neg (fun h => s h.2), decide_eq_false s]
      exact bad
  · simp only [if_neg v, Option.isNone_some, Bool.false_eq_true, if_false]
    rw [if_neg (fun h => v h.1)]
    exact bad
/-- are all of some pages an area's? -/
theorem sum_none {l : List S32} {f t : Int} (hl : canon l) (ha : spanP f t) : sumL (cut f t l) < t - f ↔ ∃ p, f ≤ p ∧ p < t ∧ at_ l p = none := by
  obtain ⟨s1, s2, s3⟩ := ha
  have hc : lies f (cut f t l) t := lies_cut f t l 0 4096 f hl.1 (Int.le_of_lt s2) (by omega)
  constructor
  · intro h
    obtain ⟨p, p1, p2, p3⟩ := gap hc h
    rw [at_cut, if_pos ⟨p1, p2⟩] at p3
    exact ⟨p, p1, p2, p3⟩
  · rintro ⟨p, p1, p2, p3⟩
    refine Classical.byContradiction (fun h => ?_)
    have := full hc h p p1 p2
    rw [at_cut, if_pos ⟨p1, p2⟩] at this
    exact this p3
end Go.Proofs.Ytlmjjkggoemabab.AreaEach
