/- Layer 9: the document's answer, page by page: what each page has, and the list that may be of what pages have. -/
import Derived.Test.YtlmjjkggoemababAreaSame
import Derived.Test.YtlmjjkggoemababQx12
namespace Go.Proofs.Ytlmjjkggoemabab.AreaRef
open Go.RowKit Go.Proofs.YtlmjjkggoemababW.PrintWords Go.Proofs.YtlmjjkggoemababW.PrintMore Go.Proofs.Ytlmjjkggoemabab.Bits Go.Proofs.Ytlmjjkggoemabab.Q Go.Proofs.Ytlmjjkggoemabab.AreaLib Go.Proofs.Ytlmjjkggoemabab.AreaEv Go.Proofs.Ytlmjjkggoemabab.AreaUp
set_option linter.unusedVariables false
set_option linter.unusedSimpArgs false

def encP : Option At → S40
  | none => z40
  | some a => ⟨true, a.1, a.2.1, a.2.2⟩
def pgs (g : Int → Option At) : List S40 := (List.range 4096).map (fun p : Nat => encP (g (p : Int)))
theorem pgs_len (g : Int → Option At) : (pgs g).length = 4096 := by unfold pgs; rw [List.length_map, List.length_range]
theorem pgs_get (g : Int → Option At) (i : Int) (h0 : 0 ≤ i) (h1 : i < 4096) : rd_T40 (pgs g) i = encP (g i) := by
  obtain ⟨n, rfl⟩ : ∃ n : Nat, i = n := ⟨i.toNat, by omega⟩
  have hn : n < 4096 := by omega
  unfold rd_T40 pgs
  rw [Int.toNat_natCast, List.getD_eq_getElem?_getD, List.getElem?_map, List.getElem?_range hn]
  rfl
def upd (g : Int → Option At) (i : Int) (v : Option At) : Int → Option At := fun q => if q = i then v else g q
theorem pgs_set (g : Int → Option At) (i : Int) (v : Option At) (h0 : 0 ≤ i) : (pgs g).set i.toNat (encP v) = pgs (upd g i v) := by
  obtain ⟨n, rfl⟩ : ∃ n : Nat, i = n := ⟨i.toNat, by omega⟩
  unfold pgs upd
  rw [Int.toNat_natCast]
  apply List.ext_getElem?
  intro j
  rw [List.getElem?_set, List.getElem?_map, List.getElem?_map, List.length_map, List.length_range]
  by_cases hj : j < 4096
  · rw [List.getElem?_range hj]
    by_cases e : n = j
    · subst e
      simp [hj]
    · have e' : ¬ ((j : Int) = (n : Int)) := by omega
      simp [e, e']
  · rw [List.getElem?_eq_none (by rw [List.length_range]; omega)]
    by_cases e : n = j
    · subst e
      simp [hj]
    · simp [e]
theorem pgs_congr {g h : Int → Option At} (e : ∀ p, 0 ≤ p → p < 4096 → g p = h p) : pgs g = pgs h := by
  unfold pgs
  apply List.map_congr_left
  intro p hp
  rw [List.mem_range] at hp
  rw [e (p : Int) (by omega) (by omega)]

/-! ### what each page has -/
theorem of_inner (L : List S32) (i : Nat) (x : S32) (hi : i < L.length) (hL : L.length ≤ 600) (hx : rd_T32 L (i : Int) = x) (h4 : x.f1 ≤ 4096) (r : List S40) : ∀ (d : Nat) (y : Int) (g : Int → Option At), 0 ≤ y → y + d = x.f1 →
    Ev (fun k => paviorref09_Of.l0 k L (pgs (fun q => if y ≤ q ∧ q < x.f1 then some (attr x) else g q)) ((i + 1 : Nat) : Int)) r →
    Ev (fun k => paviorref09_Of.l1 k L (pgs g) (i : Int) y) r := by
  intro d
  induction d with
  | zero =>
    intro y g hy hd h
    have e : pgs (fun q => if y ≤ q ∧ q < x.f1 then some (attr x) else g q) = pgs g := pgs_congr (fun p _ _ => by rw [if_neg (by omega)])
    rw [e] at h
    refine Ev.step (fun k => ?_) h
    rw [paviorref09_Of.l1, if_pos (by omega), if_pos (by omega), hx, if_neg (by omega), wrap64_of (by omega) (by omega)]
    rfl
  | succ d ih =>
    intro y g hy hd h
    have e : pgs (fun q => if y ≤ q ∧ q < x.f1 then some (attr x) else g q) = pgs (fun q => if y + 1 ≤ q ∧ q < x.f1 then some (attr x) else upd g y (some (attr x)) q) := pgs_congr (fun p _ _ => by
      unfold upd
      by_cases c : p = y
      · subst c
        rw [if_pos (by omega), if_neg (by omega), if_pos rfl]
      · by_cases c2 : y ≤ p ∧ p < x.f1
        · rw [if_pos c2, if_pos (by omega)]
        · rw [if_neg c2, if_neg (by omega), if_neg c])
    rw [e] at h
    have h1 := ih (y + 1) (upd g y (some (attr x))) (by omega) (by omega) h
    rw [← pgs_set g y (some (attr x)) hy] at h1
    refine Ev.step (fun k => ?_) h1
    rw [paviorref09_Of.l1, if_pos (by omega), if_pos (by omega), hx, if_pos (by omega), if_pos hy, pgs_len, if_pos (by omega), wrap64_of (by omega) (by omega)]
    rfl
theorem of_outer : ∀ (suf pre : List S32) (q : Int) (g : Int → Option At), (pre ++ suf).length ≤ 600 → 0 ≤ q → lies q suf 4096 →
    Ev (fun k => paviorref09_Of.l0 k (pre ++ suf) (pgs g) (pre.length : Int)) (pgs (fun p => (at_ suf p).or (g p))) := by
  intro suf
  induction suf with
  | nil =>
    intro pre q g hlen h0 hl
    refine ev_succ (ev_now (fun k => ?_))
    rw [paviorref09_Of.l0, if_neg (by simp)]
    rfl
  | cons x suf ih =>
    intro pre q g hlen h0 hl
    obtain ⟨l1, l2, l3⟩ := hl
    have h4 := lies_le l3
    have hp : (pre ++ x :: suf).length = pre.length + (suf.length + 1) := by simp
    have h1 := ih (pre ++ [x]) x.f1 (fun p => if x.f0 ≤ p ∧ p < x.f1 then some (attr x) else g p) (by simpa using hlen) (by omega) l3
    have e : pgs (fun p => (at_ suf p).or (if x.f0 ≤ p ∧ p < x.f1 then some (attr x) else g p)) = pgs (fun p => (at_ (x :: suf) p).or (g p)) := pgs_congr (fun p _ _ => by
      rw [at_]
      by_cases c : x.f0 ≤ p ∧ p < x.f1
      · rw [if_pos c, if_pos c, at_lt l3 c.2]
        rfl
      · rw [if_neg c, if_neg c])
    rw [e, List.append_assoc] at h1
    have h2 := of_inner (pre ++ x :: suf) pre.length x (by omega) hlen (rd32_at pre x suf) h4 _ (x.f1 - x.f0).toNat x.f0 g (by omega) (by omega) (by simpa using h1)
    refine Ev.step (fun k => ?_) h2
    rw [paviorref09_Of.l0, if_pos (by omega), if_pos (by omega), rd32_at]
theorem blankN (n : Nat) : List.replicate n z40 = (List.range n).map (fun p : Nat => encP ((fun _ => none : Int → Option At) (p : Int))) := by
  rw [List.map_const', List.length_range]
  rfl
theorem blank : List.replicate 4096 z40 = pgs (fun _ => none) := by
  unfold pgs
  exact blankN 4096
theorem of_ev (l : List S32) (h : valid l) : Ev (fun k => paviorref09_Of.f k l) (pgs (at_ l)) := by
  have h1 := of_outer l [] 0 (fun _ => none) (by have := h.2; simp; omega) (Int.le_refl _) h.1.1
  have e : pgs (fun p => (at_ l p).or none) = pgs (at_ l) := pgs_congr (fun p _ _ => Option.or_none)
  rw [e, ← blank] at h1
  refine Ev.congr (fun k => ?_) h1
  unfold paviorref09_Of.f
  rw [if_pos (by omega)]
  rfl

/-! ### the list of what pages have -/
theorem encP_eq (u v : Option At) : ((encP u).f0 == (encP v).f0 && ((encP u).f1 == (encP v).f1 && ((encP u).f2 == (encP v).f2 && ((encP u).f3 == (encP v).f3)))) = decide (u = v) := by
  rcases u with _ | ⟨a, b, c⟩ <;> rcases v with _ | ⟨a', b', c'⟩
  · rfl
  · rfl
  · rfl
  · cases a <;> cases b <;> cases c <;> cases a' <;> cases b' <;> cases c' <;> rfl
theorem lies_snoc : ∀ {o : List S32} {y : S32} {q e : Int}, lies q (o ++ [y]) e → lies q o y.f0 ∧ y.f0 < y.f1 ∧ y.f1 ≤ e
  | [], y, q, e, h => ⟨h.1, h.2.1, h.2.2⟩
  | x :: o, y, q, e, h => by
    obtain ⟨h1, h2, h3⟩ := h
    obtain ⟨a, b, c⟩ := lies_snoc h3
    exact ⟨⟨h1, h2, a⟩, b, c⟩
theorem apart_snoc : ∀ {o : List S32} {y x : S32}, apart (o ++ [y]) → ¬ touch y x → apart (o ++ [y] ++ [x])
  | [], y, x, h, t => ⟨t, trivial⟩
  | [z], y, x, h, t => ⟨h.1, t, trivial⟩
  | z :: z' :: o, y, x, h, t => ⟨h.1, apart_snoc (o := z' :: o) h.2 t⟩
theorem run_end (g : Int → Option At) (a : Int) : ∀ (d : Nat) (t : Int), t + d = 4096 → a < t → (∀ p, a ≤ p → p < t → g p = g a) → ∃ e, t ≤ e ∧ e ≤ 4096 ∧ (∀ p, a ≤ p → p < e → g p = g a) ∧ (e < 4096 → g e ≠ g a) := by
  intro d
  induction d with
  | zero => intro t ht ha h; exact ⟨t, Int.le_refl _, by omega, h, fun c => by omega⟩
  | succ d ih =>
    intro t ht ha h
    by_cases c : g t = g a
    · obtain ⟨e, h1, h2, h3, h4⟩ := ih (t + 1) (by omega) (by omega) (fun p p1 p2 => by
        by_cases e : p = t
        · rw [e]; exact c
        · exact h p p1 (by omega))
      exact ⟨e, by omega, h2, h3, h4⟩
    · exact ⟨t, Int.le_refl _, by omega, h, fun _ => c⟩
theorem to_inner (g : Int → Option At) (out : List S32) (a e : Int) (h0 : 0 ≤ a) (ha : a < 4096) (he : e ≤ 4096) (hs : ∀ p, a ≤ p → p < e → g p = g a) (hn : e < 4096 → g e ≠ g a) (r : List S32 × Bool) (h : Ev (fun k => paviorref09_To.j2 k (pgs g) out a e false) r) :
    ∀ (d : Nat) (t : Int), t + d = e → a < t → Ev (fun k => paviorref09_To.l1 k (pgs g) out a t) r := by
  have step : ∀ (t : Int) (k : Nat), a < t → t ≤ 4096 → paviorref09_To.l1 (k + 1) (pgs g) out a t = paviorref09_To.j2 k (pgs g) out a t (decide (t < 4096 ∧ g t = g a)) := by
    intro t k t1 t2
    rw [paviorref09_To.l1]
    by_cases c : t < 4096
    · rw [if_pos c, if_pos (by omega), pgs_len, if_pos (by omega), if_pos h0, if_pos (by omega), pgs_get g t (by omega) c, pgs_get g a h0 ha, encP_eq]
      congr 1
      exact decide_eq_decide.mpr ⟨fun q => ⟨c, q⟩, fun q => q.2⟩
    · rw [if_neg c, decide_eq_false (fun q => c q.1)]
  intro d
  induction d with
  | zero =>
    intro t ht h1
    obtain rfl : t = e := by omega
    refine Ev.step (fun k => ?_) h
    rw [step t k h1 he, decide_eq_false (fun q => hn q.1 q.2)]
  | succ d ih =>
    intro t ht h1
    refine Ev.step (f := fun k => paviorref09_To.j2 k (pgs g) out a t true) (fun k => ?_) (Ev.step (fun k => ?_) (ih (t + 1) (by omega) (by omega)))
    · rw [step t k h1 (by omega), decide_eq_true ⟨by omega, hs t (by omega) (by omega)⟩]
    · rw [paviorref09_To.j2, if_pos rfl, wrap64_of (by omega) (by omega)]
theorem to_loop (g : Int → Option At) : ∀ (n : Nat) (a : Int) (out : List S32), 0 ≤ a → a ≤ 4096 → 4096 - a ≤ n → lies 0 out a → apart out → (out.length : Int) ≤ a → (∀ p, 0 ≤ p → p < a → at_ out p = g p) → (0 < a → a < 4096 → g (a - 1) ≠ g a) →
    ∃ z, canon z ∧ (∀ p, 0 ≤ p → p < 4096 → at_ z p = g p) ∧ Ev (fun k => paviorref09_To.l0 k (pgs g) out a) (z, decide (z.length ≤ 64)) := by
  intro n
  induction n with
  | zero =>
    intro a out h0 h1 hn hl ha hlen hat hb
    obtain rfl : a = 4096 := by omega
    refine ⟨out, ⟨hl, ha⟩, hat, ev_succ (ev_now (fun k => ?_))⟩
    rw [paviorref09_To.l0, if_neg (by omega)]
    congr 2
    exact decide_eq_decide.mpr (by omega)
  | succ n ih =>
    intro a out h0 h1 hn hl ha hlen hat hb
    by_cases c : a < 4096
    · obtain ⟨e, e1, e2, e3, e4⟩ := run_end g a (4096 - (a + 1)).toNat (a + 1) (by omega) (by omega) (fun p p1 p2 => by rw [show p = a by omega])
      have go : ∀ (out' : List S32), lies 0 out' e → apart out' → (out'.length : Int) ≤ e → (∀ p, 0 ≤ p → p < e → at_ out' p = g p) →
          (∀ r, Ev (fun k => paviorref09_To.l0 k (pgs g) out' e) r → Ev (fun k => paviorref09_To.j2 k (pgs g) out a e false) r) →
          ∃ z, canon z ∧ (∀ p, 0 ≤ p → p < 4096 → at_ z p = g p) ∧ Ev (fun k => paviorref09_To.l0 k (pgs g) out a) (z, decide (z.length ≤ 64)) := by
        intro out' l' a' len' at' hj
        obtain ⟨z, z1, z2, z3⟩ := ih e out' (by omega) e2 (by omega) l' a' len' at' (fun _ he => by
          rw [e3 (e - 1) (by omega) (by omega)]
          exact fun q => e4 he q.symm)
        refine ⟨z, z1, z2, ?_⟩
        have h2 := to_inner g out a e h0 c e2 e3 e4 _ (hj _ z3) (e - (a + 1)).toNat (a + 1) (by omega) (by omega)
        refine Ev.step (fun k => ?_) h2
        rw [paviorref09_To.l0, if_pos c, wrap64_of (by omega) (by omega)]
      cases hg : g a with
      | none =>
        refine go out (lies_e (by omega) hl) ha (by omega) (fun p p0 p1 => ?_) (fun r hr => ?_)
        · by_cases d : p < a
          · exact hat p p0 d
          · rw [at_ge hl (by omega), e3 p (by omega) p1, hg]
        · refine Ev.step (fun k => ?_) hr
          rw [paviorref09_To.j2, if_neg Bool.false_ne_true, if_pos h0, pgs_len, if_pos (by omega), pgs_get g a h0 c, hg, if_neg (by decide)]
      | some v =>
        obtain ⟨v0, v1, v2⟩ := v
        have hx : lies a [⟨a, e, ⟨v0, v1⟩, v2⟩] e := ⟨Int.le_refl _, by show a < e; omega, Int.le_refl e⟩
        refine go (out ++ [⟨a, e, ⟨v0, v1⟩, v2⟩]) (lies_app hl hx) ?_ (by simp; omega) (fun p p0 p1 => ?_) (fun r hr => ?_)
        · rcases List.eq_nil_or_concat out with rfl | ⟨o, y, rfl⟩
          · exact trivial
          · rw [List.concat_eq_append] at hl ha hat hlen ⊢
            refine apart_snoc ha (fun t => ?_)
            obtain ⟨t1, t2⟩ := t
            have t1' : y.f1 = a := t1
            obtain ⟨b1, b2, b3⟩ := lies_snoc hl
            have b4 := lies_le b1
            have q := hat (a - 1) (by omega) (by omega)
            rw [at_app, at_ge b1 (by omega), Option.none_or, at_, if_pos (by omega)] at q
            refine hb (by omega) c ?_
            rw [← q, hg, t2]
            rfl
        · rw [at_app]
          by_cases d : p < a
          · rw [hat p p0 d, at_lt (l := [⟨a, e, ⟨v0, v1⟩, v2⟩]) hx d]
            exact Option.or_none
          · rw [at_ge hl (by omega), Option.none_or, at_, if_pos (by show a ≤ p ∧ p < e; omega), e3 p (by omega) p1, hg]
            rfl
        · refine Ev.step (fun k => ?_) hr
          rw [paviorref09_To.j2, if_neg Bool.false_ne_true, if_pos h0, pgs_len, if_pos (by omega), pgs_get g a h0 c, hg, if_pos (show (encP (some (v0, v1, v2))).f0 = true from rfl)]
          show (if out.length < 5864062014805 then _ else _) = _
          rw [if_pos (by omega)]
          rfl
    · obtain rfl : a = 4096 := by omega
      refine ⟨out, ⟨hl, ha⟩, hat, ev_succ (ev_now (fun k => ?_))⟩
      rw [paviorref09_To.l0, if_neg (by omega)]
      congr 2
      exact decide_eq_decide.mpr (by omega)
theorem to_ev (g : Int → Option At) : ∃ z, canon z ∧ (∀ p, 0 ≤ p → p < 4096 → at_ z p = g p) ∧ Ev (fun k => paviorref09_To.f k (pgs g)) (z, decide (z.length ≤ 64)) :=
  to_loop g 4096 0 [] (Int.le_refl _) (by omega) (by omega) (Int.le_refl (0 : Int)) trivial (by simp) (fun p a b => by omega) (fun a => by omega)
theorem right_ev (z : List S32) (g : Int → Option At) (hz : canon z) (hg : ∀ p, 0 ≤ p → p < 4096 → at_ z p = g p) : Ev (fun k => paviorlaw09_right.f k (fin z).1 (fin z).2 (pgs g)) true := by
  obtain ⟨m, m1, m2, m3⟩ := to_ev g
  obtain rfl : z = m := canon_uniq hz m1 (fun p a b => by rw [hg p a b, m2 p a b])
  unfold paviorlaw09_right.f
  refine Ev.bind m3 ?_
  by_cases c : z.length ≤ 64
  · rw [fin_ok c]
    simp -implicitDefEqProofs only [decide_eq_true c, if_true, Option.isNone_none]
    refine Ev.bind (same_ev z (by omega)) ?_
    exact ev_now (fun _ => rfl)
  · rw [fin_full c]
    simp -implicitDefEqProofs only [decide_eq_false c]
    exact ev_now (fun _ => by simp)
end Go.Proofs.Ytlmjjkggoemabab.AreaRef
