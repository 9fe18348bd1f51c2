/- Buddies: what taking and giving do. -/
import Derived.Test.YtehbhpkmlmeblaaDoorBuddyFind
namespace Go.Proofs.YtehbhpkmlmeblaaDoor.V
open Go Go.RowKit Go.Proofs
set_option linter.unusedVariables false
set_option linter.unusedSimpArgs false
/-- A block is put: what is covered, how much. -/
theorem putb_all {n : Int} {s : Sto} {x : Blk} {k : Nat} (h : Inv n s.l) (hn : n ≤ 512) (ok : Ok n x) (dis : ∀ t, In t x → ¬ Cov s.l t) (nbx : ∀ y ∈ s.l, ¬ Bud x y ∧ ¬ Bud y x) (hk : 1000 ≤ k) :
    ∃ l, putb.f k s x = some ⟨s.n, l⟩ ∧ Inv n l ∧ (∀ t, Cov l t ↔ Cov s.l t ∨ In t x) ∧ (∀ y, y ∈ l ↔ y = x ∨ y ∈ s.l) ∧ tot l = tot s.l + pw x.o := by
  obtain ⟨A, B, e, hA, hB⟩ := split_at x.f h.lt
  have hlen := h.len hn
  refine ⟨A ++ x :: B, putb_eq e hA hB (by omega) hk, ?_, ?_, ?_, ?_⟩
  · rw [e] at h dis nbx
    exact h.put ok dis nbx hA hB
  · intro t; rw [e]; exact cov_mid
  · intro y; rw [e]; exact mem_mid
  · rw [e]; exact tot_mid
theorem pw_step {o j p f : Int} (o0 : 0 ≤ o) (hoj : o ≤ j) (hjp : j < p) (p5 : p ≤ 5) (ha : f % pw p = 0) : pw (j + 1) = 2 * pw j ∧ pw (j + 1) ≤ pw p ∧ f % (2 * pw j) = 0 ∧ (f + pw j) % pw j = 0 ∧ ¬ (f + pw j) % (2 * pw j) = 0 ∧ pw o ≤ pw j := by
  have hj : (j = 0 ∧ pw j = 1 ∧ pw (j + 1) = 2) ∨ (j = 1 ∧ pw j = 2 ∧ pw (j + 1) = 4) ∨ (j = 2 ∧ pw j = 4 ∧ pw (j + 1) = 8) ∨ (j = 3 ∧ pw j = 8 ∧ pw (j + 1) = 16) ∨ (j = 4 ∧ pw j = 16 ∧ pw (j + 1) = 32) := by
    rcases (by omega : j = 0 ∨ j = 1 ∨ j = 2 ∨ j = 3 ∨ j = 4) with rfl | rfl | rfl | rfl | rfl <;> decide
  have hp := pw_cases (show 0 ≤ p by omega) p5
  have ho := pw_cases o0 (show o ≤ 5 by omega)
  rcases hj with ⟨e1, p1, p2⟩ | ⟨e1, p1, p2⟩ | ⟨e1, p1, p2⟩ | ⟨e1, p1, p2⟩ | ⟨e1, p1, p2⟩ <;> rw [p1, p2] <;>
  rcases hp with ⟨e3, p3⟩ | ⟨e3, p3⟩ | ⟨e3, p3⟩ | ⟨e3, p3⟩ | ⟨e3, p3⟩ | ⟨e3, p3⟩ <;> rw [p3] at ha ⊢ <;> omega
theorem pw_mono {o p f : Int} (o0 : 0 ≤ o) (hop : o ≤ p) (p5 : p ≤ 5) (ha : f % pw p = 0) : pw o ≤ pw p ∧ f % pw o = 0 := by
  have hp := pw_cases (show 0 ≤ p by omega) p5
  have ho := pw_cases o0 (show o ≤ 5 by omega)
  rcases ho with ⟨e1, p1⟩ | ⟨e1, p1⟩ | ⟨e1, p1⟩ | ⟨e1, p1⟩ | ⟨e1, p1⟩ | ⟨e1, p1⟩ <;> rw [p1] <;>
  rcases hp with ⟨e3, p3⟩ | ⟨e3, p3⟩ | ⟨e3, p3⟩ | ⟨e3, p3⟩ | ⟨e3, p3⟩ | ⟨e3, p3⟩ <;> rw [p3] at ha ⊢ <;> omega
/-- What Take chooses: the first of the least order that is enough. -/
def Best (o : Int) (A : List Blk) (x : Blk) (B : List Blk) : Prop := o ≤ x.o ∧ (∀ y ∈ A, o ≤ y.o → x.o < y.o) ∧ ∀ y ∈ B, o ≤ y.o → x.o ≤ y.o
def BestAt (o : Int) (L : List Blk) (i : Nat) (b : Int) : Prop := (b = -1 ∧ ∀ (j : Nat) (h : j < L.length), j < i → L[j].o < o) ∨
  ∃ (m : Nat) (h : m < L.length), b = (m : Int) ∧ m < i ∧ o ≤ L[m].o ∧ (∀ (j : Nat) (h' : j < L.length), j < m → o ≤ L[j].o → L[m].o < L[j].o) ∧ ∀ (j : Nat) (h' : j < L.length), j < i → o ≤ L[j].o → L[m].o ≤ L[j].o
theorem take_go {k : Nat} {s : Sto} {o : Int} {b1 : Bool} (hl : s.l.length ≤ 900) : ∀ (d n i : Nat) (b : Int), s.l.length - i ≤ d → d < n → i ≤ s.l.length → BestAt o s.l i b →
    ∃ b' v3, BestAt o s.l s.l.length b' ∧ Take.l1 k s o b1 n b (i : Int) = (bif decide (b' < 0) then some (s, 0, (some 5)) else (bif decide (0 ≤ b') && decide (b' < (s.l.length : Int)) then (drop.f k s b').bind fun (r11 : Sto) => Take.l2 k s o b1 b' v3 r11 k r11 o else none)) := by
  intro d
  induction d with
  | zero =>
    intro n i b h1 h2 h3 h4
    obtain ⟨n, rfl⟩ : ∃ m, n = m + 1 := ⟨n - 1, by omega⟩
    obtain rfl : i = s.l.length := by omega
    refine ⟨b, (s.l.length : Int), h4, ?_⟩
    conv => lhs; unfold Take.l1
    rw [decide_eq_false (show ¬ (s.l.length : Int) < (s.l.length : Int) by omega), cond_false]
  | succ d ih =>
    intro n i b h1 h2 h3 h4
    by_cases hi : i < s.l.length
    · obtain ⟨n, rfl⟩ : ∃ m, n = m + 1 := ⟨n - 1, by omega⟩
      have e : s.l.getD ((i : Int)).toNat zR = s.l[i] := by rw [Int.toNat_natCast]; exact getD_at hi
      have go : ∀ b2, BestAt o s.l (i + 1) b2 → ∃ b' v3, BestAt o s.l s.l.length b' ∧ Take.l1 k s o b1 n b2 (IntKind.i64.wrap ((i : Int) + 1)) = (bif decide (b' < 0) then some (s, 0, (some 5)) else (bif decide (0 ≤ b') && decide (b' < (s.l.length : Int)) then (drop.f k s b').bind fun (r11 : Sto) => Take.l2 k s o b1 b' v3 r11 k r11 o else none)) := fun b2 hb => by
        rw [wrap_small (by omega) (by omega)]
        exact ih n (i + 1) b2 (by omega) (by omega) (by omega) hb
      unfold Take.l1
      rw [decide_eq_true (show (i : Int) < (s.l.length : Int) by omega), decide_eq_true (show 0 ≤ (i : Int) by omega), e]
      simp only [Bool.and_self, cond_true]
      by_cases ho : o ≤ s.l[i].o
      · rw [decide_eq_true (show s.l[i].o ≥ o from ho), cond_true]
        rcases h4 with ⟨rfl, h4⟩ | ⟨m, hm, rfl, hmi, h5, h6, h7⟩
        · rw [decide_eq_true (show (-1 : Int) < 0 by omega), cond_true]
          refine go _ (.inr ⟨i, hi, rfl, by omega, ho, fun j hj hji hoj => by have := h4 j hj hji; omega, fun j hj hji hoj => ?_⟩)
          rcases Nat.lt_or_eq_of_le (show j ≤ i by omega) with h | h
          · have := h4 j hj h; omega
          · subst h; exact Int.le_refl _
        · have em : s.l.getD ((m : Int)).toNat zR = s.l[m] := by rw [Int.toNat_natCast]; exact getD_at hm
          rw [decide_eq_false (show ¬ (m : Int) < 0 by omega), cond_false, decide_eq_true (show 0 ≤ (m : Int) by omega), decide_eq_true (show (m : Int) < (s.l.length : Int) by omega), em]
          simp only [Bool.and_self, cond_true]
          by_cases hlt : s.l[i].o < s.l[m].o
          · rw [decide_eq_true hlt, cond_true]
            refine go _ (.inr ⟨i, hi, rfl, by omega, ho, fun j hj hji hoj => by have := h7 j hj hji hoj; omega, fun j hj hji hoj => ?_⟩)
            rcases Nat.lt_or_eq_of_le (show j ≤ i by omega) with h | h
            · have := h7 j hj h hoj; omega
            · subst h; exact Int.le_refl _
          · rw [decide_eq_false hlt, cond_false]
            refine go _ (.inr ⟨m, hm, rfl, by omega, h5, h6, fun j hj hji hoj => ?_⟩)
            rcases Nat.lt_or_eq_of_le (show j ≤ i by omega) with h | h
            · exact h7 j hj h hoj
            · subst h; omega
      · rw [decide_eq_false (show ¬ s.l[i].o ≥ o from ho), cond_false]
        refine go _ ?_
        rcases h4 with ⟨rfl, h4⟩ | ⟨m, hm, rfl, hmi, h5, h6, h7⟩
        · refine .inl ⟨rfl, fun j hj hji => ?_⟩
          rcases Nat.lt_or_eq_of_le (show j ≤ i by omega) with h | h
          · exact h4 j hj h
          · subst h; omega
        · refine .inr ⟨m, hm, rfl, by omega, h5, h6, fun j hj hji hoj => ?_⟩
          rcases Nat.lt_or_eq_of_le (show j ≤ i by omega) with h | h
          · exact h7 j hj h hoj
          · subst h; omega
    · exact ih n i b (by omega) (by omega) h3 h4
/-- The rest of a block that was cut is put, half by half. -/
theorem take_rest {n : Int} {k : Nat} {s : Sto} {o v2 v3 : Int} {b1 : Bool} {r11 : Sto} {x : Blk} (hk : 1000 ≤ k) (hn : n ≤ 512) (o0 : 0 ≤ o) (hx : Ok n x) (ex : s.l.getD (v2.toNat) zR = x) : ∀ (d m : Nat) (t : Sto) (j : Int), (x.o - j).toNat ≤ d → d < m → o ≤ j → j ≤ x.o → Inv n t.l → (∀ u, Cov t.l u → ¬ (x.f ≤ u ∧ u < x.f + pw o) ∧ ¬ (x.f + pw j ≤ u ∧ u < x.f + pw x.o)) →
    ∃ l, Take.l2 k s o b1 v2 v3 r11 m t j = some (⟨t.n, l⟩, x.f, none) ∧ Inv n l ∧ (∀ u, Cov l u ↔ Cov t.l u ∨ (x.f + pw j ≤ u ∧ u < x.f + pw x.o)) ∧ tot l = tot t.l + (pw x.o - pw j) := by
  intro d
  induction d with
  | zero =>
    intro m t j h1 h2 h3 h4 h5 h6
    obtain ⟨m, rfl⟩ : ∃ q, m = q + 1 := ⟨m - 1, by omega⟩
    obtain rfl : j = x.o := by omega
    unfold Take.l2
    rw [ex, decide_eq_false (Int.lt_irrefl _), cond_false]
    exact ⟨t.l, rfl, h5, fun u => ⟨.inl, fun h => h.resolve_right (by omega)⟩, by omega⟩
  | succ d ih =>
    intro m t j h1 h2 h3 h4 h5 h6
    by_cases hj : j < x.o
    · obtain ⟨m, rfl⟩ : ∃ q, m = q + 1 := ⟨m - 1, by omega⟩
      have hx0 := hx.f0
      have hxe := hx.en
      have hxa := hx.al
      have hx5 := hx.o5
      have hp := pw_le (show 0 ≤ j by omega) (show j ≤ 5 by omega)
      have hpx := pw_le hx.o0 hx.o5
      have h2 := pw_step o0 h3 hj hx5 hxa
      obtain ⟨q1, q2, q3, q4, q5, q6⟩ := h2
      unfold Take.l2
      rw [ex, decide_eq_true hj, cond_true, decide_eq_true (show 0 ≤ j by omega), cond_true, shl_pw (by omega) (by omega), wrap_small (by omega) (by omega), wrap_small (by omega) (by omega)]
      have okn : Ok n ⟨x.f + pw j, j⟩ := ⟨by show 0 ≤ j; omega, by show j ≤ 5; omega, by show 0 ≤ x.f + pw j; omega, q4, by show x.f + pw j + pw j ≤ n; omega⟩
      have hnb : ∀ y ∈ t.l, ¬ Bud ⟨x.f + pw j, j⟩ y ∧ ¬ Bud y ⟨x.f + pw j, j⟩ := fun y hy => by
        refine ⟨fun hb => q5 hb.2.2.2, fun hb => ?_⟩
        obtain ⟨b1, b2, b3, b4⟩ := hb
        simp only at b1 b3
        have oky := h5.ok y hy
        have : y.f = x.f := by rw [b1] at b3; omega
        have hpo := pw_le o0 (show o ≤ 5 by omega)
        exact (h6 y.f ⟨y, hy, oky.self⟩).1 (by omega)
      obtain ⟨l, e1, i1, c1, m1, t1⟩ := putb_all (k := k) h5 hn okn (fun u hu hc => (h6 u hc).2 ⟨hu.1, by have := hu.2; simp only at this; omega⟩) hnb hk
      · rw [e1, Option.bind_some]
        obtain ⟨l2, e2, i2, c2, t2⟩ := ih m ⟨t.n, l⟩ (j + 1) (by omega) (by omega) (by omega) (by omega) i1 (fun u hu => by
          rcases (c1 u).mp hu with hu | hu
          · have := h6 u hu; exact ⟨this.1, fun h => this.2 (by omega)⟩
          · have := hu.1; have := hu.2; simp only at *; exact ⟨by omega, by omega⟩)
        refine ⟨l2, e2, i2, fun u => ?_, by rw [t2]; simp only; rw [t1]; simp only; omega⟩
        rw [c2 u, c1 u]
        unfold In
        simp only
        constructor
        · rintro ((h | h) | h)
          · exact .inl h
          · exact .inr (by omega)
          · exact .inr (by omega)
        · rintro (h | h)
          · exact .inl (.inl h)
          · rcases Int.lt_or_le u (x.f + pw (j + 1)) with h' | h'
            · exact .inl (.inr (by omega))
            · exact .inr (by omega)
    · exact ih m t j (by omega) (by omega) h3 h4 h5 h6
theorem bestAt_end {o : Int} {L : List Blk} {b : Int} (h : BestAt o L L.length b) : (b = -1 ∧ ∀ y ∈ L, y.o < o) ∨ ∃ A x B, L = A ++ x :: B ∧ b = (A.length : Int) ∧ Best o A x B := by
  rcases h with ⟨rfl, h⟩ | ⟨m, hm, rfl, h1, h2, h3, h4⟩
  · refine .inl ⟨rfl, fun y hy => ?_⟩
    obtain ⟨j, hj, rfl⟩ := List.getElem_of_mem hy
    exact h j hj hj
  · refine .inr ⟨L.take m, L[m], L.drop (m + 1), ?_, by rw [List.length_take]; omega, h2, fun y hy ho => ?_, fun y hy ho => ?_⟩
    · rw [List.getElem_cons_drop, List.take_append_drop]
    · obtain ⟨j, hj, rfl⟩ := List.getElem_of_mem hy
      rw [List.length_take] at hj
      rw [List.getElem_take] at ho ⊢
      exact h3 j (by omega) (by omega) ho
    · obtain ⟨j, hj, rfl⟩ := List.getElem_of_mem hy
      rw [List.length_drop] at hj
      rw [List.getElem_drop] at ho ⊢
      exact h4 _ (by omega) (by omega) ho
/-- Take. -/
theorem take_eq {n : Int} {k : Nat} {s : Sto} {o : Int} (h : Inv n s.l) (hn : n ≤ 512) (hk : 1000 ≤ k) (o0 : 0 ≤ o) (o5 : o ≤ 5) :
    ((∀ y ∈ s.l, y.o < o) ∧ Take.f k s o = some (s, 0, some 5)) ∨
    ∃ A x B l, s.l = A ++ x :: B ∧ Best o A x B ∧ Take.f k s o = some (⟨s.n, l⟩, x.f, none) ∧ Ok n ⟨x.f, o⟩ ∧ (∀ u, In u ⟨x.f, o⟩ → Cov s.l u) ∧ Inv n l ∧ (∀ u, Cov l u ↔ Cov s.l u ∧ ¬ In u ⟨x.f, o⟩) ∧ tot l = tot s.l - pw o := by
  have hlen := h.len hn
  unfold Take.f
  rw [order_eq, Option.bind_some, decide_eq_true o0, decide_eq_true o5]
  simp only [Bool.and_self, Bool.not_true, cond_false]
  obtain ⟨b, v3, hb, e⟩ := take_go (k := k) (s := s) (o := o) (b1 := true) (by omega) s.l.length k 0 (-1) (by omega) (by omega) (by omega) (.inl ⟨rfl, fun j _ hj => by omega⟩)
  have e : Take.l1 k s o true k (-1) 0 = _ := e
  rw [e]
  replace hb := bestAt_end hb
  rcases hb with ⟨rfl, hb⟩ | ⟨A, x, B, eL, rfl, hb⟩
  · exact .inl ⟨hb, rfl⟩
  · refine .inr ⟨A, x, B, ?_⟩
    have hmem : x ∈ s.l := by rw [eL]; exact List.mem_append_right _ List.mem_cons_self
    have okx := h.ok x hmem
    have hAl : A.length < s.l.length := by rw [eL]; simp
    have hD := drop_eq (s := s) k eL (by omega)
    rw [decide_eq_false (show ¬ (A.length : Int) < 0 by omega), cond_false, decide_eq_true (show 0 ≤ (A.length : Int) by omega), decide_eq_true (show (A.length : Int) < (s.l.length : Int) by omega), Bool.and_self, cond_true, hD, Option.bind_some]
    have ex : s.l.getD ((A.length : Int)).toNat zR = x := by
      rw [Int.toNat_natCast, getD_at hAl]
      simp only [eL]
      rw [List.getElem_append_right (Nat.le_refl _)]
      simp
    have hi : Inv n (A ++ B) ∧ ∀ t, Cov (A ++ B) t ↔ Cov (A ++ x :: B) t ∧ ¬ In t x := Inv.drop (by rw [← eL]; exact h)
    obtain ⟨i0, c0⟩ := hi
    have hpo := pw_le o0 o5
    have hox : o ≤ x.o := hb.1
    have hpx := pw_mono o0 hox okx.o5 okx.al
    obtain ⟨l, e1, i1, c1, t1⟩ := take_rest (k := k) (s := s) (v2 := (A.length : Int)) (v3 := v3) (b1 := true) (r11 := ⟨s.n, A ++ B⟩) hk hn o0 okx ex 5 k ⟨s.n, A ++ B⟩ o (by have := okx.o5; omega) (by omega) (Int.le_refl _) hox i0 (fun u hu => by
      have := ((c0 u).mp hu).2
      unfold In at this
      exact ⟨by omega, by omega⟩)
    refine ⟨l, eL, hb, e1, ⟨o0, o5, okx.f0, hpx.2, by have := okx.en; show x.f + pw o ≤ n; omega⟩, fun u hu => ⟨x, hmem, by have := hu.1; have := hu.2; simp only at *; unfold In; omega⟩, i1, fun u => ?_, ?_⟩
    · rw [c1 u, c0 u, ← eL]
      unfold In
      simp only
      constructor
      · rintro (⟨h1, h2⟩ | h1)
        · exact ⟨h1, by omega⟩
        · exact ⟨⟨x, hmem, by unfold In; omega⟩, by omega⟩
      · rintro ⟨h1, h2⟩
        by_cases hu : x.f ≤ u ∧ u < x.f + pw x.o
        · exact .inr (by omega)
        · exact .inl ⟨h1, hu⟩
    · rw [t1]
      have := tot_mid (A := A) (B := B) (x := x)
      rw [← eL] at this
      simp only
      omega
end Go.Proofs.YtehbhpkmlmeblaaDoor.V
