import Derived.Test.YtmjnenjeckeklaaDoorB1
import Derived.Test.YtmjnenjeckeklaaDoorBuddyLib
namespace Go.Proofs.YtmjnenjeckeklaaDoor.V
open Go Go.RowKit Go.Proofs
set_option linter.unusedVariables false
set_option linter.unusedSimpArgs false
theorem Inv.drop {n : Int} {A B : List Blk} {x : Blk} (h : Inv n (A ++ x :: B)) : Inv n (A ++ B) ∧ ∀ t, Cov (A ++ B) t ↔ Cov (A ++ x :: B) t ∧ ¬ In t x := by
  have hsub : ∀ y, y ∈ A ++ B → y ∈ A ++ x :: B := fun y hy => by
    rcases List.mem_append.mp hy with hy | hy
    · exact List.mem_append_left _ hy
    · exact List.mem_append_right _ (List.mem_cons_of_mem _ hy)
  have hx : x ∈ A ++ x :: B := List.mem_append_right _ List.mem_cons_self
  have hne : ∀ y ∈ A ++ B, y ≠ x := by
    rintro y hy rfl
    have hp := (List.pairwise_append.mp h.lt)
    rcases List.mem_append.mp hy with hy | hy
    · have := hp.2.2 y hy y List.mem_cons_self; omega
    · have := (List.pairwise_cons.mp hp.2.1).1 y hy; omega
  refine ⟨⟨fun y hy => h.ok y (hsub y hy), ?_, fun y hy z hz => h.nb y (hsub y hy) z (hsub z hz)⟩, fun t => ⟨fun ⟨y, hy, hin⟩ => ⟨⟨y, hsub y hy, hin⟩, fun hx2 => hne y hy (h.one (hsub y hy) hx hin hx2)⟩, fun ⟨⟨y, hy, hin⟩, hn⟩ => ⟨y, ?_, hin⟩⟩⟩
  · have hp := List.pairwise_append.mp h.srt
    exact List.pairwise_append.mpr ⟨hp.1, (List.pairwise_cons.mp hp.2.1).2, fun a ha b hb => hp.2.2 a ha b (List.mem_cons_of_mem _ hb)⟩
  · rcases List.mem_append.mp hy with h1 | h1
    · exact List.mem_append_left _ h1
    · rcases List.mem_cons.mp h1 with rfl | h1
      · exact absurd hin hn
      · exact List.mem_append_right _ h1
theorem mem_mid {A B : List Blk} {x y : Blk} : y ∈ A ++ x :: B ↔ y = x ∨ y ∈ A ++ B := by
  simp only [List.mem_append, List.mem_cons]
  constructor
  · rintro (h | h | h)
    · exact .inr (.inl h)
    · exact .inl h
    · exact .inr (.inr h)
  · rintro (h | h | h)
    · exact .inr (.inl h)
    · exact .inl h
    · exact .inr (.inr h)
theorem Inv.put {n : Int} {A B : List Blk} {x : Blk} (h : Inv n (A ++ B)) (ok : Ok n x) (dis : ∀ t, In t x → ¬ Cov (A ++ B) t) (nbx : ∀ y ∈ A ++ B, ¬ Bud x y ∧ ¬ Bud y x) (hA : ∀ y ∈ A, y.f < x.f) (hB : ∀ y ∈ B, x.f ≤ y.f) : Inv n (A ++ x :: B) := by
  refine ⟨fun y hy => ?_, ?_, fun y hy z hz => ?_⟩
  · rcases mem_mid.mp hy with rfl | hy
    · exact ok
    · exact h.ok y hy
  · have hp := List.pairwise_append.mp h.srt
    refine List.pairwise_append.mpr ⟨hp.1, List.pairwise_cons.mpr ⟨fun b hb => ?_, hp.2.1⟩, fun a ha b hb => ?_⟩
    · have h1 := hB b hb
      have h2 := (h.ok b (List.mem_append_right _ hb)).self
      have h3 := dis b.f
      unfold Bef
      rcases Int.lt_or_le b.f (x.f + pw x.o) with h4 | h4
      · exact absurd ⟨b, List.mem_append_right _ hb, h2⟩ (h3 ⟨h1, h4⟩)
      · exact h4
    · rcases List.mem_cons.mp hb with rfl | hb
      · have h1 := hA a ha
        unfold Bef
        rcases Int.lt_or_le b.f (a.f + pw a.o) with h4 | h4
        · exact absurd ⟨a, List.mem_append_left _ ha, ⟨by omega, h4⟩⟩ (dis b.f ok.self)
        · exact h4
      · exact hp.2.2 a ha b hb
  · rcases mem_mid.mp hy with e1 | e1 <;> rcases mem_mid.mp hz with e2 | e2
    · subst e1; subst e2; rintro ⟨_, _, h3, _⟩; have := ok.pos; omega
    · subst e1; exact (nbx z e2).1
    · subst e2; exact (nbx y e1).2
    · exact h.nb y e1 z e2
theorem cov_mid {A B : List Blk} {x : Blk} {t : Int} : Cov (A ++ x :: B) t ↔ Cov (A ++ B) t ∨ In t x := by
  constructor
  · rintro ⟨y, hy, hin⟩
    rcases mem_mid.mp hy with rfl | hy
    · exact .inr hin
    · exact .inl ⟨y, hy, hin⟩
  · rintro (⟨y, hy, hin⟩ | hin)
    · exact ⟨y, mem_mid.mpr (.inr hy), hin⟩
    · exact ⟨x, mem_mid.mpr (.inl rfl), hin⟩
theorem split_at (v : Int) : ∀ {L : List Blk}, L.Pairwise (fun x y => x.f < y.f) → ∃ A B, L = A ++ B ∧ (∀ y ∈ A, y.f < v) ∧ ∀ y ∈ B, v ≤ y.f := by
  intro L h
  induction h with
  | nil => exact ⟨[], [], rfl, by simp, by simp⟩
  | @cons a l h1 h2 ih =>
    rcases Int.lt_or_le a.f v with h' | h'
    · obtain ⟨A, B, e, hA, hB⟩ := ih
      refine ⟨a :: A, B, by rw [e]; rfl, fun y hy => ?_, hB⟩
      rcases List.mem_cons.mp hy with rfl | hy
      · exact h'
      · exact hA y hy
    · refine ⟨[], a :: l, rfl, by simp, fun y hy => ?_⟩
      rcases List.mem_cons.mp hy with rfl | hy
      · exact h'
      · have := h1 y hy; omega
theorem len_le {lo n : Int} : ∀ {L : List Blk}, L.Pairwise (fun x y => x.f < y.f) → (∀ x ∈ L, lo ≤ x.f ∧ x.f < n) → (L.length : Int) ≤ (n - lo).toNat := by
  intro L h
  induction h generalizing lo with
  | nil => intro _; simp; omega
  | @cons a l h1 h2 ih =>
    intro hb
    have ha := hb a List.mem_cons_self
    have := @ih (a.f + 1) (fun x hx => ⟨by have := h1 x hx; omega, (hb x (List.mem_cons_of_mem _ hx)).2⟩)
    simp only [List.length_cons]
    omega
theorem Inv.len {n : Int} {L : List Blk} (h : Inv n L) (hn : n ≤ 512) : L.length ≤ 512 := by
  have := len_le (lo := 0) (n := n) h.lt (fun x hx => by have o := h.ok x hx; have := o.f0; have := o.en; have := o.pos; omega)
  omega
theorem clone_eq {k : Nat} {l : List Blk} (h : l.length ≤ 1000) : Clone.f k l = some l := by
  unfold Clone.f
  rw [decide_eq_true (show ([] : List Blk).length + l.length ≤ 1000000 by simp; omega)]
  rfl
theorem del_eq {A B : List Blk} {x : Blk} (k : Nat) (hl : A.length + B.length < 1000) : Delete.f k (A ++ x :: B) (A.length : Int) ((A.length : Int) + 1) = some (A ++ B) := by
  have e1 : ((A.length : Int) + 1).toNat = A.length + 1 := by omega
  have e2 : (((A ++ x :: B).length : Nat) : Int).toNat = A.length + (B.length + 1) := by simp; omega
  have hL : (A ++ x :: B).length = A.length + (B.length + 1) := by simp
  have b2 : ((A.length : Int) == (A.length : Int) + 1) = false := by simp; omega
  unfold Delete.f
  simp only [Int.toNat_natCast, e1, e2, b2, cond_false, Nat.zero_add, Nat.sub_zero, List.length_map]
  have t1 : List.take A.length (A ++ x :: B) = A := by simp
  have d1 : List.drop (A.length + 1) (A ++ x :: B) = B := by rw [List.drop_append]; simp
  have tB : List.take ((A ++ x :: B).length - (A.length + 1)) B = B := List.take_of_length_le (by rw [hL]; omega)
  rw [t1, d1, tB]
  generalize hD : List.drop (A.length + B.length) (A ++ x :: B) = D
  have hDl : D.length = 1 := by rw [← hD, List.length_drop, hL]; omega
  have hg : (A ++ (B ++ D)).length = A.length + (B.length + 1) := by simp [hDl]
  have t2 : List.take (A.length + B.length) (A ++ (B ++ D)) = A ++ B := by rw [← List.append_assoc, List.take_append_of_le_length (by simp)]; exact List.take_of_length_le (by simp)
  rw [t2, List.take_append_of_le_length (by simp), List.take_of_length_le (by simp), hg, hL]
  simp only [decide_eq_true (show 0 ≤ (A.length : Int) by omega), decide_eq_true (show 0 ≤ (A.length : Int) + 1 by omega), decide_eq_true (show (0 : Int) ≤ ((A.length + (B.length + 1) : Nat) : Int) by omega), decide_eq_true (show A.length ≤ A.length + 1 by omega), decide_eq_true (show A.length + 1 ≤ A.length + (B.length + 1) by omega), decide_eq_true (Nat.le_refl (A.length + (B.length + 1))), decide_eq_true (show A.length ≤ A.length + (B.length + 1) by omega), decide_eq_true (show A.length + B.length ≤ A.length + (B.length + 1) by omega), decide_eq_true (show (0 : Int) ≤ ((A.length + B.length : Nat) : Int) by omega), Bool.and_self, cond_true]
theorem drop_eq {s : Sto} {A B : List Blk} {x : Blk} (k : Nat) (hs : s.l = A ++ x :: B) (hl : s.l.length ≤ 900) : drop.f k s (A.length : Int) = some ⟨s.n, A ++ B⟩ := by
  unfold drop.f
  have h2 : A.length + B.length < 1000 := by rw [hs] at hl; simp at hl; omega
  rw [clone_eq (by omega), Option.bind_some, wrap_small (by omega) (by rw [hs] at hl; simp at hl; omega), hs, del_eq k h2]
  rfl
theorem cmpL_eq (a b : Blk) : cmpL.f a b = some (if a.f < b.f then -1 else if a.f > b.f then 1 else 0) := by
  unfold cmpL.f cmpI.f isNaN.f
  simp
  by_cases h1 : a.f < b.f
  · simp [h1]
  · by_cases h2 : b.f < a.f
    · simp [h1, h2]
    · simp [h1, h2]
theorem mid_eq {i j : Int} (h0 : 0 ≤ i) (h1 : i < j) (h2 : j ≤ 1000) : (IntKind.i64.wrap ((IntKind.u64.wrap (IntKind.i64.wrap (i + j))).fdiv (2 ^ min (1 : Int).toNat (IntKind.u64).bits))) = (i + j) / 2 := by
  have e : (2 : Int) ^ min (1 : Int).toNat (IntKind.u64).bits = 2 := by decide
  have u : IntKind.u64.wrap (i + j) = i + j := by
    simp only [IntKind.wrap, IntKind.bits, IntKind.signed]
    simp
    omega
  rw [wrap_small (x := i + j) (by omega) (by omega), u, e, Int.fdiv_eq_ediv_of_nonneg _ (by omega), wrap_small (by omega) (by omega)]
theorem getD_at {l : List Blk} {i : Nat} (h : i < l.length) : l.getD i zR = l[i] := by rw [List.getD_eq_getElem?_getD, List.getElem?_eq_getElem h]; rfl
theorem search_go {A B : List Blk} {x : Blk} (k : Nat) (hA : ∀ y ∈ A, y.f < x.f) (hB : ∀ y ∈ B, x.f ≤ y.f) (hl : A.length + B.length ≤ 1000) : ∀ (d n : Nat) (i j : Int), 0 ≤ i → i ≤ A.length → (A.length : Int) ≤ j → j ≤ A.length + B.length → (j - i).toNat ≤ d → d < n → ∃ b, Search.l1 k (A ++ B) x cmpL.f n i j = some ((A.length : Int), b) := by
  have hlen : (A ++ B).length = A.length + B.length := by simp
  intro d
  induction d with
  | zero =>
    intro n i j h0 h1 h2 h3 h4 h5
    obtain ⟨n, rfl⟩ : ∃ m, n = m + 1 := ⟨n - 1, by omega⟩
    obtain rfl : i = (A.length : Int) := by omega
    unfold Search.l1
    rw [decide_eq_false (show ¬ (A.length : Int) < j by omega), cond_false]
    by_cases hlt : (A.length : Int) < ((A ++ B).length : Int)
    · rw [decide_eq_true hlt, decide_eq_true h0, cmpL_eq]
      exact ⟨_, rfl⟩
    · rw [decide_eq_false hlt]
      exact ⟨_, rfl⟩
  | succ d ih =>
    intro n i j h0 h1 h2 h3 h4 h5
    obtain ⟨n, rfl⟩ : ∃ m, n = m + 1 := ⟨n - 1, by omega⟩
    by_cases hij : i < j
    · unfold Search.l1
      rw [decide_eq_true hij, cond_true, mid_eq h0 hij (by omega)]
      have m0 : i ≤ (i + j) / 2 := by omega
      have m1 : (i + j) / 2 < j := by omega
      generalize (i + j) / 2 = m at m0 m1
      have hm : m.toNat < (A ++ B).length := by rw [hlen]; omega
      rw [decide_eq_true (show 0 ≤ m by omega), decide_eq_true (show m < ((A ++ B).length : Int) by omega), cmpL_eq, getD_at hm]
      simp only [Bool.and_self, cond_true, Option.bind_some]
      by_cases hc : m < (A.length : Int)
      · have hy : (A ++ B)[m.toNat] ∈ A := by
          rw [List.getElem_append_left (by omega)]; exact List.getElem_mem _
        have := hA _ hy
        rw [if_pos this, decide_eq_true (show (-1 : Int) < 0 by omega), cond_true, wrap_small (by omega) (by omega)]
        exact ih n (m + 1) j (by omega) (by omega) h2 h3 (by omega) (by omega)
      · have hy : (A ++ B)[m.toNat] ∈ B := by
          rw [List.getElem_append_right (by omega)]; exact List.getElem_mem _
        have := hB _ hy
        rw [if_neg (show ¬ (A ++ B)[m.toNat].f < x.f by omega)]
        have hneg : decide ((if (A ++ B)[m.toNat].f > x.f then (1 : Int) else 0) < 0) = false := by
          split <;> decide
        rw [hneg, cond_false]
        exact ih n i m h0 h1 (by omega) (by omega) (by omega) (by omega)
    · exact ih (n + 1) i j h0 h1 h2 h3 (by omega) (by omega)
theorem putb_eq {s : Sto} {A B : List Blk} {x : Blk} {k : Nat} (hs : s.l = A ++ B) (hA : ∀ y ∈ A, y.f < x.f) (hB : ∀ y ∈ B, x.f ≤ y.f) (hl : s.l.length ≤ 900) (hk : 1000 ≤ k) : putb.f k s x = some ⟨s.n, A ++ x :: B⟩ := by
  have h2 : A.length + B.length ≤ 900 := by rw [hs] at hl; simpa using hl
  unfold putb.f Search.f
  rw [hs]
  obtain ⟨b, hb⟩ := search_go k hA hB (by omega) (A.length + B.length) k 0 ((A ++ B).length : Int) (by omega) (by omega) (by simp; omega) (by simp) (by simp) (by omega)
  rw [hb, Option.bind_some, clone_eq (by simp; omega), Option.bind_some]
  unfold Ins.f
  simp only [Int.toNat_natCast]
  rw [decide_eq_true (show 0 ≤ (A.length : Int) by omega), decide_eq_true (show A.length ≤ (A ++ B).length by simp), decide_eq_true (show (A ++ B).length < 1000 by simp; omega)]
  simp
theorem putb_inv {n : Int} {s : Sto} {x : Blk} {k : Nat} (h : Inv n s.l) (hn : n ≤ 512) (ok : Ok n x) (dis : ∀ t, In t x → ¬ Cov s.l t) (nbx : ∀ y ∈ s.l, ¬ Bud x y ∧ ¬ Bud y x) (hk : 1000 ≤ k) :
    ∃ l, putb.f k s x = some ⟨s.n, l⟩ ∧ Inv n l ∧ (∀ t, Cov l t ↔ Cov s.l t ∨ In t x) ∧ ∀ y, y ∈ l ↔ y = x ∨ y ∈ s.l := by
  obtain ⟨A, B, e, hA, hB⟩ := split_at x.f h.lt
  have hlen := h.len hn
  refine ⟨A ++ x :: B, putb_eq e hA hB (by omega) hk, ?_, ?_, ?_⟩
  · rw [e] at h dis nbx
    exact h.put ok dis nbx hA hB
  · intro t; rw [e]; exact cov_mid
  · intro y; rw [e]; exact mem_mid
end Go.Proofs.YtmjnenjeckeklaaDoor.V
