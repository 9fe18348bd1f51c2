import Derived.Test.YtmjnenjeckeklaaDoorBuddyOps
namespace Go.Proofs.YtmjnenjeckeklaaDoor.V
open Go Go.RowKit Go.Proofs
set_option linter.unusedVariables false
set_option linter.unusedSimpArgs false
theorem shl_eq {o : Int} (h0 : 0 ≤ o) (h5 : o ≤ 20) : IntKind.i64.wrap (1 * 2 ^ min o.toNat (IntKind.i64).bits) = 2 ^ o.toNat := by
  have : ∀ m : Nat, m ≤ 20 → IntKind.i64.wrap (1 * 2 ^ min m (IntKind.i64).bits) = 2 ^ m := by decide +kernel
  exact this o.toNat (by omega)
theorem shl_pw {o : Int} (h0 : 0 ≤ o) (h5 : o ≤ 20) : IntKind.i64.wrap (1 * 2 ^ min o.toNat (IntKind.i64).bits) = pw o := shl_eq h0 h5
theorem pw_le {o : Int} (h0 : 0 ≤ o) (h5 : o ≤ 5) : 1 ≤ pw o ∧ pw o ≤ 32 := by
  rcases pw_cases h0 h5 with h | h | h | h | h | h <;> omega
theorem indexFunc_go {k : Nat} {L : List Blk} {φ : Blk → Option Bool} {p : Blk → Bool} (hφ : ∀ y ∈ L, φ y = some (p y)) (hl : L.length ≤ 900) : ∀ (d n : Nat) (i : Nat), L.length - i ≤ d → d < n → i ≤ L.length → (∀ (j : Nat) (h : j < L.length), j < i → p L[j] = false) → IndexFunc.l1 k L φ n (i : Int) = some (if L.findIdx p < L.length then (L.findIdx p : Int) else -1) := by
  intro d
  induction d with
  | zero =>
    intro n i h1 h2 h3 h4
    obtain ⟨n, rfl⟩ : ∃ m, n = m + 1 := ⟨n - 1, by omega⟩
    have hall : L.findIdx p = L.length := List.findIdx_eq_length.mpr (fun x hx => by
      obtain ⟨j, hj, rfl⟩ := List.getElem_of_mem hx
      exact h4 j hj (by omega))
    unfold IndexFunc.l1
    rw [decide_eq_false (show ¬ (i : Int) < (L.length : Int) by omega), cond_false, hall, if_neg (Nat.lt_irrefl _)]
  | succ d ih =>
    intro n i h1 h2 h3 h4
    by_cases hi : i < L.length
    · obtain ⟨n, rfl⟩ : ∃ m, n = m + 1 := ⟨n - 1, by omega⟩
      unfold IndexFunc.l1
      rw [decide_eq_true (show (i : Int) < (L.length : Int) by omega), decide_eq_true (show 0 ≤ (i : Int) by omega)]
      simp only [Bool.and_self, cond_true, Int.toNat_natCast]
      rw [getD_at hi, hφ _ (List.getElem_mem hi), Option.bind_some]
      cases hp : p L[i] with
      | true =>
        have hf : L.findIdx p = i := (List.findIdx_eq hi).mpr ⟨hp, fun j hj => h4 j (by omega) hj⟩
        rw [cond_true, hf, if_pos hi]
      | false =>
        rw [cond_false, wrap_small (by omega) (by omega)]
        have := ih n (i + 1) (by omega) (by omega) (by omega) (fun j hj hji => by
          rcases Nat.lt_or_eq_of_le (show j ≤ i by omega) with h | h
          · exact h4 j hj h
          · subst h; exact hp)
        exact this
    · exact ih n i (by omega) (by omega) h3 h4
theorem indexFunc_eq {k : Nat} {L : List Blk} {φ : Blk → Option Bool} {p : Blk → Bool} (hφ : ∀ y ∈ L, φ y = some (p y)) (hl : L.length ≤ 900) (hk : 1000 ≤ k) : IndexFunc.f k L φ = some (if L.findIdx p < L.length then (L.findIdx p : Int) else -1) :=
  indexFunc_go hφ hl L.length k 0 (by omega) (by omega) (by omega) (fun j _ h => by omega)
theorem index_go {k : Nat} {L : List Blk} {x : Blk} (hl : L.length ≤ 900) : ∀ (d n : Nat) (i : Nat), L.length - i ≤ d → d < n → i ≤ L.length → (∀ (j : Nat) (h : j < L.length), j < i → (x.f == L[j].f && x.o == L[j].o) = false) → Index.l1 k L x n (i : Int) = some (if L.findIdx (fun y => x.f == y.f && x.o == y.o) < L.length then (L.findIdx (fun y => x.f == y.f && x.o == y.o) : Int) else -1) := by
  intro d
  induction d with
  | zero =>
    intro n i h1 h2 h3 h4
    obtain ⟨n, rfl⟩ : ∃ m, n = m + 1 := ⟨n - 1, by omega⟩
    have hall : L.findIdx (fun y => x.f == y.f && x.o == y.o) = L.length := List.findIdx_eq_length.mpr (fun y hy => by
      obtain ⟨j, hj, rfl⟩ := List.getElem_of_mem hy
      exact h4 j hj (by omega))
    unfold Index.l1
    rw [decide_eq_false (show ¬ (i : Int) < (L.length : Int) by omega), cond_false, hall, if_neg (Nat.lt_irrefl _)]
  | succ d ih =>
    intro n i h1 h2 h3 h4
    by_cases hi : i < L.length
    · obtain ⟨n, rfl⟩ : ∃ m, n = m + 1 := ⟨n - 1, by omega⟩
      unfold Index.l1
      rw [decide_eq_true (show (i : Int) < (L.length : Int) by omega), decide_eq_true (show 0 ≤ (i : Int) by omega)]
      simp only [Bool.and_self, cond_true, Int.toNat_natCast]
      rw [getD_at hi]
      cases hp : (x.f == L[i].f && x.o == L[i].o) with
      | true =>
        have hf : L.findIdx (fun y => x.f == y.f && x.o == y.o) = i := (List.findIdx_eq hi).mpr ⟨hp, fun j hj => h4 j (by omega) hj⟩
        rw [cond_true, hf, if_pos hi]
      | false =>
        rw [cond_false, wrap_small (by omega) (by omega)]
        have := ih n (i + 1) (by omega) (by omega) (by omega) (fun j hj hji => by
          rcases Nat.lt_or_eq_of_le (show j ≤ i by omega) with h | h
          · exact h4 j hj h
          · subst h; exact hp)
        exact this
    · exact ih n i (by omega) (by omega) h3 h4
theorem cut_at {L : List Blk} {p : Blk → Bool} (h : L.findIdx p < L.length) : ∃ A x B, L = A ++ x :: B ∧ A.length = L.findIdx p ∧ p x = true := by
  refine ⟨L.take (L.findIdx p), L[L.findIdx p], L.drop (L.findIdx p + 1), ?_, by rw [List.length_take]; omega, List.findIdx_getElem⟩
  rw [List.getElem_cons_drop, List.take_append_drop]
theorem index_eq {k : Nat} {L : List Blk} {x : Blk} (hl : L.length ≤ 900) (hk : 1000 ≤ k) : (x ∉ L ∧ Index.f k L x = some (-1)) ∨ ∃ A B, L = A ++ x :: B ∧ Index.f k L x = some (A.length : Int) := by
  have h := index_go (k := k) (x := x) hl L.length k 0 (by omega) (by omega) (by omega) (fun j _ h => by omega)
  by_cases hf : L.findIdx (fun y => x.f == y.f && x.o == y.o) < L.length
  · rw [if_pos hf] at h
    obtain ⟨A, y, B, e1, e2, e3⟩ := cut_at hf
    simp only [Bool.and_eq_true, beq_iff_eq] at e3
    have : x = y := Blk.ext' e3.1 e3.2
    subst this
    exact .inr ⟨A, B, e1, by rw [e2]; exact h⟩
  · rw [if_neg hf] at h
    refine .inl ⟨fun hx => hf ?_, h⟩
    exact List.findIdx_lt_length_of_exists ⟨x, hx, by simp⟩
theorem inL_eq {n : Int} {y : Blk} (hy : Ok n y) (hn : n ≤ 512) (t : Int) : inL.f y t = some (decide (y.f ≤ t) && decide (t < y.f + pw y.o)) := by
  have h1 := pw_le hy.o0 hy.o5
  have h2 := hy.f0
  have h3 := hy.en
  unfold inL.f
  rw [shl_pw hy.o0 (by have := hy.o5; omega), wrap_small (by omega) (by omega), decide_eq_true hy.o0, cond_true]
  by_cases h : y.f ≤ t
  · rw [decide_eq_true (show t ≥ y.f from h), cond_true]; rfl
  · rw [decide_eq_false (show ¬ t ≥ y.f from h), cond_false]; rfl
theorem inn_eq {n : Int} {s : Sto} {k : Nat} (h : Inv n s.l) (hn : n ≤ 512) (hk : 1000 ≤ k) (t : Int) : (¬ Cov s.l t ∧ inn.f k s t = some (s, -1)) ∨ ∃ A x B, s.l = A ++ x :: B ∧ In t x ∧ inn.f k s t = some (s, (A.length : Int)) := by
  have hl := h.len hn
  have e := indexFunc_eq (k := k) (φ := fun x0 => inL.f x0 t) (fun y hy => inL_eq (h.ok y hy) hn t) (by omega) hk
  unfold inn.f
  rw [e, Option.bind_some]
  by_cases hf : s.l.findIdx (fun y => decide (y.f ≤ t) && decide (t < y.f + pw y.o)) < s.l.length
  · rw [if_pos hf]
    obtain ⟨A, x, B, e1, e2, e3⟩ := cut_at hf
    simp only [Bool.and_eq_true, decide_eq_true_eq] at e3
    exact .inr ⟨A, x, B, e1, e3, by rw [e2]⟩
  · rw [if_neg hf]
    refine .inl ⟨fun ⟨y, hy, h1, h2⟩ => hf (List.findIdx_lt_length_of_exists ⟨y, hy, by simp only [Bool.and_eq_true, decide_eq_true_eq]; exact ⟨h1, h2⟩⟩), rfl⟩
theorem isFree_yes {n : Int} {s : Sto} {k : Nat} (h : Inv n s.l) (hn : n ≤ 512) (hk : 1000 ≤ k) {t : Int} (hc : Cov s.l t) : IsFree.f k s t = some (s, true) := by
  unfold IsFree.f
  rcases inn_eq h hn hk t with ⟨h1, _⟩ | ⟨A, x, B, _, _, e⟩
  · exact absurd hc h1
  · rw [e, Option.bind_some]
    simp
theorem isFree_no {n : Int} {s : Sto} {k : Nat} (h : Inv n s.l) (hn : n ≤ 512) (hk : 1000 ≤ k) {t : Int} (hc : ¬ Cov s.l t) : IsFree.f k s t = some (s, false) := by
  unfold IsFree.f
  rcases inn_eq h hn hk t with ⟨_, e⟩ | ⟨A, x, B, e1, e2, _⟩
  · rw [e, Option.bind_some]; rfl
  · exact absurd ⟨x, by rw [e1]; exact List.mem_append_right _ List.mem_cons_self, e2⟩ hc
def tot (L : List Blk) : Int := (L.map fun y => pw y.o).sum
theorem tot_mid {A B : List Blk} {x : Blk} : tot (A ++ x :: B) = tot (A ++ B) + pw x.o := by
  unfold tot; simp only [List.map_append, List.map_cons, List.sum_append, List.sum_cons]; omega
theorem tot_cons {x : Blk} {L : List Blk} : tot (x :: L) = pw x.o + tot L := rfl
theorem tot_bound {lo n : Int} : ∀ {L : List Blk}, L.Pairwise Bef → (∀ x ∈ L, lo ≤ x.f ∧ x.f + pw x.o ≤ n ∧ 1 ≤ pw x.o) → lo ≤ n → 0 ≤ tot L ∧ tot L ≤ n - lo := by
  intro L h
  induction h generalizing lo with
  | nil => intro _ h; simp [tot]; omega
  | @cons a l h1 h2 ih =>
    intro hb hle
    have ha := hb a List.mem_cons_self
    have := @ih (a.f + pw a.o) (fun x hx => ⟨h1 x hx, (hb x (List.mem_cons_of_mem _ hx)).2⟩) (by omega)
    rw [tot_cons]
    omega
theorem Inv.tot {n : Int} {L : List Blk} (h : Inv n L) (hn : 0 ≤ n) : 0 ≤ tot L ∧ V.tot L ≤ n := by
  have := tot_bound (lo := 0) (n := n) h.srt (fun x hx => by have o := h.ok x hx; have := o.f0; have := o.en; have := o.pos; omega) hn
  omega
theorem free_eq {n : Int} {s : Sto} {k : Nat} (h : Inv n s.l) (hn : n ≤ 512) : Free.f k s = some (s, s.l) := by
  unfold Free.f
  rw [clone_eq (by have := h.len hn; omega)]
  rfl
theorem sclone_eq {n : Int} {s : Sto} {k : Nat} (h : Inv n s.l) (hn : n ≤ 512) : SClone.f k s = some (s, s) := by
  unfold SClone.f
  rw [clone_eq (by have := h.len hn; omega)]
  rfl
theorem order_eq (o : Int) : order.f o = some (decide (0 ≤ o) && decide (o ≤ 5)) := by
  unfold order.f
  by_cases h : 0 ≤ o
  · rw [decide_eq_true (show o ≥ 0 from h), cond_true]; rfl
  · rw [decide_eq_false (show ¬ o ≥ 0 from h), cond_false]; rfl
theorem block_eq {k : Nat} {s : Sto} (hn : s.n ≤ 512) (f o : Int) : (¬ (Ok s.n ⟨f, o⟩) ∧ block.f k s f o = some (s, false)) ∨ (Ok s.n ⟨f, o⟩ ∧ block.f k s f o = some (s, true)) := by
  unfold block.f
  rw [order_eq, Option.bind_some]
  by_cases h1 : 0 ≤ o ∧ o ≤ 5
  · rw [decide_eq_true h1.1, decide_eq_true h1.2, shl_pw h1.1 (by omega)]
    have hp := pw_le h1.1 h1.2
    simp only [Bool.and_self, cond_true]
    by_cases h2 : 0 ≤ f
    · rw [decide_eq_true (show f ≥ 0 from h2), cond_true]
      by_cases h3 : f < s.n
      · rw [decide_eq_true h3, cond_true, decide_eq_true (show pw o ≠ 0 by omega), cond_true, Int.tmod_eq_emod_of_nonneg h2]
        by_cases h4 : f % pw o = 0
        · rw [h4, wrap_small (by omega) (by omega)]
          simp only [beq_self_eq_true, cond_true]
          by_cases h5 : f + pw o ≤ s.n
          · exact .inr ⟨⟨h1.1, h1.2, h2, h4, h5⟩, by rw [decide_eq_true h5]⟩
          · exact .inl ⟨fun h => h5 h.en, by rw [decide_eq_false h5]⟩
        · have : (f % pw o == 0) = false := by simpa using h4
          rw [this, cond_false]
          exact .inl ⟨fun h => h4 h.al, rfl⟩
      · rw [decide_eq_false h3, cond_false]
        exact .inl ⟨fun h => by have h5 := h.en; have h6 := h.pos; simp only at h5 h6; omega, rfl⟩
    · rw [decide_eq_false (show ¬ f ≥ 0 from h2), cond_false]
      exact .inl ⟨fun h => h2 h.f0, rfl⟩
  · have : (decide (0 ≤ o) && decide (o ≤ 5)) = false := by
      rw [Bool.and_eq_false_iff]
      simp only [decide_eq_false_iff_not]
      omega
    rw [this, cond_false]
    exact .inl ⟨fun h => h1 ⟨h.o0, h.o5⟩, rfl⟩
end Go.Proofs.YtmjnenjeckeklaaDoor.V
