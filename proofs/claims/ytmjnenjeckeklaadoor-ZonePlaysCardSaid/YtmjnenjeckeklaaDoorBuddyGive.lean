import Derived.Test.YtmjnenjeckeklaaDoorBuddyPut
namespace Go.Proofs.YtmjnenjeckeklaaDoor.V
open Go Go.RowKit Go.Proofs
set_option linter.unusedVariables false
set_option linter.unusedSimpArgs false
set_option maxRecDepth 100000
def xorOk (f o : Nat) : Bool := f % 2 ^ o != 0 || bitI .xor .i64 (f : Int) (2 ^ o) == (if f % (2 * 2 ^ o) = 0 then (f : Int) + 2 ^ o else (f : Int) - 2 ^ o)
theorem xor_all : ((List.range 512).all fun f => (List.range 5).all fun o => xorOk f o) = true := by kernel_rfl
theorem xor_eq {n : Int} {r : Blk} (h : Ok n r) (hn : n ≤ 512) (h5 : r.o < 5) : (⟨bitI .xor .i64 r.f (pw r.o), r.o⟩ : Blk) = other r := by
  have f0 := h.f0
  have o0 := h.o0
  have en := h.en
  have ps := h.pos
  have al := h.al
  have := List.all_eq_true.mp (List.all_eq_true.mp xor_all r.f.toNat (List.mem_range.mpr (by omega))) r.o.toNat (List.mem_range.mpr (by omega))
  unfold xorOk at this
  have e1 : ((r.f.toNat : Nat) : Int) = r.f := by omega
  have e2 : (2 : Int) ^ r.o.toNat = pw r.o := rfl
  have e3 : ((2 ^ r.o.toNat : Nat) : Int) = pw r.o := by unfold pw; simp
  rw [e1, e2] at this
  have c1 : r.f.toNat % 2 ^ r.o.toNat = 0 := by
    have : ((r.f.toNat % 2 ^ r.o.toNat : Nat) : Int) = 0 := by rw [Int.natCast_emod, e1, e3, al]
    omega
  have c2 : (r.f.toNat % (2 * 2 ^ r.o.toNat) = 0) ↔ r.f % (2 * pw r.o) = 0 := by
    have : ((r.f.toNat % (2 * 2 ^ r.o.toNat) : Nat) : Int) = r.f % (2 * pw r.o) := by rw [Int.natCast_emod, e1, Int.natCast_mul, e3]; rfl
    omega
  rw [c1] at this
  simp only [bne_self_eq_false, Bool.false_or, beq_iff_eq] at this
  rw [this]
  unfold other
  by_cases h0 : r.f % (2 * pw r.o) = 0
  · rw [if_pos h0, if_pos (c2.mpr h0)]
  · rw [if_neg h0, if_neg (fun h => h0 (c2.mp h))]
theorem bud_other {n : Int} {r y : Blk} (h : Ok n r) (hb : Bud r y ∨ Bud y r) : y = other r := by
  have ps := h.pos
  rcases hb with ⟨e1, e2, e3, e4⟩ | ⟨e1, e2, e3, e4⟩
  · unfold other
    rw [if_pos e4]
    exact Blk.ext' e3 e1.symm
  · rw [e1] at e3 e4
    unfold other
    have : ¬ r.f % (2 * pw r.o) = 0 := by
      rcases pw_cases h.o0 h.o5 with ⟨_, p1⟩ | ⟨_, p1⟩ | ⟨_, p1⟩ | ⟨_, p1⟩ | ⟨_, p1⟩ | ⟨_, p1⟩ <;> rw [p1] at e3 e4 ⊢ <;> omega
    rw [if_neg this]
    exact Blk.ext' (by show y.f = r.f - pw r.o; omega) e1
theorem merge {n : Int} {r : Blk} (h : Ok n r) (ho : Ok n (other r)) (h5 : r.o < 5) : Ok n ⟨if (other r).f < r.f then (other r).f else r.f, r.o + 1⟩ ∧ (∀ u, In u ⟨if (other r).f < r.f then (other r).f else r.f, r.o + 1⟩ ↔ In u r ∨ In u (other r)) ∧ pw (r.o + 1) = 2 * pw r.o := by
  have o0 := h.o0
  have o5 := h.o5
  have f0 := h.f0
  have al := h.al
  have en := h.en
  have f0' := ho.f0
  have en' := ho.en
  have q : pw (r.o + 1) = 2 * pw r.o ∧ 0 < pw r.o ∧ (r.f % (2 * pw r.o) = 0 ∨ (r.f - pw r.o) % (2 * pw r.o) = 0) := by
    have hj : (r.o = 0 ∧ pw r.o = 1 ∧ pw (r.o + 1) = 2) ∨ (r.o = 1 ∧ pw r.o = 2 ∧ pw (r.o + 1) = 4) ∨ (r.o = 2 ∧ pw r.o = 4 ∧ pw (r.o + 1) = 8) ∨ (r.o = 3 ∧ pw r.o = 8 ∧ pw (r.o + 1) = 16) ∨ (r.o = 4 ∧ pw r.o = 16 ∧ pw (r.o + 1) = 32) := by
      generalize r.o = j at *
      rcases (by omega : j = 0 ∨ j = 1 ∨ j = 2 ∨ j = 3 ∨ j = 4) with rfl | rfl | rfl | rfl | rfl <;> decide
    rcases hj with ⟨e1, p1, p2⟩ | ⟨e1, p1, p2⟩ | ⟨e1, p1, p2⟩ | ⟨e1, p1, p2⟩ | ⟨e1, p1, p2⟩ <;> rw [p1, p2] <;> rw [p1] at al <;> omega
  obtain ⟨q1, q2, q3⟩ := q
  have eo := other_o r
  unfold In
  rw [eo] at en' ⊢
  by_cases h0 : r.f % (2 * pw r.o) = 0
  · have e : (other r).f = r.f + pw r.o := by unfold other; rw [if_pos h0]
    rw [e, if_neg (by omega)]
    rw [e] at en'
    exact ⟨⟨by show 0 ≤ r.o + 1; omega, by show r.o + 1 ≤ 5; omega, f0, by show r.f % pw (r.o + 1) = 0; rw [q1]; exact h0, by show r.f + pw (r.o + 1) ≤ n; omega⟩, fun u => by simp only; omega, q1⟩
  · have e : (other r).f = r.f - pw r.o := by unfold other; rw [if_neg h0]
    rw [e, if_pos (by omega)]
    rw [e] at f0'
    exact ⟨⟨by show 0 ≤ r.o + 1; omega, by show r.o + 1 ≤ 5; omega, f0', by show (r.f - pw r.o) % pw (r.o + 1) = 0; rw [q1]; exact q3.resolve_left h0, by show r.f - pw r.o + pw (r.o + 1) ≤ n; omega⟩, fun u => by simp only; omega, q1⟩
theorem give_go {n : Int} {k : Nat} {a0 : Sto} {a1 a2 v3 : Int} {r1 : Sto × Bool} {v2 : Sto} (hk : 1000 ≤ k) (hn : n ≤ 512) : ∀ (d m : Nat) (t : Sto) (r : Blk), (5 - r.o).toNat ≤ d → d < m → Inv n t.l → Ok n r → (∀ u, In u r → ¬ Cov t.l u) →
    ∃ l, Give.l2 k a0 a1 a2 r1 v2 v3 m t r = some (⟨t.n, l⟩, none) ∧ Inv n l ∧ (∀ u, Cov l u ↔ Cov t.l u ∨ In u r) ∧ tot l = tot t.l + pw r.o := by
  intro d
  induction d with
  | zero =>
    intro m t r h1 h2 h3 h4 h5
    obtain ⟨m, rfl⟩ : ∃ q, m = q + 1 := ⟨m - 1, by omega⟩
    have o5 := h4.o5
    unfold Give.l2
    rw [decide_eq_false (show ¬ r.o < 5 by omega), cond_false]
    obtain ⟨l, e1, i1, c1, m1, t1⟩ := putb_all (k := k) h3 hn h4 h5 (fun y hy => ⟨fun hb => by have := hb.2.1; omega, fun hb => by have := hb.2.1; have := hb.1; omega⟩) hk
    rw [e1]
    exact ⟨l, rfl, i1, c1, t1⟩
  | succ d ih =>
    intro m t r h1 h2 h3 h4 h5
    by_cases h6 : r.o < 5
    · obtain ⟨m, rfl⟩ : ∃ q, m = q + 1 := ⟨m - 1, by omega⟩
      have hlen := h3.len hn
      unfold Give.l2
      rw [decide_eq_true h6, cond_true, decide_eq_true h4.o0, cond_true, shl_pw h4.o0 (by omega), xor_eq h4 hn h6]
      rcases index_eq (k := k) (L := t.l) (x := other r) (by omega) hk with ⟨hx, e⟩ | ⟨A, B, eL, e⟩
      · rw [e, Option.bind_some, decide_eq_true (show (-1 : Int) < 0 by omega), cond_true]
        obtain ⟨l, e1, i1, c1, m1, t1⟩ := putb_all (k := k) h3 hn h4 h5 (fun y hy => ⟨fun hb => hx (bud_other h4 (.inl hb) ▸ hy), fun hb => hx (bud_other h4 (.inr hb) ▸ hy)⟩) hk
        rw [e1]
        exact ⟨l, rfl, i1, c1, t1⟩
      · have hAl : A.length < t.l.length := by rw [eL]; simp
        have ex : t.l.getD ((A.length : Int)).toNat zR = other r := by
          rw [Int.toNat_natCast, getD_at hAl]
          simp only [eL]
          rw [List.getElem_append_right (Nat.le_refl _)]
          simp
        have hmem : other r ∈ t.l := by rw [eL]; exact List.mem_append_right _ List.mem_cons_self
        have oko := h3.ok _ hmem
        obtain ⟨k1, k2, k3⟩ := merge h4 oko h6
        rw [e, Option.bind_some, decide_eq_false (show ¬ (A.length : Int) < 0 by omega), cond_false, decide_eq_true (show 0 ≤ (A.length : Int) by omega), decide_eq_true (show (A.length : Int) < (t.l.length : Int) by omega), Bool.and_self, cond_true, drop_eq (s := t) k eL (by omega), Option.bind_some, ex, wrap_small (by have := h4.o0; omega) (by omega)]
        obtain ⟨i0, c0⟩ : Inv n (A ++ B) ∧ ∀ u, Cov (A ++ B) u ↔ Cov (A ++ other r :: B) u ∧ ¬ In u (other r) := Inv.drop (by rw [← eL]; exact h3)
        obtain ⟨l, e1, i1, c1, t1⟩ := ih m ⟨t.n, A ++ B⟩ ⟨if (other r).f < r.f then (other r).f else r.f, r.o + 1⟩ (by simp only; omega) (by omega) i0 k1 (fun u hu hc => by
          have hc := (c0 u).mp hc
          rcases (k2 u).mp hu with h | h
          · exact h5 u h (by rw [eL]; exact hc.1)
          · exact hc.2 h)
        refine ⟨l, e1, i1, fun u => ?_, ?_⟩
        · rw [c1 u, k2 u, c0 u, ← eL]
          constructor
          · rintro (⟨h, _⟩ | h | h)
            · exact .inl h
            · exact .inr h
            · exact .inl ⟨_, hmem, h⟩
          · rintro (h | h)
            · by_cases hu : In u (other r)
              · exact .inr (.inr hu)
              · exact .inl ⟨h, hu⟩
            · exact .inr (.inl h)
        · have := tot_mid (A := A) (B := B) (x := other r)
          rw [← eL, other_o] at this
          rw [t1, k3]
          simp only
          omega
    · exact ih m t r (by omega) (by omega) h3 h4 h5
theorem give_scan {n : Int} {k : Nat} {a0 s : Sto} {a1 a2 : Int} {r1 : Sto × Bool} (hk : 1000 ≤ k) (hn : n ≤ 512) (h : Inv n s.l) (hb : Ok n ⟨a1, a2⟩) : ∀ (d m : Nat) (v : Int), (a1 + pw a2 - v).toNat ≤ d → d < m → a1 ≤ v → v ≤ a1 + pw a2 →
    ((∃ u, v ≤ u ∧ u < a1 + pw a2 ∧ Cov s.l u) ∧ Give.l1 k a0 a1 a2 r1 m s v = some (s, some 7)) ∨ ((∀ u, v ≤ u → u < a1 + pw a2 → ¬ Cov s.l u) ∧ ∃ v', Give.l1 k a0 a1 a2 r1 m s v = Give.l2 k a0 a1 a2 r1 s v' k s ⟨a1, a2⟩) := by
  have b0 := hb.o0
  have b5 := hb.o5
  have bf := hb.f0
  have be := hb.en
  simp only at b0 b5 bf be
  have hp := pw_le b0 b5
  intro d
  induction d with
  | zero =>
    intro m v h1 h2 h3 h4
    obtain ⟨m, rfl⟩ : ∃ q, m = q + 1 := ⟨m - 1, by omega⟩
    refine .inr ⟨fun u _ _ => by omega, v, ?_⟩
    conv => lhs; unfold Give.l1
    rw [decide_eq_true b0, cond_true, shl_pw b0 (by omega), wrap_small (by omega) (by omega), decide_eq_false (by omega), cond_false]
  | succ d ih =>
    intro m v h1 h2 h3 h4
    by_cases hv : v < a1 + pw a2
    · obtain ⟨m, rfl⟩ : ∃ q, m = q + 1 := ⟨m - 1, by omega⟩
      unfold Give.l1
      rw [decide_eq_true b0, cond_true, shl_pw b0 (by omega), wrap_small (by omega) (by omega), decide_eq_true hv, cond_true]
      by_cases hc : Cov s.l v
      · rw [isFree_yes h hn hk hc, Option.bind_some]
        exact .inl ⟨⟨v, Int.le_refl _, hv, hc⟩, rfl⟩
      · rw [isFree_no h hn hk hc, Option.bind_some, wrap_small (by omega) (by omega)]
        simp only [cond_false]
        rcases ih m (v + 1) (by omega) (by omega) (by omega) (by omega) with ⟨⟨u, u1, u2, u3⟩, e⟩ | ⟨hu, v', e⟩
        · exact .inl ⟨⟨u, by omega, u2, u3⟩, e⟩
        · refine .inr ⟨fun u u1 u2 => ?_, v', e⟩
          rcases Int.lt_or_eq_of_le u1 with h' | h'
          · exact hu u (by omega) u2
          · subst h'; exact hc
    · exact ih m v (by omega) (by omega) h3 h4
theorem give_eq {n : Int} {k : Nat} {s : Sto} (h : Inv n s.l) (hs : s.n = n) (hn : n ≤ 512) (hk : 1000 ≤ k) (f o : Int) :
    (¬ Ok n ⟨f, o⟩ ∧ Give.f k s f o = some (s, some 1)) ∨ (Ok n ⟨f, o⟩ ∧ (∃ u, In u ⟨f, o⟩ ∧ Cov s.l u) ∧ Give.f k s f o = some (s, some 7)) ∨
    (Ok n ⟨f, o⟩ ∧ (∀ u, In u ⟨f, o⟩ → ¬ Cov s.l u) ∧ ∃ l, Give.f k s f o = some (⟨s.n, l⟩, none) ∧ Inv n l ∧ (∀ u, Cov l u ↔ Cov s.l u ∨ In u ⟨f, o⟩) ∧ tot l = tot s.l + pw o) := by
  unfold Give.f
  rcases block_eq (k := k) (s := s) (by omega) f o with ⟨h1, e⟩ | ⟨h1, e⟩
  · rw [hs] at h1
    exact .inl ⟨h1, by rw [e]; rfl⟩
  · rw [hs] at h1
    have hp := pw_le h1.o0 h1.o5
    simp only at hp
    rw [e, Option.bind_some]
    simp only [Bool.not_true, cond_false]
    rcases give_scan (k := k) (a0 := s) (s := s) (r1 := (s, true)) hk hn h h1 32 k f (by omega) (by omega) (Int.le_refl _) (by omega) with ⟨⟨u, u1, u2, u3⟩, e⟩ | ⟨hu, v', e⟩
    · exact .inr (.inl ⟨h1, ⟨u, ⟨u1, u2⟩, u3⟩, e⟩)
    · have hd : ∀ u, In u ⟨f, o⟩ → ¬ Cov s.l u := fun u hin => hu u hin.1 hin.2
      obtain ⟨l, e1, i1, c1, t1⟩ := give_go (k := k) (a0 := s) (a1 := f) (a2 := o) (v3 := v') (r1 := (s, true)) (v2 := s) hk hn 5 k s ⟨f, o⟩ (by have := h1.o0; simp only at this ⊢; omega) (by omega) h h1 hd
      exact .inr (.inr ⟨h1, hd, l, e.trans e1, i1, c1, t1⟩)
end Go.Proofs.YtmjnenjeckeklaaDoor.V
