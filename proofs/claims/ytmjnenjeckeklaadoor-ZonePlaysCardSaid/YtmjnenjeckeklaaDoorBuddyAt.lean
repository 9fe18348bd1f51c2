import Derived.Test.YtmjnenjeckeklaaDoorBuddyAdd
namespace Go.Proofs.YtmjnenjeckeklaaDoor.V
open Go Go.RowKit Go.Proofs Go.Proofs.YtmjnenjeckeklaaDoor.Q
set_option linter.unusedVariables false
set_option linter.unusedSimpArgs false
theorem at_scan {n : Int} {k : Nat} {a0 s : Sto} {a1 a2 : Int} {r1 : Sto × Bool} (hk : 1000 ≤ k) (hn : n ≤ 512) (h : Inv n s.l) (hb : Ok n ⟨a1, a2⟩) : ∀ (d m : Nat) (v : Int), (a1 + pw a2 - v).toNat ≤ d → d < m → a1 ≤ v → v ≤ a1 + pw a2 →
    ((∃ u, v ≤ u ∧ u < a1 + pw a2 ∧ ¬ Cov s.l u) ∧ TakeAt.l1 k a0 a1 a2 r1 m s v = some (s, some 7)) ∨ ((∀ u, v ≤ u → u < a1 + pw a2 → Cov s.l u) ∧ ∃ v', TakeAt.l1 k a0 a1 a2 r1 m s v = TakeAt.l2 k a0 a1 a2 r1 s v' k s a1) := by
  have b0 := hb.o0
  have b5 := hb.o5
  have bf := hb.f0
  have be := hb.en
  simp only at b0 b5 bf be
  have hp := pw_le b0 b5
  intro d
  induction d with
  | zero =>
    intro m v h1 h2 h3 h4
    obtain ⟨m, rfl⟩ : ∃ q, m = q + 1 := ⟨m - 1, by omega⟩
    refine .inr ⟨fun u _ _ => by omega, v, ?_⟩
    conv => lhs; unfold TakeAt.l1
    rw [shl_pw b0 (by omega), wrap_small (by omega) (by omega), decide_eq_false (by omega), cond_false]
  | succ d ih =>
    intro m v h1 h2 h3 h4
    by_cases hv : v < a1 + pw a2
    · obtain ⟨m, rfl⟩ : ∃ q, m = q + 1 := ⟨m - 1, by omega⟩
      unfold TakeAt.l1
      rw [shl_pw b0 (by omega), wrap_small (by omega) (by omega), decide_eq_true hv, cond_true]
      by_cases hc : Cov s.l v
      · rw [isFree_yes h hn hk hc, Option.bind_some, wrap_small (by omega) (by omega)]
        simp only [Bool.not_true, cond_false]
        rcases ih m (v + 1) (by omega) (by omega) (by omega) (by omega) with ⟨⟨u, u1, u2, u3⟩, e⟩ | ⟨hu, v', e⟩
        · exact .inl ⟨⟨u, by omega, u2, u3⟩, e⟩
        · refine .inr ⟨fun u u1 u2 => ?_, v', e⟩
          rcases Int.lt_or_eq_of_le u1 with h' | h'
          · exact hu u (by omega) u2
          · subst h'; exact hc
      · rw [isFree_no h hn hk hc, Option.bind_some]
        exact .inl ⟨⟨v, Int.le_refl _, hv, hc⟩, rfl⟩
    · exact ih m v (by omega) (by omega) h3 h4
theorem bud_in {n : Int} {r x y : Blk} (hr : Ok n r) (hx : Ok n x) (hy : Ok n y) (hb : Bud x y ∨ Bud y x) (hin : In x.f r) (ho : x.o < r.o) : In y.f r := by
  have := other_ok hx hr hin ho
  rw [bud_other hx hb]
  exact this.2
theorem at_go {n : Int} {k : Nat} {a0 s0 : Sto} {a1 a2 : Int} {r1 : Sto × Bool} {v3 : Sto} {v4 : Int} {L0 : List Blk} (hk : 1000 ≤ k) (hn : n ≤ 512) (hb : Ok n ⟨a1, a2⟩) (hc : ∀ u, a1 ≤ u → u < a1 + pw a2 → Cov L0 u) : ∀ (d m : Nat) (t : Sto) (p : Int), (a1 + pw a2 - p).toNat ≤ d → d < m → a1 ≤ p → 0 ≤ p → p ≤ 1000 → Inv n t.l → (∀ u, Cov t.l u ↔ Cov L0 u ∧ ¬ (a1 ≤ u ∧ u < p ∧ u < a1 + pw a2)) →
    tot t.l + ((if p < a1 + pw a2 then p else a1 + pw a2) - a1) = tot L0 →
    ∃ l, TakeAt.l2 k a0 a1 a2 r1 v3 v4 m t p = some (⟨t.n, l⟩, none) ∧ Inv n l ∧ (∀ u, Cov l u ↔ Cov L0 u ∧ ¬ (a1 ≤ u ∧ u < a1 + pw a2)) ∧ tot l + pw a2 = tot L0 := by
  have b0 := hb.o0
  have b5 := hb.o5
  have bf := hb.f0
  have be := hb.en
  have ba := hb.al
  simp only at b0 b5 bf be ba
  have hp := pw_le b0 b5
  intro d
  induction d with
  | zero =>
    intro m t p h1 h2 h3 h3' h3'' h4 h5 h6
    obtain ⟨m, rfl⟩ : ∃ q, m = q + 1 := ⟨m - 1, by omega⟩
    unfold TakeAt.l2
    rw [shl_pw b0 (by omega), wrap_small (by omega) (by omega), decide_eq_false (show ¬ p < a1 + pw a2 by omega), cond_false]
    rw [if_neg (by omega)] at h6
    exact ⟨t.l, rfl, h4, fun u => by rw [h5 u]; exact ⟨fun h => ⟨h.1, fun h' => h.2 ⟨h'.1, by omega, h'.2⟩⟩, fun h => ⟨h.1, fun h' => h.2 ⟨h'.1, h'.2.2⟩⟩⟩, by omega⟩
  | succ d ih =>
    intro m t p h1 h2 h3 h3' h3'' h4 h5 h6
    by_cases hpe : p < a1 + pw a2
    · obtain ⟨m, rfl⟩ : ∃ q, m = q + 1 := ⟨m - 1, by omega⟩
      have hcp : Cov t.l p := (h5 p).mpr ⟨hc p h3 hpe, fun h => by omega⟩
      have hlen := h4.len hn
      unfold TakeAt.l2
      rw [shl_pw b0 (by omega), wrap_small (x := a1 + pw a2) (by omega) (by omega), decide_eq_true hpe, cond_true]
      rcases inn_eq (k := k) h4 hn hk p with ⟨h, _⟩ | ⟨A, x, B, eL, hx, e⟩
      · exact absurd hcp h
      · have hmem : x ∈ t.l := by rw [eL]; exact List.mem_append_right _ List.mem_cons_self
        have okx := h4.ok x hmem
        have x0 := okx.f0
        have xe := okx.en
        have xp := pw_le okx.o0 okx.o5
        have hAl : A.length < t.l.length := by rw [eL]; simp
        have ex : t.l.getD ((A.length : Int)).toNat zR = x := by
          rw [Int.toNat_natCast, getD_at hAl]
          simp only [eL]
          rw [List.getElem_append_right (Nat.le_refl _)]
          simp
        obtain ⟨i0, c0⟩ : Inv n (A ++ B) ∧ ∀ u, Cov (A ++ B) u ↔ Cov (A ++ x :: B) u ∧ ¬ In u x := Inv.drop (by rw [← eL]; exact h4)
        have t0 : tot (A ++ B) + pw x.o = tot t.l := by rw [eL, tot_mid]
        have hnocov : ∀ u, In u x → ¬ Cov (A ++ B) u := fun u hu hc' => ((c0 u).mp hc').2 hu
        rw [e, Option.bind_some]
        simp only
        rw [decide_eq_false (show ¬ (A.length : Int) < 0 by omega), cond_false, decide_eq_true (show 0 ≤ (A.length : Int) by omega), decide_eq_true (show (A.length : Int) < (t.l.length : Int) by omega), Bool.and_self, cond_true, ex, decide_eq_true okx.o0, cond_true, drop_eq (s := t) k eL (by omega), Option.bind_some, shl_pw okx.o0 (by have := okx.o5; omega), wrap_small (x := x.f + pw x.o) (by omega) (by omega)]
        unfold In at hx
        have hcase : (a2 ≤ x.o ∧ x.f ≤ a1 ∧ a1 + pw a2 ≤ x.f + pw x.o) ∨ (x.o < a2 ∧ a1 ≤ x.f ∧ x.f + pw x.o ≤ a1 + pw a2) := by
          rcases Int.lt_or_le x.o a2 with ho | ho
          · have := nest okx hb (t := p) hx ⟨h3, hpe⟩ (by show x.o ≤ a2; omega)
            simp only at this
            exact .inr ⟨ho, this.1, this.2⟩
          · have := nest hb okx (t := p) ⟨h3, hpe⟩ hx (by show a2 ≤ x.o; omega)
            simp only at this
            exact .inl ⟨ho, this.1, this.2⟩
        rcases hcase with ⟨ho, q1, q2⟩ | ⟨ho, q1, q2⟩
        ·
          have epa : p = a1 := by
            rcases Int.lt_or_eq_of_le h3 with h | h
            · have := ((h5 a1).mp ⟨x, hmem, ⟨q1, by omega⟩⟩).2
              exact absurd ⟨Int.le_refl _, h, by omega⟩ this
            · exact h.symm
          have em : (if a1 > x.f then a1 else x.f) = a1 := by split <;> omega
          have en' : (if a1 + pw a2 < x.f + pw x.o then a1 + pw a2 else x.f + pw x.o) = a1 + pw a2 := by split <;> omega
          rw [em, en']
          have less : ∀ y : Blk, Ok n y → (x.f ≤ y.f ∧ y.f + pw y.o ≤ a1 ∨ a1 + pw a2 ≤ y.f ∧ y.f + pw y.o ≤ x.f + pw x.o) → y.o < x.o ∧ In y.f x := fun y oky hy => by
            have py := oky.pos
            have iny : In y.f x := ⟨by omega, by omega⟩
            refine ⟨?_, iny⟩
            rcases Int.lt_or_le y.o x.o with h | h
            · exact h
            · have := nest okx oky iny oky.self h
              omega
          have H1 : AddH n (A ++ B) x.f a1 := ⟨i0, hn, x0, q1, by omega, fun u u1 u2 => hnocov u ⟨u1, by omega⟩, fun y hy z okz z1 z2 => by
            obtain ⟨lz, iz⟩ := less z okz (.inl ⟨z1, z2⟩)
            have oky := i0.ok y hy
            refine ⟨fun hb' => ?_, fun hb' => ?_⟩
            · exact hnocov y.f (bud_in okx okz oky (.inl hb') iz lz) ⟨y, hy, oky.self⟩
            · exact hnocov y.f (bud_in okx okz oky (.inr hb') iz lz) ⟨y, hy, oky.self⟩⟩
          obtain ⟨l1, e1, j1⟩ := add_eq (k := k) (s := ⟨t.n, A ++ B⟩) H1 hk
          have H2 : AddH n l1 (a1 + pw a2) (x.f + pw x.o) := ⟨j1.inv, hn, by omega, q2, xe, fun u u1 u2 hu => by
            rcases (j1.cov u).mp hu with hu | hu
            · exact hnocov u ⟨by omega, by omega⟩ hu
            · omega, fun y hy z okz z1 z2 => by
            obtain ⟨lz, iz⟩ := less z okz (.inr ⟨z1, z2⟩)
            have oky := j1.inv.ok y hy
            have py := oky.pos
            rcases j1.mem y hy with hy' | ⟨y1, y2, _⟩
            · refine ⟨fun hb' => ?_, fun hb' => ?_⟩
              · exact hnocov y.f (bud_in okx okz oky (.inl hb') iz lz) ⟨y, hy', oky.self⟩
              · exact hnocov y.f (bud_in okx okz oky (.inr hb') iz lz) ⟨y, hy', oky.self⟩
            · refine ⟨fun hb' => ?_, fun hb' => ?_⟩
              · have := hb'.2.2.1; have := okz.pos; omega
              · have := hb'.2.2.1; omega⟩
          obtain ⟨l2, e2, j2⟩ := add_eq (k := k) (s := ⟨t.n, l1⟩) H2 hk
          rw [e1, Option.bind_some, e2, Option.bind_some]
          have c2 : ∀ u, Cov l2 u ↔ Cov L0 u ∧ ¬ (a1 ≤ u ∧ u < a1 + pw a2) := fun u => by
            rw [j2.cov u, j1.cov u, c0 u, ← eL, h5 u]
            unfold In
            constructor
            · rintro ((⟨⟨g1, g2⟩, g3⟩ | g) | g)
              · exact ⟨g1, fun h' => g3 (by omega)⟩
              · exact ⟨((h5 u).mp ⟨x, hmem, ⟨by omega, by omega⟩⟩).1, by omega⟩
              · exact ⟨((h5 u).mp ⟨x, hmem, ⟨by omega, by omega⟩⟩).1, by omega⟩
            · rintro ⟨g1, g2⟩
              by_cases hu : x.f ≤ u ∧ u < x.f + pw x.o
              · rcases Int.lt_or_le u a1 with h' | h'
                · exact .inl (.inr (by omega))
                · exact .inr (by omega)
              · exact .inl (.inl ⟨⟨g1, by omega⟩, hu⟩)
          have tt2 : tot l2 + pw a2 = tot L0 := by
            rw [j2.tot, j1.tot]
            rw [if_pos hpe] at h6
            simp only
            omega
          obtain ⟨l, e3, i3, c3, t3⟩ := ih m ⟨t.n, l2⟩ (x.f + pw x.o) (by omega) (by omega) (by omega) (by omega) (by omega) j2.inv (fun u => by
            rw [c2 u]
            exact ⟨fun g => ⟨g.1, fun h' => g.2 ⟨h'.1, h'.2.2⟩⟩, fun g => ⟨g.1, fun h' => g.2 ⟨h'.1, by omega, h'.2⟩⟩⟩) (by simp only; split <;> omega)
          exact ⟨l, e3, i3, c3, t3⟩
        ·
          have epx : p = x.f := by
            rcases Int.lt_or_eq_of_le hx.1 with h | h
            · have := ((h5 x.f).mp ⟨x, hmem, okx.self⟩).2
              exact absurd ⟨q1, h, by omega⟩ this
            · exact h.symm
          have em : (if a1 > x.f then a1 else x.f) = x.f := by rw [if_neg (by omega)]
          have en' : (if a1 + pw a2 < x.f + pw x.o then a1 + pw a2 else x.f + pw x.o) = x.f + pw x.o := by rw [if_neg (by omega)]
          rw [em, en']
          have H0 : ∀ v l', Inv n l' → 0 ≤ v → v ≤ n → AddH n l' v v := fun v l' hl' v0 v1 => ⟨hl', hn, v0, Int.le_refl _, v1, fun u u1 u2 => by omega, fun y _ z okz z1 z2 => by have := okz.pos; omega⟩
          have add0 : ∀ (q : Sto) v, Inv n q.l → 0 ≤ v → v ≤ n → add.f k q v v = some q := fun q v hl' v0 v1 => by
            obtain ⟨P, g1, g2⟩ := cut_eq (k := k) v0 (Int.le_refl _) (show v ≤ 512 by omega) hk
            have gl := g1.len
            have : P = [] := List.eq_nil_of_length_eq_zero (by omega)
            subst this
            unfold add.f
            rw [g2, Option.bind_some]
            obtain ⟨k', rfl⟩ : ∃ k', k = k' + 1 := ⟨k - 1, by omega⟩
            unfold add.l1
            rfl
          rw [add0 _ _ i0 x0 (by omega), Option.bind_some, add0 _ _ i0 (by omega) xe, Option.bind_some]
          obtain ⟨l, e3, i3, c3, t3⟩ := ih m ⟨t.n, A ++ B⟩ (x.f + pw x.o) (by omega) (by omega) (by omega) (by omega) (by omega) i0 (fun u => by
            rw [c0 u, ← eL, h5 u]
            unfold In
            constructor
            · rintro ⟨⟨g1, g2⟩, g3⟩
              exact ⟨g1, fun h' => by
                rcases Int.lt_or_le u p with h'' | h''
                · exact g2 ⟨h'.1, h'', h'.2.2⟩
                · exact g3 (by omega)⟩
            · rintro ⟨g1, g2⟩
              exact ⟨⟨g1, fun h' => g2 (by omega)⟩, fun h' => g2 (by omega)⟩) (by
            rw [if_pos hpe] at h6
            simp only
            split <;> omega)
          exact ⟨l, e3, i3, c3, t3⟩
    · exact ih m t p (by omega) (by omega) h3 h3' h3'' h4 h5 h6
theorem takeAt_eq {n : Int} {k : Nat} {s : Sto} (h : Inv n s.l) (hs : s.n = n) (hn : n ≤ 512) (hk : 1000 ≤ k) (f o : Int) :
    (¬ Ok n ⟨f, o⟩ ∧ TakeAt.f k s f o = some (s, some 1)) ∨ (Ok n ⟨f, o⟩ ∧ (∃ u, In u ⟨f, o⟩ ∧ ¬ Cov s.l u) ∧ TakeAt.f k s f o = some (s, some 7)) ∨
    (Ok n ⟨f, o⟩ ∧ (∀ u, In u ⟨f, o⟩ → Cov s.l u) ∧ ∃ l, TakeAt.f k s f o = some (⟨s.n, l⟩, none) ∧ Inv n l ∧ (∀ u, Cov l u ↔ Cov s.l u ∧ ¬ In u ⟨f, o⟩) ∧ tot l + pw o = tot s.l) := by
  unfold TakeAt.f
  rcases block_eq (k := k) (s := s) (by omega) f o with ⟨h1, e⟩ | ⟨h1, e⟩
  · rw [hs] at h1
    exact .inl ⟨h1, by rw [e]; rfl⟩
  · rw [hs] at h1
    have hp := pw_le h1.o0 h1.o5
    have f0 := h1.f0
    have fe := h1.en
    have o0 := h1.o0
    simp only at hp f0 fe o0
    rw [e, Option.bind_some]
    simp only [Bool.not_true, cond_false]
    rw [decide_eq_true o0, cond_true]
    rcases at_scan (k := k) (a0 := s) (s := s) (r1 := (s, true)) hk hn h h1 32 k f (by omega) (by omega) (Int.le_refl _) (by omega) with ⟨⟨u, u1, u2, u3⟩, e⟩ | ⟨hu, v', e⟩
    · exact .inr (.inl ⟨h1, ⟨u, ⟨u1, u2⟩, u3⟩, e⟩)
    · obtain ⟨l, e1, i1, c1, t1⟩ := at_go (k := k) (a0 := s) (s0 := s) (a1 := f) (a2 := o) (v3 := s) (v4 := v') (r1 := (s, true)) (L0 := s.l) hk hn h1 hu 32 k s f (by omega) (by omega) (Int.le_refl _) (by omega) (by omega) h (fun u => ⟨fun g => ⟨g, fun h' => by omega⟩, fun g => g.1⟩) (by rw [if_pos (by omega)]; omega)
      exact .inr (.inr ⟨h1, fun u hin => hu u hin.1 hin.2, l, e.trans e1, i1, c1, t1⟩)
end Go.Proofs.YtmjnenjeckeklaaDoor.V
