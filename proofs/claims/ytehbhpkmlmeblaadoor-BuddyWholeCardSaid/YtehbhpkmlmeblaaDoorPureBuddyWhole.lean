/- BuddyWhole, as a plain law: no two free blocks meet, no two buddies are free side by side; once all is given back, all is free as at first. -/
import Derived.Test.YtehbhpkmlmeblaaDoorBuddyLaw
namespace Go.Proofs.YtehbhpkmlmeblaaDoor.V
open Go Go.RowKit Go.Proofs Go.Proofs.YtehbhpkmlmeblaaDoor.Q Go.Proofs.YtehbhpkmlmeblaaDoorW.PrintWords
set_option linter.unusedVariables false
set_option linter.unusedSimpArgs false
set_option maxRecDepth 100000
def Apart (x y : Blk) : Prop := ∀ u, ¬ (In u x ∧ In u y)
/-- A store and what was taken of it. -/
structure Wh (n : Int) (s : Sto) (T : List Blk) : Prop where
  inv : Inv n s.l
  sn : s.n = n
  ok : ∀ x ∈ T, Ok n x
  dis : T.Pairwise Apart
  out : ∀ x ∈ T, ∀ u, In u x → ¬ Cov s.l u
  all : ∀ u, 0 ≤ u → u < n → Cov s.l u ∨ Cov T u
  sum : tot s.l + tot T = n
theorem Wh.give {n : Int} {s : Sto} {A B : List Blk} {x : Blk} (W : Wh n s (A ++ x :: B)) (hn : n ≤ 512) : ∃ s', Give.f 1000 s x.f x.o = some (s', none) ∧ Wh n s' (A ++ B) := by
  have hx : x ∈ A ++ x :: B := mem_mid.mpr (.inl rfl)
  rcases give_eq W.inv W.sn hn (k := 1000) (by omega) x.f x.o with ⟨hno, _⟩ | ⟨_, ⟨u, hu, hc⟩, _⟩ | ⟨_, hd, l, e, hi, hcov, ht⟩
  · exact absurd (W.ok x hx) hno
  · exact absurd hc (W.out x hx u hu)
  · refine ⟨_, e, hi, W.sn, fun y hy => W.ok y (mem_mid.mpr (.inr hy)), W.dis.sublist (List.Sublist.append_left (List.sublist_cons_self x B) A), fun y hy u hu hc => ?_, fun u u0 u1 => ?_, ?_⟩
    · rcases (hcov u).mp hc with h | h
      · exact W.out y (mem_mid.mpr (.inr hy)) u hu h
      · have hp := List.pairwise_append.mp W.dis
        rcases List.mem_append.mp hy with hy | hy
        · exact hp.2.2 y hy x List.mem_cons_self u ⟨hu, h⟩
        · exact (List.pairwise_cons.mp hp.2.1).1 y hy u ⟨h, hu⟩
    · rcases W.all u u0 u1 with h | ⟨y, hy, hin⟩
      · exact .inl ((hcov u).mpr (.inl h))
      · rcases mem_mid.mp hy with rfl | hy
        · exact .inl ((hcov u).mpr (.inr hin))
        · exact .inr ⟨y, hy, hin⟩
    · have := W.sum
      rw [tot_mid] at this
      simp only at ht ⊢
      omega
theorem Wh.take {n : Int} {s : Sto} {T : List Blk} {o : Int} (W : Wh n s T) (hn : n ≤ 512) (o0 : 0 ≤ o) (o5 : o ≤ 5) :
    Take.f 1000 s o = some (s, 0, some 5) ∨ ∃ s' f, Take.f 1000 s o = some (s', f, none) ∧ Wh n s' (T ++ [⟨f, o⟩]) := by
  rcases take_eq W.inv hn (k := 1000) (by omega) o0 o5 with ⟨_, e⟩ | ⟨A, x, B, l, _, _, e, ok, hin, hi, hcov, ht⟩
  · exact .inl e
  · refine .inr ⟨_, _, e, hi, W.sn, fun y hy => ?_, ?_, fun y hy u hu hc => ?_, fun u u0 u1 => ?_, ?_⟩
    · rcases List.mem_append.mp hy with hy | hy
      · exact W.ok y hy
      · rw [List.mem_singleton.mp hy]; exact ok
    · refine List.pairwise_append.mpr ⟨W.dis, List.pairwise_singleton _ _, fun a ha b hb u => ?_⟩
      rw [List.mem_singleton.mp hb]
      exact fun h => W.out a ha u h.1 (hin u h.2)
    · have hc := (hcov u).mp hc
      rcases List.mem_append.mp hy with hy | hy
      · exact W.out y hy u hu hc.1
      · rw [List.mem_singleton.mp hy] at hu; exact hc.2 hu
    · rcases W.all u u0 u1 with h | ⟨y, hy, h⟩
      · by_cases hb : In u ⟨x.f, o⟩
        · exact .inr ⟨_, List.mem_append_right _ (List.mem_singleton.mpr rfl), hb⟩
        · exact .inl ((hcov u).mpr ⟨h, hb⟩)
      · exact .inr ⟨y, List.mem_append_left _ hy, h⟩
    · have := W.sum
      have e2 := tot_mid (A := T) (B := []) (x := ⟨x.f, o⟩)
      rw [List.append_nil] at e2
      rw [e2]
      simp only
      omega
theorem cut_out {L : List Blk} {r : Int} (h0 : 0 ≤ r) (h1 : r < (L.length : Int)) (h2 : L.length ≤ 900) : (([] : List Blk) ++ ((L.drop (0 + 0)).take ((r.toNat - 0)))) ++ ((L.drop (0 + (IntKind.i64.wrap (r + 1)).toNat)).take (((L.map eR).length - (IntKind.i64.wrap (r + 1)).toNat))) = L.take r.toNat ++ L.drop (r.toNat + 1) := by
  rw [wrap_small (by omega) (by omega), List.nil_append, Nat.add_zero, List.drop_zero, Nat.sub_zero, Nat.zero_add, List.length_map, show (r + 1).toNat = r.toNat + 1 by omega, List.take_of_length_le (i := L.length - (r.toNat + 1)) (l := L.drop (r.toNat + 1)) (by rw [List.length_drop]; exact Nat.le_refl _)]
theorem split_i {L : List Blk} {i : Nat} (h : i < L.length) : L = L.take i ++ L.getD i zR :: L.drop (i + 1) := by
  rw [getD_at h, ← List.drop_eq_getElem_cons h, List.take_append_drop]
theorem sum_go {F : Nat → Sto → Sto → List Blk → Int → Int → Option (Sto × Sto × List Blk × Int × Int)} (hF : ∀ n a b c d e, F (n + 1) a b c d e = (bif decide (e < (c.length : Int)) then (bif decide (0 ≤ e) && decide (e < (c.length : Int)) then (paviorref01_Power.f 1000 ((c.getD ((e).toNat) zR).o)).bind fun (r : Int) => F n a b c (IntKind.i64.wrap (d + r)) (IntKind.i64.wrap (e + 1)) else none) else some (a, b, c, d, e)))
    {a b : Sto} {c : List Blk} (ok : ∀ x ∈ c, 0 ≤ x.o ∧ x.o ≤ 5) (hl : c.length ≤ 900) : ∀ (j n i : Nat) (d : Int), c.length - i ≤ j → j < n → i ≤ c.length → 0 ≤ d → d + 32 * (c.length - i) ≤ 100000 → ∃ e, F n a b c d (i : Int) = some (a, b, c, d + tot (c.drop i), e) := by
  intro j
  induction j with
  | zero =>
    intro n i d h1 h2 h3 h4 h5
    obtain ⟨n, rfl⟩ : ∃ q, n = q + 1 := ⟨n - 1, by omega⟩
    rw [hF, decide_eq_false (show ¬ (i : Int) < (c.length : Int) by omega), cond_false, List.drop_eq_nil_of_le (by omega)]
    exact ⟨_, by rw [show tot [] = 0 from rfl, Int.add_zero]⟩
  | succ j ih =>
    intro n i d h1 h2 h3 h4 h5
    obtain ⟨n, rfl⟩ : ∃ q, n = q + 1 := ⟨n - 1, by omega⟩
    by_cases hi : i < c.length
    · have hx := ok c[i] (List.getElem_mem hi)
      have hp := pw_le hx.1 hx.2
      rw [hF, decide_eq_true (show (i : Int) < (c.length : Int) by omega), decide_eq_true (show 0 ≤ (i : Int) by omega)]
      simp only [Bool.and_self, cond_true, Int.toNat_natCast]
      rw [getD_at hi, power_eq hx.1 hx.2, Option.bind_some, wrap_small (by omega) (by omega), wrap_small (by omega) (by omega)]
      obtain ⟨e, he⟩ := ih n (i + 1) (d + pw c[i].o) (by omega) (by omega) (by omega) (by omega) (by omega)
      refine ⟨e, ?_⟩
      rw [show ((i : Int) + 1) = ((i + 1 : Nat) : Int) by omega, he, List.drop_eq_getElem_cons hi, tot_cons, Int.add_assoc]
    · exact ih (n + 1) i d (by omega) (by omega) h3 h4 h5
theorem chk_go {n0 : Int} {L : List Blk} (hi : Inv n0 L) (hn : n0 ≤ 512) {G : Nat → Sto → Sto → List Blk → Int → Option (Sum (Sto × Sto × List Blk × Int) Bool)}
    (hG : ∀ n a b c v, G (n + 1) a b c v = (bif decide (v < (L.length : Int)) then (bif decide (0 ≤ (IntKind.i64.wrap (v - 1))) && decide ((IntKind.i64.wrap (v - 1)) < (L.length : Int)) then (paviorref01_Power.f 1000 ((L.getD ((IntKind.i64.wrap (v - 1)).toNat) zR).o)).bind fun (r : Int) => (bif decide (0 ≤ (IntKind.i64.wrap (v - 1))) && decide ((IntKind.i64.wrap (v - 1)) < (L.length : Int)) then (bif decide (0 ≤ v) && decide (v < (L.length : Int)) then (bif decide ((IntKind.i64.wrap (((L.getD ((IntKind.i64.wrap (v - 1)).toNat) zR).f) + r)) > ((L.getD ((v).toNat) zR).f)) then some (Sum.inr false) else (bif decide (0 ≤ (IntKind.i64.wrap (v - 1))) && decide ((IntKind.i64.wrap (v - 1)) < (L.length : Int)) then (bif decide (0 ≤ v) && decide (v < (L.length : Int)) then (bif ((L.getD ((IntKind.i64.wrap (v - 1)).toNat) zR).o) == ((L.getD ((v).toNat) zR).o) then (bif decide (0 ≤ v) && decide (v < (L.length : Int)) then (bif decide (((L.getD ((v).toNat) zR).o) < 5) then (bif decide (0 ≤ (IntKind.i64.wrap (v - 1))) && decide ((IntKind.i64.wrap (v - 1)) < (L.length : Int)) then (bif decide ((IntKind.i64.wrap (2 * r)) ≠ 0) then (bif (((L.getD ((IntKind.i64.wrap (v - 1)).toNat) zR).f).tmod (IntKind.i64.wrap (2 * r))) == 0 then (bif decide (0 ≤ v) && decide (v < (L.length : Int)) then (bif decide (0 ≤ (IntKind.i64.wrap (v - 1))) && decide ((IntKind.i64.wrap (v - 1)) < (L.length : Int)) then (bif ((L.getD ((v).toNat) zR).f) == (IntKind.i64.wrap (((L.getD ((IntKind.i64.wrap (v - 1)).toNat) zR).f) + r)) then some (Sum.inr false) else G n a b c (IntKind.i64.wrap (v + 1))) else none) else none) else G n a b c (IntKind.i64.wrap (v + 1))) else none) else none) else G n a b c (IntKind.i64.wrap (v + 1))) else none) else G n a b c (IntKind.i64.wrap (v + 1))) else none) else none)) else none) else none) else none) else some (Sum.inl (a, b, c, v))))
    {a b : Sto} {c : List Blk} : ∀ (j n i : Nat), L.length - i ≤ j → j < n → 1 ≤ i → ∃ e, G n a b c (i : Int) = some (Sum.inl (a, b, c, e)) := by
  have hl := hi.len hn
  intro j
  induction j with
  | zero =>
    intro n i h1 h2 h3
    obtain ⟨n, rfl⟩ : ∃ q, n = q + 1 := ⟨n - 1, by omega⟩
    rw [hG, decide_eq_false (show ¬ (i : Int) < (L.length : Int) by omega), cond_false]
    exact ⟨_, rfl⟩
  | succ j ih =>
    intro n i h1 h2 h3
    obtain ⟨n, rfl⟩ : ∃ q, n = q + 1 := ⟨n - 1, by omega⟩
    by_cases hlt : i < L.length
    · have hj : i - 1 < L.length := by omega
      have ox := hi.ok _ (List.getElem_mem hj)
      have oy := hi.ok _ (List.getElem_mem hlt)
      have hb : Bef L[i - 1] L[i] := List.pairwise_iff_getElem.mp hi.srt (i - 1) i hj hlt (by omega)
      have nb := hi.nb _ (List.getElem_mem hj) _ (List.getElem_mem hlt)
      have hp := pw_le ox.o0 ox.o5
      have xf := ox.f0
      have xe := ox.en
      obtain ⟨e, he⟩ := ih n (i + 1) (by omega) (by omega) (by omega)
      have w1 : IntKind.i64.wrap ((i : Int) - 1) = ((i - 1 : Nat) : Int) := by rw [wrap_small (by omega) (by omega)]; omega
      have w2 : IntKind.i64.wrap ((i : Int) + 1) = ((i + 1 : Nat) : Int) := by rw [wrap_small (by omega) (by omega)]; omega
      have w3 : IntKind.i64.wrap (L[i - 1].f + pw L[i - 1].o) = L[i - 1].f + pw L[i - 1].o := wrap_small (by omega) (by omega)
      have w4 : IntKind.i64.wrap (2 * pw L[i - 1].o) = 2 * pw L[i - 1].o := wrap_small (by omega) (by omega)
      have g1 : L.getD (((i - 1 : Nat) : Int)).toNat zR = L[i - 1] := getD_at hj
      have g2 : L.getD ((i : Int)).toNat zR = L[i] := getD_at hlt
      unfold Bef at hb
      rw [hG, w1, w2, g1, g2, decide_eq_true (show (i : Int) < (L.length : Int) by omega), decide_eq_true (show 0 ≤ (i : Int) by omega), decide_eq_true (show 0 ≤ ((i - 1 : Nat) : Int) by omega), decide_eq_true (show ((i - 1 : Nat) : Int) < (L.length : Int) by omega)]
      simp only [Bool.and_self, cond_true]
      rw [power_eq ox.o0 ox.o5, Option.bind_some, w3, w4, decide_eq_false (show ¬ L[i - 1].f + pw L[i - 1].o > L[i].f by omega), cond_false, decide_eq_true (show 2 * pw L[i - 1].o ≠ 0 by omega), cond_true, Int.tmod_eq_emod_of_nonneg xf]
      by_cases c1 : L[i - 1].o = L[i].o
      · rw [beq_iff_eq.mpr c1, cond_true]
        by_cases c2 : L[i].o < 5
        · rw [decide_eq_true c2, cond_true]
          by_cases c3 : L[i - 1].f % (2 * pw L[i - 1].o) = 0
          · rw [beq_iff_eq.mpr c3, cond_true]
            by_cases c4 : L[i].f = L[i - 1].f + pw L[i - 1].o
            · exact absurd ⟨c1, by rw [c1]; exact c2, c4, c3⟩ nb
            · rw [beq_eq_false_iff_ne.mpr c4, cond_false]
              exact ⟨e, he⟩
          · rw [beq_eq_false_iff_ne.mpr c3, cond_false]
            exact ⟨e, he⟩
        · rw [decide_eq_false c2, cond_false]
          exact ⟨e, he⟩
      · rw [beq_eq_false_iff_ne.mpr c1, cond_false]
        exact ⟨e, he⟩
    · exact ih (n + 1) i (by omega) (by omega) h3
/-- What is looked at behind each deed. -/
theorem tail_eq {n : Int} {s t : Sto} {T : List Blk} {N : Int} (W : Wh n s T) (hn : n ≤ 512) (hN : IntKind.i64.wrap N = n) (hT : T.length ≤ 900) {F : Sto × List Blk → Sto × Int → Nat → Sto → Sto → List Blk → Int → Int → Option (Sto × Sto × List Blk × Int × Int)} {G : Sto × List Blk → Sto × Int → Sto × Sto × List Blk × Int × Int → Nat → Sto → Sto → List Blk → Int → Option (Sum (Sto × Sto × List Blk × Int) Bool)} {K : Sto × Sto × List Blk × Int → Option Bool}
    (hF : ∀ r q n a b c d e, F r q (n + 1) a b c d e = (bif decide (e < (c.length : Int)) then (bif decide (0 ≤ e) && decide (e < (c.length : Int)) then (paviorref01_Power.f 1000 ((c.getD ((e).toNat) zR).o)).bind fun (w : Int) => F r q n a b c (IntKind.i64.wrap (d + w)) (IntKind.i64.wrap (e + 1)) else none) else some (a, b, c, d, e)))
    (hG : ∀ z q y n a b c v, G z q y (n + 1) a b c v = (bif decide (v < (z.2.length : Int)) then (bif decide (0 ≤ (IntKind.i64.wrap (v - 1))) && decide ((IntKind.i64.wrap (v - 1)) < (z.2.length : Int)) then (paviorref01_Power.f 1000 ((z.2.getD ((IntKind.i64.wrap (v - 1)).toNat) zR).o)).bind fun (r : Int) => (bif decide (0 ≤ (IntKind.i64.wrap (v - 1))) && decide ((IntKind.i64.wrap (v - 1)) < (z.2.length : Int)) then (bif decide (0 ≤ v) && decide (v < (z.2.length : Int)) then (bif decide ((IntKind.i64.wrap (((z.2.getD ((IntKind.i64.wrap (v - 1)).toNat) zR).f) + r)) > ((z.2.getD ((v).toNat) zR).f)) then some (Sum.inr false) else (bif decide (0 ≤ (IntKind.i64.wrap (v - 1))) && decide ((IntKind.i64.wrap (v - 1)) < (z.2.length : Int)) then (bif decide (0 ≤ v) && decide (v < (z.2.length : Int)) then (bif ((z.2.getD ((IntKind.i64.wrap (v - 1)).toNat) zR).o) == ((z.2.getD ((v).toNat) zR).o) then (bif decide (0 ≤ v) && decide (v < (z.2.length : Int)) then (bif decide (((z.2.getD ((v).toNat) zR).o) < 5) then (bif decide (0 ≤ (IntKind.i64.wrap (v - 1))) && decide ((IntKind.i64.wrap (v - 1)) < (z.2.length : Int)) then (bif decide ((IntKind.i64.wrap (2 * r)) ≠ 0) then (bif (((z.2.getD ((IntKind.i64.wrap (v - 1)).toNat) zR).f).tmod (IntKind.i64.wrap (2 * r))) == 0 then (bif decide (0 ≤ v) && decide (v < (z.2.length : Int)) then (bif decide (0 ≤ (IntKind.i64.wrap (v - 1))) && decide ((IntKind.i64.wrap (v - 1)) < (z.2.length : Int)) then (bif ((z.2.getD ((v).toNat) zR).f) == (IntKind.i64.wrap (((z.2.getD ((IntKind.i64.wrap (v - 1)).toNat) zR).f) + r)) then some (Sum.inr false) else G z q y n a b c (IntKind.i64.wrap (v + 1))) else none) else none) else G z q y n a b c (IntKind.i64.wrap (v + 1))) else none) else none) else G z q y n a b c (IntKind.i64.wrap (v + 1))) else none) else G z q y n a b c (IntKind.i64.wrap (v + 1))) else none) else none)) else none) else none) else none) else some (Sum.inl (a, b, c, v)))) :
    ∃ e, ((Free.f 1000 s).bind fun (r23 : Sto × (List Blk)) => (Count.f 1000 r23.1).bind fun (r24 : Sto × Int) => (F r23 r24 1000 r24.1 t T r24.2 0).bind fun (y30 : Sto × Sto × (List Blk) × Int × Int) => (bif y30.2.2.2.1 != (IntKind.i64.wrap N) then some false else (G r23 r24 y30 1000 y30.1 y30.2.1 y30.2.2.1 1).bind fun (y37 : Sum (Sto × Sto × (List Blk) × Int) (Bool)) => Sum.elim (fun (y37v : Sto × Sto × (List Blk) × Int) => K y37v) some y37)) = K (s, t, T, e) := by
  have hl := W.inv.len hn
  have hs := W.sum
  have ht := W.inv.tot (by have := W.inv; rcases Int.lt_or_le n 0 with h | h
                           · exfalso
                             have h1 := Inv.tot (n := 512) (L := s.l) ⟨fun x hx => by have := W.inv.ok x hx; exact ⟨this.o0, this.o5, this.f0, this.al, by have := this.en; omega⟩, W.inv.srt, W.inv.nb⟩ (by omega)
                             have h2 : 0 ≤ tot T := by
                               have : ∀ M : List Blk, (∀ x ∈ M, Ok n x) → 0 ≤ tot M := by
                                 intro M
                                 induction M with
                                 | nil => intro _; exact Int.le_refl _
                                 | cons x M ih => intro hM; rw [tot_cons]; have := ih fun y hy => hM y (List.mem_cons_of_mem _ hy); have := (hM x List.mem_cons_self).pos; omega
                               exact this T W.ok
                             omega
                           · exact h)
  rw [free_eq W.inv hn, Option.bind_some, count_eq W.inv hn (by omega), Option.bind_some]
  obtain ⟨e1, h1⟩ := sum_go (F := F (s, s.l) (s, tot s.l)) (hF _ _) (a := s) (b := t) (c := T) (fun x hx => ⟨(W.ok x hx).o0, (W.ok x hx).o5⟩) hT T.length 1000 0 (tot s.l) (by omega) (by omega) (by omega) ht.1 (by omega)
  have h1 : F (s, s.l) (s, tot s.l) 1000 s t T (tot s.l) 0 = some (s, t, T, tot s.l + tot T, e1) := h1
  simp only []
  rw [h1, Option.bind_some]
  simp only []
  have e2 : ((tot s.l + tot T) != (IntKind.i64.wrap N)) = false := by rw [hN, hs]; simp
  rw [e2, cond_false]
  obtain ⟨e3, h3⟩ := chk_go W.inv hn (G := G (s, s.l) (s, tot s.l) (s, t, T, tot s.l + tot T, e1)) (hG _ _ _) (a := s) (b := t) (c := T) s.l.length 1000 1 (by omega) (by omega) (by omega)
  have h3 : G (s, s.l) (s, tot s.l) (s, t, T, tot s.l + tot T, e1) 1000 s t T 1 = some (Sum.inl (s, t, T, e3)) := h3
  rw [h3, Option.bind_some]
  exact ⟨e3, rfl⟩
/-- All is given back. -/
theorem fin_go {n : Int} (hn : n ≤ 512) {t : Sto} (ht : Inv n t.l) (hc : ∀ u, Cov t.l u ↔ 0 ≤ u ∧ u < n) {H : Nat → Sto → Sto → List Blk → Int → Option Bool} {C : Sto → Sto → List Blk → Int → Sto × List Blk → Sto × List Blk → Nat → Int → Option Bool}
    (hH : ∀ n a b c v, H (n + 1) a b c v = (bif decide (v < (c.length : Int)) then (bif decide (0 ≤ v) && decide (v < (c.length : Int)) then (bif decide (0 ≤ v) && decide (v < (c.length : Int)) then (Give.f 1000 a ((c.getD ((v).toNat) zR).f) ((c.getD ((v).toNat) zR).o)).bind fun (r206 : Sto × (Option Int)) => (bif !(r206.2 == none) then some false else H n r206.1 b c (IntKind.i64.wrap (v + 1))) else none) else none) else (Free.f 1000 a).bind fun (r207 : Sto × (List Blk)) => (Free.f 1000 b).bind fun (r208 : Sto × (List Blk)) => (bif (r207.2.length : Int) != (r208.2.length : Int) then some false else C a b c v r207 r208 1000 0)))
    (hC : ∀ a b c v x y n w, C a b c v x y (n + 1) w = (bif decide (w < (x.2.length : Int)) then (bif decide (0 ≤ w) && decide (w < (x.2.length : Int)) then (bif decide (0 ≤ w) && decide (w < (y.2.length : Int)) then (bif !(((x.2.getD ((w).toNat) zR).f) == ((y.2.getD ((w).toNat) zR).f) && (((x.2.getD ((w).toNat) zR).o) == ((y.2.getD ((w).toNat) zR).o))) then some false else C a b c v x y n (IntKind.i64.wrap (w + 1))) else none) else none) else some true))
    {c : List Blk} (hl : c.length ≤ 900) : ∀ (j m i : Nat) (s : Sto), c.length - i ≤ j → j < m → i ≤ c.length → Wh n s (c.drop i) → H m s t c (i : Int) = some true := by
  have fin : ∀ (m : Nat) (s : Sto) (v : Int), ¬ v < (c.length : Int) → Wh n s [] → H (m + 1) s t c v = some true := by
    intro m s v hv W
    have e : s.l = t.l := uniq W.inv ht fun u => by
      rw [hc u]
      constructor
      · intro h; exact h.lt W.inv
      · intro h
        rcases W.all u h.1 h.2 with h | ⟨x, hx, _⟩
        · exact h
        · cases hx
    rw [hH, decide_eq_false hv, cond_false, free_eq W.inv hn, Option.bind_some, free_eq ht hn, Option.bind_some, e]
    have hne : ((t.l.length : Int) != (t.l.length : Int)) = false := by simp
    simp only [hne, cond_false]
    have := ht.len hn
    exact cmp_loop (L := t.l) (fun n w => hC _ _ _ _ _ _ _ _) (by omega) t.l.length 1000 0 (by omega) (by simp) (by omega)
  intro j
  induction j with
  | zero =>
    intro m i s h1 h2 h3 W
    obtain ⟨m, rfl⟩ : ∃ q, m = q + 1 := ⟨m - 1, by omega⟩
    rw [List.drop_eq_nil_of_le (by omega)] at W
    exact fin m s i (by omega) W
  | succ j ih =>
    intro m i s h1 h2 h3 W
    obtain ⟨m, rfl⟩ : ∃ q, m = q + 1 := ⟨m - 1, by omega⟩
    by_cases hi : i < c.length
    · rw [hH, decide_eq_true (show (i : Int) < (c.length : Int) by omega), decide_eq_true (show 0 ≤ (i : Int) by omega)]
      simp only [Bool.and_self, cond_true, Int.toNat_natCast]
      rw [List.drop_eq_getElem_cons hi] at W
      obtain ⟨s', e, W'⟩ := Wh.give (A := []) W hn
      rw [getD_at hi, e, Option.bind_some]
      have e0 : (!((none : Option Int) == none)) = false := rfl
      simp only [e0, cond_false]
      rw [wrap_small (by omega) (by omega), show ((i : Int) + 1) = ((i + 1 : Nat) : Int) by omega]
      exact ih m (i + 1) s' (by omega) (by omega) (by omega) W'
    · rw [List.drop_eq_nil_of_le (by omega)] at W
      exact fin m s i (by omega) W
theorem j1_eq {n a0 p : Int} {a1 : List D3} {r3 r4 : Sto × Option Int} {t s : Sto} {T : List Blk} {v : Int} (hn : n ≤ 512)
    (ha : ∀ x ∈ a1, (-9223372036854775808 ≤ x.w ∧ x.w ≤ 9223372036854775807) ∧ (-9223372036854775808 ≤ x.f ∧ x.f ≤ 9223372036854775807) ∧ (-9223372036854775808 ≤ x.o ∧ x.o ≤ 9223372036854775807))
    (v0 : 0 ≤ v) (vl : v < (a1.length : Int)) (vT : (T.length : Int) ≤ v) (v80 : v ≤ 80) (W : Wh n s T) :
    ∃ s' T', BuddyWhole.j1 1000 a0 a1 true p r3 r4 s t T v = some (Sum.inl (s', T')) ∧ Wh n s' T' ∧ (T'.length : Int) ≤ v + 1 := by
  have e0 : (!((none : Option Int) == none)) = false := rfl
  have e1 : ((none : Option Int) == none) = true := rfl
  have e2 : ∀ x : Int, ((some x : Option Int) == none) = false := fun x => rfl
  have hx : (a1.getD v.toNat zD) ∈ a1 := by
    rw [List.getD_eq_getElem?_getD, List.getElem?_eq_getElem (by omega)]
    exact List.getElem_mem _
  obtain ⟨⟨w0, w1⟩, ⟨f0, f1⟩, o0, o1⟩ := ha _ hx
  obtain ⟨q, hq, q0, q1⟩ := pick_range (a1.getD v.toNat zD).w 3 w0 w1 (by omega) (by omega)
  obtain ⟨o, ho, oo0, oo1⟩ := pick_range (a1.getD v.toNat zD).o 6 o0 o1 (by omega) (by omega)
  unfold BuddyWhole.j1
  rw [hq, Option.bind_some]
  have tk : ∃ s' T', ((Take.f 1000 s o).bind fun (r25 : Sto × Int × (Option Int)) => (bif r25.2.2 == none then (bif decide (T.length + [(⟨r25.2.1, o⟩ : Blk)].length ≤ 1000000) then some (Sum.inl (r25.1, (T ++ [(⟨r25.2.1, o⟩ : Blk)]))) else none) else some (Sum.inl (r25.1, T)) : Option (Sum (Sto × (List Blk)) (Bool)))) = some (Sum.inl (s', T')) ∧ Wh n s' T' ∧ (T'.length : Int) ≤ v + 1 := by
    rcases W.take hn oo0 (by omega) with e | ⟨s', f, e, W'⟩
    · rw [e, Option.bind_some]
      simp only [e2, cond_false]
      exact ⟨s, T, rfl, W, by omega⟩
    · rw [e, Option.bind_some]
      simp only [e1, cond_true]
      rw [decide_eq_true (show T.length + ([(⟨f, o⟩ : Blk)] : List Blk).length ≤ 1000000 by simp; omega), cond_true]
      exact ⟨s', _, rfl, W', by simp; omega⟩
  by_cases hq0 : q = 0
  · subst hq0
    rw [show ((0 : Int) == 0) = true from rfl, cond_true]
    by_cases hT : (T.length : Int) > 0
    · rw [decide_eq_true hT, cond_true]
      obtain ⟨k, hk, k0, k1⟩ := pick_range (a1.getD v.toNat zD).f (T.length : Int) f0 f1 hT (by omega)
      have kn : k.toNat < T.length := by omega
      rw [hk, Option.bind_some, decide_eq_true k0, decide_eq_true k1]
      simp only [Bool.and_self, cond_true]
      have W2 := W
      rw [split_i kn] at W2
      obtain ⟨s', e, W'⟩ := W2.give hn
      rw [e, Option.bind_some]
      simp only [e0, cond_false, Bool.true_and]
      rw [cut_out k0 k1 (by omega), wrap_small (x := k + 1) (by omega) (by omega)]
      have b1 : decide (k.toNat ≤ T.length) = true := decide_eq_true (by omega)
      have b2 : decide (([] : List Blk).length + ((T.drop (0 + 0)).take ((k.toNat - 0))).length ≤ 1000000) = true := decide_eq_true (by simp; omega)
      have b3 : (decide (0 ≤ k + 1) && decide ((k + 1).toNat ≤ T.length)) = true := by simp; omega
      have b4 : decide ((([] : List Blk) ++ ((T.drop (0 + 0)).take ((k.toNat - 0)))).length + ((T.drop (0 + (k + 1).toNat)).take (((T.map eR).length - (k + 1).toNat))).length ≤ 1000000) = true := decide_eq_true (by simp; omega)
      rw [b1, b2, b3, b4]
      simp only [cond_true]
      exact ⟨s', _, rfl, W', by simp; omega⟩
    · rw [decide_eq_false hT, cond_false, ho, Option.bind_some]
      exact tk
  · rw [beq_eq_false_iff_ne.mpr hq0, cond_false, ho, Option.bind_some]
    exact tk
theorem whole_go {n a0 p : Int} {a1 : List D3} {r3 r4 : Sto × Option Int} (hn : n ≤ 512) (hp : IntKind.i64.wrap (1 + p) = n) {t : Sto} (ht : Inv n t.l) (hc : ∀ u, Cov t.l u ↔ 0 ≤ u ∧ u < n)
    (ha : ∀ x ∈ a1, (-9223372036854775808 ≤ x.w ∧ x.w ≤ 9223372036854775807) ∧ (-9223372036854775808 ≤ x.f ∧ x.f ≤ 9223372036854775807) ∧ (-9223372036854775808 ≤ x.o ∧ x.o ≤ 9223372036854775807)) :
    ∀ (d m : Nat) (s : Sto) (T : List Blk) (v : Int), 0 ≤ v → (80 - v).toNat ≤ d → d < m → (T.length : Int) ≤ v → v ≤ 80 → Wh n s T → BuddyWhole.l1 1000 a0 a1 true p r3 r4 m s t T v = some true := by
  have fin4 : ∀ (m : Nat) (s : Sto) (T : List Blk) (v : Int), (T.length : Int) ≤ v → v ≤ 80 → Wh n s T → BuddyWhole.l4 1000 a0 a1 true p r3 r4 s t T v 1000 s t T 0 = some true := fun m s T v h1 h2 W =>
    fin_go hn ht hc (H := BuddyWhole.l4 1000 a0 a1 true p r3 r4 s t T v) (fun _ _ _ _ _ => rfl) (fun _ _ _ _ _ _ _ _ => rfl) (by omega) T.length 1000 0 s (by omega) (by omega) (by omega) W
  have fin6 : ∀ (m : Nat) (s : Sto) (T : List Blk) (v : Int), (T.length : Int) ≤ v → v ≤ 80 → Wh n s T → BuddyWhole.l6 1000 a0 a1 true p r3 r4 s t T v 1000 s t T 0 = some true := fun m s T v h1 h2 W =>
    fin_go hn ht hc (H := BuddyWhole.l6 1000 a0 a1 true p r3 r4 s t T v) (fun _ _ _ _ _ => rfl) (fun _ _ _ _ _ _ _ _ => rfl) (by omega) T.length 1000 0 s (by omega) (by omega) (by omega) W
  intro d
  induction d with
  | zero =>
    intro m s T v h0 h1 h2 h3 h4 W
    obtain ⟨m, rfl⟩ : ∃ q, m = q + 1 := ⟨m - 1, by omega⟩
    unfold BuddyWhole.l1
    rw [decide_eq_false (show ¬ v < 80 by omega), cond_false]
    cases decide (v < (a1.length : Int)) with
    | true => exact fin4 m s T v h3 h4 W
    | false => exact fin6 m s T v h3 h4 W
  | succ d ih =>
    intro m s T v h0 h1 h2 h3 h4 W
    obtain ⟨m, rfl⟩ : ∃ q, m = q + 1 := ⟨m - 1, by omega⟩
    by_cases hl : v < (a1.length : Int)
    · by_cases h80 : v < 80
      · obtain ⟨s', T', ej, W', hT'⟩ := j1_eq (a0 := a0) (p := p) (r3 := r3) (r4 := r4) (t := t) hn ha h0 hl h3 h4 W
        unfold BuddyWhole.l1
        rw [decide_eq_true hl, decide_eq_true h80, decide_eq_true h0]
        simp only [Bool.and_self, cond_true]
        rw [ej, Option.bind_some]
        simp only [Sum.elim_inl]
        obtain ⟨e', he⟩ := tail_eq (t := t) (N := 1 + p) W' hn hp (by omega) (F := fun r23 r24 => BuddyWhole.l2 1000 a0 a1 true p r3 r4 s t T v (s', T') r23 r24) (G := fun r23 r24 y30 => BuddyWhole.l3 1000 a0 a1 true p r3 r4 s t T v (s', T') r23 r24 y30) (K := fun y => BuddyWhole.l1 1000 a0 a1 true p r3 r4 m y.1 y.2.1 y.2.2.1 (IntKind.i64.wrap (v + 1))) (fun _ _ _ _ _ _ _ _ => rfl) (fun _ _ _ _ _ _ _ _ => rfl)
        refine he.trans ?_
        show BuddyWhole.l1 1000 a0 a1 true p r3 r4 m s' t T' (IntKind.i64.wrap (v + 1)) = some true
        rw [wrap_small (by omega) (by omega)]
        exact ih m s' T' (v + 1) (by omega) (by omega) (by omega) hT' (by omega) W'
      · unfold BuddyWhole.l1
        rw [decide_eq_true hl, decide_eq_false h80]
        exact fin4 m s T v h3 h4 W
    · unfold BuddyWhole.l1
      rw [decide_eq_false hl, cond_false]
      exact fin6 m s T v h3 h4 W
theorem BuddyWhole.plain (a0 : Int) (a1 : List D3) (s0 : -9223372036854775808 ≤ a0) (s1 : a0 ≤ 9223372036854775807) (ha : ∀ x ∈ a1, (-9223372036854775808 ≤ x.w ∧ x.w ≤ 9223372036854775807) ∧ (-9223372036854775808 ≤ x.f ∧ x.f ≤ 9223372036854775807) ∧ (-9223372036854775808 ≤ x.o ∧ x.o ≤ 9223372036854775807)) : BuddyWhole.f 1000 a0 a1 = some true := by
  obtain ⟨p, hp, p0, p1⟩ := pick_range a0 200 s0 s1 (by omega) (by omega)
  have hn : IntKind.i64.wrap (1 + p) = 1 + p := wrap_small (by omega) (by omega)
  have hup : up.f 1000 = some true := by kernel_rfl
  obtain ⟨l, h1, hi, hc, ht⟩ := new_eq (n := 1 + p) (k := 1000) (by omega) (by omega) (by omega)
  unfold BuddyWhole.f
  have e0 : (!((none : Option Int) == none)) = false := rfl
  rw [hup, Option.bind_some, hp, Option.bind_some, hn, h1, Option.bind_some, Option.bind_some]
  simp only [e0, cond_false]
  exact whole_go (n := 1 + p) (by omega) hn (t := ⟨1 + p, l⟩) hi hc ha 80 1000 ⟨1 + p, l⟩ [] 0 (by omega) (by omega) (by omega) (by simp) (by omega) ⟨hi, rfl, by simp, .nil, by simp, fun u u0 u1 => .inl ((hc u).mpr ⟨u0, u1⟩), by rw [show tot [] = 0 from rfl]; simp only; omega⟩
end Go.Proofs.YtehbhpkmlmeblaaDoor.V
