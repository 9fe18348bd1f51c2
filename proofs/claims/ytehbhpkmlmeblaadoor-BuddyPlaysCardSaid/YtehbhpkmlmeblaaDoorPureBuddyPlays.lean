/- BuddyPlays, as a plain law: a store takes, gives and tells what the document says, through any script. -/
import Derived.Test.YtehbhpkmlmeblaaDoorBuddyRef
namespace Go.Proofs.YtehbhpkmlmeblaaDoor.V
open Go Go.RowKit Go.Proofs Go.Proofs.YtehbhpkmlmeblaaDoor.Q Go.Proofs.YtehbhpkmlmeblaaDoorW.PrintWords
set_option linter.unusedVariables false
set_option linter.unusedSimpArgs false
set_option maxRecDepth 100000
theorem getD_set {m : List Bool} {i j : Nat} {b : Bool} (h : i < m.length) : (m.set i b).getD j false = if i = j then b else m.getD j false := by
  rw [List.getD_eq_getElem?_getD, List.getD_eq_getElem?_getD, List.getElem?_set]
  by_cases hij : i = j
  · subst hij; simp [h]
  · simp [hij]
theorem rset_go {m : List Bool} {f o : Int} {b : Bool} (hm : m.length ≤ 512) (h : Ok m.length ⟨f, o⟩) : ∀ (d n : Nat) (w : List Bool) (v : Int), 0 ≤ v → v ≤ pw o → (pw o - v).toNat ≤ d → d < n → w.length = m.length →
    (∀ j : Nat, w.getD j false = if f ≤ (j : Int) ∧ (j : Int) < f + v then b else m.getD j false) →
    ∃ w', RSet.l1 1000 m f o b n w v = some w' ∧ w'.length = m.length ∧ ∀ j : Nat, w'.getD j false = if f ≤ (j : Int) ∧ (j : Int) < f + pw o then b else m.getD j false := by
  have h0 := h.f0
  have h1 := h.en
  have hp := pw_le h.o0 h.o5
  have hP := power_eq h.o0 h.o5
  simp only at h0 h1 hp hP
  intro d
  induction d with
  | zero =>
    intro n w v v0 v1 v2 v3 hw hg
    obtain ⟨n, rfl⟩ : ∃ q, n = q + 1 := ⟨n - 1, by omega⟩
    unfold RSet.l1
    rw [hP, Option.bind_some, decide_eq_false (show ¬ v < pw o by omega), cond_false]
    obtain rfl : v = pw o := by omega
    exact ⟨w, rfl, hw, hg⟩
  | succ d ih =>
    intro n w v v0 v1 v2 v3 hw hg
    by_cases hv : v < pw o
    · obtain ⟨n, rfl⟩ : ∃ q, n = q + 1 := ⟨n - 1, by omega⟩
      unfold RSet.l1
      rw [hP, Option.bind_some, decide_eq_true hv, cond_true, wrap_small (x := f + v) (by omega) (by omega), decide_eq_true (show 0 ≤ f + v by omega), decide_eq_true (show f + v < (w.length : Int) by omega)]
      simp only [Bool.and_self, cond_true]
      rw [wrap_small (by omega) (by omega)]
      refine ih n _ (v + 1) (by omega) (by omega) (by omega) (by omega) (by rw [List.length_set]; exact hw) (fun j => ?_)
      rw [getD_set (by omega), hg j]
      by_cases hj : (f + v).toNat = j
      · rw [if_pos hj, if_pos (by omega)]
      · rw [if_neg hj]
        by_cases hc : f ≤ (j : Int) ∧ (j : Int) < f + v
        · rw [if_pos hc, if_pos (by omega)]
        · rw [if_neg hc, if_neg (by omega)]
    · exact ih n w v v0 v1 (by omega) (by omega) hw hg
theorem rset_eq {m : List Bool} {f o : Int} {b : Bool} (hm : m.length ≤ 512) (h : Ok m.length ⟨f, o⟩) : ∃ m', RSet.f 1000 m f o b = some m' ∧ m'.length = m.length ∧ ∀ u, fr m' u ↔ (In u ⟨f, o⟩ ∧ b = true) ∨ (¬ In u ⟨f, o⟩ ∧ fr m u) := by
  have h0 := h.f0
  have hp := pw_le h.o0 h.o5
  simp only at h0 hp
  unfold RSet.f
  obtain ⟨w, e, hl, hg⟩ := rset_go (b := b) hm h 32 1000 m 0 (by omega) (by omega) (by omega) (by omega) rfl (fun j => by rw [if_neg (by omega)])
  refine ⟨w, e, hl, fun u => ?_⟩
  unfold fr In
  simp only
  rw [hg]
  by_cases hu : 0 ≤ u
  · by_cases hc : f ≤ u ∧ u < f + pw o
    · rw [if_pos (by omega)]
      exact ⟨fun h => .inl ⟨hc, h.2⟩, fun h => h.elim (fun h => ⟨hu, h.2⟩) (fun h => absurd hc h.1)⟩
    · rw [if_neg (by omega)]
      exact ⟨fun h => .inr ⟨hc, h⟩, fun h => h.elim (fun h => absurd h.1 hc) (fun h => h.2)⟩
  · exact ⟨fun h => absurd h.1 hu, fun h => h.elim (fun h => absurd (by omega : 0 ≤ u) hu) (fun h => absurd h.2.1 hu)⟩
/-! ### The document's Take -/
/-- A store and the document's. -/
structure Gd (n : Int) (s : Sto) (m : List Bool) : Prop where
  inv : Inv n s.l
  sn : s.n = n
  len : (m.length : Int) = n
  sees : Sees m s.l
theorem take_arg {s : Sto} {o : Int} (h : ¬ (0 ≤ o ∧ o ≤ 5)) : Take.f 1000 s o = some (s, 0, some 1) := by
  unfold Take.f
  rw [order_eq, Option.bind_some]
  have : (decide (0 ≤ o) && decide (o ≤ 5)) = false := by
    by_cases h1 : 0 ≤ o
    · rw [decide_eq_false (fun h2 => h ⟨h1, h2⟩ : ¬ o ≤ 5), Bool.and_false]
    · rw [decide_eq_false h1, Bool.false_and]
  rw [this]
  rfl
theorem Gd.take {n : Int} {s : Sto} {m : List Bool} {o : Int} (g : Gd n s m) (hn : n ≤ 512) (o0 : 0 ≤ o) (o5 : o ≤ 5) :
    (Take.f 1000 s o = some (s, 0, some 5) ∧ RTake.f 1000 m o = some (m, -1)) ∨ ∃ s' m' f, Take.f 1000 s o = some (s', f, none) ∧ RTake.f 1000 m o = some (m', f) ∧ 0 ≤ f ∧ Gd n s' m' := by
  have hl := g.len
  have hm : m.length ≤ 512 := by omega
  have hi : Inv m.length s.l := by rw [hl]; exact g.inv
  have hlen := g.inv.len hn
  have hset : ∀ x ∈ s.l, o ≤ x.o → Ok m.length ⟨x.f, o⟩ := fun x hx hox => by
    have ok := hi.ok x hx
    have := pw_mono o0 hox ok.o5 ok.al
    exact ⟨o0, o5, ok.f0, this.2, by have := ok.en; simp only; omega⟩
  have hR : RTake.f 1000 m o = RTake.l1 1000 m o s.l 1000 m o := by
    unfold RTake.f
    rw [rfree_eq hm hi g.sees, Option.bind_some]
  rcases take_eq g.inv hn (k := 1000) (by omega) o0 o5 with ⟨hno, e⟩ | ⟨A, x, B, l, eL, hb, e, ok, hin, hi', hcov, _⟩
  · refine .inl ⟨e, ?_⟩
    rw [hR]
    have : ∀ (d n : Nat) (q : Int), (6 - q).toNat ≤ d → d < n → o ≤ q → q ≤ 6 → RTake.l1 1000 m o s.l n m q = some (m, -1) := by
      intro d
      induction d with
      | zero =>
        intro n q h1 h2 h3 h4
        obtain ⟨n, rfl⟩ : ∃ r, n = r + 1 := ⟨n - 1, by omega⟩
        obtain rfl : q = 6 := by omega
        rfl
      | succ d ih =>
        intro n q h1 h2 h3 h4
        obtain ⟨n, rfl⟩ : ∃ r, n = r + 1 := ⟨n - 1, by omega⟩
        by_cases hq : q ≤ 5
        · have row : ∀ (d n i : Nat), s.l.length - i ≤ d → d < n → ∃ e, RTake.l2 1000 m o s.l m q n m (i : Int) = some (Sum.inl (m, e)) := by
            intro d
            induction d with
            | zero =>
              intro n i h1 h2
              obtain ⟨n, rfl⟩ : ∃ r, n = r + 1 := ⟨n - 1, by omega⟩
              unfold RTake.l2
              rw [decide_eq_false (show ¬ (i : Int) < (s.l.length : Int) by omega), cond_false]
              exact ⟨_, rfl⟩
            | succ d ih =>
              intro n i h1 h2
              obtain ⟨n, rfl⟩ : ∃ r, n = r + 1 := ⟨n - 1, by omega⟩
              by_cases hi : i < s.l.length
              · obtain ⟨e, he⟩ := ih n (i + 1) (by omega) (by omega)
                have hne := hno s.l[i] (List.getElem_mem hi)
                unfold RTake.l2
                rw [decide_eq_true (show (i : Int) < (s.l.length : Int) by omega), decide_eq_true (show 0 ≤ (i : Int) by omega), wrap_small (by omega) (by omega), Int.toNat_natCast, getD_at hi, beq_eq_false_iff_ne.mpr (show ¬ s.l[i].o = q by omega)]
                simp only [Bool.and_self, cond_true, cond_false]
                exact ⟨e, by rw [show (i : Int) + 1 = ((i + 1 : Nat) : Int) by omega]; exact he⟩
              · exact ih (n + 1) i (by omega) (by omega)
          obtain ⟨e, he⟩ := row s.l.length 1000 0 (by omega) (by omega)
          have he : RTake.l2 1000 m o s.l m q 1000 m 0 = some (Sum.inl (m, e)) := he
          unfold RTake.l1
          rw [decide_eq_true hq, cond_true, he, Option.bind_some]
          simp only [Sum.elim_inl]
          rw [wrap_small (by omega) (by omega)]
          exact ih n (q + 1) (by omega) (by omega) (by omega) (by omega)
        · obtain rfl : q = 6 := by omega
          rfl
    exact this 6 1000 o (by omega) (by omega) (by omega) (by omega)
  · have hxL : x ∈ s.l := by rw [eL]; exact mem_mid.mpr (.inl rfl)
    obtain ⟨m', hm', hml, hfr⟩ := rset_eq (b := false) hm (hset x hxL hb.1)
    refine .inr ⟨⟨s.n, l⟩, m', x.f, e, ?_, ok.f0, hi', g.sn, by rw [hml]; exact hl, fun u => ?_⟩
    · rw [hR]
      have key : ∀ (d n : Nat) (q : Int), (x.o - q).toNat ≤ d → d < n → o ≤ q → q ≤ x.o → RTake.l1 1000 m o s.l n m q = some (m', x.f) := by
        have x5 := (hi.ok x hxL).o5
        intro d
        induction d with
        | zero =>
          intro n q h1 h2 h3 h4
          obtain ⟨n, rfl⟩ : ∃ r, n = r + 1 := ⟨n - 1, by omega⟩
          obtain rfl : q = x.o := by omega
          have row : ∀ (d n i : Nat), A.length - i ≤ d → d < n → i ≤ A.length → RTake.l2 1000 m o s.l m x.o n m (i : Int) = some (Sum.inr (m', x.f)) := by
            have hA : A.length < s.l.length := by rw [eL]; simp
            have eA : s.l.getD A.length zR = x := by rw [getD_at hA]; simp [eL]
            intro d
            induction d with
            | zero =>
              intro n i h1 h2 h3
              obtain ⟨n, rfl⟩ : ∃ r, n = r + 1 := ⟨n - 1, by omega⟩
              obtain rfl : i = A.length := by omega
              unfold RTake.l2
              rw [decide_eq_true (show (A.length : Int) < (s.l.length : Int) by omega), decide_eq_true (show 0 ≤ (A.length : Int) by omega), Int.toNat_natCast, eA, beq_self_eq_true, hm']
              rfl
            | succ d ih =>
              intro n i h1 h2 h3
              obtain ⟨n, rfl⟩ : ∃ r, n = r + 1 := ⟨n - 1, by omega⟩
              by_cases hi : i < A.length
              · have eI : s.l.getD i zR = A[i] := by rw [getD_at (by omega)]; simp only [eL]; rw [List.getElem_append_left hi]
                have hne : ¬ A[i].o = x.o := fun h => by have := hb.2.1 A[i] (List.getElem_mem hi) (by omega); omega
                have := ih n (i + 1) (by omega) (by omega) (by omega)
                unfold RTake.l2
                rw [decide_eq_true (show (i : Int) < (s.l.length : Int) by omega), decide_eq_true (show 0 ≤ (i : Int) by omega), wrap_small (by omega) (by omega), Int.toNat_natCast, eI, beq_eq_false_iff_ne.mpr hne]
                simp only [Bool.and_self, cond_true, cond_false]
                rw [show (i : Int) + 1 = ((i + 1 : Nat) : Int) by omega]
                exact this
              · exact ih (n + 1) i (by omega) (by omega) h3
          have hA : A.length < s.l.length := by rw [eL]; simp
          have he : RTake.l2 1000 m o s.l m x.o 1000 m 0 = some (Sum.inr (m', x.f)) := row A.length 1000 0 (by omega) (by omega) (by omega)
          unfold RTake.l1
          rw [decide_eq_true x5, cond_true, he, Option.bind_some]
          rfl
        | succ d ih =>
          intro n q h1 h2 h3 h4
          rcases Int.lt_or_eq_of_le h4 with hq | hq
          · obtain ⟨n, rfl⟩ : ∃ r, n = r + 1 := ⟨n - 1, by omega⟩
            have row : ∀ (d n i : Nat), s.l.length - i ≤ d → d < n → ∃ e, RTake.l2 1000 m o s.l m q n m (i : Int) = some (Sum.inl (m, e)) := by
              intro d
              induction d with
              | zero =>
                intro n i h1 h2
                obtain ⟨n, rfl⟩ : ∃ r, n = r + 1 := ⟨n - 1, by omega⟩
                unfold RTake.l2
                rw [decide_eq_false (show ¬ (i : Int) < (s.l.length : Int) by omega), cond_false]
                exact ⟨_, rfl⟩
              | succ d ih =>
                intro n i h1 h2
                obtain ⟨n, rfl⟩ : ∃ r, n = r + 1 := ⟨n - 1, by omega⟩
                by_cases hi : i < s.l.length
                · obtain ⟨e, he⟩ := ih n (i + 1) (by omega) (by omega)
                  have hne : ¬ s.l[i].o = q := fun h => by
                    have hmem : s.l[i] ∈ s.l := List.getElem_mem hi
                    have hmem2 : s.l[i] ∈ A ++ x :: B := by rw [← eL]; exact hmem
                    rcases mem_mid.mp hmem2 with h' | h'
                    · rw [h'] at h; omega
                    · rcases List.mem_append.mp h' with h' | h'
                      · have := hb.2.1 _ h' (by omega); omega
                      · have := hb.2.2 _ h' (by omega); omega
                  unfold RTake.l2
                  rw [decide_eq_true (show (i : Int) < (s.l.length : Int) by omega), decide_eq_true (show 0 ≤ (i : Int) by omega), wrap_small (by omega) (by omega), Int.toNat_natCast, getD_at hi, beq_eq_false_iff_ne.mpr hne]
                  simp only [Bool.and_self, cond_true, cond_false]
                  exact ⟨e, by rw [show (i : Int) + 1 = ((i + 1 : Nat) : Int) by omega]; exact he⟩
                · exact ih (n + 1) i (by omega) (by omega)
            obtain ⟨e, he⟩ := row s.l.length 1000 0 (by omega) (by omega)
            have he : RTake.l2 1000 m o s.l m q 1000 m 0 = some (Sum.inl (m, e)) := he
            unfold RTake.l1
            rw [decide_eq_true (show q ≤ 5 by omega), cond_true, he, Option.bind_some]
            simp only [Sum.elim_inl]
            rw [wrap_small (by omega) (by omega)]
            exact ih n (q + 1) (by omega) (by omega) (by omega) (by omega)
          · exact ih n q (by omega) (by omega) h3 h4
      exact key 5 1000 o (by have := (hi.ok x hxL).o5; omega) (by omega) (by omega) hb.1
    · rw [hcov u, hfr u, g.sees u]
      exact ⟨fun h => .inr ⟨h.2, h.1⟩, fun h => h.elim (fun h => by cases h.2) (fun h => ⟨h.2, h.1⟩)⟩
/-! ### One deed -/
theorem Gd.at_ {n : Int} {s : Sto} {m : List Bool} {f o : Int} {r : Bool} (g : Gd n s m) (hn : n ≤ 512) (hr : (Ok m.length ⟨f, o⟩ ∧ r = true) ∨ (¬ Ok m.length ⟨f, o⟩ ∧ r = false)) :
    ∃ s' m', ((TakeAt.f 1000 s f o).bind fun (r32 : Sto × (Option Int)) => (bif !r then (bif !(r32.2 == (some 1)) then some (Sum.inr false) else some (Sum.inl (r32.1, m))) else (RAll.f 1000 m f o true).bind fun (r33 : Bool) => (bif r33 then (RSet.f 1000 m f o false).bind fun (r34 : (List Bool)) => (bif r33 then (bif !(r32.2 == none) then some (Sum.inr false) else (bif !r33 then (bif !(r32.2 == (some 7)) then some (Sum.inr false) else some (Sum.inl (r32.1, r34))) else some (Sum.inl (r32.1, r34)))) else (bif !r33 then (bif !(r32.2 == (some 7)) then some (Sum.inr false) else some (Sum.inl (r32.1, r34))) else some (Sum.inl (r32.1, r34)))) else (bif r33 then (bif !(r32.2 == none) then some (Sum.inr false) else (bif !r33 then (bif !(r32.2 == (some 7)) then some (Sum.inr false) else some (Sum.inl (r32.1, m))) else some (Sum.inl (r32.1, m)))) else (bif !r33 then (bif !(r32.2 == (some 7)) then some (Sum.inr false) else some (Sum.inl (r32.1, m))) else some (Sum.inl (r32.1, m)))))) : Option (Sum (Sto × (List Bool)) (Bool))) = some (Sum.inl (s', m')) ∧ Gd n s' m' := by
  have hl := g.len
  have hm : m.length ≤ 512 := by omega
  have e1 : ((some 1 : Option Int) == some 1) = true := rfl
  have e7 : ((some 7 : Option Int) == some 7) = true := rfl
  have e0 : ((none : Option Int) == none) = true := rfl
  rcases takeAt_eq g.inv g.sn hn (k := 1000) (by omega) f o with ⟨nok, e⟩ | ⟨ok, ⟨u, hu, hc⟩, e⟩ | ⟨ok, hc, l, e, hi, hcov, _⟩
  · rw [e, Option.bind_some]
    have : r = false := hr.elim (fun h => absurd (by rw [← hl]; exact h.1) nok) (fun h => h.2)
    subst this
    simp only [e1, Bool.not_true, Bool.not_false, cond_true, cond_false]
    exact ⟨s, m, rfl, g⟩
  · have ok' : Ok m.length ⟨f, o⟩ := by rw [hl]; exact ok
    have : r = true := hr.elim (fun h => h.2) (fun h => absurd ok' h.1)
    subst this
    have hf := ok.f0
    simp only at hf
    rw [e, Option.bind_some]
    rcases rall_eq (b := true) hm ok' with ⟨al, _⟩ | ⟨_, e2⟩
    · exact absurd ((g.sees u).mpr ⟨by have := hu.1; simp only at this; omega, al u hu⟩) hc
    · rw [e2]
      simp only [Option.bind_some, e7, Bool.not_true, Bool.not_false, cond_true, cond_false]
      exact ⟨s, m, rfl, g⟩
  · have ok' : Ok m.length ⟨f, o⟩ := by rw [hl]; exact ok
    have : r = true := hr.elim (fun h => h.2) (fun h => absurd ok' h.1)
    subst this
    rw [e, Option.bind_some]
    rcases rall_eq (b := true) hm ok' with ⟨_, e2⟩ | ⟨⟨u, hu, hno⟩, _⟩
    · obtain ⟨m', hm', hml, hfr⟩ := rset_eq (b := false) hm ok'
      rw [e2]
      simp only [Option.bind_some, hm', e0, Bool.not_true, Bool.not_false, cond_true, cond_false]
      refine ⟨_, m', rfl, hi, g.sn, by rw [hml]; exact hl, fun u => ?_⟩
      rw [hcov u, hfr u, g.sees u]
      exact ⟨fun h => .inr ⟨h.2, h.1⟩, fun h => h.elim (fun h => by cases h.2) (fun h => ⟨h.2, h.1⟩)⟩
    · exact absurd ((g.sees u).mp (hc u hu)).2 hno
theorem Gd.give {n : Int} {s : Sto} {m : List Bool} {f o : Int} {r : Bool} (g : Gd n s m) (hn : n ≤ 512) (hr : (Ok m.length ⟨f, o⟩ ∧ r = true) ∨ (¬ Ok m.length ⟨f, o⟩ ∧ r = false)) :
    ∃ s' m', ((Give.f 1000 s f o).bind fun (r32 : Sto × (Option Int)) => (bif !r then (bif !(r32.2 == (some 1)) then some (Sum.inr false) else some (Sum.inl (r32.1, m))) else (RAll.f 1000 m f o false).bind fun (r33 : Bool) => (bif r33 then (RSet.f 1000 m f o true).bind fun (r34 : (List Bool)) => (bif r33 then (bif !(r32.2 == none) then some (Sum.inr false) else (bif !r33 then (bif !(r32.2 == (some 7)) then some (Sum.inr false) else some (Sum.inl (r32.1, r34))) else some (Sum.inl (r32.1, r34)))) else (bif !r33 then (bif !(r32.2 == (some 7)) then some (Sum.inr false) else some (Sum.inl (r32.1, r34))) else some (Sum.inl (r32.1, r34)))) else (bif r33 then (bif !(r32.2 == none) then some (Sum.inr false) else (bif !r33 then (bif !(r32.2 == (some 7)) then some (Sum.inr false) else some (Sum.inl (r32.1, m))) else some (Sum.inl (r32.1, m)))) else (bif !r33 then (bif !(r32.2 == (some 7)) then some (Sum.inr false) else some (Sum.inl (r32.1, m))) else some (Sum.inl (r32.1, m)))))) : Option (Sum (Sto × (List Bool)) (Bool))) = some (Sum.inl (s', m')) ∧ Gd n s' m' := by
  have hl := g.len
  have hm : m.length ≤ 512 := by omega
  have e1 : ((some 1 : Option Int) == some 1) = true := rfl
  have e7 : ((some 7 : Option Int) == some 7) = true := rfl
  have e0 : ((none : Option Int) == none) = true := rfl
  rcases give_eq g.inv g.sn hn (k := 1000) (by omega) f o with ⟨nok, e⟩ | ⟨ok, ⟨u, hu, hc⟩, e⟩ | ⟨ok, hc, l, e, hi, hcov, _⟩
  · rw [e, Option.bind_some]
    have : r = false := hr.elim (fun h => absurd (by rw [← hl]; exact h.1) nok) (fun h => h.2)
    subst this
    simp only [e1, Bool.not_true, Bool.not_false, cond_true, cond_false]
    exact ⟨s, m, rfl, g⟩
  · have ok' : Ok m.length ⟨f, o⟩ := by rw [hl]; exact ok
    have : r = true := hr.elim (fun h => h.2) (fun h => absurd ok' h.1)
    subst this
    rw [e, Option.bind_some]
    rcases rall_eq (b := false) hm ok' with ⟨al, _⟩ | ⟨_, e2⟩
    · have h1 := ((g.sees u).mp hc).2
      rw [al u hu] at h1
      cases h1
    · rw [e2]
      simp only [Option.bind_some, e7, Bool.not_true, Bool.not_false, cond_true, cond_false]
      exact ⟨s, m, rfl, g⟩
  · have ok' : Ok m.length ⟨f, o⟩ := by rw [hl]; exact ok
    have : r = true := hr.elim (fun h => h.2) (fun h => absurd ok' h.1)
    subst this
    have hf := ok.f0
    simp only at hf
    rw [e, Option.bind_some]
    rcases rall_eq (b := false) hm ok' with ⟨_, e2⟩ | ⟨⟨u, hu, hno⟩, _⟩
    · obtain ⟨m', hm', hml, hfr⟩ := rset_eq (b := true) hm ok'
      rw [e2]
      simp only [Option.bind_some, hm', e0, Bool.not_true, Bool.not_false, cond_true, cond_false]
      refine ⟨_, m', rfl, hi, g.sn, by rw [hml]; exact hl, fun u => ?_⟩
      rw [hcov u, hfr u, g.sees u]
      constructor
      · rintro (h | h)
        · by_cases hb : In u ⟨f, o⟩
          · exact .inl ⟨hb, rfl⟩
          · exact .inr ⟨hb, h⟩
        · exact .inl ⟨h, rfl⟩
      · rintro (h | h)
        · exact .inr h.1
        · exact .inl h.2
    · have hb : m.getD u.toNat false = true := by cases h : m.getD u.toNat false with | true => rfl | false => exact absurd h hno
      exact absurd ((g.sees u).mpr ⟨by have := hu.1; simp only at this; omega, hb⟩) (hc u hu)
theorem plays_j1 {n a0 p : Int} {a1 : List D3} {r1 : Bool} {r3 : Sto × Option Int} {r4 m : List Bool} {s : Sto} {v : Int} {r : Bool} (g : Gd n s m) (hn : n ≤ 512) (hw : ∃ q, paviorlaw07_pick.f ((a1.getD v.toNat zD).w) 3 = some q) (o0 : 0 ≤ (a1.getD v.toNat zD).o)
    (hr : (Ok m.length ⟨(a1.getD v.toNat zD).f, (a1.getD v.toNat zD).o⟩ ∧ r = true) ∨ (¬ Ok m.length ⟨(a1.getD v.toNat zD).f, (a1.getD v.toNat zD).o⟩ ∧ r = false)) :
    ∃ s' m', BuddyPlays.j1 1000 a0 a1 r1 p r3 r4 s m v r = some (Sum.inl (s', m')) ∧ Gd n s' m' := by
  obtain ⟨q, hq⟩ := hw
  unfold BuddyPlays.j1
  rw [hq, Option.bind_some]
  have e1 : ((some 1 : Option Int) == some 1) = true := rfl
  have e5 : ((some 5 : Option Int) == some 5) = true := rfl
  have e0 : ((none : Option Int) == none) = true := rfl
  have z0 : ((0 : Int) != 0) = false := rfl
  by_cases h0 : q = 0
  · subst h0
    rw [show ((0 : Int) == 0) = true from rfl, cond_true]
    by_cases h5 : (a1.getD v.toNat zD).o ≤ 5
    · rw [decide_eq_true h5]
      rcases g.take hn o0 h5 with ⟨e, e'⟩ | ⟨s', m', f, e, e', f0, g'⟩
      · rw [e, e']
        simp only [Option.bind_some, Bool.not_true, cond_false, cond_true, e5, z0, show decide ((-1 : Int) < 0) = true from rfl, show decide ((-1 : Int) ≥ 0) = false from rfl]
        exact ⟨s, m, rfl, g⟩
      · rw [e, e']
        have hne : (f != f) = false := by simp
        simp only [Option.bind_some, Bool.not_true, cond_false, cond_true, e0, hne, decide_eq_false (show ¬ f < 0 by omega), decide_eq_true (show f ≥ 0 from f0)]
        exact ⟨s', m', rfl, g'⟩
    · rw [take_arg (by omega), decide_eq_false h5]
      simp only [Option.bind_some, Bool.not_true, Bool.not_false, cond_false, cond_true, e1, z0]
      exact ⟨s, m, rfl, g⟩
  · rw [beq_eq_false_iff_ne.mpr h0, cond_false]
    by_cases h1 : q = 1
    · subst h1
      rw [show ((1 : Int) == 1) = true from rfl, cond_true]
      exact g.at_ hn hr
    · rw [beq_eq_false_iff_ne.mpr h1, cond_false]
      exact g.give hn hr
theorem plays_j2 {n a0 p : Int} {a1 : List D3} {r1 : Bool} {r3 : Sto × Option Int} {r4 m : List Bool} {s : Sto} {v : Int} {r : Bool} (g : Gd n s m) (hn : n ≤ 512) (hw : ∃ q, paviorlaw07_pick.f ((a1.getD v.toNat zD).w) 3 = some q) (o0 : ¬ 0 ≤ (a1.getD v.toNat zD).o)
    (hr : (Ok m.length ⟨(a1.getD v.toNat zD).f, (a1.getD v.toNat zD).o⟩ ∧ r = true) ∨ (¬ Ok m.length ⟨(a1.getD v.toNat zD).f, (a1.getD v.toNat zD).o⟩ ∧ r = false)) :
    ∃ s' m', BuddyPlays.j2 1000 a0 a1 r1 p r3 r4 s m v r = some (Sum.inl (s', m')) ∧ Gd n s' m' := by
  obtain ⟨q, hq⟩ := hw
  unfold BuddyPlays.j2
  rw [hq, Option.bind_some]
  have e1 : ((some 1 : Option Int) == some 1) = true := rfl
  have z0 : ((0 : Int) != 0) = false := rfl
  by_cases h0 : q = 0
  · subst h0
    rw [show ((0 : Int) == 0) = true from rfl, cond_true, take_arg (by omega)]
    simp only [Option.bind_some, Bool.not_true, Bool.not_false, cond_false, cond_true, e1, z0]
    exact ⟨s, m, rfl, g⟩
  · rw [beq_eq_false_iff_ne.mpr h0, cond_false]
    by_cases h1 : q = 1
    · subst h1
      rw [show ((1 : Int) == 1) = true from rfl, cond_true]
      exact g.at_ hn hr
    · rw [beq_eq_false_iff_ne.mpr h1, cond_false]
      exact g.give hn hr
theorem plays_go {n a0 p : Int} {a1 : List D3} {r3 : Sto × Option Int} {r4 : List Bool} (hn : n ≤ 512) (ha : ∀ x ∈ a1, -9223372036854775808 ≤ x.w ∧ x.w ≤ 9223372036854775807) :
    ∀ (d k : Nat) (s : Sto) (m : List Bool) (v : Int), 0 ≤ v → (80 - v).toNat ≤ d → d < k → Gd n s m → BuddyPlays.l1 1000 a0 a1 true p r3 r4 k s m v = some true := by
  intro d
  induction d with
  | zero =>
    intro k s m v h0 h1 h2 g
    obtain ⟨k, rfl⟩ : ∃ q, k = q + 1 := ⟨k - 1, by omega⟩
    unfold BuddyPlays.l1
    rw [decide_eq_false (show ¬ v < 80 by omega)]
    cases decide (v < (a1.length : Int)) <;> rfl
  | succ d ih =>
    intro k s m v h0 h1 h2 g
    obtain ⟨k, rfl⟩ : ∃ q, k = q + 1 := ⟨k - 1, by omega⟩
    by_cases hl : v < (a1.length : Int)
    · by_cases h80 : v < 80
      · have hx : (a1.getD v.toNat zD) ∈ a1 := by
          rw [List.getD_eq_getElem?_getD, List.getElem?_eq_getElem (by omega)]
          exact List.getElem_mem _
        obtain ⟨w0, w1⟩ := ha _ hx
        obtain ⟨q, hq, _, _⟩ := pick_range (a1.getD v.toNat zD).w 3 w0 w1 (by omega) (by omega)
        have hlen := g.len
        have hm : m.length ≤ 512 := by omega
        obtain ⟨r, hr, er⟩ : ∃ r, ((Ok m.length ⟨(a1.getD v.toNat zD).f, (a1.getD v.toNat zD).o⟩ ∧ r = true) ∨ (¬ Ok m.length ⟨(a1.getD v.toNat zD).f, (a1.getD v.toNat zD).o⟩ ∧ r = false)) ∧ RBlock.f 1000 m (a1.getD v.toNat zD).f (a1.getD v.toNat zD).o = some r := by
          rcases rblock_eq (m := m) (f := (a1.getD v.toNat zD).f) (o := (a1.getD v.toNat zD).o) hm with ⟨h, e⟩ | ⟨h, e⟩
          · exact ⟨true, .inl ⟨h, rfl⟩, e⟩
          · exact ⟨false, .inr ⟨h, rfl⟩, e⟩
        have nt : (!true) = false := rfl
        have next : ∀ s' m', Gd n s' m' → ((same.f 1000 s' m').bind fun (r70 : Sto × Bool) => (bif !r70.2 then some false else BuddyPlays.l1 1000 a0 a1 true p r3 r4 k r70.1 m' (IntKind.i64.wrap (v + 1)))) = some true := fun s' m' g' => by
          have hl' := g'.len
          rw [same_eq (by omega) (by rw [hl']; exact g'.inv) g'.sees, Option.bind_some]
          simp only [nt, cond_false]
          rw [wrap_small (by omega) (by omega)]
          exact ih k s' m' (v + 1) (by omega) (by omega) (by omega) g'
        unfold BuddyPlays.l1
        rw [decide_eq_true hl, decide_eq_true h80, decide_eq_true h0]
        simp only [Bool.and_self, cond_true]
        by_cases ho : (a1.getD v.toNat zD).o ≥ 0
        · obtain ⟨s', m', ej, g'⟩ := plays_j1 (a0 := a0) (p := p) (r1 := true) (r3 := r3) (r4 := r4) g hn ⟨q, hq⟩ ho hr
          rw [decide_eq_true ho, cond_true, er, Option.bind_some, ej, Option.bind_some]
          exact next s' m' g'
        · obtain ⟨s', m', ej, g'⟩ := plays_j2 (a0 := a0) (p := p) (r1 := true) (r3 := r3) (r4 := r4) g hn ⟨q, hq⟩ ho hr
          rw [decide_eq_false ho, cond_false, er, Option.bind_some, ej, Option.bind_some]
          exact next s' m' g'
      · unfold BuddyPlays.l1
        rw [decide_eq_true hl, decide_eq_false h80]
        rfl
    · unfold BuddyPlays.l1
      rw [decide_eq_false hl]
      rfl
theorem BuddyPlays.plain (a0 : Int) (a1 : List D3) (s0 : -9223372036854775808 ≤ a0) (s1 : a0 ≤ 9223372036854775807) (ha : ∀ x ∈ a1, -9223372036854775808 ≤ x.w ∧ x.w ≤ 9223372036854775807) : BuddyPlays.f 1000 a0 a1 = some true := by
  obtain ⟨p, hp, p0, p1⟩ := pick_range a0 100 s0 s1 (by omega) (by omega)
  have hn : IntKind.i64.wrap (1 + p) = 1 + p := wrap_small (by omega) (by omega)
  have hup : up.f 1000 = some true := by kernel_rfl
  obtain ⟨l, h1, hi, hc, ht⟩ := new_eq (n := 1 + p) (k := 1000) (by omega) (by omega) (by omega)
  have hlen : ((List.replicate (1 + p).toNat true).length : Int) = 1 + p := by rw [List.length_replicate]; omega
  unfold BuddyPlays.f
  have e0 : (!((none : Option Int) == none)) = false := rfl
  rw [hup, Option.bind_some, hp, Option.bind_some, hn, h1, Option.bind_some]
  simp only [e0, cond_false]
  rw [rnew_eq (by omega) (by omega) (by omega), Option.bind_some]
  exact plays_go (n := 1 + p) (by omega) ha 80 1000 ⟨1 + p, l⟩ _ 0 (by omega) (by omega) (by omega) ⟨hi, rfl, hlen, fun t => by rw [hc t]; exact (fr_new (by omega)).symm⟩
end Go.Proofs.YtehbhpkmlmeblaaDoor.V
