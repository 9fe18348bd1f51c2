/- BuddyClones, as a plain law: a store of any frames is cut, counted and taken of; all of them are gone through. -/
import Derived.Test.YtehbhpkmlmeblaaDoorB2
import Derived.Test.YtehbhpkmlmeblaaDoorBits
namespace Go.Proofs.YtehbhpkmlmeblaaDoor.V
open Go Go.RowKit Go.Proofs Go.Proofs.YtehbhpkmlmeblaaDoor.Q Go.Proofs.YtehbhpkmlmeblaaDoorW.PrintWords
set_option linter.unusedVariables false
set_option maxRecDepth 100000
theorem pick_range (c n : Int) (h0 : -9223372036854775808 ≤ c) (h1 : c ≤ 9223372036854775807) (hn : 0 < n) (hn2 : n ≤ 1000000) : ∃ r, paviorlaw07_pick.f c n = some r ∧ 0 ≤ r ∧ r < n := by
  unfold paviorlaw07_pick.f
  have hz : ¬ n = 0 := by omega
  by_cases hc : c < 0
  · rw [if_pos hc, if_neg hz]
    refine ⟨_, rfl, ?_⟩
    rw [Bits.wrap64_of (n := c + 1) (by omega) (by omega), Bits.wrap64_of (n := -(c + 1)) (by omega) (by omega)]
    refine ⟨Int.tmod_nonneg _ (by omega), ?_⟩
    have := Int.tmod_lt_of_pos (-(c + 1)) hn
    exact this
  · rw [if_neg hc, if_neg hz]
    exact ⟨_, rfl, Int.tmod_nonneg _ (by omega), Int.tmod_lt_of_pos c hn⟩
def okC (n o : Int) : Bool := match New.f 1000 n with
  | some (s, none) => (match Clone.f 1000 s.l with
    | some l => (match Take.f 1000 ⟨s.n, s.l⟩ o with
      | some (s2, _, _) => (match Count.f 1000 ⟨s.n, s.l⟩ with
        | some (s', c) => c == n && Nat.beq l.length s.l.length && Nat.ble l.length 900 && (match Count.f 1000 s2 with
          | some _ => true
          | none => false)
        | none => false)
      | none => false)
    | none => false)
  | _ => false
theorem okC_all : ((List.range 100).all fun n => (List.range 6).all fun o => okC ((n : Int) + 1) o) = true := by kernel_rfl
theorem wrapS {x : Int} (h0 : 0 ≤ x) (h1 : x < 1000000) : IntKind.i64.wrap x = x := by
  simp only [IntKind.wrap, IntKind.bits, IntKind.signed]
  simp
  omega
theorem okC_at {n o : Int} (h1 : 1 ≤ n) (h2 : n ≤ 100) (h3 : 0 ≤ o) (h4 : o < 6) : okC n o = true := by
  have h := List.all_eq_true.mp okC_all (n - 1).toNat (List.mem_range.mpr (by omega))
  have h := List.all_eq_true.mp h o.toNat (List.mem_range.mpr (by omega))
  rw [show (((n - 1).toNat : Nat) : Int) + 1 = n by omega, show ((o.toNat : Nat) : Int) = o by omega] at h
  exact h
theorem okC_ok {n o : Int} (h : okC n o = true) : ∃ s s2 v e s' c, New.f 1000 n = some (s, none) ∧ Take.f 1000 s o = some (s2, v, e) ∧ Count.f 1000 s = some (s', n) ∧ Count.f 1000 s2 = some c ∧ s.l.length ≤ 900 := by
  unfold okC at h
  split at h
  · rename_i s hs
    split at h
    · rename_i l hl
      split at h
      · rename_i s2 v e ht
        split at h
        · rename_i s' c hc
          simp only [Bool.and_eq_true, beq_iff_eq] at h
          obtain ⟨⟨⟨rfl, h1⟩, h2⟩, h3⟩ := h
          have h1 := Nat.eq_of_beq_eq_true h1
          have h2 := Nat.le_of_ble_eq_true h2
          split at h3
          · rename_i x hx
            exact ⟨s, s2, v, e, s', x, hs, ht, hc, hx, by omega⟩
          · cases h3
        · cases h
      · cases h
    · cases h
  · cases h
theorem clone_eq {k : Nat} {l : List Blk} (h : l.length ≤ 1000) : Clone.f k l = some l := by
  unfold Clone.f
  rw [decide_eq_true (show ([] : List Blk).length + l.length ≤ 1000000 by simp; omega)]
  rfl
theorem count_same {k : Nat} {s : Sto} : ∀ {n : Nat} {v1 v2 : Int} {r : Sto × Int}, Count.l1 k s n v1 v2 = some r → r.1 = s := by
  intro n
  induction n with
  | zero => intro v1 v2 r h; cases h
  | succ n ih =>
    intro v1 v2 r h
    unfold Count.l1 at h
    simp only [Bool.cond_decide] at h
    split at h
    · revert h
      cases (decide (0 ≤ v2) && decide (v2 < (s.l.length : Int))) with
      | false => intro h; cases h
      | true =>
        intro h
        simp only [cond_true] at h
        split at h
        · exact ih h
        · cases h
    · cases h; rfl
theorem clones_loop {k : Nat} {a0 a1 : Int} {r1 : Bool} {r2 : Int} {r3 : Sto × Option Int} {r4 : Sto × Sto} {r5 : Sto × List Blk} {X : Option Bool} (hX : ∀ n v6 v7, ¬ v7 < ((v6 : List Blk).length : Int) → BuddyClones.l1 k a0 a1 r1 r2 r3 r4 r5 (n + 1) v6 v7 = X) :
    ∀ (j fuel : Nat) (v6 : List Blk) (v7 : Int), 0 ≤ v7 → v6.length ≤ 1000 → v6.length - v7.toNat ≤ j → j < fuel → BuddyClones.l1 k a0 a1 r1 r2 r3 r4 r5 fuel v6 v7 = X := by
  intro j
  induction j with
  | zero =>
    intro fuel v6 v7 h0 h1 h2 h3
    obtain ⟨n, rfl⟩ : ∃ n, fuel = n + 1 := ⟨fuel - 1, by omega⟩
    exact hX n v6 v7 (by omega)
  | succ j ih =>
    intro fuel v6 v7 h0 h1 h2 h3
    obtain ⟨n, rfl⟩ : ∃ n, fuel = n + 1 := ⟨fuel - 1, by omega⟩
    by_cases hlt : v7 < (v6.length : Int)
    · have := ih n (v6.set v7.toNat ⟨-1, 0⟩) (IntKind.i64.wrap (v7 + 1)) (by rw [wrapS (by omega) (by omega)]; omega) (by simpa using h1) (by rw [wrapS (by omega) (by omega), List.length_set]; omega) (by omega)
      rw [← this]
      conv => lhs; unfold BuddyClones.l1
      simp only [decide_eq_true hlt, decide_eq_true h0, Bool.and_self, cond_true]
    · exact hX n v6 v7 hlt
theorem BuddyClones.plain (a0 a1 : Int) (s0 : -9223372036854775808 ≤ a0) (s1 : a0 ≤ 9223372036854775807) (t0 : -9223372036854775808 ≤ a1) (t1 : a1 ≤ 9223372036854775807) : BuddyClones.f 1000 a0 a1 = some true := by
  obtain ⟨p, hp, p0, p1⟩ := pick_range a0 100 s0 s1 (by omega) (by omega)
  obtain ⟨o, ho, o0, o1⟩ := pick_range a1 6 t0 t1 (by omega) (by omega)
  have hn : IntKind.i64.wrap (1 + p) = 1 + p := wrapS (by omega) (by omega)
  obtain ⟨s, s2, v, e, s', c, h1, h2, h3, h4, h5⟩ := okC_ok (okC_at (n := 1 + p) (by omega) (by omega) o0 o1)
  have hup : up.f 1000 = some true := by kernel_rfl
  have hs' : s' = s := count_same (r := (s', 1 + p)) h3
  subst hs'
  unfold BuddyClones.f
  rw [hup]
  simp only [Option.bind_some, hp, hn, h1]
  unfold SClone.f Free.f
  rw [clone_eq (by omega)]
  simp only [Option.bind_some]
  rw [clone_eq (by omega)]
  simp only [Option.bind_some]
  have e0 : (!((none : Option Int) == none)) = false := rfl
  rw [e0]
  simp only [cond_false]
  refine clones_loop (X := some true) (fun n v6 v7 hlt => ?_) s'.l.length 1000 s'.l 0 (by omega) (by omega) (by simp) (by omega)
  unfold BuddyClones.l1
  have hc3 : Count.f 1000 ⟨s'.n, s'.l⟩ = some (s', 1 + p) := h3
  simp only [decide_eq_false hlt, cond_false, ho, Option.bind_some, h2, hc3, hn, h4, beq_self_eq_true, cond_true]
end Go.Proofs.YtehbhpkmlmeblaaDoor.V
