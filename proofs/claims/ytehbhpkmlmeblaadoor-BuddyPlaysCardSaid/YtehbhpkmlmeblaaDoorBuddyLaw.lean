/- Buddies, plainly: what the laws have alike: raw numbers picked, a block taken and given back, two lists compared. -/
import Derived.Test.YtehbhpkmlmeblaaDoorB2
import Derived.Test.YtehbhpkmlmeblaaDoorBuddyAt
import Derived.Test.YtehbhpkmlmeblaaDoorBits
namespace Go.Proofs.YtehbhpkmlmeblaaDoor.V
open Go Go.RowKit Go.Proofs Go.Proofs.YtehbhpkmlmeblaaDoor.Q Go.Proofs.YtehbhpkmlmeblaaDoorW.PrintWords
set_option linter.unusedVariables false
set_option linter.unusedSimpArgs false
set_option maxRecDepth 100000
theorem pick_range (c n : Int) (h0 : -9223372036854775808 ≤ c) (h1 : c ≤ 9223372036854775807) (hn : 0 < n) (hn2 : n ≤ 1000000) : ∃ r, paviorlaw07_pick.f c n = some r ∧ 0 ≤ r ∧ r < n := by
  unfold paviorlaw07_pick.f
  have hz : ¬ n = 0 := by omega
  by_cases hc : c < 0
  · rw [if_pos hc, if_neg hz]
    refine ⟨_, rfl, ?_⟩
    rw [Bits.wrap64_of (n := c + 1) (by omega) (by omega), Bits.wrap64_of (n := -(c + 1)) (by omega) (by omega)]
    refine ⟨Int.tmod_nonneg _ (by omega), ?_⟩
    have := Int.tmod_lt_of_pos (-(c + 1)) hn
    exact this
  · rw [if_neg hc, if_neg hz]
    exact ⟨_, rfl, Int.tmod_nonneg _ (by omega), Int.tmod_lt_of_pos c hn⟩
theorem power_eq {o : Int} (h0 : 0 ≤ o) (h5 : o ≤ 5) : paviorref01_Power.f 1000 o = some (pw o) := by
  rcases pw_cases h0 h5 with ⟨rfl, e⟩ | ⟨rfl, e⟩ | ⟨rfl, e⟩ | ⟨rfl, e⟩ | ⟨rfl, e⟩ | ⟨rfl, e⟩ <;> rw [e] <;> kernel_rfl
theorem cmp_loop {L : List Blk} {F : Nat → Int → Option Bool} {r1 : Bool} (hF : ∀ n v, F (n + 1) v = (bif decide (v < (L.length : Int)) then (bif decide (0 ≤ v) && decide (v < (L.length : Int)) then (bif decide (0 ≤ v) && decide (v < (L.length : Int)) then (bif !(((L.getD ((v).toNat) zR).f) == ((L.getD ((v).toNat) zR).f) && (((L.getD ((v).toNat) zR).o) == ((L.getD ((v).toNat) zR).o))) then some false else F n (IntKind.i64.wrap (v + 1))) else none) else none) else some r1)) (hl : L.length ≤ 900) :
    ∀ (d n : Nat) (v : Int), 0 ≤ v → L.length - v.toNat ≤ d → d < n → F n v = some r1 := by
  intro d
  induction d with
  | zero =>
    intro n v h0 h1 h2
    obtain ⟨n, rfl⟩ : ∃ m, n = m + 1 := ⟨n - 1, by omega⟩
    rw [hF, decide_eq_false (show ¬ v < (L.length : Int) by omega)]
    rfl
  | succ d ih =>
    intro n v h0 h1 h2
    obtain ⟨n, rfl⟩ : ∃ m, n = m + 1 := ⟨n - 1, by omega⟩
    rw [hF]
    by_cases hv : v < (L.length : Int)
    · rw [decide_eq_true hv, decide_eq_true h0]
      simp only [beq_self_eq_true, Bool.and_self, Bool.not_true, cond_true, cond_false]
      rw [wrap_small (by omega) (by omega)]
      exact ih n (v + 1) (by omega) (by omega) (by omega)
    · rw [decide_eq_false hv]
      rfl
/-- A block that is named, taken and given back: all is as it was. -/
theorem at_back {n : Int} {k : Nat} {s : Sto} (h : Inv n s.l) (hs : s.n = n) (hn : n ≤ 512) (hk : 1000 ≤ k) (f o : Int) :
    (∃ e, TakeAt.f k s f o = some (s, some e)) ∨ ∃ s', TakeAt.f k s f o = some (s', none) ∧ Give.f k s' f o = some (s, none) := by
  rcases takeAt_eq h hs hn hk f o with ⟨_, e⟩ | ⟨_, _, e⟩ | ⟨ok, hc, l, e, hi, hcov, _⟩
  · exact .inl ⟨_, e⟩
  · exact .inl ⟨_, e⟩
  · refine .inr ⟨_, e, ?_⟩
    rcases give_eq (s := ⟨s.n, l⟩) hi hs hn hk f o with ⟨hno, _⟩ | ⟨_, ⟨u, hu, hcu⟩, _⟩ | ⟨_, _, l2, e2, hi2, hcov2, _⟩
    · exact absurd ok hno
    · exact absurd hu ((hcov u).mp hcu).2
    · rw [e2]
      have : l2 = s.l := uniq hi2 h fun t => by
        rw [hcov2, hcov]
        constructor
        · rintro (⟨h1, _⟩ | h1)
          · exact h1
          · exact hc t h1
        · intro h1
          by_cases h2 : In t ⟨f, o⟩
          · exact .inr h2
          · exact .inl ⟨h1, h2⟩
      rw [this]
/-- A block that is taken: it was free, it is no more; given back, all is as it was. -/
theorem take_back {n : Int} {k : Nat} {s : Sto} {o : Int} (h : Inv n s.l) (hs : s.n = n) (hn : n ≤ 512) (hk : 1000 ≤ k) (o0 : 0 ≤ o) (o5 : o ≤ 5) :
    Take.f k s o = some (s, 0, some 5) ∨ ∃ s' f, Take.f k s o = some (s', f, none) ∧ Ok n ⟨f, o⟩ ∧ Inv n s'.l ∧ s'.n = n ∧ (∀ u, In u ⟨f, o⟩ → Cov s.l u ∧ ¬ Cov s'.l u) ∧ Give.f k s' f o = some (s, none) := by
  rcases take_eq h hn hk o0 o5 with ⟨_, e⟩ | ⟨A, x, B, l, _, _, e, ok, hin, hi, hcov, _⟩
  · exact .inl e
  · refine .inr ⟨_, _, e, ok, hi, hs, fun u hu => ⟨hin u hu, fun hc => ((hcov u).mp hc).2 hu⟩, ?_⟩
    rcases give_eq (s := ⟨s.n, l⟩) hi hs hn hk x.f o with ⟨hno, _⟩ | ⟨_, ⟨u, hu, hcu⟩, _⟩ | ⟨_, _, l2, e2, hi2, hcov2, _⟩
    · exact absurd ok hno
    · exact absurd hu ((hcov u).mp hcu).2
    · rw [e2]
      have : l2 = s.l := uniq hi2 h fun t => by
        rw [hcov2, hcov]
        constructor
        · rintro (⟨h1, _⟩ | h1)
          · exact h1
          · exact hin t h1
        · intro h1
          by_cases h2 : In t ⟨x.f, o⟩
          · exact .inr h2
          · exact .inl ⟨h1, h2⟩
      rw [this]
theorem take_inv {n : Int} {k : Nat} {s : Sto} {o : Int} (h : Inv n s.l) (hs : s.n = n) (hn : n ≤ 512) (hk : 1000 ≤ k) (o0 : 0 ≤ o) (o5 : o ≤ 5) :
    ∃ s' f e, Take.f k s o = some (s', f, e) ∧ Inv n s'.l ∧ s'.n = n := by
  rcases take_back h hs hn hk o0 o5 with e | ⟨s', f, e, _, hi, hs', _⟩
  · exact ⟨_, _, _, e, h, hs⟩
  · exact ⟨_, _, _, e, hi, hs'⟩
end Go.Proofs.YtehbhpkmlmeblaaDoor.V
