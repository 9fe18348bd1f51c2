/- BuddyTakes, as a plain law: what is taken was free, is aligned, and is free no more; given back, all is free as it was. -/
import Derived.Test.YtehbhpkmlmeblaaDoorBuddyLaw
namespace Go.Proofs.YtehbhpkmlmeblaaDoor.V
open Go Go.RowKit Go.Proofs Go.Proofs.YtehbhpkmlmeblaaDoor.Q Go.Proofs.YtehbhpkmlmeblaaDoorW.PrintWords
set_option linter.unusedVariables false
set_option linter.unusedSimpArgs false
set_option maxRecDepth 100000
theorem takes_l1 {n : Int} {a0 a2 a3 : Int} {a1 : List D3} {r1 : Bool} {r2 : Int} {r3 : Sto × Option Int} (hn : n ≤ 512) (ha : ∀ x ∈ a1, -9223372036854775808 ≤ x.o ∧ x.o ≤ 9223372036854775807) :
    ∀ (d m : Nat) (s : Sto) (v : Int), 0 ≤ v → (40 - v).toNat ≤ d → d < m → Inv n s.l → s.n = n → ∃ s' v', BuddyTakes.l1 1000 a0 a1 a2 a3 r1 r2 r3 m s v = some (s', v') ∧ Inv n s'.l ∧ s'.n = n := by
  intro d
  induction d with
  | zero =>
    intro m s v h0 h1 h2 hi hs
    obtain ⟨m, rfl⟩ : ∃ q, m = q + 1 := ⟨m - 1, by omega⟩
    unfold BuddyTakes.l1
    rw [decide_eq_false (show ¬ v < 40 by omega)]
    cases decide (v < (a1.length : Int))
    · exact ⟨s, v, rfl, hi, hs⟩
    · exact ⟨s, v, rfl, hi, hs⟩
  | succ d ih =>
    intro m s v h0 h1 h2 hi hs
    obtain ⟨m, rfl⟩ : ∃ q, m = q + 1 := ⟨m - 1, by omega⟩
    unfold BuddyTakes.l1
    by_cases hl : v < (a1.length : Int)
    · by_cases h40 : v < 40
      · rw [decide_eq_true hl, decide_eq_true h40, decide_eq_true h0]
        simp only [Bool.and_self, cond_true]
        have hx : (a1.getD v.toNat zD) ∈ a1 := by
          rw [List.getD_eq_getElem?_getD, List.getElem?_eq_getElem (by omega)]
          exact List.getElem_mem _
        obtain ⟨x0, x1⟩ := ha _ hx
        obtain ⟨p, hp, p0, p1⟩ := pick_range (a1.getD v.toNat zD).o 6 x0 x1 (by omega) (by omega)
        rw [hp, Option.bind_some]
        obtain ⟨s', f, e, ht, hi', hs'⟩ := take_inv (k := 1000) (o := p) hi hs hn (by omega) p0 (by omega)
        rw [ht, Option.bind_some, wrap_small (by omega) (by omega)]
        exact ih m s' (v + 1) (by omega) (by omega) (by omega) hi' hs'
      · rw [decide_eq_false h40, decide_eq_true hl]
        exact ⟨s, v, rfl, hi, hs⟩
    · rw [decide_eq_false hl]
      exact ⟨s, v, rfl, hi, hs⟩
theorem BuddyTakes.plain (a0 : Int) (a1 : List D3) (a2 a3 : Int) (s0 : -9223372036854775808 ≤ a0) (s1 : a0 ≤ 9223372036854775807) (ha : ∀ x ∈ a1, -9223372036854775808 ≤ x.o ∧ x.o ≤ 9223372036854775807) (t0 : -9223372036854775808 ≤ a2) (t1 : a2 ≤ 9223372036854775807) : BuddyTakes.f 1000 a0 a1 a2 a3 = some true := by
  obtain ⟨p, hp, p0, p1⟩ := pick_range a0 200 s0 s1 (by omega) (by omega)
  obtain ⟨o, ho, o0, o1⟩ := pick_range a2 6 t0 t1 (by omega) (by omega)
  have hn : IntKind.i64.wrap (1 + p) = 1 + p := wrap_small (by omega) (by omega)
  have hup : up.f 1000 = some true := by kernel_rfl
  have hN : 1 + p ≤ 512 := by omega
  obtain ⟨l, h1, hi, _, _⟩ := new_eq (n := 1 + p) (k := 1000) (by omega) (by omega) (by omega)
  unfold BuddyTakes.f
  rw [hup, Option.bind_some, hp, Option.bind_some, hn, h1, Option.bind_some]
  have e0 : (!((none : Option Int) == none)) = false := rfl
  have e1 : ((none : Option Int) == none) = true := rfl
  have e2 : ∀ x : Int, ((some x : Option Int) == none) = false := fun x => rfl
  rw [e0, cond_false]
  obtain ⟨s, vv, hl1, hi, hs⟩ := takes_l1 (n := 1 + p) (a0 := a0) (a1 := a1) (a2 := a2) (a3 := a3) (r1 := true) (r2 := p) (r3 := (⟨1 + p, l⟩, none)) hN ha 40 1000 ⟨1 + p, l⟩ 0 (by omega) (by omega) (by omega) hi rfl
  have hlen := hi.len hN
  rw [hl1, Option.bind_some, ho, Option.bind_some, power_eq o0 (by omega), Option.bind_some, free_eq hi hN, Option.bind_some, sclone_eq hi hN, Option.bind_some]
  have hne : ((s.l.length : Int) != (s.l.length : Int)) = false := by simp
  rcases take_back (k := 1000) hi hs hN (by omega) o0 (by omega : o ≤ 5) with ht | ⟨s', f, ht, ok, hi', hs', hcc, hg⟩
  · rw [ht, Option.bind_some]
    simp only [e2, cond_false]
    rcases at_back (k := 1000) hi hs hN (by omega) a3 o with ⟨e, ha⟩ | ⟨s2, ha, hg⟩
    · rw [ha, Option.bind_some]
      simp only [e2, cond_false]
      rw [free_eq hi hN, Option.bind_some]
      simp only [hne, cond_false]
      exact cmp_loop (L := s.l) (fun _ _ => rfl) (by omega) s.l.length 1000 0 (by omega) (by simp) (by omega)
    · rw [ha, Option.bind_some]
      simp only [e1, cond_true]
      rw [hg, Option.bind_some]
      simp only [e0, cond_false]
      rw [free_eq hi hN, Option.bind_some]
      simp only [hne, cond_false]
      exact cmp_loop (L := s.l) (fun _ _ => rfl) (by omega) s.l.length 1000 0 (by omega) (by simp) (by omega)
  · rw [ht, Option.bind_some]
    simp only [e1, cond_true]
    have hpos : 0 < pw o := by rcases pw_cases o0 (show o ≤ 5 by omega) with h | h | h | h | h | h <;> omega
    have hle : pw o ≤ 32 := by rcases pw_cases o0 (show o ≤ 5 by omega) with h | h | h | h | h | h <;> omega
    have okf := ok.f0
    have okn := ok.en
    have oka := ok.al
    simp only at okf okn oka
    have hal : f.tmod (pw o) = 0 := by rw [Int.tmod_eq_emod_of_nonneg okf]; exact oka
    rw [decide_eq_false (show ¬ f < 0 by omega), cond_false, decide_eq_true (show pw o ≠ 0 by omega), cond_true, hal]
    have e3 : ((0 : Int) != 0) = false := rfl
    rw [e3, cond_false]
    have loop : ∀ (d m : Nat) (v : Int), 0 ≤ v → v ≤ pw o → (pw o - v).toNat ≤ d → d < m → BuddyTakes.l2 1000 a0 a1 a2 a3 true p (⟨1 + p, l⟩, none) (s, vv) o (pw o) (s, s.l) (s, s) (s', f, none) m s' s v = some true := by
      intro d
      induction d with
      | zero =>
        intro m v h0 h1 h2 h3
        obtain ⟨m, rfl⟩ : ∃ q, m = q + 1 := ⟨m - 1, by omega⟩
        unfold BuddyTakes.l2
        rw [decide_eq_false (show ¬ v < pw o by omega), cond_false]
        simp only []
        rw [hg, Option.bind_some]
        simp only [e0, cond_false]
        rcases at_back (k := 1000) hi hs hN (by omega) a3 o with ⟨e, ha⟩ | ⟨s2, ha, hg⟩
        · rw [ha, Option.bind_some]
          simp only [e2, cond_false]
          rw [free_eq hi hN, Option.bind_some]
          simp only [hne, cond_false]
          exact cmp_loop (L := s.l) (fun _ _ => rfl) (by omega) s.l.length 1000 0 (by omega) (by simp) (by omega)
        · rw [ha, Option.bind_some]
          simp only [e1, cond_true]
          rw [hg, Option.bind_some]
          simp only [e0, cond_false]
          rw [free_eq hi hN, Option.bind_some]
          simp only [hne, cond_false]
          exact cmp_loop (L := s.l) (fun _ _ => rfl) (by omega) s.l.length 1000 0 (by omega) (by simp) (by omega)
      | succ d ih =>
        intro m v h0 h1 h2 h3
        by_cases hv : v < pw o
        · obtain ⟨m, rfl⟩ : ∃ q, m = q + 1 := ⟨m - 1, by omega⟩
          unfold BuddyTakes.l2
          rw [decide_eq_true hv, cond_true]
          simp only []
          have hu := hcc (f + v) ⟨by simp only; omega, by simp only; omega⟩
          rw [wrap_small (by omega) (by omega), isFree_yes hi hN (by omega) hu.1, Option.bind_some]
          simp only [Bool.not_true, cond_false]
          rw [isFree_no hi' hN (by omega) hu.2, Option.bind_some]
          simp only [cond_false]
          rw [wrap_small (by omega) (by omega)]
          exact ih m (v + 1) (by omega) (by omega) (by omega) (by omega)
        · exact ih m v h0 h1 (by omega) (by omega)
    exact loop 32 1000 0 (by omega) (by omega) (by omega) (by omega)
end Go.Proofs.YtehbhpkmlmeblaaDoor.V
