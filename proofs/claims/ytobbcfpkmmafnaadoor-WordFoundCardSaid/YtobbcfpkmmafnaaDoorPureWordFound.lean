/- What was put is found, and other bits stay: the pure statement of WordFound, for every word, places, numbers of bits and value. -/
import Derived.Test.YtobbcfpkmmafnaaDoorWordField
import Derived.Test.YtobbcfpkmmafnaaDoorQx5
namespace Go.Proofs.YtobbcfpkmmafnaaDoor.Pure
open Go.RowKit Go.Proofs.YtobbcfpkmmafnaaDoor.Q Go.Proofs.YtobbcfpkmmafnaaDoorW.PrintWords Go.Proofs.YtobbcfpkmmafnaaDoorW.PrintLast Go.Proofs.YtobbcfpkmmafnaaDoor.WordLib Go.Proofs.YtobbcfpkmmafnaaDoor.Bits
set_option linter.unusedVariables false
set_option linter.unusedSimpArgs false

theorem put_field (w at_ n v : Nat) (hw : w < 2 ^ 64) (hn : at_ + n ≤ 64) (hv : v < 2 ^ n) : putN w at_ n v / 2 ^ at_ % 2 ^ n = v := by
  apply Nat.eq_of_testBit_eq
  intro j
  rw [Nat.testBit_mod_two_pow, Nat.testBit_div_two_pow]
  by_cases h : j < n
  · rw [putN_bit w at_ n v hw hn hv _ (by omega), if_pos (by omega)]
    simp [h]
  · simp [h, Nat.testBit_lt_two_pow (Nat.lt_of_lt_of_le hv (Nat.pow_le_pow_right (by decide) (show n ≤ j by omega)))]
theorem put_other (w at_ n v o m : Nat) (hw : w < 2 ^ 64) (hn : at_ + n ≤ 64) (hv : v < 2 ^ n) (hm : o + m ≤ 64) (h : at_ + n ≤ o ∨ o + m ≤ at_) : w / 2 ^ o % 2 ^ m = putN w at_ n v / 2 ^ o % 2 ^ m := by
  apply Nat.eq_of_testBit_eq
  intro j
  rw [Nat.testBit_mod_two_pow, Nat.testBit_div_two_pow, Nat.testBit_mod_two_pow, Nat.testBit_div_two_pow]
  by_cases hj : j < m
  · rw [putN_bit w at_ n v hw hn hv _ (by omega), if_neg (by omega)]
  · simp [hj]

theorem put_key (w i q v o m : Nat) (hw : w < 2 ^ 64) (hn : i + q ≤ 64) (hv : v < 2 ^ q) (hm : o + m ≤ 64) : (o < i + q ∧ i < o + m) ∨ w / 2 ^ o % 2 ^ m = putN w i q v / 2 ^ o % 2 ^ m := by
  by_cases c1 : o < i + q
  · by_cases c2 : i < o + m
    · exact .inl ⟨c1, c2⟩
    · exact .inr (put_other w i q v o m hw hn hv hm (.inr (Nat.not_lt.mp c2)))
  · exact .inr (put_other w i q v o m hw hn hv hm (.inl (Nat.not_lt.mp c1)))

theorem found_ev (w v : Nat) (hw : w < 2 ^ 64) (hv : v < 2 ^ 64) (at_ n o m : Int) (h0 : -9223372036854775808 ≤ n) (h1 : n ≤ 9223372036854775807) (h2 : -9223372036854775808 ≤ m) (h3 : m ≤ 9223372036854775807) : Ev (fun k => paviorlaw01_WordFound.f k (w : Int) at_ n (v : Int) o m) true := by
  unfold paviorlaw01_WordFound.f
  refine Ev.bind up_ev ?_
  by_cases hok : okF at_ n
  · have h' := hok
    obtain ⟨a, b, c, d⟩ := h'
    obtain ⟨i, rfl⟩ := Int.eq_ofNat_of_zero_le a
    obtain ⟨q, rfl⟩ := Int.eq_ofNat_of_zero_le (show 0 ≤ n by omega)
    by_cases hvn : v < 2 ^ q
    · rw [Put_yes w i q v hw hok hvn]
      simp only [Option.bind_some, Option.isNone_none, if_true]
      rw [Field_yes _ i q (putN_lt w i q v hw) hok, put_field w i q v hw (by omega) hvn]
      simp only [Option.bind_some, Option.isNone_none, if_true, bne_self_eq_false]
      refine ev_succ ?_
      simp only [paviorlaw01_WordFound.j0, Bool.false_eq_true, if_false]
      by_cases hok2 : okF o m
      · have h'' := hok2
        obtain ⟨a2, b2, c2, d2⟩ := h''
        obtain ⟨o, rfl⟩ := Int.eq_ofNat_of_zero_le a2
        obtain ⟨m, rfl⟩ := Int.eq_ofNat_of_zero_le (show 0 ≤ m by omega)
        rw [Field_yes w o m hw hok2, Field_yes _ o m (putN_lt w i q v hw) hok2]
        have key := put_key w i q v o m hw (by omega) hvn (by omega)
        have hiq : i + q ≤ 64 := by omega
        have hom : o + m ≤ 64 := by omega
        generalize w / 2 ^ o % 2 ^ m = x at key ⊢
        generalize putN w i q v / 2 ^ o % 2 ^ m = y at key ⊢
        clear hok hok2 hvn hv hw
        simp -implicitDefEqProofs only [Option.bind_some, Option.isNone_none, if_true]
        rw [wrap64_of (n := (i : Int) + (q : Int)) (by omega) (by omega), wrap64_of (n := (o : Int) + (m : Int)) (by omega) (by omega)]
        refine ev_succ (ev_now (fun k => ?_))
        rcases key with ⟨c1, c2⟩ | rfl
        · rw [if_pos (show (o : Int) < (i : Int) + (q : Int) by omega)]
          have c3 : (i : Int) < (o : Int) + (m : Int) := by omega
          simp [paviorlaw01_WordFound.j1, c3]
        · by_cases c1 : (o : Int) < (i : Int) + (q : Int)
          · rw [if_pos c1]
            simp [paviorlaw01_WordFound.j1]
          · rw [if_neg c1]
            simp [paviorlaw01_WordFound.j1]
      · rw [Field_no _ _ _ h2 h3 hok2, Field_no _ _ _ h2 h3 hok2]
        refine ev_succ (ev_now (fun k => ?_))
        simp [paviorlaw01_WordFound.j1]
    · rw [Put_long _ _ q v hok hvn]
      exact ev_now (fun k => by simp)
  · rw [Put_no _ _ _ _ h0 h1 hok]
    exact ev_now (fun k => by simp)

theorem WordFound : paviorlaw01_WordFound.Pure := by
  intro w at_ n v o m hw hat hn hv ho hm
  obtain ⟨w0, w1⟩ := wf_u64.mp hw
  obtain ⟨v0, v1⟩ := wf_u64.mp hv
  obtain ⟨n0, n1⟩ := wf_i64.mp hn
  obtain ⟨m0, m1⟩ := wf_i64.mp hm
  obtain ⟨w, rfl⟩ := Int.eq_ofNat_of_zero_le w0
  obtain ⟨v, rfl⟩ := Int.eq_ofNat_of_zero_le v0
  exact Ev.rounds (found_ev w v (natlt w1) (natlt v1) at_ n o m n0 n1 m0 m1)

end Go.Proofs.YtobbcfpkmmafnaaDoor.Pure
