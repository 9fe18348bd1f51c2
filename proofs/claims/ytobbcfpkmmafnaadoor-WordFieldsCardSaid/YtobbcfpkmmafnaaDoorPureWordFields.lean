/- Any field of any word, and that field put, or what is amiss, is what the document's reference says: the pure statement of WordFields, for every word, place, number of bits and value. -/
import Derived.Test.YtobbcfpkmmafnaaDoorWordField
import Derived.Test.YtobbcfpkmmafnaaDoorRef01
import Derived.Test.YtobbcfpkmmafnaaDoorQx3
namespace Go.Proofs.YtobbcfpkmmafnaaDoor.Pure
open Go.RowKit Go.Proofs.YtobbcfpkmmafnaaDoor.Q Go.Proofs.YtobbcfpkmmafnaaDoorW.PrintWords Go.Proofs.YtobbcfpkmmafnaaDoorW.PrintLast Go.Proofs.YtobbcfpkmmafnaaDoor.WordLib Go.Proofs.YtobbcfpkmmafnaaDoor.Bits Go.Proofs.YtobbcfpkmmafnaaDoor.Ref01
set_option linter.unusedVariables false
set_option linter.unusedSimpArgs false

theorem may_ok (at_ n : Int) (h0 : -9223372036854775808 ≤ n) (h1 : n ≤ 9223372036854775807) : paviorref01_May.f at_ n = some (decide (okF at_ n)) := by
  unfold paviorref01_May.f
  by_cases a : at_ ≥ 0
  · rw [if_pos a]
    by_cases b : at_ ≤ 63
    · rw [if_pos b]
      by_cases c : n ≥ 1
      · rw [if_pos c]
        by_cases d : n ≤ 64
        · rw [if_pos d, wrap64_of (by omega) (by omega)]
          exact congrArg some (decide_eq_decide.mpr (by unfold okF; omega))
        · rw [if_neg d]; exact congrArg some (decide_eq_false (by unfold okF; omega)).symm
      · rw [if_neg c]; exact congrArg some (decide_eq_false (by unfold okF; omega)).symm
    · rw [if_neg b]; exact congrArg some (decide_eq_false (by unfold okF; omega)).symm
  · rw [if_neg a]; exact congrArg some (decide_eq_false (by unfold okF; omega)).symm

theorem fits_loop (v : Nat) (hv : v < 2 ^ 64) : ∀ (d i : Nat), i + d = 64 → Ev (fun k => paviorref01_Fits.l0 k (v : Int) (i : Int)) (decide (v < 2 ^ i)) := by
  intro d
  induction d with
  | zero =>
    intro i hi
    have e : i = 64 := by omega
    subst e
    refine ev_succ (ev_now (fun k => ?_))
    simp only [paviorref01_Fits.l0]
    rw [if_neg (by omega)]
    exact congrArg some (decide_eq_true hv).symm
  | succ d ih =>
    intro i hi
    refine ev_succ ?_
    simp only [paviorref01_Fits.l0, if_pos (show (i : Int) < 64 by omega), bit_nat v i hv (by omega), Option.bind_some]
    by_cases hb : v.testBit i = true
    · refine ev_now (fun k => ?_)
      rw [hb, if_pos (by rfl)]
      have : ¬ v < 2 ^ i := fun h => by rw [Nat.testBit_lt_two_pow h] at hb; cases hb
      exact congrArg some (decide_eq_false this).symm
    · have hb' : v.testBit i = false := by simpa using hb
      refine Ev.congr (fun k => ?_) (show Ev (fun k => paviorref01_Fits.l0 k (v : Int) ((i + 1 : Nat) : Int)) (decide (v < 2 ^ i)) from ?_)
      · rw [hb', if_neg (by decide), wrap64_of (by omega) (by omega)]; rfl
      · have h1 := ih (i + 1) (by omega)
        rw [show decide (v < 2 ^ i) = decide (v < 2 ^ (i + 1)) from decide_eq_decide.mpr ?_]
        · exact h1
        · constructor
          · intro h; exact Nat.lt_of_lt_of_le h (Nat.pow_le_pow_right (by decide) (by omega))
          · intro h
            rcases Nat.lt_or_ge v (2 ^ i) with h2 | h2
            · exact h2
            · exfalso
              have h3 : v / 2 ^ i = 1 := by
                have a1 : 1 ≤ v / 2 ^ i := (Nat.le_div_iff_mul_le (Nat.two_pow_pos i)).mpr (by omega)
                have a2 : v / 2 ^ i < 2 := (Nat.div_lt_iff_lt_mul (Nat.two_pow_pos i)).mpr (by rw [Nat.pow_succ] at h; omega)
                omega
              rw [Nat.testBit_eq_decide_div_mod_eq, h3] at hb'
              simp at hb'

theorem fields_ev (w v : Nat) (hw : w < 2 ^ 64) (hv : v < 2 ^ 64) (at_ n : Int) (h0 : -9223372036854775808 ≤ n) (h1 : n ≤ 9223372036854775807) : Ev (fun k => paviorlaw01_WordFields.f k (w : Int) at_ n (v : Int)) true := by
  unfold paviorlaw01_WordFields.f
  refine Ev.bind up_ev ?_
  by_cases hok : okF at_ n
  · have h' := hok
    obtain ⟨a, b, c, d⟩ := h'
    obtain ⟨i, rfl⟩ := Int.eq_ofNat_of_zero_le a
    obtain ⟨m, rfl⟩ := Int.eq_ofNat_of_zero_le (show 0 ≤ n by omega)
    rw [Field_yes w i m hw hok, may_ok _ _ h0 h1]
    have hfield : Ev (fun k => paviorref01_Field.f k (w : Int) (i : Int) (m : Int)) ((w / 2 ^ i % 2 ^ m : Nat) : Int) := by
      refine ⟨65, fun k hk => ?_⟩
      have := field_int (w : Int) i m (by omega) (by have : (2 : Nat) ^ 64 = 18446744073709551616 := by decide
                                                     omega) (by omega) k (by omega)
      show paviorref01_Field.f k (w : Int) (i : Int) (m : Int) = _
      rw [this, Int.natCast_emod, Int.natCast_ediv]
    have hfits := fits_loop v hv (64 - m) m (by omega)
    by_cases hvn : v < 2 ^ m
    · rw [Put_yes w i m v hw hok hvn]
      simp only [Option.bind_some, hok, decide_true, if_true, Option.isNone_none]
      refine Ev.bind hfield ?_
      refine ev_succ ?_
      simp only [paviorlaw01_WordFields.j0, bne_self_eq_false, Bool.false_eq_true, if_false]
      refine Ev.bind hfits ?_
      simp only [hvn, decide_true, if_true, Option.isNone_none]
      have hput : Ev (fun k => paviorref01_Put.f k (w : Int) (i : Int) (m : Int) (v : Int)) ((putN w i m v : Nat) : Int) :=
        ⟨129, fun k hk => put_of w v i m (putN w i m v) hw hv (by omega) (putN_lt w i m v hw) (putN_bit w i m v hw (by omega) hvn) k hk⟩
      refine Ev.bind hput (ev_now (fun k => ?_))
      simp
    · rw [Put_long _ _ m v hok hvn]
      simp only [Option.bind_some, hok, decide_true, if_true, Option.isNone_none]
      refine Ev.bind hfield ?_
      refine ev_succ ?_
      simp only [paviorlaw01_WordFields.j0, bne_self_eq_false, Bool.false_eq_true, if_false]
      refine Ev.bind hfits (ev_now (fun k => ?_))
      simp [hvn]
  · rw [Field_no _ _ _ h0 h1 hok, Put_no _ _ _ _ h0 h1 hok, may_ok _ _ h0 h1]
    refine ev_now (fun k => ?_)
    simp [hok]

theorem WordFields : paviorlaw01_WordFields.Pure := by
  intro w at_ n v hw hat hn hv
  obtain ⟨w0, w1⟩ := wf_u64.mp hw
  obtain ⟨v0, v1⟩ := wf_u64.mp hv
  obtain ⟨n0, n1⟩ := wf_i64.mp hn
  obtain ⟨w, rfl⟩ := Int.eq_ofNat_of_zero_le w0
  obtain ⟨v, rfl⟩ := Int.eq_ofNat_of_zero_le v0
  exact Ev.rounds (fields_ev w v (natlt w1) (natlt v1) at_ n n0 n1)

end Go.Proofs.YtobbcfpkmmafnaaDoor.Pure
