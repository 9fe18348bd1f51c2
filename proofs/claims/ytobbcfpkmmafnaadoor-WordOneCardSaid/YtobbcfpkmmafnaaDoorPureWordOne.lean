/- What is one aligned run is cut as one: the pure statement of WordOne, for every two numbers. -/
import Derived.Test.YtobbcfpkmmafnaaDoorWordField
import Derived.Test.YtobbcfpkmmafnaaDoorWordRefs
import Derived.Test.YtobbcfpkmmafnaaDoorQx7
namespace Go.Proofs.YtobbcfpkmmafnaaDoor.Pure
open Go.RowKit Go.Proofs.YtobbcfpkmmafnaaDoor.Q Go.Proofs.YtobbcfpkmmafnaaDoorW.PrintWords Go.Proofs.YtobbcfpkmmafnaaDoorW.PrintLast Go.Proofs.YtobbcfpkmmafnaaDoor.WordLib Go.Proofs.YtobbcfpkmmafnaaDoor.Bits
set_option linter.unusedVariables false
set_option linter.unusedSimpArgs false

theorem one_cut (q o : Nat) (ho : o ≤ 20) : IsCut (q * 2 ^ o) (q * 2 ^ o + 2 ^ o) [⟨((q * 2 ^ o : Nat) : Int), (o : Int)⟩] := by
  have hp := Nat.two_pow_pos o
  refine .cons (by omega) ⟨ho, Nat.mul_mod_left _ _, Nat.le_refl _, fun p hp h1 h2 => ?_⟩ (.nil (by omega))
  rcases Nat.lt_or_ge o p with h | h
  · have := Nat.pow_lt_pow_right (show 1 < 2 by decide) h
    omega
  · exact h

theorem one_j1 (x o : Nat) (ho : o < 20) : Ev (fun k => paviorlaw01_WordOne.j1 k (x : Int) (o : Int) true ((2 ^ o : Nat) : Int)) true := by
  have hp := Nat.two_pow_pos o
  have hp19 : 2 ^ o ≤ 524288 := Nat.pow_le_pow_right (show 1 ≤ 2 by decide) (show o ≤ 19 by omega)
  have hmul : 2 ^ (20 - o) * 2 ^ o = 1048576 := by rw [← Nat.pow_add, show 20 - o + o = 20 by omega]
  have hdiv : Int.tdiv (1048576 : Int) ((2 ^ o : Nat) : Int) = ((2 ^ (20 - o) : Nat) : Int) := by
    rw [Int.tdiv_eq_ediv_of_nonneg (by decide), show (1048576 : Int) = ((2 ^ (20 - o) * 2 ^ o : Nat) : Int) by rw [hmul]; rfl, ← Int.natCast_ediv, Nat.mul_div_cancel _ hp]
  have hq := Nat.two_pow_pos (20 - o)
  have hq20 : 2 ^ (20 - o) ≤ 1048576 := pow20 (by omega)
  have hmod : Int.tmod (x : Int) ((2 ^ (20 - o) : Nat) : Int) = ((x % 2 ^ (20 - o) : Nat) : Int) := by
    rw [Int.tmod_eq_emod_of_nonneg (by omega)]; rfl
  have hlt := Nat.mod_lt x hq
  have hfrom : x % 2 ^ (20 - o) * 2 ^ o + 2 ^ o ≤ 1048576 := by
    have : (x % 2 ^ (20 - o) + 1) * 2 ^ o ≤ 2 ^ (20 - o) * 2 ^ o := Nat.mul_le_mul_right _ (by omega)
    rw [hmul, Nat.add_mul, Nat.one_mul] at this
    exact this
  have hm : ((x % 2 ^ (20 - o) : Nat) : Int) * ((2 ^ o : Nat) : Int) = ((x % 2 ^ (20 - o) * 2 ^ o : Nat) : Int) := by rw [Int.natCast_mul]
  refine ev_succ ?_
  simp only [paviorlaw01_WordOne.j1, hdiv]
  rw [wrap64_of (n := ((2 ^ (20 - o) : Nat) : Int)) (by omega) (by omega)]
  simp only [if_neg (show ¬ ((2 ^ o : Nat) : Int) = 0 by omega), if_neg (show ¬ ((2 ^ (20 - o) : Nat) : Int) = 0 by omega), hmod, hm]
  generalize hf : x % 2 ^ (20 - o) * 2 ^ o = fr at hfrom
  rw [wrap64_of (n := (fr : Int)) (by omega) (by omega), wrap64_of (n := (fr : Int) + ((2 ^ o : Nat) : Int)) (by omega) (by omega), ← Int.natCast_add]
  have hc : IsCut fr (fr + 2 ^ o) [⟨(fr : Int), (o : Int)⟩] := by rw [← hf]; exact one_cut _ o (by omega)
  refine Ev.bind (cut_ok fr (fr + 2 ^ o) (by omega) hfrom _ hc) (ev_now (fun k => ?_))
  simp [rd_T39]

theorem one_j0 (x o : Int) (hx0 : -9223372036854775808 ≤ x) (hx1 : x ≤ 9223372036854775807) (ho : 0 ≤ o) : Ev (fun k => paviorlaw01_WordOne.j0 k x o true) true := by
  have hmod : Int.tmod o 20 = ((o.toNat % 20 : Nat) : Int) := by
    rw [Int.tmod_eq_emod_of_nonneg ho]; omega
  have hlt := Nat.mod_lt o.toNat (show 20 > 0 by decide)
  refine ev_succ ?_
  simp only [paviorlaw01_WordOne.j0, hmod]
  refine Ev.bind (power_nat _ (by omega)) ?_
  by_cases h : x < 0
  · simp only [if_pos h]
    rw [wrap64_of (n := x + 1) (by omega) (by omega), wrap64_of (n := -(x + 1)) (by omega) (by omega)]
    obtain ⟨y, hy⟩ := Int.eq_ofNat_of_zero_le (show 0 ≤ -(x + 1) by omega)
    rw [hy]
    exact one_j1 y _ hlt
  · simp only [if_neg h]
    obtain ⟨y, rfl⟩ := Int.eq_ofNat_of_zero_le (show 0 ≤ x by omega)
    exact one_j1 y _ hlt

theorem WordOne : paviorlaw01_WordOne.Pure := by
  intro x o hx ho
  obtain ⟨x0, x1⟩ := wf_i64.mp hx
  obtain ⟨o0, o1⟩ := wf_i64.mp ho
  refine Ev.rounds ?_
  unfold paviorlaw01_WordOne.f
  refine Ev.bind up_ev ?_
  by_cases h : o < 0
  · simp only [if_pos h]
    rw [wrap64_of (n := o + 1) (by omega) (by omega), wrap64_of (n := -(o + 1)) (by omega) (by omega)]
    exact one_j0 x _ x0 x1 (by omega)
  · simp only [if_neg h]
    exact one_j0 x o x0 x1 (by omega)

end Go.Proofs.YtobbcfpkmmafnaaDoor.Pure
