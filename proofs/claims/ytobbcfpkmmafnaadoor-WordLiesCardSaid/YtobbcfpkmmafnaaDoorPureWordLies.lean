/- The runs of a cut lie one behind the other, from one end to the other, and two neighbours of one order are no two halves of one run: the pure statement of WordLies, for every two numbers. -/
import Derived.Test.YtobbcfpkmmafnaaDoorWordField
import Derived.Test.YtobbcfpkmmafnaaDoorWordRefs
import Derived.Test.YtobbcfpkmmafnaaDoorQx6
namespace Go.Proofs.YtobbcfpkmmafnaaDoor.Pure
open Go.RowKit Go.Proofs.YtobbcfpkmmafnaaDoor.Q Go.Proofs.YtobbcfpkmmafnaaDoorW.PrintWords Go.Proofs.YtobbcfpkmmafnaaDoorW.PrintLast Go.Proofs.YtobbcfpkmmafnaaDoor.WordLib Go.Proofs.YtobbcfpkmmafnaaDoor.Bits
set_option linter.unusedVariables false
set_option linter.unusedSimpArgs false

theorem rdT_at (pre : List S39) (x : S39) (suf : List S39) : rd_T39 (pre ++ x :: suf) (pre.length : Int) = x := by
  unfold rd_T39
  rw [List.getD_eq_getElem?_getD]
  simp
/-- what the last of the runs ahead is -/
def Ends (b : Nat) (pre : List S39) (at_ : Nat) : Prop := pre = [] ∨ ∃ p a o, pre = p ++ [⟨((a : Nat) : Int), ((o : Nat) : Int)⟩] ∧ a + 2 ^ o = at_ ∧ IsOrd a b o

theorem lies_loop (a0 b : Nat) (hab : a0 ≤ b) (hb : b ≤ 1048576) : ∀ (suf pre : List S39) (a : Nat), IsCut a b suf → a ≤ b → Ends b pre a → (pre ++ suf).length ≤ 4000000 →
    Ev (fun k => paviorlaw01_WordLies.l0 k (b : Int) true (pre ++ suf) (a : Int) (pre.length : Int)) true := by
  intro suf
  induction suf with
  | nil =>
    intro pre a hc hle he hlen
    cases hc with
    | nil h =>
      refine ev_succ (ev_now (fun k => ?_))
      simp only [paviorlaw01_WordLies.l0]
      rw [if_neg (by simp)]
      have : a = b := by omega
      subst this
      simp
  | cons x suf ih =>
    intro pre a hc hle he hlen
    cases hc with
    | @cons _ _ o _ hlt hor hrest =>
      have hp := Nat.two_pow_pos o
      have ho20 := hor.1
      have hp20 := pow20 hor.1
      have hend := hor.2.2.1
      have hll : (pre.length : Int) < ((pre ++ (⟨(a : Int), (o : Int)⟩ : S39) :: suf).length : Int) := by simp; omega
      have hlen' : (pre.length : Int) ≤ 4000000 := by simp at hlen; omega
      have h1 := ih (pre ++ [⟨(a : Int), (o : Int)⟩]) (a + 2 ^ o) hrest (by omega) (.inr ⟨pre, a, o, rfl, rfl, hor⟩) (by simpa using hlen)
      rw [List.append_assoc, List.singleton_append, List.length_append, List.length_singleton] at h1
      have hj2 : Ev (fun k => paviorlaw01_WordLies.j2 k (b : Int) true (pre ++ (⟨(a : Int), (o : Int)⟩ : S39) :: suf) (a : Int) (pre.length : Int) ((2 ^ o : Nat) : Int) false) true := by
        refine ev_succ ?_
        simp only [paviorlaw01_WordLies.j2, Bool.false_eq_true, if_false]
        rw [wrap64_of (by omega) (by omega), wrap64_of (by omega) (by omega), ← Int.natCast_add]
        exact h1
      refine ev_succ ?_
      simp only [paviorlaw01_WordLies.l0, if_pos hll, if_pos (show (0 : Int) ≤ (pre.length : Int) by omega), rdT_at, if_true, if_neg (show ¬ (o : Int) < 0 by omega), show decide ((o : Int) > 20) = false by simp; omega]
      refine ev_succ ?_
      simp only [paviorlaw01_WordLies.j1, Bool.false_eq_true, if_false, if_pos hll, if_pos (show (0 : Int) ≤ (pre.length : Int) by omega), rdT_at]
      refine Ev.bind (power_nat o (by omega)) ?_
      have hmod : Int.tmod (a : Int) ((2 ^ o : Nat) : Int) = 0 := by
        rw [Int.tmod_eq_emod_of_nonneg (by omega), ← Int.natCast_emod, hor.2.1]; rfl
      simp only [if_neg (show ¬ ((2 ^ o : Nat) : Int) = 0 by omega), if_pos hmod]
      rcases he with rfl | ⟨p, a', o', rfl, hae, hor'⟩
      · simp only [List.length_nil, if_neg (show ¬ (((0 : Nat) : Int) > 0) by decide)]
        exact hj2
      · have hpl : ((p ++ [(⟨(a' : Int), (o' : Int)⟩ : S39)]).length : Int) = (p.length : Int) + 1 := by simp
        have hprev : rd_T39 ((p ++ [(⟨(a' : Int), (o' : Int)⟩ : S39)]) ++ (⟨(a : Int), (o : Int)⟩ : S39) :: suf) (wrap64 (((p ++ [(⟨(a' : Int), (o' : Int)⟩ : S39)]).length : Int) - 1)) = ⟨(a' : Int), (o' : Int)⟩ := by
          rw [wrap64_of (by omega) (by omega), hpl, show (p.length : Int) + 1 - 1 = (p.length : Int) by omega, List.append_assoc]
          exact rdT_at p _ _
        have hw : wrap64 (((p ++ [(⟨(a' : Int), (o' : Int)⟩ : S39)]).length : Int) - 1) = (p.length : Int) := by rw [wrap64_of (by omega) (by omega), hpl]; omega
        simp only [hprev]
        simp only [hw, if_pos (show ((p ++ [(⟨(a' : Int), (o' : Int)⟩ : S39)]).length : Int) > 0 by omega), if_pos (show (0 : Int) ≤ (p.length : Int) by omega), if_pos (show (p.length : Int) < (((p ++ [(⟨(a' : Int), (o' : Int)⟩ : S39)]) ++ (⟨(a : Int), (o : Int)⟩ : S39) :: suf).length : Int) by simp; omega)]
        by_cases heq : (o' : Int) = (o : Int)
        · have heq' : o' = o := by omega
          subst heq'
          simp only [if_true]
          rw [wrap64_of (n := 2 * ((2 ^ o' : Nat) : Int)) (by omega) (by omega)]
          simp only [if_neg (show ¬ 2 * ((2 ^ o' : Nat) : Int) = 0 by omega)]
          by_cases hz : Int.tmod (a' : Int) (2 * ((2 ^ o' : Nat) : Int)) = 0
          · simp only [if_pos hz]
            have h20 : ¬ (o' : Int) < 20 := by
              intro h
              have hz' : a' % 2 ^ (o' + 1) = 0 := by
                rw [Int.tmod_eq_emod_of_nonneg (by omega)] at hz
                rw [Nat.pow_succ, Nat.mul_comm]
                have : ((a' % (2 * 2 ^ o') : Nat) : Int) = 0 := by rw [Int.natCast_emod, Int.natCast_mul]; exact hz
                omega
              have := hor'.2.2.2 (o' + 1) (by omega) hz' (by rw [Nat.pow_succ]; omega)
              omega
            rw [show decide ((o' : Int) < 20) = false by simp; omega]
            exact hj2
          · simp only [if_neg hz]
            exact hj2
        · simp only [if_neg heq]
          exact hj2

theorem WordLies : paviorlaw01_WordLies.Pure := by
  intro a b ha hb
  refine Ev.rounds ?_
  unfold paviorlaw01_WordLies.f
  refine Ev.bind up_ev ?_
  by_cases h : a < 0 ∨ b < a ∨ 1048576 < b
  · refine Ev.bind (cut_no a b h) (ev_now (fun k => by simp))
  · obtain ⟨a, rfl⟩ := Int.eq_ofNat_of_zero_le (show 0 ≤ a by omega)
    obtain ⟨b, rfl⟩ := Int.eq_ofNat_of_zero_le (show 0 ≤ b by omega)
    obtain ⟨l, hl, hlen⟩ := isCut_ex b (b - a) a (Nat.le_refl _)
    refine Ev.bind (cut_ok a b (by omega) (by omega) l hl) ?_
    simp only [Option.isNone_none, if_true]
    exact lies_loop a b (by omega) (by omega) l [] a hl (by omega) (.inl rfl) (by simp; omega)

end Go.Proofs.YtobbcfpkmmafnaaDoor.Pure
