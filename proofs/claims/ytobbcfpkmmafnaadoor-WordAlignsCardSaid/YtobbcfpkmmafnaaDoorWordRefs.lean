/- Layer 1: the reference's Cut; the head of the layer's statements. -/
import Derived.Test.YtobbcfpkmmafnaaDoorWordCut
import Derived.Test.YtobbcfpkmmafnaaDoorPow
import Derived.Test.YtobbcfpkmmafnaaDoorQx4
namespace Go.Proofs.YtobbcfpkmmafnaaDoor.WordLib
open Go.RowKit Go.Proofs.YtobbcfpkmmafnaaDoorW.PrintWords Go.Proofs.YtobbcfpkmmafnaaDoorW.PrintLast Go.Proofs.YtobbcfpkmmafnaaDoorW.PrintMore Go.Proofs.YtobbcfpkmmafnaaDoor.Bits Go.Proofs.YtobbcfpkmmafnaaDoor.Pow Go.Proofs.YtobbcfpkmmafnaaDoor.Q
set_option linter.unusedVariables false
set_option linter.unusedSimpArgs false

theorem pw_nat (o : Nat) : pw (o : Int) = ((2 ^ o : Nat) : Int) := by unfold pw; rw [Int.toNat_natCast]
theorem power_nat (o : Nat) (ho : o ≤ 62) : Ev (fun k => paviorref01_Power.f k (o : Int)) ((2 ^ o : Nat) : Int) := by
  rw [← pw_nat]
  exact power_ev (o : Int) (by omega) (by omega)

theorem climb (a b o : Nat) (hor : IsOrd a b o) (hb : b ≤ 1048576) (out : List S39) (r : List S39)
    (h : Ev (fun k => paviorref01_Cut.j2 k (b : Int) out (a : Int) (o : Int) false) r) :
    ∀ (d p : Nat), p + d = o → Ev (fun k => paviorref01_Cut.l1 k (b : Int) out (a : Int) (p : Int)) r := by
  have hm : ∀ q : Nat, Int.tmod (a : Int) ((2 ^ q : Nat) : Int) = ((a % 2 ^ q : Nat) : Int) := fun q => by
    rw [Int.tmod_eq_emod_of_nonneg (by omega)]; rfl
  obtain ⟨h1, h2, h3, h4⟩ := hor
  intro d
  induction d with
  | zero =>
    intro p hp
    have e : p = o := by omega
    subst e
    refine ev_succ ?_
    simp only [paviorref01_Cut.l1]
    by_cases h20 : p < 20
    · have hwp : wrap64 ((p : Int) + 1) = ((p + 1 : Nat) : Int) := by rw [wrap64_of (by omega) (by omega)]; omega
      simp only [if_pos (show (p : Int) < 20 by omega), hwp]
      refine Ev.bind (power_nat (p + 1) (by omega)) ?_
      have hpp := Nat.two_pow_pos (p + 1)
      have hpl := pow20 (show p + 1 ≤ 20 by omega)
      simp only [if_neg (show ¬ ((2 ^ (p + 1) : Nat) : Int) = 0 by omega), hm]
      by_cases hz : a % 2 ^ (p + 1) = 0
      · simp only [if_pos (show ((a % 2 ^ (p + 1) : Nat) : Int) = 0 by omega)]
        have hnot : ¬ a + 2 ^ (p + 1) ≤ b := fun hle => by have := h4 (p + 1) (by omega) hz hle; omega
        simp only [wrap64_of (show -9223372036854775808 ≤ (a : Int) + ((2 ^ (p + 1) : Nat) : Int) by omega) (by omega), show decide ((a : Int) + ((2 ^ (p + 1) : Nat) : Int) ≤ (b : Int)) = false from decide_eq_false (fun hle => hnot (Int.ofNat_le.mp (by rw [Int.natCast_add]; exact hle)))]
        exact h
      · simp only [if_neg (show ¬ ((a % 2 ^ (p + 1) : Nat) : Int) = 0 by omega)]
        exact h
    · simp only [if_neg (show ¬ (p : Int) < 20 by omega)]
      exact h
  | succ d ih =>
    intro p hp
    have hwp : wrap64 ((p : Int) + 1) = ((p + 1 : Nat) : Int) := by rw [wrap64_of (by omega) (by omega)]; omega
    have hz : a % 2 ^ (p + 1) = 0 := mod_mono (by omega) h2
    have hle : 2 ^ (p + 1) ≤ 2 ^ o := Nat.pow_le_pow_right (by decide) (by omega)
    have hpl := pow20 (show p + 1 ≤ 20 by omega)
    have hpp := Nat.two_pow_pos (p + 1)
    refine ev_succ ?_
    simp only [paviorref01_Cut.l1]
    simp only [if_pos (show (p : Int) < 20 by omega), hwp]
    refine Ev.bind (power_nat (p + 1) (by omega)) ?_
    simp only [if_neg (show ¬ ((2 ^ (p + 1) : Nat) : Int) = 0 by omega), hm, if_pos (show ((a % 2 ^ (p + 1) : Nat) : Int) = 0 by omega)]
    simp only [wrap64_of (show -9223372036854775808 ≤ (a : Int) + ((2 ^ (p + 1) : Nat) : Int) by omega) (by omega), show decide ((a : Int) + ((2 ^ (p + 1) : Nat) : Int) ≤ (b : Int)) = true from decide_eq_true (by rw [← Int.natCast_add]; exact Int.ofNat_le.mpr (by omega))]
    refine ev_succ ?_
    simp only [paviorref01_Cut.j2, if_true]
    have := ih (p + 1) (by omega)
    rw [wrap64_of (show -9223372036854775808 ≤ (p : Int) + 1 by omega) (by omega), show (p : Int) + 1 = ((p + 1 : Nat) : Int) by omega]
    exact this

theorem ref_cut_loop (b : Nat) (hb : b ≤ 1048576) : ∀ (d a : Nat) (l out : List S39), b - a ≤ d → IsCut a b l → out.length + d ≤ 4000000 →
    Ev (fun k => paviorref01_Cut.l0 k (b : Int) out (a : Int)) (out ++ l) := by
  intro d
  induction d with
  | zero =>
    intro a l out hd hc ho
    cases hc with
    | nil h =>
      refine ev_succ ?_
      simp only [paviorref01_Cut.l0]
      rw [List.append_nil]
      exact ev_now (fun k => by rw [if_neg (by omega)])
    | cons h _ _ => omega
  | succ d ih =>
    intro a l out hd hc ho
    cases hc with
    | nil h =>
      refine ev_succ ?_
      simp only [paviorref01_Cut.l0]
      rw [List.append_nil]
      exact ev_now (fun k => by rw [if_neg (by omega)])
    | @cons _ _ o l' hab hor hrest =>
      have hp := Nat.two_pow_pos o
      have hp20 := pow20 hor.1
      have h3 := hor.2.2.1
      have ho20 := hor.1
      have h1 := ih (a + 2 ^ o) l' (out ++ [⟨(a : Int), (o : Int)⟩]) (by omega) hrest (by simp; omega)
      rw [List.append_assoc, List.singleton_append] at h1
      have h2 : Ev (fun k => paviorref01_Cut.j2 k (b : Int) out (a : Int) (o : Int) false) (out ++ ⟨(a : Int), (o : Int)⟩ :: l') := by
        refine ev_succ ?_
        simp only [paviorref01_Cut.j2, Bool.false_eq_true, if_false, if_pos (show out.length < 8796093022208 by omega)]
        refine Ev.bind (power_nat o (by omega)) ?_
        rw [wrap64_of (by omega) (by omega), ← Int.natCast_add]
        exact h1
      have h4 := climb a b o hor hb out _ h2 o 0 (by omega)
      refine ev_succ (Ev.congr (fun k => ?_) h4)
      simp only [paviorref01_Cut.l0]
      rw [if_pos (by omega)]
      rfl

theorem ref_cut_ok (a b : Nat) (hb : b ≤ 1048576) (l : List S39) (hl : IsCut a b l) : Ev (fun k => paviorref01_Cut.f k (a : Int) (b : Int)) l :=
  ref_cut_loop b hb (b - a) a l [] (Nat.le_refl _) hl (by simp; omega)

end Go.Proofs.YtobbcfpkmmafnaaDoor.WordLib
