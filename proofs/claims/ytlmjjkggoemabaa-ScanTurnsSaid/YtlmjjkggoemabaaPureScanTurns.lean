/- What is moved rises, where to falls; no free frame is broken at the order 0, and the greater the order, the more are: the pure statement of ScanTurns, for any frames, free runs, movable frames and order (more than 200 runs or 600 movable ones are let go by the law itself). -/
import Derived.Test.YtlmjjkggoemabaaPureScanBroken
import Derived.Test.YtlmjjkggoemabaaScanTurns
import Derived.Test.YtlmjjkggoemabaaQx12
namespace Go.Proofs.Ytlmjjkggoemabaa.Pure
open Go.RowKit Go.Proofs.Ytlmjjkggoemabaa.Q Go.Proofs.YtlmjjkggoemabaaW.PrintWords Go.Proofs.YtlmjjkggoemabaaW.PrintLast Go.Proofs.Ytlmjjkggoemabaa.ScanLib Go.Proofs.Ytlmjjkggoemabaa.Bits Go.Proofs.Ytlmjjkggoemabaa.Pow
set_option linter.unusedVariables false
set_option linter.unusedSimpArgs false

theorem pairs_le : ∀ (c : Nat) (f m : List Bool), (pairsOf c f m).length ≤ c := by
  intro c
  induction c with
  | zero => intro f m; simp [pairsOf]
  | succ c ih =>
    intro f m
    rw [pairsOf]
    split
    · have := ih (setF f m) (setM f m)
      simp; omega
    · simp

theorem turns_loop (n : Int) (free : List S41) (o : Int) (L : List S35) (hL : L.length ≤ 600) (hr : ∀ (i : Nat) (a b : S35), L[i]? = some a → L[i + 1]? = some b → a.f0 < b.f0 ∧ b.f1 < a.f1)
    (r : Bool) (h : ∀ x : Int, (L.length : Int) ≤ x → Ev (fun k => paviorlaw19_ScanTurns.l0 k n free o true L x) r) :
    ∀ (d i : Nat), L.length ≤ i + 1 + d → Ev (fun k => paviorlaw19_ScanTurns.l0 k n free o true L ((i + 1 : Nat) : Int)) r := by
  intro d
  induction d with
  | zero => intro i hi; exact h _ (by omega)
  | succ d ih =>
    intro i hi
    by_cases hlt : i + 1 < L.length
    · have h1 := ih (i + 1) (by omega)
      have g := hr i L[i] L[i + 1] (List.getElem?_eq_getElem _) (List.getElem?_eq_getElem _)
      have r1 : rd_T35 L ((i + 1 : Nat) : Int) = L[i + 1] := by
        unfold rd_T35
        rw [Int.toNat_natCast, List.getD_eq_getElem?_getD, List.getElem?_eq_getElem hlt]
        rfl
      have r0 : rd_T35 L (i : Int) = L[i] := by
        unfold rd_T35
        rw [Int.toNat_natCast, List.getD_eq_getElem?_getD, List.getElem?_eq_getElem (by omega)]
        rfl
      have w1 : wrap64 (((i + 1 : Nat) : Int) - 1) = (i : Int) := by rw [wrap64_of (by omega) (by omega)]; omega
      have w2 : wrap64 (((i + 1 : Nat) : Int) + 1) = ((i + 1 + 1 : Nat) : Int) := by rw [wrap64_of (by omega) (by omega)]; omega
      refine Ev.step (f := fun k => paviorlaw19_ScanTurns.j2 k n free o true L ((i + 1 : Nat) : Int) false) (fun k => ?_) (Ev.step (fun k => ?_) h1)
      · simp only [paviorlaw19_ScanTurns.l0]
        rw [w1, r1, r0, if_pos (by omega), if_pos (by omega), if_pos (by omega), if_pos (by omega), if_neg (by omega), decide_eq_false (by omega)]
      · simp only [paviorlaw19_ScanTurns.j2]
        rw [if_neg Bool.false_ne_true, w2]
    · exact h _ (by omega)

theorem broken_zero (n : Int) (free : List S41) : brokenOf n free 0 = 0 := by
  unfold brokenOf
  rw [show 2 ^ (0 : Int).toNat = 1 from rfl, ← ScanBroken.B_all _ 1 (by omega)]
  exact ScanTurns.B_one _ _ (Nat.le_refl _)
theorem broken_up (n : Int) (free : List S41) (o : Int) (h : 0 ≤ o) : brokenOf n free o ≤ brokenOf n free (o + 1) := by
  unfold brokenOf
  have h2 : 2 ^ (o + 1).toNat = 2 ^ o.toNat * 2 := by rw [show (o + 1).toNat = o.toNat + 1 by omega, Nat.pow_succ]
  have hp0 : 0 < 2 ^ o.toNat := Nat.two_pow_pos _
  rw [h2]
  generalize 2 ^ o.toNat = p at hp0 ⊢
  rw [← ScanBroken.B_all _ p hp0, ← ScanBroken.B_all _ (p * 2) (by omega)]
  exact ScanTurns.B_up _ p hp0 _

theorem turns_end (n : Int) (free : List S41) (o : Int) (L : List S35) (hf : free.length ≤ 600) (h : okAll n free []) (x : Int) (hx : (L.length : Int) ≤ x) :
    Ev (fun k => paviorlaw19_ScanTurns.l0 k n free o true L x) true := by
  have b0 := scan_broken_ev n free 0 hf
  have b1 := scan_broken_ev n free o hf
  have b2 := scan_broken_ev n free (wrap64 (o + 1)) hf
  rw [if_pos ⟨h, by omega, by omega⟩, broken_zero] at b0
  refine ev_succ ?_
  simp -implicitDefEqProofs only [paviorlaw19_ScanTurns.l0, if_neg (show ¬ x < (L.length : Int) by omega)]
  refine Ev.bind b0 ?_
  refine Ev.bind b1 ?_
  refine Ev.bind b2 ?_
  refine ev_succ ?_
  by_cases h0 : 0 ≤ o ∧ o ≤ 9
  · have e : wrap64 (o + 1) = o + 1 := wrap64_of (by omega) (by omega)
    rw [if_pos ⟨h, h0⟩, e]
    by_cases h1 : o + 1 ≤ 9
    · rw [if_pos ⟨h, by omega, h1⟩]
      have hb := broken_up n free o h0.1
      refine ev_now (fun k => ?_)
      simp only [paviorlaw19_ScanTurns.j3, Option.isNone_none, if_true]
      rw [decide_eq_true (by omega)]
      rfl
    · rw [if_neg (fun c => h1 c.2.2)]
      exact ev_now (fun k => by simp [paviorlaw19_ScanTurns.j3])
  · rw [if_neg (fun c => h0 c.2)]
    exact ev_now (fun k => by simp [paviorlaw19_ScanTurns.j3])

theorem scan_turns (n : Int) (free : List S41) (mv : List Int) (o : Int) : Ev (fun k => paviorlaw19_ScanTurns.f k n free mv o) true := by
  unfold paviorlaw19_ScanTurns.f
  refine Ev.bind up_ev ?_
  by_cases hs : free.length > 200 ∨ mv.length > 600
  · refine Ev.step (f := fun _ => some true) (fun k => ?_) (Ev.now _)
    by_cases h1 : (free.length : Int) > 200
    · rw [if_pos h1]; simp only [paviorlaw19_ScanTurns.j0]; rw [if_pos trivial]
    · rw [if_neg h1, show decide ((mv.length : Int) > 600) = true by simp; omega]; simp only [paviorlaw19_ScanTurns.j0]; rw [if_pos trivial]
  · have hf : free.length ≤ 600 := by omega
    have hm : mv.length ≤ 600 := by omega
    simp only [if_neg (show ¬ (free.length : Int) > 200 by omega), show decide ((mv.length : Int) > 600) = false by simp; omega]
    refine ev_succ ?_
    simp -implicitDefEqProofs only [paviorlaw19_ScanTurns.j0, Bool.false_eq_true, if_false]
    refine Ev.bind (pairs_ev n free mv hf hm) ?_
    by_cases h : okAll n free mv
    · rw [if_pos h]
      simp -implicitDefEqProofs only [Option.isNone_none, if_true]
      have hl : (thePairs n free mv).length ≤ 600 := by
        have := pairs_le n.toNat (fr n free) (mo n mv)
        have := h.2.1
        unfold thePairs
        omega
      have h0 : okAll n free [] := ⟨h.1, h.2.1, h.2.2.1, by simp⟩
      exact turns_loop n free o (thePairs n free mv) hl (ScanTurns.rises _ _ _ (by rw [fr_len, mo_len])) true (fun x hx => turns_end n free o _ hf h0 x hx) (thePairs n free mv).length 0 (by omega)
    · rw [if_neg h]
      exact ev_now (fun k => by simp)

theorem ScanTurns : paviorlaw19_ScanTurns.Pure := fun n free mv o _ _ _ _ _ _ => Ev.rounds (scan_turns n free mv o)

end Go.Proofs.Ytlmjjkggoemabaa.Pure
