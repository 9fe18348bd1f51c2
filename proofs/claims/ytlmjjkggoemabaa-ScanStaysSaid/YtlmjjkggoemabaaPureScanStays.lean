/- What is handed in stays as it is; asked again, the same is told: the pure statement of ScanStays, for any frames, free runs and movable frames (more than 200 runs or 600 movable ones are let go by the law itself). -/
import Derived.Test.YtlmjjkggoemabaaPureScanBroken
import Derived.Test.YtlmjjkggoemabaaQx11
namespace Go.Proofs.Ytlmjjkggoemabaa.Pure
open Go.RowKit Go.Proofs.Ytlmjjkggoemabaa.Q Go.Proofs.YtlmjjkggoemabaaW.PrintWords Go.Proofs.YtlmjjkggoemabaaW.PrintLast Go.Proofs.Ytlmjjkggoemabaa.ScanLib Go.Proofs.Ytlmjjkggoemabaa.Bits Go.Proofs.Ytlmjjkggoemabaa.Pow
set_option linter.unusedVariables false
set_option linter.unusedSimpArgs false

theorem stays_runs (n : Int) (free : List S41) (mv b : List Int) (L : List S35) (e : Option Int) (hl : free.length ≤ 600) (r : Bool) (h : Ev (fun k => paviorlaw19_ScanStays.l1 k n free mv true b L e 0) r) :
    ∀ (d i : Nat), i + d = free.length → Ev (fun k => paviorlaw19_ScanStays.l0 k n free mv true free b L e (i : Int)) r := by
  intro d
  induction d with
  | zero =>
    intro i hi
    refine Ev.step (fun k => ?_) h
    simp only [paviorlaw19_ScanStays.l0]
    rw [if_neg (by omega)]
  | succ d ih =>
    intro i hi
    refine Ev.step (fun k => ?_) (ih (i + 1) (by omega))
    simp only [paviorlaw19_ScanStays.l0]
    rw [if_pos (by omega), if_pos (by omega), if_pos (by omega), if_neg (by simp), wrap64_of (by omega) (by omega)]
    rfl
theorem stays_moved (n : Int) (free : List S41) (mv : List Int) (L : List S35) (e : Option Int) (hl : mv.length ≤ 600) (r : Bool) (h : Ev (fun k => paviorlaw19_ScanStays.l2 k n free mv true L e (L.length : Int) 0) r) :
    ∀ (d i : Nat), i + d = mv.length → Ev (fun k => paviorlaw19_ScanStays.l1 k n free mv true mv L e (i : Int)) r := by
  intro d
  induction d with
  | zero =>
    intro i hi
    refine Ev.step (fun k => ?_) h
    simp only [paviorlaw19_ScanStays.l1]
    rw [if_neg (by omega)]
  | succ d ih =>
    intro i hi
    refine Ev.step (fun k => ?_) (ih (i + 1) (by omega))
    simp only [paviorlaw19_ScanStays.l1]
    rw [if_pos (by omega), if_pos (by omega), if_pos (by omega), if_pos trivial, wrap64_of (by omega) (by omega)]
    rfl
theorem stays_over (n : Int) (free : List S41) (mv : List Int) (e : Option Int) (c : Nat) (hc : c ≤ 600) (r : Bool) (h : ∀ L : List S35, L.length = c → Ev (fun k => paviorlaw19_ScanStays.l2 k n free mv true L e (c : Int) (c : Int)) r) :
    ∀ (d i : Nat), i + d = c → ∀ L : List S35, L.length = c → Ev (fun k => paviorlaw19_ScanStays.l2 k n free mv true L e (c : Int) (i : Int)) r := by
  intro d
  induction d with
  | zero =>
    intro i hi L hL
    obtain rfl : i = c := by omega
    exact h L hL
  | succ d ih =>
    intro i hi L hL
    refine Ev.step (fun k => ?_) (ih (i + 1) (by omega) (L.set i ⟨-1, -1⟩) (by simpa using hL))
    simp only [paviorlaw19_ScanStays.l2]
    rw [if_pos (by omega), if_pos (by omega), wrap64_of (by omega) (by omega)]
    rfl
theorem stays_pairs_len : ∀ (c : Nat) (f m : List Bool), (pairsOf c f m).length ≤ c := by
  intro c
  induction c with
  | zero => intro f m; simp [pairsOf]
  | succ c ih =>
    intro f m
    rw [pairsOf]
    split
    · have := ih (setF f m) (setM f m)
      simp; omega
    · simp

theorem stays_end (n : Int) (free : List S41) (mv : List Int) (hf : free.length ≤ 600) (hm : mv.length ≤ 600) (L : List S35) (c : Nat) (hL : L.length = c) (hc : c = (if okAll n free mv then (thePairs n free mv, (none : Option Int)) else ([], some 1)).1.length) :
    Ev (fun k => paviorlaw19_ScanStays.l2 k n free mv true L (if okAll n free mv then (thePairs n free mv, (none : Option Int)) else ([], some 1)).2 (c : Int) (c : Int)) true := by
  refine ev_succ ?_
  simp -implicitDefEqProofs only [paviorlaw19_ScanStays.l2, if_neg (show ¬ (c : Int) < (L.length : Int) by omega)]
  refine Ev.bind (pairs_ev n free mv hf hm) ?_
  refine ev_now (fun k => ?_)
  by_cases h : okAll n free mv
  · have hh := thePairs_head n free mv h
    rw [if_pos h] at hc
    simp only [if_pos h]
    generalize thePairs n free mv = l at *
    dsimp only at hc
    by_cases hcd : cond (fr n free) (mo n mv)
    · rw [if_pos hcd] at hh
      have hl : 0 < l.length := by rw [hh]; simp
      have h0 : 0 ≤ (rd_T35 l 0).f0 := by rw [hh]; simpa [rd_T35] using hcd.1
      simp only [Option.isNone_none, if_true]
      rw [if_pos (by omega), if_neg (by omega), if_pos (by omega), decide_eq_true h0]
    · rw [if_neg hcd] at hh
      subst hh
      simp only [Option.isNone_none, if_true]
      rw [if_pos (by omega), if_pos (by simpa using hc)]
  · rw [if_neg h] at hc
    simp only [if_neg h]
    simp only [List.length_nil] at hc
    subst hc
    simp

theorem scan_stays (n : Int) (free : List S41) (mv : List Int) : Ev (fun k => paviorlaw19_ScanStays.f k n free mv) true := by
  unfold paviorlaw19_ScanStays.f
  refine Ev.bind up_ev ?_
  by_cases hs : free.length > 200 ∨ mv.length > 600
  · refine Ev.step (f := fun _ => some true) (fun k => ?_) (Ev.now _)
    by_cases h1 : (free.length : Int) > 200
    · rw [if_pos h1]; simp only [paviorlaw19_ScanStays.j0]; rw [if_pos trivial]
    · rw [if_neg h1, show decide ((mv.length : Int) > 600) = true by simp; omega]; simp only [paviorlaw19_ScanStays.j0]; rw [if_pos trivial]
  · have hf : free.length ≤ 600 := by omega
    have hm : mv.length ≤ 600 := by omega
    simp only [if_neg (show ¬ (free.length : Int) > 200 by omega), show decide ((mv.length : Int) > 600) = false by simp; omega]
    have hp := pairs_ev n free mv hf hm
    have hb := scan_broken_ev n free 2 hf
    have hl : (if okAll n free mv then (thePairs n free mv, (none : Option Int)) else ([], some 1)).1.length ≤ 600 := by
      by_cases h : okAll n free mv
      · rw [if_pos h]
        have := stays_pairs_len n.toNat (fr n free) (mo n mv)
        have := h.2.1
        unfold thePairs
        dsimp only
        omega
      · rw [if_neg h]
        simp
    have h2 := stays_over n free mv (if okAll n free mv then (thePairs n free mv, (none : Option Int)) else ([], some 1)).2 _ hl true (fun L hL => stays_end n free mv hf hm L _ hL rfl) _ 0 (Nat.zero_add _) (if okAll n free mv then (thePairs n free mv, (none : Option Int)) else ([], some 1)).1 rfl
    have h1 := stays_moved n free mv _ _ hm true h2 mv.length 0 (by omega)
    have h0 := stays_runs n free mv mv _ _ hf true h1 free.length 0 (by omega)
    refine Ev.step (f := fun k => (scan_Pairs.f k n free mv).bind fun bt231 => ((scan_Broken.f k n free 2).bind fun bt235 => (paviorlaw19_ScanStays.l0 k n free mv true free mv bt231.1 bt231.2 0))) (fun k => ?_) ?_
    · simp only [paviorlaw19_ScanStays.j0, Bool.false_eq_true, if_false, Option.bind_some, List.nil_append, List.length_nil, Nat.zero_add]
      rw [if_pos (by omega), if_pos (by omega)]
    · exact Ev.bind hp (Ev.bind hb h0)

theorem ScanStays : paviorlaw19_ScanStays.Pure := fun n free mv _ _ _ _ _ => Ev.rounds (scan_stays n free mv)

end Go.Proofs.Ytlmjjkggoemabaa.Pure
