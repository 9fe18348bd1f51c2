/- What is moved where, next and in all, or what is amiss, is what the document's reference says: the pure statement of ScanPairs, for any frames, free runs and movable frames (more than 200 runs or 600 movable ones are let go by the law itself). -/
import Derived.Test.YtlmjjkggoemabaaScanPairs
import Derived.Test.YtlmjjkggoemabaaQx8
namespace Go.Proofs.Ytlmjjkggoemabaa.Pure
open Go.RowKit Go.Proofs.Ytlmjjkggoemabaa.Q Go.Proofs.YtlmjjkggoemabaaW.PrintWords Go.Proofs.YtlmjjkggoemabaaW.PrintLast Go.Proofs.Ytlmjjkggoemabaa.ScanLib Go.Proofs.Ytlmjjkggoemabaa.Bits
set_option linter.unusedVariables false
set_option linter.unusedSimpArgs false

theorem same_loop (a b : Int) (e : Option Int) (l : List S35) (hl : l.length ≤ 600) (r : Bool)
    (hr : (if (l.length : Int) = 0 then (if e.isNone = true then (some false) else (if (e.getD 0) = 3 then (if a = 0 then (some (b == 0)) else (some false)) else (some false))) else (if e.isNone = true then (if 0 < (l.length : Int) then (if a = ((rd_T35 l 0).f0) then (some (b == ((rd_T35 l 0).f1))) else (some false)) else (none)) else (some false))) = some r) :
    ∀ (d i : Nat), i + d = l.length → Ev (fun k => paviorlaw19_ScanPairs.l0 k true a b e l l (i : Int)) r := by
  intro d
  induction d with
  | zero =>
    intro i hi
    refine Ev.step (f := fun _ => some r) (fun k => ?_) (Ev.now _)
    simp only [paviorlaw19_ScanPairs.l0]
    rw [if_neg (by omega), ← hr]
    simp only [if_true]
  | succ d ih =>
    intro i hi
    refine Ev.step (fun k => ?_) (ih (i + 1) (by omega))
    simp only [paviorlaw19_ScanPairs.l0]
    rw [if_pos (by omega), if_pos (by omega), if_pos (by omega), if_neg (by simp), wrap64_of (by omega) (by omega)]
    rfl

theorem pairs_len : ∀ (c : Nat) (f m : List Bool), (pairsOf c f m).length ≤ c := by
  intro c
  induction c with
  | zero => intro f m; simp [pairsOf]
  | succ c ih =>
    intro f m
    rw [pairsOf]
    split
    · have := ih (setF f m) (setM f m)
      simp; omega
    · simp

theorem scan_pairs (n : Int) (free : List S41) (mv : List Int) : Ev (fun k => paviorlaw19_ScanPairs.f k n free mv) true := by
  refine Ev.bind (f := fun k t184 => (if (free.length : Int) > 200 then (paviorlaw19_ScanPairs.j0 k n free mv t184 true) else (paviorlaw19_ScanPairs.j0 k n free mv t184 (decide ((mv.length : Int) > 600))))) up_ev ?_
  by_cases hs : free.length > 200 ∨ mv.length > 600
  · refine Ev.step (f := fun _ => some true) (fun k => ?_) (Ev.now _)
    by_cases h1 : (free.length : Int) > 200
    · rw [if_pos h1]; simp only [paviorlaw19_ScanPairs.j0]; rw [if_pos trivial]
    · rw [if_neg h1, show decide ((mv.length : Int) > 600) = true by simp; omega]; simp only [paviorlaw19_ScanPairs.j0]; rw [if_pos trivial]
  · have hf : free.length ≤ 600 := by omega
    have hm : mv.length ≤ 600 := by omega
    simp only [if_neg (show ¬ (free.length : Int) > 200 by omega), show decide ((mv.length : Int) > 600) = false by simp; omega]
    refine ev_succ ?_
    simp only [paviorlaw19_ScanPairs.j0, Bool.false_eq_true, if_false, if_true]
    have hp := pair_ev n free mv hf hm
    have hps := pairs_ev n free mv hf hm
    have hmy := ref_may_ev n free mv hf hm
    refine Ev.bind hp ?_
    refine Ev.bind hps ?_
    refine Ev.bind hmy ?_
    by_cases h : okAll n free mv
    · simp only [h, decide_true, if_true]
      refine Ev.bind (ref_pairs_ev n free mv h hf hm) ?_
      have hlen : (thePairs n free mv).length ≤ 600 := by
        have := pairs_len n.toNat (fr n free) (mo n mv)
        have := h.2.1
        unfold thePairs
        omega
      have hhead := thePairs_head n free mv h
      have hl := same_loop (if cond (fr n free) (mo n mv) then (firstT (mo n mv) (mo n mv).length, lastT (fr n free) (fr n free).length, none) else ((0 : Int), (0 : Int), some (3 : Int))).1 (if cond (fr n free) (mo n mv) then (firstT (mo n mv) (mo n mv).length, lastT (fr n free) (fr n free).length, none) else ((0 : Int), (0 : Int), some (3 : Int))).2.1 (if cond (fr n free) (mo n mv) then (firstT (mo n mv) (mo n mv).length, lastT (fr n free) (fr n free).length, none) else ((0 : Int), (0 : Int), some (3 : Int))).2.2 (thePairs n free mv) hlen true (by
        by_cases c : cond (fr n free) (mo n mv)
        · rw [if_pos c] at hhead
          rw [hhead, if_neg (by simp; omega)]
          simp [c, rd_T35]
        · rw [if_neg c] at hhead
          rw [hhead, if_pos (by simp)]
          simp [c]) (thePairs n free mv).length 0 (by omega)
      refine Ev.step (fun k => ?_) hl
      rw [if_pos (by rfl)]
      simp only [paviorlaw19_ScanPairs.j1]
      rw [if_neg (by simp)]
      rfl
    · simp only [h, decide_false, if_false]
      exact Ev.congr (fun k => by simp) (Ev.now true)

theorem ScanPairs : paviorlaw19_ScanPairs.Pure := by
  intro n free mv _ _ _ _ _
  exact Ev.rounds (scan_pairs n free mv)

end Go.Proofs.Ytlmjjkggoemabaa.Pure
