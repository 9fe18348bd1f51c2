/- How many of any free frames are in no free block of any order, or what is amiss, is what the document's reference says: the pure statement of ScanBroken, for any frames, free runs and order (more than 200 runs are let go by the law itself). -/
import Derived.Test.YtlmjjkggoemabaaScanBroken
import Derived.Test.YtlmjjkggoemabaaScanPairs
namespace Go.Proofs.Ytlmjjkggoemabaa.Pure
open Go.RowKit Go.Proofs.Ytlmjjkggoemabaa.Q Go.Proofs.YtlmjjkggoemabaaW.PrintWords Go.Proofs.YtlmjjkggoemabaaW.PrintLast Go.Proofs.Ytlmjjkggoemabaa.ScanLib Go.Proofs.Ytlmjjkggoemabaa.Bits Go.Proofs.Ytlmjjkggoemabaa.Pow
set_option linter.unusedVariables false
set_option linter.unusedSimpArgs false

def brokenOf (n : Int) (free : List S41) (o : Int) : Nat := HBroken.tot (marks (List.replicate n.toNat false) free) (2 ^ o.toNat) (List.range (HBroken.rounds (marks (List.replicate n.toNat false) free).length (2 ^ o.toNat)))

theorem scan_broken_ev (n : Int) (free : List S41) (o : Int) (hf : free.length ≤ 600) :
    Ev (fun k => scan_Broken.f k n free o) (if okAll n free [] ∧ 0 ≤ o ∧ o ≤ 9 then ((brokenOf n free o : Int), none) else (0, some 1)) := by
  unfold scan_Broken.f
  refine Ev.bind (marked_ev n free [] hf (by simp)) ?_
  by_cases h : okAll n free []
  · rw [if_pos h]
    have hn1 := h.1
    have hn2 := h.2.1
    have hl : (marks (List.replicate n.toNat false) free).length = n.toNat := by rw [marks_len]; simp
    by_cases h0 : o < 0
    · have e : (if okAll n free [] ∧ 0 ≤ o ∧ o ≤ 9 then ((brokenOf n free o : Int), (none : Option Int)) else (0, some 1)) = (0, some 1) := if_neg (fun h => by omega)
      rw [e]
      exact ev_now (fun k => by simp only [if_true]; rw [if_pos h0])
    · by_cases h9 : 9 < o
      · have e : (if okAll n free [] ∧ 0 ≤ o ∧ o ≤ 9 then ((brokenOf n free o : Int), (none : Option Int)) else (0, some 1)) = (0, some 1) := if_neg (fun h => by omega)
        rw [e]
        exact ev_now (fun k => by simp only [if_true]; rw [if_neg h0, if_pos h9])
      · have e : (if okAll n free [] ∧ 0 ≤ o ∧ o ≤ 9 then ((brokenOf n free o : Int), (none : Option Int)) else (0, some 1)) = ((brokenOf n free o : Int), none) := if_pos ⟨h, by omega, by omega⟩
        rw [e]
        refine ev_now (fun k => ?_)
        simp only [if_true]
        rw [if_neg h0, if_neg h9, if_pos (by omega), if_pos (by omega)]
        rfl
  · have e : (if okAll n free [] ∧ 0 ≤ o ∧ o ≤ 9 then ((brokenOf n free o : Int), (none : Option Int)) else (0, some 1)) = (0, some 1) := if_neg (fun h' => h h'.1)
    rw [if_neg h, e]
    exact ev_now (fun k => by simp)

theorem ref_broken_ev (n : Int) (free : List S41) (o : Int) (h : okAll n free []) (h0 : 0 ≤ o) (h9 : o ≤ 9) (hf : free.length ≤ 600) :
    Ev (fun k => paviorref19_Broken.f k n free o) (brokenOf n free o : Int) := by
  have hn1 := h.1
  have hn2 := h.2.1
  have hl : (marks (List.replicate n.toNat false) free).length = n.toNat := by rw [marks_len]; simp
  unfold paviorref19_Broken.f
  refine Ev.bind (ref_free_ev n free (by omega) (by omega) h.2.2.1 hf) ?_
  refine Ev.bind (power_ev o h0 (by omega)) ?_
  unfold pw brokenOf
  have hp0 : 0 < 2 ^ o.toNat := Nat.two_pow_pos _
  have hp9 : 2 ^ o.toNat ≤ 512 := Nat.pow_le_pow_right (by decide) (show o.toNat ≤ 9 by omega)
  generalize 2 ^ o.toNat = p at hp0 hp9 ⊢
  generalize marks (List.replicate n.toNat false) free = f at hl ⊢
  rw [← ScanBroken.B_all f p hp0]
  exact ScanBroken.ref_outer f n (p : Int) p (by omega) rfl (by omega) hp0 hp9 _ rfl f.length 0 0 0 rfl (by simp [ScanBroken.B]) (by omega)

theorem scan_broken (n : Int) (free : List S41) (o : Int) : Ev (fun k => paviorlaw19_ScanBroken.f k n free o) true := by
  unfold paviorlaw19_ScanBroken.f
  refine Ev.bind up_ev ?_
  by_cases hl : (free.length : Int) > 200
  · simp only [if_pos hl]
    exact ev_now (fun _ => rfl)
  · simp only [if_neg hl]
    refine Ev.bind (scan_broken_ev n free o (by omega)) ?_
    refine Ev.bind (ref_may_ev n free [] (by omega) (by simp)) ?_
    by_cases h : okAll n free []
    · simp only [decide_eq_true h, if_true]
      by_cases h0 : o < 0
      · simp only [if_pos h0]
        rw [if_neg (fun h => by omega)]
        exact ev_succ (ev_now (fun k => by simp [paviorlaw19_ScanBroken.j0]))
      · simp only [if_neg h0]
        by_cases h9 : o > 9
        · rw [if_neg (fun h => by omega)]
          simp only [decide_eq_true h9]
          exact ev_succ (ev_now (fun k => by simp [paviorlaw19_ScanBroken.j0]))
        · rw [if_pos ⟨h, by omega, by omega⟩]
          simp only [decide_eq_false h9]
          refine ev_succ ?_
          simp only [paviorlaw19_ScanBroken.j0, Bool.false_eq_true, if_false, if_true, Option.isNone_none]
          refine Ev.bind (ref_broken_ev n free o h (by omega) (by omega) (by omega)) ?_
          exact ev_now (fun k => by simp)
    · simp only [decide_eq_false h, Bool.false_eq_true, if_false]
      rw [if_neg (fun h' => h h'.1)]
      exact ev_succ (ev_now (fun k => by simp [paviorlaw19_ScanBroken.j0]))

theorem ScanBroken : paviorlaw19_ScanBroken.Pure := fun n free o _ _ _ _ => Ev.rounds (scan_broken n free o)

end Go.Proofs.Ytlmjjkggoemabaa.Pure
