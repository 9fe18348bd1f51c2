/- A buffer holds as many as it may, and lets the eldest go for one more: the pure statement of TlbFull. -/
import Derived.Test.YtlmjjkggoemabaaTlbLib
import Derived.Test.YtlmjjkggoemabaaQtx7
namespace Go.Proofs.Ytlmjjkggoemabaa.Pure
open Go.RowKit Go.Proofs.YtlmjjkggoemabaaW.PrintWords Go.Proofs.YtlmjjkggoemabaaW.PrintMore Go.Proofs.Ytlmjjkggoemabaa.Bits Go.Proofs.Ytlmjjkggoemabaa.Qt Go.Proofs.Ytlmjjkggoemabaa.TlbLib
set_option linter.unusedVariables false
set_option linter.unusedSimpArgs false

def ent (i : Nat) : S48 := ⟨0, (i : Int), 0, (i : Int), false, false⟩
def fills (n : Nat) : List S48 := ((List.range n).drop (n - 64)).map ent
theorem fills_one : ∀ n, n < 70 → fillE (fills n) false (ent n) = (none, fills (n + 1), false) := by decide +kernel
theorem fills_again : ∀ n, n < 70 → 60 ≤ n → fillE (fills n) false (ent (n - 1)) = (none, fills n, false) := by decide +kernel
theorem fills_len (n : Nat) : (fills n).length = n - (n - 64) := by simp [fills]
theorem fills_wf (n : Nat) (h : n < 100) : ∀ x ∈ fills n, wfE x := by
  intro x hx
  obtain ⟨i, hi, rfl⟩ := List.mem_map.mp hx
  have h1 := List.mem_range.mp (List.mem_of_mem_drop hi)
  exact ⟨show (i : Int) ≤ _ by omega, show _ ≤ (i : Int) by omega⟩
theorem fills_first : ∀ n, n < 70 → 60 ≤ n → (rd_T48 (fills n) 0).f1 = ((n - 64 : Nat) : Int) := by decide +kernel
theorem full_j1 (n : Nat) (h0 : 60 ≤ n) (h1 : n < 70) : Ev (fun k => paviorlaw05_TlbFull.j1 k (n : Int) true (fills n) false) true := by
  refine ev_succ ?_
  have hl := fills_len n
  have e1 : tlb_Buffer_Entries.f (fills n) false = some (fills n, fills n, false) := if_pos (by omega)
  have hf := fills_first n h1 h0
  have j2 : ∀ y : Int, y = ((n - 64 : Nat) : Int) → Ev (fun k => paviorlaw05_TlbFull.j2 k (n : Int) true (fills n) y (fills n) false) true := by
    intro y hy
    refine ev_succ (ev_now (fun k => ?_))
    simp only [paviorlaw05_TlbFull.j2, if_true]
    rw [wrap64_of (n := (n : Int) - y) (by omega) (by omega), if_pos (by omega), if_pos (by omega), if_pos (by rw [hf, hy])]
    rfl
  simp only [paviorlaw05_TlbFull.j1, e1, Option.bind_some]
  by_cases c : (n : Int) > 64
  · simp only [if_pos c]
    exact j2 _ (by rw [wrap64_of (by omega) (by omega)]; omega)
  · simp only [if_neg c]
    exact j2 0 (by omega)
theorem full_loop (n : Nat) (h0 : 60 ≤ n) (h1 : n < 70) (again : Bool) : ∀ (d i : Nat), i + d = n → Ev (fun k => paviorlaw05_TlbFull.l0 k (n : Int) again true (i : Int) (fills i) false) true := by
  intro d
  induction d with
  | zero =>
    intro i hi
    obtain rfl : i = n := by omega
    have hw := fills_wf i (by omega)
    refine ev_succ ?_
    simp only [paviorlaw05_TlbFull.l0, if_neg (show ¬ (i : Int) < (i : Int) by omega)]
    cases again with
    | true =>
      simp only [if_true]
      have h := fill_ev (fills i) false (ent (i - 1)) (by rw [fills_len]; omega) ⟨show ((i - 1 : Nat) : Int) ≤ _ by omega, show _ ≤ ((i - 1 : Nat) : Int) by omega⟩ hw
      rw [fills_again i h1 h0] at h
      have e : ent (i - 1) = ⟨0, wrap64 ((i : Int) - 1), 0, wrap64 ((i : Int) - 1), false, false⟩ := by
        rw [wrap64_of (by omega) (by omega)]
        unfold ent
        rw [show ((i - 1 : Nat) : Int) = (i : Int) - 1 by omega]
      rw [e] at h
      exact Ev.bind h (full_j1 i h0 h1)
    | false =>
      simp only [Bool.false_eq_true, if_false]
      exact full_j1 i h0 h1
  | succ d ih =>
    intro i hi
    have hw := fills_wf i (by omega)
    refine ev_succ ?_
    simp only [paviorlaw05_TlbFull.l0, if_pos (show (i : Int) < (n : Int) by omega)]
    have h := fill_ev (fills i) false (ent i) (by rw [fills_len]; omega) ⟨show (i : Int) ≤ _ by omega, show _ ≤ (i : Int) by omega⟩ hw
    rw [fills_one i (by omega)] at h
    refine Ev.bind h ?_
    simp only [Option.isNone_none, if_true, wrap64_of (n := (i : Int) + 1) (by omega) (by omega)]
    have := ih (i + 1) (by omega)
    simpa using this
theorem tlb_full (n : Int) (again : Bool) (h0 : -9223372036854775808 ≤ n) (h1 : n ≤ 9223372036854775807) : Ev (fun k => paviorlaw05_TlbFull.f k n again) true := by
  unfold paviorlaw05_TlbFull.f
  refine Ev.bind up_ev ?_
  obtain ⟨q, hq, q0, q1⟩ := pick_eq n 10 h0 h1 (by omega)
  simp only [tlb_New.f, hq, Option.bind_some, wrap64_of (n := 60 + q) (by omega) (by omega)]
  obtain ⟨m, rfl⟩ : ∃ m : Nat, q = (m : Int) := ⟨q.toNat, by omega⟩
  have := full_loop (60 + m) (by omega) (by omega) again (60 + m) 0 (by omega)
  have e : fills 0 = [] := rfl
  simpa [e] using this
theorem TlbFull : paviorlaw05_TlbFull.Pure := fun n again w0 => Ev.rounds (tlb_full n again (wf_i64.mp w0).1 (wf_i64.mp w0).2)

end Go.Proofs.Ytlmjjkggoemabaa.Pure
