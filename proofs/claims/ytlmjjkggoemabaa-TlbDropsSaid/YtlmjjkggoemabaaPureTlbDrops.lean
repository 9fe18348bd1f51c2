/- Behind Space none is of that space, behind Page none of that page; all others stay, in their order: the pure statement of TlbDrops. -/
import Derived.Test.YtlmjjkggoemabaaTlbGood
import Derived.Test.YtlmjjkggoemabaaQtx12
namespace Go.Proofs.Ytlmjjkggoemabaa.Pure
open Go.RowKit Go.Proofs.YtlmjjkggoemabaaW.PrintWords Go.Proofs.YtlmjjkggoemabaaW.PrintMore Go.Proofs.Ytlmjjkggoemabaa.Bits Go.Proofs.Ytlmjjkggoemabaa.Qt Go.Proofs.Ytlmjjkggoemabaa.TlbLib
set_option linter.unusedVariables false
set_option linter.unusedSimpArgs false

def hit (a p : Int) (space : Bool) (x : S48) : Bool := if space = true then x.f0 == a else decide (ofE x a p)
theorem drops_loop (a p : Int) (space : Bool) : ∀ (suf pre : List S48) (out : List S48), (∀ x ∈ suf, okE x) → (pre ++ suf).length ≤ 64 → out.length ≤ pre.length →
    Ev (fun k => paviorlaw05_TlbDrops.l1 k a p space true (pre ++ suf) (out ++ suf.filter (fun x => !hit a p space x)) (out.length : Int) (pre.length : Int)) true := by
  intro suf
  induction suf with
  | nil =>
    intro pre out hs hl ho
    refine ev_succ (ev_now (fun k => ?_))
    simp only [paviorlaw05_TlbDrops.l1]
    rw [if_neg (by simp)]
    simp
  | cons x suf ih =>
    intro pre out hs hl ho
    have hx := hs x (List.mem_cons_self ..)
    have hp : (pre ++ x :: suf).length = pre.length + (suf.length + 1) := by simp
    have hj : Ev (fun k => paviorlaw05_TlbDrops.j4 k a p space true (pre ++ x :: suf) (out ++ (x :: suf).filter (fun x => !hit a p space x)) (out.length : Int) (pre.length : Int) (hit a p space x)) true := by
      refine ev_succ ?_
      simp only [paviorlaw05_TlbDrops.j4]
      cases hq : hit a p space x with
      | true =>
        simp only [if_true, wrap64_of (n := (pre.length : Int) + 1) (by omega) (by omega)]
        have h1 := ih (pre ++ [x]) out (fun y hy => hs y (List.mem_cons_of_mem _ hy)) (by simpa using hl) (by simp; omega)
        rw [List.append_assoc] at h1
        rw [List.filter_cons_of_neg (by simp [hq])]
        simpa using h1
      | false =>
        have e : (x :: suf).filter (fun x => !hit a p space x) = x :: suf.filter (fun x => !hit a p space x) := List.filter_cons_of_pos (by simp [hq])
        have hl2 : (out ++ x :: suf.filter (fun x => !hit a p space x)).length = out.length + ((suf.filter (fun x => !hit a p space x)).length + 1) := by simp
        rw [e]
        simp only [Bool.false_eq_true, if_false]
        have q1 : ¬ ((out.length : Int) ≥ ((out ++ x :: suf.filter (fun x => !hit a p space x)).length : Int)) := by omega
        have q2 : (out.length : Int) < ((out ++ x :: suf.filter (fun x => !hit a p space x)).length : Int) := by omega
        have q3 : (pre.length : Int) < ((pre ++ x :: suf).length : Int) := by omega
        simp only [if_neg q1, if_pos q2, if_pos q3, if_pos (show (0 : Int) ≤ (out.length : Int) by omega), if_pos (show (0 : Int) ≤ (pre.length : Int) by omega), rd48_at, beq_self_eq_true, Bool.not_true, Bool.or_self]
        refine ev_succ ?_
        simp only [paviorlaw05_TlbDrops.j5, Bool.false_eq_true, if_false, wrap64_of (n := (pre.length : Int) + 1) (by omega) (by omega), wrap64_of (n := (out.length : Int) + 1) (by omega) (by omega)]
        have h1 := ih (pre ++ [x]) (out ++ [x]) (fun y hy => hs y (List.mem_cons_of_mem _ hy)) (by simpa using hl) (by simpa using ho)
        rw [List.append_assoc, List.append_assoc] at h1
        simpa using h1
    refine ev_succ ?_
    simp only [paviorlaw05_TlbDrops.l1]
    have q3 : (pre.length : Int) < ((pre ++ x :: suf).length : Int) := by omega
    simp only [if_pos q3, if_pos (show (0 : Int) ≤ (pre.length : Int) by omega), rd48_at, refIs x a p hx, Option.bind_some]
    cases space with
    | true =>
      simp only [if_true]
      exact hj
    | false =>
      simp only [Bool.false_eq_true, if_false]
      exact hj
theorem drops_tail (a p : Int) (space : Bool) (l0 : List S48) (i : Int) (L : List S48) (br : Bool) (hg : good L br) (hp : p ≤ 9223372036854775807) :
    Ev (fun k => paviorlaw05_TlbDrops.j1 k l0 a p space true i false L br) true := by
  refine ev_succ ?_
  simp only [paviorlaw05_TlbDrops.j1, Bool.false_eq_true, if_false, entries_eq hg, Option.bind_some]
  have hj : Ev (fun k => paviorlaw05_TlbDrops.j2 k a p space true L (L.filter (fun x => !hit a p space x)) br) true := by
    refine ev_succ ?_
    simp only [paviorlaw05_TlbDrops.j2, entries_eq (filter_good hg _), Option.bind_some]
    have := drops_loop a p space L [] [] (fun x hx => (hg.2.1 x hx).1) (by have := hg.1; simpa using this) (Nat.le_refl _)
    simpa using this
  cases space with
  | true =>
    simp only [if_true, space_eq hg, Option.bind_some]
    exact hj
  | false =>
    simp only [Bool.false_eq_true, if_false, page_eq hg a p hp, Option.bind_some]
    exact hj
theorem drops_fills (a p : Int) (space : Bool) (l0 : List S48) (hw : ∀ x ∈ l0, wfE x) (hp : p ≤ 9223372036854775807) :
    ∀ (d : Nat) (i : Int) (L : List S48) (br : Bool), 0 ≤ i → i + d = 80 → good L br → Ev (fun k => paviorlaw05_TlbDrops.l0 k l0 a p space true i L br) true := by
  intro d
  induction d with
  | zero =>
    intro i L br h0 hd hg
    refine ev_succ ?_
    simp only [paviorlaw05_TlbDrops.l0]
    by_cases c : i < (l0.length : Int)
    · simp only [if_pos c, decide_eq_false (show ¬ i < 80 by omega)]
      exact drops_tail a p space l0 i L br hg hp
    · simp only [if_neg c]
      exact drops_tail a p space l0 i L br hg hp
  | succ d ih =>
    intro i L br h0 hd hg
    refine ev_succ ?_
    simp only [paviorlaw05_TlbDrops.l0]
    by_cases c : i < (l0.length : Int)
    · simp only [if_pos c, decide_eq_true (show i < 80 by omega)]
      refine ev_succ ?_
      simp only [paviorlaw05_TlbDrops.j1, if_true, if_pos h0, if_pos c]
      have he := hw _ (rd_mem h0 c)
      refine Ev.bind (fill_go hg he) ?_
      rw [wrap64_of (by omega) (by omega)]
      exact ih (i + 1) _ _ (by omega) (by omega) (fill_good hg he)
    · simp only [if_neg c]
      exact drops_tail a p space l0 i L br hg hp
theorem tlb_drops (l0 : List S48) (a p : Int) (space : Bool) (hw : ∀ x ∈ l0, wfE x) (hp : p ≤ 9223372036854775807) : Ev (fun k => paviorlaw05_TlbDrops.f k l0 a p space) true := by
  unfold paviorlaw05_TlbDrops.f
  refine Ev.bind up_ev ?_
  simp only [tlb_New.f, Option.bind_some]
  exact drops_fills a p space l0 hw hp 80 0 [] false (by omega) (by omega) good_nil
theorem TlbDrops : paviorlaw05_TlbDrops.Pure := fun l0 a p space _ hw _ wp => Ev.rounds (tlb_drops l0 a p space (fun x hx => wfE_of (hw x hx).2.2.2.1) (wf_i64.mp wp).2)

end Go.Proofs.Ytlmjjkggoemabaa.Pure
