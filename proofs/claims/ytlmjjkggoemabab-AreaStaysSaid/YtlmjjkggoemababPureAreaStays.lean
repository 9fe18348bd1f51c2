/- Lists that are handed in stay as they are; what was told stays, whatever becomes of it: the pure statement of AreaStays (more than 200 areas are let go by the law itself). -/
import Derived.Test.YtlmjjkggoemababAreaEach
import Derived.Test.YtlmjjkggoemababAreaSame
import Derived.Test.YtlmjjkggoemababQx26
namespace Go.Proofs.Ytlmjjkggoemabab.Pure
open Go.RowKit Go.Proofs.Ytlmjjkggoemabab.Q Go.Proofs.YtlmjjkggoemababW.PrintWords Go.Proofs.Ytlmjjkggoemabab.Bits Go.Proofs.Ytlmjjkggoemabab.AreaLib Go.Proofs.Ytlmjjkggoemabab.AreaEv Go.Proofs.Ytlmjjkggoemabab.AreaUp Go.Proofs.Ytlmjjkggoemabab.AreaEach
set_option linter.unusedVariables false
set_option linter.unusedSimpArgs false

theorem stays_keepsR (w x : Bool) : keeps (area_Change.of w x) (fun a => (w, x, a.2.2)) := fun _ => ⟨rfl, rfl, rfl⟩
theorem stays_keepsH (h : Bool) : keeps (area_Advise.of h) (fun a => (a.1, a.2.1, h)) := fun _ => ⟨rfl, rfl, rfl⟩
theorem stays_end (l : List S32) (a : S32) (u v w z : List S32 × Option Int)
    (e1 : Ev (fun k => area_Lay.f k l a.f0 a.f1 a.f2.f0 a.f2.f1 a.f3) u) (e2 : Ev (fun k => area_Change.f k l a.f0 a.f1 a.f2.f0 a.f2.f1) v) (e3 : Ev (fun k => area_Advise.f k l a.f0 a.f1 a.f3) w) (e4 : Ev (fun k => area_Cut.f k l a.f0 a.f1) z)
    (l1 : u.1.length ≤ 600) (l2 : v.1.length ≤ 600) (l3 : w.1.length ≤ 600) (l4 : z.1.length ≤ 600) : ∀ (d i : Nat) (O : List S32), O.length = i + d → i + d ≤ 600 →
    Ev (fun k => paviorlaw09_AreaStays.l0 k l true O u.1 u.2 v.1 v.2 w.1 w.2 z.1 z.2 (i : Int) a.f0 a.f1 a.f2.f0 a.f2.f1 a.f3) true := by
  intro d
  induction d with
  | zero =>
    intro i O hO hd
    refine ev_succ ?_
    simp -implicitDefEqProofs only [paviorlaw09_AreaStays.l0, if_neg (show ¬ (i : Int) < (O.length : Int) by omega)]
    refine Ev.bind e1 ?_
    refine Ev.bind e2 ?_
    refine Ev.bind e3 ?_
    refine Ev.bind e4 ?_
    simp -implicitDefEqProofs only [if_true, beq_self_eq_true]
    refine Ev.bind (same_ev u.1 (by omega)) ?_
    simp -implicitDefEqProofs only [if_true]
    refine Ev.bind (same_ev v.1 (by omega)) ?_
    simp -implicitDefEqProofs only [if_true]
    refine Ev.bind (same_ev w.1 (by omega)) ?_
    simp -implicitDefEqProofs only [if_true]
    refine Ev.bind (same_ev z.1 (by omega)) ?_
    exact ev_now (fun _ => rfl)
  | succ d ih =>
    intro i O hO hd
    refine Ev.step (fun k => ?_) (ih (i + 1) (O.set i ⟨9, 0, ⟨false, false⟩, false⟩) (by rw [List.length_set]; omega) (by omega))
    rw [paviorlaw09_AreaStays.l0, if_pos (by omega), if_pos (by omega), wrap64_of (by omega) (by omega)]
    rfl
theorem fin_len {z : List S32} : (fin z).1.length ≤ 600 := by
  unfold fin
  by_cases c : z.length ≤ 64
  · rw [if_pos c]
    show z.length ≤ 600
    omega
  · rw [if_neg c]
    exact Nat.zero_le _
theorem opt_len {P Q : Prop} [Decidable P] [Decidable Q] (z : List S32) (e : Int) : (if P then (if Q then (([] : List S32), some e) else fin z) else ([], some 1)).1.length ≤ 600 := by
  by_cases p : P
  · rw [if_pos p]
    by_cases q : Q
    · rw [if_pos q]; exact Nat.zero_le _
    · rw [if_neg q]; exact fin_len
  · rw [if_neg p]; exact Nat.zero_le _
theorem one_len {P : Prop} [Decidable P] (z : List S32) : (if P then fin z else (([] : List S32), some 1)).1.length ≤ 600 := by
  by_cases p : P
  · rw [if_pos p]; exact fin_len
  · rw [if_neg p]; exact Nat.zero_le _
theorem area_stays (l : List S32) (a : S32) : Ev (fun k => paviorlaw09_AreaStays.f k l a.f0 a.f1 a.f2.f0 a.f2.f1 a.f3) true := by
  unfold paviorlaw09_AreaStays.f
  refine Ev.bind up_ev ?_
  by_cases hl : (l.length : Int) > 200
  · simp only [if_pos hl]
    exact ev_now (fun _ => rfl)
  · simp only [if_neg hl]
    have e1 := lay_ev l a (by omega)
    have e2 : Ev (fun k => area_Change.f k l a.f0 a.f1 a.f2.f0 a.f2.f1) _ := each_ev (stays_keepsR a.f2.f0 a.f2.f1) l a.f0 a.f1 (by omega)
    have e3 : Ev (fun k => area_Advise.f k l a.f0 a.f1 a.f3) _ := each_ev (stays_keepsH a.f3) l a.f0 a.f1 (by omega)
    have e4 := cut_ev l a.f0 a.f1 (by omega)
    have hend := stays_end l a _ _ _ _ e1 e2 e3 e4 (one_len _) (opt_len _ _) (opt_len _ _) (one_len _) l.length 0 l (by omega) (by omega)
    simp -implicitDefEqProofs only [Option.bind_some, List.nil_append, List.length_nil, Nat.zero_add, if_pos (show l.length < 5864062014805 by omega)]
    refine Ev.bind e1 ?_
    refine Ev.bind e2 ?_
    refine Ev.bind e3 ?_
    refine Ev.bind e4 ?_
    refine Ev.bind (same_ev l (by omega)) ?_
    simp -implicitDefEqProofs only [if_true]
    exact hend

theorem AreaStays : paviorlaw09_AreaStays.Pure := fun l a0 a1 a2 a3 a4 _ _ _ => Ev.rounds (area_stays l ⟨a0, a1, ⟨a2, a3⟩, a4⟩)

end Go.Proofs.Ytlmjjkggoemabab.Pure
