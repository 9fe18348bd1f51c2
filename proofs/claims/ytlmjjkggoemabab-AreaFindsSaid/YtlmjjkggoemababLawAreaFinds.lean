-- Written by this session's program wip/tools/xprint.py: the row of the law paviorlaw09_AreaFinds.
import Derived.Test.YtlmjjkggoemababRows
import Derived.Test.YtlmjjkggoemababQx18
import Derived.Test.YtlmjjkggoemababPureAreaFinds
import Derived.Test.YtlmjjkggoemababFit
import Derived.WalkKit
import Derived.ProofKit
import Derived.OpenShut
import Derived.ShutString
import Derived.ChangeOld
import Derived.Below
import Derived.SizedLaws
import Derived.Carry
namespace Go.Proofs.Ytlmjjkggoemabab.areaFinds
open Go.ChangeShapes Go.WideShapes Go.ChangeAt Go.RowKit Go.Proofs.Ytlmjjkggoemabab.Q Go.Proofs.YtlmjjkggoemababW.PrintWords Go.Proofs.Ytlmjjkggoemabab.Fit
open Go.ChangeMaps (open_string shut_string)
set_option linter.unusedVariables false
set_option linter.unusedSimpArgs false
theorem own : ownKnob Try.prog.godebug = none := by kernel_rfl
theorem laidOut : laidOutB Try.prog = true := by kernel_rfl
theorem fit30 : Fit Try.prog 30 k30 (fun x => (True ∧ True)) := by
  have h := Fit.iso (Fit.struct Try.underlying30 (FitF.cons _ _ _ (Fit.bool Try.underlying4) rfl (by kernel_rfl) (FitF.last _ _ (Fit.bool Try.underlying4) rfl (by kernel_rfl))) (by kernel_rfl)) (fun p : Bool × Bool => (⟨p.1, p.2⟩ : S30)) (fun x : S30 => (x.f0, x.f1)) (fun _ => rfl)
  exact h
theorem fit32 : Fit Try.prog 32 k32 (fun x => ((Lit.int .i64 x.f0).wf = true ∧ (Lit.int .i64 x.f1).wf = true ∧ (True ∧ True) ∧ True)) := by
  have h := Fit.iso (Fit.struct Try.underlying32 (FitF.cons _ _ _ (Fit.int Try.underlying3) rfl (by kernel_rfl) (FitF.cons _ _ _ (Fit.int Try.underlying3) rfl (by kernel_rfl) (FitF.cons _ _ _ fit30 rfl (by kernel_rfl) (FitF.last _ _ (Fit.bool Try.underlying4) rfl (by kernel_rfl))))) (by kernel_rfl)) (fun p : Int × Int × S30 × Bool => (⟨p.1, p.2.1, p.2.2.1, p.2.2.2⟩ : S32)) (fun x : S32 => (x.f0, x.f1, x.f2, x.f3)) (fun _ => rfl)
  exact h
set_option maxRecDepth 100000 in
theorem lifted (os : Os) (started : os.Started) (H : Type) (enc : TypeId × Value → H) :
    ReturnsInHanded {} Try.checked os 7 .any (Rows.areaFindsSpec.pre6 enc Try.prog Try.f7 Rows.areaFindsRow.domain false) (Rows.areaFindsSpec.post enc Try.prog Try.f7 false true false false) := by
  refine returnsInHanded_of_change_sized (C := Try.checked) own started (by kernel_rfl) Try.func7
    (ChangeSpec.witness6 (enc := enc) (C := Try.checked) false ⟨#[], #[.slice none 0 0, .int .i64 0, .int .i64 0], []⟩ 8 (by kernel_rfl) (by kernel_rfl) (by kernel_rfl) (by kernel_rfl)) ?_
  intro W base args ds gs before hval0 hW hcnd hsz0 _
  have hsz : (DataW.weightsEach Try.prog (Try.f7.params.toList ++ Rows.areaFindsSpec.plain.varTypes Try.prog) (ds ++ gs)).all (· ≤ reachBytes) = true := hsz0
  have hval : ∀ (j : Nat) t v, Try.f7.params[j]? = some t → args[j]? = some v → Value.okWide Try.prog W .any base t v := hval0
  have hW' := hW
  obtain ⟨p, q, hA0, hV, rfl, hfz, hnd⟩ := hW
  have hA : DataW.TrodAll enc Try.prog W 0 (fun _ => true) true Try.f7.params.toList args.toList ds p := hA0
  rw [Try.params7] at hA hval hsz
  obtain ⟨v0, vs0, d0, ds0, p0, q0, hargs, rfl, rfl, h0, r0⟩ := trodAll_cons hA
  obtain ⟨v1, vs1, d1, ds1, p1, q1, rfl, rfl, rfl, h1, r1⟩ := trodAll_cons r0
  obtain ⟨v2, vs2, d2, ds2, p2, q2, rfl, rfl, rfl, h2, r2⟩ := trodAll_cons r1
  obtain ⟨rfl, rfl, rfl⟩ := trodAll_nil r2
  obtain rfl : args = #[v0, v1, v2] := by cases args; simp_all
  obtain ⟨rfl, rfl⟩ := trodVars_none hV
  obtain ⟨a0, len0, cap0, rfl⟩ := okWide_slice Try.underlying22 (hval 0 22 v0 rfl rfl)
  have k0 := h0
  have lt0 : ∀ x ∈ p0, x.block < W.heap.size := by
    obtain ⟨m, hm⟩ := k0
    exact DataW.trod_lt m _ _ _ hm
  obtain ⟨l0, hK0, hm0, hw0⟩ : ∃ l : List (S32), (Kd.slice 32 k32).K W l [.slice a0 len0 cap0] ∧ l.length ≤ maxLen ∧ ∀ x ∈ l, ((Lit.int .i64 x.f0).wf = true ∧ (Lit.int .i64 x.f1).wf = true ∧ (True ∧ True) ∧ True) := by
    obtain ⟨fuel, hf⟩ := h0
    exact (Fit.slice Try.underlying22 fit32 (by kernel_rfl)) H enc W _ _ fuel _ _ hf
  obtain ⟨A0, c0, he0, hc0, hr0⟩ := hK0
  obtain ⟨rfl, rfl, rfl⟩ : a0 = A0 ∧ len0 = l0.length ∧ cap0 = c0 := by simpa using he0
  obtain ⟨a1, rfl, rfl, rfl, w1⟩ := open_int Try.underlying3 (hval 1 3 v1 rfl rfl) h1
  obtain ⟨a2, rfl, rfl, rfl, w2⟩ := open_int Try.underlying3 (hval 2 3 v2 rfl rfl) h2
  clear hA0 hval0 hsz0 hsz
  obtain ⟨k, h⟩ := Pure.AreaFinds l0 a1 a2 hm0 hw0 w1 w2
  refine (paviorlaw09_AreaFinds.calls k _ _ l0 a1 a2 true W hr0 hc0 h).mono fun e W' ⟨he, bel0⟩ => ?_
  have bel : Below W.heap.size W W' := bel0
  subst he
  exact ⟨_, rfl, _, _, _, [], _, [], hW', trodAll_mk1 (shut_bool Try.underlying4 _), (trodAll_cons_mk (Below.trod laidOut (by kernel_rfl) (of_decide_eq_true (by kernel_rfl)) k0 bel lt0) (trodAll_cons_mk (shut_int Try.underlying3 w1) (trodAll_cons_mk (shut_int Try.underlying3 w2) trodAll_mk0))), rfl, bel.frame _, fun h => by cases h⟩
theorem over : Rows.areaFindsRow.holds Try.pinned (OpenSpec.ofChange Rows.areaFindsSpec) :=
  OpenClaim.holds_of_wide 7 Try.f7 rfl rfl rfl rfl rfl rfl rfl ⟨rfl, rfl, rfl, rfl, rfl⟩ rfl rfl rfl rfl rfl (by kernel_rfl) Try.func7 (by kernel_rfl)
    (of_decide_eq_true (by kernel_rfl)) (by unfold Func.isWrapper; first | (rw [if_pos (by decide +kernel)]; kernel_rfl) | (rw [if_neg (by decide +kernel)]; exact ⟨rfl, rfl⟩))
    (fun os started H enc _ => lifted os started H enc)
theorem proved : Rows.AreaFindsSaid := over
#print axioms proved
end Go.Proofs.Ytlmjjkggoemabab.areaFinds
namespace Go.Proofs.Ytlmjjkggoemabab
/-- The row, under a short name, for the claim. -/
theorem areaFinds_holds : Rows.AreaFindsSaid := areaFinds.proved
end Go.Proofs.Ytlmjjkggoemabab
