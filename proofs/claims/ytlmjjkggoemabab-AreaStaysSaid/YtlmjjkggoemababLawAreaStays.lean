-- Written by this session's program wip/tools/xprint.py: the row of the law paviorlaw09_AreaStays.
import Derived.Test.YtlmjjkggoemababRows
import Derived.Test.YtlmjjkggoemababQx26
import Derived.Test.YtlmjjkggoemababPureAreaStays
import Derived.Test.YtlmjjkggoemababFit
import Derived.WalkKit
import Derived.ProofKit
import Derived.OpenShut
import Derived.ShutString
import Derived.ChangeOld
import Derived.Below
import Derived.SizedLaws
import Derived.Carry
namespace Go.Proofs.Ytlmjjkggoemabab.areaStays
open Go.ChangeShapes Go.WideShapes Go.ChangeAt Go.RowKit Go.Proofs.Ytlmjjkggoemabab.Q Go.Proofs.YtlmjjkggoemababW.PrintWords Go.Proofs.Ytlmjjkggoemabab.Fit
open Go.ChangeMaps (open_string shut_string)
set_option linter.unusedVariables false
set_option linter.unusedSimpArgs false
theorem own : ownKnob Try.prog.godebug = none := by kernel_rfl
theorem laidOut : laidOutB Try.prog = true := by kernel_rfl
theorem fit30 : Fit Try.prog 30 k30 (fun x => (True ∧ True)) := by
  have h := Fit.iso (Fit.struct Try.underlying30 (FitF.cons _ _ _ (Fit.bool Try.underlying4) rfl (by kernel_rfl) (FitF.last _ _ (Fit.bool Try.underlying4) rfl (by kernel_rfl))) (by kernel_rfl)) (fun p : Bool × Bool => (⟨p.1, p.2⟩ : S30)) (fun x : S30 => (x.f0, x.f1)) (fun _ => rfl)
  exact h
theorem fit32 : Fit Try.prog 32 k32 (fun x => ((Lit.int .i64 x.f0).wf = true ∧ (Lit.int .i64 x.f1).wf = true ∧ (True ∧ True) ∧ True)) := by
  have h := Fit.iso (Fit.struct Try.underlying32 (FitF.cons _ _ _ (Fit.int Try.underlying3) rfl (by kernel_rfl) (FitF.cons _ _ _ (Fit.int Try.underlying3) rfl (by kernel_rfl) (FitF.cons _ _ _ fit30 rfl (by kernel_rfl) (FitF.last _ _ (Fit.bool Try.underlying4) rfl (by kernel_rfl))))) (by kernel_rfl)) (fun p : Int × Int × S30 × Bool => (⟨p.1, p.2.1, p.2.2.1, p.2.2.2⟩ : S32)) (fun x : S32 => (x.f0, x.f1, x.f2, x.f3)) (fun _ => rfl)
  exact h
set_option maxRecDepth 100000 in
theorem lifted (os : Os) (started : os.Started) (H : Type) (enc : TypeId × Value → H) :
    ReturnsInHanded {} Try.checked os 11 .any (Rows.areaStaysSpec.pre6 enc Try.prog Try.f11 Rows.areaStaysRow.domain false) (Rows.areaStaysSpec.post enc Try.prog Try.f11 false true false false) := by
  refine returnsInHanded_of_change_sized (C := Try.checked) own started (by kernel_rfl) Try.func11
    (ChangeSpec.witness6 (enc := enc) (C := Try.checked) false ⟨#[], #[.slice none 0 0, .agg #[.int .i64 0, .int .i64 0, .bool false, .bool false, .bool false]], []⟩ 8 (by kernel_rfl) (by kernel_rfl) (by kernel_rfl) (by kernel_rfl)) ?_
  intro W base args ds gs before hval0 hW hcnd hsz0 _
  have hsz : (DataW.weightsEach Try.prog (Try.f11.params.toList ++ Rows.areaStaysSpec.plain.varTypes Try.prog) (ds ++ gs)).all (· ≤ reachBytes) = true := hsz0
  have hval : ∀ (j : Nat) t v, Try.f11.params[j]? = some t → args[j]? = some v → Value.okWide Try.prog W .any base t v := hval0
  have hW' := hW
  obtain ⟨p, q, hA0, hV, rfl, hfz, hnd⟩ := hW
  have hA : DataW.TrodAll enc Try.prog W 0 (fun _ => true) true Try.f11.params.toList args.toList ds p := hA0
  rw [Try.params11] at hA hval hsz
  obtain ⟨v0, vs0, d0, ds0, p0, q0, hargs, rfl, rfl, h0, r0⟩ := trodAll_cons hA
  obtain ⟨v1, vs1, d1, ds1, p1, q1, rfl, rfl, rfl, h1, r1⟩ := trodAll_cons r0
  obtain ⟨rfl, rfl, rfl⟩ := trodAll_nil r1
  obtain rfl : args = #[v0, v1] := by cases args; simp_all
  obtain ⟨rfl, rfl⟩ := trodVars_none hV
  obtain ⟨a0, len0, cap0, rfl⟩ := okWide_slice Try.underlying22 (hval 0 22 v0 rfl rfl)
  have k0 := h0
  have lt0 : ∀ x ∈ p0, x.block < W.heap.size := by
    obtain ⟨m, hm⟩ := k0
    exact DataW.trod_lt m _ _ _ hm
  obtain ⟨l0, hK0, hm0, hw0⟩ : ∃ l : List (S32), (Kd.slice 32 k32).K W l [.slice a0 len0 cap0] ∧ l.length ≤ maxLen ∧ ∀ x ∈ l, ((Lit.int .i64 x.f0).wf = true ∧ (Lit.int .i64 x.f1).wf = true ∧ (True ∧ True) ∧ True) := by
    obtain ⟨fuel, hf⟩ := h0
    exact (Fit.slice Try.underlying22 fit32 (by kernel_rfl)) H enc W _ _ fuel _ _ hf
  obtain ⟨A0, c0, he0, hc0, hr0⟩ := hK0
  obtain ⟨rfl, rfl, rfl⟩ : a0 = A0 ∧ len0 = l0.length ∧ cap0 = c0 := by simpa using he0
  obtain ⟨cs1, rfl, _⟩ := okWide_struct Try.underlying32 (hval 1 32 v1 rfl rfl)
  have k1 := h1
  have lt1 : ∀ x ∈ p1, x.block < W.heap.size := by
    obtain ⟨m, hm⟩ := k1
    exact DataW.trod_lt m _ _ _ hm
  obtain ⟨x1, hx1, wx1⟩ : ∃ x : S32, k32.K W x cs1.toList ∧ ((Lit.int .i64 x.f0).wf = true ∧ (Lit.int .i64 x.f1).wf = true ∧ (True ∧ True) ∧ True) := by
    obtain ⟨fuel, hf⟩ := h1
    exact fit32 H enc W _ _ fuel _ _ hf
  obtain ⟨_, _, e1, rfl, ⟨_, _, rfl, rfl, ⟨_, _, rfl, ⟨_, _, rfl, rfl, rfl⟩, rfl⟩⟩⟩ := hx1
  obtain rfl : cs1 = #[.int .i64 x1.f0, .int .i64 x1.f1, .bool x1.f2.f0, .bool x1.f2.f1, .bool x1.f3] := Array.ext' (e1.trans rfl)
  clear hA0 hval0 hsz0 hsz
  obtain ⟨k, h⟩ := Pure.AreaStays l0 x1.f0 x1.f1 x1.f2.f0 x1.f2.f1 x1.f3 hm0 hw0 wx1
  refine (paviorlaw09_AreaStays.calls k _ _ l0 x1.f0 x1.f1 x1.f2.f0 x1.f2.f1 x1.f3 true W hr0 hc0 h).mono fun e W' ⟨he, bel0⟩ => ?_
  have bel : Below W.heap.size W W' := bel0
  subst he
  exact ⟨_, rfl, _, _, _, [], _, [], hW', trodAll_mk1 (shut_bool Try.underlying4 _), (trodAll_cons_mk (Below.trod laidOut (by kernel_rfl) (of_decide_eq_true (by kernel_rfl)) k0 bel lt0) (trodAll_cons_mk (Below.trod laidOut (by kernel_rfl) (of_decide_eq_true (by kernel_rfl)) k1 bel lt1) trodAll_mk0)), rfl, bel.frame _, fun h => by cases h⟩
theorem over : Rows.areaStaysRow.holds Try.pinned (OpenSpec.ofChange Rows.areaStaysSpec) :=
  OpenClaim.holds_of_wide 11 Try.f11 rfl rfl rfl rfl rfl rfl rfl ⟨rfl, rfl, rfl, rfl, rfl⟩ rfl rfl rfl rfl rfl (by kernel_rfl) Try.func11 (by kernel_rfl)
    (of_decide_eq_true (by kernel_rfl)) (by unfold Func.isWrapper; first | (rw [if_pos (by decide +kernel)]; kernel_rfl) | (rw [if_neg (by decide +kernel)]; exact ⟨rfl, rfl⟩))
    (fun os started H enc _ => lifted os started H enc)
theorem proved : Rows.AreaStaysSaid := over
#print axioms proved
end Go.Proofs.Ytlmjjkggoemabab.areaStays
namespace Go.Proofs.Ytlmjjkggoemabab
/-- The row, under a short name, for the claim. -/
theorem areaStays_holds : Rows.AreaStaysSaid := areaStays.proved
end Go.Proofs.Ytlmjjkggoemabab
