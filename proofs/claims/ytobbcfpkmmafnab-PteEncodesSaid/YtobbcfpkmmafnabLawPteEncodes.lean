-- Written by this session's program wip/tools/xprint.py: the row of the law paviorlaw02_PteEncodes.
import Derived.Test.YtobbcfpkmmafnabRows
import Derived.Test.YtobbcfpkmmafnabQx7
import Derived.Test.YtobbcfpkmmafnabPurePteEncodes
import Derived.Test.YtobbcfpkmmafnabFit
import Derived.WalkKit
import Derived.ProofKit
import Derived.OpenShut
import Derived.ShutString
import Derived.ChangeOld
import Derived.Below
import Derived.SizedLaws
import Derived.Carry
namespace Go.Proofs.Ytobbcfpkmmafnab.pteEncodes
open Go.ChangeShapes Go.WideShapes Go.ChangeAt Go.RowKit Go.Proofs.Ytobbcfpkmmafnab.Q Go.Proofs.YtobbcfpkmmafnabW.PrintWords Go.Proofs.Ytobbcfpkmmafnab.Fit
open Go.ChangeMaps (open_string shut_string)
set_option linter.unusedVariables false
set_option linter.unusedSimpArgs false
theorem own : ownKnob Try.prog.godebug = none := by kernel_rfl
theorem laidOut : laidOutB Try.prog = true := by kernel_rfl
theorem fit25 : Fit Try.prog 25 k25 (fun x => ((Lit.int .i64 x.f0).wf = true ∧ (Lit.int .i64 x.f1).wf = true ∧ True ∧ True ∧ True ∧ True ∧ (Lit.int .i64 x.f6).wf = true)) := by
  have h := Fit.iso (Fit.struct Try.underlying25 (FitF.cons _ _ _ (Fit.int Try.underlying3) rfl (by kernel_rfl) (FitF.cons _ _ _ (Fit.int Try.underlying3) rfl (by kernel_rfl) (FitF.cons _ _ _ (Fit.bool Try.underlying4) rfl (by kernel_rfl) (FitF.cons _ _ _ (Fit.bool Try.underlying4) rfl (by kernel_rfl) (FitF.cons _ _ _ (Fit.bool Try.underlying4) rfl (by kernel_rfl) (FitF.cons _ _ _ (Fit.bool Try.underlying4) rfl (by kernel_rfl) (FitF.last _ _ (Fit.int Try.underlying3) rfl (by kernel_rfl)))))))) (by kernel_rfl)) (fun p : Int × Int × Bool × Bool × Bool × Bool × Int => (⟨p.1, p.2.1, p.2.2.1, p.2.2.2.1, p.2.2.2.2.1, p.2.2.2.2.2.1, p.2.2.2.2.2.2⟩ : S25)) (fun x : S25 => (x.f0, x.f1, x.f2, x.f3, x.f4, x.f5, x.f6)) (fun _ => rfl)
  exact h
set_option maxRecDepth 100000 in
theorem lifted (os : Os) (started : os.Started) (H : Type) (enc : TypeId × Value → H) :
    ReturnsInHanded {} Try.checked os 4 .any (Rows.pteEncodesSpec.pre6 enc Try.prog Try.f4 Rows.pteEncodesRow.domain false) (Rows.pteEncodesSpec.post enc Try.prog Try.f4 false true false false) := by
  refine returnsInHanded_of_change_sized (C := Try.checked) own started (by kernel_rfl) Try.func4
    (ChangeSpec.witness6 (enc := enc) (C := Try.checked) false ⟨#[], #[.int .i64 0, .agg #[.int .i64 0, .int .i64 0, .bool false, .bool false, .bool false, .bool false, .int .i64 0]], []⟩ 8 (by kernel_rfl) (by kernel_rfl) (by kernel_rfl) (by kernel_rfl)) ?_
  intro W base args ds gs before hval0 hW hcnd hsz0 _
  have hsz : (DataW.weightsEach Try.prog (Try.f4.params.toList ++ Rows.pteEncodesSpec.plain.varTypes Try.prog) (ds ++ gs)).all (· ≤ reachBytes) = true := hsz0
  have hval : ∀ (j : Nat) t v, Try.f4.params[j]? = some t → args[j]? = some v → Value.okWide Try.prog W .any base t v := hval0
  have hW' := hW
  obtain ⟨p, q, hA0, hV, rfl, hfz, hnd⟩ := hW
  have hA : DataW.TrodAll enc Try.prog W 0 (fun _ => true) true Try.f4.params.toList args.toList ds p := hA0
  rw [Try.params4] at hA hval hsz
  obtain ⟨v0, vs0, d0, ds0, p0, q0, hargs, rfl, rfl, h0, r0⟩ := trodAll_cons hA
  obtain ⟨v1, vs1, d1, ds1, p1, q1, rfl, rfl, rfl, h1, r1⟩ := trodAll_cons r0
  obtain ⟨rfl, rfl, rfl⟩ := trodAll_nil r1
  obtain rfl : args = #[v0, v1] := by cases args; simp_all
  obtain ⟨rfl, rfl⟩ := trodVars_none hV
  obtain ⟨a0, rfl, rfl, rfl, w0⟩ := open_int Try.underlying3 (hval 0 3 v0 rfl rfl) h0
  obtain ⟨cs1, rfl, _⟩ := okWide_struct Try.underlying25 (hval 1 25 v1 rfl rfl)
  have k1 := h1
  have lt1 : ∀ x ∈ p1, x.block < W.heap.size := by
    obtain ⟨m, hm⟩ := k1
    exact DataW.trod_lt m _ _ _ hm
  obtain ⟨x1, hx1, wx1⟩ : ∃ x : S25, k25.K W x cs1.toList ∧ ((Lit.int .i64 x.f0).wf = true ∧ (Lit.int .i64 x.f1).wf = true ∧ True ∧ True ∧ True ∧ True ∧ (Lit.int .i64 x.f6).wf = true) := by
    obtain ⟨fuel, hf⟩ := h1
    exact fit25 H enc W _ _ fuel _ _ hf
  obtain ⟨_, _, e1, rfl, ⟨_, _, rfl, rfl, ⟨_, _, rfl, rfl, ⟨_, _, rfl, rfl, ⟨_, _, rfl, rfl, ⟨_, _, rfl, rfl, rfl⟩⟩⟩⟩⟩⟩ := hx1
  obtain rfl : cs1 = #[.int .i64 x1.f0, .int .i64 x1.f1, .bool x1.f2, .bool x1.f3, .bool x1.f4, .bool x1.f5, .int .i64 x1.f6] := Array.ext' (e1.trans rfl)
  clear hA0 hval0 hsz0 hsz
  obtain ⟨k, h⟩ := Pure.PteEncodes a0 x1.f0 x1.f1 x1.f2 x1.f3 x1.f4 x1.f5 x1.f6 w0 wx1
  refine (paviorlaw02_PteEncodes.calls k a0 x1.f0 x1.f1 x1.f2 x1.f3 x1.f4 x1.f5 x1.f6 true W h).mono fun e W' ⟨he, bel0⟩ => ?_
  have bel : Below W.heap.size W W' := bel0
  subst he
  exact ⟨_, rfl, _, _, _, [], _, [], hW', trodAll_mk1 (shut_bool Try.underlying4 _), (trodAll_cons_mk (shut_int Try.underlying3 w0) (trodAll_cons_mk (Below.trod laidOut (by kernel_rfl) (of_decide_eq_true (by kernel_rfl)) k1 bel lt1) trodAll_mk0)), rfl, bel.frame _, fun h => by cases h⟩
theorem over : Rows.pteEncodesRow.holds Try.pinned (OpenSpec.ofChange Rows.pteEncodesSpec) :=
  OpenClaim.holds_of_wide 4 Try.f4 rfl rfl rfl rfl rfl rfl rfl ⟨rfl, rfl, rfl, rfl, rfl⟩ rfl rfl rfl rfl rfl (by kernel_rfl) Try.func4 (by kernel_rfl)
    (of_decide_eq_true (by kernel_rfl)) (by unfold Func.isWrapper; first | (rw [if_pos (by decide +kernel)]; kernel_rfl) | (rw [if_neg (by decide +kernel)]; exact ⟨rfl, rfl⟩))
    (fun os started H enc _ => lifted os started H enc)
theorem proved : Rows.PteEncodesSaid := over
#print axioms proved
end Go.Proofs.Ytobbcfpkmmafnab.pteEncodes
namespace Go.Proofs.Ytobbcfpkmmafnab
/-- The row, under a short name, for the claim. -/
theorem pteEncodes_holds : Rows.PteEncodesSaid := pteEncodes.proved
end Go.Proofs.Ytobbcfpkmmafnab
