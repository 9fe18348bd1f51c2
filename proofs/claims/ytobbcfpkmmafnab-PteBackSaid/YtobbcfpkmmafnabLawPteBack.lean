-- Written by this session's program wip/tools/xprint.py: the row of the law paviorlaw02_PteBack.
import Derived.Test.YtobbcfpkmmafnabRows
import Derived.Test.YtobbcfpkmmafnabQx8
import Derived.Test.YtobbcfpkmmafnabPurePteBack
import Derived.Test.YtobbcfpkmmafnabFit
import Derived.WalkKit
import Derived.ProofKit
import Derived.OpenShut
import Derived.ShutString
import Derived.ChangeOld
import Derived.Below
import Derived.SizedLaws
import Derived.Carry
namespace Go.Proofs.Ytobbcfpkmmafnab.pteBack
open Go.ChangeShapes Go.WideShapes Go.ChangeAt Go.RowKit Go.Proofs.Ytobbcfpkmmafnab.Q Go.Proofs.YtobbcfpkmmafnabW.PrintWords Go.Proofs.Ytobbcfpkmmafnab.Fit
open Go.ChangeMaps (open_string shut_string)
set_option linter.unusedVariables false
set_option linter.unusedSimpArgs false
theorem own : ownKnob Try.prog.godebug = none := by kernel_rfl
theorem laidOut : laidOutB Try.prog = true := by kernel_rfl
theorem fit25 : Fit Try.prog 25 k25 (fun x => ((Lit.int .i64 x.f0).wf = true ∧ (Lit.int .i64 x.f1).wf = true ∧ True ∧ True ∧ True ∧ True ∧ (Lit.int .i64 x.f6).wf = true)) := by
  have h := Fit.iso (Fit.struct Try.underlying25 (FitF.cons _ _ _ (Fit.int Try.underlying3) rfl (by kernel_rfl) (FitF.cons _ _ _ (Fit.int Try.underlying3) rfl (by kernel_rfl) (FitF.cons _ _ _ (Fit.bool Try.underlying4) rfl (by kernel_rfl) (FitF.cons _ _ _ (Fit.bool Try.underlying4) rfl (by kernel_rfl) (FitF.cons _ _ _ (Fit.bool Try.underlying4) rfl (by kernel_rfl) (FitF.cons _ _ _ (Fit.bool Try.underlying4) rfl (by kernel_rfl) (FitF.last _ _ (Fit.int Try.underlying3) rfl (by kernel_rfl)))))))) (by kernel_rfl)) (fun p : Int × Int × Bool × Bool × Bool × Bool × Int => (⟨p.1, p.2.1, p.2.2.1, p.2.2.2.1, p.2.2.2.2.1, p.2.2.2.2.2.1, p.2.2.2.2.2.2⟩ : S25)) (fun x : S25 => (x.f0, x.f1, x.f2, x.f3, x.f4, x.f5, x.f6)) (fun _ => rfl)
  exact h
set_option maxRecDepth 100000 in
theorem lifted (os : Os) (started : os.Started) (H : Type) (enc : TypeId × Value → H) :
    ReturnsInHanded {} Try.checked os 5 .any (Rows.pteBackSpec.pre6 enc Try.prog Try.f5 Rows.pteBackRow.domain false) (Rows.pteBackSpec.post enc Try.prog Try.f5 false true false false) := by
  refine returnsInHanded_of_change_sized (C := Try.checked) own started (by kernel_rfl) Try.func5
    (ChangeSpec.witness6 (enc := enc) (C := Try.checked) false ⟨#[], #[.int .i64 0, .agg #[.int .i64 0, .int .i64 0, .bool false, .bool false, .bool false, .bool false, .int .i64 0], .int .u64 0], []⟩ 8 (by kernel_rfl) (by kernel_rfl) (by kernel_rfl) (by kernel_rfl)) ?_
  intro W base args ds gs before hval0 hW hcnd hsz0 _
  have hsz : (DataW.weightsEach Try.prog (Try.f5.params.toList ++ Rows.pteBackSpec.plain.varTypes Try.prog) (ds ++ gs)).all (· ≤ reachBytes) = true := hsz0
  have hval : ∀ (j : Nat) t v, Try.f5.params[j]? = some t → args[j]? = some v → Value.okWide Try.prog W .any base t v := hval0
  have hW' := hW
  obtain ⟨p, q, hA0, hV, rfl, hfz, hnd⟩ := hW
  have hA : DataW.TrodAll enc Try.prog W 0 (fun _ => true) true Try.f5.params.toList args.toList ds p := hA0
  rw [Try.params5] at hA hval hsz
  obtain ⟨v0, vs0, d0, ds0, p0, q0, hargs, rfl, rfl, h0, r0⟩ := trodAll_cons hA
  obtain ⟨v1, vs1, d1, ds1, p1, q1, rfl, rfl, rfl, h1, r1⟩ := trodAll_cons r0
  obtain ⟨v2, vs2, d2, ds2, p2, q2, rfl, rfl, rfl, h2, r2⟩ := trodAll_cons r1
  obtain ⟨rfl, rfl, rfl⟩ := trodAll_nil r2
  obtain rfl : args = #[v0, v1, v2] := by cases args; simp_all
  obtain ⟨rfl, rfl⟩ := trodVars_none hV
  obtain ⟨a0, rfl, rfl, rfl, w0⟩ := open_int Try.underlying3 (hval 0 3 v0 rfl rfl) h0
  obtain ⟨cs1, rfl, _⟩ := okWide_struct Try.underlying25 (hval 1 25 v1 rfl rfl)
  have k1 := h1
  have lt1 : ∀ x ∈ p1, x.block < W.heap.size := by
    obtain ⟨m, hm⟩ := k1
    exact DataW.trod_lt m _ _ _ hm
  obtain ⟨x1, hx1, wx1⟩ : ∃ x : S25, k25.K W x cs1.toList ∧ ((Lit.int .i64 x.f0).wf = true ∧ (Lit.int .i64 x.f1).wf = true ∧ True ∧ True ∧ True ∧ True ∧ (Lit.int .i64 x.f6).wf = true) := by
    obtain ⟨fuel, hf⟩ := h1
    exact fit25 H enc W _ _ fuel _ _ hf
  obtain ⟨_, _, e1, rfl, ⟨_, _, rfl, rfl, ⟨_, _, rfl, rfl, ⟨_, _, rfl, rfl, ⟨_, _, rfl, rfl, ⟨_, _, rfl, rfl, rfl⟩⟩⟩⟩⟩⟩ := hx1
  obtain rfl : cs1 = #[.int .i64 x1.f0, .int .i64 x1.f1, .bool x1.f2, .bool x1.f3, .bool x1.f4, .bool x1.f5, .int .i64 x1.f6] := Array.ext' (e1.trans rfl)
  obtain ⟨a2, rfl, rfl, rfl, w2⟩ := open_int Try.underlying22 (hval 2 22 v2 rfl rfl) h2
  clear hA0 hval0 hsz0 hsz
  obtain ⟨k, h⟩ := Pure.PteBack a0 x1.f0 x1.f1 x1.f2 x1.f3 x1.f4 x1.f5 x1.f6 a2 w0 wx1 w2
  refine (paviorlaw02_PteBack.calls k a0 x1.f0 x1.f1 x1.f2 x1.f3 x1.f4 x1.f5 x1.f6 a2 true W h).mono fun e W' ⟨he, bel0⟩ => ?_
  have bel : Below W.heap.size W W' := bel0
  subst he
  exact ⟨_, rfl, _, _, _, [], _, [], hW', trodAll_mk1 (shut_bool Try.underlying4 _), (trodAll_cons_mk (shut_int Try.underlying3 w0) (trodAll_cons_mk (Below.trod laidOut (by kernel_rfl) (of_decide_eq_true (by kernel_rfl)) k1 bel lt1) (trodAll_cons_mk (shut_int Try.underlying22 w2) trodAll_mk0))), rfl, bel.frame _, fun h => by cases h⟩
theorem over : Rows.pteBackRow.holds Try.pinned (OpenSpec.ofChange Rows.pteBackSpec) :=
  OpenClaim.holds_of_wide 5 Try.f5 rfl rfl rfl rfl rfl rfl rfl ⟨rfl, rfl, rfl, rfl, rfl⟩ rfl rfl rfl rfl rfl (by kernel_rfl) Try.func5 (by kernel_rfl)
    (of_decide_eq_true (by kernel_rfl)) (by unfold Func.isWrapper; first | (rw [if_pos (by decide +kernel)]; kernel_rfl) | (rw [if_neg (by decide +kernel)]; exact ⟨rfl, rfl⟩))
    (fun os started H enc _ => lifted os started H enc)
theorem proved : Rows.PteBackSaid := over
#print axioms proved
end Go.Proofs.Ytobbcfpkmmafnab.pteBack
namespace Go.Proofs.Ytobbcfpkmmafnab
/-- The row, under a short name, for the claim. -/
theorem pteBack_holds : Rows.PteBackSaid := pteBack.proved
end Go.Proofs.Ytobbcfpkmmafnab
