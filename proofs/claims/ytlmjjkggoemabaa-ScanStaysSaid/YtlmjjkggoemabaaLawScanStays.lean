-- Written by this session's program wip/tools/xprint.py: the row of the law paviorlaw19_ScanStays.
import Derived.Test.YtlmjjkggoemabaaRows
import Derived.Test.YtlmjjkggoemabaaQx11
import Derived.Test.YtlmjjkggoemabaaPureScanStays
import Derived.Test.YtlmjjkggoemabaaFit
import Derived.WalkKit
import Derived.ProofKit
import Derived.OpenShut
import Derived.ShutString
import Derived.ChangeOld
import Derived.Below
import Derived.SizedLaws
import Derived.Carry
namespace Go.Proofs.Ytlmjjkggoemabaa.scanStays
open Go.ChangeShapes Go.WideShapes Go.ChangeAt Go.RowKit Go.Proofs.Ytlmjjkggoemabaa.Q Go.Proofs.YtlmjjkggoemabaaW.PrintWords Go.Proofs.Ytlmjjkggoemabaa.Fit
open Go.ChangeMaps (open_string shut_string)
set_option linter.unusedVariables false
set_option linter.unusedSimpArgs false
theorem own : ownKnob Try.prog.godebug = none := by kernel_rfl
theorem laidOut : laidOutB Try.prog = true := by kernel_rfl
theorem fit41 : Fit Try.prog 41 k41 (fun x => ((Lit.int .i64 x.f0).wf = true ∧ (Lit.int .i64 x.f1).wf = true)) := by
  have h := Fit.iso (Fit.struct Try.underlying41 (FitF.cons _ _ _ (Fit.int Try.underlying3) rfl (by kernel_rfl) (FitF.last _ _ (Fit.int Try.underlying3) rfl (by kernel_rfl))) (by kernel_rfl)) (fun p : Int × Int => (⟨p.1, p.2⟩ : S41)) (fun x : S41 => (x.f0, x.f1)) (fun _ => rfl)
  exact h
set_option maxRecDepth 100000 in
theorem lifted (os : Os) (started : os.Started) (H : Type) (enc : TypeId × Value → H) :
    ReturnsInHanded {} Try.checked os 5 .any (Rows.scanStaysSpec.pre6 enc Try.prog Try.f5 Rows.scanStaysRow.domain false) (Rows.scanStaysSpec.post enc Try.prog Try.f5 false true false false) := by
  refine returnsInHanded_of_change_sized (C := Try.checked) own started (by kernel_rfl) Try.func5
    (ChangeSpec.witness6 (enc := enc) (C := Try.checked) false ⟨#[], #[.int .i64 0, .slice none 0 0, .slice none 0 0], []⟩ 8 (by kernel_rfl) (by kernel_rfl) (by kernel_rfl) (by kernel_rfl)) ?_
  intro W base args ds gs before hval0 hW hcnd hsz0 _
  have hsz : (DataW.weightsEach Try.prog (Try.f5.params.toList ++ Rows.scanStaysSpec.plain.varTypes Try.prog) (ds ++ gs)).all (· ≤ reachBytes) = true := hsz0
  have hval : ∀ (j : Nat) t v, Try.f5.params[j]? = some t → args[j]? = some v → Value.okWide Try.prog W .any base t v := hval0
  have hW' := hW
  obtain ⟨p, q, hA0, hV, rfl, hfz, hnd⟩ := hW
  have hA : DataW.TrodAll enc Try.prog W 0 (fun _ => true) true Try.f5.params.toList args.toList ds p := hA0
  rw [Try.params5] at hA hval hsz
  obtain ⟨v0, vs0, d0, ds0, p0, q0, hargs, rfl, rfl, h0, r0⟩ := trodAll_cons hA
  obtain ⟨v1, vs1, d1, ds1, p1, q1, rfl, rfl, rfl, h1, r1⟩ := trodAll_cons r0
  obtain ⟨v2, vs2, d2, ds2, p2, q2, rfl, rfl, rfl, h2, r2⟩ := trodAll_cons r1
  obtain ⟨rfl, rfl, rfl⟩ := trodAll_nil r2
  obtain rfl : args = #[v0, v1, v2] := by cases args; simp_all
  obtain ⟨rfl, rfl⟩ := trodVars_none hV
  obtain ⟨a0, rfl, rfl, rfl, w0⟩ := open_int Try.underlying3 (hval 0 3 v0 rfl rfl) h0
  obtain ⟨a1, len1, cap1, rfl⟩ := okWide_slice Try.underlying22 (hval 1 22 v1 rfl rfl)
  have k1 := h1
  have lt1 : ∀ x ∈ p1, x.block < W.heap.size := by
    obtain ⟨m, hm⟩ := k1
    exact DataW.trod_lt m _ _ _ hm
  obtain ⟨l1, hK1, hm1, hw1⟩ : ∃ l : List (S41), (Kd.slice 41 k41).K W l [.slice a1 len1 cap1] ∧ l.length ≤ maxLen ∧ ∀ x ∈ l, ((Lit.int .i64 x.f0).wf = true ∧ (Lit.int .i64 x.f1).wf = true) := by
    obtain ⟨fuel, hf⟩ := h1
    exact (Fit.slice Try.underlying22 fit41 (by kernel_rfl)) H enc W _ _ fuel _ _ hf
  obtain ⟨A1, c1, he1, hc1, hr1⟩ := hK1
  obtain ⟨rfl, rfl, rfl⟩ : a1 = A1 ∧ len1 = l1.length ∧ cap1 = c1 := by simpa using he1
  obtain ⟨a2, len2, cap2, rfl⟩ := okWide_slice Try.underlying23 (hval 2 23 v2 rfl rfl)
  have k2 := h2
  have lt2 : ∀ x ∈ p2, x.block < W.heap.size := by
    obtain ⟨m, hm⟩ := k2
    exact DataW.trod_lt m _ _ _ hm
  obtain ⟨l2, hK2, hm2, hw2⟩ : ∃ l : List Int, (Kd.slice 3 (Kd.int .i64)).K W l [.slice a2 len2 cap2] ∧ l.length ≤ maxLen ∧ ∀ x ∈ l, (Lit.int .i64 x).wf = true := by
    obtain ⟨fuel, hf⟩ := h2
    exact (Fit.slice Try.underlying23 (Fit.int Try.underlying3) (by kernel_rfl)) H enc W _ _ fuel _ _ hf
  obtain ⟨A2, c2, he2, hc2, hr2⟩ := hK2
  obtain ⟨rfl, rfl, rfl⟩ : a2 = A2 ∧ len2 = l2.length ∧ cap2 = c2 := by simpa using he2
  clear hA0 hval0 hsz0 hsz
  obtain ⟨k, h⟩ := Pure.ScanStays a0 l1 l2 w0 hm1 hw1 hm2 hw2
  refine (paviorlaw19_ScanStays.calls k a0 _ _ l1 _ _ l2 true W hr1 hc1 hr2 hc2 h).mono fun e W' ⟨he, bel0⟩ => ?_
  have bel : Below W.heap.size W W' := bel0
  subst he
  exact ⟨_, rfl, _, _, _, [], _, [], hW', trodAll_mk1 (shut_bool Try.underlying4 _), (trodAll_cons_mk (shut_int Try.underlying3 w0) (trodAll_cons_mk (Below.trod laidOut (by kernel_rfl) (of_decide_eq_true (by kernel_rfl)) k1 bel lt1) (trodAll_cons_mk (Below.trod laidOut (by kernel_rfl) (of_decide_eq_true (by kernel_rfl)) k2 bel lt2) trodAll_mk0))), rfl, bel.frame _, fun h => by cases h⟩
theorem over : Rows.scanStaysRow.holds Try.pinned (OpenSpec.ofChange Rows.scanStaysSpec) :=
  OpenClaim.holds_of_wide 5 Try.f5 rfl rfl rfl rfl rfl rfl rfl ⟨rfl, rfl, rfl, rfl, rfl⟩ rfl rfl rfl rfl rfl (by kernel_rfl) Try.func5 (by kernel_rfl)
    (of_decide_eq_true (by kernel_rfl)) (by unfold Func.isWrapper; first | (rw [if_pos (by decide +kernel)]; kernel_rfl) | (rw [if_neg (by decide +kernel)]; exact ⟨rfl, rfl⟩))
    (fun os started H enc _ => lifted os started H enc)
theorem proved : Rows.ScanStaysSaid := over
#print axioms proved
end Go.Proofs.Ytlmjjkggoemabaa.scanStays
namespace Go.Proofs.Ytlmjjkggoemabaa
/-- The row, under a short name, for the claim. -/
theorem scanStays_holds : Rows.ScanStaysSaid := scanStays.proved
end Go.Proofs.Ytlmjjkggoemabaa
