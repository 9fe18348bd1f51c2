-- Written by hand after this session's program wip/tools/xprint.py (the kit's printer's row texts).
import Derived.Test.YtehbhpkmlmeblaaRows
import Derived.Test.YtehbhpkmlmeblaaVU
import Derived.Test.YtehbhpkmlmeblaaPureBbmKeeps
import Derived.WalkKit
import Derived.ProofKit
import Derived.OpenShut
import Derived.ShutString
import Derived.ChangeOld
import Derived.Below
import Derived.SizedLaws
import Derived.Carry
namespace Go.Proofs.Ytehbhpkmlmeblaa.bbmKeeps
open Go.ChangeShapes Go.WideShapes Go.ChangeAt Go.RowKit
open Go.ChangeMaps (open_string shut_string)
set_option linter.unusedVariables false
theorem own : ownKnob Try.prog.godebug = none := by kernel_rfl
theorem laidOut : laidOutB Try.prog = true := by kernel_rfl
theorem walk (a0 : Int) (a1 : Int) (a2 : Int) (a3 : Int) (a4 : Int) (v5 : Value) (a5 : List Int) (a6 : Bool) (w : World) (h5 : V.RepC 47 w (fun b => b < w.heap.size) v5 (.sl false 1 (a5.map fun a => [.v (.int .u64 a)])) []) (w5 : ∀ x ∈ a5, (Lit.int .u64 x).wf = true) :
    Calls Try.prog 3 #[.int .i64 a0, .int .i64 a1, .int .i64 a2, .int .i64 a3, .int .i64 a4, v5, .bool a6] w fun e w' => e = .returned (.bool true) ∧ Below w.heap.size w w' :=
  V.AC.callsB (V.BbmKeeps.ac 1000 a0 a1 a2 a3 a4 a5 a6 true (V.keeps a0 a1 a2 a3 a4 a5 a6 (fun x hx => Bits.wf_u64.mp (w5 x hx)))) (w := w) (R := fun b => b < w.heap.size) (vals := [.int .i64 a0, .int .i64 a1, .int .i64 a2, .int .i64 a3, .int .i64 a4, v5, .bool a6])
    (.cons (F := []) (G := []) (.c (.v rfl)) (.cons (F := []) (G := []) (.c (.v rfl)) (.cons (F := []) (G := []) (.c (.v rfl)) (.cons (F := []) (G := []) (.c (.v rfl)) (.cons (F := []) (G := []) (.c (.v rfl)) (.cons (F := []) (G := []) (.c h5) (.cons (F := []) (G := []) (.c (.v rfl)) (.nil)))))))) (fun _ h => h)
set_option maxRecDepth 100000 in
theorem lifted (os : Os) (started : os.Started) (H : Type) (enc : TypeId × Value → H) :
    ReturnsInHanded {} Try.checked os 3 .any (Rows.bbmKeepsSpec.pre6 enc Try.prog Try.f3 Rows.bbmKeepsRow.domain false) (Rows.bbmKeepsSpec.post enc Try.prog Try.f3 false true false false) := by
  refine returnsInHanded_of_change_sized (C := Try.checked) own started (by kernel_rfl) Try.func3
    (ChangeSpec.witness6 (enc := enc) (C := Try.checked) false ⟨#[], #[.int .i64 0, .int .i64 0, .int .i64 0, .int .i64 0, .int .i64 0, .slice none 0 0, .bool false], []⟩ 8 (by kernel_rfl) (by kernel_rfl) (by kernel_rfl) (by kernel_rfl)) ?_
  intro W base args ds gs before hval0 hW hcnd hsz0 _
  have hsz : (DataW.weightsEach Try.prog (Try.f3.params.toList ++ Rows.bbmKeepsSpec.plain.varTypes Try.prog) (ds ++ gs)).all (· ≤ reachBytes) = true := hsz0
  have hval : ∀ (j : Nat) t v, Try.f3.params[j]? = some t → args[j]? = some v → Value.okWide Try.prog W .any base t v := hval0
  have hW' := hW
  obtain ⟨p, q, hA0, hV, rfl, hfz, hnd⟩ := hW
  have hA : DataW.TrodAll enc Try.prog W 0 (fun _ => true) true Try.f3.params.toList args.toList ds p := hA0
  rw [Try.params3] at hA hval hsz
  obtain ⟨v0, vs0, d0, ds0, p0, q0, hargs, rfl, rfl, h0, r0⟩ := trodAll_cons hA
  obtain ⟨v1, vs1, d1, ds1, p1, q1, rfl, rfl, rfl, h1, r1⟩ := trodAll_cons r0
  obtain ⟨v2, vs2, d2, ds2, p2, q2, rfl, rfl, rfl, h2, r2⟩ := trodAll_cons r1
  obtain ⟨v3, vs3, d3, ds3, p3, q3, rfl, rfl, rfl, h3, r3⟩ := trodAll_cons r2
  obtain ⟨v4, vs4, d4, ds4, p4, q4, rfl, rfl, rfl, h4, r4⟩ := trodAll_cons r3
  obtain ⟨v5, vs5, d5, ds5, p5, q5, rfl, rfl, rfl, h5, r5⟩ := trodAll_cons r4
  obtain ⟨v6, vs6, d6, ds6, p6, q6, rfl, rfl, rfl, h6, r6⟩ := trodAll_cons r5
  obtain ⟨rfl, rfl, rfl⟩ := trodAll_nil r6
  obtain rfl : args = #[v0, v1, v2, v3, v4, v5, v6] := by cases args; simp_all
  obtain ⟨rfl, rfl⟩ := trodVars_none hV
  obtain ⟨a0, rfl, rfl, rfl, w0⟩ := open_int Try.underlying3 (hval 0 3 v0 rfl rfl) h0
  obtain ⟨a1, rfl, rfl, rfl, w1⟩ := open_int Try.underlying3 (hval 1 3 v1 rfl rfl) h1
  obtain ⟨a2, rfl, rfl, rfl, w2⟩ := open_int Try.underlying3 (hval 2 3 v2 rfl rfl) h2
  obtain ⟨a3, rfl, rfl, rfl, w3⟩ := open_int Try.underlying3 (hval 3 3 v3 rfl rfl) h3
  obtain ⟨a4, rfl, rfl, rfl, w4⟩ := open_int Try.underlying3 (hval 4 3 v4 rfl rfl) h4
  obtain ⟨A5, len5, cap5, rfl⟩ := okWide_slice Try.underlying22 (hval 5 22 v5 rfl rfl)
  have k5 := h5
  have lt5 : ∀ x ∈ p5, x.block < W.heap.size := by
    obtain ⟨m, hm⟩ := k5
    exact DataW.trod_lt m _ _ _ hm
  obtain ⟨l5, hK5, hm5, hw5⟩ : ∃ l : List Int, V.RepC 47 W (fun b => b < W.heap.size) (.slice A5 len5 cap5) (.sl false 1 (l.map fun a => [V.C.v (.int .u64 a)])) [] ∧ l.length ≤ maxLen ∧ ∀ x ∈ l, (Lit.int .u64 x).wf = true := by
    obtain ⟨fuel, hf⟩ := h5
    exact V.open_sl Try.underlying22 (V.FitV.int Try.underlying27) (by kernel_rfl) (by omega) (hval 5 22 _ rfl rfl) hf
  obtain ⟨a6, rfl, rfl, rfl⟩ := open_bool Try.underlying4 (hval 6 4 v6 rfl rfl) h6
  clear hA0 hval0 hsz0 hsz
  refine (walk a0 a1 a2 a3 a4 (.slice A5 len5 cap5) l5 a6 W hK5 hw5).mono fun e W' ⟨he, bel⟩ => ?_
  subst he
  exact ⟨_, rfl, _, _, _, [], _, [], hW', trodAll_mk1 (shut_bool Try.underlying4 _), (trodAll_cons_mk (shut_int Try.underlying3 w0) (trodAll_cons_mk (shut_int Try.underlying3 w1) (trodAll_cons_mk (shut_int Try.underlying3 w2) (trodAll_cons_mk (shut_int Try.underlying3 w3) (trodAll_cons_mk (shut_int Try.underlying3 w4) (trodAll_cons_mk (Below.trod laidOut (by kernel_rfl) (of_decide_eq_true (by kernel_rfl)) k5 bel lt5) (trodAll_cons_mk (shut_bool Try.underlying4 _) trodAll_mk0))))))), rfl, bel.frame _, fun h => by cases h⟩
theorem over : Rows.bbmKeepsRow.holds Try.pinned (OpenSpec.ofChange Rows.bbmKeepsSpec) :=
  OpenClaim.holds_of_wide 3 Try.f3 rfl rfl rfl rfl rfl rfl rfl ⟨rfl, rfl, rfl, rfl, rfl⟩ rfl rfl rfl rfl rfl (by kernel_rfl) Try.func3 (by kernel_rfl)
    (of_decide_eq_true (by kernel_rfl)) (by unfold Func.isWrapper; first | (rw [if_pos (by decide +kernel)]; kernel_rfl) | (rw [if_neg (by decide +kernel)]; exact ⟨rfl, rfl⟩))
    (fun os started H enc _ => lifted os started H enc)
theorem proved : Rows.BbmKeepsSaid := over
#print axioms proved
end Go.Proofs.Ytehbhpkmlmeblaa.bbmKeeps
namespace Go.Proofs.Ytehbhpkmlmeblaa
/-- The row, under a short name, for the claim. -/
theorem bbmKeeps_holds : Rows.BbmKeepsSaid := bbmKeeps.proved
end Go.Proofs.Ytehbhpkmlmeblaa
