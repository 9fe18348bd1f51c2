-- Written by this session's program wip/tools/vrow.py (after the kit's printer's row texts).
import Derived.Test.YtmjnenjeckeklaaRows
import Derived.Test.YtmjnenjeckeklaaVZh
import Derived.Test.YtmjnenjeckeklaaPureFlatClones
import Derived.WalkKit
import Derived.ProofKit
import Derived.OpenShut
import Derived.ShutString
import Derived.ChangeOld
import Derived.Below
import Derived.SizedLaws
import Derived.Carry
set_option linter.unusedSimpArgs false
namespace Go.Proofs.Ytmjnenjeckeklaa.flatClones
open Go.ChangeShapes Go.WideShapes Go.ChangeAt Go.RowKit
open Go.ChangeMaps (open_string shut_string)
set_option linter.unusedVariables false
theorem own : ownKnob Try.prog.godebug = none := by kernel_rfl
theorem laidOut : laidOutB Try.prog = true := by kernel_rfl
def cD (x : V.qW) : List Value := [.int .i64 x.f0, .int .i64 x.f1, .int .i64 x.f2, .int .i64 x.f3, .int .i64 x.f4, .bool x.r.f0, .bool x.r.f1, .bool x.h, .int .i64 x.i, .int .u64 x.v]
def Ep (x : V.qW) : Prop := (Lit.int .i64 x.f0).wf = true
theorem UB : V.oW Try.prog 35 10 cD Ep := by
  have h := V.oW.TD (V.oW.struct Try.underlying35 (V.oX.cons _ _ 0 1 9 (V.oW.int Try.underlying3) rfl (by kernel_rfl) (V.oX.cons _ _ 1 1 8 (V.oW.int Try.underlying3) rfl (by kernel_rfl) (V.oX.cons _ _ 2 1 7 (V.oW.int Try.underlying3) rfl (by kernel_rfl) (V.oX.cons _ _ 3 1 6 (V.oW.int Try.underlying3) rfl (by kernel_rfl) (V.oX.cons _ _ 4 1 5 (V.oW.int Try.underlying3) rfl (by kernel_rfl) (V.oX.cons _ _ 5 2 3 (V.oW.struct Try.underlying25 (V.oX.cons _ _ 0 1 1 (V.oW.bool Try.underlying4) rfl (by kernel_rfl) (V.oX.last _ 1 1 (V.oW.bool Try.underlying4) rfl (by kernel_rfl))) (by kernel_rfl)) rfl (by kernel_rfl) (V.oX.cons _ _ 7 1 2 (V.oW.bool Try.underlying4) rfl (by kernel_rfl) (V.oX.cons _ _ 8 1 1 (V.oW.int Try.underlying3) rfl (by kernel_rfl) (V.oX.last _ 9 1 (V.oW.int Try.underlying23) rfl (by kernel_rfl)))))))))) (by kernel_rfl)) (fun p : Int × Int × Int × Int × Int × (Bool × Bool) × Bool × Int × Int => (⟨p.1, p.2.1, p.2.2.1, p.2.2.2.1, p.2.2.2.2.1, ⟨p.2.2.2.2.2.1.1, p.2.2.2.2.2.1.2⟩, p.2.2.2.2.2.2.1, p.2.2.2.2.2.2.2.1, p.2.2.2.2.2.2.2.2⟩ : V.qW)) (fun x : V.qW => (x.f0, x.f1, x.f2, x.f3, x.f4, (x.r.f0, x.r.f1), x.h, x.i, x.v)) (fun _ => rfl)
  refine ⟨h.1, fun H enc w sp held n cs x hx => ?_⟩
  obtain ⟨a, ha, hw⟩ := h.2 H enc w sp held n cs x hx
  exact ⟨a, ha, hw.1⟩
theorem walk (v0 : Value) (a0 : List V.qW) (v1 : Value) (a1 : List V.qW) (w : World) (h0 : V.iz 45 w (fun b => b < w.heap.size) v0 (.sl false 10 (a0.map fun a => (cD a).map V.C.v)) []) (w0 : ∀ x ∈ a0, Ep x) (h1 : V.iz 45 w (fun b => b < w.heap.size) v1 (.sl false 10 (a1.map fun a => (cD a).map V.C.v)) []) (w1 : ∀ x ∈ a1, Ep x) :
    Calls Try.prog 6 #[v0, v1] w fun e w' => e = .returned (.bool true) ∧ Below w.heap.size w w' := by
  obtain ⟨K, hK⟩ := FlatP.FlatClones.plain a0 a1 (fun x hx => Bits.wf_i64.mp (w0 x hx)) (fun x hx => Bits.wf_i64.mp (w1 x hx))
  exact V.AC.RC (V.FlatClones.ac K a0 a1 true hK) (w := w) (R := fun b => b < w.heap.size) (vals := [v0, v1])
    (.cons (F := []) (G := []) (.c h0) (.cons (F := []) (G := []) (.c h1) (.nil))) (fun _ h => h)
set_option maxRecDepth 100000 in
theorem lifted (os : Os) (started : os.Started) (H : Type) (enc : TypeId × Value → H) :
    ReturnsInHanded {} Try.checked os 6 .any (Rows.flatClonesSpec.pre6 enc Try.prog Try.f6 Rows.flatClonesRow.domain false) (Rows.flatClonesSpec.post enc Try.prog Try.f6 false true false false) := by
  refine returnsInHanded_of_change_sized (C := Try.checked) own started (by kernel_rfl) Try.func6
    (ChangeSpec.witness6 (enc := enc) (C := Try.checked) false ⟨#[], #[.slice none 0 0, .slice none 0 0], []⟩ 8 (by kernel_rfl) (by kernel_rfl) (by kernel_rfl) (by kernel_rfl)) ?_
  intro W base args ds gs before PX hW hcnd UC _
  have hsz : (DataW.weightsEach Try.prog (Try.f6.params.toList ++ Rows.flatClonesSpec.plain.varTypes Try.prog) (ds ++ gs)).all (· ≤ reachBytes) = true := UC
  have hval : ∀ (j : Nat) t v, Try.f6.params[j]? = some t → args[j]? = some v → Value.okWide Try.prog W .any base t v := PX
  have hW' := hW
  obtain ⟨p, q, hA0, hV, rfl, hfz, hnd⟩ := hW
  have hA : DataW.TrodAll enc Try.prog W 0 (fun _ => true) true Try.f6.params.toList args.toList ds p := hA0
  rw [Try.params6] at hA hval hsz
  obtain ⟨v0, vs0, d0, ds0, p0, q0, hargs, rfl, rfl, h0, r0⟩ := trodAll_cons hA
  obtain ⟨v1, vs1, d1, ds1, p1, q1, rfl, rfl, rfl, h1, r1⟩ := trodAll_cons r0
  obtain ⟨rfl, rfl, rfl⟩ := trodAll_nil r1
  obtain rfl : args = #[v0, v1] := by cases args; simp_all
  obtain ⟨rfl, rfl⟩ := trodVars_none hV
  obtain ⟨A0, UD, UE, rfl⟩ := okWide_slice Try.underlying22 (hval 0 22 v0 rfl rfl)
  have k0 := h0
  have lt0 : ∀ x ∈ p0, x.block < W.heap.size := by
    obtain ⟨m, hm⟩ := k0
    exact DataW.trod_lt m _ _ _ hm
  obtain ⟨l0, hK0, hm0, hw0⟩ : ∃ l : List V.qW, V.iz 45 W (fun b => b < W.heap.size) (.slice A0 UD UE) (.sl false 10 (l.map fun a => (cD a).map V.C.v)) [] ∧ l.length ≤ maxLen ∧ ∀ x ∈ l, Ep x := by
    obtain ⟨fuel, hf⟩ := h0
    exact V.Hi Try.underlying22 UB (by kernel_rfl) (by omega) (hval 0 22 _ rfl rfl) hf
  obtain ⟨A1, UF, UG, rfl⟩ := okWide_slice Try.underlying22 (hval 1 22 v1 rfl rfl)
  have k1 := h1
  have lt1 : ∀ x ∈ p1, x.block < W.heap.size := by
    obtain ⟨m, hm⟩ := k1
    exact DataW.trod_lt m _ _ _ hm
  obtain ⟨l1, hK1, hm1, hw1⟩ : ∃ l : List V.qW, V.iz 45 W (fun b => b < W.heap.size) (.slice A1 UF UG) (.sl false 10 (l.map fun a => (cD a).map V.C.v)) [] ∧ l.length ≤ maxLen ∧ ∀ x ∈ l, Ep x := by
    obtain ⟨fuel, hf⟩ := h1
    exact V.Hi Try.underlying22 UB (by kernel_rfl) (by omega) (hval 1 22 _ rfl rfl) hf
  clear hA0 PX UC hsz
  refine (walk (.slice A0 UD UE) l0 (.slice A1 UF UG) l1 W hK0 hw0 hK1 hw1).mono fun e W' ⟨he, bel⟩ => ?_
  subst he
  exact ⟨_, rfl, _, _, _, [], _, [], hW', trodAll_mk1 (shut_bool Try.underlying4 _), (trodAll_cons_mk (Below.trod laidOut (by kernel_rfl) (aD (by kernel_rfl)) k0 bel lt0) (trodAll_cons_mk (Below.trod laidOut (by kernel_rfl) (aD (by kernel_rfl)) k1 bel lt1) trodAll_mk0)), rfl, bel.frame _, fun h => by cases h⟩
theorem over : Rows.flatClonesRow.holds Try.pinned (OpenSpec.ofChange Rows.flatClonesSpec) :=
  OpenClaim.holds_of_wide 6 Try.f6 rfl rfl rfl rfl rfl rfl rfl ⟨rfl, rfl, rfl, rfl, rfl⟩ rfl rfl rfl rfl rfl (by kernel_rfl) Try.func6 (by kernel_rfl)
    (aD (by kernel_rfl)) (by unfold Func.isWrapper; first | (rw [aj (by decide +kernel)]; kernel_rfl) | (rw [ag (by decide +kernel)]; exact ⟨rfl, rfl⟩))
    (fun os started H enc _ => lifted os started H enc)
theorem proved : Rows.FlatClonesSaid := over
#print axioms proved
end Go.Proofs.Ytmjnenjeckeklaa.flatClones
namespace Go.Proofs.Ytmjnenjeckeklaa
/-- The row, under a short name, for the claim. -/
theorem flatClones_holds : Rows.FlatClonesSaid := flatClones.proved
end Go.Proofs.Ytmjnenjeckeklaa
