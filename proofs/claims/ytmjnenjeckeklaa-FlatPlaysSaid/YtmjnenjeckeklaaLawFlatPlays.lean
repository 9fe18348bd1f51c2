-- Written by this session's program wip/tools/vrow.py (after the kit's printer's row texts).
import Derived.Test.YtmjnenjeckeklaaRows
import Derived.Test.YtmjnenjeckeklaaVZg
import Derived.Test.YtmjnenjeckeklaaPureFlatPlays
import Derived.WalkKit
import Derived.ProofKit
import Derived.OpenShut
import Derived.ShutString
import Derived.ChangeOld
import Derived.Below
import Derived.SizedLaws
import Derived.Carry
namespace Go.Proofs.Ytmjnenjeckeklaa.flatPlays
open Go.ChangeShapes Go.WideShapes Go.ChangeAt Go.RowKit
open Go.ChangeMaps (open_string shut_string)
set_option linter.unusedVariables false
theorem own : ownKnob Try.prog.godebug = none := by kernel_rfl
theorem laidOut : laidOutB Try.prog = true := by kernel_rfl
def cD (x : V.ye) : List Value := [.int .i64 x.f0, .int .i64 x.f1, .int .i64 x.f2, .int .i64 x.f3, .int .i64 x.f4, .bool x.r.f0, .bool x.r.f1, .bool x.h, .int .i64 x.i, .int .u64 x.v]
def Eh (x : V.ye) : Prop := (Lit.int .i64 x.f0).wf = true
theorem SD : V.iW Try.prog 35 10 cD Eh := by
  have h := V.iW.N3 (V.iW.struct Try.underlying35 (V.iX.cons _ _ 0 1 9 (V.iW.int Try.underlying3) rfl (by kernel_rfl) (V.iX.cons _ _ 1 1 8 (V.iW.int Try.underlying3) rfl (by kernel_rfl) (V.iX.cons _ _ 2 1 7 (V.iW.int Try.underlying3) rfl (by kernel_rfl) (V.iX.cons _ _ 3 1 6 (V.iW.int Try.underlying3) rfl (by kernel_rfl) (V.iX.cons _ _ 4 1 5 (V.iW.int Try.underlying3) rfl (by kernel_rfl) (V.iX.cons _ _ 5 2 3 (V.iW.struct Try.underlying25 (V.iX.cons _ _ 0 1 1 (V.iW.bool Try.underlying4) rfl (by kernel_rfl) (V.iX.last _ 1 1 (V.iW.bool Try.underlying4) rfl (by kernel_rfl))) (by kernel_rfl)) rfl (by kernel_rfl) (V.iX.cons _ _ 7 1 2 (V.iW.bool Try.underlying4) rfl (by kernel_rfl) (V.iX.cons _ _ 8 1 1 (V.iW.int Try.underlying3) rfl (by kernel_rfl) (V.iX.last _ 9 1 (V.iW.int Try.underlying23) rfl (by kernel_rfl)))))))))) (by kernel_rfl)) (fun p : Int × Int × Int × Int × Int × (Bool × Bool) × Bool × Int × Int => (⟨p.1, p.2.1, p.2.2.1, p.2.2.2.1, p.2.2.2.2.1, ⟨p.2.2.2.2.2.1.1, p.2.2.2.2.2.1.2⟩, p.2.2.2.2.2.2.1, p.2.2.2.2.2.2.2.1, p.2.2.2.2.2.2.2.2⟩ : V.ye)) (fun x : V.ye => (x.f0, x.f1, x.f2, x.f3, x.f4, (x.r.f0, x.r.f1), x.h, x.i, x.v)) (fun _ => rfl)
  refine ⟨h.1, fun H enc w sp held n cs x hx => ?_⟩
  obtain ⟨a, ha, hw⟩ := h.2 H enc w sp held n cs x hx
  exact ⟨a, ha, hw.1⟩
theorem walk (v0 : Value) (a0 : List V.ye) (w : World) (h0 : V.bP 45 w (fun b => b < w.heap.size) v0 (.sl false 10 (a0.map fun a => (cD a).map V.C.v)) []) (w0 : ∀ x ∈ a0, Eh x) :
    Calls Try.prog 5 #[v0] w fun e w' => e = .returned (.bool true) ∧ Below w.heap.size w w' := by
  obtain ⟨K, hK⟩ := FlatP.FlatPlays.plain a0 (fun x hx => Bits.wf_i64.mp (w0 x hx))
  exact V.AC.KZ (V.FlatPlays.ac K a0 true hK) (w := w) (R := fun b => b < w.heap.size) (vals := [v0])
    (.cons (F := []) (G := []) (.c h0) (.nil)) (fun _ h => h)
set_option maxRecDepth 100000 in
theorem lifted (os : Os) (started : os.Started) (H : Type) (enc : TypeId × Value → H) :
    ReturnsInHanded {} Try.checked os 5 .any (Rows.flatPlaysSpec.pre6 enc Try.prog Try.f5 Rows.flatPlaysRow.domain false) (Rows.flatPlaysSpec.post enc Try.prog Try.f5 false true false false) := by
  refine returnsInHanded_of_change_sized (C := Try.checked) own started (by kernel_rfl) Try.func5
    (ChangeSpec.witness6 (enc := enc) (C := Try.checked) false ⟨#[], #[.slice none 0 0], []⟩ 8 (by kernel_rfl) (by kernel_rfl) (by kernel_rfl) (by kernel_rfl)) ?_
  intro W base args ds gs before J9 hW hcnd N4 _
  have hsz : (DataW.weightsEach Try.prog (Try.f5.params.toList ++ Rows.flatPlaysSpec.plain.varTypes Try.prog) (ds ++ gs)).all (· ≤ reachBytes) = true := N4
  have hval : ∀ (j : Nat) t v, Try.f5.params[j]? = some t → args[j]? = some v → Value.okWide Try.prog W .any base t v := J9
  have hW' := hW
  obtain ⟨p, q, VQ, hV, rfl, hfz, hnd⟩ := hW
  have hA : DataW.TrodAll enc Try.prog W 0 (fun _ => true) true Try.f5.params.toList args.toList ds p := VQ
  rw [Try.params5] at hA hval hsz
  obtain ⟨v0, vs0, d0, ds0, p0, q0, hargs, rfl, rfl, h0, r0⟩ := trodAll_cons hA
  obtain ⟨rfl, rfl, rfl⟩ := trodAll_nil r0
  obtain rfl : args = #[v0] := by cases args; simp_all
  obtain ⟨rfl, rfl⟩ := trodVars_none hV
  obtain ⟨A0, N5, N6, rfl⟩ := okWide_slice Try.underlying22 (hval 0 22 v0 rfl rfl)
  have k0 := h0
  have lt0 : ∀ x ∈ p0, x.block < W.heap.size := by
    obtain ⟨m, hm⟩ := k0
    exact DataW.trod_lt m _ _ _ hm
  obtain ⟨l0, hK0, hm0, hw0⟩ : ∃ l : List V.ye, V.bP 45 W (fun b => b < W.heap.size) (.slice A0 N5 N6) (.sl false 10 (l.map fun a => (cD a).map V.C.v)) [] ∧ l.length ≤ maxLen ∧ ∀ x ∈ l, Eh x := by
    obtain ⟨fuel, hf⟩ := h0
    exact V.Hu Try.underlying22 SD (by kernel_rfl) (by omega) (hval 0 22 _ rfl rfl) hf
  clear VQ J9 N4 hsz
  refine (walk (.slice A0 N5 N6) l0 W hK0 hw0).mono fun e W' ⟨he, bel⟩ => ?_
  subst he
  exact ⟨_, rfl, _, _, _, [], _, [], hW', trodAll_mk1 (shut_bool Try.underlying4 _), (trodAll_cons_mk (Below.trod laidOut (by kernel_rfl) (of_decide_eq_true (by kernel_rfl)) k0 bel lt0) trodAll_mk0), rfl, bel.frame _, fun h => by cases h⟩
theorem over : Rows.flatPlaysRow.holds Try.pinned (OpenSpec.ofChange Rows.flatPlaysSpec) :=
  OpenClaim.holds_of_wide 5 Try.f5 rfl rfl rfl rfl rfl rfl rfl ⟨rfl, rfl, rfl, rfl, rfl⟩ rfl rfl rfl rfl rfl (by kernel_rfl) Try.func5 (by kernel_rfl)
    (of_decide_eq_true (by kernel_rfl)) (by unfold Func.isWrapper; first | (rw [if_pos (by decide +kernel)]; kernel_rfl) | (rw [if_neg (by decide +kernel)]; exact ⟨rfl, rfl⟩))
    (fun os started H enc _ => lifted os started H enc)
theorem proved : Rows.FlatPlaysSaid := over
#print axioms proved
end Go.Proofs.Ytmjnenjeckeklaa.flatPlays
namespace Go.Proofs.Ytmjnenjeckeklaa
/-- The row, under a short name, for the claim. -/
theorem flatPlays_holds : Rows.FlatPlaysSaid := flatPlays.proved
end Go.Proofs.Ytmjnenjeckeklaa
