-- Written by this session's program wip/tools/vrow.py (after the kit's printer's row texts).
import Derived.Test.YtmjnenjeckeklaaRows
import Derived.Test.YtmjnenjeckeklaaVZg
import Derived.Test.YtmjnenjeckeklaaPureFlatForks
import Derived.WalkKit
import Derived.ProofKit
import Derived.OpenShut
import Derived.ShutString
import Derived.ChangeOld
import Derived.Below
import Derived.SizedLaws
import Derived.Carry
namespace Go.Proofs.Ytmjnenjeckeklaa.flatForks
open Go.ChangeShapes Go.WideShapes Go.ChangeAt Go.RowKit
open Go.ChangeMaps (open_string shut_string)
set_option linter.unusedVariables false
theorem own : ownKnob Try.prog.godebug = none := by kernel_rfl
theorem laidOut : laidOutB Try.prog = true := by kernel_rfl
def cD (x : V.D10) : List Value := [.int .i64 x.f0, .int .i64 x.f1, .int .i64 x.f2, .int .i64 x.f3, .int .i64 x.f4, .bool x.r.f0, .bool x.r.f1, .bool x.h, .int .i64 x.i, .int .u64 x.v]
def fitDW (x : V.D10) : Prop := (Lit.int .i64 x.f0).wf = true
theorem fitD : V.FitV Try.prog 35 10 cD fitDW := by
  have h := V.FitV.iso (V.FitV.struct Try.underlying35 (V.FitFV.cons _ _ 0 1 9 (V.FitV.int Try.underlying3) rfl (by kernel_rfl) (V.FitFV.cons _ _ 1 1 8 (V.FitV.int Try.underlying3) rfl (by kernel_rfl) (V.FitFV.cons _ _ 2 1 7 (V.FitV.int Try.underlying3) rfl (by kernel_rfl) (V.FitFV.cons _ _ 3 1 6 (V.FitV.int Try.underlying3) rfl (by kernel_rfl) (V.FitFV.cons _ _ 4 1 5 (V.FitV.int Try.underlying3) rfl (by kernel_rfl) (V.FitFV.cons _ _ 5 2 3 (V.FitV.struct Try.underlying25 (V.FitFV.cons _ _ 0 1 1 (V.FitV.bool Try.underlying4) rfl (by kernel_rfl) (V.FitFV.last _ 1 1 (V.FitV.bool Try.underlying4) rfl (by kernel_rfl))) (by kernel_rfl)) rfl (by kernel_rfl) (V.FitFV.cons _ _ 7 1 2 (V.FitV.bool Try.underlying4) rfl (by kernel_rfl) (V.FitFV.cons _ _ 8 1 1 (V.FitV.int Try.underlying3) rfl (by kernel_rfl) (V.FitFV.last _ 9 1 (V.FitV.int Try.underlying23) rfl (by kernel_rfl)))))))))) (by kernel_rfl)) (fun p : Int × Int × Int × Int × Int × (Bool × Bool) × Bool × Int × Int => (⟨p.1, p.2.1, p.2.2.1, p.2.2.2.1, p.2.2.2.2.1, ⟨p.2.2.2.2.2.1.1, p.2.2.2.2.2.1.2⟩, p.2.2.2.2.2.2.1, p.2.2.2.2.2.2.2.1, p.2.2.2.2.2.2.2.2⟩ : V.D10)) (fun x : V.D10 => (x.f0, x.f1, x.f2, x.f3, x.f4, (x.r.f0, x.r.f1), x.h, x.i, x.v)) (fun _ => rfl)
  refine ⟨h.1, fun H enc w sp held n cs x hx => ?_⟩
  obtain ⟨a, ha, hw⟩ := h.2 H enc w sp held n cs x hx
  exact ⟨a, ha, hw.1⟩
theorem walk (v0 : Value) (a0 : List V.D10) (a1 : Int) (a2 : Int) (a3 : Int) (a4 : Int) (w : World) (h0 : V.RepC 45 w (fun b => b < w.heap.size) v0 (.sl false 10 (a0.map fun a => (cD a).map V.C.v)) []) (w0 : ∀ x ∈ a0, fitDW x) (w1 : (Lit.int .i64 a1).wf = true) (w2 : (Lit.int .i64 a2).wf = true) (w3 : (Lit.int .i64 a3).wf = true) (w4 : (Lit.int .i64 a4).wf = true) :
    Calls Try.prog 4 #[v0, .int .i64 a1, .int .i64 a2, .int .i64 a3, .int .i64 a4] w fun e w' => e = .returned (.bool true) ∧ Below w.heap.size w w' := by
  obtain ⟨K, hK⟩ := FlatP.FlatForks.plain a0 a1 a2 a3 a4 (fun x hx => Bits.wf_i64.mp (w0 x hx))
  exact V.AC.callsB (V.FlatForks.ac K a0 a1 a2 a3 a4 true hK) (w := w) (R := fun b => b < w.heap.size) (vals := [v0, .int .i64 a1, .int .i64 a2, .int .i64 a3, .int .i64 a4])
    (.cons (F := []) (G := []) (.c h0) (.cons (F := []) (G := []) (.c (.v rfl)) (.cons (F := []) (G := []) (.c (.v rfl)) (.cons (F := []) (G := []) (.c (.v rfl)) (.cons (F := []) (G := []) (.c (.v rfl)) (.nil)))))) (fun _ h => h)
set_option maxRecDepth 100000 in
theorem lifted (os : Os) (started : os.Started) (H : Type) (enc : TypeId × Value → H) :
    ReturnsInHanded {} Try.checked os 4 .any (Rows.flatForksSpec.pre6 enc Try.prog Try.f4 Rows.flatForksRow.domain false) (Rows.flatForksSpec.post enc Try.prog Try.f4 false true false false) := by
  refine returnsInHanded_of_change_sized (C := Try.checked) own started (by kernel_rfl) Try.func4
    (ChangeSpec.witness6 (enc := enc) (C := Try.checked) false ⟨#[], #[.slice none 0 0, .int .i64 0, .int .i64 0, .int .i64 0, .int .i64 0], []⟩ 8 (by kernel_rfl) (by kernel_rfl) (by kernel_rfl) (by kernel_rfl)) ?_
  intro W base args ds gs before hval0 hW hcnd hsz0 _
  have hsz : (DataW.weightsEach Try.prog (Try.f4.params.toList ++ Rows.flatForksSpec.plain.varTypes Try.prog) (ds ++ gs)).all (· ≤ reachBytes) = true := hsz0
  have hval : ∀ (j : Nat) t v, Try.f4.params[j]? = some t → args[j]? = some v → Value.okWide Try.prog W .any base t v := hval0
  have hW' := hW
  obtain ⟨p, q, hA0, hV, rfl, hfz, hnd⟩ := hW
  have hA : DataW.TrodAll enc Try.prog W 0 (fun _ => true) true Try.f4.params.toList args.toList ds p := hA0
  rw [Try.params4] at hA hval hsz
  obtain ⟨v0, vs0, d0, ds0, p0, q0, hargs, rfl, rfl, h0, r0⟩ := trodAll_cons hA
  obtain ⟨v1, vs1, d1, ds1, p1, q1, rfl, rfl, rfl, h1, r1⟩ := trodAll_cons r0
  obtain ⟨v2, vs2, d2, ds2, p2, q2, rfl, rfl, rfl, h2, r2⟩ := trodAll_cons r1
  obtain ⟨v3, vs3, d3, ds3, p3, q3, rfl, rfl, rfl, h3, r3⟩ := trodAll_cons r2
  obtain ⟨v4, vs4, d4, ds4, p4, q4, rfl, rfl, rfl, h4, r4⟩ := trodAll_cons r3
  obtain ⟨rfl, rfl, rfl⟩ := trodAll_nil r4
  obtain rfl : args = #[v0, v1, v2, v3, v4] := by cases args; simp_all
  obtain ⟨rfl, rfl⟩ := trodVars_none hV
  obtain ⟨A0, len0, cap0, rfl⟩ := okWide_slice Try.underlying22 (hval 0 22 v0 rfl rfl)
  have k0 := h0
  have lt0 : ∀ x ∈ p0, x.block < W.heap.size := by
    obtain ⟨m, hm⟩ := k0
    exact DataW.trod_lt m _ _ _ hm
  obtain ⟨l0, hK0, hm0, hw0⟩ : ∃ l : List V.D10, V.RepC 45 W (fun b => b < W.heap.size) (.slice A0 len0 cap0) (.sl false 10 (l.map fun a => (cD a).map V.C.v)) [] ∧ l.length ≤ maxLen ∧ ∀ x ∈ l, fitDW x := by
    obtain ⟨fuel, hf⟩ := h0
    exact V.open_sl Try.underlying22 fitD (by kernel_rfl) (by omega) (hval 0 22 _ rfl rfl) hf
  obtain ⟨a1, rfl, rfl, rfl, w1⟩ := open_int Try.underlying3 (hval 1 3 v1 rfl rfl) h1
  obtain ⟨a2, rfl, rfl, rfl, w2⟩ := open_int Try.underlying3 (hval 2 3 v2 rfl rfl) h2
  obtain ⟨a3, rfl, rfl, rfl, w3⟩ := open_int Try.underlying3 (hval 3 3 v3 rfl rfl) h3
  obtain ⟨a4, rfl, rfl, rfl, w4⟩ := open_int Try.underlying3 (hval 4 3 v4 rfl rfl) h4
  clear hA0 hval0 hsz0 hsz
  refine (walk (.slice A0 len0 cap0) l0 a1 a2 a3 a4 W hK0 hw0 w1 w2 w3 w4).mono fun e W' ⟨he, bel⟩ => ?_
  subst he
  exact ⟨_, rfl, _, _, _, [], _, [], hW', trodAll_mk1 (shut_bool Try.underlying4 _), (trodAll_cons_mk (Below.trod laidOut (by kernel_rfl) (of_decide_eq_true (by kernel_rfl)) k0 bel lt0) (trodAll_cons_mk (shut_int Try.underlying3 w1) (trodAll_cons_mk (shut_int Try.underlying3 w2) (trodAll_cons_mk (shut_int Try.underlying3 w3) (trodAll_cons_mk (shut_int Try.underlying3 w4) trodAll_mk0))))), rfl, bel.frame _, fun h => by cases h⟩
theorem over : Rows.flatForksRow.holds Try.pinned (OpenSpec.ofChange Rows.flatForksSpec) :=
  OpenClaim.holds_of_wide 4 Try.f4 rfl rfl rfl rfl rfl rfl rfl ⟨rfl, rfl, rfl, rfl, rfl⟩ rfl rfl rfl rfl rfl (by kernel_rfl) Try.func4 (by kernel_rfl)
    (of_decide_eq_true (by kernel_rfl)) (by unfold Func.isWrapper; first | (rw [if_pos (by decide +kernel)]; kernel_rfl) | (rw [if_neg (by decide +kernel)]; exact ⟨rfl, rfl⟩))
    (fun os started H enc _ => lifted os started H enc)
theorem proved : Rows.FlatForksSaid := over
#print axioms proved
end Go.Proofs.Ytmjnenjeckeklaa.flatForks
namespace Go.Proofs.Ytmjnenjeckeklaa
/-- The row, under a short name, for the claim. -/
theorem flatForks_holds : Rows.FlatForksSaid := flatForks.proved
end Go.Proofs.Ytmjnenjeckeklaa
