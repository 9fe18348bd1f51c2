-- Written by this session's program wip/tools/vrow.py (after the kit's printer's row texts).
import Derived.Test.YtfbjhioefkimbaaRows
import Derived.Test.YtfbjhioefkimbaaVU
import Derived.Test.YtfbjhioefkimbaaPureTlbPlays
import Derived.WalkKit
import Derived.ProofKit
import Derived.OpenShut
import Derived.ShutString
import Derived.ChangeOld
import Derived.Below
import Derived.SizedLaws
import Derived.Carry
namespace Go.Proofs.Ytfbjhioefkimbaa.tlbPlays
open Go.ChangeShapes Go.WideShapes Go.ChangeAt Go.RowKit
open Go.ChangeMaps (open_string shut_string)
set_option linter.unusedVariables false
theorem own : ownKnob Try.prog.godebug = none := by kernel_rfl
theorem laidOut : laidOutB Try.prog = true := by kernel_rfl
def cE (x : Q.S30) : List Value := [.int .i64 x.f0, .int .i64 x.f1, .int .i64 x.f2, .int .i64 x.f3, .bool x.f4, .bool x.f5]
def fitEW (x : Q.S30) : Prop := (Lit.int .i64 x.f3).wf = true
theorem fitE : V.FitV Try.prog 30 6 cE fitEW := by
  have h := V.FitV.iso (V.FitV.struct Try.underlying30 (V.FitFV.cons _ _ 0 1 5 (V.FitV.int Try.underlying3) rfl (by kernel_rfl) (V.FitFV.cons _ _ 1 1 4 (V.FitV.int Try.underlying3) rfl (by kernel_rfl) (V.FitFV.cons _ _ 2 1 3 (V.FitV.int Try.underlying3) rfl (by kernel_rfl) (V.FitFV.cons _ _ 3 1 2 (V.FitV.int Try.underlying3) rfl (by kernel_rfl) (V.FitFV.cons _ _ 4 1 1 (V.FitV.bool Try.underlying4) rfl (by kernel_rfl) (V.FitFV.last _ 5 1 (V.FitV.bool Try.underlying4) rfl (by kernel_rfl))))))) (by kernel_rfl)) (fun p : Int × Int × Int × Int × Bool × Bool => (⟨p.1, p.2.1, p.2.2.1, p.2.2.2.1, p.2.2.2.2.1, p.2.2.2.2.2⟩ : Q.S30)) (fun x : Q.S30 => (x.f0, x.f1, x.f2, x.f3, x.f4, x.f5)) (fun _ => rfl)
  refine ⟨h.1, fun H enc w sp held n cs x hx => ?_⟩
  obtain ⟨a, ha, hw⟩ := h.2 H enc w sp held n cs x hx
  exact ⟨a, ha, hw.2.2.2.1⟩
def cD (x : V.D9) : List Value := .int .i64 x.w :: (cE x.e ++ [.int .i64 x.n, .int .i64 x.p])
def fitDW (x : V.D9) : Prop := (Lit.int .i64 x.w).wf = true ∧ fitEW x.e ∧ (Lit.int .i64 x.n).wf = true ∧ (Lit.int .i64 x.p).wf = true
theorem fitD : V.FitV Try.prog 45 9 cD fitDW := by
  have h := V.FitV.iso (V.FitV.struct Try.underlying45 (V.FitFV.cons _ _ 0 1 8 (V.FitV.int Try.underlying3) rfl (by kernel_rfl) (V.FitFV.cons _ _ 1 6 2 fitE rfl (by kernel_rfl) (V.FitFV.cons _ _ 7 1 1 (V.FitV.int Try.underlying3) rfl (by kernel_rfl) (V.FitFV.last _ 8 1 (V.FitV.int Try.underlying3) rfl (by kernel_rfl))))) (by kernel_rfl)) (fun p : Int × Q.S30 × Int × Int => (⟨p.1, p.2.1, p.2.2.1, p.2.2.2⟩ : V.D9)) (fun x : V.D9 => (x.w, x.e, x.n, x.p)) (fun _ => rfl)
  refine ⟨h.1, fun H enc w sp held n cs x hx => ?_⟩
  obtain ⟨a, ha, hw⟩ := h.2 H enc w sp held n cs x hx
  exact ⟨a, ha, hw⟩
theorem walk (v0 : Value) (a0 : List V.D9) (w : World) (h0 : V.RepC 48 w (fun b => b < w.heap.size) v0 (.sl false 9 (a0.map fun a => (cD a).map V.C.v)) []) (w0 : ∀ x ∈ a0, fitDW x) :
    Calls Try.prog 5 #[v0] w fun e w' => e = .returned (.bool true) ∧ Below w.heap.size w w' :=
  V.AC.callsB (V.TlbPlays.ac 1000 a0 true (V.TlbPlays.plain a0 (fun x hx => ⟨Bits.wf_i64.mp (w0 x hx).1, TlbLib.wfE_of (w0 x hx).2.1, Bits.wf_i64.mp (w0 x hx).2.2.1, (Bits.wf_i64.mp (w0 x hx).2.2.2).2⟩))) (w := w) (R := fun b => b < w.heap.size) (vals := [v0])
    (.cons (F := []) (G := []) (.c h0) (.nil)) (fun _ h => h)
set_option maxRecDepth 100000 in
theorem lifted (os : Os) (started : os.Started) (H : Type) (enc : TypeId × Value → H) :
    ReturnsInHanded {} Try.checked os 5 .any (Rows.tlbPlaysSpec.pre6 enc Try.prog Try.f5 Rows.tlbPlaysRow.domain false) (Rows.tlbPlaysSpec.post enc Try.prog Try.f5 false true false false) := by
  refine returnsInHanded_of_change_sized (C := Try.checked) own started (by kernel_rfl) Try.func5
    (ChangeSpec.witness6 (enc := enc) (C := Try.checked) false ⟨#[], #[.slice none 0 0], []⟩ 8 (by kernel_rfl) (by kernel_rfl) (by kernel_rfl) (by kernel_rfl)) ?_
  intro W base args ds gs before hval0 hW hcnd hsz0 _
  have hsz : (DataW.weightsEach Try.prog (Try.f5.params.toList ++ Rows.tlbPlaysSpec.plain.varTypes Try.prog) (ds ++ gs)).all (· ≤ reachBytes) = true := hsz0
  have hval : ∀ (j : Nat) t v, Try.f5.params[j]? = some t → args[j]? = some v → Value.okWide Try.prog W .any base t v := hval0
  have hW' := hW
  obtain ⟨p, q, hA0, hV, rfl, hfz, hnd⟩ := hW
  have hA : DataW.TrodAll enc Try.prog W 0 (fun _ => true) true Try.f5.params.toList args.toList ds p := hA0
  rw [Try.params5] at hA hval hsz
  obtain ⟨v0, vs0, d0, ds0, p0, q0, hargs, rfl, rfl, h0, r0⟩ := trodAll_cons hA
  obtain ⟨rfl, rfl, rfl⟩ := trodAll_nil r0
  obtain rfl : args = #[v0] := by cases args; simp_all
  obtain ⟨rfl, rfl⟩ := trodVars_none hV
  obtain ⟨A0, len0, cap0, rfl⟩ := okWide_slice Try.underlying40 (hval 0 40 v0 rfl rfl)
  have k0 := h0
  have lt0 : ∀ x ∈ p0, x.block < W.heap.size := by
    obtain ⟨m, hm⟩ := k0
    exact DataW.trod_lt m _ _ _ hm
  obtain ⟨l0, hK0, hm0, hw0⟩ : ∃ l : List V.D9, V.RepC 48 W (fun b => b < W.heap.size) (.slice A0 len0 cap0) (.sl false 9 (l.map fun a => (cD a).map V.C.v)) [] ∧ l.length ≤ maxLen ∧ ∀ x ∈ l, fitDW x := by
    obtain ⟨fuel, hf⟩ := h0
    exact V.open_sl Try.underlying40 fitD (by kernel_rfl) (by omega) (hval 0 40 _ rfl rfl) hf
  clear hA0 hval0 hsz0 hsz
  refine (walk (.slice A0 len0 cap0) l0 W hK0 hw0).mono fun e W' ⟨he, bel⟩ => ?_
  subst he
  exact ⟨_, rfl, _, _, _, [], _, [], hW', trodAll_mk1 (shut_bool Try.underlying4 _), (trodAll_cons_mk (Below.trod laidOut (by kernel_rfl) (of_decide_eq_true (by kernel_rfl)) k0 bel lt0) trodAll_mk0), rfl, bel.frame _, fun h => by cases h⟩
theorem over : Rows.tlbPlaysRow.holds Try.pinned (OpenSpec.ofChange Rows.tlbPlaysSpec) :=
  OpenClaim.holds_of_wide 5 Try.f5 rfl rfl rfl rfl rfl rfl rfl ⟨rfl, rfl, rfl, rfl, rfl⟩ rfl rfl rfl rfl rfl (by kernel_rfl) Try.func5 (by kernel_rfl)
    (of_decide_eq_true (by kernel_rfl)) (by unfold Func.isWrapper; first | (rw [if_pos (by decide +kernel)]; kernel_rfl) | (rw [if_neg (by decide +kernel)]; exact ⟨rfl, rfl⟩))
    (fun os started H enc _ => lifted os started H enc)
theorem proved : Rows.TlbPlaysSaid := over
#print axioms proved
end Go.Proofs.Ytfbjhioefkimbaa.tlbPlays
namespace Go.Proofs.Ytfbjhioefkimbaa
/-- The row, under a short name, for the claim. -/
theorem tlbPlays_holds : Rows.TlbPlaysSaid := tlbPlays.proved
end Go.Proofs.Ytfbjhioefkimbaa
