-- Written by this session's program wip/tools/vrow.py (after the kit's printer's row texts).
import Derived.Test.YtmjnenjeckeklaaDoorRows
import Derived.Test.YtmjnenjeckeklaaDoorPureZonePlays
import Derived.Test.YtmjnenjeckeklaaDoorBits
import Derived.Test.YtmjnenjeckeklaaDoorLaid
import Derived.Test.YtmjnenjeckeklaaDoorTie
import Derived.Test.YtmjnenjeckeklaaDoorCards
import Derived.WalkKit
import Derived.ProofKit
import Derived.OpenShut
import Derived.ShutString
import Derived.ChangeOld
import Derived.Below
import Derived.SizedLaws
import Derived.Carry
import Derived.SevenTiedAt
import Derived.JoinedOf
namespace Go.Proofs.YtmjnenjeckeklaaDoor.zonePlays
open Go.ChangeShapes Go.WideShapes Go.ChangeAt Go.RowKit
open Go.ChangeMaps (open_string shut_string)
set_option linter.unusedVariables false
theorem own : ownKnob Tryd.prog.godebug = none := by kernel_rfl
theorem laidOut : laidOutB Tryd.prog = true := by kernel_rfl
def cD (x : V.D4) : List Value := [.int .i64 x.w, .int .i64 x.s, .int .i64 x.o, .int .i64 x.a]
def fitDW (x : V.D4) : Prop := (Lit.int .i64 x.w).wf = true ∧ (Lit.int .i64 x.s).wf = true ∧ (Lit.int .i64 x.o).wf = true ∧ (Lit.int .i64 x.a).wf = true
theorem fitD : V.FitV Tryd.prog 47 4 cD fitDW := by
  have h := V.FitV.iso (V.FitV.struct Tryd.underlying47 (V.FitFV.cons _ _ 0 1 3 (V.FitV.int Tryd.underlying3) rfl (by kernel_rfl) (V.FitFV.cons _ _ 1 1 2 (V.FitV.int Tryd.underlying3) rfl (by kernel_rfl) (V.FitFV.cons _ _ 2 1 1 (V.FitV.int Tryd.underlying3) rfl (by kernel_rfl) (V.FitFV.last _ 3 1 (V.FitV.int Tryd.underlying3) rfl (by kernel_rfl))))) (by kernel_rfl)) (fun p : Int × Int × Int × Int => (⟨p.1, p.2.1, p.2.2.1, p.2.2.2⟩ : V.D4)) (fun x : V.D4 => (x.w, x.s, x.o, x.a)) (fun _ => rfl)
  refine ⟨h.1, fun H enc w sp held n cs x hx => ?_⟩
  obtain ⟨a, ha, hw⟩ := h.2 H enc w sp held n cs x hx
  exact ⟨a, ha, hw⟩
theorem walk (a0 : Int) (v1 : Value) (a1 : List V.D4) (w : World) (hL : laidMetH Tryd.prog Laid.L w) (w0 : (Lit.int .i64 a0).wf = true) (h1 : V.RepC 28 w (fun b => b < w.heap.size) v1 (.sl false 4 (a1.map fun a => (cD a).map V.C.v)) []) (w1 : ∀ x ∈ a1, fitDW x) :
    Calls Tryd.prog 7 #[.int .i64 a0, v1] w fun e w' => e = .returned (.bool true) ∧ Below w.heap.size w w' :=
  V.ACg.callsB (T := V.LaidT 1 V.TabQ) (V.ZonePlays.ac 1000 a0 a1 true (V.ZonePlays.plain a0 a1 (Bits.wf_i64.mp w0).1 (Bits.wf_i64.mp w0).2 (fun x hx => ⟨(Bits.wf_i64.mp (w1 x hx).1).1, (Bits.wf_i64.mp (w1 x hx).1).2⟩))) (w := w) (R := fun b => b < w.heap.size) (vals := [.int .i64 a0, v1])
    (V.laidT_of (Laid.tab_of_laid hL).1 (Laid.tab_of_laid hL)) (.cons (F := []) (G := []) (.c (.v rfl)) (.cons (F := []) (G := []) (.c h1) (.nil))) (fun _ h => h)
set_option maxRecDepth 100000 in
theorem lifted (os : Os) (started : os.Started) (H : Type) (enc : TypeId × Value → H) :
    ReturnsInHanded {} Tryd.checked os 7 .any (fun w args => (Rows.zonePlaysSpec.pre enc Tryd.prog Tryd.f7 [] false w args ∧ laidMetH Tryd.prog Laid.L w) ∧ sizedMet enc Tryd.prog Tryd.f7 (OpenSpec.ofChange Rows.zonePlaysSpec) false w args) (Rows.zonePlaysSpec.post enc Tryd.prog Tryd.f7 false true false false) := by
  refine returnsInHanded_of_change_and (C := Tryd.checked) (X := fun w _ => laidMetH Tryd.prog Laid.L w) (fun _ _ _ hh h => h.of_heap hh) own started (by kernel_rfl) Tryd.func7
    (ChangeSpec.witness_at (enc := enc) (C := Tryd.checked) (os := os) (X := fun w _ => laidMetH Tryd.prog Laid.L w) false (Laid.laidWorld os) #[.int .i64 0, .slice none 0 0] 8 rfl (by kernel_rfl) (by kernel_rfl) (by kernel_rfl) (by kernel_rfl) (by kernel_rfl) (Laid.laidWorld_met os _)) ?_
  intro W base args ds gs before hval0 hW hcnd hsz0 hL _
  have hsz : (DataW.weightsEach Tryd.prog (Tryd.f7.params.toList ++ Rows.zonePlaysSpec.plain.varTypes Tryd.prog) (ds ++ gs)).all (· ≤ reachBytes) = true := hsz0
  have hval : ∀ (j : Nat) t v, Tryd.f7.params[j]? = some t → args[j]? = some v → Value.okWide Tryd.prog W .any base t v := hval0
  have hW' := hW
  obtain ⟨p, q, hA0, hV, rfl, hfz, hnd⟩ := hW
  have hA : DataW.TrodAll enc Tryd.prog W 0 (fun _ => true) true Tryd.f7.params.toList args.toList ds p := hA0
  rw [Tryd.params7] at hA hval hsz
  obtain ⟨v0, vs0, d0, ds0, p0, q0, hargs, rfl, rfl, h0, r0⟩ := trodAll_cons hA
  obtain ⟨v1, vs1, d1, ds1, p1, q1, rfl, rfl, rfl, h1, r1⟩ := trodAll_cons r0
  obtain ⟨rfl, rfl, rfl⟩ := trodAll_nil r1
  obtain rfl : args = #[v0, v1] := by cases args; simp_all
  obtain ⟨rfl, rfl⟩ := trodVars_none hV
  obtain ⟨a0, rfl, rfl, rfl, w0⟩ := open_int Tryd.underlying3 (hval 0 3 v0 rfl rfl) h0
  obtain ⟨A1, len1, cap1, rfl⟩ := okWide_slice Tryd.underlying45 (hval 1 45 v1 rfl rfl)
  have k1 := h1
  have lt1 : ∀ x ∈ p1, x.block < W.heap.size := by
    obtain ⟨m, hm⟩ := k1
    exact DataW.trod_lt m _ _ _ hm
  obtain ⟨l1, hK1, hm1, hw1⟩ : ∃ l : List V.D4, V.RepC 28 W (fun b => b < W.heap.size) (.slice A1 len1 cap1) (.sl false 4 (l.map fun a => (cD a).map V.C.v)) [] ∧ l.length ≤ maxLen ∧ ∀ x ∈ l, fitDW x := by
    obtain ⟨fuel, hf⟩ := h1
    exact V.open_sl Tryd.underlying45 fitD (by kernel_rfl) (by omega) (hval 1 45 _ rfl rfl) hf
  clear hA0 hval0 hsz0 hsz
  refine (walk a0 (.slice A1 len1 cap1) l1 W hL w0 hK1 hw1).mono fun e W' ⟨he, bel⟩ => ?_
  subst he
  exact ⟨_, rfl, _, _, _, [], _, [], hW', trodAll_mk1 (shut_bool Tryd.underlying4 _), (trodAll_cons_mk (shut_int Tryd.underlying3 w0) (trodAll_cons_mk (Below.trod laidOut (by kernel_rfl) (of_decide_eq_true (by kernel_rfl)) k1 bel lt1) trodAll_mk0)), rfl, bel.frame _, fun h => by cases h⟩
theorem over : Rows.zonePlaysRow.holds Tryd.pinned (OpenSpec.ofChange Rows.zonePlaysSpec) :=
  OpenClaim.holds_of_wide 7 Tryd.f7 rfl rfl rfl rfl rfl rfl rfl ⟨rfl, rfl, rfl, rfl, rfl⟩ rfl rfl rfl rfl rfl (by kernel_rfl) Tryd.func7 (by kernel_rfl)
    (of_decide_eq_true (by kernel_rfl)) (by unfold Func.isWrapper; first | (rw [if_pos (by decide +kernel)]; kernel_rfl) | (rw [if_neg (by decide +kernel)]; exact ⟨rfl, rfl⟩))
    (fun os started H enc _ => lifted os started H enc)
theorem proved : Rows.ZonePlaysCardSaid :=
  Claim7.holds_tied_plain_at .later [] [.data, .data] true (true, "97a11e0cf899c0e159d1004bd591f1c8f7cc5a591cf54f18ab3278383e86c2b9") true
    over (fun _ h => by cases h) (by kernel_rfl) (fun _ h => by cases h) zonePlays_row_tie rfl ⟨rfl, rfl⟩ (by kernel_rfl) rfl
    (fun f fn hf hfn => by
      obtain rfl : f = 7 := Option.some.inj ((show Tryd.prog.funcNamed "pavior/paviorlaw08.ZonePlays" = some 7 by kernel_rfl).symm.trans hf) |>.symm
      obtain rfl : fn = Tryd.f7 := (Option.some.inj (Tryd.func7.symm.trans hfn)).symm
      exact ⟨by kernel_rfl, fun j t ht => by
        rw [Tryd.params7] at ht
        have hall : ([3, 45] : List TypeId).all (fun t => !(Tryd.prog.wantsStandIn t)) = true := by kernel_rfl
        have hm : t ∈ ([3, 45] : List TypeId) := by
          have := Array.mem_of_getElem? ht
          simpa using this
        have hx := List.all_eq_true.1 hall t hm
        have hx2 : Tryd.prog.wantsStandIn t = false := by simpa using hx
        exact hx2⟩)
    (by kernel_rfl)
#print axioms proved
end Go.Proofs.YtmjnenjeckeklaaDoor.zonePlays
namespace Go.Proofs.YtmjnenjeckeklaaDoor
/-- The row, under a short name, for the claim. -/
theorem zonePlays_holds : Rows.ZonePlaysCardSaid := zonePlays.proved
end Go.Proofs.YtmjnenjeckeklaaDoor
