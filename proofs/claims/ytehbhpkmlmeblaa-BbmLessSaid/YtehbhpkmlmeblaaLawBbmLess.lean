-- Written by hand after this session's program wip/tools/xprint.py (the kit's printer's row texts).
import Derived.Test.YtehbhpkmlmeblaaRows
import Derived.Test.YtehbhpkmlmeblaaVU
import Derived.Test.YtehbhpkmlmeblaaPureBbmLess
import Derived.WalkKit
import Derived.ProofKit
import Derived.OpenShut
import Derived.ShutString
import Derived.ChangeOld
import Derived.Below
import Derived.SizedLaws
import Derived.Carry
namespace Go.Proofs.Ytehbhpkmlmeblaa.bbmLess
open Go.ChangeShapes Go.WideShapes Go.ChangeAt Go.RowKit
open Go.ChangeMaps (open_string shut_string)
set_option linter.unusedVariables false
theorem own : ownKnob Try.prog.godebug = none := by kernel_rfl
theorem laidOut : laidOutB Try.prog = true := by kernel_rfl
def d7 (a : V.D7) : List Value := [.int .i64 a.1, .int .i64 a.2.1, .bool a.2.2.1, .bool a.2.2.2.1, .bool a.2.2.2.2.1, .bool a.2.2.2.2.2.1, .int .i64 a.2.2.2.2.2.2]
theorem fit37 : V.FitV Try.prog 37 7 d7 (fun a => (Lit.int .i64 a.1).wf = true ∧ (Lit.int .i64 a.2.1).wf = true ∧ True ∧ True ∧ True ∧ True ∧ (Lit.int .i64 a.2.2.2.2.2.2).wf = true) :=
  V.FitV.struct Try.underlying37 (V.FitFV.cons _ _ 0 1 6 (V.FitV.int Try.underlying3) rfl (by kernel_rfl) (V.FitFV.cons _ _ 1 1 5 (V.FitV.int Try.underlying3) rfl (by kernel_rfl) (V.FitFV.cons _ _ 2 1 4 (V.FitV.bool Try.underlying4) rfl (by kernel_rfl) (V.FitFV.cons _ _ 3 1 3 (V.FitV.bool Try.underlying4) rfl (by kernel_rfl) (V.FitFV.cons _ _ 4 1 2 (V.FitV.bool Try.underlying4) rfl (by kernel_rfl) (V.FitFV.cons _ _ 5 1 1 (V.FitV.bool Try.underlying4) rfl (by kernel_rfl) (V.FitFV.last _ 6 1 (V.FitV.int Try.underlying3) rfl (by kernel_rfl)))))))) (by kernel_rfl)
theorem rep7 (a : V.D7) (w : World) (R : Nat → Prop) : V.RepU 47 w R (.agg (d7 a).toArray) (.agg [.v (.int .i64 a.1), .v (.int .i64 a.2.1), .v (.bool a.2.2.1), .v (.bool a.2.2.2.1), .v (.bool a.2.2.2.2.1), .v (.bool a.2.2.2.2.2.1), .v (.int .i64 a.2.2.2.2.2.2)]) [] :=
  .agg (V.RepL.plains (vs := d7 a) (fun v hv => by simp only [d7, List.mem_cons, List.not_mem_nil, or_false] at hv; rcases hv with rfl | rfl | rfl | rfl | rfl | rfl | rfl <;> rfl))
theorem walk (a0 : Int) (a1 : Int) (a2 : Int) (a3 : Int) (a4 : Int) (a5 : Int) (x y : V.D7) (w : World) (w5 : (Lit.int .i64 a5).wf = true) :
    Calls Try.prog 4 #[.int .i64 a0, .int .i64 a1, .int .i64 a2, .int .i64 a3, .int .i64 a4, .int .i64 a5, .agg (d7 x).toArray, .agg (d7 y).toArray] w fun e w' => e = .returned (.bool true) ∧ Below w.heap.size w w' := by
  obtain ⟨s0, s1⟩ := Bits.wf_i64.mp w5
  exact V.AC.callsB (V.BbmLess.ac 1000 a0 a1 a2 a3 a4 a5 x y true (V.less a0 a1 a2 a3 a4 a5 x y s0 s1)) (w := w) (R := fun b => b < w.heap.size) (vals := [.int .i64 a0, .int .i64 a1, .int .i64 a2, .int .i64 a3, .int .i64 a4, .int .i64 a5, .agg (d7 x).toArray, .agg (d7 y).toArray])
    (.cons (F := []) (G := []) (.c (.v rfl)) (.cons (F := []) (G := []) (.c (.v rfl)) (.cons (F := []) (G := []) (.c (.v rfl)) (.cons (F := []) (G := []) (.c (.v rfl)) (.cons (F := []) (G := []) (.c (.v rfl)) (.cons (F := []) (G := []) (.c (.v rfl)) (.cons (F := []) (G := []) (rep7 x _ _) (.cons (F := []) (G := []) (rep7 y _ _) (.nil))))))))) (fun _ h => h)
set_option maxRecDepth 100000 in
theorem lifted (os : Os) (started : os.Started) (H : Type) (enc : TypeId × Value → H) :
    ReturnsInHanded {} Try.checked os 4 .any (Rows.bbmLessSpec.pre6 enc Try.prog Try.f4 Rows.bbmLessRow.domain false) (Rows.bbmLessSpec.post enc Try.prog Try.f4 false true false false) := by
  refine returnsInHanded_of_change_sized (C := Try.checked) own started (by kernel_rfl) Try.func4
    (ChangeSpec.witness6 (enc := enc) (C := Try.checked) false ⟨#[], #[.int .i64 0, .int .i64 0, .int .i64 0, .int .i64 0, .int .i64 0, .int .i64 0, .agg #[.int .i64 0, .int .i64 0, .bool false, .bool false, .bool false, .bool false, .int .i64 0], .agg #[.int .i64 0, .int .i64 0, .bool false, .bool false, .bool false, .bool false, .int .i64 0]], []⟩ 8 (by kernel_rfl) (by kernel_rfl) (by kernel_rfl) (by kernel_rfl)) ?_
  intro W base args ds gs before hval0 hW hcnd hsz0 _
  have hsz : (DataW.weightsEach Try.prog (Try.f4.params.toList ++ Rows.bbmLessSpec.plain.varTypes Try.prog) (ds ++ gs)).all (· ≤ reachBytes) = true := hsz0
  have hval : ∀ (j : Nat) t v, Try.f4.params[j]? = some t → args[j]? = some v → Value.okWide Try.prog W .any base t v := hval0
  have hW' := hW
  obtain ⟨p, q, hA0, hV, rfl, hfz, hnd⟩ := hW
  have hA : DataW.TrodAll enc Try.prog W 0 (fun _ => true) true Try.f4.params.toList args.toList ds p := hA0
  rw [Try.params4] at hA hval hsz
  obtain ⟨v0, vs0, d0, ds0, p0, q0, hargs, rfl, rfl, h0, r0⟩ := trodAll_cons hA
  obtain ⟨v1, vs1, d1, ds1, p1, q1, rfl, rfl, rfl, h1, r1⟩ := trodAll_cons r0
  obtain ⟨v2, vs2, d2, ds2, p2, q2, rfl, rfl, rfl, h2, r2⟩ := trodAll_cons r1
  obtain ⟨v3, vs3, d3, ds3, p3, q3, rfl, rfl, rfl, h3, r3⟩ := trodAll_cons r2
  obtain ⟨v4, vs4, d4, ds4, p4, q4, rfl, rfl, rfl, h4, r4⟩ := trodAll_cons r3
  obtain ⟨v5, vs5, d5, ds5, p5, q5, rfl, rfl, rfl, h5, r5⟩ := trodAll_cons r4
  obtain ⟨v6, vs6, d6, ds6, p6, q6, rfl, rfl, rfl, h6, r6⟩ := trodAll_cons r5
  obtain ⟨v7, vs7, d7', ds7, p7, q7, rfl, rfl, rfl, h7, r7⟩ := trodAll_cons r6
  obtain ⟨rfl, rfl, rfl⟩ := trodAll_nil r7
  obtain rfl : args = #[v0, v1, v2, v3, v4, v5, v6, v7] := by cases args; simp_all
  obtain ⟨rfl, rfl⟩ := trodVars_none hV
  obtain ⟨a0, rfl, rfl, rfl, w0⟩ := open_int Try.underlying3 (hval 0 3 v0 rfl rfl) h0
  obtain ⟨a1, rfl, rfl, rfl, w1⟩ := open_int Try.underlying3 (hval 1 3 v1 rfl rfl) h1
  obtain ⟨a2, rfl, rfl, rfl, w2⟩ := open_int Try.underlying3 (hval 2 3 v2 rfl rfl) h2
  obtain ⟨a3, rfl, rfl, rfl, w3⟩ := open_int Try.underlying3 (hval 3 3 v3 rfl rfl) h3
  obtain ⟨a4, rfl, rfl, rfl, w4⟩ := open_int Try.underlying3 (hval 4 3 v4 rfl rfl) h4
  obtain ⟨a5, rfl, rfl, rfl, w5⟩ := open_int Try.underlying3 (hval 5 3 v5 rfl rfl) h5
  obtain ⟨cs6, rfl, _⟩ := okWide_struct Try.underlying37 (hval 6 37 v6 rfl rfl)
  have k6 := h6
  have lt6 : ∀ x ∈ p6, x.block < W.heap.size := by
    obtain ⟨m, hm⟩ := k6
    exact DataW.trod_lt m _ _ _ hm
  obtain ⟨x6, hx6⟩ : ∃ x : V.D7, cs6.toList = d7 x := by
    obtain ⟨fuel, hf⟩ := h6
    obtain ⟨a, ha, _⟩ := fit37.2 H enc W _ _ fuel _ _ hf
    exact ⟨a, ha⟩
  obtain rfl : cs6 = (d7 x6).toArray := Array.ext' (by rw [hx6])
  obtain ⟨cs7, rfl, _⟩ := okWide_struct Try.underlying37 (hval 7 37 v7 rfl rfl)
  have k7 := h7
  have lt7 : ∀ x ∈ p7, x.block < W.heap.size := by
    obtain ⟨m, hm⟩ := k7
    exact DataW.trod_lt m _ _ _ hm
  obtain ⟨x7, hx7⟩ : ∃ x : V.D7, cs7.toList = d7 x := by
    obtain ⟨fuel, hf⟩ := h7
    obtain ⟨a, ha, _⟩ := fit37.2 H enc W _ _ fuel _ _ hf
    exact ⟨a, ha⟩
  obtain rfl : cs7 = (d7 x7).toArray := Array.ext' (by rw [hx7])
  clear hA0 hval0 hsz0 hsz
  refine (walk a0 a1 a2 a3 a4 a5 x6 x7 W w5).mono fun e W' ⟨he, bel⟩ => ?_
  subst he
  exact ⟨_, rfl, _, _, _, [], _, [], hW', trodAll_mk1 (shut_bool Try.underlying4 _), (trodAll_cons_mk (shut_int Try.underlying3 w0) (trodAll_cons_mk (shut_int Try.underlying3 w1) (trodAll_cons_mk (shut_int Try.underlying3 w2) (trodAll_cons_mk (shut_int Try.underlying3 w3) (trodAll_cons_mk (shut_int Try.underlying3 w4) (trodAll_cons_mk (shut_int Try.underlying3 w5) (trodAll_cons_mk (Below.trod laidOut (by kernel_rfl) (of_decide_eq_true (by kernel_rfl)) k6 bel lt6) (trodAll_cons_mk (Below.trod laidOut (by kernel_rfl) (of_decide_eq_true (by kernel_rfl)) k7 bel lt7) trodAll_mk0)))))))), rfl, bel.frame _, fun h => by cases h⟩
theorem over : Rows.bbmLessRow.holds Try.pinned (OpenSpec.ofChange Rows.bbmLessSpec) :=
  OpenClaim.holds_of_wide 4 Try.f4 rfl rfl rfl rfl rfl rfl rfl ⟨rfl, rfl, rfl, rfl, rfl⟩ rfl rfl rfl rfl rfl (by kernel_rfl) Try.func4 (by kernel_rfl)
    (of_decide_eq_true (by kernel_rfl)) (by unfold Func.isWrapper; first | (rw [if_pos (by decide +kernel)]; kernel_rfl) | (rw [if_neg (by decide +kernel)]; exact ⟨rfl, rfl⟩))
    (fun os started H enc _ => lifted os started H enc)
theorem proved : Rows.BbmLessSaid := over
#print axioms proved
end Go.Proofs.Ytehbhpkmlmeblaa.bbmLess
namespace Go.Proofs.Ytehbhpkmlmeblaa
/-- The row, under a short name, for the claim. -/
theorem bbmLess_holds : Rows.BbmLessSaid := bbmLess.proved
end Go.Proofs.Ytehbhpkmlmeblaa
