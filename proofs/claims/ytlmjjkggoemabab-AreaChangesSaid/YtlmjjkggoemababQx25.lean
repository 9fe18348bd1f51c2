-- Written by this session's program wip/tools/xprint.py (the kit's printer, turned by it); not the kit's own print.
import Derived.Test.YtlmjjkggoemababQx0
import Derived.Test.YtlmjjkggoemababQx8
import Derived.Test.YtlmjjkggoemababQx9
import Derived.Test.YtlmjjkggoemababQx11
import Derived.Test.YtlmjjkggoemababQx12
import Derived.Test.YtlmjjkggoemababQx22
import Derived.Test.YtlmjjkggoemababQx23
import Derived.Test.YtlmjjkggoemababQx24
namespace Go.Proofs.Ytlmjjkggoemabab.Q
open Go.RowKit Go.Proofs.YtlmjjkggoemababW.PrintWords Go.Proofs.YtlmjjkggoemababW.PrintLast Go.Proofs.YtlmjjkggoemababW.PrintMore
attribute [local go_sem] max2_int min2_int max_two min_two max_three min_three max_four min_four   -- for this text's walks alone
set_option linter.unusedVariables false
set_option linter.unusedSimpArgs false

attribute [local go_sem high] eqErr_some neErr_some eqErr_left neErr_left
/-! ### paviorlaw09_AreaChanges: function 10 -/
mutual
def paviorlaw09_AreaChanges.j0 : Nat → List (S32) → Bool → List (S32) → Option Int → List (S32) → Option Int → Bool → Int → Int → Bool → Bool → Bool → Option (Bool)
  | 0, _, _, _, _, _, _, _, _, _, _, _, _ => none
  | k + 1, x0, x5, x6, x7, x8, x9, x51, x492000, x492001, x492002, x492003, x492004 => if x51 = true then (if x5 = true then (if x7.isNone = true then (some false) else (if (x7.getD 0) = 1 then (if x9.isNone = true then (some false) else (if (x9.getD 0) = 1 then (if (x6.length : Int) = 0 then (some ((x8.length : Int) == 0)) else (some false)) else (some false))) else (some false))) else (some false)) else ((paviorref09_Of.f k x0).bind fun t505 => ((paviorref09_Of.f k x0).bind fun t508 => ((paviorref09_Change.f k t505 x492000 x492001 true x492002 x492003 false).bind fun bt511 => ((paviorref09_Change.f k t508 x492000 x492001 false x492002 x492003 x492004).bind fun bt513 => (if bt511.1 = true then (paviorlaw09_AreaChanges.j1 k x5 x6 x7 x8 x9 bt511.2 bt513.2 (!bt513.1)) else (paviorlaw09_AreaChanges.j1 k x5 x6 x7 x8 x9 bt511.2 bt513.2 true))))))
def paviorlaw09_AreaChanges.j1 : Nat → Bool → List (S32) → Option Int → List (S32) → Option Int → List (S40) → List (S40) → Bool → Option (Bool)
  | 0, _, _, _, _, _, _, _, _ => none
  | k + 1, x5, x6, x7, x8, x9, x10, x11, x100 => if x100 = true then (if x5 = true then (if x7.isNone = true then (some false) else (if (x7.getD 0) = 3 then (if x9.isNone = true then (some false) else (if (x9.getD 0) = 3 then (if (x6.length : Int) = 0 then (some ((x8.length : Int) == 0)) else (some false)) else (some false))) else (some false))) else (some false)) else (if x5 = true then ((paviorlaw09_right.f k x6 x7 x10).bind fun t517 => (if t517 = true then ((paviorlaw09_right.f k x8 x9 x11).bind fun t518 => (some t518)) else (some false))) else (some false))
end
def paviorlaw09_AreaChanges.f (k : Nat) (l0 : List (S32)) (a1_0 : Int) (a1_1 : Int) (a1_2 : Bool) (a1_3 : Bool) (a1_4 : Bool) : Option (Bool) := (paviorlaw09_up.f k).bind fun t492 => (if (l0.length : Int) > 200 then (some t492) else ((area_Change.f k l0 a1_0 a1_1 a1_2 a1_3).bind fun bt493 => ((area_Advise.f k l0 a1_0 a1_1 a1_4).bind fun bt497 => ((paviorref09_May.f k l0).bind fun t501 => (if t501 = true then ((paviorref09_Span.f a1_0 a1_1).bind fun t502 => (paviorlaw09_AreaChanges.j0 k l0 t492 bt493.1 bt493.2 bt497.1 bt497.2 (!t502) a1_0 a1_1 a1_2 a1_3 a1_4)) else (paviorlaw09_AreaChanges.j0 k l0 t492 bt493.1 bt493.2 bt497.1 bt497.2 true a1_0 a1_1 a1_2 a1_3 a1_4))))))
theorem paviorlaw09_AreaChanges.mono_l : ∀ k, (∀ y0 y1 y2 y3 y4 y5 y6 y7 y8 y9 y10 y11, LeO (paviorlaw09_AreaChanges.j0 k y0 y1 y2 y3 y4 y5 y6 y7 y8 y9 y10 y11) (paviorlaw09_AreaChanges.j0 (k + 1) y0 y1 y2 y3 y4 y5 y6 y7 y8 y9 y10 y11)) ∧ (∀ y0 y1 y2 y3 y4 y5 y6 y7, LeO (paviorlaw09_AreaChanges.j1 k y0 y1 y2 y3 y4 y5 y6 y7) (paviorlaw09_AreaChanges.j1 (k + 1) y0 y1 y2 y3 y4 y5 y6 y7))
  | 0 => ⟨fun _ _ _ _ _ _ _ _ _ _ _ _ r h => by simp [paviorlaw09_AreaChanges.j0] at h, fun _ _ _ _ _ _ _ _ r h => by simp [paviorlaw09_AreaChanges.j1] at h⟩
  | k + 1 => by
    obtain ⟨ih0, ih1⟩ := paviorlaw09_AreaChanges.mono_l k
    refine ⟨?_, ?_⟩
    · intro y0 y1 y2 y3 y4 y5 y6 y7 y8 y9 y10 y11
      unfold paviorlaw09_AreaChanges.j0
      repeat' first
      | (with_reducible exact ih0 _ _ _ _ _ _ _ _ _ _ _ _)
      | (with_reducible exact ih1 _ _ _ _ _ _ _ _)
      | (with_reducible exact area_Advise.mono _ _ _ _ _)
      | (with_reducible exact area_Change.mono _ _ _ _ _ _)
      | (with_reducible exact paviorlaw09_right.mono _ _ _ _)
      | (with_reducible exact paviorlaw09_up.mono _)
      | (with_reducible exact paviorref09_Change.mono _ _ _ _ _ _ _ _)
      | (with_reducible exact paviorref09_May.mono _ _)
      | (with_reducible exact paviorref09_Of.mono _ _)
      | (with_reducible exact LeO.refl _)
      | (with_reducible exact LeO.none _)
      | (with_reducible refine LeO.ite ?_ ?_)
      | (with_reducible refine LeO.bind ?_ (fun _ => ?_))
      | exact ih0 _ _ _ _ _ _ _ _ _ _ _ _
      | exact ih1 _ _ _ _ _ _ _ _
      | exact area_Advise.mono _ _ _ _ _
      | exact area_Change.mono _ _ _ _ _ _
      | exact paviorlaw09_right.mono _ _ _ _
      | exact paviorlaw09_up.mono _
      | exact paviorref09_Change.mono _ _ _ _ _ _ _ _
      | exact paviorref09_May.mono _ _
      | exact paviorref09_Of.mono _ _
      | exact LeO.none _
      | refine LeO.ite ?_ ?_
      | refine LeO.bind ?_ (fun _ => ?_)
    · intro y0 y1 y2 y3 y4 y5 y6 y7
      unfold paviorlaw09_AreaChanges.j1
      repeat' first
      | (with_reducible exact ih0 _ _ _ _ _ _ _ _ _ _ _ _)
      | (with_reducible exact ih1 _ _ _ _ _ _ _ _)
      | (with_reducible exact area_Advise.mono _ _ _ _ _)
      | (with_reducible exact area_Change.mono _ _ _ _ _ _)
      | (with_reducible exact paviorlaw09_right.mono _ _ _ _)
      | (with_reducible exact paviorlaw09_up.mono _)
      | (with_reducible exact paviorref09_Change.mono _ _ _ _ _ _ _ _)
      | (with_reducible exact paviorref09_May.mono _ _)
      | (with_reducible exact paviorref09_Of.mono _ _)
      | (with_reducible exact LeO.refl _)
      | (with_reducible exact LeO.none _)
      | (with_reducible refine LeO.ite ?_ ?_)
      | (with_reducible refine LeO.bind ?_ (fun _ => ?_))
      | exact ih0 _ _ _ _ _ _ _ _ _ _ _ _
      | exact ih1 _ _ _ _ _ _ _ _
      | exact area_Advise.mono _ _ _ _ _
      | exact area_Change.mono _ _ _ _ _ _
      | exact paviorlaw09_right.mono _ _ _ _
      | exact paviorlaw09_up.mono _
      | exact paviorref09_Change.mono _ _ _ _ _ _ _ _
      | exact paviorref09_May.mono _ _
      | exact paviorref09_Of.mono _ _
      | exact LeO.none _
      | refine LeO.ite ?_ ?_
      | refine LeO.bind ?_ (fun _ => ?_)
theorem paviorlaw09_AreaChanges.mono : ∀ a0 a1 a2 a3 a4 a5 k, LeO (paviorlaw09_AreaChanges.f k a0 a1 a2 a3 a4 a5) (paviorlaw09_AreaChanges.f (k + 1) a0 a1 a2 a3 a4 a5) := by
  intro a0 a1 a2 a3 a4 a5 k
  obtain ⟨ih0, ih1⟩ := paviorlaw09_AreaChanges.mono_l k
  unfold paviorlaw09_AreaChanges.f
  repeat' first
      | (with_reducible exact ih0 _ _ _ _ _ _ _ _ _ _ _ _)
      | (with_reducible exact ih1 _ _ _ _ _ _ _ _)
      | (with_reducible exact area_Advise.mono _ _ _ _ _)
      | (with_reducible exact area_Change.mono _ _ _ _ _ _)
      | (with_reducible exact paviorlaw09_right.mono _ _ _ _)
      | (with_reducible exact paviorlaw09_up.mono _)
      | (with_reducible exact paviorref09_Change.mono _ _ _ _ _ _ _ _)
      | (with_reducible exact paviorref09_May.mono _ _)
      | (with_reducible exact paviorref09_Of.mono _ _)
      | (with_reducible exact LeO.refl _)
      | (with_reducible exact LeO.none _)
      | (with_reducible refine LeO.ite ?_ ?_)
      | (with_reducible refine LeO.bind ?_ (fun _ => ?_))
      | exact ih0 _ _ _ _ _ _ _ _ _ _ _ _
      | exact ih1 _ _ _ _ _ _ _ _
      | exact area_Advise.mono _ _ _ _ _
      | exact area_Change.mono _ _ _ _ _ _
      | exact paviorlaw09_right.mono _ _ _ _
      | exact paviorlaw09_up.mono _
      | exact paviorref09_Change.mono _ _ _ _ _ _ _ _
      | exact paviorref09_May.mono _ _
      | exact paviorref09_Of.mono _ _
      | exact LeO.none _
      | refine LeO.ite ?_ ?_
      | refine LeO.bind ?_ (fun _ => ?_)
set_option maxHeartbeats 8000000 in
set_option maxRecDepth 100000 in
theorem paviorlaw09_AreaChanges.calls (k : Nat) (A0 : Option Addr) (c0 : Nat) (l0 : List (S32)) (a1_0 : Int) (a1_1 : Int) (a1_2 : Bool) (a1_3 : Bool) (a1_4 : Bool) (r : Bool) (w : World) (hr0 : Kd.C k32 w A0 l0.length l0) (hc0 : l0.length ≤ c0) (h : paviorlaw09_AreaChanges.f k l0 a1_0 a1_1 a1_2 a1_3 a1_4 = some r) :
    Calls Try.prog 10 #[.slice A0 l0.length c0, .agg #[.int .i64 a1_0, .int .i64 a1_1, .bool a1_2, .bool a1_3, .bool a1_4]] w fun e w' => e = .returned (.bool r) ∧ Below w.heap.size w w' := by
  have hu32 := Try.underlying32
  have hu30 := Try.underlying30
  have hu25 := Try.underlying25
  have hu28 := Try.underlying28
  have HR0 := Aside0.mk hr0
  have HC0 := Aside0.mk hc0
  clear hr0 hc0
  have HB := Aside0.mk (Below.refl w.heap.size w)
  have H : ((paviorlaw09_up.f k).bind fun t492 => (if (l0.length : Int) > 200 then (some t492) else ((area_Change.f k l0 a1_0 a1_1 a1_2 a1_3).bind fun bt493 => ((area_Advise.f k l0 a1_0 a1_1 a1_4).bind fun bt497 => ((paviorref09_May.f k l0).bind fun t501 => (if t501 = true then ((paviorref09_Span.f a1_0 a1_1).bind fun t502 => (paviorlaw09_AreaChanges.j0 k l0 t492 bt493.1 bt493.2 bt497.1 bt497.2 (!t502) a1_0 a1_1 a1_2 a1_3 a1_4)) else (paviorlaw09_AreaChanges.j0 k l0 t492 bt493.1 bt493.2 bt497.1 bt497.2 true a1_0 a1_1 a1_2 a1_3 a1_4))))))) = some r := h
  clear h
  replace H := Option.bind_eq_some_iff.mp H
  obtain ⟨t492, A30, H⟩ := H
  replace H : (if (l0.length : Int) > 200 then (some t492) else ((area_Change.f k l0 a1_0 a1_1 a1_2 a1_3).bind fun bt493 => ((area_Advise.f k l0 a1_0 a1_1 a1_4).bind fun bt497 => ((paviorref09_May.f k l0).bind fun t501 => (if t501 = true then ((paviorref09_Span.f a1_0 a1_1).bind fun t502 => (paviorlaw09_AreaChanges.j0 k l0 t492 bt493.1 bt493.2 bt497.1 bt497.2 (!t502) a1_0 a1_1 a1_2 a1_3 a1_4)) else (paviorlaw09_AreaChanges.j0 k l0 t492 bt493.1 bt493.2 bt497.1 bt497.2 true a1_0 a1_1 a1_2 a1_3 a1_4)))))) = some r := H
  have A3 := Aside0.mk A30
  clear A30
  by_cases c4 : (l0.length : Int) > 200
  · rw [if_pos c4] at H
    have c4b0 : decide (200 < (l0.length : Int)) = true := decide_eq_true c4
    have c4b1 : decide (200 < l0.length) = true := decide_eq_true (by omega)
    clear c4
    obtain rfl := Option.some.inj H
    go_enter Try.func10, Try.ntmps10
    go_wp2_with (first | ((with_reducible refine gate_dst (N := 3) rfl ?_); (try (refine gate_guard (by rfl) ?_; dsimp only)); refine box_event ?hg (N := 3) ?hd (cs := #[.int .i64 a1_0, .int .i64 a1_1, .bool a1_2, .bool a1_3, .bool a1_4]) (t := 32) ?hr ?_; (case hd => rfl); (case hg => rfl); (case hr => first | (go_simp; done) | (go_simp; rfl)); intro gb491 hg w5 hbox hb; have n0_ := Aside0.mk (below_step (by repeat (first | (with_reducible first | exact HB.out | apply below_alloc | apply pw_below_drewN | apply below_drew1) | exact HB.out)) hb); have n1_ := Aside0.mk (hbox); have n2_ := Aside0.mk ((by rw [hg]; exact (below_size (by repeat (first | (with_reducible first | exact HB.out | apply below_alloc | apply pw_below_drewN | apply below_drew1) | exact HB.out))) : w.heap.size ≤ gb491)); have n3_ := Aside0.mk ((by rw [hg]; exact (below_size (by repeat (first | (with_reducible first | exact HB.out | apply below_alloc | apply pw_below_drewN | apply below_drew1) | exact HB.out))) : w.heap.size ≤ gb491)); clear HB; have HB := n0_; have BK491 := n1_; have GW491 := n2_; have GE491 := n3_; clear n0_ n1_ n2_ n3_; clear hb hbox hg) | ((with_reducible refine gate_callee (f := 12) rfl ?_); refine goesL_ (some 14) rfl rfl Try.func12 (by kernel_rfl) rfl #[] rfl (by (try simp only [List.map_toArray, List.map_cons, List.map_nil]); first | done | rfl | (simp only [List.length_drop, List.length_take]; rfl)) ?_; (with_reducible refine (paviorlaw09_up.calls k  t492 _ A3.out).mono ?_); rintro e w6 ⟨rfl, hb⟩; refine ⟨_, rfl, ?_⟩; have n0_ := Aside0.mk (blk_below (g := gb491) (o := .cells #[.int .i64 a1_0, .int .i64 a1_1, .bool a1_2, .bool a1_3, .bool a1_4] 32 (0, 0)) (by (with_reducible repeat (first | refine blk_drewN ?_ _ | refine blk_drew ?_ | refine blk_alloc ?_ _)); exact BK491.out) hb); have n1_ := Aside0.mk (below_step (by repeat (first | (with_reducible first | exact HB.out | apply below_alloc | apply pw_below_drewN | apply below_drew1 | refine below_set ?_ GE491.out) | exact HB.out)) hb); clear BK491; clear HB; have BK491 := n0_; have HB := n1_; clear n0_ n1_; (try clear hb); (try clear hb2); (try clear hk); (try clear hi)))
    go_ret
    exact ⟨by first | rfl | (simp [errW_none, errW_some] <;> rfl) | (simp [*, errW_none, errW_some] <;> rfl), by repeat (first | (with_reducible first | exact HB.out | apply below_alloc | apply pw_below_drewN | apply below_drew1 | refine below_set ?_ GE491.out) | exact HB.out)⟩
  · rw [if_neg c4] at H
    have c4b0 : decide (200 < (l0.length : Int)) = false := decide_eq_false c4
    have c4b1 : decide (200 < l0.length) = false := decide_eq_false (by omega)
    clear c4
    replace H := Option.bind_eq_some_iff.mp H
    obtain ⟨⟨t493, t496⟩, A70, H⟩ := H
    replace H : ((area_Advise.f k l0 a1_0 a1_1 a1_4).bind fun bt497 => ((paviorref09_May.f k l0).bind fun t501 => (if t501 = true then ((paviorref09_Span.f a1_0 a1_1).bind fun t502 => (paviorlaw09_AreaChanges.j0 k l0 t492 t493 t496 bt497.1 bt497.2 (!t502) a1_0 a1_1 a1_2 a1_3 a1_4)) else (paviorlaw09_AreaChanges.j0 k l0 t492 t493 t496 bt497.1 bt497.2 true a1_0 a1_1 a1_2 a1_3 a1_4)))) = some r := H
    have A7 := Aside0.mk A70
    clear A70
    replace H := Option.bind_eq_some_iff.mp H
    obtain ⟨⟨t497, t498⟩, A80, H⟩ := H
    replace H : ((paviorref09_May.f k l0).bind fun t501 => (if t501 = true then ((paviorref09_Span.f a1_0 a1_1).bind fun t502 => (paviorlaw09_AreaChanges.j0 k l0 t492 t493 t496 t497 t498 (!t502) a1_0 a1_1 a1_2 a1_3 a1_4)) else (paviorlaw09_AreaChanges.j0 k l0 t492 t493 t496 t497 t498 true a1_0 a1_1 a1_2 a1_3 a1_4))) = some r := H
    have A8 := Aside0.mk A80
    clear A80
    have HC9 := Aside0.mk H
    clear H
    go_enter Try.func10, Try.ntmps10
    go_upto_region 6 with (first | ((with_reducible refine gate_dst (N := 3) rfl ?_); (try (refine gate_guard (by rfl) ?_; dsimp only)); refine box_event ?hg (N := 3) ?hd (cs := #[.int .i64 a1_0, .int .i64 a1_1, .bool a1_2, .bool a1_3, .bool a1_4]) (t := 32) ?hr ?_; (case hd => rfl); (case hg => rfl); (case hr => first | (go_simp; done) | (go_simp; rfl)); intro gb491 hg w10 hbox hb; have n0_ := Aside0.mk (below_step (by repeat (first | (with_reducible first | exact HB.out | apply below_alloc | apply pw_below_drewN | apply below_drew1) | exact HB.out)) hb); have n1_ := Aside0.mk (hbox); have n2_ := Aside0.mk ((by rw [hg]; exact (below_size (by repeat (first | (with_reducible first | exact HB.out | apply below_alloc | apply pw_below_drewN | apply below_drew1) | exact HB.out))) : w.heap.size ≤ gb491)); have n3_ := Aside0.mk ((by rw [hg]; exact (below_size (by repeat (first | (with_reducible first | exact HB.out | apply below_alloc | apply pw_below_drewN | apply below_drew1) | exact HB.out))) : w.heap.size ≤ gb491)); clear HB; have HB := n0_; have BK491 := n1_; have GW491 := n2_; have GE491 := n3_; clear n0_ n1_ n2_ n3_; clear hb hbox hg) | ((with_reducible refine gate_callee (f := 12) rfl ?_); refine goesL_ (some 14) rfl rfl Try.func12 (by kernel_rfl) rfl #[] rfl (by (try simp only [List.map_toArray, List.map_cons, List.map_nil]); first | done | rfl | (simp only [List.length_drop, List.length_take]; rfl)) ?_; (with_reducible refine (paviorlaw09_up.calls k  t492 _ A3.out).mono ?_); rintro e w11 ⟨rfl, hb⟩; refine ⟨_, rfl, ?_⟩; have n0_ := Aside0.mk (blk_below (g := gb491) (o := .cells #[.int .i64 a1_0, .int .i64 a1_1, .bool a1_2, .bool a1_3, .bool a1_4] 32 (0, 0)) (by (with_reducible repeat (first | refine blk_drewN ?_ _ | refine blk_drew ?_ | refine blk_alloc ?_ _)); exact BK491.out) hb); have n1_ := Aside0.mk (below_step (by repeat (first | (with_reducible first | exact HB.out | apply below_alloc | apply pw_below_drewN | apply below_drew1 | refine below_set ?_ GE491.out) | exact HB.out)) hb); clear BK491; clear HB; have BK491 := n0_; have HB := n1_; clear n0_ n1_; (try clear hb); (try clear hb2); (try clear hk); (try clear hi); have hcz12_0 : w11.cell? ⟨gb491, 0, none⟩ = some (.int .i64 a1_0) := (blk_cell BK491.out 0).trans rfl; have hcz12_1 : w11.cell? ⟨gb491, 1, none⟩ = some (.int .i64 a1_1) := (blk_cell BK491.out 1).trans rfl; have hcz12_2 : w11.cell? ⟨gb491, 2, none⟩ = some (.bool a1_2) := (blk_cell BK491.out 2).trans rfl; have hcz12_3 : w11.cell? ⟨gb491, 3, none⟩ = some (.bool a1_3) := (blk_cell BK491.out 3).trans rfl; have hcz12_4 : w11.cell? ⟨gb491, 4, none⟩ = some (.bool a1_4) := (blk_cell BK491.out 4).trans rfl; have hfz12_0 := blk_frozen BK491.out 0; have hfz12_1 := blk_frozen BK491.out 1; have hfz12_2 := blk_frozen BK491.out 2; have hfz12_3 := blk_frozen BK491.out 3; have hfz12_4 := blk_frozen BK491.out 4) | ((with_reducible refine gate_callee (f := 26) rfl ?_); refine goesL_ (some 27) rfl rfl Try.func26 (by kernel_rfl) rfl #[.slice A0 l0.length c0, .int .i64 a1_0, .int .i64 a1_1, .agg #[.bool a1_2, .bool a1_3]] rfl (by (try simp only [List.map_toArray, List.map_cons, List.map_nil]); first | done | rfl | (simp only [List.length_drop, List.length_take]; rfl)) ?_; (with_reducible refine (area_Change.calls k _ _ l0 a1_0 a1_1 a1_2 a1_3 t493 t496 _ ?side1 ?side2 A7.out).mono ?_); (case side1 => repeat (first | exact (Kd.C_below HR0.out HB.out) | (with_reducible refine Kd.C_alloc ?_ _) | (with_reducible refine Kd.C_drewN ?_ _) | (with_reducible refine Kd.C_drew ?_))); (case side2 => exact HC0.out); rintro e w13 ⟨v494, rfl, ho0, hb⟩; refine ⟨_, rfl, ?_⟩; have n0_ := Aside0.mk (Kd.R_lower (Kd.R_newB ho0 (g := gb491) (o := .cells #[.int .i64 a1_0, .int .i64 a1_1, .bool a1_2, .bool a1_3, .bool a1_4] 32 (0, 0)) (by (with_reducible repeat (first | refine blk_drewN ?_ _ | refine blk_drew ?_ | refine blk_alloc ?_ _)); exact BK491.out)) (below_size (by repeat (first | (with_reducible first | exact HB.out | apply below_alloc | apply pw_below_drewN | apply below_drew1 | refine below_set ?_ GE491.out) | exact HB.out)))); have n1_ := Aside0.mk (blk_below (g := gb491) (o := .cells #[.int .i64 a1_0, .int .i64 a1_1, .bool a1_2, .bool a1_3, .bool a1_4] 32 (0, 0)) (by (with_reducible repeat (first | refine blk_drewN ?_ _ | refine blk_drew ?_ | refine blk_alloc ?_ _)); exact BK491.out) hb); have n2_ := Aside0.mk (below_step (by repeat (first | (with_reducible first | exact HB.out | apply below_alloc | apply pw_below_drewN | apply below_drew1 | refine below_set ?_ GE491.out) | exact HB.out)) hb); clear BK491; clear HB; have HO495 := n0_; have BK491 := n1_; have HB := n2_; clear n0_ n1_ n2_; (try clear hb); (try clear hb2); (try clear hk); (try clear hi); (try clear ho0); (try simp only [errW_none, errW_some]); have hcz14_0 : w13.cell? ⟨gb491, 0, none⟩ = some (.int .i64 a1_0) := (blk_cell BK491.out 0).trans rfl; have hcz14_1 : w13.cell? ⟨gb491, 1, none⟩ = some (.int .i64 a1_1) := (blk_cell BK491.out 1).trans rfl; have hcz14_2 : w13.cell? ⟨gb491, 2, none⟩ = some (.bool a1_2) := (blk_cell BK491.out 2).trans rfl; have hcz14_3 : w13.cell? ⟨gb491, 3, none⟩ = some (.bool a1_3) := (blk_cell BK491.out 3).trans rfl; have hcz14_4 : w13.cell? ⟨gb491, 4, none⟩ = some (.bool a1_4) := (blk_cell BK491.out 4).trans rfl; have hfz14_0 := blk_frozen BK491.out 0; have hfz14_1 := blk_frozen BK491.out 1; have hfz14_2 := blk_frozen BK491.out 2; have hfz14_3 := blk_frozen BK491.out 3; have hfz14_4 := blk_frozen BK491.out 4) | ((with_reducible refine gate_callee (f := 27) rfl ?_); refine goesL_ (some 38) rfl rfl Try.func27 (by kernel_rfl) rfl #[.slice A0 l0.length c0, .int .i64 a1_0, .int .i64 a1_1, .bool a1_4] rfl (by (try simp only [List.map_toArray, List.map_cons, List.map_nil]); first | done | rfl | (simp only [List.length_drop, List.length_take]; rfl)) ?_; (with_reducible refine (area_Advise.calls k _ _ l0 a1_0 a1_1 a1_4 t497 t498 _ ?side1 ?side2 A8.out).mono ?_); (case side1 => repeat (first | exact (Kd.C_below HR0.out HB.out) | (with_reducible refine Kd.C_alloc ?_ _) | (with_reducible refine Kd.C_drewN ?_ _) | (with_reducible refine Kd.C_drew ?_))); (case side2 => exact HC0.out); rintro e w15 ⟨v499, rfl, ho0, hb⟩; refine ⟨_, rfl, ?_⟩; have n0_ := Aside0.mk (Kd.R_elder' (by (with_reducible repeat (first | apply Kd.R_alloc | apply Kd.R_drewN | apply Kd.R_drew)); exact HO495.out) (Kd.R_base ho0) hb); have n1_ := Aside0.mk (Kd.R_lower (Kd.R_newB (Kd.R_new' ho0 (Kd.R_lt (by (with_reducible repeat (first | apply Kd.R_alloc | apply Kd.R_drewN | apply Kd.R_drew)); exact HO495.out))) (g := gb491) (o := .cells #[.int .i64 a1_0, .int .i64 a1_1, .bool a1_2, .bool a1_3, .bool a1_4] 32 (0, 0)) (by (with_reducible repeat (first | refine blk_drewN ?_ _ | refine blk_drew ?_ | refine blk_alloc ?_ _)); exact BK491.out)) (below_size (by repeat (first | (with_reducible first | exact HB.out | apply below_alloc | apply pw_below_drewN | apply below_drew1 | refine below_set ?_ GE491.out) | exact HB.out)))); have n2_ := Aside0.mk (blk_below (g := gb491) (o := .cells #[.int .i64 a1_0, .int .i64 a1_1, .bool a1_2, .bool a1_3, .bool a1_4] 32 (0, 0)) (by (with_reducible repeat (first | refine blk_drewN ?_ _ | refine blk_drew ?_ | refine blk_alloc ?_ _)); exact BK491.out) hb); have n3_ := Aside0.mk (below_step (by repeat (first | (with_reducible first | exact HB.out | apply below_alloc | apply pw_below_drewN | apply below_drew1 | refine below_set ?_ GE491.out) | exact HB.out)) hb); clear HO495; clear BK491; clear HB; have HO495 := n0_; have HO500 := n1_; have BK491 := n2_; have HB := n3_; clear n0_ n1_ n2_ n3_; (try clear hb); (try clear hb2); (try clear hk); (try clear hi); (try clear ho0); (try simp only [errW_none, errW_some])))
    (try simp only [Act.put, List.setIfInBounds_toArray, List.set_cons_zero, List.set_cons_succ])
    go_cut [51] (fun v51 wc => ∃ (kq : Nat) (x51_8 : Bool), v51 = .bool x51_8 ∧ Aside0 (paviorlaw09_AreaChanges.j0 kq l0 t492 t493 t496 t497 t498 x51_8 a1_0 a1_1 a1_2 a1_3 a1_4 = some r) ∧ Aside0 (kq ≤ k) ∧ Aside0 (Kd.R k32 32 wc w.heap.size (fun k_ => some k_ ≠ (v499 : Value).ownBlock ∧ k_ ≠ gb491) v494 t493) ∧ Aside0 (Kd.R k32 32 wc w.heap.size (fun k_ => some k_ ≠ (v494 : Value).ownBlock ∧ k_ ≠ gb491) v499 t497) ∧ Aside0 (wc.heap[gb491]? = some (.cells #[.int .i64 a1_0, .int .i64 a1_1, .bool a1_2, .bool a1_3, .bool a1_4] 32 (0, 0))) ∧ Aside0 (Below w.heap.size w wc))
    case first =>
      have H := HC9.out
      clear HC9
      replace H := Option.bind_eq_some_iff.mp H
      obtain ⟨t501, A160, H⟩ := H
      replace H : (if t501 = true then ((paviorref09_Span.f a1_0 a1_1).bind fun t502 => (paviorlaw09_AreaChanges.j0 k l0 t492 t493 t496 t497 t498 (!t502) a1_0 a1_1 a1_2 a1_3 a1_4)) else (paviorlaw09_AreaChanges.j0 k l0 t492 t493 t496 t497 t498 true a1_0 a1_1 a1_2 a1_3 a1_4)) = some r := H
      have A16 := Aside0.mk A160
      clear A160
      by_cases c17 : t501 = true
      · subst c17
        have H1 : ((paviorref09_Span.f a1_0 a1_1).bind fun t502 => (paviorlaw09_AreaChanges.j0 k l0 t492 t493 t496 t497 t498 (!t502) a1_0 a1_1 a1_2 a1_3 a1_4)) = some r := by rw [if_pos rfl] at H; exact H
        clear H
        have H := H1
        clear H1
        replace H := Option.bind_eq_some_iff.mp H
        obtain ⟨t502, A180, H⟩ := H
        replace H : (paviorlaw09_AreaChanges.j0 k l0 t492 t493 t496 t497 t498 (!t502) a1_0 a1_1 a1_2 a1_3 a1_4) = some r := H
        have A18 := Aside0.mk A180
        clear A180
        have H' := Aside0.mk H
        clear H
        go_wp2_with (first | ((with_reducible refine gate_callee (f := 14) rfl ?_); refine goesL_ (some 42) rfl rfl Try.func14 (by kernel_rfl) rfl #[.slice A0 l0.length c0] rfl (by (try simp only [List.map_toArray, List.map_cons, List.map_nil]); first | done | rfl | (simp only [List.length_drop, List.length_take]; rfl)) ?_; (with_reducible refine (paviorref09_May.calls k _ _ l0 true _ ?side1 ?side2 A16.out).mono ?_); (case side1 => repeat (first | exact (Kd.C_below HR0.out HB.out) | (with_reducible refine Kd.C_alloc ?_ _) | (with_reducible refine Kd.C_drewN ?_ _) | (with_reducible refine Kd.C_drew ?_))); (case side2 => exact HC0.out); rintro e w' ⟨rfl, ⟨nd, rfl⟩⟩; refine ⟨_, rfl, ?_⟩; have hcz19_0 : w15.cell? ⟨gb491, 0, none⟩ = some (.int .i64 a1_0) := (blk_cell BK491.out 0).trans rfl; have hcz19_1 : w15.cell? ⟨gb491, 1, none⟩ = some (.int .i64 a1_1) := (blk_cell BK491.out 1).trans rfl; have hcz19_2 : w15.cell? ⟨gb491, 2, none⟩ = some (.bool a1_2) := (blk_cell BK491.out 2).trans rfl; have hcz19_3 : w15.cell? ⟨gb491, 3, none⟩ = some (.bool a1_3) := (blk_cell BK491.out 3).trans rfl; have hcz19_4 : w15.cell? ⟨gb491, 4, none⟩ = some (.bool a1_4) := (blk_cell BK491.out 4).trans rfl; have hfz19_0 := blk_frozen BK491.out 0; have hfz19_1 := blk_frozen BK491.out 1; have hfz19_2 := blk_frozen BK491.out 2; have hfz19_3 := blk_frozen BK491.out 3; have hfz19_4 := blk_frozen BK491.out 4) | (go_at_call 17; (with_reducible refine (paviorref09_Span.calls a1_0 a1_1 t502 _ A18.out).mono ?_); rintro e w' ⟨rfl, ⟨nd, rfl⟩⟩))
        go_meet
        case rel => exact ⟨_, (!t502), (by first | rfl | (simp; done) | (simp [*]; done)), H', ⟨by first | omega | exact Nat.le_refl _⟩, ⟨by (with_reducible repeat (first | apply Kd.R_alloc | apply Kd.R_drewN | apply Kd.R_drew)); exact Kd.R_mono HO495.out (fun _ hk => ⟨hk.2, hk.1.2⟩)⟩, ⟨by (with_reducible repeat (first | apply Kd.R_alloc | apply Kd.R_drewN | apply Kd.R_drew)); exact Kd.R_mono HO500.out (fun _ hk => ⟨hk.1.2, hk.2⟩)⟩, ⟨by (with_reducible repeat (first | refine blk_drewN ?_ _ | refine blk_drew ?_ | refine blk_alloc ?_ _)); exact BK491.out⟩, ⟨by repeat (first | (with_reducible first | exact HB.out | apply below_alloc | apply pw_below_drewN | apply below_drew1 | refine below_set ?_ GE491.out) | exact HB.out)⟩⟩
      · replace c17 := Bool.eq_false_iff.mpr c17
        subst c17
        have H1 : (paviorlaw09_AreaChanges.j0 k l0 t492 t493 t496 t497 t498 true a1_0 a1_1 a1_2 a1_3 a1_4) = some r := by rw [if_neg (show ¬ (false = true) by decide)] at H; exact H
        clear H
        have H := H1
        clear H1
        have H' := Aside0.mk H
        clear H
        go_wp2_with (first | ((with_reducible refine gate_callee (f := 14) rfl ?_); refine goesL_ (some 42) rfl rfl Try.func14 (by kernel_rfl) rfl #[.slice A0 l0.length c0] rfl (by (try simp only [List.map_toArray, List.map_cons, List.map_nil]); first | done | rfl | (simp only [List.length_drop, List.length_take]; rfl)) ?_; (with_reducible refine (paviorref09_May.calls k _ _ l0 false _ ?side1 ?side2 A16.out).mono ?_); (case side1 => repeat (first | exact (Kd.C_below HR0.out HB.out) | (with_reducible refine Kd.C_alloc ?_ _) | (with_reducible refine Kd.C_drewN ?_ _) | (with_reducible refine Kd.C_drew ?_))); (case side2 => exact HC0.out); rintro e w' ⟨rfl, ⟨nd, rfl⟩⟩; refine ⟨_, rfl, ?_⟩))
        go_meet
        case rel => exact ⟨_, (true), (by first | rfl | (simp; done) | (simp [*]; done)), H', ⟨by first | omega | exact Nat.le_refl _⟩, ⟨by (with_reducible repeat (first | apply Kd.R_alloc | apply Kd.R_drewN | apply Kd.R_drew)); exact Kd.R_mono HO495.out (fun _ hk => ⟨hk.2, hk.1.2⟩)⟩, ⟨by (with_reducible repeat (first | apply Kd.R_alloc | apply Kd.R_drewN | apply Kd.R_drew)); exact Kd.R_mono HO500.out (fun _ hk => ⟨hk.1.2, hk.2⟩)⟩, ⟨by (with_reducible repeat (first | refine blk_drewN ?_ _ | refine blk_drew ?_ | refine blk_alloc ?_ _)); exact BK491.out⟩, ⟨by repeat (first | (with_reducible first | exact HB.out | apply below_alloc | apply pw_below_drewN | apply below_drew1 | refine below_set ?_ GE491.out) | exact HB.out)⟩⟩
    case rest =>
      clear HC9
      try clear c1
      try clear c2
      try clear p2
      try clear c4
      try clear c4b0
      try clear c4b1
      try clear c10
      try clear c12
      try clear c14
      try clear c17
      try clear hcz12_0
      try clear hcz12_1
      try clear hcz12_2
      try clear hcz12_3
      try clear hcz12_4
      try clear hcz14_0
      try clear hcz14_1
      try clear hcz14_2
      try clear hcz14_3
      try clear hcz14_4
      try clear hcz19_0
      try clear hcz19_1
      try clear hcz19_2
      try clear hcz19_3
      try clear hcz19_4
      try clear hfz12_0
      try clear hfz12_1
      try clear hfz12_2
      try clear hfz12_3
      try clear hfz12_4
      try clear hfz14_0
      try clear hfz14_1
      try clear hfz14_2
      try clear hfz14_3
      try clear hfz14_4
      try clear hfz19_0
      try clear hfz19_1
      try clear hfz19_2
      try clear hfz19_3
      try clear hfz19_4
      obtain ⟨kq, x51_8, rfl, HA, HJ8, HO_6, HO_8, BK491, HB⟩ := hcut
      cases kq with
      | zero => exact absurd HA.out (by simp [paviorlaw09_AreaChanges.j0])
      | succ kj8 =>
        have H := HA.out
        clear HA
        simp only [paviorlaw09_AreaChanges.j0] at H
        by_cases c20 : x51_8 = true
        · subst c20
          have H1 : (if t492 = true then (if t496.isNone = true then (some false) else (if (t496.getD 0) = 1 then (if t498.isNone = true then (some false) else (if (t498.getD 0) = 1 then (if (t493.length : Int) = 0 then (some ((t497.length : Int) == 0)) else (some false)) else (some false))) else (some false))) else (some false)) = some r := by rw [if_pos rfl] at H; exact H
          clear H
          have H := H1
          clear H1
          by_cases c21 : t492 = true
          · subst c21
            have H1 : (if t496.isNone = true then (some false) else (if (t496.getD 0) = 1 then (if t498.isNone = true then (some false) else (if (t498.getD 0) = 1 then (if (t493.length : Int) = 0 then (some ((t497.length : Int) == 0)) else (some false)) else (some false))) else (some false))) = some r := by rw [if_pos rfl] at H; exact H
            clear H
            have H := H1
            clear H1
            rcases t496 with _ | q503
            · have H1 : (some false) = some r := by rw [if_pos (show (none : Option Int).isNone = true by rfl)] at H; exact H
              clear H
              have H := H1
              clear H1
              try simp only [errW_none, errW_some]
              obtain rfl := Option.some.inj H
              go_wp2
              go_ret
              exact ⟨by first | rfl | (simp [errW_none, errW_some] <;> rfl) | (simp [*, errW_none, errW_some] <;> rfl), by repeat (first | (with_reducible first | exact HB.out | apply below_alloc | apply pw_below_drewN | apply below_drew1 | refine below_set ?_ GE491.out) | exact HB.out)⟩
            · have H1 : (if q503 = 1 then (if t498.isNone = true then (some false) else (if (t498.getD 0) = 1 then (if (t493.length : Int) = 0 then (some ((t497.length : Int) == 0)) else (some false)) else (some false))) else (some false)) = some r := by rw [if_neg (show ¬ (some q503).isNone = true by simp)] at H; exact H
              clear H
              have H := H1
              clear H1
              try simp only [errW_none, errW_some]
              by_cases c22 : q503 = 1
              · rw [if_pos c22] at H
                have c22b0 : (q503 == 1) = true := beq_iff_eq.mpr c22
                have c22b1 : (q503 != 1) = false := bne_eq_false_iff_eq.mpr c22
                clear c22
                rcases t498 with _ | q504
                · have H1 : (some false) = some r := by rw [if_pos (show (none : Option Int).isNone = true by rfl)] at H; exact H
                  clear H
                  have H := H1
                  clear H1
                  try simp only [errW_none, errW_some]
                  obtain rfl := Option.some.inj H
                  go_wp2
                  go_ret
                  exact ⟨by first | rfl | (simp [errW_none, errW_some] <;> rfl) | (simp [*, errW_none, errW_some] <;> rfl), by repeat (first | (with_reducible first | exact HB.out | apply below_alloc | apply pw_below_drewN | apply below_drew1 | refine below_set ?_ GE491.out) | exact HB.out)⟩
                · have H1 : (if q504 = 1 then (if (t493.length : Int) = 0 then (some ((t497.length : Int) == 0)) else (some false)) else (some false)) = some r := by rw [if_neg (show ¬ (some q504).isNone = true by simp)] at H; exact H
                  clear H
                  have H := H1
                  clear H1
                  try simp only [errW_none, errW_some]
                  by_cases c23 : q504 = 1
                  · rw [if_pos c23] at H
                    have c23b0 : (q504 == 1) = true := beq_iff_eq.mpr c23
                    have c23b1 : (q504 != 1) = false := bne_eq_false_iff_eq.mpr c23
                    clear c23
                    by_cases c24 : (t493.length : Int) = 0
                    · rw [if_pos c24] at H
                      have c24b0 : ((t493.length : Int) == 0) = true := beq_iff_eq.mpr c24
                      have c24b1 : ((t493.length : Int) != 0) = false := bne_eq_false_iff_eq.mpr c24
                      clear c24
                      obtain rfl := Option.some.inj H
                      obtain ⟨Ao25, co25, eo25⟩ := Kd.R_slice HO_6.out
                      subst eo25
                      obtain ⟨Ao26, co26, eo26⟩ := Kd.R_slice HO_8.out
                      subst eo26
                      go_wp2
                      go_ret
                      exact ⟨by first | rfl | (simp [errW_none, errW_some] <;> rfl) | (simp [*, errW_none, errW_some] <;> rfl), by repeat (first | (with_reducible first | exact HB.out | apply below_alloc | apply pw_below_drewN | apply below_drew1 | refine below_set ?_ GE491.out) | exact HB.out)⟩
                    · rw [if_neg c24] at H
                      have c24b0 : ((t493.length : Int) == 0) = false := beq_eq_false_iff_ne.mpr c24
                      have c24b1 : ((t493.length : Int) != 0) = true := bne_iff_ne.mpr c24
                      have c24b2 : ¬ (t493 = []) := fun h_ => c24 (by rw [h_]; rfl)
                      obtain rfl := Option.some.inj H
                      obtain ⟨Ao27, co27, eo27⟩ := Kd.R_slice HO_6.out
                      subst eo27
                      go_wp2
                      go_ret
                      exact ⟨by first | rfl | (simp [errW_none, errW_some] <;> rfl) | (simp [*, errW_none, errW_some] <;> rfl), by repeat (first | (with_reducible first | exact HB.out | apply below_alloc | apply pw_below_drewN | apply below_drew1 | refine below_set ?_ GE491.out) | exact HB.out)⟩
                  · rw [if_neg c23] at H
                    have c23b0 : (q504 == 1) = false := beq_eq_false_iff_ne.mpr c23
                    have c23b1 : (q504 != 1) = true := bne_iff_ne.mpr c23
                    obtain rfl := Option.some.inj H
                    go_wp2
                    go_ret
                    exact ⟨by first | rfl | (simp [errW_none, errW_some] <;> rfl) | (simp [*, errW_none, errW_some] <;> rfl), by repeat (first | (with_reducible first | exact HB.out | apply below_alloc | apply pw_below_drewN | apply below_drew1 | refine below_set ?_ GE491.out) | exact HB.out)⟩
              · rw [if_neg c22] at H
                have c22b0 : (q503 == 1) = false := beq_eq_false_iff_ne.mpr c22
                have c22b1 : (q503 != 1) = true := bne_iff_ne.mpr c22
                obtain rfl := Option.some.inj H
                go_wp2
                go_ret
                exact ⟨by first | rfl | (simp [errW_none, errW_some] <;> rfl) | (simp [*, errW_none, errW_some] <;> rfl), by repeat (first | (with_reducible first | exact HB.out | apply below_alloc | apply pw_below_drewN | apply below_drew1 | refine below_set ?_ GE491.out) | exact HB.out)⟩
          · replace c21 := Bool.eq_false_iff.mpr c21
            subst c21
            have H1 : (some false) = some r := by rw [if_neg (show ¬ (false = true) by decide)] at H; exact H
            clear H
            have H := H1
            clear H1
            obtain rfl := Option.some.inj H
            go_wp2
            go_ret
            exact ⟨by first | rfl | (simp [errW_none, errW_some] <;> rfl) | (simp [*, errW_none, errW_some] <;> rfl), by repeat (first | (with_reducible first | exact HB.out | apply below_alloc | apply pw_below_drewN | apply below_drew1 | refine below_set ?_ GE491.out) | exact HB.out)⟩
        · replace c20 := Bool.eq_false_iff.mpr c20
          subst c20
          have H1 : ((paviorref09_Of.f kj8 l0).bind fun t505 => ((paviorref09_Of.f kj8 l0).bind fun t508 => ((paviorref09_Change.f kj8 t505 a1_0 a1_1 true a1_2 a1_3 false).bind fun bt511 => ((paviorref09_Change.f kj8 t508 a1_0 a1_1 false a1_2 a1_3 a1_4).bind fun bt513 => (if bt511.1 = true then (paviorlaw09_AreaChanges.j1 kj8 t492 t493 t496 t497 t498 bt511.2 bt513.2 (!bt513.1)) else (paviorlaw09_AreaChanges.j1 kj8 t492 t493 t496 t497 t498 bt511.2 bt513.2 true)))))) = some r := by rw [if_neg (show ¬ (false = true) by decide)] at H; exact H
          clear H
          have H := H1
          clear H1
          replace H := Option.bind_eq_some_iff.mp H
          obtain ⟨t505, A280, H⟩ := H
          replace H : ((paviorref09_Of.f kj8 l0).bind fun t508 => ((paviorref09_Change.f kj8 t505 a1_0 a1_1 true a1_2 a1_3 false).bind fun bt511 => ((paviorref09_Change.f kj8 t508 a1_0 a1_1 false a1_2 a1_3 a1_4).bind fun bt513 => (if bt511.1 = true then (paviorlaw09_AreaChanges.j1 kj8 t492 t493 t496 t497 t498 bt511.2 bt513.2 (!bt513.1)) else (paviorlaw09_AreaChanges.j1 kj8 t492 t493 t496 t497 t498 bt511.2 bt513.2 true))))) = some r := H
          have A28 := Aside0.mk A280
          clear A280
          replace H := Option.bind_eq_some_iff.mp H
          obtain ⟨t508, A290, H⟩ := H
          replace H : ((paviorref09_Change.f kj8 t505 a1_0 a1_1 true a1_2 a1_3 false).bind fun bt511 => ((paviorref09_Change.f kj8 t508 a1_0 a1_1 false a1_2 a1_3 a1_4).bind fun bt513 => (if bt511.1 = true then (paviorlaw09_AreaChanges.j1 kj8 t492 t493 t496 t497 t498 bt511.2 bt513.2 (!bt513.1)) else (paviorlaw09_AreaChanges.j1 kj8 t492 t493 t496 t497 t498 bt511.2 bt513.2 true)))) = some r := H
          have A29 := Aside0.mk A290
          clear A290
          replace H := Option.bind_eq_some_iff.mp H
          obtain ⟨⟨t511, t512⟩, A300, H⟩ := H
          replace H : ((paviorref09_Change.f kj8 t508 a1_0 a1_1 false a1_2 a1_3 a1_4).bind fun bt513 => (if t511 = true then (paviorlaw09_AreaChanges.j1 kj8 t492 t493 t496 t497 t498 t512 bt513.2 (!bt513.1)) else (paviorlaw09_AreaChanges.j1 kj8 t492 t493 t496 t497 t498 t512 bt513.2 true))) = some r := H
          have A30 := Aside0.mk A300
          clear A300
          replace H := Option.bind_eq_some_iff.mp H
          obtain ⟨⟨t513, t514⟩, A310, H⟩ := H
          replace H : (if t511 = true then (paviorlaw09_AreaChanges.j1 kj8 t492 t493 t496 t497 t498 t512 t514 (!t513)) else (paviorlaw09_AreaChanges.j1 kj8 t492 t493 t496 t497 t498 t512 t514 true)) = some r := H
          have A31 := Aside0.mk A310
          clear A310
          have HC32 := Aside0.mk H
          clear H
          go_upto_region 12 with (first | ((with_reducible refine gate_callee (f := 18) rfl ?_); refine goesL_ (some 74) rfl rfl Try.func18 (by kernel_rfl) rfl #[.slice A0 l0.length c0] rfl (by (try simp only [List.map_toArray, List.map_cons, List.map_nil]); first | done | rfl | (simp only [List.length_drop, List.length_take]; rfl)) ?_; (with_reducible refine (paviorref09_Of.calls kj8 _ _ l0 t505 _ ?side1 ?side2 A28.out).mono ?_); (case side1 => repeat (first | exact (Kd.C_below HR0.out HB.out) | (with_reducible refine Kd.C_alloc ?_ _) | (with_reducible refine Kd.C_drewN ?_ _) | (with_reducible refine Kd.C_drew ?_))); (case side2 => exact HC0.out); rintro e w33 ⟨v506, rfl, ho0, hb⟩; refine ⟨_, rfl, ?_⟩; have n0_ := Aside0.mk (Kd.R_below (by (with_reducible repeat (first | apply Kd.R_alloc | apply Kd.R_drewN | apply Kd.R_drew)); exact HO_6.out) hb); have n1_ := Aside0.mk (Kd.R_below (by (with_reducible repeat (first | apply Kd.R_alloc | apply Kd.R_drewN | apply Kd.R_drew)); exact HO_8.out) hb); have n2_ := Aside0.mk (Kd.R_lower ho0 (below_size (by repeat (first | (with_reducible first | exact HB.out | apply below_alloc | apply pw_below_drewN | apply below_drew1 | refine below_set ?_ GE491.out) | exact HB.out)))); have n3_ := Aside0.mk (blk_below (g := gb491) (o := .cells #[.int .i64 a1_0, .int .i64 a1_1, .bool a1_2, .bool a1_3, .bool a1_4] 32 (0, 0)) (by (with_reducible repeat (first | refine blk_drewN ?_ _ | refine blk_drew ?_ | refine blk_alloc ?_ _)); exact BK491.out) hb); have n4_ := Aside0.mk (below_step (by repeat (first | (with_reducible first | exact HB.out | apply below_alloc | apply pw_below_drewN | apply below_drew1 | refine below_set ?_ GE491.out) | exact HB.out)) hb); clear HO_6; clear HO_8; clear BK491; clear HB; have HO_6 := n0_; have HO_8 := n1_; have HO507 := n2_; have BK491 := n3_; have HB := n4_; clear n0_ n1_ n2_ n3_ n4_; (try clear hb); (try clear hb2); (try clear hk); (try clear hi); (try clear ho0)) | ((with_reducible refine gate_callee (f := 18) rfl ?_); refine goesL_ (some 76) rfl rfl Try.func18 (by kernel_rfl) rfl #[.slice A0 l0.length c0] rfl (by (try simp only [List.map_toArray, List.map_cons, List.map_nil]); first | done | rfl | (simp only [List.length_drop, List.length_take]; rfl)) ?_; (with_reducible refine (paviorref09_Of.calls kj8 _ _ l0 t508 _ ?side1 ?side2 A29.out).mono ?_); (case side1 => repeat (first | exact (Kd.C_below HR0.out HB.out) | (with_reducible refine Kd.C_alloc ?_ _) | (with_reducible refine Kd.C_drewN ?_ _) | (with_reducible refine Kd.C_drew ?_))); (case side2 => exact HC0.out); rintro e w34 ⟨v509, rfl, ho0, hb⟩; refine ⟨_, rfl, ?_⟩; have n0_ := Aside0.mk (Kd.R_below (by (with_reducible repeat (first | apply Kd.R_alloc | apply Kd.R_drewN | apply Kd.R_drew)); exact HO_6.out) hb); have n1_ := Aside0.mk (Kd.R_below (by (with_reducible repeat (first | apply Kd.R_alloc | apply Kd.R_drewN | apply Kd.R_drew)); exact HO_8.out) hb); have n2_ := Aside0.mk (Kd.R_elder' (by (with_reducible repeat (first | apply Kd.R_alloc | apply Kd.R_drewN | apply Kd.R_drew)); exact HO507.out) (Kd.R_base ho0) hb); have n3_ := Aside0.mk (Kd.R_lower (Kd.R_new' ho0 (Kd.R_lt (by (with_reducible repeat (first | apply Kd.R_alloc | apply Kd.R_drewN | apply Kd.R_drew)); exact HO507.out))) (below_size (by repeat (first | (with_reducible first | exact HB.out | apply below_alloc | apply pw_below_drewN | apply below_drew1 | refine below_set ?_ GE491.out) | exact HB.out)))); have n4_ := Aside0.mk (blk_below (g := gb491) (o := .cells #[.int .i64 a1_0, .int .i64 a1_1, .bool a1_2, .bool a1_3, .bool a1_4] 32 (0, 0)) (by (with_reducible repeat (first | refine blk_drewN ?_ _ | refine blk_drew ?_ | refine blk_alloc ?_ _)); exact BK491.out) hb); have n5_ := Aside0.mk (below_step (by repeat (first | (with_reducible first | exact HB.out | apply below_alloc | apply pw_below_drewN | apply below_drew1 | refine below_set ?_ GE491.out) | exact HB.out)) hb); clear HO_6; clear HO_8; clear HO507; clear BK491; clear HB; have HO_6 := n0_; have HO_8 := n1_; have HO507 := n2_; have HO510 := n3_; have BK491 := n4_; have HB := n5_; clear n0_ n1_ n2_ n3_ n4_ n5_; (try clear hb); (try clear hb2); (try clear hk); (try clear hi); (try clear ho0); have hcz35_0 : w34.cell? ⟨gb491, 0, none⟩ = some (.int .i64 a1_0) := (blk_cell BK491.out 0).trans rfl; have hcz35_1 : w34.cell? ⟨gb491, 1, none⟩ = some (.int .i64 a1_1) := (blk_cell BK491.out 1).trans rfl; have hcz35_2 : w34.cell? ⟨gb491, 2, none⟩ = some (.bool a1_2) := (blk_cell BK491.out 2).trans rfl; have hcz35_3 : w34.cell? ⟨gb491, 3, none⟩ = some (.bool a1_3) := (blk_cell BK491.out 3).trans rfl; have hcz35_4 : w34.cell? ⟨gb491, 4, none⟩ = some (.bool a1_4) := (blk_cell BK491.out 4).trans rfl; have hfz35_0 := blk_frozen BK491.out 0; have hfz35_1 := blk_frozen BK491.out 1; have hfz35_2 := blk_frozen BK491.out 2; have hfz35_3 := blk_frozen BK491.out 3; have hfz35_4 := blk_frozen BK491.out 4; obtain ⟨Ao36, co36, eo36⟩ := Kd.R_slice HO507.out; subst eo36) | ((with_reducible refine gate_callee (f := 28) rfl ?_); refine goesL_ (some 84) rfl rfl Try.func28 (by kernel_rfl) rfl #[.slice Ao36 t505.length co36, .int .i64 a1_0, .int .i64 a1_1, .bool true, .agg #[.bool a1_2, .bool a1_3], .bool false] rfl (by (try simp only [List.map_toArray, List.map_cons, List.map_nil]); first | done | rfl | (simp only [List.length_drop, List.length_take]; rfl)) ?_; (with_reducible refine (paviorref09_Change.calls kj8 (fun k_ => some k_ = (.slice Ao36 t505.length co36 : Value).ownBlock) (.slice Ao36 t505.length co36) t505 a1_0 a1_1 true a1_2 a1_3 false t511 t512 w _ ?side1 ?side2 A30.out).mono ?_); (case side1 => repeat (first | (with_reducible first | exact HB.out | apply below_alloc | apply pw_below_drewN | apply below_drew1 | refine below_set ?_ GE491.out) | exact HB.out)); (case side2 => exact Kd.R_tight rfl HO507.out); rintro e w37 ⟨rfl, hy0, hb, hkp⟩; refine ⟨_, rfl, ?_⟩; have n0_ := Aside0.mk (Kd.R_mono (ok' := fun k_ => some k_ ≠ (v499 : Value).ownBlock ∧ k_ ≠ gb491) (Kd.R_keptB ((Kd.R_apart' HO_6.out (Kd.R_typed HO507.out) (by decide))) hkp (fun k_ hk_ hs_ => (hk_.2) hs_)) (fun k_ hk_ => ⟨hk_.1.1.1, hk_.1.1.2⟩)); have n1_ := Aside0.mk (Kd.R_mono (ok' := fun k_ => some k_ ≠ (v494 : Value).ownBlock ∧ k_ ≠ gb491) (Kd.R_keptB ((Kd.R_apart' HO_8.out (Kd.R_typed HO507.out) (by decide))) hkp (fun k_ hk_ hs_ => (hk_.2) hs_)) (fun k_ hk_ => ⟨hk_.1.1.1, hk_.1.1.2⟩)); have n2_ := Aside0.mk (blk_kept (by (with_reducible repeat (first | refine blk_drewN ?_ _ | refine blk_drew ?_ | refine blk_alloc ?_ _)); exact BK491.out) hkp (fun hs_ => (fun e_ => (Kd.R_ne HO507.out BK491.out (by decide)) e_) hs_)); have n3_ := Aside0.mk (Kd.R_reok rfl hy0 (fun k_ e_ => HO507.out.1 k_ e_)); have n4_ := Aside0.mk (Kd.R_mono (ok' := fun k_ => some k_ ≠ (.slice Ao36 t505.length co36 : Value).ownBlock) (Kd.R_keptB (HO510.out) hkp (fun k_ hk_ hs_ => (hk_.2) hs_)) (fun k_ hk_ => hk_.1.2)); have n5_ := Aside0.mk (hb); clear HO_6; clear HO_8; clear BK491; clear HO507; clear HO510; clear HB; have HO_6 := n0_; have HO_8 := n1_; have BK491 := n2_; have HO507 := n3_; have HO510 := n4_; have HB := n5_; clear n0_ n1_ n2_ n3_ n4_ n5_; (try clear hb); (try clear hkp); (try clear hy0); have hcz38_0 : w37.cell? ⟨gb491, 0, none⟩ = some (.int .i64 a1_0) := (blk_cell BK491.out 0).trans rfl; have hcz38_1 : w37.cell? ⟨gb491, 1, none⟩ = some (.int .i64 a1_1) := (blk_cell BK491.out 1).trans rfl; have hcz38_2 : w37.cell? ⟨gb491, 2, none⟩ = some (.bool a1_2) := (blk_cell BK491.out 2).trans rfl; have hcz38_3 : w37.cell? ⟨gb491, 3, none⟩ = some (.bool a1_3) := (blk_cell BK491.out 3).trans rfl; have hcz38_4 : w37.cell? ⟨gb491, 4, none⟩ = some (.bool a1_4) := (blk_cell BK491.out 4).trans rfl; have hfz38_0 := blk_frozen BK491.out 0; have hfz38_1 := blk_frozen BK491.out 1; have hfz38_2 := blk_frozen BK491.out 2; have hfz38_3 := blk_frozen BK491.out 3; have hfz38_4 := blk_frozen BK491.out 4; obtain ⟨Ao39, co39, eo39⟩ := Kd.R_slice HO510.out; subst eo39) | ((with_reducible refine gate_callee (f := 28) rfl ?_); refine goesL_ (some 94) rfl rfl Try.func28 (by kernel_rfl) rfl #[.slice Ao39 t508.length co39, .int .i64 a1_0, .int .i64 a1_1, .bool false, .agg #[.bool a1_2, .bool a1_3], .bool a1_4] rfl (by (try simp only [List.map_toArray, List.map_cons, List.map_nil]); first | done | rfl | (simp only [List.length_drop, List.length_take]; rfl)) ?_; (with_reducible refine (paviorref09_Change.calls kj8 (fun k_ => some k_ = (.slice Ao39 t508.length co39 : Value).ownBlock) (.slice Ao39 t508.length co39) t508 a1_0 a1_1 false a1_2 a1_3 a1_4 t513 t514 w _ ?side1 ?side2 A31.out).mono ?_); (case side1 => repeat (first | (with_reducible first | exact HB.out | apply below_alloc | apply pw_below_drewN | apply below_drew1 | refine below_set ?_ GE491.out) | exact HB.out)); (case side2 => exact Kd.R_tight rfl HO510.out); rintro e w40 ⟨rfl, hy0, hb, hkp⟩; refine ⟨_, rfl, ?_⟩; have n0_ := Aside0.mk (Kd.R_mono (ok' := fun k_ => some k_ ≠ (v499 : Value).ownBlock ∧ k_ ≠ gb491) (Kd.R_keptB ((Kd.R_apart' HO_6.out (Kd.R_typed HO510.out) (by decide))) hkp (fun k_ hk_ hs_ => (hk_.2) hs_)) (fun k_ hk_ => ⟨hk_.1.1.1, hk_.1.1.2⟩)); have n1_ := Aside0.mk (Kd.R_mono (ok' := fun k_ => some k_ ≠ (v494 : Value).ownBlock ∧ k_ ≠ gb491) (Kd.R_keptB ((Kd.R_apart' HO_8.out (Kd.R_typed HO510.out) (by decide))) hkp (fun k_ hk_ hs_ => (hk_.2) hs_)) (fun k_ hk_ => ⟨hk_.1.1.1, hk_.1.1.2⟩)); have n2_ := Aside0.mk (blk_kept (by (with_reducible repeat (first | refine blk_drewN ?_ _ | refine blk_drew ?_ | refine blk_alloc ?_ _)); exact BK491.out) hkp (fun hs_ => (fun e_ => (Kd.R_ne HO510.out BK491.out (by decide)) e_) hs_)); have n3_ := Aside0.mk (Kd.R_mono (ok' := fun k_ => some k_ ≠ (.slice Ao39 t508.length co39 : Value).ownBlock) (Kd.R_keptB (HO507.out) hkp (fun k_ hk_ hs_ => (hk_.2) hs_)) (fun k_ hk_ => hk_.1.2)); have n4_ := Aside0.mk (Kd.R_reok rfl hy0 (fun k_ e_ => HO510.out.1 k_ e_)); have n5_ := Aside0.mk (hb); clear HO_6; clear HO_8; clear BK491; clear HO507; clear HO510; clear HB; have HO_6 := n0_; have HO_8 := n1_; have BK491 := n2_; have HO507 := n3_; have HO510 := n4_; have HB := n5_; clear n0_ n1_ n2_ n3_ n4_ n5_; (try clear hb); (try clear hkp); (try clear hy0)))
          (try simp only [Act.put, List.setIfInBounds_toArray, List.set_cons_zero, List.set_cons_succ])
          go_cut [100] (fun v100 wc => ∃ (kq : Nat) (x100_31 : Bool), v100 = .bool x100_31 ∧ Aside0 (paviorlaw09_AreaChanges.j1 kq t492 t493 t496 t497 t498 t512 t514 x100_31 = some r) ∧ Aside0 (kq ≤ kj8) ∧ Aside0 (Kd.R k32 32 wc w.heap.size (fun k_ => some k_ ≠ (v499 : Value).ownBlock ∧ k_ ≠ gb491) v494 t493) ∧ Aside0 (Kd.R k32 32 wc w.heap.size (fun k_ => some k_ ≠ (v494 : Value).ownBlock ∧ k_ ≠ gb491) v499 t497) ∧ Aside0 (Kd.R k40 40 wc w.heap.size (fun k_ => some k_ ≠ ((.slice Ao39 t508.length co39) : Value).ownBlock) (.slice Ao36 t505.length co36) t512) ∧ Aside0 (Kd.R k40 40 wc w.heap.size (fun k_ => some k_ ≠ ((.slice Ao36 t505.length co36) : Value).ownBlock) (.slice Ao39 t508.length co39) t514) ∧ Aside0 (wc.heap[gb491]? = some (.cells #[.int .i64 a1_0, .int .i64 a1_1, .bool a1_2, .bool a1_3, .bool a1_4] 32 (0, 0))) ∧ Aside0 (Below w.heap.size w wc))
          case first =>
            have H := HC32.out
            clear HC32
            by_cases c41 : t511 = true
            · subst c41
              have H1 : (paviorlaw09_AreaChanges.j1 kj8 t492 t493 t496 t497 t498 t512 t514 (!t513)) = some r := by rw [if_pos rfl] at H; exact H
              clear H
              have H := H1
              clear H1
              have H' := Aside0.mk H
              clear H
              go_wp2
              go_meet
              case rel => exact ⟨_, (!t513), (by first | rfl | (simp; done) | (simp [*]; done)), H', ⟨by have := HJ8.out; first | omega | exact Nat.le_refl _⟩, ⟨by (with_reducible repeat (first | apply Kd.R_alloc | apply Kd.R_drewN | apply Kd.R_drew)); exact HO_6.out⟩, ⟨by (with_reducible repeat (first | apply Kd.R_alloc | apply Kd.R_drewN | apply Kd.R_drew)); exact HO_8.out⟩, ⟨by (with_reducible repeat (first | apply Kd.R_alloc | apply Kd.R_drewN | apply Kd.R_drew)); exact HO507.out⟩, ⟨by (with_reducible repeat (first | apply Kd.R_alloc | apply Kd.R_drewN | apply Kd.R_drew)); exact HO510.out⟩, ⟨by (with_reducible repeat (first | refine blk_drewN ?_ _ | refine blk_drew ?_ | refine blk_alloc ?_ _)); exact BK491.out⟩, ⟨by repeat (first | (with_reducible first | exact HB.out | apply below_alloc | apply pw_below_drewN | apply below_drew1 | refine below_set ?_ GE491.out) | exact HB.out)⟩⟩
            · replace c41 := Bool.eq_false_iff.mpr c41
              subst c41
              have H1 : (paviorlaw09_AreaChanges.j1 kj8 t492 t493 t496 t497 t498 t512 t514 true) = some r := by rw [if_neg (show ¬ (false = true) by decide)] at H; exact H
              clear H
              have H := H1
              clear H1
              have H' := Aside0.mk H
              clear H
              go_wp2
              go_meet
              case rel => exact ⟨_, (true), (by first | rfl | (simp; done) | (simp [*]; done)), H', ⟨by have := HJ8.out; first | omega | exact Nat.le_refl _⟩, ⟨by (with_reducible repeat (first | apply Kd.R_alloc | apply Kd.R_drewN | apply Kd.R_drew)); exact HO_6.out⟩, ⟨by (with_reducible repeat (first | apply Kd.R_alloc | apply Kd.R_drewN | apply Kd.R_drew)); exact HO_8.out⟩, ⟨by (with_reducible repeat (first | apply Kd.R_alloc | apply Kd.R_drewN | apply Kd.R_drew)); exact HO507.out⟩, ⟨by (with_reducible repeat (first | apply Kd.R_alloc | apply Kd.R_drewN | apply Kd.R_drew)); exact HO510.out⟩, ⟨by (with_reducible repeat (first | refine blk_drewN ?_ _ | refine blk_drew ?_ | refine blk_alloc ?_ _)); exact BK491.out⟩, ⟨by repeat (first | (with_reducible first | exact HB.out | apply below_alloc | apply pw_below_drewN | apply below_drew1 | refine below_set ?_ GE491.out) | exact HB.out)⟩⟩
          case rest =>
            clear HC32
            try clear c1
            try clear c2
            try clear p2
            try clear c4
            try clear c4b0
            try clear c4b1
            try clear q5
            try clear c10
            try clear c12
            try clear c14
            try clear c17
            try clear c18
            try clear c20
            try clear c21
            try clear c22
            try clear c22b0
            try clear c22b1
            try clear c23
            try clear c23b0
            try clear c23b1
            try clear c24
            try clear c24b0
            try clear c24b1
            try clear c24b2
            try clear c26
            try clear c27
            try clear c28
            try clear c41
            try clear hcz12_0
            try clear hcz12_1
            try clear hcz12_2
            try clear hcz12_3
            try clear hcz12_4
            try clear hcz14_0
            try clear hcz14_1
            try clear hcz14_2
            try clear hcz14_3
            try clear hcz14_4
            try clear hcz19_0
            try clear hcz19_1
            try clear hcz19_2
            try clear hcz19_3
            try clear hcz19_4
            try clear hcz35_0
            try clear hcz35_1
            try clear hcz35_2
            try clear hcz35_3
            try clear hcz35_4
            try clear hcz38_0
            try clear hcz38_1
            try clear hcz38_2
            try clear hcz38_3
            try clear hcz38_4
            try clear hfz12_0
            try clear hfz12_1
            try clear hfz12_2
            try clear hfz12_3
            try clear hfz12_4
            try clear hfz14_0
            try clear hfz14_1
            try clear hfz14_2
            try clear hfz14_3
            try clear hfz14_4
            try clear hfz19_0
            try clear hfz19_1
            try clear hfz19_2
            try clear hfz19_3
            try clear hfz19_4
            try clear hfz35_0
            try clear hfz35_1
            try clear hfz35_2
            try clear hfz35_3
            try clear hfz35_4
            try clear hfz38_0
            try clear hfz38_1
            try clear hfz38_2
            try clear hfz38_3
            try clear hfz38_4
            try clear p2
            try clear q503
            try clear q504
            obtain ⟨kq, x100_31, rfl, HA, HJ31, HO_6, HO_8, HO_10, HO_11, BK491, HB⟩ := hcut
            have hl10_31 := (Kd.R_reads' HO_10.out).1
            rw [hl10_31] at HO_10
            (try simp only [hl10_31])
            (try simp only [hl10_31] at BK491)
            (try simp only [hl10_31] at HO_6)
            (try simp only [hl10_31] at HO_8)
            (try simp only [hl10_31] at HO_11)
            have hl11_31 := (Kd.R_reads' HO_11.out).1
            rw [hl11_31] at HO_11
            (try simp only [hl11_31])
            (try simp only [hl11_31] at BK491)
            (try simp only [hl11_31] at HO_6)
            (try simp only [hl11_31] at HO_8)
            (try simp only [hl11_31] at HO_10)
            cases kq with
            | zero => exact absurd HA.out (by simp [paviorlaw09_AreaChanges.j1])
            | succ kj31 =>
              have H := HA.out
              clear HA
              simp only [paviorlaw09_AreaChanges.j1] at H
              by_cases c42 : x100_31 = true
              · subst c42
                have H1 : (if t492 = true then (if t496.isNone = true then (some false) else (if (t496.getD 0) = 3 then (if t498.isNone = true then (some false) else (if (t498.getD 0) = 3 then (if (t493.length : Int) = 0 then (some ((t497.length : Int) == 0)) else (some false)) else (some false))) else (some false))) else (some false)) = some r := by rw [if_pos rfl] at H; exact H
                clear H
                have H := H1
                clear H1
                by_cases c43 : t492 = true
                · subst c43
                  have H1 : (if t496.isNone = true then (some false) else (if (t496.getD 0) = 3 then (if t498.isNone = true then (some false) else (if (t498.getD 0) = 3 then (if (t493.length : Int) = 0 then (some ((t497.length : Int) == 0)) else (some false)) else (some false))) else (some false))) = some r := by rw [if_pos rfl] at H; exact H
                  clear H
                  have H := H1
                  clear H1
                  rcases t496 with _ | q515
                  · have H1 : (some false) = some r := by rw [if_pos (show (none : Option Int).isNone = true by rfl)] at H; exact H
                    clear H
                    have H := H1
                    clear H1
                    try simp only [errW_none, errW_some]
                    obtain rfl := Option.some.inj H
                    go_wp2
                    go_ret
                    exact ⟨by first | rfl | (simp [errW_none, errW_some] <;> rfl) | (simp [*, errW_none, errW_some] <;> rfl), by repeat (first | (with_reducible first | exact HB.out | apply below_alloc | apply pw_below_drewN | apply below_drew1 | refine below_set ?_ GE491.out) | exact HB.out)⟩
                  · have H1 : (if q515 = 3 then (if t498.isNone = true then (some false) else (if (t498.getD 0) = 3 then (if (t493.length : Int) = 0 then (some ((t497.length : Int) == 0)) else (some false)) else (some false))) else (some false)) = some r := by rw [if_neg (show ¬ (some q515).isNone = true by simp)] at H; exact H
                    clear H
                    have H := H1
                    clear H1
                    try simp only [errW_none, errW_some]
                    by_cases c44 : q515 = 3
                    · rw [if_pos c44] at H
                      have c44b0 : (q515 == 3) = true := beq_iff_eq.mpr c44
                      have c44b1 : (q515 != 3) = false := bne_eq_false_iff_eq.mpr c44
                      clear c44
                      rcases t498 with _ | q516
                      · have H1 : (some false) = some r := by rw [if_pos (show (none : Option Int).isNone = true by rfl)] at H; exact H
                        clear H
                        have H := H1
                        clear H1
                        try simp only [errW_none, errW_some]
                        obtain rfl := Option.some.inj H
                        go_wp2
                        go_ret
                        exact ⟨by first | rfl | (simp [errW_none, errW_some] <;> rfl) | (simp [*, errW_none, errW_some] <;> rfl), by repeat (first | (with_reducible first | exact HB.out | apply below_alloc | apply pw_below_drewN | apply below_drew1 | refine below_set ?_ GE491.out) | exact HB.out)⟩
                      · have H1 : (if q516 = 3 then (if (t493.length : Int) = 0 then (some ((t497.length : Int) == 0)) else (some false)) else (some false)) = some r := by rw [if_neg (show ¬ (some q516).isNone = true by simp)] at H; exact H
                        clear H
                        have H := H1
                        clear H1
                        try simp only [errW_none, errW_some]
                        by_cases c45 : q516 = 3
                        · rw [if_pos c45] at H
                          have c45b0 : (q516 == 3) = true := beq_iff_eq.mpr c45
                          have c45b1 : (q516 != 3) = false := bne_eq_false_iff_eq.mpr c45
                          clear c45
                          by_cases c46 : (t493.length : Int) = 0
                          · rw [if_pos c46] at H
                            have c46b0 : ((t493.length : Int) == 0) = true := beq_iff_eq.mpr c46
                            have c46b1 : ((t493.length : Int) != 0) = false := bne_eq_false_iff_eq.mpr c46
                            clear c46
                            obtain rfl := Option.some.inj H
                            obtain ⟨Ao47, co47, eo47⟩ := Kd.R_slice HO_6.out
                            subst eo47
                            obtain ⟨Ao48, co48, eo48⟩ := Kd.R_slice HO_8.out
                            subst eo48
                            go_wp2
                            go_ret
                            exact ⟨by first | rfl | (simp [errW_none, errW_some] <;> rfl) | (simp [*, errW_none, errW_some] <;> rfl), by repeat (first | (with_reducible first | exact HB.out | apply below_alloc | apply pw_below_drewN | apply below_drew1 | refine below_set ?_ GE491.out) | exact HB.out)⟩
                          · rw [if_neg c46] at H
                            have c46b0 : ((t493.length : Int) == 0) = false := beq_eq_false_iff_ne.mpr c46
                            have c46b1 : ((t493.length : Int) != 0) = true := bne_iff_ne.mpr c46
                            have c46b2 : ¬ (t493 = []) := fun h_ => c46 (by rw [h_]; rfl)
                            obtain rfl := Option.some.inj H
                            obtain ⟨Ao49, co49, eo49⟩ := Kd.R_slice HO_6.out
                            subst eo49
                            go_wp2
                            go_ret
                            exact ⟨by first | rfl | (simp [errW_none, errW_some] <;> rfl) | (simp [*, errW_none, errW_some] <;> rfl), by repeat (first | (with_reducible first | exact HB.out | apply below_alloc | apply pw_below_drewN | apply below_drew1 | refine below_set ?_ GE491.out) | exact HB.out)⟩
                        · rw [if_neg c45] at H
                          have c45b0 : (q516 == 3) = false := beq_eq_false_iff_ne.mpr c45
                          have c45b1 : (q516 != 3) = true := bne_iff_ne.mpr c45
                          obtain rfl := Option.some.inj H
                          go_wp2
                          go_ret
                          exact ⟨by first | rfl | (simp [errW_none, errW_some] <;> rfl) | (simp [*, errW_none, errW_some] <;> rfl), by repeat (first | (with_reducible first | exact HB.out | apply below_alloc | apply pw_below_drewN | apply below_drew1 | refine below_set ?_ GE491.out) | exact HB.out)⟩
                    · rw [if_neg c44] at H
                      have c44b0 : (q515 == 3) = false := beq_eq_false_iff_ne.mpr c44
                      have c44b1 : (q515 != 3) = true := bne_iff_ne.mpr c44
                      obtain rfl := Option.some.inj H
                      go_wp2
                      go_ret
                      exact ⟨by first | rfl | (simp [errW_none, errW_some] <;> rfl) | (simp [*, errW_none, errW_some] <;> rfl), by repeat (first | (with_reducible first | exact HB.out | apply below_alloc | apply pw_below_drewN | apply below_drew1 | refine below_set ?_ GE491.out) | exact HB.out)⟩
                · replace c43 := Bool.eq_false_iff.mpr c43
                  subst c43
                  have H1 : (some false) = some r := by rw [if_neg (show ¬ (false = true) by decide)] at H; exact H
                  clear H
                  have H := H1
                  clear H1
                  obtain rfl := Option.some.inj H
                  go_wp2
                  go_ret
                  exact ⟨by first | rfl | (simp [errW_none, errW_some] <;> rfl) | (simp [*, errW_none, errW_some] <;> rfl), by repeat (first | (with_reducible first | exact HB.out | apply below_alloc | apply pw_below_drewN | apply below_drew1 | refine below_set ?_ GE491.out) | exact HB.out)⟩
              · replace c42 := Bool.eq_false_iff.mpr c42
                subst c42
                have H1 : (if t492 = true then ((paviorlaw09_right.f kj31 t493 t496 t512).bind fun t517 => (if t517 = true then ((paviorlaw09_right.f kj31 t497 t498 t514).bind fun t518 => (some t518)) else (some false))) else (some false)) = some r := by rw [if_neg (show ¬ (false = true) by decide)] at H; exact H
                clear H
                have H := H1
                clear H1
                by_cases c50 : t492 = true
                · subst c50
                  have H1 : ((paviorlaw09_right.f kj31 t493 t496 t512).bind fun t517 => (if t517 = true then ((paviorlaw09_right.f kj31 t497 t498 t514).bind fun t518 => (some t518)) else (some false))) = some r := by rw [if_pos rfl] at H; exact H
                  clear H
                  have H := H1
                  clear H1
                  replace H := Option.bind_eq_some_iff.mp H
                  obtain ⟨t517, A510, H⟩ := H
                  replace H : (if t517 = true then ((paviorlaw09_right.f kj31 t497 t498 t514).bind fun t518 => (some t518)) else (some false)) = some r := H
                  have A51 := Aside0.mk A510
                  clear A510
                  by_cases c52 : t517 = true
                  · subst c52
                    have H1 : ((paviorlaw09_right.f kj31 t497 t498 t514).bind fun t518 => (some t518)) = some r := by rw [if_pos rfl] at H; exact H
                    clear H
                    have H := H1
                    clear H1
                    replace H := Option.bind_eq_some_iff.mp H
                    obtain ⟨t518, A530, H⟩ := H
                    replace H : (some t518) = some r := H
                    have A53 := Aside0.mk A530
                    clear A530
                    obtain rfl := Option.some.inj H
                    obtain ⟨Ao54, co54, eo54⟩ := Kd.R_slice HO_6.out
                    subst eo54
                    go_wp2_with (first | (go_at_call 19; (with_reducible refine (paviorlaw09_right.calls kj31 _ _ t493 t496 _ _ t512 true _ ?side1 ?side2 ?side3 ?side4 A51.out).mono ?_); (case side1 => repeat (first | exact (Kd.R_reads' HO_6.out).2.2 | (with_reducible refine Kd.C_alloc ?_ _) | (with_reducible refine Kd.C_drewN ?_ _) | (with_reducible refine Kd.C_drew ?_))); (case side2 => exact (Kd.R_reads' HO_6.out).2.1); (case side3 => repeat (first | exact (Kd.R_reads' HO_10.out).2.2 | (with_reducible refine Kd.C_alloc ?_ _) | (with_reducible refine Kd.C_drewN ?_ _) | (with_reducible refine Kd.C_drew ?_))); (case side4 => exact (Kd.R_reads' HO_10.out).2.1); rintro e w55 ⟨rfl, hb⟩; have n0_ := Aside0.mk (Kd.R_below (by (with_reducible repeat (first | apply Kd.R_alloc | apply Kd.R_drewN | apply Kd.R_drew)); exact HO_6.out) hb); have n1_ := Aside0.mk (Kd.R_below (by (with_reducible repeat (first | apply Kd.R_alloc | apply Kd.R_drewN | apply Kd.R_drew)); exact HO_8.out) hb); have n2_ := Aside0.mk (Kd.R_below (by (with_reducible repeat (first | apply Kd.R_alloc | apply Kd.R_drewN | apply Kd.R_drew)); exact HO_10.out) hb); have n3_ := Aside0.mk (Kd.R_below (by (with_reducible repeat (first | apply Kd.R_alloc | apply Kd.R_drewN | apply Kd.R_drew)); exact HO_11.out) hb); have n4_ := Aside0.mk (blk_below (g := gb491) (o := .cells #[.int .i64 a1_0, .int .i64 a1_1, .bool a1_2, .bool a1_3, .bool a1_4] 32 (0, 0)) (by (with_reducible repeat (first | refine blk_drewN ?_ _ | refine blk_drew ?_ | refine blk_alloc ?_ _)); exact BK491.out) hb); have n5_ := Aside0.mk (below_step (by repeat (first | (with_reducible first | exact HB.out | apply below_alloc | apply pw_below_drewN | apply below_drew1 | refine below_set ?_ GE491.out) | exact HB.out)) hb); clear HO_6; clear HO_8; clear HO_10; clear HO_11; clear BK491; clear HB; have HO_6 := n0_; have HO_8 := n1_; have HO_10 := n2_; have HO_11 := n3_; have BK491 := n4_; have HB := n5_; clear n0_ n1_ n2_ n3_ n4_ n5_; (try clear hb); (try clear hb2); (try clear hk); (try clear hi); obtain ⟨Ao56, co56, eo56⟩ := Kd.R_slice HO_8.out; subst eo56) | (go_at_call 19; (with_reducible refine (paviorlaw09_right.calls kj31 _ _ t497 t498 _ _ t514 t518 _ ?side1 ?side2 ?side3 ?side4 A53.out).mono ?_); (case side1 => repeat (first | exact (Kd.R_reads' HO_8.out).2.2 | (with_reducible refine Kd.C_alloc ?_ _) | (with_reducible refine Kd.C_drewN ?_ _) | (with_reducible refine Kd.C_drew ?_))); (case side2 => exact (Kd.R_reads' HO_8.out).2.1); (case side3 => repeat (first | exact (Kd.R_reads' HO_11.out).2.2 | (with_reducible refine Kd.C_alloc ?_ _) | (with_reducible refine Kd.C_drewN ?_ _) | (with_reducible refine Kd.C_drew ?_))); (case side4 => exact (Kd.R_reads' HO_11.out).2.1); rintro e w57 ⟨rfl, hb⟩; have n0_ := Aside0.mk (Kd.R_below (by (with_reducible repeat (first | apply Kd.R_alloc | apply Kd.R_drewN | apply Kd.R_drew)); exact HO_6.out) hb); have n1_ := Aside0.mk (Kd.R_below (by (with_reducible repeat (first | apply Kd.R_alloc | apply Kd.R_drewN | apply Kd.R_drew)); exact HO_8.out) hb); have n2_ := Aside0.mk (Kd.R_below (by (with_reducible repeat (first | apply Kd.R_alloc | apply Kd.R_drewN | apply Kd.R_drew)); exact HO_10.out) hb); have n3_ := Aside0.mk (Kd.R_below (by (with_reducible repeat (first | apply Kd.R_alloc | apply Kd.R_drewN | apply Kd.R_drew)); exact HO_11.out) hb); have n4_ := Aside0.mk (blk_below (g := gb491) (o := .cells #[.int .i64 a1_0, .int .i64 a1_1, .bool a1_2, .bool a1_3, .bool a1_4] 32 (0, 0)) (by (with_reducible repeat (first | refine blk_drewN ?_ _ | refine blk_drew ?_ | refine blk_alloc ?_ _)); exact BK491.out) hb); have n5_ := Aside0.mk (below_step (by repeat (first | (with_reducible first | exact HB.out | apply below_alloc | apply pw_below_drewN | apply below_drew1 | refine below_set ?_ GE491.out) | exact HB.out)) hb); clear HO_6; clear HO_8; clear HO_10; clear HO_11; clear BK491; clear HB; have HO_6 := n0_; have HO_8 := n1_; have HO_10 := n2_; have HO_11 := n3_; have BK491 := n4_; have HB := n5_; clear n0_ n1_ n2_ n3_ n4_ n5_; (try clear hb); (try clear hb2); (try clear hk); (try clear hi)))
                    go_ret
                    exact ⟨by first | rfl | (simp [errW_none, errW_some] <;> rfl) | (simp [*, errW_none, errW_some] <;> rfl), by repeat (first | (with_reducible first | exact HB.out | apply below_alloc | apply pw_below_drewN | apply below_drew1 | refine below_set ?_ GE491.out) | exact HB.out)⟩
                  · replace c52 := Bool.eq_false_iff.mpr c52
                    subst c52
                    have H1 : (some false) = some r := by rw [if_neg (show ¬ (false = true) by decide)] at H; exact H
                    clear H
                    have H := H1
                    clear H1
                    obtain rfl := Option.some.inj H
                    obtain ⟨Ao58, co58, eo58⟩ := Kd.R_slice HO_6.out
                    subst eo58
                    go_wp2_with (first | (go_at_call 19; (with_reducible refine (paviorlaw09_right.calls kj31 _ _ t493 t496 _ _ t512 false _ ?side1 ?side2 ?side3 ?side4 A51.out).mono ?_); (case side1 => repeat (first | exact (Kd.R_reads' HO_6.out).2.2 | (with_reducible refine Kd.C_alloc ?_ _) | (with_reducible refine Kd.C_drewN ?_ _) | (with_reducible refine Kd.C_drew ?_))); (case side2 => exact (Kd.R_reads' HO_6.out).2.1); (case side3 => repeat (first | exact (Kd.R_reads' HO_10.out).2.2 | (with_reducible refine Kd.C_alloc ?_ _) | (with_reducible refine Kd.C_drewN ?_ _) | (with_reducible refine Kd.C_drew ?_))); (case side4 => exact (Kd.R_reads' HO_10.out).2.1); rintro e w59 ⟨rfl, hb⟩; have n0_ := Aside0.mk (Kd.R_below (by (with_reducible repeat (first | apply Kd.R_alloc | apply Kd.R_drewN | apply Kd.R_drew)); exact HO_6.out) hb); have n1_ := Aside0.mk (Kd.R_below (by (with_reducible repeat (first | apply Kd.R_alloc | apply Kd.R_drewN | apply Kd.R_drew)); exact HO_8.out) hb); have n2_ := Aside0.mk (Kd.R_below (by (with_reducible repeat (first | apply Kd.R_alloc | apply Kd.R_drewN | apply Kd.R_drew)); exact HO_10.out) hb); have n3_ := Aside0.mk (Kd.R_below (by (with_reducible repeat (first | apply Kd.R_alloc | apply Kd.R_drewN | apply Kd.R_drew)); exact HO_11.out) hb); have n4_ := Aside0.mk (blk_below (g := gb491) (o := .cells #[.int .i64 a1_0, .int .i64 a1_1, .bool a1_2, .bool a1_3, .bool a1_4] 32 (0, 0)) (by (with_reducible repeat (first | refine blk_drewN ?_ _ | refine blk_drew ?_ | refine blk_alloc ?_ _)); exact BK491.out) hb); have n5_ := Aside0.mk (below_step (by repeat (first | (with_reducible first | exact HB.out | apply below_alloc | apply pw_below_drewN | apply below_drew1 | refine below_set ?_ GE491.out) | exact HB.out)) hb); clear HO_6; clear HO_8; clear HO_10; clear HO_11; clear BK491; clear HB; have HO_6 := n0_; have HO_8 := n1_; have HO_10 := n2_; have HO_11 := n3_; have BK491 := n4_; have HB := n5_; clear n0_ n1_ n2_ n3_ n4_ n5_; (try clear hb); (try clear hb2); (try clear hk); (try clear hi)))
                    go_ret
                    exact ⟨by first | rfl | (simp [errW_none, errW_some] <;> rfl) | (simp [*, errW_none, errW_some] <;> rfl), by repeat (first | (with_reducible first | exact HB.out | apply below_alloc | apply pw_below_drewN | apply below_drew1 | refine below_set ?_ GE491.out) | exact HB.out)⟩
                · replace c50 := Bool.eq_false_iff.mpr c50
                  subst c50
                  have H1 : (some false) = some r := by rw [if_neg (show ¬ (false = true) by decide)] at H; exact H
                  clear H
                  have H := H1
                  clear H1
                  obtain rfl := Option.some.inj H
                  go_wp2
                  go_ret
                  exact ⟨by first | rfl | (simp [errW_none, errW_some] <;> rfl) | (simp [*, errW_none, errW_some] <;> rfl), by repeat (first | (with_reducible first | exact HB.out | apply below_alloc | apply pw_below_drewN | apply below_drew1 | refine below_set ?_ GE491.out) | exact HB.out)⟩

/-- THE ONE PURE STATEMENT of paviorlaw09_AreaChanges. -/
def paviorlaw09_AreaChanges.Pure : Prop := ∀ (l0 : List (S32)) (a1_0 : Int) (a1_1 : Int) (a1_2 : Bool) (a1_3 : Bool) (a1_4 : Bool), l0.length ≤ maxLen → (∀ x ∈ l0, ((Lit.int .i64 x.f0).wf = true ∧ (Lit.int .i64 x.f1).wf = true ∧ (True ∧ True) ∧ True)) → (((Lit.int .i64 a1_0).wf = true ∧ (Lit.int .i64 a1_1).wf = true ∧ (True ∧ True) ∧ True)) → ∃ k, paviorlaw09_AreaChanges.f k l0 a1_0 a1_1 a1_2 a1_3 a1_4 = some true

end Go.Proofs.Ytlmjjkggoemabab.Q
