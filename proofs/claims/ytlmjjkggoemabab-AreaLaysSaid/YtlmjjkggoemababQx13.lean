-- Written by this session's program wip/tools/xprint.py (the kit's printer, turned by it); not the kit's own print.
import Derived.Test.YtlmjjkggoemababQx0
import Derived.Test.YtlmjjkggoemababQx8
import Derived.Test.YtlmjjkggoemababQx9
import Derived.Test.YtlmjjkggoemababQx11
import Derived.Test.YtlmjjkggoemababQx12
namespace Go.Proofs.Ytlmjjkggoemabab.Q
open Go.RowKit Go.Proofs.YtlmjjkggoemababW.PrintWords Go.Proofs.YtlmjjkggoemababW.PrintLast Go.Proofs.YtlmjjkggoemababW.PrintMore
attribute [local go_sem] max2_int min2_int max_two min_two max_three min_three max_four min_four   -- for this text's walks alone
set_option linter.unusedVariables false
set_option linter.unusedSimpArgs false

attribute [local go_sem high] eqErr_some neErr_some eqErr_left neErr_left
/-! ### paviorlaw09_AreaLays: function 4 -/
mutual
def paviorlaw09_AreaLays.j0 : Nat → List (S32) → Bool → List (S32) → Option Int → List (S32) → Option Int → Bool → Int → Int → Bool → Bool → Bool → Option (Bool)
  | 0, _, _, _, _, _, _, _, _, _, _, _, _ => none
  | k + 1, x0, x5, x6, x7, x8, x9, x43, x264000, x264001, x264002, x264003, x264004 => if x43 = true then (if x5 = true then (if x7.isNone = true then (some false) else (if (x7.getD 0) = 1 then (if x9.isNone = true then (some false) else (if (x9.getD 0) = 1 then (if (x6.length : Int) = 0 then (some ((x8.length : Int) == 0)) else (some false)) else (some false))) else (some false))) else (some false)) else ((paviorref09_Of.f k x0).bind fun t277 => ((paviorref09_Of.f k x0).bind fun t280 => (paviorlaw09_AreaLays.l0 k x5 x6 x7 x8 x9 t277 t280 x264000 x264000 x264001 x264002 x264003 x264004)))
def paviorlaw09_AreaLays.l0 : Nat → Bool → List (S32) → Option Int → List (S32) → Option Int → List (S40) → List (S40) → Int → Int → Int → Bool → Bool → Bool → Option (Bool)
  | 0, _, _, _, _, _, _, _, _, _, _, _, _, _ => none
  | k + 1, x5, x6, x7, x8, x9, x10, x11, x12, x264000, x264001, x264002, x264003, x264004 => if x12 < x264001 then (if 0 ≤ x12 then (if x12 < (x10.length : Int) then (if x12 < (x11.length : Int) then (paviorlaw09_AreaLays.l0 k x5 x6 x7 x8 x9 (x10.set (x12 : Int).toNat (⟨true, x264002, x264003, x264004⟩ : S40)) (x11.set (x12 : Int).toNat (⟨false, false, false, false⟩ : S40)) (wrap64 (x12 + 1)) x264000 x264001 x264002 x264003 x264004) else (none)) else (none)) else (none)) else (if x5 = true then ((paviorlaw09_right.f k x6 x7 x10).bind fun t285 => (if t285 = true then ((paviorlaw09_right.f k x8 x9 x11).bind fun t286 => (some t286)) else (some false))) else (some false))
end
def paviorlaw09_AreaLays.f (k : Nat) (l0 : List (S32)) (a1_0 : Int) (a1_1 : Int) (a1_2 : Bool) (a1_3 : Bool) (a1_4 : Bool) : Option (Bool) := (paviorlaw09_up.f k).bind fun t264 => (if (l0.length : Int) > 200 then (some t264) else ((area_Lay.f k l0 a1_0 a1_1 a1_2 a1_3 a1_4).bind fun bt265 => ((area_Cut.f k l0 a1_0 a1_1).bind fun bt269 => ((paviorref09_May.f k l0).bind fun t273 => (if t273 = true then ((paviorref09_Span.f a1_0 a1_1).bind fun t274 => (paviorlaw09_AreaLays.j0 k l0 t264 bt265.1 bt265.2 bt269.1 bt269.2 (!t274) a1_0 a1_1 a1_2 a1_3 a1_4)) else (paviorlaw09_AreaLays.j0 k l0 t264 bt265.1 bt265.2 bt269.1 bt269.2 true a1_0 a1_1 a1_2 a1_3 a1_4))))))
theorem paviorlaw09_AreaLays.mono_l : ∀ k, (∀ y0 y1 y2 y3 y4 y5 y6 y7 y8 y9 y10 y11, LeO (paviorlaw09_AreaLays.j0 k y0 y1 y2 y3 y4 y5 y6 y7 y8 y9 y10 y11) (paviorlaw09_AreaLays.j0 (k + 1) y0 y1 y2 y3 y4 y5 y6 y7 y8 y9 y10 y11)) ∧ (∀ y0 y1 y2 y3 y4 y5 y6 y7 y8 y9 y10 y11 y12, LeO (paviorlaw09_AreaLays.l0 k y0 y1 y2 y3 y4 y5 y6 y7 y8 y9 y10 y11 y12) (paviorlaw09_AreaLays.l0 (k + 1) y0 y1 y2 y3 y4 y5 y6 y7 y8 y9 y10 y11 y12))
  | 0 => ⟨fun _ _ _ _ _ _ _ _ _ _ _ _ r h => by simp [paviorlaw09_AreaLays.j0] at h, fun _ _ _ _ _ _ _ _ _ _ _ _ _ r h => by simp [paviorlaw09_AreaLays.l0] at h⟩
  | k + 1 => by
    obtain ⟨ih0, ih1⟩ := paviorlaw09_AreaLays.mono_l k
    refine ⟨?_, ?_⟩
    · intro y0 y1 y2 y3 y4 y5 y6 y7 y8 y9 y10 y11
      unfold paviorlaw09_AreaLays.j0
      repeat' first
      | (with_reducible exact ih0 _ _ _ _ _ _ _ _ _ _ _ _)
      | (with_reducible exact ih1 _ _ _ _ _ _ _ _ _ _ _ _ _)
      | (with_reducible exact area_Cut.mono _ _ _ _)
      | (with_reducible exact area_Lay.mono _ _ _ _ _ _ _)
      | (with_reducible exact paviorlaw09_right.mono _ _ _ _)
      | (with_reducible exact paviorlaw09_up.mono _)
      | (with_reducible exact paviorref09_May.mono _ _)
      | (with_reducible exact paviorref09_Of.mono _ _)
      | (with_reducible exact LeO.refl _)
      | (with_reducible exact LeO.none _)
      | (with_reducible refine LeO.ite ?_ ?_)
      | (with_reducible refine LeO.bind ?_ (fun _ => ?_))
      | exact ih0 _ _ _ _ _ _ _ _ _ _ _ _
      | exact ih1 _ _ _ _ _ _ _ _ _ _ _ _ _
      | exact area_Cut.mono _ _ _ _
      | exact area_Lay.mono _ _ _ _ _ _ _
      | exact paviorlaw09_right.mono _ _ _ _
      | exact paviorlaw09_up.mono _
      | exact paviorref09_May.mono _ _
      | exact paviorref09_Of.mono _ _
      | exact LeO.none _
      | refine LeO.ite ?_ ?_
      | refine LeO.bind ?_ (fun _ => ?_)
    · intro y0 y1 y2 y3 y4 y5 y6 y7 y8 y9 y10 y11 y12
      unfold paviorlaw09_AreaLays.l0
      repeat' first
      | (with_reducible exact ih0 _ _ _ _ _ _ _ _ _ _ _ _)
      | (with_reducible exact ih1 _ _ _ _ _ _ _ _ _ _ _ _ _)
      | (with_reducible exact area_Cut.mono _ _ _ _)
      | (with_reducible exact area_Lay.mono _ _ _ _ _ _ _)
      | (with_reducible exact paviorlaw09_right.mono _ _ _ _)
      | (with_reducible exact paviorlaw09_up.mono _)
      | (with_reducible exact paviorref09_May.mono _ _)
      | (with_reducible exact paviorref09_Of.mono _ _)
      | (with_reducible exact LeO.refl _)
      | (with_reducible exact LeO.none _)
      | (with_reducible refine LeO.ite ?_ ?_)
      | (with_reducible refine LeO.bind ?_ (fun _ => ?_))
      | exact ih0 _ _ _ _ _ _ _ _ _ _ _ _
      | exact ih1 _ _ _ _ _ _ _ _ _ _ _ _ _
      | exact area_Cut.mono _ _ _ _
      | exact area_Lay.mono _ _ _ _ _ _ _
      | exact paviorlaw09_right.mono _ _ _ _
      | exact paviorlaw09_up.mono _
      | exact paviorref09_May.mono _ _
      | exact paviorref09_Of.mono _ _
      | exact LeO.none _
      | refine LeO.ite ?_ ?_
      | refine LeO.bind ?_ (fun _ => ?_)
theorem paviorlaw09_AreaLays.mono : ∀ a0 a1 a2 a3 a4 a5 k, LeO (paviorlaw09_AreaLays.f k a0 a1 a2 a3 a4 a5) (paviorlaw09_AreaLays.f (k + 1) a0 a1 a2 a3 a4 a5) := by
  intro a0 a1 a2 a3 a4 a5 k
  obtain ⟨ih0, ih1⟩ := paviorlaw09_AreaLays.mono_l k
  unfold paviorlaw09_AreaLays.f
  repeat' first
      | (with_reducible exact ih0 _ _ _ _ _ _ _ _ _ _ _ _)
      | (with_reducible exact ih1 _ _ _ _ _ _ _ _ _ _ _ _ _)
      | (with_reducible exact area_Cut.mono _ _ _ _)
      | (with_reducible exact area_Lay.mono _ _ _ _ _ _ _)
      | (with_reducible exact paviorlaw09_right.mono _ _ _ _)
      | (with_reducible exact paviorlaw09_up.mono _)
      | (with_reducible exact paviorref09_May.mono _ _)
      | (with_reducible exact paviorref09_Of.mono _ _)
      | (with_reducible exact LeO.refl _)
      | (with_reducible exact LeO.none _)
      | (with_reducible refine LeO.ite ?_ ?_)
      | (with_reducible refine LeO.bind ?_ (fun _ => ?_))
      | exact ih0 _ _ _ _ _ _ _ _ _ _ _ _
      | exact ih1 _ _ _ _ _ _ _ _ _ _ _ _ _
      | exact area_Cut.mono _ _ _ _
      | exact area_Lay.mono _ _ _ _ _ _ _
      | exact paviorlaw09_right.mono _ _ _ _
      | exact paviorlaw09_up.mono _
      | exact paviorref09_May.mono _ _
      | exact paviorref09_Of.mono _ _
      | exact LeO.none _
      | refine LeO.ite ?_ ?_
      | refine LeO.bind ?_ (fun _ => ?_)
set_option maxHeartbeats 8000000 in
set_option maxRecDepth 100000 in
theorem paviorlaw09_AreaLays.calls (k : Nat) (A0 : Option Addr) (c0 : Nat) (l0 : List (S32)) (a1_0 : Int) (a1_1 : Int) (a1_2 : Bool) (a1_3 : Bool) (a1_4 : Bool) (r : Bool) (w : World) (hr0 : Kd.C k32 w A0 l0.length l0) (hc0 : l0.length ≤ c0) (h : paviorlaw09_AreaLays.f k l0 a1_0 a1_1 a1_2 a1_3 a1_4 = some r) :
    Calls Try.prog 4 #[.slice A0 l0.length c0, .agg #[.int .i64 a1_0, .int .i64 a1_1, .bool a1_2, .bool a1_3, .bool a1_4]] w fun e w' => e = .returned (.bool r) ∧ Below w.heap.size w w' := by
  have hu32 := Try.underlying32
  have hu40 := Try.underlying40
  have hu25 := Try.underlying25
  have hu28 := Try.underlying28
  have HR0 := Aside0.mk hr0
  have HC0 := Aside0.mk hc0
  clear hr0 hc0
  have HB := Aside0.mk (Below.refl w.heap.size w)
  have H : ((paviorlaw09_up.f k).bind fun t264 => (if (l0.length : Int) > 200 then (some t264) else ((area_Lay.f k l0 a1_0 a1_1 a1_2 a1_3 a1_4).bind fun bt265 => ((area_Cut.f k l0 a1_0 a1_1).bind fun bt269 => ((paviorref09_May.f k l0).bind fun t273 => (if t273 = true then ((paviorref09_Span.f a1_0 a1_1).bind fun t274 => (paviorlaw09_AreaLays.j0 k l0 t264 bt265.1 bt265.2 bt269.1 bt269.2 (!t274) a1_0 a1_1 a1_2 a1_3 a1_4)) else (paviorlaw09_AreaLays.j0 k l0 t264 bt265.1 bt265.2 bt269.1 bt269.2 true a1_0 a1_1 a1_2 a1_3 a1_4))))))) = some r := h
  clear h
  replace H := Option.bind_eq_some_iff.mp H
  obtain ⟨t264, A30, H⟩ := H
  replace H : (if (l0.length : Int) > 200 then (some t264) else ((area_Lay.f k l0 a1_0 a1_1 a1_2 a1_3 a1_4).bind fun bt265 => ((area_Cut.f k l0 a1_0 a1_1).bind fun bt269 => ((paviorref09_May.f k l0).bind fun t273 => (if t273 = true then ((paviorref09_Span.f a1_0 a1_1).bind fun t274 => (paviorlaw09_AreaLays.j0 k l0 t264 bt265.1 bt265.2 bt269.1 bt269.2 (!t274) a1_0 a1_1 a1_2 a1_3 a1_4)) else (paviorlaw09_AreaLays.j0 k l0 t264 bt265.1 bt265.2 bt269.1 bt269.2 true a1_0 a1_1 a1_2 a1_3 a1_4)))))) = some r := H
  have A3 := Aside0.mk A30
  clear A30
  by_cases c4 : (l0.length : Int) > 200
  · rw [if_pos c4] at H
    have c4b0 : decide (200 < (l0.length : Int)) = true := decide_eq_true c4
    have c4b1 : decide (200 < l0.length) = true := decide_eq_true (by omega)
    clear c4
    obtain rfl := Option.some.inj H
    go_enter Try.func4, Try.ntmps4
    go_wp2_with (first | ((with_reducible refine gate_dst (N := 3) rfl ?_); (try (refine gate_guard (by rfl) ?_; dsimp only)); refine box_event ?hg (N := 3) ?hd (cs := #[.int .i64 a1_0, .int .i64 a1_1, .bool a1_2, .bool a1_3, .bool a1_4]) (t := 32) ?hr ?_; (case hd => rfl); (case hg => rfl); (case hr => first | (go_simp; done) | (go_simp; rfl)); intro gb263 hg w5 hbox hb; have n0_ := Aside0.mk (below_step (by repeat (first | (with_reducible first | exact HB.out | apply below_alloc | apply pw_below_drewN | apply below_drew1) | exact HB.out)) hb); have n1_ := Aside0.mk (hbox); have n2_ := Aside0.mk ((by rw [hg]; exact (below_size (by repeat (first | (with_reducible first | exact HB.out | apply below_alloc | apply pw_below_drewN | apply below_drew1) | exact HB.out))) : w.heap.size ≤ gb263)); have n3_ := Aside0.mk ((by rw [hg]; exact (below_size (by repeat (first | (with_reducible first | exact HB.out | apply below_alloc | apply pw_below_drewN | apply below_drew1) | exact HB.out))) : w.heap.size ≤ gb263)); clear HB; have HB := n0_; have BK263 := n1_; have GW263 := n2_; have GE263 := n3_; clear n0_ n1_ n2_ n3_; clear hb hbox hg) | ((with_reducible refine gate_callee (f := 12) rfl ?_); refine goesL_ (some 13) rfl rfl Try.func12 (by kernel_rfl) rfl #[] rfl (by (try simp only [List.map_toArray, List.map_cons, List.map_nil]); first | done | rfl | (simp only [List.length_drop, List.length_take]; rfl)) ?_; (with_reducible refine (paviorlaw09_up.calls k  t264 _ A3.out).mono ?_); rintro e w6 ⟨rfl, hb⟩; refine ⟨_, rfl, ?_⟩; have n0_ := Aside0.mk (blk_below (g := gb263) (o := .cells #[.int .i64 a1_0, .int .i64 a1_1, .bool a1_2, .bool a1_3, .bool a1_4] 32 (0, 0)) (by (with_reducible repeat (first | refine blk_drewN ?_ _ | refine blk_drew ?_ | refine blk_alloc ?_ _)); exact BK263.out) hb); have n1_ := Aside0.mk (below_step (by repeat (first | (with_reducible first | exact HB.out | apply below_alloc | apply pw_below_drewN | apply below_drew1 | refine below_set ?_ GE263.out) | exact HB.out)) hb); clear BK263; clear HB; have BK263 := n0_; have HB := n1_; clear n0_ n1_; (try clear hb); (try clear hb2); (try clear hk); (try clear hi)))
    go_ret
    exact ⟨by first | rfl | (simp [errW_none, errW_some] <;> rfl) | (simp [*, errW_none, errW_some] <;> rfl), by repeat (first | (with_reducible first | exact HB.out | apply below_alloc | apply pw_below_drewN | apply below_drew1 | refine below_set ?_ GE263.out) | exact HB.out)⟩
  · rw [if_neg c4] at H
    have c4b0 : decide (200 < (l0.length : Int)) = false := decide_eq_false c4
    have c4b1 : decide (200 < l0.length) = false := decide_eq_false (by omega)
    clear c4
    replace H := Option.bind_eq_some_iff.mp H
    obtain ⟨⟨t265, t268⟩, A70, H⟩ := H
    replace H : ((area_Cut.f k l0 a1_0 a1_1).bind fun bt269 => ((paviorref09_May.f k l0).bind fun t273 => (if t273 = true then ((paviorref09_Span.f a1_0 a1_1).bind fun t274 => (paviorlaw09_AreaLays.j0 k l0 t264 t265 t268 bt269.1 bt269.2 (!t274) a1_0 a1_1 a1_2 a1_3 a1_4)) else (paviorlaw09_AreaLays.j0 k l0 t264 t265 t268 bt269.1 bt269.2 true a1_0 a1_1 a1_2 a1_3 a1_4)))) = some r := H
    have A7 := Aside0.mk A70
    clear A70
    replace H := Option.bind_eq_some_iff.mp H
    obtain ⟨⟨t269, t270⟩, A80, H⟩ := H
    replace H : ((paviorref09_May.f k l0).bind fun t273 => (if t273 = true then ((paviorref09_Span.f a1_0 a1_1).bind fun t274 => (paviorlaw09_AreaLays.j0 k l0 t264 t265 t268 t269 t270 (!t274) a1_0 a1_1 a1_2 a1_3 a1_4)) else (paviorlaw09_AreaLays.j0 k l0 t264 t265 t268 t269 t270 true a1_0 a1_1 a1_2 a1_3 a1_4))) = some r := H
    have A8 := Aside0.mk A80
    clear A80
    have HC9 := Aside0.mk H
    clear H
    go_enter Try.func4, Try.ntmps4
    go_upto_region 6 with (first | ((with_reducible refine gate_dst (N := 3) rfl ?_); (try (refine gate_guard (by rfl) ?_; dsimp only)); refine box_event ?hg (N := 3) ?hd (cs := #[.int .i64 a1_0, .int .i64 a1_1, .bool a1_2, .bool a1_3, .bool a1_4]) (t := 32) ?hr ?_; (case hd => rfl); (case hg => rfl); (case hr => first | (go_simp; done) | (go_simp; rfl)); intro gb263 hg w10 hbox hb; have n0_ := Aside0.mk (below_step (by repeat (first | (with_reducible first | exact HB.out | apply below_alloc | apply pw_below_drewN | apply below_drew1) | exact HB.out)) hb); have n1_ := Aside0.mk (hbox); have n2_ := Aside0.mk ((by rw [hg]; exact (below_size (by repeat (first | (with_reducible first | exact HB.out | apply below_alloc | apply pw_below_drewN | apply below_drew1) | exact HB.out))) : w.heap.size ≤ gb263)); have n3_ := Aside0.mk ((by rw [hg]; exact (below_size (by repeat (first | (with_reducible first | exact HB.out | apply below_alloc | apply pw_below_drewN | apply below_drew1) | exact HB.out))) : w.heap.size ≤ gb263)); clear HB; have HB := n0_; have BK263 := n1_; have GW263 := n2_; have GE263 := n3_; clear n0_ n1_ n2_ n3_; clear hb hbox hg) | ((with_reducible refine gate_callee (f := 12) rfl ?_); refine goesL_ (some 13) rfl rfl Try.func12 (by kernel_rfl) rfl #[] rfl (by (try simp only [List.map_toArray, List.map_cons, List.map_nil]); first | done | rfl | (simp only [List.length_drop, List.length_take]; rfl)) ?_; (with_reducible refine (paviorlaw09_up.calls k  t264 _ A3.out).mono ?_); rintro e w11 ⟨rfl, hb⟩; refine ⟨_, rfl, ?_⟩; have n0_ := Aside0.mk (blk_below (g := gb263) (o := .cells #[.int .i64 a1_0, .int .i64 a1_1, .bool a1_2, .bool a1_3, .bool a1_4] 32 (0, 0)) (by (with_reducible repeat (first | refine blk_drewN ?_ _ | refine blk_drew ?_ | refine blk_alloc ?_ _)); exact BK263.out) hb); have n1_ := Aside0.mk (below_step (by repeat (first | (with_reducible first | exact HB.out | apply below_alloc | apply pw_below_drewN | apply below_drew1 | refine below_set ?_ GE263.out) | exact HB.out)) hb); clear BK263; clear HB; have BK263 := n0_; have HB := n1_; clear n0_ n1_; (try clear hb); (try clear hb2); (try clear hk); (try clear hi); have hcz12_0 : w11.cell? ⟨gb263, 0, none⟩ = some (.int .i64 a1_0) := (blk_cell BK263.out 0).trans rfl; have hcz12_1 : w11.cell? ⟨gb263, 1, none⟩ = some (.int .i64 a1_1) := (blk_cell BK263.out 1).trans rfl; have hcz12_2 : w11.cell? ⟨gb263, 2, none⟩ = some (.bool a1_2) := (blk_cell BK263.out 2).trans rfl; have hcz12_3 : w11.cell? ⟨gb263, 3, none⟩ = some (.bool a1_3) := (blk_cell BK263.out 3).trans rfl; have hcz12_4 : w11.cell? ⟨gb263, 4, none⟩ = some (.bool a1_4) := (blk_cell BK263.out 4).trans rfl; have hfz12_0 := blk_frozen BK263.out 0; have hfz12_1 := blk_frozen BK263.out 1; have hfz12_2 := blk_frozen BK263.out 2; have hfz12_3 := blk_frozen BK263.out 3; have hfz12_4 := blk_frozen BK263.out 4) | ((with_reducible refine gate_callee (f := 15) rfl ?_); refine goesL_ (some 21) rfl rfl Try.func15 (by kernel_rfl) rfl #[.slice A0 l0.length c0, .agg #[.int .i64 a1_0, .int .i64 a1_1, .bool a1_2, .bool a1_3, .bool a1_4]] rfl (by (try simp only [List.map_toArray, List.map_cons, List.map_nil]); first | done | rfl | (simp only [List.length_drop, List.length_take]; rfl)) ?_; (with_reducible refine (area_Lay.calls k _ _ l0 a1_0 a1_1 a1_2 a1_3 a1_4 t265 t268 _ ?side1 ?side2 A7.out).mono ?_); (case side1 => repeat (first | exact (Kd.C_below HR0.out HB.out) | (with_reducible refine Kd.C_alloc ?_ _) | (with_reducible refine Kd.C_drewN ?_ _) | (with_reducible refine Kd.C_drew ?_))); (case side2 => exact HC0.out); rintro e w13 ⟨v266, rfl, ho0, hb⟩; refine ⟨_, rfl, ?_⟩; have n0_ := Aside0.mk (Kd.R_lower (Kd.R_newB ho0 (g := gb263) (o := .cells #[.int .i64 a1_0, .int .i64 a1_1, .bool a1_2, .bool a1_3, .bool a1_4] 32 (0, 0)) (by (with_reducible repeat (first | refine blk_drewN ?_ _ | refine blk_drew ?_ | refine blk_alloc ?_ _)); exact BK263.out)) (below_size (by repeat (first | (with_reducible first | exact HB.out | apply below_alloc | apply pw_below_drewN | apply below_drew1 | refine below_set ?_ GE263.out) | exact HB.out)))); have n1_ := Aside0.mk (blk_below (g := gb263) (o := .cells #[.int .i64 a1_0, .int .i64 a1_1, .bool a1_2, .bool a1_3, .bool a1_4] 32 (0, 0)) (by (with_reducible repeat (first | refine blk_drewN ?_ _ | refine blk_drew ?_ | refine blk_alloc ?_ _)); exact BK263.out) hb); have n2_ := Aside0.mk (below_step (by repeat (first | (with_reducible first | exact HB.out | apply below_alloc | apply pw_below_drewN | apply below_drew1 | refine below_set ?_ GE263.out) | exact HB.out)) hb); clear BK263; clear HB; have HO267 := n0_; have BK263 := n1_; have HB := n2_; clear n0_ n1_ n2_; (try clear hb); (try clear hb2); (try clear hk); (try clear hi); (try clear ho0); (try simp only [errW_none, errW_some]); have hcz14_0 : w13.cell? ⟨gb263, 0, none⟩ = some (.int .i64 a1_0) := (blk_cell BK263.out 0).trans rfl; have hcz14_1 : w13.cell? ⟨gb263, 1, none⟩ = some (.int .i64 a1_1) := (blk_cell BK263.out 1).trans rfl; have hcz14_2 : w13.cell? ⟨gb263, 2, none⟩ = some (.bool a1_2) := (blk_cell BK263.out 2).trans rfl; have hcz14_3 : w13.cell? ⟨gb263, 3, none⟩ = some (.bool a1_3) := (blk_cell BK263.out 3).trans rfl; have hcz14_4 : w13.cell? ⟨gb263, 4, none⟩ = some (.bool a1_4) := (blk_cell BK263.out 4).trans rfl; have hfz14_0 := blk_frozen BK263.out 0; have hfz14_1 := blk_frozen BK263.out 1; have hfz14_2 := blk_frozen BK263.out 2; have hfz14_3 := blk_frozen BK263.out 3; have hfz14_4 := blk_frozen BK263.out 4) | ((with_reducible refine gate_callee (f := 16) rfl ?_); refine goesL_ (some 30) rfl rfl Try.func16 (by kernel_rfl) rfl #[.slice A0 l0.length c0, .int .i64 a1_0, .int .i64 a1_1] rfl (by (try simp only [List.map_toArray, List.map_cons, List.map_nil]); first | done | rfl | (simp only [List.length_drop, List.length_take]; rfl)) ?_; (with_reducible refine (area_Cut.calls k _ _ l0 a1_0 a1_1 t269 t270 _ ?side1 ?side2 A8.out).mono ?_); (case side1 => repeat (first | exact (Kd.C_below HR0.out HB.out) | (with_reducible refine Kd.C_alloc ?_ _) | (with_reducible refine Kd.C_drewN ?_ _) | (with_reducible refine Kd.C_drew ?_))); (case side2 => exact HC0.out); rintro e w15 ⟨v271, rfl, ho0, hb⟩; refine ⟨_, rfl, ?_⟩; have n0_ := Aside0.mk (Kd.R_elder' (by (with_reducible repeat (first | apply Kd.R_alloc | apply Kd.R_drewN | apply Kd.R_drew)); exact HO267.out) (Kd.R_base ho0) hb); have n1_ := Aside0.mk (Kd.R_lower (Kd.R_newB (Kd.R_new' ho0 (Kd.R_lt (by (with_reducible repeat (first | apply Kd.R_alloc | apply Kd.R_drewN | apply Kd.R_drew)); exact HO267.out))) (g := gb263) (o := .cells #[.int .i64 a1_0, .int .i64 a1_1, .bool a1_2, .bool a1_3, .bool a1_4] 32 (0, 0)) (by (with_reducible repeat (first | refine blk_drewN ?_ _ | refine blk_drew ?_ | refine blk_alloc ?_ _)); exact BK263.out)) (below_size (by repeat (first | (with_reducible first | exact HB.out | apply below_alloc | apply pw_below_drewN | apply below_drew1 | refine below_set ?_ GE263.out) | exact HB.out)))); have n2_ := Aside0.mk (blk_below (g := gb263) (o := .cells #[.int .i64 a1_0, .int .i64 a1_1, .bool a1_2, .bool a1_3, .bool a1_4] 32 (0, 0)) (by (with_reducible repeat (first | refine blk_drewN ?_ _ | refine blk_drew ?_ | refine blk_alloc ?_ _)); exact BK263.out) hb); have n3_ := Aside0.mk (below_step (by repeat (first | (with_reducible first | exact HB.out | apply below_alloc | apply pw_below_drewN | apply below_drew1 | refine below_set ?_ GE263.out) | exact HB.out)) hb); clear HO267; clear BK263; clear HB; have HO267 := n0_; have HO272 := n1_; have BK263 := n2_; have HB := n3_; clear n0_ n1_ n2_ n3_; (try clear hb); (try clear hb2); (try clear hk); (try clear hi); (try clear ho0); (try simp only [errW_none, errW_some])))
    (try simp only [Act.put, List.setIfInBounds_toArray, List.set_cons_zero, List.set_cons_succ])
    go_cut [43] (fun v43 wc => ∃ (kq : Nat) (x43_8 : Bool), v43 = .bool x43_8 ∧ Aside0 (paviorlaw09_AreaLays.j0 kq l0 t264 t265 t268 t269 t270 x43_8 a1_0 a1_1 a1_2 a1_3 a1_4 = some r) ∧ Aside0 (kq ≤ k) ∧ Aside0 (Kd.R k32 32 wc w.heap.size (fun k_ => some k_ ≠ (v271 : Value).ownBlock ∧ k_ ≠ gb263) v266 t265) ∧ Aside0 (Kd.R k32 32 wc w.heap.size (fun k_ => some k_ ≠ (v266 : Value).ownBlock ∧ k_ ≠ gb263) v271 t269) ∧ Aside0 (wc.heap[gb263]? = some (.cells #[.int .i64 a1_0, .int .i64 a1_1, .bool a1_2, .bool a1_3, .bool a1_4] 32 (0, 0))) ∧ Aside0 (Below w.heap.size w wc))
    case first =>
      have H := HC9.out
      clear HC9
      replace H := Option.bind_eq_some_iff.mp H
      obtain ⟨t273, A160, H⟩ := H
      replace H : (if t273 = true then ((paviorref09_Span.f a1_0 a1_1).bind fun t274 => (paviorlaw09_AreaLays.j0 k l0 t264 t265 t268 t269 t270 (!t274) a1_0 a1_1 a1_2 a1_3 a1_4)) else (paviorlaw09_AreaLays.j0 k l0 t264 t265 t268 t269 t270 true a1_0 a1_1 a1_2 a1_3 a1_4)) = some r := H
      have A16 := Aside0.mk A160
      clear A160
      by_cases c17 : t273 = true
      · subst c17
        have H1 : ((paviorref09_Span.f a1_0 a1_1).bind fun t274 => (paviorlaw09_AreaLays.j0 k l0 t264 t265 t268 t269 t270 (!t274) a1_0 a1_1 a1_2 a1_3 a1_4)) = some r := by rw [if_pos rfl] at H; exact H
        clear H
        have H := H1
        clear H1
        replace H := Option.bind_eq_some_iff.mp H
        obtain ⟨t274, A180, H⟩ := H
        replace H : (paviorlaw09_AreaLays.j0 k l0 t264 t265 t268 t269 t270 (!t274) a1_0 a1_1 a1_2 a1_3 a1_4) = some r := H
        have A18 := Aside0.mk A180
        clear A180
        have H' := Aside0.mk H
        clear H
        go_wp2_with (first | ((with_reducible refine gate_callee (f := 14) rfl ?_); refine goesL_ (some 34) rfl rfl Try.func14 (by kernel_rfl) rfl #[.slice A0 l0.length c0] rfl (by (try simp only [List.map_toArray, List.map_cons, List.map_nil]); first | done | rfl | (simp only [List.length_drop, List.length_take]; rfl)) ?_; (with_reducible refine (paviorref09_May.calls k _ _ l0 true _ ?side1 ?side2 A16.out).mono ?_); (case side1 => repeat (first | exact (Kd.C_below HR0.out HB.out) | (with_reducible refine Kd.C_alloc ?_ _) | (with_reducible refine Kd.C_drewN ?_ _) | (with_reducible refine Kd.C_drew ?_))); (case side2 => exact HC0.out); rintro e w' ⟨rfl, ⟨nd, rfl⟩⟩; refine ⟨_, rfl, ?_⟩; have hcz19_0 : w15.cell? ⟨gb263, 0, none⟩ = some (.int .i64 a1_0) := (blk_cell BK263.out 0).trans rfl; have hcz19_1 : w15.cell? ⟨gb263, 1, none⟩ = some (.int .i64 a1_1) := (blk_cell BK263.out 1).trans rfl; have hcz19_2 : w15.cell? ⟨gb263, 2, none⟩ = some (.bool a1_2) := (blk_cell BK263.out 2).trans rfl; have hcz19_3 : w15.cell? ⟨gb263, 3, none⟩ = some (.bool a1_3) := (blk_cell BK263.out 3).trans rfl; have hcz19_4 : w15.cell? ⟨gb263, 4, none⟩ = some (.bool a1_4) := (blk_cell BK263.out 4).trans rfl; have hfz19_0 := blk_frozen BK263.out 0; have hfz19_1 := blk_frozen BK263.out 1; have hfz19_2 := blk_frozen BK263.out 2; have hfz19_3 := blk_frozen BK263.out 3; have hfz19_4 := blk_frozen BK263.out 4) | (go_at_call 17; (with_reducible refine (paviorref09_Span.calls a1_0 a1_1 t274 _ A18.out).mono ?_); rintro e w' ⟨rfl, ⟨nd, rfl⟩⟩))
        go_meet
        case rel => exact ⟨_, (!t274), (by first | rfl | (simp; done) | (simp [*]; done)), H', ⟨by first | omega | exact Nat.le_refl _⟩, ⟨by (with_reducible repeat (first | apply Kd.R_alloc | apply Kd.R_drewN | apply Kd.R_drew)); exact Kd.R_mono HO267.out (fun _ hk => ⟨hk.2, hk.1.2⟩)⟩, ⟨by (with_reducible repeat (first | apply Kd.R_alloc | apply Kd.R_drewN | apply Kd.R_drew)); exact Kd.R_mono HO272.out (fun _ hk => ⟨hk.1.2, hk.2⟩)⟩, ⟨by (with_reducible repeat (first | refine blk_drewN ?_ _ | refine blk_drew ?_ | refine blk_alloc ?_ _)); exact BK263.out⟩, ⟨by repeat (first | (with_reducible first | exact HB.out | apply below_alloc | apply pw_below_drewN | apply below_drew1 | refine below_set ?_ GE263.out) | exact HB.out)⟩⟩
      · replace c17 := Bool.eq_false_iff.mpr c17
        subst c17
        have H1 : (paviorlaw09_AreaLays.j0 k l0 t264 t265 t268 t269 t270 true a1_0 a1_1 a1_2 a1_3 a1_4) = some r := by rw [if_neg (show ¬ (false = true) by decide)] at H; exact H
        clear H
        have H := H1
        clear H1
        have H' := Aside0.mk H
        clear H
        go_wp2_with (first | ((with_reducible refine gate_callee (f := 14) rfl ?_); refine goesL_ (some 34) rfl rfl Try.func14 (by kernel_rfl) rfl #[.slice A0 l0.length c0] rfl (by (try simp only [List.map_toArray, List.map_cons, List.map_nil]); first | done | rfl | (simp only [List.length_drop, List.length_take]; rfl)) ?_; (with_reducible refine (paviorref09_May.calls k _ _ l0 false _ ?side1 ?side2 A16.out).mono ?_); (case side1 => repeat (first | exact (Kd.C_below HR0.out HB.out) | (with_reducible refine Kd.C_alloc ?_ _) | (with_reducible refine Kd.C_drewN ?_ _) | (with_reducible refine Kd.C_drew ?_))); (case side2 => exact HC0.out); rintro e w' ⟨rfl, ⟨nd, rfl⟩⟩; refine ⟨_, rfl, ?_⟩))
        go_meet
        case rel => exact ⟨_, (true), (by first | rfl | (simp; done) | (simp [*]; done)), H', ⟨by first | omega | exact Nat.le_refl _⟩, ⟨by (with_reducible repeat (first | apply Kd.R_alloc | apply Kd.R_drewN | apply Kd.R_drew)); exact Kd.R_mono HO267.out (fun _ hk => ⟨hk.2, hk.1.2⟩)⟩, ⟨by (with_reducible repeat (first | apply Kd.R_alloc | apply Kd.R_drewN | apply Kd.R_drew)); exact Kd.R_mono HO272.out (fun _ hk => ⟨hk.1.2, hk.2⟩)⟩, ⟨by (with_reducible repeat (first | refine blk_drewN ?_ _ | refine blk_drew ?_ | refine blk_alloc ?_ _)); exact BK263.out⟩, ⟨by repeat (first | (with_reducible first | exact HB.out | apply below_alloc | apply pw_below_drewN | apply below_drew1 | refine below_set ?_ GE263.out) | exact HB.out)⟩⟩
    case rest =>
      clear HC9
      try clear c1
      try clear p2
      try clear c4
      try clear c4b0
      try clear c4b1
      try clear c12
      try clear c14
      try clear c15
      try clear c16
      try clear c17
      try clear hcz12_0
      try clear hcz12_1
      try clear hcz12_2
      try clear hcz12_3
      try clear hcz12_4
      try clear hcz14_0
      try clear hcz14_1
      try clear hcz14_2
      try clear hcz14_3
      try clear hcz14_4
      try clear hcz19_0
      try clear hcz19_1
      try clear hcz19_2
      try clear hcz19_3
      try clear hcz19_4
      try clear hfz12_0
      try clear hfz12_1
      try clear hfz12_2
      try clear hfz12_3
      try clear hfz12_4
      try clear hfz14_0
      try clear hfz14_1
      try clear hfz14_2
      try clear hfz14_3
      try clear hfz14_4
      try clear hfz19_0
      try clear hfz19_1
      try clear hfz19_2
      try clear hfz19_3
      try clear hfz19_4
      obtain ⟨kq, x43_8, rfl, HA, HJ8, HO_6, HO_8, BK263, HB⟩ := hcut
      cases kq with
      | zero => exact absurd HA.out (by simp [paviorlaw09_AreaLays.j0])
      | succ kj8 =>
        have H := HA.out
        clear HA
        simp only [paviorlaw09_AreaLays.j0] at H
        by_cases c20 : x43_8 = true
        · subst c20
          have H1 : (if t264 = true then (if t268.isNone = true then (some false) else (if (t268.getD 0) = 1 then (if t270.isNone = true then (some false) else (if (t270.getD 0) = 1 then (if (t265.length : Int) = 0 then (some ((t269.length : Int) == 0)) else (some false)) else (some false))) else (some false))) else (some false)) = some r := by rw [if_pos rfl] at H; exact H
          clear H
          have H := H1
          clear H1
          by_cases c21 : t264 = true
          · subst c21
            have H1 : (if t268.isNone = true then (some false) else (if (t268.getD 0) = 1 then (if t270.isNone = true then (some false) else (if (t270.getD 0) = 1 then (if (t265.length : Int) = 0 then (some ((t269.length : Int) == 0)) else (some false)) else (some false))) else (some false))) = some r := by rw [if_pos rfl] at H; exact H
            clear H
            have H := H1
            clear H1
            rcases t268 with _ | q275
            · have H1 : (some false) = some r := by rw [if_pos (show (none : Option Int).isNone = true by rfl)] at H; exact H
              clear H
              have H := H1
              clear H1
              try simp only [errW_none, errW_some]
              obtain rfl := Option.some.inj H
              go_wp2
              go_ret
              exact ⟨by first | rfl | (simp [errW_none, errW_some] <;> rfl) | (simp [*, errW_none, errW_some] <;> rfl), by repeat (first | (with_reducible first | exact HB.out | apply below_alloc | apply pw_below_drewN | apply below_drew1 | refine below_set ?_ GE263.out) | exact HB.out)⟩
            · have H1 : (if q275 = 1 then (if t270.isNone = true then (some false) else (if (t270.getD 0) = 1 then (if (t265.length : Int) = 0 then (some ((t269.length : Int) == 0)) else (some false)) else (some false))) else (some false)) = some r := by rw [if_neg (show ¬ (some q275).isNone = true by simp)] at H; exact H
              clear H
              have H := H1
              clear H1
              try simp only [errW_none, errW_some]
              by_cases c22 : q275 = 1
              · rw [if_pos c22] at H
                have c22b0 : (q275 == 1) = true := beq_iff_eq.mpr c22
                have c22b1 : (q275 != 1) = false := bne_eq_false_iff_eq.mpr c22
                clear c22
                rcases t270 with _ | q276
                · have H1 : (some false) = some r := by rw [if_pos (show (none : Option Int).isNone = true by rfl)] at H; exact H
                  clear H
                  have H := H1
                  clear H1
                  try simp only [errW_none, errW_some]
                  obtain rfl := Option.some.inj H
                  go_wp2
                  go_ret
                  exact ⟨by first | rfl | (simp [errW_none, errW_some] <;> rfl) | (simp [*, errW_none, errW_some] <;> rfl), by repeat (first | (with_reducible first | exact HB.out | apply below_alloc | apply pw_below_drewN | apply below_drew1 | refine below_set ?_ GE263.out) | exact HB.out)⟩
                · have H1 : (if q276 = 1 then (if (t265.length : Int) = 0 then (some ((t269.length : Int) == 0)) else (some false)) else (some false)) = some r := by rw [if_neg (show ¬ (some q276).isNone = true by simp)] at H; exact H
                  clear H
                  have H := H1
                  clear H1
                  try simp only [errW_none, errW_some]
                  by_cases c23 : q276 = 1
                  · rw [if_pos c23] at H
                    have c23b0 : (q276 == 1) = true := beq_iff_eq.mpr c23
                    have c23b1 : (q276 != 1) = false := bne_eq_false_iff_eq.mpr c23
                    clear c23
                    by_cases c24 : (t265.length : Int) = 0
                    · rw [if_pos c24] at H
                      have c24b0 : ((t265.length : Int) == 0) = true := beq_iff_eq.mpr c24
                      have c24b1 : ((t265.length : Int) != 0) = false := bne_eq_false_iff_eq.mpr c24
                      clear c24
                      obtain rfl := Option.some.inj H
                      obtain ⟨Ao25, co25, eo25⟩ := Kd.R_slice HO_6.out
                      subst eo25
                      obtain ⟨Ao26, co26, eo26⟩ := Kd.R_slice HO_8.out
                      subst eo26
                      go_wp2
                      go_ret
                      exact ⟨by first | rfl | (simp [errW_none, errW_some] <;> rfl) | (simp [*, errW_none, errW_some] <;> rfl), by repeat (first | (with_reducible first | exact HB.out | apply below_alloc | apply pw_below_drewN | apply below_drew1 | refine below_set ?_ GE263.out) | exact HB.out)⟩
                    · rw [if_neg c24] at H
                      have c24b0 : ((t265.length : Int) == 0) = false := beq_eq_false_iff_ne.mpr c24
                      have c24b1 : ((t265.length : Int) != 0) = true := bne_iff_ne.mpr c24
                      have c24b2 : ¬ (t265 = []) := fun h_ => c24 (by rw [h_]; rfl)
                      obtain rfl := Option.some.inj H
                      obtain ⟨Ao27, co27, eo27⟩ := Kd.R_slice HO_6.out
                      subst eo27
                      go_wp2
                      go_ret
                      exact ⟨by first | rfl | (simp [errW_none, errW_some] <;> rfl) | (simp [*, errW_none, errW_some] <;> rfl), by repeat (first | (with_reducible first | exact HB.out | apply below_alloc | apply pw_below_drewN | apply below_drew1 | refine below_set ?_ GE263.out) | exact HB.out)⟩
                  · rw [if_neg c23] at H
                    have c23b0 : (q276 == 1) = false := beq_eq_false_iff_ne.mpr c23
                    have c23b1 : (q276 != 1) = true := bne_iff_ne.mpr c23
                    obtain rfl := Option.some.inj H
                    go_wp2
                    go_ret
                    exact ⟨by first | rfl | (simp [errW_none, errW_some] <;> rfl) | (simp [*, errW_none, errW_some] <;> rfl), by repeat (first | (with_reducible first | exact HB.out | apply below_alloc | apply pw_below_drewN | apply below_drew1 | refine below_set ?_ GE263.out) | exact HB.out)⟩
              · rw [if_neg c22] at H
                have c22b0 : (q275 == 1) = false := beq_eq_false_iff_ne.mpr c22
                have c22b1 : (q275 != 1) = true := bne_iff_ne.mpr c22
                obtain rfl := Option.some.inj H
                go_wp2
                go_ret
                exact ⟨by first | rfl | (simp [errW_none, errW_some] <;> rfl) | (simp [*, errW_none, errW_some] <;> rfl), by repeat (first | (with_reducible first | exact HB.out | apply below_alloc | apply pw_below_drewN | apply below_drew1 | refine below_set ?_ GE263.out) | exact HB.out)⟩
          · replace c21 := Bool.eq_false_iff.mpr c21
            subst c21
            have H1 : (some false) = some r := by rw [if_neg (show ¬ (false = true) by decide)] at H; exact H
            clear H
            have H := H1
            clear H1
            obtain rfl := Option.some.inj H
            go_wp2
            go_ret
            exact ⟨by first | rfl | (simp [errW_none, errW_some] <;> rfl) | (simp [*, errW_none, errW_some] <;> rfl), by repeat (first | (with_reducible first | exact HB.out | apply below_alloc | apply pw_below_drewN | apply below_drew1 | refine below_set ?_ GE263.out) | exact HB.out)⟩
        · replace c20 := Bool.eq_false_iff.mpr c20
          subst c20
          have H1 : ((paviorref09_Of.f kj8 l0).bind fun t277 => ((paviorref09_Of.f kj8 l0).bind fun t280 => (paviorlaw09_AreaLays.l0 kj8 t264 t265 t268 t269 t270 t277 t280 a1_0 a1_0 a1_1 a1_2 a1_3 a1_4))) = some r := by rw [if_neg (show ¬ (false = true) by decide)] at H; exact H
          clear H
          have H := H1
          clear H1
          replace H := Option.bind_eq_some_iff.mp H
          obtain ⟨t277, A280, H⟩ := H
          replace H : ((paviorref09_Of.f kj8 l0).bind fun t280 => (paviorlaw09_AreaLays.l0 kj8 t264 t265 t268 t269 t270 t277 t280 a1_0 a1_0 a1_1 a1_2 a1_3 a1_4)) = some r := H
          have A28 := Aside0.mk A280
          clear A280
          replace H := Option.bind_eq_some_iff.mp H
          obtain ⟨t280, A290, H⟩ := H
          replace H : (paviorlaw09_AreaLays.l0 kj8 t264 t265 t268 t269 t270 t277 t280 a1_0 a1_0 a1_1 a1_2 a1_3 a1_4) = some r := H
          have A29 := Aside0.mk A290
          clear A290
          have H' := Aside0.mk H
          clear H
          go_wp2_with (first | ((with_reducible refine gate_callee (f := 18) rfl ?_); refine goesL_ (some 66) rfl rfl Try.func18 (by kernel_rfl) rfl #[.slice A0 l0.length c0] rfl (by (try simp only [List.map_toArray, List.map_cons, List.map_nil]); first | done | rfl | (simp only [List.length_drop, List.length_take]; rfl)) ?_; (with_reducible refine (paviorref09_Of.calls kj8 _ _ l0 t277 _ ?side1 ?side2 A28.out).mono ?_); (case side1 => repeat (first | exact (Kd.C_below HR0.out HB.out) | (with_reducible refine Kd.C_alloc ?_ _) | (with_reducible refine Kd.C_drewN ?_ _) | (with_reducible refine Kd.C_drew ?_))); (case side2 => exact HC0.out); rintro e w30 ⟨v278, rfl, ho0, hb⟩; refine ⟨_, rfl, ?_⟩; have n0_ := Aside0.mk (Kd.R_below (by (with_reducible repeat (first | apply Kd.R_alloc | apply Kd.R_drewN | apply Kd.R_drew)); exact HO_6.out) hb); have n1_ := Aside0.mk (Kd.R_below (by (with_reducible repeat (first | apply Kd.R_alloc | apply Kd.R_drewN | apply Kd.R_drew)); exact HO_8.out) hb); have n2_ := Aside0.mk (Kd.R_lower ho0 (below_size (by repeat (first | (with_reducible first | exact HB.out | apply below_alloc | apply pw_below_drewN | apply below_drew1 | refine below_set ?_ GE263.out) | exact HB.out)))); have n3_ := Aside0.mk (blk_below (g := gb263) (o := .cells #[.int .i64 a1_0, .int .i64 a1_1, .bool a1_2, .bool a1_3, .bool a1_4] 32 (0, 0)) (by (with_reducible repeat (first | refine blk_drewN ?_ _ | refine blk_drew ?_ | refine blk_alloc ?_ _)); exact BK263.out) hb); have n4_ := Aside0.mk (below_step (by repeat (first | (with_reducible first | exact HB.out | apply below_alloc | apply pw_below_drewN | apply below_drew1 | refine below_set ?_ GE263.out) | exact HB.out)) hb); clear HO_6; clear HO_8; clear BK263; clear HB; have HO_6 := n0_; have HO_8 := n1_; have HO279 := n2_; have BK263 := n3_; have HB := n4_; clear n0_ n1_ n2_ n3_ n4_; (try clear hb); (try clear hb2); (try clear hk); (try clear hi); (try clear ho0)) | ((with_reducible refine gate_callee (f := 18) rfl ?_); refine goesL_ (some 68) rfl rfl Try.func18 (by kernel_rfl) rfl #[.slice A0 l0.length c0] rfl (by (try simp only [List.map_toArray, List.map_cons, List.map_nil]); first | done | rfl | (simp only [List.length_drop, List.length_take]; rfl)) ?_; (with_reducible refine (paviorref09_Of.calls kj8 _ _ l0 t280 _ ?side1 ?side2 A29.out).mono ?_); (case side1 => repeat (first | exact (Kd.C_below HR0.out HB.out) | (with_reducible refine Kd.C_alloc ?_ _) | (with_reducible refine Kd.C_drewN ?_ _) | (with_reducible refine Kd.C_drew ?_))); (case side2 => exact HC0.out); rintro e w31 ⟨v281, rfl, ho0, hb⟩; refine ⟨_, rfl, ?_⟩; have n0_ := Aside0.mk (Kd.R_below (by (with_reducible repeat (first | apply Kd.R_alloc | apply Kd.R_drewN | apply Kd.R_drew)); exact HO_6.out) hb); have n1_ := Aside0.mk (Kd.R_below (by (with_reducible repeat (first | apply Kd.R_alloc | apply Kd.R_drewN | apply Kd.R_drew)); exact HO_8.out) hb); have n2_ := Aside0.mk (Kd.R_elder' (by (with_reducible repeat (first | apply Kd.R_alloc | apply Kd.R_drewN | apply Kd.R_drew)); exact HO279.out) (Kd.R_base ho0) hb); have n3_ := Aside0.mk (Kd.R_lower (Kd.R_new' ho0 (Kd.R_lt (by (with_reducible repeat (first | apply Kd.R_alloc | apply Kd.R_drewN | apply Kd.R_drew)); exact HO279.out))) (below_size (by repeat (first | (with_reducible first | exact HB.out | apply below_alloc | apply pw_below_drewN | apply below_drew1 | refine below_set ?_ GE263.out) | exact HB.out)))); have n4_ := Aside0.mk (blk_below (g := gb263) (o := .cells #[.int .i64 a1_0, .int .i64 a1_1, .bool a1_2, .bool a1_3, .bool a1_4] 32 (0, 0)) (by (with_reducible repeat (first | refine blk_drewN ?_ _ | refine blk_drew ?_ | refine blk_alloc ?_ _)); exact BK263.out) hb); have n5_ := Aside0.mk (below_step (by repeat (first | (with_reducible first | exact HB.out | apply below_alloc | apply pw_below_drewN | apply below_drew1 | refine below_set ?_ GE263.out) | exact HB.out)) hb); clear HO_6; clear HO_8; clear HO279; clear BK263; clear HB; have HO_6 := n0_; have HO_8 := n1_; have HO279 := n2_; have HO282 := n3_; have BK263 := n4_; have HB := n5_; clear n0_ n1_ n2_ n3_ n4_ n5_; (try clear hb); (try clear hb2); (try clear hk); (try clear hi); (try clear ho0); have hcz32_0 : w31.cell? ⟨gb263, 0, none⟩ = some (.int .i64 a1_0) := (blk_cell BK263.out 0).trans rfl; have hcz32_1 : w31.cell? ⟨gb263, 1, none⟩ = some (.int .i64 a1_1) := (blk_cell BK263.out 1).trans rfl; have hcz32_2 : w31.cell? ⟨gb263, 2, none⟩ = some (.bool a1_2) := (blk_cell BK263.out 2).trans rfl; have hcz32_3 : w31.cell? ⟨gb263, 3, none⟩ = some (.bool a1_3) := (blk_cell BK263.out 3).trans rfl; have hcz32_4 : w31.cell? ⟨gb263, 4, none⟩ = some (.bool a1_4) := (blk_cell BK263.out 4).trans rfl; have hfz32_0 := blk_frozen BK263.out 0; have hfz32_1 := blk_frozen BK263.out 1; have hfz32_2 := blk_frozen BK263.out 2; have hfz32_3 := blk_frozen BK263.out 3; have hfz32_4 := blk_frozen BK263.out 4))
          go_loopg [12] kj8 (fun kq v12 w' => ∃ (x10_2 : List (S40)) (x11_2 : List (S40)) (x12_2 : Int), v12 = .int .i64 x12_2 ∧ Aside0 (paviorlaw09_AreaLays.l0 kq t264 t265 t268 t269 t270 x10_2 x11_2 x12_2 a1_0 a1_1 a1_2 a1_3 a1_4 = some r) ∧ Aside0 (kq ≤ kj8) ∧ Aside0 (Kd.R k32 32 w' w.heap.size (fun k_ => some k_ ≠ (v271 : Value).ownBlock ∧ k_ ≠ gb263) v266 t265) ∧ Aside0 (Kd.R k32 32 w' w.heap.size (fun k_ => some k_ ≠ (v266 : Value).ownBlock ∧ k_ ≠ gb263) v271 t269) ∧ Aside0 (Kd.R k40 40 w' w.heap.size (fun k_ => some k_ ≠ (v281 : Value).ownBlock) v278 x10_2) ∧ Aside0 (Kd.R k40 40 w' w.heap.size (fun k_ => some k_ ≠ (v278 : Value).ownBlock) v281 x11_2) ∧ Aside0 (w'.heap[gb263]? = some (.cells #[.int .i64 a1_0, .int .i64 a1_1, .bool a1_2, .bool a1_3, .bool a1_4] 32 (0, 0))) ∧ Aside0 (Below w.heap.size w w'))
          case atStart => exact ⟨(t277), (t280), (a1_0), (by first | rfl | (simp; done) | (simp [*]; done)), H', ⟨Nat.le_refl _⟩, ⟨by (with_reducible repeat (first | apply Kd.R_alloc | apply Kd.R_drewN | apply Kd.R_drew)); exact HO_6.out⟩, ⟨by (with_reducible repeat (first | apply Kd.R_alloc | apply Kd.R_drewN | apply Kd.R_drew)); exact HO_8.out⟩, ⟨by (with_reducible repeat (first | apply Kd.R_alloc | apply Kd.R_drewN | apply Kd.R_drew)); exact Kd.R_mono HO279.out (fun _ hk => hk.2)⟩, ⟨by (with_reducible repeat (first | apply Kd.R_alloc | apply Kd.R_drewN | apply Kd.R_drew)); exact Kd.R_mono HO282.out (fun _ hk => hk.2)⟩, ⟨by (with_reducible repeat (first | refine blk_drewN ?_ _ | refine blk_drew ?_ | refine blk_alloc ?_ _)); exact BK263.out⟩, ⟨by repeat (first | (with_reducible first | exact HB.out | apply below_alloc | apply pw_below_drewN | apply below_drew1 | refine below_set ?_ GE263.out) | exact HB.out)⟩⟩
          case round =>
            clear H'
            try clear c1
            try clear c2
            try clear p2
            try clear q2
            try clear c4
            try clear c4b0
            try clear c4b1
            try clear c12
            try clear c14
            try clear c15
            try clear c16
            try clear c17
            try clear c18
            try clear c20
            try clear c21
            try clear c22
            try clear c22b0
            try clear c22b1
            try clear c23
            try clear c23b0
            try clear c23b1
            try clear c24
            try clear c24b0
            try clear c24b1
            try clear c24b2
            try clear q27
            try clear hcz12_0
            try clear hcz12_1
            try clear hcz12_2
            try clear hcz12_3
            try clear hcz12_4
            try clear hcz14_0
            try clear hcz14_1
            try clear hcz14_2
            try clear hcz14_3
            try clear hcz14_4
            try clear hcz19_0
            try clear hcz19_1
            try clear hcz19_2
            try clear hcz19_3
            try clear hcz19_4
            try clear hcz32_0
            try clear hcz32_1
            try clear hcz32_2
            try clear hcz32_3
            try clear hcz32_4
            try clear hfz12_0
            try clear hfz12_1
            try clear hfz12_2
            try clear hfz12_3
            try clear hfz12_4
            try clear hfz14_0
            try clear hfz14_1
            try clear hfz14_2
            try clear hfz14_3
            try clear hfz14_4
            try clear hfz19_0
            try clear hfz19_1
            try clear hfz19_2
            try clear hfz19_3
            try clear hfz19_4
            try clear hfz32_0
            try clear hfz32_1
            try clear hfz32_2
            try clear hfz32_3
            try clear hfz32_4
            try clear p2
            try clear q275
            try clear q276
            obtain ⟨x10_2, x11_2, x12_2, rfl, HA, HK2, HO_6, HO_8, HO_10, HO_11, BK263, HB⟩ := hrel
            cases gk with
            | zero => exact absurd HA.out (by simp [paviorlaw09_AreaLays.l0])
            | succ k2 =>
              have H := HA.out
              clear HA
              simp only [paviorlaw09_AreaLays.l0] at H
              by_cases c33 : x12_2 < a1_1
              · rw [if_pos c33] at H
                have c33b0 : decide (x12_2 < a1_1) = true := decide_eq_true c33
                clear c33
                by_cases c34 : 0 ≤ x12_2
                · rw [if_pos c34] at H
                  have c34b0 : decide (0 ≤ x12_2) = true := decide_eq_true c34
                  clear c34
                  by_cases c35 : x12_2 < (x10_2.length : Int)
                  · rw [if_pos c35] at H
                    have c35b0 : decide (x12_2 < (x10_2.length : Int)) = true := decide_eq_true c35
                    clear c35
                    obtain ⟨y283, hy283⟩ : ∃ y_ : List (S40), y_ = (x10_2.set (x12_2 : Int).toNat (⟨true, a1_2, a1_3, a1_4⟩ : S40)) := ⟨_, rfl⟩
                    replace H : (if x12_2 < (x11_2.length : Int) then (paviorlaw09_AreaLays.l0 k2 t264 t265 t268 t269 t270 y283 (x11_2.set (x12_2 : Int).toNat (⟨false, false, false, false⟩ : S40)) (wrap64 (x12_2 + 1)) a1_0 a1_1 a1_2 a1_3 a1_4) else (none)) = some r := by first | (rw [hy283]; with_reducible exact H) | (have H2_ := (Option.bind_some _ _).symm.trans H; rw [hy283]; with_reducible exact H2_) | (have H2_ := (Option.bind_some _ _).symm.trans H; with_reducible exact H2_) | with_reducible exact H | (rw [hy283]; exact H) | exact H
                    have Ny283 := Aside0.mk hy283
                    clear hy283
                    by_cases c37 : x12_2 < (x11_2.length : Int)
                    · rw [if_pos c37] at H
                      have c37b0 : decide (x12_2 < (x11_2.length : Int)) = true := decide_eq_true c37
                      clear c37
                      obtain ⟨y284, hy284⟩ : ∃ y_ : List (S40), y_ = (x11_2.set (x12_2 : Int).toNat (⟨false, false, false, false⟩ : S40)) := ⟨_, rfl⟩
                      replace H : (paviorlaw09_AreaLays.l0 k2 t264 t265 t268 t269 t270 y283 y284 (wrap64 (x12_2 + 1)) a1_0 a1_1 a1_2 a1_3 a1_4) = some r := by first | (rw [hy284]; with_reducible exact H) | (have H2_ := (Option.bind_some _ _).symm.trans H; rw [hy284]; with_reducible exact H2_) | (have H2_ := (Option.bind_some _ _).symm.trans H; with_reducible exact H2_) | with_reducible exact H | (rw [hy284]; exact H) | exact H
                      have Ny284 := Aside0.mk hy284
                      clear hy284
                      have H' := Aside0.mk H
                      clear H
                      have hcz39_0 : wr.cell? ⟨gb263, 0, none⟩ = some (.int .i64 a1_0) := (blk_cell BK263.out 0).trans rfl
                      have hcz39_1 : wr.cell? ⟨gb263, 1, none⟩ = some (.int .i64 a1_1) := (blk_cell BK263.out 1).trans rfl
                      have hcz39_2 : wr.cell? ⟨gb263, 2, none⟩ = some (.bool a1_2) := (blk_cell BK263.out 2).trans rfl
                      have hcz39_3 : wr.cell? ⟨gb263, 3, none⟩ = some (.bool a1_3) := (blk_cell BK263.out 3).trans rfl
                      have hcz39_4 : wr.cell? ⟨gb263, 4, none⟩ = some (.bool a1_4) := (blk_cell BK263.out 4).trans rfl
                      have hfz39_0 := blk_frozen BK263.out 0
                      have hfz39_1 := blk_frozen BK263.out 1
                      have hfz39_2 := blk_frozen BK263.out 2
                      have hfz39_3 := blk_frozen BK263.out 3
                      have hfz39_4 := blk_frozen BK263.out 4
                      have p36 : 0 ≤ (x12_2 : Int) := of_decide_eq_true (by first | (with_reducible assumption) | assumption)
                      have q36 : (x12_2 : Int) < ((x10_2.length : Int) : Int) := of_decide_eq_true (by first | (with_reducible assumption) | assumption)
                      obtain ⟨go36, co36, eo36, gb36, gl36, cl36, HG36⟩ := Kd.R_form HO_10.out (by omega)
                      (first | cases eo36 | (injection eo36 with ea_ en_ ec_; (first | subst ea_ | (injection ea_ with ea_; subst ea_)); subst ec_; clear en_))
                      have GB36 := Aside0.mk gb36
                      have GG36 := Aside0.mk HG36
                      clear gb36 gl36 HG36
                      obtain ⟨ce36, hcl36, hM36, hcc36, hfr36⟩ := Kd.R_elem HO_10.out z40 (x12_2 : Int) p36 q36
                      obtain rfl := k40_openM hM36
                      have hx36_0 : wr.cell? ⟨go36, (x12_2 : Int).toNat * 4, none⟩ = some (.bool ((rd_T40 x10_2 x12_2).f0)) := hcc36 0 _ rfl
                      have hx36_1 : wr.cell? ⟨go36, (x12_2 : Int).toNat * 4 + 1, none⟩ = some (.bool ((rd_T40 x10_2 x12_2).f1)) := hcc36 1 _ rfl
                      have hx36_2 : wr.cell? ⟨go36, (x12_2 : Int).toNat * 4 + 2, none⟩ = some (.bool ((rd_T40 x10_2 x12_2).f2)) := hcc36 2 _ rfl
                      have hx36_3 : wr.cell? ⟨go36, (x12_2 : Int).toNat * 4 + 3, none⟩ = some (.bool ((rd_T40 x10_2 x12_2).f3)) := hcc36 3 _ rfl
                      have hf36_0 : wr.frozen? ⟨go36, (x12_2 : Int).toNat * 4, none⟩ = false := hfr36 0
                      have hf36_1 : wr.frozen? ⟨go36, (x12_2 : Int).toNat * 4 + 1, none⟩ = false := hfr36 1
                      have hf36_2 : wr.frozen? ⟨go36, (x12_2 : Int).toNat * 4 + 2, none⟩ = false := hfr36 2
                      have hf36_3 : wr.frozen? ⟨go36, (x12_2 : Int).toNat * 4 + 3, none⟩ = false := hfr36 3
                      clear hcl36 hcc36 hfr36 hM36
                      replace p36 := eq_true p36
                      replace q36 := eq_true q36
                      have HX40 := Aside0.mk (show Kd.R k40 40 wr w.heap.size (fun k_ => some k_ ≠ (v281 : Value).ownBlock) (.slice (some ⟨go36, 0, none⟩) x10_2.length co36) x10_2 from (by (with_reducible repeat (first | apply Kd.R_alloc | apply Kd.R_drewN | apply Kd.R_drew)); exact HO_10.out))
                      obtain ⟨ce40, hcl40, hM40, hcc40, hfr40⟩ := Kd.R_elem HX40.out z40 (x12_2 : Int) (of_decide_eq_true (by first | (with_reducible assumption) | assumption)) (by have h_ : (x12_2 : Int) < ((x10_2.length : Int) : Int) := of_decide_eq_true (by first | (with_reducible assumption) | assumption); first | exact h_ | (have e_ := (Kd.R_reads' HO_10.out).1; omega) | simpa using h_)
                      obtain rfl := k40_openM hM40
                      have HP40 := Kd.R_seg HX40.out (x12_2 : Int) (of_decide_eq_true (by first | (with_reducible assumption) | assumption)) (by have h_ : (x12_2 : Int) < ((x10_2.length : Int) : Int) := of_decide_eq_true (by first | (with_reducible assumption) | assumption); first | exact h_ | (have e_ := (Kd.R_reads' HO_10.out).1; omega) | simpa using h_) (seg := [.bool true, .bool a1_2, .bool a1_3, .bool a1_4]) (j := 0) hcl40 hcc40 (show 4 ≤ 4 from by decide) (x' := (⟨true, a1_2, a1_3, a1_4⟩ : S40)) (k40_mkM _ _ _ (⟨true, a1_2, a1_3, a1_4⟩ : S40) ) (fun _ hk => hk)
                      have hx40_0 := hcc40 0 _ rfl
                      (try simp only [show (k40).sz = 4 from rfl, Nat.mul_one, Nat.add_zero] at hx40_0)
                      have hf40_0 := hfr40 0
                      (try simp only [show (k40).sz = 4 from rfl, Nat.mul_one, Nat.add_zero] at hf40_0)
                      have hx40_1 := hcc40 1 _ rfl
                      (try simp only [show (k40).sz = 4 from rfl, Nat.mul_one, Nat.add_zero] at hx40_1)
                      have hf40_1 := hfr40 1
                      (try simp only [show (k40).sz = 4 from rfl, Nat.mul_one, Nat.add_zero] at hf40_1)
                      have hx40_2 := hcc40 2 _ rfl
                      (try simp only [show (k40).sz = 4 from rfl, Nat.mul_one, Nat.add_zero] at hx40_2)
                      have hf40_2 := hfr40 2
                      (try simp only [show (k40).sz = 4 from rfl, Nat.mul_one, Nat.add_zero] at hf40_2)
                      have hx40_3 := hcc40 3 _ rfl
                      (try simp only [show (k40).sz = 4 from rfl, Nat.mul_one, Nat.add_zero] at hx40_3)
                      have hf40_3 := hfr40 3
                      (try simp only [show (k40).sz = 4 from rfl, Nat.mul_one, Nat.add_zero] at hf40_3)
                      clear hcl40 hcc40 hfr40 hM40
                      go_wp2_with (first | ((with_reducible refine gate_store (t := 40) (p := 88) rfl ?_); refine store_event (t := 40) (p := 88) (v := ?vo_w41) (w1 := ((((wr.setCell ⟨go36, (x12_2 : Int).toNat * 4, none⟩ (.bool true)).setCell ⟨go36, (x12_2 : Int).toNat * 4 + 1, none⟩ (.bool a1_2)).setCell ⟨go36, (x12_2 : Int).toNat * 4 + 2, none⟩ (.bool a1_3)).setCell ⟨go36, (x12_2 : Int).toNat * 4 + 3, none⟩ (.bool a1_4))) ?hg ?ho ?hn ?hr ?_; (case ho => rfl); (case hg => rfl); (case hn => rfl); (case hr => first | (go_simp; done) | (go_simp; rfl)); intro w41 hw; have hg : wr.grownBy w41 (some go36) := (by rw [hw]; exact HP40.2); have hp_ : Kd.R k40 40 w41 w.heap.size (fun k_ => some k_ ≠ (v281 : Value).ownBlock) (.slice (some ⟨go36, 0, none⟩) x10_2.length co36) y283 := (by rw [hw, Ny283.out]; exact HP40.1); clear HP40; have n0_ := Aside0.mk (Kd.R_over' (v := (.slice (some ⟨go36, 0, none⟩) x10_2.length co36)) (by (with_reducible repeat (first | apply Kd.R_alloc | apply Kd.R_drewN | apply Kd.R_drew)); exact HO_6.out) (Kd.R_typed HO_10.out) (by decide) hg); have n1_ := Aside0.mk (Kd.R_over' (v := (.slice (some ⟨go36, 0, none⟩) x10_2.length co36)) (by (with_reducible repeat (first | apply Kd.R_alloc | apply Kd.R_drewN | apply Kd.R_drew)); exact HO_8.out) (Kd.R_typed HO_10.out) (by decide) hg); have n2_ := Aside0.mk (hp_); have n3_ := Aside0.mk (Kd.R_after (v := (.slice (some ⟨go36, 0, none⟩) x10_2.length co36)) (v1 := (.slice (some ⟨go36, 0, none⟩) x10_2.length co36)) (ok := (fun _ => True)) (by (with_reducible repeat (first | apply Kd.R_alloc | apply Kd.R_drewN | apply Kd.R_drew)); exact Kd.R_mono HO_11.out (fun _ hk => ⟨trivial, hk⟩)) hg (.inl rfl)); have n4_ := Aside0.mk (blk_grown (g := gb263) (o := .cells #[.int .i64 a1_0, .int .i64 a1_1, .bool a1_2, .bool a1_3, .bool a1_4] 32 (0, 0)) (by (with_reducible repeat (first | refine blk_drewN ?_ _ | refine blk_drew ?_ | refine blk_alloc ?_ _)); exact BK263.out) hg (Kd.R_ne HO_10.out BK263.out (by decide))); have n5_ := Aside0.mk ((by rw [hw]; exact below_set (below_set (below_set (below_set (HB.out) GB36.out) GB36.out) GB36.out) GB36.out : Below w.heap.size w w41)); clear HO_6; clear HO_8; clear HO_10; clear HO_11; clear BK263; clear HB; have HO_6 := n0_; have HO_8 := n1_; have HO_10 := n2_; have HO_11 := n3_; have BK263 := n4_; have HB := n5_; clear n0_ n1_ n2_ n3_ n4_ n5_; clear hg hw hp_; have p38 : 0 ≤ (x12_2 : Int) := of_decide_eq_true (by first | (with_reducible assumption) | assumption); have q38 : (x12_2 : Int) < ((x11_2.length : Int) : Int) := of_decide_eq_true (by first | (with_reducible assumption) | assumption); obtain ⟨go38, co38, eo38, gb38, gl38, cl38, HG38⟩ := Kd.R_form HO_11.out (by omega); (first | cases eo38 | (injection eo38 with ea_ en_ ec_; (first | subst ea_ | (injection ea_ with ea_; subst ea_)); subst ec_; clear en_)); have GB38 := Aside0.mk gb38; have GG38 := Aside0.mk HG38; clear gb38 gl38 HG38; obtain ⟨ce38, hcl38, hM38, hcc38, hfr38⟩ := Kd.R_elem HO_11.out z40 (x12_2 : Int) p38 q38; obtain rfl := k40_openM hM38; have hx38_0 : w41.cell? ⟨go38, (x12_2 : Int).toNat * 4, none⟩ = some (.bool ((rd_T40 x11_2 x12_2).f0)) := hcc38 0 _ rfl; have hx38_1 : w41.cell? ⟨go38, (x12_2 : Int).toNat * 4 + 1, none⟩ = some (.bool ((rd_T40 x11_2 x12_2).f1)) := hcc38 1 _ rfl; have hx38_2 : w41.cell? ⟨go38, (x12_2 : Int).toNat * 4 + 2, none⟩ = some (.bool ((rd_T40 x11_2 x12_2).f2)) := hcc38 2 _ rfl; have hx38_3 : w41.cell? ⟨go38, (x12_2 : Int).toNat * 4 + 3, none⟩ = some (.bool ((rd_T40 x11_2 x12_2).f3)) := hcc38 3 _ rfl; have hf38_0 : w41.frozen? ⟨go38, (x12_2 : Int).toNat * 4, none⟩ = false := hfr38 0; have hf38_1 : w41.frozen? ⟨go38, (x12_2 : Int).toNat * 4 + 1, none⟩ = false := hfr38 1; have hf38_2 : w41.frozen? ⟨go38, (x12_2 : Int).toNat * 4 + 2, none⟩ = false := hfr38 2; have hf38_3 : w41.frozen? ⟨go38, (x12_2 : Int).toNat * 4 + 3, none⟩ = false := hfr38 3; clear hcl38 hcc38 hfr38 hM38; replace p38 := eq_true p38; replace q38 := eq_true q38; have n_ := Aside0.mk (Kd.R_mono (ok' := (fun k_ => some k_ ≠ (.slice (some ⟨go36, 0, none⟩) x10_2.length co36 : Value).ownBlock)) HO_11.out (fun k_ hk => hk.2)); clear HO_11; have HO_11 := n_; clear n_; have HX42 := Aside0.mk (show Kd.R k40 40 w41 w.heap.size (fun k_ => some k_ ≠ (.slice (some ⟨go36, 0, none⟩) x10_2.length co36 : Value).ownBlock) (.slice (some ⟨go38, 0, none⟩) x11_2.length co38) x11_2 from (by (with_reducible repeat (first | apply Kd.R_alloc | apply Kd.R_drewN | apply Kd.R_drew)); exact HO_11.out)); obtain ⟨ce42, hcl42, hM42, hcc42, hfr42⟩ := Kd.R_elem HX42.out z40 (x12_2 : Int) (of_decide_eq_true (by first | (with_reducible assumption) | assumption)) (by have h_ : (x12_2 : Int) < ((x11_2.length : Int) : Int) := of_decide_eq_true (by first | (with_reducible assumption) | assumption); first | exact h_ | (have e_ := (Kd.R_reads' HO_11.out).1; omega) | simpa using h_); obtain rfl := k40_openM hM42; have HP42 := Kd.R_seg HX42.out (x12_2 : Int) (of_decide_eq_true (by first | (with_reducible assumption) | assumption)) (by have h_ : (x12_2 : Int) < ((x11_2.length : Int) : Int) := of_decide_eq_true (by first | (with_reducible assumption) | assumption); first | exact h_ | (have e_ := (Kd.R_reads' HO_11.out).1; omega) | simpa using h_) (seg := [.bool false, .bool false, .bool false, .bool false]) (j := 0) hcl42 hcc42 (show 4 ≤ 4 from by decide) (x' := (⟨false, false, false, false⟩ : S40)) (k40_mkM _ _ _ (⟨false, false, false, false⟩ : S40) ) (fun _ hk => hk); have hx42_0 := hcc42 0 _ rfl; (try simp only [show (k40).sz = 4 from rfl, Nat.mul_one, Nat.add_zero] at hx42_0); have hf42_0 := hfr42 0; (try simp only [show (k40).sz = 4 from rfl, Nat.mul_one, Nat.add_zero] at hf42_0); have hx42_1 := hcc42 1 _ rfl; (try simp only [show (k40).sz = 4 from rfl, Nat.mul_one, Nat.add_zero] at hx42_1); have hf42_1 := hfr42 1; (try simp only [show (k40).sz = 4 from rfl, Nat.mul_one, Nat.add_zero] at hf42_1); have hx42_2 := hcc42 2 _ rfl; (try simp only [show (k40).sz = 4 from rfl, Nat.mul_one, Nat.add_zero] at hx42_2); have hf42_2 := hfr42 2; (try simp only [show (k40).sz = 4 from rfl, Nat.mul_one, Nat.add_zero] at hf42_2); have hx42_3 := hcc42 3 _ rfl; (try simp only [show (k40).sz = 4 from rfl, Nat.mul_one, Nat.add_zero] at hx42_3); have hf42_3 := hfr42 3; (try simp only [show (k40).sz = 4 from rfl, Nat.mul_one, Nat.add_zero] at hf42_3); clear hcl42 hcc42 hfr42 hM42) | ((with_reducible refine gate_store (t := 40) (p := 92) rfl ?_); refine store_event (t := 40) (p := 92) (v := ?vo_w43) (w1 := ((((w41.setCell ⟨go38, (x12_2 : Int).toNat * 4, none⟩ (.bool false)).setCell ⟨go38, (x12_2 : Int).toNat * 4 + 1, none⟩ (.bool false)).setCell ⟨go38, (x12_2 : Int).toNat * 4 + 2, none⟩ (.bool false)).setCell ⟨go38, (x12_2 : Int).toNat * 4 + 3, none⟩ (.bool false))) ?hg ?ho ?hn ?hr ?_; (case ho => rfl); (case hg => rfl); (case hn => rfl); (case hr => first | (go_simp; done) | (go_simp; rfl)); intro w43 hw; have hg : w41.grownBy w43 (some go38) := (by rw [hw]; exact HP42.2); have hp_ : Kd.R k40 40 w43 w.heap.size (fun k_ => some k_ ≠ (.slice (some ⟨go36, 0, none⟩) x10_2.length co36 : Value).ownBlock) (.slice (some ⟨go38, 0, none⟩) x11_2.length co38) y284 := (by rw [hw, Ny284.out]; exact HP42.1); clear HP42; have n0_ := Aside0.mk (Kd.R_over' (v := (.slice (some ⟨go38, 0, none⟩) x11_2.length co38)) (by (with_reducible repeat (first | apply Kd.R_alloc | apply Kd.R_drewN | apply Kd.R_drew)); exact HO_6.out) (Kd.R_typed HO_11.out) (by decide) hg); have n1_ := Aside0.mk (Kd.R_over' (v := (.slice (some ⟨go38, 0, none⟩) x11_2.length co38)) (by (with_reducible repeat (first | apply Kd.R_alloc | apply Kd.R_drewN | apply Kd.R_drew)); exact HO_8.out) (Kd.R_typed HO_11.out) (by decide) hg); have n2_ := Aside0.mk (Kd.R_after (v := (.slice (some ⟨go38, 0, none⟩) x11_2.length co38)) (v1 := (.slice (some ⟨go38, 0, none⟩) x11_2.length co38)) (ok := (fun _ => True)) (by (with_reducible repeat (first | apply Kd.R_alloc | apply Kd.R_drewN | apply Kd.R_drew)); exact Kd.R_mono HO_10.out (fun _ hk => ⟨trivial, hk⟩)) hg (.inl rfl)); have n3_ := Aside0.mk (hp_); have n4_ := Aside0.mk (blk_grown (g := gb263) (o := .cells #[.int .i64 a1_0, .int .i64 a1_1, .bool a1_2, .bool a1_3, .bool a1_4] 32 (0, 0)) (by (with_reducible repeat (first | refine blk_drewN ?_ _ | refine blk_drew ?_ | refine blk_alloc ?_ _)); exact BK263.out) hg (Kd.R_ne HO_11.out BK263.out (by decide))); have n5_ := Aside0.mk ((by rw [hw]; exact below_set (below_set (below_set (below_set (HB.out) GB38.out) GB38.out) GB38.out) GB38.out : Below w.heap.size w w43)); clear HO_6; clear HO_8; clear HO_10; clear HO_11; clear BK263; clear HB; have HO_6 := n0_; have HO_8 := n1_; have HO_10 := n2_; have HO_11 := n3_; have BK263 := n4_; have HB := n5_; clear n0_ n1_ n2_ n3_ n4_ n5_; clear hg hw hp_))
                      go_roundg k2
                      case measure => have := HJ8.out; have := HK2.out; omega
                      case rel => exact ⟨(y283), (y284), (wrap64 (x12_2 + 1)), (by first | rfl | (simp; done) | (simp [*]; done)), H', ⟨by have := HJ8.out; have := HK2.out; omega⟩, ⟨by (with_reducible repeat (first | apply Kd.R_alloc | apply Kd.R_drewN | apply Kd.R_drew)); exact HO_6.out⟩, ⟨by (with_reducible repeat (first | apply Kd.R_alloc | apply Kd.R_drewN | apply Kd.R_drew)); exact HO_8.out⟩, ⟨by (with_reducible repeat (first | apply Kd.R_alloc | apply Kd.R_drewN | apply Kd.R_drew)); exact Kd.R_mono HO_10.out (fun _ hk => hk.2)⟩, ⟨by (with_reducible repeat (first | apply Kd.R_alloc | apply Kd.R_drewN | apply Kd.R_drew)); exact HO_11.out⟩, ⟨by (with_reducible repeat (first | refine blk_drewN ?_ _ | refine blk_drew ?_ | refine blk_alloc ?_ _)); exact BK263.out⟩, ⟨by repeat (first | (with_reducible first | exact HB.out | apply below_alloc | apply pw_below_drewN | apply below_drew1 | refine below_set ?_ GE263.out) | exact HB.out)⟩⟩
                    · rw [if_neg c37] at H
                      exact absurd H (by simp)
                  · rw [if_neg c35] at H
                    exact absurd H (by simp)
                · rw [if_neg c34] at H
                  exact absurd H (by simp)
              · rw [if_neg c33] at H
                have c33b0 : decide (x12_2 < a1_1) = false := decide_eq_false c33
                clear c33
                by_cases c44 : t264 = true
                · subst c44
                  have H1 : ((paviorlaw09_right.f k2 t265 t268 x10_2).bind fun t285 => (if t285 = true then ((paviorlaw09_right.f k2 t269 t270 x11_2).bind fun t286 => (some t286)) else (some false))) = some r := by rw [if_pos rfl] at H; exact H
                  clear H
                  have H := H1
                  clear H1
                  replace H := Option.bind_eq_some_iff.mp H
                  obtain ⟨t285, A450, H⟩ := H
                  replace H : (if t285 = true then ((paviorlaw09_right.f k2 t269 t270 x11_2).bind fun t286 => (some t286)) else (some false)) = some r := H
                  have A45 := Aside0.mk A450
                  clear A450
                  by_cases c46 : t285 = true
                  · subst c46
                    have H1 : ((paviorlaw09_right.f k2 t269 t270 x11_2).bind fun t286 => (some t286)) = some r := by rw [if_pos rfl] at H; exact H
                    clear H
                    have H := H1
                    clear H1
                    replace H := Option.bind_eq_some_iff.mp H
                    obtain ⟨t286, A470, H⟩ := H
                    replace H : (some t286) = some r := H
                    have A47 := Aside0.mk A470
                    clear A470
                    obtain rfl := Option.some.inj H
                    have hcz48_0 : wr.cell? ⟨gb263, 0, none⟩ = some (.int .i64 a1_0) := (blk_cell BK263.out 0).trans rfl
                    have hcz48_1 : wr.cell? ⟨gb263, 1, none⟩ = some (.int .i64 a1_1) := (blk_cell BK263.out 1).trans rfl
                    have hcz48_2 : wr.cell? ⟨gb263, 2, none⟩ = some (.bool a1_2) := (blk_cell BK263.out 2).trans rfl
                    have hcz48_3 : wr.cell? ⟨gb263, 3, none⟩ = some (.bool a1_3) := (blk_cell BK263.out 3).trans rfl
                    have hcz48_4 : wr.cell? ⟨gb263, 4, none⟩ = some (.bool a1_4) := (blk_cell BK263.out 4).trans rfl
                    have hfz48_0 := blk_frozen BK263.out 0
                    have hfz48_1 := blk_frozen BK263.out 1
                    have hfz48_2 := blk_frozen BK263.out 2
                    have hfz48_3 := blk_frozen BK263.out 3
                    have hfz48_4 := blk_frozen BK263.out 4
                    obtain ⟨Ao49, co49, eo49⟩ := Kd.R_slice HO_6.out
                    subst eo49
                    obtain ⟨Ao50, co50, eo50⟩ := Kd.R_slice HO_10.out
                    subst eo50
                    go_wp2_with (first | (go_at_call 19; (with_reducible refine (paviorlaw09_right.calls k2 _ _ t265 t268 _ _ x10_2 true _ ?side1 ?side2 ?side3 ?side4 A45.out).mono ?_); (case side1 => repeat (first | exact (Kd.R_reads' HO_6.out).2.2 | (with_reducible refine Kd.C_alloc ?_ _) | (with_reducible refine Kd.C_drewN ?_ _) | (with_reducible refine Kd.C_drew ?_))); (case side2 => exact (Kd.R_reads' HO_6.out).2.1); (case side3 => repeat (first | exact (Kd.R_reads' HO_10.out).2.2 | (with_reducible refine Kd.C_alloc ?_ _) | (with_reducible refine Kd.C_drewN ?_ _) | (with_reducible refine Kd.C_drew ?_))); (case side4 => exact (Kd.R_reads' HO_10.out).2.1); rintro e w51 ⟨rfl, hb⟩; have n0_ := Aside0.mk (Kd.R_below (by (with_reducible repeat (first | apply Kd.R_alloc | apply Kd.R_drewN | apply Kd.R_drew)); exact HO_6.out) hb); have n1_ := Aside0.mk (Kd.R_below (by (with_reducible repeat (first | apply Kd.R_alloc | apply Kd.R_drewN | apply Kd.R_drew)); exact HO_8.out) hb); have n2_ := Aside0.mk (Kd.R_below (by (with_reducible repeat (first | apply Kd.R_alloc | apply Kd.R_drewN | apply Kd.R_drew)); exact HO_10.out) hb); have n3_ := Aside0.mk (Kd.R_below (by (with_reducible repeat (first | apply Kd.R_alloc | apply Kd.R_drewN | apply Kd.R_drew)); exact HO_11.out) hb); have n4_ := Aside0.mk (blk_below (g := gb263) (o := .cells #[.int .i64 a1_0, .int .i64 a1_1, .bool a1_2, .bool a1_3, .bool a1_4] 32 (0, 0)) (by (with_reducible repeat (first | refine blk_drewN ?_ _ | refine blk_drew ?_ | refine blk_alloc ?_ _)); exact BK263.out) hb); have n5_ := Aside0.mk (below_step (by repeat (first | (with_reducible first | exact HB.out | apply below_alloc | apply pw_below_drewN | apply below_drew1 | refine below_set ?_ GE263.out) | exact HB.out)) hb); clear HO_6; clear HO_8; clear HO_10; clear HO_11; clear BK263; clear HB; have HO_6 := n0_; have HO_8 := n1_; have HO_10 := n2_; have HO_11 := n3_; have BK263 := n4_; have HB := n5_; clear n0_ n1_ n2_ n3_ n4_ n5_; (try clear hb); (try clear hb2); (try clear hk); (try clear hi); obtain ⟨Ao52, co52, eo52⟩ := Kd.R_slice HO_8.out; subst eo52; obtain ⟨Ao53, co53, eo53⟩ := Kd.R_slice HO_11.out; subst eo53) | (go_at_call 19; (with_reducible refine (paviorlaw09_right.calls k2 _ _ t269 t270 _ _ x11_2 t286 _ ?side1 ?side2 ?side3 ?side4 A47.out).mono ?_); (case side1 => repeat (first | exact (Kd.R_reads' HO_8.out).2.2 | (with_reducible refine Kd.C_alloc ?_ _) | (with_reducible refine Kd.C_drewN ?_ _) | (with_reducible refine Kd.C_drew ?_))); (case side2 => exact (Kd.R_reads' HO_8.out).2.1); (case side3 => repeat (first | exact (Kd.R_reads' HO_11.out).2.2 | (with_reducible refine Kd.C_alloc ?_ _) | (with_reducible refine Kd.C_drewN ?_ _) | (with_reducible refine Kd.C_drew ?_))); (case side4 => exact (Kd.R_reads' HO_11.out).2.1); rintro e w54 ⟨rfl, hb⟩; have n0_ := Aside0.mk (Kd.R_below (by (with_reducible repeat (first | apply Kd.R_alloc | apply Kd.R_drewN | apply Kd.R_drew)); exact HO_6.out) hb); have n1_ := Aside0.mk (Kd.R_below (by (with_reducible repeat (first | apply Kd.R_alloc | apply Kd.R_drewN | apply Kd.R_drew)); exact HO_8.out) hb); have n2_ := Aside0.mk (Kd.R_below (by (with_reducible repeat (first | apply Kd.R_alloc | apply Kd.R_drewN | apply Kd.R_drew)); exact HO_10.out) hb); have n3_ := Aside0.mk (Kd.R_below (by (with_reducible repeat (first | apply Kd.R_alloc | apply Kd.R_drewN | apply Kd.R_drew)); exact HO_11.out) hb); have n4_ := Aside0.mk (blk_below (g := gb263) (o := .cells #[.int .i64 a1_0, .int .i64 a1_1, .bool a1_2, .bool a1_3, .bool a1_4] 32 (0, 0)) (by (with_reducible repeat (first | refine blk_drewN ?_ _ | refine blk_drew ?_ | refine blk_alloc ?_ _)); exact BK263.out) hb); have n5_ := Aside0.mk (below_step (by repeat (first | (with_reducible first | exact HB.out | apply below_alloc | apply pw_below_drewN | apply below_drew1 | refine below_set ?_ GE263.out) | exact HB.out)) hb); clear HO_6; clear HO_8; clear HO_10; clear HO_11; clear BK263; clear HB; have HO_6 := n0_; have HO_8 := n1_; have HO_10 := n2_; have HO_11 := n3_; have BK263 := n4_; have HB := n5_; clear n0_ n1_ n2_ n3_ n4_ n5_; (try clear hb); (try clear hb2); (try clear hk); (try clear hi)))
                    go_ret
                    exact ⟨by first | rfl | (simp [errW_none, errW_some] <;> rfl) | (simp [*, errW_none, errW_some] <;> rfl), by repeat (first | (with_reducible first | exact HB.out | apply below_alloc | apply pw_below_drewN | apply below_drew1 | refine below_set ?_ GE263.out) | exact HB.out)⟩
                  · replace c46 := Bool.eq_false_iff.mpr c46
                    subst c46
                    have H1 : (some false) = some r := by rw [if_neg (show ¬ (false = true) by decide)] at H; exact H
                    clear H
                    have H := H1
                    clear H1
                    obtain rfl := Option.some.inj H
                    have hcz55_0 : wr.cell? ⟨gb263, 0, none⟩ = some (.int .i64 a1_0) := (blk_cell BK263.out 0).trans rfl
                    have hcz55_1 : wr.cell? ⟨gb263, 1, none⟩ = some (.int .i64 a1_1) := (blk_cell BK263.out 1).trans rfl
                    have hcz55_2 : wr.cell? ⟨gb263, 2, none⟩ = some (.bool a1_2) := (blk_cell BK263.out 2).trans rfl
                    have hcz55_3 : wr.cell? ⟨gb263, 3, none⟩ = some (.bool a1_3) := (blk_cell BK263.out 3).trans rfl
                    have hcz55_4 : wr.cell? ⟨gb263, 4, none⟩ = some (.bool a1_4) := (blk_cell BK263.out 4).trans rfl
                    have hfz55_0 := blk_frozen BK263.out 0
                    have hfz55_1 := blk_frozen BK263.out 1
                    have hfz55_2 := blk_frozen BK263.out 2
                    have hfz55_3 := blk_frozen BK263.out 3
                    have hfz55_4 := blk_frozen BK263.out 4
                    obtain ⟨Ao56, co56, eo56⟩ := Kd.R_slice HO_6.out
                    subst eo56
                    obtain ⟨Ao57, co57, eo57⟩ := Kd.R_slice HO_10.out
                    subst eo57
                    go_wp2_with (first | (go_at_call 19; (with_reducible refine (paviorlaw09_right.calls k2 _ _ t265 t268 _ _ x10_2 false _ ?side1 ?side2 ?side3 ?side4 A45.out).mono ?_); (case side1 => repeat (first | exact (Kd.R_reads' HO_6.out).2.2 | (with_reducible refine Kd.C_alloc ?_ _) | (with_reducible refine Kd.C_drewN ?_ _) | (with_reducible refine Kd.C_drew ?_))); (case side2 => exact (Kd.R_reads' HO_6.out).2.1); (case side3 => repeat (first | exact (Kd.R_reads' HO_10.out).2.2 | (with_reducible refine Kd.C_alloc ?_ _) | (with_reducible refine Kd.C_drewN ?_ _) | (with_reducible refine Kd.C_drew ?_))); (case side4 => exact (Kd.R_reads' HO_10.out).2.1); rintro e w58 ⟨rfl, hb⟩; have n0_ := Aside0.mk (Kd.R_below (by (with_reducible repeat (first | apply Kd.R_alloc | apply Kd.R_drewN | apply Kd.R_drew)); exact HO_6.out) hb); have n1_ := Aside0.mk (Kd.R_below (by (with_reducible repeat (first | apply Kd.R_alloc | apply Kd.R_drewN | apply Kd.R_drew)); exact HO_8.out) hb); have n2_ := Aside0.mk (Kd.R_below (by (with_reducible repeat (first | apply Kd.R_alloc | apply Kd.R_drewN | apply Kd.R_drew)); exact HO_10.out) hb); have n3_ := Aside0.mk (Kd.R_below (by (with_reducible repeat (first | apply Kd.R_alloc | apply Kd.R_drewN | apply Kd.R_drew)); exact HO_11.out) hb); have n4_ := Aside0.mk (blk_below (g := gb263) (o := .cells #[.int .i64 a1_0, .int .i64 a1_1, .bool a1_2, .bool a1_3, .bool a1_4] 32 (0, 0)) (by (with_reducible repeat (first | refine blk_drewN ?_ _ | refine blk_drew ?_ | refine blk_alloc ?_ _)); exact BK263.out) hb); have n5_ := Aside0.mk (below_step (by repeat (first | (with_reducible first | exact HB.out | apply below_alloc | apply pw_below_drewN | apply below_drew1 | refine below_set ?_ GE263.out) | exact HB.out)) hb); clear HO_6; clear HO_8; clear HO_10; clear HO_11; clear BK263; clear HB; have HO_6 := n0_; have HO_8 := n1_; have HO_10 := n2_; have HO_11 := n3_; have BK263 := n4_; have HB := n5_; clear n0_ n1_ n2_ n3_ n4_ n5_; (try clear hb); (try clear hb2); (try clear hk); (try clear hi)))
                    go_ret
                    exact ⟨by first | rfl | (simp [errW_none, errW_some] <;> rfl) | (simp [*, errW_none, errW_some] <;> rfl), by repeat (first | (with_reducible first | exact HB.out | apply below_alloc | apply pw_below_drewN | apply below_drew1 | refine below_set ?_ GE263.out) | exact HB.out)⟩
                · replace c44 := Bool.eq_false_iff.mpr c44
                  subst c44
                  have H1 : (some false) = some r := by rw [if_neg (show ¬ (false = true) by decide)] at H; exact H
                  clear H
                  have H := H1
                  clear H1
                  obtain rfl := Option.some.inj H
                  have hcz59_0 : wr.cell? ⟨gb263, 0, none⟩ = some (.int .i64 a1_0) := (blk_cell BK263.out 0).trans rfl
                  have hcz59_1 : wr.cell? ⟨gb263, 1, none⟩ = some (.int .i64 a1_1) := (blk_cell BK263.out 1).trans rfl
                  have hcz59_2 : wr.cell? ⟨gb263, 2, none⟩ = some (.bool a1_2) := (blk_cell BK263.out 2).trans rfl
                  have hcz59_3 : wr.cell? ⟨gb263, 3, none⟩ = some (.bool a1_3) := (blk_cell BK263.out 3).trans rfl
                  have hcz59_4 : wr.cell? ⟨gb263, 4, none⟩ = some (.bool a1_4) := (blk_cell BK263.out 4).trans rfl
                  have hfz59_0 := blk_frozen BK263.out 0
                  have hfz59_1 := blk_frozen BK263.out 1
                  have hfz59_2 := blk_frozen BK263.out 2
                  have hfz59_3 := blk_frozen BK263.out 3
                  have hfz59_4 := blk_frozen BK263.out 4
                  go_wp2
                  go_ret
                  exact ⟨by first | rfl | (simp [errW_none, errW_some] <;> rfl) | (simp [*, errW_none, errW_some] <;> rfl), by repeat (first | (with_reducible first | exact HB.out | apply below_alloc | apply pw_below_drewN | apply below_drew1 | refine below_set ?_ GE263.out) | exact HB.out)⟩

/-- THE ONE PURE STATEMENT of paviorlaw09_AreaLays. -/
def paviorlaw09_AreaLays.Pure : Prop := ∀ (l0 : List (S32)) (a1_0 : Int) (a1_1 : Int) (a1_2 : Bool) (a1_3 : Bool) (a1_4 : Bool), l0.length ≤ maxLen → (∀ x ∈ l0, ((Lit.int .i64 x.f0).wf = true ∧ (Lit.int .i64 x.f1).wf = true ∧ (True ∧ True) ∧ True)) → (((Lit.int .i64 a1_0).wf = true ∧ (Lit.int .i64 a1_1).wf = true ∧ (True ∧ True) ∧ True)) → ∃ k, paviorlaw09_AreaLays.f k l0 a1_0 a1_1 a1_2 a1_3 a1_4 = some true

end Go.Proofs.Ytlmjjkggoemabab.Q
