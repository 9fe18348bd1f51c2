-- Written by this session's program wip/tools/xprint.py (the kit's printer, turned by it); not the kit's own print.
import Derived.Test.YtobbcfpkmmafnabQx0
import Derived.Test.YtobbcfpkmmafnabQx1
import Derived.Test.YtobbcfpkmmafnabQx2
import Derived.Test.YtobbcfpkmmafnabQx3
namespace Go.Proofs.Ytobbcfpkmmafnab.Q
open Go.RowKit Go.Proofs.YtobbcfpkmmafnabW.PrintWords Go.Proofs.YtobbcfpkmmafnabW.PrintLast Go.Proofs.YtobbcfpkmmafnabW.PrintMore
attribute [local go_sem] max2_int min2_int max_two min_two max_three min_three max_four min_four   -- for this text's walks alone
set_option linter.unusedVariables false
set_option linter.unusedSimpArgs false

attribute [local go_sem high] eqA25
attribute [local go_sem high] eqErr_some neErr_some eqErr_left neErr_left
/-! ### paviorlaw02_PteUnlike: function 6 -/
def paviorlaw02_PteUnlike.j0 : Nat → Bool → Int → Int → Bool → Int → Int → Bool → Bool → Bool → Bool → Int → Int → Int → Bool → Bool → Bool → Bool → Int → Option (Bool)
  | 0, _, _, _, _, _, _, _, _, _, _, _, _, _, _, _, _, _, _ => none
  | k + 1, x7, x8, x10, x30, x272000, x272001, x272002, x272003, x272004, x272005, x272006, x273000, x273001, x273002, x273003, x273004, x273005, x273006 => if x30 = true then (some x7) else (if x7 = true then (some ((x8 == x10) == (x272000 == x273000 && (x272001 == x273001 && (x272002 == x273002 && (x272003 == x273003 && (x272004 == x273004 && (x272005 == x273005 && (x272006 == x273006))))))))) else (some false))
def paviorlaw02_PteUnlike.f (k : Nat) (a0 : Int) (a1_0 : Int) (a1_1 : Int) (a1_2 : Bool) (a1_3 : Bool) (a1_4 : Bool) (a1_5 : Bool) (a1_6 : Int) (a2_0 : Int) (a2_1 : Int) (a2_2 : Bool) (a2_3 : Bool) (a2_4 : Bool) (a2_5 : Bool) (a2_6 : Int) : Option (Bool) := (paviorlaw02_up.f k).bind fun t273 => ((pte_Encode.f k a0 a1_0 a1_1 a1_2 a1_3 a1_4 a1_5 a1_6).bind fun bt274 => ((pte_Encode.f k a0 a2_0 a2_1 a2_2 a2_3 a2_4 a2_5 a2_6).bind fun bt276 => (if bt274.2.isNone = true then (if bt276.2.isNone = true then (paviorlaw02_PteUnlike.j0 k t273 bt274.1 bt276.1 false a1_0 a1_1 a1_2 a1_3 a1_4 a1_5 a1_6 a2_0 a2_1 a2_2 a2_3 a2_4 a2_5 a2_6) else (paviorlaw02_PteUnlike.j0 k t273 bt274.1 bt276.1 true a1_0 a1_1 a1_2 a1_3 a1_4 a1_5 a1_6 a2_0 a2_1 a2_2 a2_3 a2_4 a2_5 a2_6)) else (paviorlaw02_PteUnlike.j0 k t273 bt274.1 bt276.1 true a1_0 a1_1 a1_2 a1_3 a1_4 a1_5 a1_6 a2_0 a2_1 a2_2 a2_3 a2_4 a2_5 a2_6))))
theorem paviorlaw02_PteUnlike.mono_l : ∀ k, (∀ y0 y1 y2 y3 y4 y5 y6 y7 y8 y9 y10 y11 y12 y13 y14 y15 y16 y17, LeO (paviorlaw02_PteUnlike.j0 k y0 y1 y2 y3 y4 y5 y6 y7 y8 y9 y10 y11 y12 y13 y14 y15 y16 y17) (paviorlaw02_PteUnlike.j0 (k + 1) y0 y1 y2 y3 y4 y5 y6 y7 y8 y9 y10 y11 y12 y13 y14 y15 y16 y17))
  | 0 => fun _ _ _ _ _ _ _ _ _ _ _ _ _ _ _ _ _ _ r h => by simp [paviorlaw02_PteUnlike.j0] at h
  | k + 1 => by
    have ih0 := paviorlaw02_PteUnlike.mono_l k
    · intro y0 y1 y2 y3 y4 y5 y6 y7 y8 y9 y10 y11 y12 y13 y14 y15 y16 y17
      unfold paviorlaw02_PteUnlike.j0
      repeat' first
      | (with_reducible exact ih0 _ _ _ _ _ _ _ _ _ _ _ _ _ _ _ _ _ _)
      | (with_reducible exact paviorlaw02_up.mono _)
      | (with_reducible exact pte_Encode.mono _ _ _ _ _ _ _ _ _)
      | (with_reducible exact LeO.refl _)
      | (with_reducible exact LeO.none _)
      | (with_reducible refine LeO.ite ?_ ?_)
      | (with_reducible refine LeO.bind ?_ (fun _ => ?_))
      | exact ih0 _ _ _ _ _ _ _ _ _ _ _ _ _ _ _ _ _ _
      | exact paviorlaw02_up.mono _
      | exact pte_Encode.mono _ _ _ _ _ _ _ _ _
      | exact LeO.none _
      | refine LeO.ite ?_ ?_
      | refine LeO.bind ?_ (fun _ => ?_)
theorem paviorlaw02_PteUnlike.mono : ∀ a0 a1 a2 a3 a4 a5 a6 a7 a8 a9 a10 a11 a12 a13 a14 k, LeO (paviorlaw02_PteUnlike.f k a0 a1 a2 a3 a4 a5 a6 a7 a8 a9 a10 a11 a12 a13 a14) (paviorlaw02_PteUnlike.f (k + 1) a0 a1 a2 a3 a4 a5 a6 a7 a8 a9 a10 a11 a12 a13 a14) := by
  intro a0 a1 a2 a3 a4 a5 a6 a7 a8 a9 a10 a11 a12 a13 a14 k
  have ih0 := paviorlaw02_PteUnlike.mono_l k
  unfold paviorlaw02_PteUnlike.f
  repeat' first
      | (with_reducible exact ih0 _ _ _ _ _ _ _ _ _ _ _ _ _ _ _ _ _ _)
      | (with_reducible exact paviorlaw02_up.mono _)
      | (with_reducible exact pte_Encode.mono _ _ _ _ _ _ _ _ _)
      | (with_reducible exact LeO.refl _)
      | (with_reducible exact LeO.none _)
      | (with_reducible refine LeO.ite ?_ ?_)
      | (with_reducible refine LeO.bind ?_ (fun _ => ?_))
      | exact ih0 _ _ _ _ _ _ _ _ _ _ _ _ _ _ _ _ _ _
      | exact paviorlaw02_up.mono _
      | exact pte_Encode.mono _ _ _ _ _ _ _ _ _
      | exact LeO.none _
      | refine LeO.ite ?_ ?_
      | refine LeO.bind ?_ (fun _ => ?_)
set_option maxHeartbeats 8000000 in
set_option maxRecDepth 100000 in
theorem paviorlaw02_PteUnlike.calls (k : Nat) (a0 : Int) (a1_0 : Int) (a1_1 : Int) (a1_2 : Bool) (a1_3 : Bool) (a1_4 : Bool) (a1_5 : Bool) (a1_6 : Int) (a2_0 : Int) (a2_1 : Int) (a2_2 : Bool) (a2_3 : Bool) (a2_4 : Bool) (a2_5 : Bool) (a2_6 : Int) (r : Bool) (w : World) (h : paviorlaw02_PteUnlike.f k a0 a1_0 a1_1 a1_2 a1_3 a1_4 a1_5 a1_6 a2_0 a2_1 a2_2 a2_3 a2_4 a2_5 a2_6 = some r) :
    Calls Try.prog 6 #[.int .i64 a0, .agg #[.int .i64 a1_0, .int .i64 a1_1, .bool a1_2, .bool a1_3, .bool a1_4, .bool a1_5, .int .i64 a1_6], .agg #[.int .i64 a2_0, .int .i64 a2_1, .bool a2_2, .bool a2_3, .bool a2_4, .bool a2_5, .int .i64 a2_6]] w fun e w' => e = .returned (.bool r) ∧ Below w.heap.size w w' := by
  have hu25 := Try.underlying25
  have hu27 := Try.underlying27
  have hu30 := Try.underlying30
  have HB := Aside0.mk (Below.refl w.heap.size w)
  have H : ((paviorlaw02_up.f k).bind fun t273 => ((pte_Encode.f k a0 a1_0 a1_1 a1_2 a1_3 a1_4 a1_5 a1_6).bind fun bt274 => ((pte_Encode.f k a0 a2_0 a2_1 a2_2 a2_3 a2_4 a2_5 a2_6).bind fun bt276 => (if bt274.2.isNone = true then (if bt276.2.isNone = true then (paviorlaw02_PteUnlike.j0 k t273 bt274.1 bt276.1 false a1_0 a1_1 a1_2 a1_3 a1_4 a1_5 a1_6 a2_0 a2_1 a2_2 a2_3 a2_4 a2_5 a2_6) else (paviorlaw02_PteUnlike.j0 k t273 bt274.1 bt276.1 true a1_0 a1_1 a1_2 a1_3 a1_4 a1_5 a1_6 a2_0 a2_1 a2_2 a2_3 a2_4 a2_5 a2_6)) else (paviorlaw02_PteUnlike.j0 k t273 bt274.1 bt276.1 true a1_0 a1_1 a1_2 a1_3 a1_4 a1_5 a1_6 a2_0 a2_1 a2_2 a2_3 a2_4 a2_5 a2_6))))) = some r := h
  clear h
  replace H := Option.bind_eq_some_iff.mp H
  obtain ⟨t273, A40, H⟩ := H
  replace H : ((pte_Encode.f k a0 a1_0 a1_1 a1_2 a1_3 a1_4 a1_5 a1_6).bind fun bt274 => ((pte_Encode.f k a0 a2_0 a2_1 a2_2 a2_3 a2_4 a2_5 a2_6).bind fun bt276 => (if bt274.2.isNone = true then (if bt276.2.isNone = true then (paviorlaw02_PteUnlike.j0 k t273 bt274.1 bt276.1 false a1_0 a1_1 a1_2 a1_3 a1_4 a1_5 a1_6 a2_0 a2_1 a2_2 a2_3 a2_4 a2_5 a2_6) else (paviorlaw02_PteUnlike.j0 k t273 bt274.1 bt276.1 true a1_0 a1_1 a1_2 a1_3 a1_4 a1_5 a1_6 a2_0 a2_1 a2_2 a2_3 a2_4 a2_5 a2_6)) else (paviorlaw02_PteUnlike.j0 k t273 bt274.1 bt276.1 true a1_0 a1_1 a1_2 a1_3 a1_4 a1_5 a1_6 a2_0 a2_1 a2_2 a2_3 a2_4 a2_5 a2_6)))) = some r := H
  have A4 := Aside0.mk A40
  clear A40
  replace H := Option.bind_eq_some_iff.mp H
  obtain ⟨⟨t274, t275⟩, A50, H⟩ := H
  replace H : ((pte_Encode.f k a0 a2_0 a2_1 a2_2 a2_3 a2_4 a2_5 a2_6).bind fun bt276 => (if t275.isNone = true then (if bt276.2.isNone = true then (paviorlaw02_PteUnlike.j0 k t273 t274 bt276.1 false a1_0 a1_1 a1_2 a1_3 a1_4 a1_5 a1_6 a2_0 a2_1 a2_2 a2_3 a2_4 a2_5 a2_6) else (paviorlaw02_PteUnlike.j0 k t273 t274 bt276.1 true a1_0 a1_1 a1_2 a1_3 a1_4 a1_5 a1_6 a2_0 a2_1 a2_2 a2_3 a2_4 a2_5 a2_6)) else (paviorlaw02_PteUnlike.j0 k t273 t274 bt276.1 true a1_0 a1_1 a1_2 a1_3 a1_4 a1_5 a1_6 a2_0 a2_1 a2_2 a2_3 a2_4 a2_5 a2_6))) = some r := H
  have A5 := Aside0.mk A50
  clear A50
  replace H := Option.bind_eq_some_iff.mp H
  obtain ⟨⟨t276, t277⟩, A60, H⟩ := H
  replace H : (if t275.isNone = true then (if t277.isNone = true then (paviorlaw02_PteUnlike.j0 k t273 t274 t276 false a1_0 a1_1 a1_2 a1_3 a1_4 a1_5 a1_6 a2_0 a2_1 a2_2 a2_3 a2_4 a2_5 a2_6) else (paviorlaw02_PteUnlike.j0 k t273 t274 t276 true a1_0 a1_1 a1_2 a1_3 a1_4 a1_5 a1_6 a2_0 a2_1 a2_2 a2_3 a2_4 a2_5 a2_6)) else (paviorlaw02_PteUnlike.j0 k t273 t274 t276 true a1_0 a1_1 a1_2 a1_3 a1_4 a1_5 a1_6 a2_0 a2_1 a2_2 a2_3 a2_4 a2_5 a2_6)) = some r := H
  have A6 := Aside0.mk A60
  clear A60
  have HC7 := Aside0.mk H
  clear H
  go_enter Try.func6, Try.ntmps6
  go_upto_region 4 with (first | ((with_reducible refine gate_dst (N := 4) rfl ?_); refine box_event ?hg (N := 4) ?hd (cs := #[.int .i64 a1_0, .int .i64 a1_1, .bool a1_2, .bool a1_3, .bool a1_4, .bool a1_5, .int .i64 a1_6]) (t := 25) ?hr ?_; (case hd => rfl); (case hg => rfl); (case hr => first | (go_simp; done) | (go_simp; rfl)); intro gb271 hg w8 hbox hb; have n0_ := Aside0.mk (below_step (by repeat (first | (with_reducible first | exact HB.out | apply below_alloc | apply pw_below_drewN | apply below_drew1) | exact HB.out)) hb); have n1_ := Aside0.mk (hbox); have n2_ := Aside0.mk ((by rw [hg]; exact (below_size (by repeat (first | (with_reducible first | exact HB.out | apply below_alloc | apply pw_below_drewN | apply below_drew1) | exact HB.out))) : w.heap.size ≤ gb271)); have n3_ := Aside0.mk ((by rw [hg]; exact (below_size (by repeat (first | (with_reducible first | exact HB.out | apply below_alloc | apply pw_below_drewN | apply below_drew1) | exact HB.out))) : w.heap.size ≤ gb271)); clear HB; have HB := n0_; have BK271 := n1_; have GW271 := n2_; have GE271 := n3_; clear n0_ n1_ n2_ n3_; clear hb hbox hg) | ((with_reducible refine gate_dst (N := 5) rfl ?_); refine box_event ?hg (N := 5) ?hd (cs := #[.int .i64 a2_0, .int .i64 a2_1, .bool a2_2, .bool a2_3, .bool a2_4, .bool a2_5, .int .i64 a2_6]) (t := 25) ?hr ?_; (case hd => rfl); (case hg => rfl); (case hr => first | (go_simp; done) | (go_simp; rfl)); intro gb272 hg w9 hbox hb; have n0_ := Aside0.mk (blk_below (g := gb271) (o := .cells #[.int .i64 a1_0, .int .i64 a1_1, .bool a1_2, .bool a1_3, .bool a1_4, .bool a1_5, .int .i64 a1_6] 25 (0, 0)) (by (with_reducible repeat (first | refine blk_drewN ?_ _ | refine blk_drew ?_ | refine blk_alloc ?_ _)); exact BK271.out) hb); have n1_ := Aside0.mk (below_step (by repeat (first | (with_reducible first | exact HB.out | apply below_alloc | apply pw_below_drewN | apply below_drew1 | refine below_set ?_ GE271.out) | exact HB.out)) hb); have n2_ := Aside0.mk (hbox); have n3_ := Aside0.mk ((by rw [hg]; exact (below_size (by repeat (first | (with_reducible first | exact HB.out | apply below_alloc | apply pw_below_drewN | apply below_drew1 | refine below_set ?_ GE271.out) | exact HB.out))) : w.heap.size ≤ gb272)); have n4_ := Aside0.mk ((by rw [hg]; exact (below_size (by repeat (first | (with_reducible first | exact HB.out | apply below_alloc | apply pw_below_drewN | apply below_drew1 | refine below_set ?_ GE271.out) | exact HB.out))) : w.heap.size ≤ gb272)); have n5_ := Aside0.mk ((by rw [hg]; exact Nat.ne_of_lt (blk_lt (g := gb271) (o := .cells #[.int .i64 a1_0, .int .i64 a1_1, .bool a1_2, .bool a1_3, .bool a1_4, .bool a1_5, .int .i64 a1_6] 25 (0, 0)) (by (with_reducible repeat (first | refine blk_drewN ?_ _ | refine blk_drew ?_ | refine blk_alloc ?_ _)); exact BK271.out)) : gb271 ≠ gb272)); have n6_ := Aside0.mk ((by rw [hg]; exact Nat.ne_of_gt (blk_lt (g := gb271) (o := .cells #[.int .i64 a1_0, .int .i64 a1_1, .bool a1_2, .bool a1_3, .bool a1_4, .bool a1_5, .int .i64 a1_6] 25 (0, 0)) (by (with_reducible repeat (first | refine blk_drewN ?_ _ | refine blk_drew ?_ | refine blk_alloc ?_ _)); exact BK271.out)) : gb272 ≠ gb271)); clear BK271; clear HB; have BK271 := n0_; have HB := n1_; have BK272 := n2_; have GW272 := n3_; have GE272 := n4_; have NB271_272 := n5_; have NB272_271 := n6_; clear n0_ n1_ n2_ n3_ n4_ n5_ n6_; clear hb hbox hg) | ((with_reducible refine gate_callee (f := 10) rfl ?_); refine goesL_ (some 12) rfl rfl Try.func10 (by kernel_rfl) rfl #[] rfl (by (try simp only [List.map_toArray, List.map_cons, List.map_nil]); first | done | rfl | (simp only [List.length_drop, List.length_take]; rfl)) ?_; (with_reducible refine (paviorlaw02_up.calls k  t273 _ A4.out).mono ?_); rintro e w10 ⟨rfl, hb⟩; refine ⟨_, rfl, ?_⟩; have n0_ := Aside0.mk (blk_below (g := gb271) (o := .cells #[.int .i64 a1_0, .int .i64 a1_1, .bool a1_2, .bool a1_3, .bool a1_4, .bool a1_5, .int .i64 a1_6] 25 (0, 0)) (by (with_reducible repeat (first | refine blk_drewN ?_ _ | refine blk_drew ?_ | refine blk_alloc ?_ _)); exact BK271.out) hb); have n1_ := Aside0.mk (blk_below (g := gb272) (o := .cells #[.int .i64 a2_0, .int .i64 a2_1, .bool a2_2, .bool a2_3, .bool a2_4, .bool a2_5, .int .i64 a2_6] 25 (0, 0)) (by (with_reducible repeat (first | refine blk_drewN ?_ _ | refine blk_drew ?_ | refine blk_alloc ?_ _)); exact BK272.out) hb); have n2_ := Aside0.mk (below_step (by repeat (first | (with_reducible first | exact HB.out | apply below_alloc | apply pw_below_drewN | apply below_drew1 | refine below_set ?_ GE271.out | refine below_set ?_ GE272.out) | exact HB.out)) hb); clear BK271; clear BK272; clear HB; have BK271 := n0_; have BK272 := n1_; have HB := n2_; clear n0_ n1_ n2_; (try clear hb); (try clear hb2); (try clear hk); (try clear hi); have hnb11 := NB271_272.out; have hnc11 := NB272_271.out; have hcz12_0 : w10.cell? ⟨gb271, 0, none⟩ = some (.int .i64 a1_0) := (blk_cell BK271.out 0).trans rfl; have hcz12_1 : w10.cell? ⟨gb271, 1, none⟩ = some (.int .i64 a1_1) := (blk_cell BK271.out 1).trans rfl; have hcz12_2 : w10.cell? ⟨gb271, 2, none⟩ = some (.bool a1_2) := (blk_cell BK271.out 2).trans rfl; have hcz12_3 : w10.cell? ⟨gb271, 3, none⟩ = some (.bool a1_3) := (blk_cell BK271.out 3).trans rfl; have hcz12_4 : w10.cell? ⟨gb271, 4, none⟩ = some (.bool a1_4) := (blk_cell BK271.out 4).trans rfl; have hcz12_5 : w10.cell? ⟨gb271, 5, none⟩ = some (.bool a1_5) := (blk_cell BK271.out 5).trans rfl; have hcz12_6 : w10.cell? ⟨gb271, 6, none⟩ = some (.int .i64 a1_6) := (blk_cell BK271.out 6).trans rfl; have hfz12_0 := blk_frozen BK271.out 0; have hfz12_1 := blk_frozen BK271.out 1; have hfz12_2 := blk_frozen BK271.out 2; have hfz12_3 := blk_frozen BK271.out 3; have hfz12_4 := blk_frozen BK271.out 4; have hfz12_5 := blk_frozen BK271.out 5; have hfz12_6 := blk_frozen BK271.out 6) | ((with_reducible refine gate_callee (f := 13) rfl ?_); refine goesL_ (some 16) rfl rfl Try.func13 (by kernel_rfl) rfl #[.int .i64 a0, .agg #[.int .i64 a1_0, .int .i64 a1_1, .bool a1_2, .bool a1_3, .bool a1_4, .bool a1_5, .int .i64 a1_6]] rfl (by (try simp only [List.map_toArray, List.map_cons, List.map_nil]); first | done | rfl | (simp only [List.length_drop, List.length_take]; rfl)) ?_; (with_reducible refine (pte_Encode.calls k a0 a1_0 a1_1 a1_2 a1_3 a1_4 a1_5 a1_6 t274 t275 _ A5.out).mono ?_); rintro e w13 ⟨rfl, hb⟩; refine ⟨_, rfl, ?_⟩; have n0_ := Aside0.mk (blk_below (g := gb271) (o := .cells #[.int .i64 a1_0, .int .i64 a1_1, .bool a1_2, .bool a1_3, .bool a1_4, .bool a1_5, .int .i64 a1_6] 25 (0, 0)) (by (with_reducible repeat (first | refine blk_drewN ?_ _ | refine blk_drew ?_ | refine blk_alloc ?_ _)); exact BK271.out) hb); have n1_ := Aside0.mk (blk_below (g := gb272) (o := .cells #[.int .i64 a2_0, .int .i64 a2_1, .bool a2_2, .bool a2_3, .bool a2_4, .bool a2_5, .int .i64 a2_6] 25 (0, 0)) (by (with_reducible repeat (first | refine blk_drewN ?_ _ | refine blk_drew ?_ | refine blk_alloc ?_ _)); exact BK272.out) hb); have n2_ := Aside0.mk (below_step (by repeat (first | (with_reducible first | exact HB.out | apply below_alloc | apply pw_below_drewN | apply below_drew1 | refine below_set ?_ GE271.out | refine below_set ?_ GE272.out) | exact HB.out)) hb); clear BK271; clear BK272; clear HB; have BK271 := n0_; have BK272 := n1_; have HB := n2_; clear n0_ n1_ n2_; (try clear hb); (try clear hb2); (try clear hk); (try clear hi); (try simp only [errW_none, errW_some]); have hcz14_0 : w13.cell? ⟨gb272, 0, none⟩ = some (.int .i64 a2_0) := (blk_cell BK272.out 0).trans rfl; have hcz14_1 : w13.cell? ⟨gb272, 1, none⟩ = some (.int .i64 a2_1) := (blk_cell BK272.out 1).trans rfl; have hcz14_2 : w13.cell? ⟨gb272, 2, none⟩ = some (.bool a2_2) := (blk_cell BK272.out 2).trans rfl; have hcz14_3 : w13.cell? ⟨gb272, 3, none⟩ = some (.bool a2_3) := (blk_cell BK272.out 3).trans rfl; have hcz14_4 : w13.cell? ⟨gb272, 4, none⟩ = some (.bool a2_4) := (blk_cell BK272.out 4).trans rfl; have hcz14_5 : w13.cell? ⟨gb272, 5, none⟩ = some (.bool a2_5) := (blk_cell BK272.out 5).trans rfl; have hcz14_6 : w13.cell? ⟨gb272, 6, none⟩ = some (.int .i64 a2_6) := (blk_cell BK272.out 6).trans rfl; have hfz14_0 := blk_frozen BK272.out 0; have hfz14_1 := blk_frozen BK272.out 1; have hfz14_2 := blk_frozen BK272.out 2; have hfz14_3 := blk_frozen BK272.out 3; have hfz14_4 := blk_frozen BK272.out 4; have hfz14_5 := blk_frozen BK272.out 5; have hfz14_6 := blk_frozen BK272.out 6) | ((with_reducible refine gate_callee (f := 13) rfl ?_); refine goesL_ (some 22) rfl rfl Try.func13 (by kernel_rfl) rfl #[.int .i64 a0, .agg #[.int .i64 a2_0, .int .i64 a2_1, .bool a2_2, .bool a2_3, .bool a2_4, .bool a2_5, .int .i64 a2_6]] rfl (by (try simp only [List.map_toArray, List.map_cons, List.map_nil]); first | done | rfl | (simp only [List.length_drop, List.length_take]; rfl)) ?_; (with_reducible refine (pte_Encode.calls k a0 a2_0 a2_1 a2_2 a2_3 a2_4 a2_5 a2_6 t276 t277 _ A6.out).mono ?_); rintro e w15 ⟨rfl, hb⟩; refine ⟨_, rfl, ?_⟩; have n0_ := Aside0.mk (blk_below (g := gb271) (o := .cells #[.int .i64 a1_0, .int .i64 a1_1, .bool a1_2, .bool a1_3, .bool a1_4, .bool a1_5, .int .i64 a1_6] 25 (0, 0)) (by (with_reducible repeat (first | refine blk_drewN ?_ _ | refine blk_drew ?_ | refine blk_alloc ?_ _)); exact BK271.out) hb); have n1_ := Aside0.mk (blk_below (g := gb272) (o := .cells #[.int .i64 a2_0, .int .i64 a2_1, .bool a2_2, .bool a2_3, .bool a2_4, .bool a2_5, .int .i64 a2_6] 25 (0, 0)) (by (with_reducible repeat (first | refine blk_drewN ?_ _ | refine blk_drew ?_ | refine blk_alloc ?_ _)); exact BK272.out) hb); have n2_ := Aside0.mk (below_step (by repeat (first | (with_reducible first | exact HB.out | apply below_alloc | apply pw_below_drewN | apply below_drew1 | refine below_set ?_ GE271.out | refine below_set ?_ GE272.out) | exact HB.out)) hb); clear BK271; clear BK272; clear HB; have BK271 := n0_; have BK272 := n1_; have HB := n2_; clear n0_ n1_ n2_; (try clear hb); (try clear hb2); (try clear hk); (try clear hi); (try simp only [errW_none, errW_some])))
  (try simp only [Act.put, List.setIfInBounds_toArray, List.set_cons_zero, List.set_cons_succ])
  go_cut [30] (fun v30 wc => ∃ (kq : Nat) (x30_6 : Bool), v30 = .bool x30_6 ∧ Aside0 (paviorlaw02_PteUnlike.j0 kq t273 t274 t276 x30_6 a1_0 a1_1 a1_2 a1_3 a1_4 a1_5 a1_6 a2_0 a2_1 a2_2 a2_3 a2_4 a2_5 a2_6 = some r) ∧ Aside0 (kq ≤ k) ∧ Aside0 (wc.heap[gb271]? = some (.cells #[.int .i64 a1_0, .int .i64 a1_1, .bool a1_2, .bool a1_3, .bool a1_4, .bool a1_5, .int .i64 a1_6] 25 (0, 0))) ∧ Aside0 (wc.heap[gb272]? = some (.cells #[.int .i64 a2_0, .int .i64 a2_1, .bool a2_2, .bool a2_3, .bool a2_4, .bool a2_5, .int .i64 a2_6] 25 (0, 0))) ∧ Aside0 (Below w.heap.size w wc))
  case first =>
    have H := HC7.out
    clear HC7
    rcases t275 with _ | q278
    · have H1 : (if t277.isNone = true then (paviorlaw02_PteUnlike.j0 k t273 t274 t276 false a1_0 a1_1 a1_2 a1_3 a1_4 a1_5 a1_6 a2_0 a2_1 a2_2 a2_3 a2_4 a2_5 a2_6) else (paviorlaw02_PteUnlike.j0 k t273 t274 t276 true a1_0 a1_1 a1_2 a1_3 a1_4 a1_5 a1_6 a2_0 a2_1 a2_2 a2_3 a2_4 a2_5 a2_6)) = some r := by rw [if_pos (show (none : Option Int).isNone = true by rfl)] at H; exact H
      clear H
      have H := H1
      clear H1
      try simp only [errW_none, errW_some]
      rcases t277 with _ | q279
      · have H1 : (paviorlaw02_PteUnlike.j0 k t273 t274 t276 false a1_0 a1_1 a1_2 a1_3 a1_4 a1_5 a1_6 a2_0 a2_1 a2_2 a2_3 a2_4 a2_5 a2_6) = some r := by rw [if_pos (show (none : Option Int).isNone = true by rfl)] at H; exact H
        clear H
        have H := H1
        clear H1
        try simp only [errW_none, errW_some]
        have H' := Aside0.mk H
        clear H
        go_wp2
        go_meet
        case rel => exact ⟨_, (false), (by first | rfl | (simp; done) | (simp [*]; done)), H', ⟨by first | omega | exact Nat.le_refl _⟩, ⟨by (with_reducible repeat (first | refine blk_drewN ?_ _ | refine blk_drew ?_ | refine blk_alloc ?_ _)); exact BK271.out⟩, ⟨by (with_reducible repeat (first | refine blk_drewN ?_ _ | refine blk_drew ?_ | refine blk_alloc ?_ _)); exact BK272.out⟩, ⟨by repeat (first | (with_reducible first | exact HB.out | apply below_alloc | apply pw_below_drewN | apply below_drew1 | refine below_set ?_ GE271.out | refine below_set ?_ GE272.out) | exact HB.out)⟩⟩
      · have H1 : (paviorlaw02_PteUnlike.j0 k t273 t274 t276 true a1_0 a1_1 a1_2 a1_3 a1_4 a1_5 a1_6 a2_0 a2_1 a2_2 a2_3 a2_4 a2_5 a2_6) = some r := by rw [if_neg (show ¬ (some q279).isNone = true by simp)] at H; exact H
        clear H
        have H := H1
        clear H1
        try simp only [errW_none, errW_some]
        have H' := Aside0.mk H
        clear H
        go_wp2
        go_meet
        case rel => exact ⟨_, (true), (by first | rfl | (simp; done) | (simp [*]; done)), H', ⟨by first | omega | exact Nat.le_refl _⟩, ⟨by (with_reducible repeat (first | refine blk_drewN ?_ _ | refine blk_drew ?_ | refine blk_alloc ?_ _)); exact BK271.out⟩, ⟨by (with_reducible repeat (first | refine blk_drewN ?_ _ | refine blk_drew ?_ | refine blk_alloc ?_ _)); exact BK272.out⟩, ⟨by repeat (first | (with_reducible first | exact HB.out | apply below_alloc | apply pw_below_drewN | apply below_drew1 | refine below_set ?_ GE271.out | refine below_set ?_ GE272.out) | exact HB.out)⟩⟩
    · have H1 : (paviorlaw02_PteUnlike.j0 k t273 t274 t276 true a1_0 a1_1 a1_2 a1_3 a1_4 a1_5 a1_6 a2_0 a2_1 a2_2 a2_3 a2_4 a2_5 a2_6) = some r := by rw [if_neg (show ¬ (some q278).isNone = true by simp)] at H; exact H
      clear H
      have H := H1
      clear H1
      try simp only [errW_none, errW_some]
      have H' := Aside0.mk H
      clear H
      go_wp2
      go_meet
      case rel => exact ⟨_, (true), (by first | rfl | (simp; done) | (simp [*]; done)), H', ⟨by first | omega | exact Nat.le_refl _⟩, ⟨by (with_reducible repeat (first | refine blk_drewN ?_ _ | refine blk_drew ?_ | refine blk_alloc ?_ _)); exact BK271.out⟩, ⟨by (with_reducible repeat (first | refine blk_drewN ?_ _ | refine blk_drew ?_ | refine blk_alloc ?_ _)); exact BK272.out⟩, ⟨by repeat (first | (with_reducible first | exact HB.out | apply below_alloc | apply pw_below_drewN | apply below_drew1 | refine below_set ?_ GE271.out | refine below_set ?_ GE272.out) | exact HB.out)⟩⟩
  case rest =>
    clear HC7
    try clear c1
    try clear p2
    try clear q2
    try clear c6
    try clear c10
    try clear c11
    try clear c13
    try clear hcz12_0
    try clear hcz12_1
    try clear hcz12_2
    try clear hcz12_3
    try clear hcz12_4
    try clear hcz12_5
    try clear hcz12_6
    try clear hcz14_0
    try clear hcz14_1
    try clear hcz14_2
    try clear hcz14_3
    try clear hcz14_4
    try clear hcz14_5
    try clear hcz14_6
    try clear hfz12_0
    try clear hfz12_1
    try clear hfz12_2
    try clear hfz12_3
    try clear hfz12_4
    try clear hfz12_5
    try clear hfz12_6
    try clear hfz14_0
    try clear hfz14_1
    try clear hfz14_2
    try clear hfz14_3
    try clear hfz14_4
    try clear hfz14_5
    try clear hfz14_6
    try clear q278
    try clear q279
    obtain ⟨kq, x30_6, rfl, HA, HJ6, BK271, BK272, HB⟩ := hcut
    cases kq with
    | zero => exact absurd HA.out (by simp [paviorlaw02_PteUnlike.j0])
    | succ kj6 =>
      have H := HA.out
      clear HA
      simp only [paviorlaw02_PteUnlike.j0] at H
      by_cases c16 : x30_6 = true
      · subst c16
        have H1 : (some t273) = some r := by rw [if_pos rfl] at H; exact H
        clear H
        have H := H1
        clear H1
        obtain rfl := Option.some.inj H
        go_wp2
        go_ret
        exact ⟨by first | rfl | (simp [errW_none, errW_some] <;> rfl) | (simp [*, errW_none, errW_some] <;> rfl), by repeat (first | (with_reducible first | exact HB.out | apply below_alloc | apply pw_below_drewN | apply below_drew1 | refine below_set ?_ GE271.out | refine below_set ?_ GE272.out) | exact HB.out)⟩
      · replace c16 := Bool.eq_false_iff.mpr c16
        subst c16
        have H1 : (if t273 = true then (some ((t274 == t276) == (a1_0 == a2_0 && (a1_1 == a2_1 && (a1_2 == a2_2 && (a1_3 == a2_3 && (a1_4 == a2_4 && (a1_5 == a2_5 && (a1_6 == a2_6))))))))) else (some false)) = some r := by rw [if_neg (show ¬ (false = true) by decide)] at H; exact H
        clear H
        have H := H1
        clear H1
        by_cases c17 : t273 = true
        · subst c17
          have H1 : (some ((t274 == t276) == (a1_0 == a2_0 && (a1_1 == a2_1 && (a1_2 == a2_2 && (a1_3 == a2_3 && (a1_4 == a2_4 && (a1_5 == a2_5 && (a1_6 == a2_6))))))))) = some r := by rw [if_pos rfl] at H; exact H
          clear H
          have H := H1
          clear H1
          obtain rfl := Option.some.inj H
          have hnb18 := NB271_272.out
          have hnc18 := NB272_271.out
          have hcz19_0 : wc.cell? ⟨gb271, 0, none⟩ = some (.int .i64 a1_0) := (blk_cell BK271.out 0).trans rfl
          have hcz19_1 : wc.cell? ⟨gb271, 1, none⟩ = some (.int .i64 a1_1) := (blk_cell BK271.out 1).trans rfl
          have hcz19_2 : wc.cell? ⟨gb271, 2, none⟩ = some (.bool a1_2) := (blk_cell BK271.out 2).trans rfl
          have hcz19_3 : wc.cell? ⟨gb271, 3, none⟩ = some (.bool a1_3) := (blk_cell BK271.out 3).trans rfl
          have hcz19_4 : wc.cell? ⟨gb271, 4, none⟩ = some (.bool a1_4) := (blk_cell BK271.out 4).trans rfl
          have hcz19_5 : wc.cell? ⟨gb271, 5, none⟩ = some (.bool a1_5) := (blk_cell BK271.out 5).trans rfl
          have hcz19_6 : wc.cell? ⟨gb271, 6, none⟩ = some (.int .i64 a1_6) := (blk_cell BK271.out 6).trans rfl
          have hfz19_0 := blk_frozen BK271.out 0
          have hfz19_1 := blk_frozen BK271.out 1
          have hfz19_2 := blk_frozen BK271.out 2
          have hfz19_3 := blk_frozen BK271.out 3
          have hfz19_4 := blk_frozen BK271.out 4
          have hfz19_5 := blk_frozen BK271.out 5
          have hfz19_6 := blk_frozen BK271.out 6
          have hcz20_0 : wc.cell? ⟨gb272, 0, none⟩ = some (.int .i64 a2_0) := (blk_cell BK272.out 0).trans rfl
          have hcz20_1 : wc.cell? ⟨gb272, 1, none⟩ = some (.int .i64 a2_1) := (blk_cell BK272.out 1).trans rfl
          have hcz20_2 : wc.cell? ⟨gb272, 2, none⟩ = some (.bool a2_2) := (blk_cell BK272.out 2).trans rfl
          have hcz20_3 : wc.cell? ⟨gb272, 3, none⟩ = some (.bool a2_3) := (blk_cell BK272.out 3).trans rfl
          have hcz20_4 : wc.cell? ⟨gb272, 4, none⟩ = some (.bool a2_4) := (blk_cell BK272.out 4).trans rfl
          have hcz20_5 : wc.cell? ⟨gb272, 5, none⟩ = some (.bool a2_5) := (blk_cell BK272.out 5).trans rfl
          have hcz20_6 : wc.cell? ⟨gb272, 6, none⟩ = some (.int .i64 a2_6) := (blk_cell BK272.out 6).trans rfl
          have hfz20_0 := blk_frozen BK272.out 0
          have hfz20_1 := blk_frozen BK272.out 1
          have hfz20_2 := blk_frozen BK272.out 2
          have hfz20_3 := blk_frozen BK272.out 3
          have hfz20_4 := blk_frozen BK272.out 4
          have hfz20_5 := blk_frozen BK272.out 5
          have hfz20_6 := blk_frozen BK272.out 6
          go_wp2
          go_ret
          exact ⟨by first | rfl | (simp [errW_none, errW_some] <;> rfl) | (simp [*, errW_none, errW_some] <;> rfl), by repeat (first | (with_reducible first | exact HB.out | apply below_alloc | apply pw_below_drewN | apply below_drew1 | refine below_set ?_ GE271.out | refine below_set ?_ GE272.out) | exact HB.out)⟩
        · replace c17 := Bool.eq_false_iff.mpr c17
          subst c17
          have H1 : (some false) = some r := by rw [if_neg (show ¬ (false = true) by decide)] at H; exact H
          clear H
          have H := H1
          clear H1
          obtain rfl := Option.some.inj H
          go_wp2
          go_ret
          exact ⟨by first | rfl | (simp [errW_none, errW_some] <;> rfl) | (simp [*, errW_none, errW_some] <;> rfl), by repeat (first | (with_reducible first | exact HB.out | apply below_alloc | apply pw_below_drewN | apply below_drew1 | refine below_set ?_ GE271.out | refine below_set ?_ GE272.out) | exact HB.out)⟩

/-- THE ONE PURE STATEMENT of paviorlaw02_PteUnlike. -/
def paviorlaw02_PteUnlike.Pure : Prop := ∀ (a0 : Int) (a1_0 : Int) (a1_1 : Int) (a1_2 : Bool) (a1_3 : Bool) (a1_4 : Bool) (a1_5 : Bool) (a1_6 : Int) (a2_0 : Int) (a2_1 : Int) (a2_2 : Bool) (a2_3 : Bool) (a2_4 : Bool) (a2_5 : Bool) (a2_6 : Int), (Lit.int .i64 a0).wf = true → (((Lit.int .i64 a1_0).wf = true ∧ (Lit.int .i64 a1_1).wf = true ∧ True ∧ True ∧ True ∧ True ∧ (Lit.int .i64 a1_6).wf = true)) → (((Lit.int .i64 a2_0).wf = true ∧ (Lit.int .i64 a2_1).wf = true ∧ True ∧ True ∧ True ∧ True ∧ (Lit.int .i64 a2_6).wf = true)) → ∃ k, paviorlaw02_PteUnlike.f k a0 a1_0 a1_1 a1_2 a1_3 a1_4 a1_5 a1_6 a2_0 a2_1 a2_2 a2_3 a2_4 a2_5 a2_6 = some true

end Go.Proofs.Ytobbcfpkmmafnab.Q
