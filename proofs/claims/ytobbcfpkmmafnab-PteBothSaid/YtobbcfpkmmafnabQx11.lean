-- Written by this session's program wip/tools/xprint.py (the kit's printer, turned by it); not the kit's own print.
import Derived.Test.YtobbcfpkmmafnabQx0
import Derived.Test.YtobbcfpkmmafnabQx1
import Derived.Test.YtobbcfpkmmafnabQx3
import Derived.Test.YtobbcfpkmmafnabQx6
namespace Go.Proofs.Ytobbcfpkmmafnab.Q
open Go.RowKit Go.Proofs.YtobbcfpkmmafnabW.PrintWords Go.Proofs.YtobbcfpkmmafnabW.PrintLast Go.Proofs.YtobbcfpkmmafnabW.PrintMore
attribute [local go_sem] max2_int min2_int max_two min_two max_three min_three max_four min_four   -- for this text's walks alone
set_option linter.unusedVariables false
set_option linter.unusedSimpArgs false

attribute [local go_sem high] eqA25
attribute [local go_sem high] eqErr_some neErr_some eqErr_left neErr_left
/-! ### pte_Change: function 16 -/
def pte_Change.j0 : Nat → Bool → Int → Int → Bool → Bool → Bool → Bool → Int → Int → Int → Bool → Bool → Bool → Bool → Int → Option (Bool × Option Int)
  | 0, _, _, _, _, _, _, _, _, _, _, _, _, _, _, _ => none
  | k + 1, x41, x305000, x305001, x305002, x305003, x305004, x305005, x305006, x315000, x315001, x315002, x315003, x315004, x315005, x315006 => if x41 = true then (some (true, none)) else (if (x305000 == x315000 && (x305001 == x315001 && (x305002 == x315002 && (x305003 == x315003 && (x305005 == x315005))))) = true then (some ((x305000 != 5), none)) else (some (false, none)))
def pte_Change.f (k : Nat) (a0 : Int) (a1 : Int) (a2 : Int) : Option (Bool × Option Int) := (pte_Decode.f k a0 a1).bind fun bt296 => (if bt296.2.2.2.2.2.2.2.isNone = true then ((pte_Decode.f k a0 a2).bind fun bt306 => (if bt306.2.2.2.2.2.2.2.isNone = true then (if a1 = a2 then (pte_Change.j0 k true bt296.1 bt296.2.1 bt296.2.2.1 bt296.2.2.2.1 bt296.2.2.2.2.1 bt296.2.2.2.2.2.1 bt296.2.2.2.2.2.2.1 bt306.1 bt306.2.1 bt306.2.2.1 bt306.2.2.2.1 bt306.2.2.2.2.1 bt306.2.2.2.2.2.1 bt306.2.2.2.2.2.2.1) else (if (Go.bits .and .u64 a1 1) = 0 then (pte_Change.j0 k true bt296.1 bt296.2.1 bt296.2.2.1 bt296.2.2.2.1 bt296.2.2.2.2.1 bt296.2.2.2.2.2.1 bt296.2.2.2.2.2.2.1 bt306.1 bt306.2.1 bt306.2.2.1 bt306.2.2.2.1 bt306.2.2.2.2.1 bt306.2.2.2.2.2.1 bt306.2.2.2.2.2.2.1) else (pte_Change.j0 k ((Go.bits .and .u64 a2 1) == 0) bt296.1 bt296.2.1 bt296.2.2.1 bt296.2.2.2.1 bt296.2.2.2.2.1 bt296.2.2.2.2.2.1 bt296.2.2.2.2.2.2.1 bt306.1 bt306.2.1 bt306.2.2.1 bt306.2.2.2.1 bt306.2.2.2.2.1 bt306.2.2.2.2.2.1 bt306.2.2.2.2.2.2.1))) else (some (false, some (bt306.2.2.2.2.2.2.2.getD 0))))) else (some (false, some (bt296.2.2.2.2.2.2.2.getD 0))))
theorem pte_Change.mono_l : ∀ k, (∀ y0 y1 y2 y3 y4 y5 y6 y7 y8 y9 y10 y11 y12 y13 y14, LeO (pte_Change.j0 k y0 y1 y2 y3 y4 y5 y6 y7 y8 y9 y10 y11 y12 y13 y14) (pte_Change.j0 (k + 1) y0 y1 y2 y3 y4 y5 y6 y7 y8 y9 y10 y11 y12 y13 y14))
  | 0 => fun _ _ _ _ _ _ _ _ _ _ _ _ _ _ _ r h => by simp [pte_Change.j0] at h
  | k + 1 => by
    have ih0 := pte_Change.mono_l k
    · intro y0 y1 y2 y3 y4 y5 y6 y7 y8 y9 y10 y11 y12 y13 y14
      unfold pte_Change.j0
      repeat' first
      | (with_reducible exact ih0 _ _ _ _ _ _ _ _ _ _ _ _ _ _ _)
      | (with_reducible exact pte_Decode.mono _ _ _)
      | (with_reducible exact LeO.refl _)
      | (with_reducible exact LeO.none _)
      | (with_reducible refine LeO.ite ?_ ?_)
      | (with_reducible refine LeO.bind ?_ (fun _ => ?_))
      | exact ih0 _ _ _ _ _ _ _ _ _ _ _ _ _ _ _
      | exact pte_Decode.mono _ _ _
      | exact LeO.none _
      | refine LeO.ite ?_ ?_
      | refine LeO.bind ?_ (fun _ => ?_)
theorem pte_Change.mono : ∀ a0 a1 a2 k, LeO (pte_Change.f k a0 a1 a2) (pte_Change.f (k + 1) a0 a1 a2) := by
  intro a0 a1 a2 k
  have ih0 := pte_Change.mono_l k
  unfold pte_Change.f
  repeat' first
      | (with_reducible exact ih0 _ _ _ _ _ _ _ _ _ _ _ _ _ _ _)
      | (with_reducible exact pte_Decode.mono _ _ _)
      | (with_reducible exact LeO.refl _)
      | (with_reducible exact LeO.none _)
      | (with_reducible refine LeO.ite ?_ ?_)
      | (with_reducible refine LeO.bind ?_ (fun _ => ?_))
      | exact ih0 _ _ _ _ _ _ _ _ _ _ _ _ _ _ _
      | exact pte_Decode.mono _ _ _
      | exact LeO.none _
      | refine LeO.ite ?_ ?_
      | refine LeO.bind ?_ (fun _ => ?_)
set_option maxHeartbeats 8000000 in
set_option maxRecDepth 100000 in
theorem pte_Change.calls (k : Nat) (a0 : Int) (a1 : Int) (a2 : Int) (r1 : Bool) (r2 : Option Int) (w : World) (h : pte_Change.f k a0 a1 a2 = some (r1, r2)) :
    Calls Try.prog 16 #[.int .i64 a0, .int .u64 a1, .int .u64 a2] w fun e w' => e = .returned (.tuple #[.bool r1, errW r2]) ∧ Below w.heap.size w w' := by
  have hu25 := Try.underlying25
  have hu27 := Try.underlying27
  have hu30 := Try.underlying30
  have HB := Aside0.mk (Below.refl w.heap.size w)
  have H : ((pte_Decode.f k a0 a1).bind fun bt296 => (if bt296.2.2.2.2.2.2.2.isNone = true then ((pte_Decode.f k a0 a2).bind fun bt306 => (if bt306.2.2.2.2.2.2.2.isNone = true then (if a1 = a2 then (pte_Change.j0 k true bt296.1 bt296.2.1 bt296.2.2.1 bt296.2.2.2.1 bt296.2.2.2.2.1 bt296.2.2.2.2.2.1 bt296.2.2.2.2.2.2.1 bt306.1 bt306.2.1 bt306.2.2.1 bt306.2.2.2.1 bt306.2.2.2.2.1 bt306.2.2.2.2.2.1 bt306.2.2.2.2.2.2.1) else (if (Go.bits .and .u64 a1 1) = 0 then (pte_Change.j0 k true bt296.1 bt296.2.1 bt296.2.2.1 bt296.2.2.2.1 bt296.2.2.2.2.1 bt296.2.2.2.2.2.1 bt296.2.2.2.2.2.2.1 bt306.1 bt306.2.1 bt306.2.2.1 bt306.2.2.2.1 bt306.2.2.2.2.1 bt306.2.2.2.2.2.1 bt306.2.2.2.2.2.2.1) else (pte_Change.j0 k ((Go.bits .and .u64 a2 1) == 0) bt296.1 bt296.2.1 bt296.2.2.1 bt296.2.2.2.1 bt296.2.2.2.2.1 bt296.2.2.2.2.2.1 bt296.2.2.2.2.2.2.1 bt306.1 bt306.2.1 bt306.2.2.1 bt306.2.2.2.1 bt306.2.2.2.2.1 bt306.2.2.2.2.2.1 bt306.2.2.2.2.2.2.1))) else (some (false, some (bt306.2.2.2.2.2.2.2.getD 0))))) else (some (false, some (bt296.2.2.2.2.2.2.2.getD 0))))) = some (r1, r2) := h
  clear h
  replace H := Option.bind_eq_some_iff.mp H
  obtain ⟨⟨t296, t297, t298, t299, t300, t301, t302, t303⟩, A40, H⟩ := H
  replace H : (if t303.isNone = true then ((pte_Decode.f k a0 a2).bind fun bt306 => (if bt306.2.2.2.2.2.2.2.isNone = true then (if a1 = a2 then (pte_Change.j0 k true t296 t297 t298 t299 t300 t301 t302 bt306.1 bt306.2.1 bt306.2.2.1 bt306.2.2.2.1 bt306.2.2.2.2.1 bt306.2.2.2.2.2.1 bt306.2.2.2.2.2.2.1) else (if (Go.bits .and .u64 a1 1) = 0 then (pte_Change.j0 k true t296 t297 t298 t299 t300 t301 t302 bt306.1 bt306.2.1 bt306.2.2.1 bt306.2.2.2.1 bt306.2.2.2.2.1 bt306.2.2.2.2.2.1 bt306.2.2.2.2.2.2.1) else (pte_Change.j0 k ((Go.bits .and .u64 a2 1) == 0) t296 t297 t298 t299 t300 t301 t302 bt306.1 bt306.2.1 bt306.2.2.1 bt306.2.2.2.1 bt306.2.2.2.2.1 bt306.2.2.2.2.2.1 bt306.2.2.2.2.2.2.1))) else (some (false, some (bt306.2.2.2.2.2.2.2.getD 0))))) else (some (false, some (t303.getD 0)))) = some (r1, r2) := H
  have A4 := Aside0.mk A40
  clear A40
  rcases t303 with _ | q305
  · have H1 : ((pte_Decode.f k a0 a2).bind fun bt306 => (if bt306.2.2.2.2.2.2.2.isNone = true then (if a1 = a2 then (pte_Change.j0 k true t296 t297 t298 t299 t300 t301 t302 bt306.1 bt306.2.1 bt306.2.2.1 bt306.2.2.2.1 bt306.2.2.2.2.1 bt306.2.2.2.2.2.1 bt306.2.2.2.2.2.2.1) else (if (Go.bits .and .u64 a1 1) = 0 then (pte_Change.j0 k true t296 t297 t298 t299 t300 t301 t302 bt306.1 bt306.2.1 bt306.2.2.1 bt306.2.2.2.1 bt306.2.2.2.2.1 bt306.2.2.2.2.2.1 bt306.2.2.2.2.2.2.1) else (pte_Change.j0 k ((Go.bits .and .u64 a2 1) == 0) t296 t297 t298 t299 t300 t301 t302 bt306.1 bt306.2.1 bt306.2.2.1 bt306.2.2.2.1 bt306.2.2.2.2.1 bt306.2.2.2.2.2.1 bt306.2.2.2.2.2.2.1))) else (some (false, some (bt306.2.2.2.2.2.2.2.getD 0))))) = some (r1, r2) := by rw [if_pos (show (none : Option Int).isNone = true by rfl)] at H; exact H
    clear H
    have H := H1
    clear H1
    try simp only [errW_none, errW_some]
    replace H := Option.bind_eq_some_iff.mp H
    obtain ⟨⟨t306, t307, t308, t309, t310, t311, t312, t313⟩, A50, H⟩ := H
    replace H : (if t313.isNone = true then (if a1 = a2 then (pte_Change.j0 k true t296 t297 t298 t299 t300 t301 t302 t306 t307 t308 t309 t310 t311 t312) else (if (Go.bits .and .u64 a1 1) = 0 then (pte_Change.j0 k true t296 t297 t298 t299 t300 t301 t302 t306 t307 t308 t309 t310 t311 t312) else (pte_Change.j0 k ((Go.bits .and .u64 a2 1) == 0) t296 t297 t298 t299 t300 t301 t302 t306 t307 t308 t309 t310 t311 t312))) else (some (false, some (t313.getD 0)))) = some (r1, r2) := H
    have A5 := Aside0.mk A50
    clear A50
    rcases t313 with _ | q315
    · have H1 : (if a1 = a2 then (pte_Change.j0 k true t296 t297 t298 t299 t300 t301 t302 t306 t307 t308 t309 t310 t311 t312) else (if (Go.bits .and .u64 a1 1) = 0 then (pte_Change.j0 k true t296 t297 t298 t299 t300 t301 t302 t306 t307 t308 t309 t310 t311 t312) else (pte_Change.j0 k ((Go.bits .and .u64 a2 1) == 0) t296 t297 t298 t299 t300 t301 t302 t306 t307 t308 t309 t310 t311 t312))) = some (r1, r2) := by rw [if_pos (show (none : Option Int).isNone = true by rfl)] at H; exact H
      clear H
      have H := H1
      clear H1
      try simp only [errW_none, errW_some]
      have HC6 := Aside0.mk H
      clear H
      go_enter Try.func16, Try.ntmps16
      go_upto_region 7 with (first | ((with_reducible refine gate_callee (f := 11) rfl ?_); refine goesL_ (some 14) rfl rfl Try.func11 (by kernel_rfl) rfl #[.int .i64 a0, .int .u64 a1] rfl (by (try simp only [List.map_toArray, List.map_cons, List.map_nil]); first | done | rfl | (simp only [List.length_drop, List.length_take]; rfl)) ?_; (with_reducible refine (pte_Decode.calls k a0 a1 t296 t297 t298 t299 t300 t301 t302 none _ A4.out).mono ?_); rintro e w7 ⟨rfl, hb⟩; refine ⟨_, rfl, ?_⟩; have n0_ := Aside0.mk (below_step (by repeat (first | (with_reducible first | exact HB.out | apply below_alloc | apply pw_below_drewN | apply below_drew1) | exact HB.out)) hb); clear HB; have HB := n0_; clear n0_; (try clear hb); (try clear hb2); (try clear hk); (try clear hi); (try simp only [errW_none, errW_some])) | ((with_reducible refine gate_dst (N := 8) rfl ?_); refine box_event ?hg (N := 8) ?hd (cs := #[.int .i64 0, .int .i64 0, .bool false, .bool false, .bool false, .bool false, .int .i64 0]) (t := 25) ?hr ?_; (case hd => rfl); (case hg => rfl); (case hr => first | (go_simp; done) | (go_simp; rfl)); intro gb304 hg w8 hbox hb; have n0_ := Aside0.mk (below_step (by repeat (first | (with_reducible first | exact HB.out | apply below_alloc | apply pw_below_drewN | apply below_drew1) | exact HB.out)) hb); have n1_ := Aside0.mk (hbox); have n2_ := Aside0.mk ((by rw [hg]; exact (below_size (by repeat (first | (with_reducible first | exact HB.out | apply below_alloc | apply pw_below_drewN | apply below_drew1) | exact HB.out))) : w.heap.size ≤ gb304)); have n3_ := Aside0.mk ((by rw [hg]; exact (below_size (by repeat (first | (with_reducible first | exact HB.out | apply below_alloc | apply pw_below_drewN | apply below_drew1) | exact HB.out))) : w.heap.size ≤ gb304)); clear HB; have HB := n0_; have BK304 := n1_; have GW304 := n2_; have GE304 := n3_; clear n0_ n1_ n2_ n3_; clear hb hbox hg; have hcz9_0 : w8.cell? ⟨gb304, 0, none⟩ = some (.int .i64 0) := (blk_cell BK304.out 0).trans rfl; have hcz9_1 : w8.cell? ⟨gb304, 1, none⟩ = some (.int .i64 0) := (blk_cell BK304.out 1).trans rfl; have hcz9_2 : w8.cell? ⟨gb304, 2, none⟩ = some (.bool false) := (blk_cell BK304.out 2).trans rfl; have hcz9_3 : w8.cell? ⟨gb304, 3, none⟩ = some (.bool false) := (blk_cell BK304.out 3).trans rfl; have hcz9_4 : w8.cell? ⟨gb304, 4, none⟩ = some (.bool false) := (blk_cell BK304.out 4).trans rfl; have hcz9_5 : w8.cell? ⟨gb304, 5, none⟩ = some (.bool false) := (blk_cell BK304.out 5).trans rfl; have hcz9_6 : w8.cell? ⟨gb304, 6, none⟩ = some (.int .i64 0) := (blk_cell BK304.out 6).trans rfl; have hfz9_0 := blk_frozen BK304.out 0; have hfz9_1 := blk_frozen BK304.out 1; have hfz9_2 := blk_frozen BK304.out 2; have hfz9_3 := blk_frozen BK304.out 3; have hfz9_4 := blk_frozen BK304.out 4; have hfz9_5 := blk_frozen BK304.out 5; have hfz9_6 := blk_frozen BK304.out 6) | ((with_reducible refine gate_callee (f := 11) rfl ?_); refine goesL_ (some 23) rfl rfl Try.func11 (by kernel_rfl) rfl #[.int .i64 a0, .int .u64 a2] rfl (by (try simp only [List.map_toArray, List.map_cons, List.map_nil]); first | done | rfl | (simp only [List.length_drop, List.length_take]; rfl)) ?_; (with_reducible refine (pte_Decode.calls k a0 a2 t306 t307 t308 t309 t310 t311 t312 none _ A5.out).mono ?_); rintro e w10 ⟨rfl, hb⟩; refine ⟨_, rfl, ?_⟩; have n0_ := Aside0.mk (blk_below (g := gb304) (o := .cells #[.int .i64 t296, .int .i64 t297, .bool t298, .bool t299, .bool t300, .bool t301, .int .i64 t302] 25 (0, 0)) (by (with_reducible repeat (first | refine blk_drewN ?_ _ | refine blk_drew ?_ | refine blk_alloc ?_ _)); refine blk_put (cs := #[.int .i64 t296, .int .i64 t297, .bool t298, .bool t299, .bool t300, .bool t301, .int .i64 0]) ?_ 6 _ rfl; (with_reducible repeat (first | refine blk_drewN ?_ _ | refine blk_drew ?_ | refine blk_alloc ?_ _)); refine blk_put (cs := #[.int .i64 t296, .int .i64 t297, .bool t298, .bool t299, .bool t300, .bool false, .int .i64 0]) ?_ 5 _ rfl; (with_reducible repeat (first | refine blk_drewN ?_ _ | refine blk_drew ?_ | refine blk_alloc ?_ _)); refine blk_put (cs := #[.int .i64 t296, .int .i64 t297, .bool t298, .bool t299, .bool false, .bool false, .int .i64 0]) ?_ 4 _ rfl; (with_reducible repeat (first | refine blk_drewN ?_ _ | refine blk_drew ?_ | refine blk_alloc ?_ _)); refine blk_put (cs := #[.int .i64 t296, .int .i64 t297, .bool t298, .bool false, .bool false, .bool false, .int .i64 0]) ?_ 3 _ rfl; (with_reducible repeat (first | refine blk_drewN ?_ _ | refine blk_drew ?_ | refine blk_alloc ?_ _)); refine blk_put (cs := #[.int .i64 t296, .int .i64 t297, .bool false, .bool false, .bool false, .bool false, .int .i64 0]) ?_ 2 _ rfl; (with_reducible repeat (first | refine blk_drewN ?_ _ | refine blk_drew ?_ | refine blk_alloc ?_ _)); refine blk_put (cs := #[.int .i64 t296, .int .i64 0, .bool false, .bool false, .bool false, .bool false, .int .i64 0]) ?_ 1 _ rfl; (with_reducible repeat (first | refine blk_drewN ?_ _ | refine blk_drew ?_ | refine blk_alloc ?_ _)); refine blk_put (cs := #[.int .i64 0, .int .i64 0, .bool false, .bool false, .bool false, .bool false, .int .i64 0]) ?_ 0 _ rfl; (with_reducible repeat (first | refine blk_drewN ?_ _ | refine blk_drew ?_ | refine blk_alloc ?_ _)); exact BK304.out) hb); have n1_ := Aside0.mk (below_step (by repeat (first | (with_reducible first | exact HB.out | apply below_alloc | apply pw_below_drewN | apply below_drew1 | refine below_set ?_ GE304.out) | exact HB.out)) hb); clear BK304; clear HB; have BK304 := n0_; have HB := n1_; clear n0_ n1_; (try clear hb); (try clear hb2); (try clear hk); (try clear hi); (try simp only [errW_none, errW_some])) | ((with_reducible refine gate_dst (N := 10) rfl ?_); refine box_event ?hg (N := 10) ?hd (cs := #[.int .i64 0, .int .i64 0, .bool false, .bool false, .bool false, .bool false, .int .i64 0]) (t := 25) ?hr ?_; (case hd => rfl); (case hg => rfl); (case hr => first | (go_simp; done) | (go_simp; rfl)); intro gb314 hg w11 hbox hb; have n0_ := Aside0.mk (blk_below (g := gb304) (o := .cells #[.int .i64 t296, .int .i64 t297, .bool t298, .bool t299, .bool t300, .bool t301, .int .i64 t302] 25 (0, 0)) (by (with_reducible repeat (first | refine blk_drewN ?_ _ | refine blk_drew ?_ | refine blk_alloc ?_ _)); exact BK304.out) hb); have n1_ := Aside0.mk (below_step (by repeat (first | (with_reducible first | exact HB.out | apply below_alloc | apply pw_below_drewN | apply below_drew1 | refine below_set ?_ GE304.out) | exact HB.out)) hb); have n2_ := Aside0.mk (hbox); have n3_ := Aside0.mk ((by rw [hg]; exact (below_size (by repeat (first | (with_reducible first | exact HB.out | apply below_alloc | apply pw_below_drewN | apply below_drew1 | refine below_set ?_ GE304.out) | exact HB.out))) : w.heap.size ≤ gb314)); have n4_ := Aside0.mk ((by rw [hg]; exact (below_size (by repeat (first | (with_reducible first | exact HB.out | apply below_alloc | apply pw_below_drewN | apply below_drew1 | refine below_set ?_ GE304.out) | exact HB.out))) : w.heap.size ≤ gb314)); have n5_ := Aside0.mk ((by rw [hg]; exact Nat.ne_of_lt (blk_lt (g := gb304) (o := .cells #[.int .i64 t296, .int .i64 t297, .bool t298, .bool t299, .bool t300, .bool t301, .int .i64 t302] 25 (0, 0)) (by (with_reducible repeat (first | refine blk_drewN ?_ _ | refine blk_drew ?_ | refine blk_alloc ?_ _)); exact BK304.out)) : gb304 ≠ gb314)); have n6_ := Aside0.mk ((by rw [hg]; exact Nat.ne_of_gt (blk_lt (g := gb304) (o := .cells #[.int .i64 t296, .int .i64 t297, .bool t298, .bool t299, .bool t300, .bool t301, .int .i64 t302] 25 (0, 0)) (by (with_reducible repeat (first | refine blk_drewN ?_ _ | refine blk_drew ?_ | refine blk_alloc ?_ _)); exact BK304.out)) : gb314 ≠ gb304)); clear BK304; clear HB; have BK304 := n0_; have HB := n1_; have BK314 := n2_; have GW314 := n3_; have GE314 := n4_; have NB304_314 := n5_; have NB314_304 := n6_; clear n0_ n1_ n2_ n3_ n4_ n5_ n6_; clear hb hbox hg; have hnb12 := NB314_304.out; have hnc12 := NB304_314.out; have hcz13_0 : w11.cell? ⟨gb314, 0, none⟩ = some (.int .i64 0) := (blk_cell BK314.out 0).trans rfl; have hcz13_1 : w11.cell? ⟨gb314, 1, none⟩ = some (.int .i64 0) := (blk_cell BK314.out 1).trans rfl; have hcz13_2 : w11.cell? ⟨gb314, 2, none⟩ = some (.bool false) := (blk_cell BK314.out 2).trans rfl; have hcz13_3 : w11.cell? ⟨gb314, 3, none⟩ = some (.bool false) := (blk_cell BK314.out 3).trans rfl; have hcz13_4 : w11.cell? ⟨gb314, 4, none⟩ = some (.bool false) := (blk_cell BK314.out 4).trans rfl; have hcz13_5 : w11.cell? ⟨gb314, 5, none⟩ = some (.bool false) := (blk_cell BK314.out 5).trans rfl; have hcz13_6 : w11.cell? ⟨gb314, 6, none⟩ = some (.int .i64 0) := (blk_cell BK314.out 6).trans rfl; have hfz13_0 := blk_frozen BK314.out 0; have hfz13_1 := blk_frozen BK314.out 1; have hfz13_2 := blk_frozen BK314.out 2; have hfz13_3 := blk_frozen BK314.out 3; have hfz13_4 := blk_frozen BK314.out 4; have hfz13_5 := blk_frozen BK314.out 5; have hfz13_6 := blk_frozen BK314.out 6))
      (try simp only [Act.put, List.setIfInBounds_toArray, List.set_cons_zero, List.set_cons_succ])
      go_cut [41] (fun v41 wc => ∃ (kq : Nat) (x41_5 : Bool), v41 = .bool x41_5 ∧ Aside0 (pte_Change.j0 kq x41_5 t296 t297 t298 t299 t300 t301 t302 t306 t307 t308 t309 t310 t311 t312 = some (r1, r2)) ∧ Aside0 (kq ≤ k) ∧ Aside0 (wc.heap[gb304]? = some (.cells #[.int .i64 t296, .int .i64 t297, .bool t298, .bool t299, .bool t300, .bool t301, .int .i64 t302] 25 (0, 0))) ∧ Aside0 (wc.heap[gb314]? = some (.cells #[.int .i64 t306, .int .i64 t307, .bool t308, .bool t309, .bool t310, .bool t311, .int .i64 t312] 25 (0, 0))) ∧ Aside0 (Below w.heap.size w wc))
      case first =>
        have H := HC6.out
        clear HC6
        by_cases c14 : a1 = a2
        · rw [if_pos c14] at H
          have c14b0 : (a1 == a2) = true := beq_iff_eq.mpr c14
          have c14b1 : (a1 != a2) = false := bne_eq_false_iff_eq.mpr c14
          clear c14
          (first | rw [c14b0] | (simp only [i64_w, i32_w]; rw [c14b0]) | skip)
          have H' := Aside0.mk H
          clear H
          go_wp2
          go_meet
          case rel => exact ⟨_, (true), (by first | rfl | (simp; done) | (simp [*]; done)), H', ⟨by first | omega | exact Nat.le_refl _⟩, ⟨by (with_reducible repeat (first | refine blk_drewN ?_ _ | refine blk_drew ?_ | refine blk_alloc ?_ _)); refine blk_far ?_ NB304_314.out _; (with_reducible repeat (first | refine blk_drewN ?_ _ | refine blk_drew ?_ | refine blk_alloc ?_ _)); refine blk_far ?_ NB304_314.out _; (with_reducible repeat (first | refine blk_drewN ?_ _ | refine blk_drew ?_ | refine blk_alloc ?_ _)); refine blk_far ?_ NB304_314.out _; (with_reducible repeat (first | refine blk_drewN ?_ _ | refine blk_drew ?_ | refine blk_alloc ?_ _)); refine blk_far ?_ NB304_314.out _; (with_reducible repeat (first | refine blk_drewN ?_ _ | refine blk_drew ?_ | refine blk_alloc ?_ _)); refine blk_far ?_ NB304_314.out _; (with_reducible repeat (first | refine blk_drewN ?_ _ | refine blk_drew ?_ | refine blk_alloc ?_ _)); refine blk_far ?_ NB304_314.out _; (with_reducible repeat (first | refine blk_drewN ?_ _ | refine blk_drew ?_ | refine blk_alloc ?_ _)); refine blk_far ?_ NB304_314.out _; (with_reducible repeat (first | refine blk_drewN ?_ _ | refine blk_drew ?_ | refine blk_alloc ?_ _)); exact BK304.out⟩, ⟨by (with_reducible repeat (first | refine blk_drewN ?_ _ | refine blk_drew ?_ | refine blk_alloc ?_ _)); refine blk_put (cs := #[.int .i64 t306, .int .i64 t307, .bool t308, .bool t309, .bool t310, .bool t311, .int .i64 0]) ?_ 6 _ rfl; (with_reducible repeat (first | refine blk_drewN ?_ _ | refine blk_drew ?_ | refine blk_alloc ?_ _)); refine blk_put (cs := #[.int .i64 t306, .int .i64 t307, .bool t308, .bool t309, .bool t310, .bool false, .int .i64 0]) ?_ 5 _ rfl; (with_reducible repeat (first | refine blk_drewN ?_ _ | refine blk_drew ?_ | refine blk_alloc ?_ _)); refine blk_put (cs := #[.int .i64 t306, .int .i64 t307, .bool t308, .bool t309, .bool false, .bool false, .int .i64 0]) ?_ 4 _ rfl; (with_reducible repeat (first | refine blk_drewN ?_ _ | refine blk_drew ?_ | refine blk_alloc ?_ _)); refine blk_put (cs := #[.int .i64 t306, .int .i64 t307, .bool t308, .bool false, .bool false, .bool false, .int .i64 0]) ?_ 3 _ rfl; (with_reducible repeat (first | refine blk_drewN ?_ _ | refine blk_drew ?_ | refine blk_alloc ?_ _)); refine blk_put (cs := #[.int .i64 t306, .int .i64 t307, .bool false, .bool false, .bool false, .bool false, .int .i64 0]) ?_ 2 _ rfl; (with_reducible repeat (first | refine blk_drewN ?_ _ | refine blk_drew ?_ | refine blk_alloc ?_ _)); refine blk_put (cs := #[.int .i64 t306, .int .i64 0, .bool false, .bool false, .bool false, .bool false, .int .i64 0]) ?_ 1 _ rfl; (with_reducible repeat (first | refine blk_drewN ?_ _ | refine blk_drew ?_ | refine blk_alloc ?_ _)); refine blk_put (cs := #[.int .i64 0, .int .i64 0, .bool false, .bool false, .bool false, .bool false, .int .i64 0]) ?_ 0 _ rfl; (with_reducible repeat (first | refine blk_drewN ?_ _ | refine blk_drew ?_ | refine blk_alloc ?_ _)); exact BK314.out⟩, ⟨by repeat (first | (with_reducible first | exact HB.out | apply below_alloc | apply pw_below_drewN | apply below_drew1 | refine below_set ?_ GE304.out | refine below_set ?_ GE314.out) | exact HB.out)⟩⟩
        · rw [if_neg c14] at H
          have c14b0 : (a1 == a2) = false := beq_eq_false_iff_ne.mpr c14
          have c14b1 : (a1 != a2) = true := bne_iff_ne.mpr c14
          (first | rw [c14b0] | (simp only [i64_w, i32_w]; rw [c14b0]) | skip)
          by_cases c15 : (Go.bits .and .u64 a1 1) = 0
          · rw [if_pos c15] at H
            have c15b0 : ((Go.bits .and .u64 a1 1) == 0) = true := beq_iff_eq.mpr c15
            have c15b1 : ((Go.bits .and .u64 a1 1) != 0) = false := bne_eq_false_iff_eq.mpr c15
            clear c15
            have H' := Aside0.mk H
            clear H
            go_wp2
            go_meet
            case rel => exact ⟨_, (true), (by first | rfl | (simp; done) | (simp [*]; done)), H', ⟨by first | omega | exact Nat.le_refl _⟩, ⟨by (with_reducible repeat (first | refine blk_drewN ?_ _ | refine blk_drew ?_ | refine blk_alloc ?_ _)); refine blk_far ?_ NB304_314.out _; (with_reducible repeat (first | refine blk_drewN ?_ _ | refine blk_drew ?_ | refine blk_alloc ?_ _)); refine blk_far ?_ NB304_314.out _; (with_reducible repeat (first | refine blk_drewN ?_ _ | refine blk_drew ?_ | refine blk_alloc ?_ _)); refine blk_far ?_ NB304_314.out _; (with_reducible repeat (first | refine blk_drewN ?_ _ | refine blk_drew ?_ | refine blk_alloc ?_ _)); refine blk_far ?_ NB304_314.out _; (with_reducible repeat (first | refine blk_drewN ?_ _ | refine blk_drew ?_ | refine blk_alloc ?_ _)); refine blk_far ?_ NB304_314.out _; (with_reducible repeat (first | refine blk_drewN ?_ _ | refine blk_drew ?_ | refine blk_alloc ?_ _)); refine blk_far ?_ NB304_314.out _; (with_reducible repeat (first | refine blk_drewN ?_ _ | refine blk_drew ?_ | refine blk_alloc ?_ _)); refine blk_far ?_ NB304_314.out _; (with_reducible repeat (first | refine blk_drewN ?_ _ | refine blk_drew ?_ | refine blk_alloc ?_ _)); exact BK304.out⟩, ⟨by (with_reducible repeat (first | refine blk_drewN ?_ _ | refine blk_drew ?_ | refine blk_alloc ?_ _)); refine blk_put (cs := #[.int .i64 t306, .int .i64 t307, .bool t308, .bool t309, .bool t310, .bool t311, .int .i64 0]) ?_ 6 _ rfl; (with_reducible repeat (first | refine blk_drewN ?_ _ | refine blk_drew ?_ | refine blk_alloc ?_ _)); refine blk_put (cs := #[.int .i64 t306, .int .i64 t307, .bool t308, .bool t309, .bool t310, .bool false, .int .i64 0]) ?_ 5 _ rfl; (with_reducible repeat (first | refine blk_drewN ?_ _ | refine blk_drew ?_ | refine blk_alloc ?_ _)); refine blk_put (cs := #[.int .i64 t306, .int .i64 t307, .bool t308, .bool t309, .bool false, .bool false, .int .i64 0]) ?_ 4 _ rfl; (with_reducible repeat (first | refine blk_drewN ?_ _ | refine blk_drew ?_ | refine blk_alloc ?_ _)); refine blk_put (cs := #[.int .i64 t306, .int .i64 t307, .bool t308, .bool false, .bool false, .bool false, .int .i64 0]) ?_ 3 _ rfl; (with_reducible repeat (first | refine blk_drewN ?_ _ | refine blk_drew ?_ | refine blk_alloc ?_ _)); refine blk_put (cs := #[.int .i64 t306, .int .i64 t307, .bool false, .bool false, .bool false, .bool false, .int .i64 0]) ?_ 2 _ rfl; (with_reducible repeat (first | refine blk_drewN ?_ _ | refine blk_drew ?_ | refine blk_alloc ?_ _)); refine blk_put (cs := #[.int .i64 t306, .int .i64 0, .bool false, .bool false, .bool false, .bool false, .int .i64 0]) ?_ 1 _ rfl; (with_reducible repeat (first | refine blk_drewN ?_ _ | refine blk_drew ?_ | refine blk_alloc ?_ _)); refine blk_put (cs := #[.int .i64 0, .int .i64 0, .bool false, .bool false, .bool false, .bool false, .int .i64 0]) ?_ 0 _ rfl; (with_reducible repeat (first | refine blk_drewN ?_ _ | refine blk_drew ?_ | refine blk_alloc ?_ _)); exact BK314.out⟩, ⟨by repeat (first | (with_reducible first | exact HB.out | apply below_alloc | apply pw_below_drewN | apply below_drew1 | refine below_set ?_ GE304.out | refine below_set ?_ GE314.out) | exact HB.out)⟩⟩
          · rw [if_neg c15] at H
            have c15b0 : ((Go.bits .and .u64 a1 1) == 0) = false := beq_eq_false_iff_ne.mpr c15
            have c15b1 : ((Go.bits .and .u64 a1 1) != 0) = true := bne_iff_ne.mpr c15
            have H' := Aside0.mk H
            clear H
            go_wp2
            go_meet
            case rel => exact ⟨_, (((Go.bits .and .u64 a2 1) == 0)), (by first | rfl | (simp; done) | (simp [*]; done)), H', ⟨by first | omega | exact Nat.le_refl _⟩, ⟨by (with_reducible repeat (first | refine blk_drewN ?_ _ | refine blk_drew ?_ | refine blk_alloc ?_ _)); refine blk_far ?_ NB304_314.out _; (with_reducible repeat (first | refine blk_drewN ?_ _ | refine blk_drew ?_ | refine blk_alloc ?_ _)); refine blk_far ?_ NB304_314.out _; (with_reducible repeat (first | refine blk_drewN ?_ _ | refine blk_drew ?_ | refine blk_alloc ?_ _)); refine blk_far ?_ NB304_314.out _; (with_reducible repeat (first | refine blk_drewN ?_ _ | refine blk_drew ?_ | refine blk_alloc ?_ _)); refine blk_far ?_ NB304_314.out _; (with_reducible repeat (first | refine blk_drewN ?_ _ | refine blk_drew ?_ | refine blk_alloc ?_ _)); refine blk_far ?_ NB304_314.out _; (with_reducible repeat (first | refine blk_drewN ?_ _ | refine blk_drew ?_ | refine blk_alloc ?_ _)); refine blk_far ?_ NB304_314.out _; (with_reducible repeat (first | refine blk_drewN ?_ _ | refine blk_drew ?_ | refine blk_alloc ?_ _)); refine blk_far ?_ NB304_314.out _; (with_reducible repeat (first | refine blk_drewN ?_ _ | refine blk_drew ?_ | refine blk_alloc ?_ _)); exact BK304.out⟩, ⟨by (with_reducible repeat (first | refine blk_drewN ?_ _ | refine blk_drew ?_ | refine blk_alloc ?_ _)); refine blk_put (cs := #[.int .i64 t306, .int .i64 t307, .bool t308, .bool t309, .bool t310, .bool t311, .int .i64 0]) ?_ 6 _ rfl; (with_reducible repeat (first | refine blk_drewN ?_ _ | refine blk_drew ?_ | refine blk_alloc ?_ _)); refine blk_put (cs := #[.int .i64 t306, .int .i64 t307, .bool t308, .bool t309, .bool t310, .bool false, .int .i64 0]) ?_ 5 _ rfl; (with_reducible repeat (first | refine blk_drewN ?_ _ | refine blk_drew ?_ | refine blk_alloc ?_ _)); refine blk_put (cs := #[.int .i64 t306, .int .i64 t307, .bool t308, .bool t309, .bool false, .bool false, .int .i64 0]) ?_ 4 _ rfl; (with_reducible repeat (first | refine blk_drewN ?_ _ | refine blk_drew ?_ | refine blk_alloc ?_ _)); refine blk_put (cs := #[.int .i64 t306, .int .i64 t307, .bool t308, .bool false, .bool false, .bool false, .int .i64 0]) ?_ 3 _ rfl; (with_reducible repeat (first | refine blk_drewN ?_ _ | refine blk_drew ?_ | refine blk_alloc ?_ _)); refine blk_put (cs := #[.int .i64 t306, .int .i64 t307, .bool false, .bool false, .bool false, .bool false, .int .i64 0]) ?_ 2 _ rfl; (with_reducible repeat (first | refine blk_drewN ?_ _ | refine blk_drew ?_ | refine blk_alloc ?_ _)); refine blk_put (cs := #[.int .i64 t306, .int .i64 0, .bool false, .bool false, .bool false, .bool false, .int .i64 0]) ?_ 1 _ rfl; (with_reducible repeat (first | refine blk_drewN ?_ _ | refine blk_drew ?_ | refine blk_alloc ?_ _)); refine blk_put (cs := #[.int .i64 0, .int .i64 0, .bool false, .bool false, .bool false, .bool false, .int .i64 0]) ?_ 0 _ rfl; (with_reducible repeat (first | refine blk_drewN ?_ _ | refine blk_drew ?_ | refine blk_alloc ?_ _)); exact BK314.out⟩, ⟨by repeat (first | (with_reducible first | exact HB.out | apply below_alloc | apply pw_below_drewN | apply below_drew1 | refine below_set ?_ GE304.out | refine below_set ?_ GE314.out) | exact HB.out)⟩⟩
      case rest =>
        clear HC6
        try clear c1
        try clear p2
        try clear q3
        try clear c11
        try clear c12
        try clear c14
        try clear c14b0
        try clear c14b1
        try clear c15
        try clear c15b0
        try clear c15b1
        try clear hcz13_0
        try clear hcz13_1
        try clear hcz13_2
        try clear hcz13_3
        try clear hcz13_4
        try clear hcz13_5
        try clear hcz13_6
        try clear hcz9_0
        try clear hcz9_1
        try clear hcz9_2
        try clear hcz9_3
        try clear hcz9_4
        try clear hcz9_5
        try clear hcz9_6
        try clear hfz13_0
        try clear hfz13_1
        try clear hfz13_2
        try clear hfz13_3
        try clear hfz13_4
        try clear hfz13_5
        try clear hfz13_6
        try clear hfz9_0
        try clear hfz9_1
        try clear hfz9_2
        try clear hfz9_3
        try clear hfz9_4
        try clear hfz9_5
        try clear hfz9_6
        try clear q305
        try clear q315
        obtain ⟨kq, x41_5, rfl, HA, HJ5, BK304, BK314, HB⟩ := hcut
        cases kq with
        | zero => exact absurd HA.out (by simp [pte_Change.j0])
        | succ kj5 =>
          have H := HA.out
          clear HA
          simp only [pte_Change.j0] at H
          by_cases c16 : x41_5 = true
          · subst c16
            have H1 : (some (true, none)) = some (r1, r2) := by rw [if_pos rfl] at H; exact H
            clear H
            have H := H1
            clear H1
            simp only [Option.some.injEq, Prod.mk.injEq] at H
            obtain ⟨rfl, rfl⟩ := H
            go_wp2
            go_ret2
            exact ⟨by first | rfl | (simp [errW_none, errW_some] <;> rfl) | (simp [*, errW_none, errW_some] <;> rfl), by repeat (first | (with_reducible first | exact HB.out | apply below_alloc | apply pw_below_drewN | apply below_drew1 | refine below_set ?_ GE304.out | refine below_set ?_ GE314.out) | exact HB.out)⟩
          · replace c16 := Bool.eq_false_iff.mpr c16
            subst c16
            have H1 : (if (t296 == t306 && (t297 == t307 && (t298 == t308 && (t299 == t309 && (t301 == t311))))) = true then (some ((t296 != 5), none)) else (some (false, none))) = some (r1, r2) := by rw [if_neg (show ¬ (false = true) by decide)] at H; exact H
            clear H
            have H := H1
            clear H1
            by_cases c17 : (t296 == t306 && (t297 == t307 && (t298 == t308 && (t299 == t309 && (t301 == t311))))) = true
            · rw [if_pos c17] at H
              have c17b0 : (t296 == t306 && (t297 == t307 && (t298 == t308 && (t299 == t309 && (t301 == t311))))) = true := c17
              (try (have c17b1 : decide (t296 = t306 && (t297 == t307 && (t298 == t308 && (t299 == t309 && (t301 == t311))))) = true := by simpa using c17))
              (try (have c17b2 : (t296 == t306 && (t297 == t307 && (t298 == t308 && (t299 == t309 && (t301 == t311))))) = true := by simpa using c17))
              clear c17
              simp only [Option.some.injEq, Prod.mk.injEq] at H
              obtain ⟨rfl, rfl⟩ := H
              have hnb18 := NB304_314.out
              have hnc18 := NB314_304.out
              have hcz19_0 : wc.cell? ⟨gb304, 0, none⟩ = some (.int .i64 t296) := (blk_cell BK304.out 0).trans rfl
              have hcz19_1 : wc.cell? ⟨gb304, 1, none⟩ = some (.int .i64 t297) := (blk_cell BK304.out 1).trans rfl
              have hcz19_2 : wc.cell? ⟨gb304, 2, none⟩ = some (.bool t298) := (blk_cell BK304.out 2).trans rfl
              have hcz19_3 : wc.cell? ⟨gb304, 3, none⟩ = some (.bool t299) := (blk_cell BK304.out 3).trans rfl
              have hcz19_4 : wc.cell? ⟨gb304, 4, none⟩ = some (.bool t300) := (blk_cell BK304.out 4).trans rfl
              have hcz19_5 : wc.cell? ⟨gb304, 5, none⟩ = some (.bool t301) := (blk_cell BK304.out 5).trans rfl
              have hcz19_6 : wc.cell? ⟨gb304, 6, none⟩ = some (.int .i64 t302) := (blk_cell BK304.out 6).trans rfl
              have hfz19_0 := blk_frozen BK304.out 0
              have hfz19_1 := blk_frozen BK304.out 1
              have hfz19_2 := blk_frozen BK304.out 2
              have hfz19_3 := blk_frozen BK304.out 3
              have hfz19_4 := blk_frozen BK304.out 4
              have hfz19_5 := blk_frozen BK304.out 5
              have hfz19_6 := blk_frozen BK304.out 6
              have hcz20_0 : wc.cell? ⟨gb314, 0, none⟩ = some (.int .i64 t306) := (blk_cell BK314.out 0).trans rfl
              have hcz20_1 : wc.cell? ⟨gb314, 1, none⟩ = some (.int .i64 t307) := (blk_cell BK314.out 1).trans rfl
              have hcz20_2 : wc.cell? ⟨gb314, 2, none⟩ = some (.bool t308) := (blk_cell BK314.out 2).trans rfl
              have hcz20_3 : wc.cell? ⟨gb314, 3, none⟩ = some (.bool t309) := (blk_cell BK314.out 3).trans rfl
              have hcz20_4 : wc.cell? ⟨gb314, 4, none⟩ = some (.bool t310) := (blk_cell BK314.out 4).trans rfl
              have hcz20_5 : wc.cell? ⟨gb314, 5, none⟩ = some (.bool t311) := (blk_cell BK314.out 5).trans rfl
              have hcz20_6 : wc.cell? ⟨gb314, 6, none⟩ = some (.int .i64 t312) := (blk_cell BK314.out 6).trans rfl
              have hfz20_0 := blk_frozen BK314.out 0
              have hfz20_1 := blk_frozen BK314.out 1
              have hfz20_2 := blk_frozen BK314.out 2
              have hfz20_3 := blk_frozen BK314.out 3
              have hfz20_4 := blk_frozen BK314.out 4
              have hfz20_5 := blk_frozen BK314.out 5
              have hfz20_6 := blk_frozen BK314.out 6
              go_wp2
              go_ret2
              exact ⟨by first | rfl | (simp [errW_none, errW_some] <;> rfl) | (simp [*, errW_none, errW_some] <;> rfl), by repeat (first | (with_reducible first | exact HB.out | apply below_alloc | apply pw_below_drewN | apply below_drew1 | refine below_set ?_ GE304.out | refine below_set ?_ GE314.out) | exact HB.out)⟩
            · rw [if_neg c17] at H
              have c17b0 : (t296 == t306 && (t297 == t307 && (t298 == t308 && (t299 == t309 && (t301 == t311))))) = false := by simpa using c17
              (try (have c17b1 : decide (t296 = t306 && (t297 == t307 && (t298 == t308 && (t299 == t309 && (t301 == t311))))) = false := by simpa using c17))
              (try (have c17b2 : (t296 == t306 && (t297 == t307 && (t298 == t308 && (t299 == t309 && (t301 == t311))))) = false := by simpa using c17))
              (try (have c17b3 : ¬ (t296 = t306 && (t297 == t307 && (t298 == t308 && (t299 == t309 && (t301 == t311))))) := by simpa using c17))
              clear c17
              simp only [Option.some.injEq, Prod.mk.injEq] at H
              obtain ⟨rfl, rfl⟩ := H
              have hnb21 := NB304_314.out
              have hnc21 := NB314_304.out
              have hcz22_0 : wc.cell? ⟨gb304, 0, none⟩ = some (.int .i64 t296) := (blk_cell BK304.out 0).trans rfl
              have hcz22_1 : wc.cell? ⟨gb304, 1, none⟩ = some (.int .i64 t297) := (blk_cell BK304.out 1).trans rfl
              have hcz22_2 : wc.cell? ⟨gb304, 2, none⟩ = some (.bool t298) := (blk_cell BK304.out 2).trans rfl
              have hcz22_3 : wc.cell? ⟨gb304, 3, none⟩ = some (.bool t299) := (blk_cell BK304.out 3).trans rfl
              have hcz22_4 : wc.cell? ⟨gb304, 4, none⟩ = some (.bool t300) := (blk_cell BK304.out 4).trans rfl
              have hcz22_5 : wc.cell? ⟨gb304, 5, none⟩ = some (.bool t301) := (blk_cell BK304.out 5).trans rfl
              have hcz22_6 : wc.cell? ⟨gb304, 6, none⟩ = some (.int .i64 t302) := (blk_cell BK304.out 6).trans rfl
              have hfz22_0 := blk_frozen BK304.out 0
              have hfz22_1 := blk_frozen BK304.out 1
              have hfz22_2 := blk_frozen BK304.out 2
              have hfz22_3 := blk_frozen BK304.out 3
              have hfz22_4 := blk_frozen BK304.out 4
              have hfz22_5 := blk_frozen BK304.out 5
              have hfz22_6 := blk_frozen BK304.out 6
              have hcz23_0 : wc.cell? ⟨gb314, 0, none⟩ = some (.int .i64 t306) := (blk_cell BK314.out 0).trans rfl
              have hcz23_1 : wc.cell? ⟨gb314, 1, none⟩ = some (.int .i64 t307) := (blk_cell BK314.out 1).trans rfl
              have hcz23_2 : wc.cell? ⟨gb314, 2, none⟩ = some (.bool t308) := (blk_cell BK314.out 2).trans rfl
              have hcz23_3 : wc.cell? ⟨gb314, 3, none⟩ = some (.bool t309) := (blk_cell BK314.out 3).trans rfl
              have hcz23_4 : wc.cell? ⟨gb314, 4, none⟩ = some (.bool t310) := (blk_cell BK314.out 4).trans rfl
              have hcz23_5 : wc.cell? ⟨gb314, 5, none⟩ = some (.bool t311) := (blk_cell BK314.out 5).trans rfl
              have hcz23_6 : wc.cell? ⟨gb314, 6, none⟩ = some (.int .i64 t312) := (blk_cell BK314.out 6).trans rfl
              have hfz23_0 := blk_frozen BK314.out 0
              have hfz23_1 := blk_frozen BK314.out 1
              have hfz23_2 := blk_frozen BK314.out 2
              have hfz23_3 := blk_frozen BK314.out 3
              have hfz23_4 := blk_frozen BK314.out 4
              have hfz23_5 := blk_frozen BK314.out 5
              have hfz23_6 := blk_frozen BK314.out 6
              go_wp2
              go_ret2
              exact ⟨by first | rfl | (simp [errW_none, errW_some] <;> rfl) | (simp [*, errW_none, errW_some] <;> rfl), by repeat (first | (with_reducible first | exact HB.out | apply below_alloc | apply pw_below_drewN | apply below_drew1 | refine below_set ?_ GE304.out | refine below_set ?_ GE314.out) | exact HB.out)⟩
    · have H1 : (some (false, some q315)) = some (r1, r2) := by rw [if_neg (show ¬ (some q315).isNone = true by simp)] at H; exact H
      clear H
      have H := H1
      clear H1
      try simp only [errW_none, errW_some]
      simp only [Option.some.injEq, Prod.mk.injEq] at H
      obtain ⟨rfl, rfl⟩ := H
      go_enter Try.func16, Try.ntmps16
      go_wp2_with (first | ((with_reducible refine gate_callee (f := 11) rfl ?_); refine goesL_ (some 14) rfl rfl Try.func11 (by kernel_rfl) rfl #[.int .i64 a0, .int .u64 a1] rfl (by (try simp only [List.map_toArray, List.map_cons, List.map_nil]); first | done | rfl | (simp only [List.length_drop, List.length_take]; rfl)) ?_; (with_reducible refine (pte_Decode.calls k a0 a1 t296 t297 t298 t299 t300 t301 t302 none _ A4.out).mono ?_); rintro e w24 ⟨rfl, hb⟩; refine ⟨_, rfl, ?_⟩; have n0_ := Aside0.mk (below_step (by repeat (first | (with_reducible first | exact HB.out | apply below_alloc | apply pw_below_drewN | apply below_drew1) | exact HB.out)) hb); clear HB; have HB := n0_; clear n0_; (try clear hb); (try clear hb2); (try clear hk); (try clear hi); (try simp only [errW_none, errW_some])) | ((with_reducible refine gate_dst (N := 8) rfl ?_); refine box_event ?hg (N := 8) ?hd (cs := #[.int .i64 0, .int .i64 0, .bool false, .bool false, .bool false, .bool false, .int .i64 0]) (t := 25) ?hr ?_; (case hd => rfl); (case hg => rfl); (case hr => first | (go_simp; done) | (go_simp; rfl)); intro gb304 hg w25 hbox hb; have n0_ := Aside0.mk (below_step (by repeat (first | (with_reducible first | exact HB.out | apply below_alloc | apply pw_below_drewN | apply below_drew1) | exact HB.out)) hb); have n1_ := Aside0.mk (hbox); have n2_ := Aside0.mk ((by rw [hg]; exact (below_size (by repeat (first | (with_reducible first | exact HB.out | apply below_alloc | apply pw_below_drewN | apply below_drew1) | exact HB.out))) : w.heap.size ≤ gb304)); have n3_ := Aside0.mk ((by rw [hg]; exact (below_size (by repeat (first | (with_reducible first | exact HB.out | apply below_alloc | apply pw_below_drewN | apply below_drew1) | exact HB.out))) : w.heap.size ≤ gb304)); clear HB; have HB := n0_; have BK304 := n1_; have GW304 := n2_; have GE304 := n3_; clear n0_ n1_ n2_ n3_; clear hb hbox hg; have hcz26_0 : w25.cell? ⟨gb304, 0, none⟩ = some (.int .i64 0) := (blk_cell BK304.out 0).trans rfl; have hcz26_1 : w25.cell? ⟨gb304, 1, none⟩ = some (.int .i64 0) := (blk_cell BK304.out 1).trans rfl; have hcz26_2 : w25.cell? ⟨gb304, 2, none⟩ = some (.bool false) := (blk_cell BK304.out 2).trans rfl; have hcz26_3 : w25.cell? ⟨gb304, 3, none⟩ = some (.bool false) := (blk_cell BK304.out 3).trans rfl; have hcz26_4 : w25.cell? ⟨gb304, 4, none⟩ = some (.bool false) := (blk_cell BK304.out 4).trans rfl; have hcz26_5 : w25.cell? ⟨gb304, 5, none⟩ = some (.bool false) := (blk_cell BK304.out 5).trans rfl; have hcz26_6 : w25.cell? ⟨gb304, 6, none⟩ = some (.int .i64 0) := (blk_cell BK304.out 6).trans rfl; have hfz26_0 := blk_frozen BK304.out 0; have hfz26_1 := blk_frozen BK304.out 1; have hfz26_2 := blk_frozen BK304.out 2; have hfz26_3 := blk_frozen BK304.out 3; have hfz26_4 := blk_frozen BK304.out 4; have hfz26_5 := blk_frozen BK304.out 5; have hfz26_6 := blk_frozen BK304.out 6) | ((with_reducible refine gate_callee (f := 11) rfl ?_); refine goesL_ (some 23) rfl rfl Try.func11 (by kernel_rfl) rfl #[.int .i64 a0, .int .u64 a2] rfl (by (try simp only [List.map_toArray, List.map_cons, List.map_nil]); first | done | rfl | (simp only [List.length_drop, List.length_take]; rfl)) ?_; (with_reducible refine (pte_Decode.calls k a0 a2 t306 t307 t308 t309 t310 t311 t312 (some q315) _ A5.out).mono ?_); rintro e w27 ⟨rfl, hb⟩; refine ⟨_, rfl, ?_⟩; have n0_ := Aside0.mk (blk_below (g := gb304) (o := .cells #[.int .i64 t296, .int .i64 t297, .bool t298, .bool t299, .bool t300, .bool t301, .int .i64 t302] 25 (0, 0)) (by (with_reducible repeat (first | refine blk_drewN ?_ _ | refine blk_drew ?_ | refine blk_alloc ?_ _)); refine blk_put (cs := #[.int .i64 t296, .int .i64 t297, .bool t298, .bool t299, .bool t300, .bool t301, .int .i64 0]) ?_ 6 _ rfl; (with_reducible repeat (first | refine blk_drewN ?_ _ | refine blk_drew ?_ | refine blk_alloc ?_ _)); refine blk_put (cs := #[.int .i64 t296, .int .i64 t297, .bool t298, .bool t299, .bool t300, .bool false, .int .i64 0]) ?_ 5 _ rfl; (with_reducible repeat (first | refine blk_drewN ?_ _ | refine blk_drew ?_ | refine blk_alloc ?_ _)); refine blk_put (cs := #[.int .i64 t296, .int .i64 t297, .bool t298, .bool t299, .bool false, .bool false, .int .i64 0]) ?_ 4 _ rfl; (with_reducible repeat (first | refine blk_drewN ?_ _ | refine blk_drew ?_ | refine blk_alloc ?_ _)); refine blk_put (cs := #[.int .i64 t296, .int .i64 t297, .bool t298, .bool false, .bool false, .bool false, .int .i64 0]) ?_ 3 _ rfl; (with_reducible repeat (first | refine blk_drewN ?_ _ | refine blk_drew ?_ | refine blk_alloc ?_ _)); refine blk_put (cs := #[.int .i64 t296, .int .i64 t297, .bool false, .bool false, .bool false, .bool false, .int .i64 0]) ?_ 2 _ rfl; (with_reducible repeat (first | refine blk_drewN ?_ _ | refine blk_drew ?_ | refine blk_alloc ?_ _)); refine blk_put (cs := #[.int .i64 t296, .int .i64 0, .bool false, .bool false, .bool false, .bool false, .int .i64 0]) ?_ 1 _ rfl; (with_reducible repeat (first | refine blk_drewN ?_ _ | refine blk_drew ?_ | refine blk_alloc ?_ _)); refine blk_put (cs := #[.int .i64 0, .int .i64 0, .bool false, .bool false, .bool false, .bool false, .int .i64 0]) ?_ 0 _ rfl; (with_reducible repeat (first | refine blk_drewN ?_ _ | refine blk_drew ?_ | refine blk_alloc ?_ _)); exact BK304.out) hb); have n1_ := Aside0.mk (below_step (by repeat (first | (with_reducible first | exact HB.out | apply below_alloc | apply pw_below_drewN | apply below_drew1 | refine below_set ?_ GE304.out) | exact HB.out)) hb); clear BK304; clear HB; have BK304 := n0_; have HB := n1_; clear n0_ n1_; (try clear hb); (try clear hb2); (try clear hk); (try clear hi); (try simp only [errW_none, errW_some])) | ((with_reducible refine gate_dst (N := 10) rfl ?_); refine box_event ?hg (N := 10) ?hd (cs := #[.int .i64 0, .int .i64 0, .bool false, .bool false, .bool false, .bool false, .int .i64 0]) (t := 25) ?hr ?_; (case hd => rfl); (case hg => rfl); (case hr => first | (go_simp; done) | (go_simp; rfl)); intro gb314 hg w28 hbox hb; have n0_ := Aside0.mk (blk_below (g := gb304) (o := .cells #[.int .i64 t296, .int .i64 t297, .bool t298, .bool t299, .bool t300, .bool t301, .int .i64 t302] 25 (0, 0)) (by (with_reducible repeat (first | refine blk_drewN ?_ _ | refine blk_drew ?_ | refine blk_alloc ?_ _)); exact BK304.out) hb); have n1_ := Aside0.mk (below_step (by repeat (first | (with_reducible first | exact HB.out | apply below_alloc | apply pw_below_drewN | apply below_drew1 | refine below_set ?_ GE304.out) | exact HB.out)) hb); have n2_ := Aside0.mk (hbox); have n3_ := Aside0.mk ((by rw [hg]; exact (below_size (by repeat (first | (with_reducible first | exact HB.out | apply below_alloc | apply pw_below_drewN | apply below_drew1 | refine below_set ?_ GE304.out) | exact HB.out))) : w.heap.size ≤ gb314)); have n4_ := Aside0.mk ((by rw [hg]; exact (below_size (by repeat (first | (with_reducible first | exact HB.out | apply below_alloc | apply pw_below_drewN | apply below_drew1 | refine below_set ?_ GE304.out) | exact HB.out))) : w.heap.size ≤ gb314)); have n5_ := Aside0.mk ((by rw [hg]; exact Nat.ne_of_lt (blk_lt (g := gb304) (o := .cells #[.int .i64 t296, .int .i64 t297, .bool t298, .bool t299, .bool t300, .bool t301, .int .i64 t302] 25 (0, 0)) (by (with_reducible repeat (first | refine blk_drewN ?_ _ | refine blk_drew ?_ | refine blk_alloc ?_ _)); exact BK304.out)) : gb304 ≠ gb314)); have n6_ := Aside0.mk ((by rw [hg]; exact Nat.ne_of_gt (blk_lt (g := gb304) (o := .cells #[.int .i64 t296, .int .i64 t297, .bool t298, .bool t299, .bool t300, .bool t301, .int .i64 t302] 25 (0, 0)) (by (with_reducible repeat (first | refine blk_drewN ?_ _ | refine blk_drew ?_ | refine blk_alloc ?_ _)); exact BK304.out)) : gb314 ≠ gb304)); clear BK304; clear HB; have BK304 := n0_; have HB := n1_; have BK314 := n2_; have GW314 := n3_; have GE314 := n4_; have NB304_314 := n5_; have NB314_304 := n6_; clear n0_ n1_ n2_ n3_ n4_ n5_ n6_; clear hb hbox hg; have hnb29 := NB314_304.out; have hnc29 := NB304_314.out; have hcz30_0 : w28.cell? ⟨gb314, 0, none⟩ = some (.int .i64 0) := (blk_cell BK314.out 0).trans rfl; have hcz30_1 : w28.cell? ⟨gb314, 1, none⟩ = some (.int .i64 0) := (blk_cell BK314.out 1).trans rfl; have hcz30_2 : w28.cell? ⟨gb314, 2, none⟩ = some (.bool false) := (blk_cell BK314.out 2).trans rfl; have hcz30_3 : w28.cell? ⟨gb314, 3, none⟩ = some (.bool false) := (blk_cell BK314.out 3).trans rfl; have hcz30_4 : w28.cell? ⟨gb314, 4, none⟩ = some (.bool false) := (blk_cell BK314.out 4).trans rfl; have hcz30_5 : w28.cell? ⟨gb314, 5, none⟩ = some (.bool false) := (blk_cell BK314.out 5).trans rfl; have hcz30_6 : w28.cell? ⟨gb314, 6, none⟩ = some (.int .i64 0) := (blk_cell BK314.out 6).trans rfl; have hfz30_0 := blk_frozen BK314.out 0; have hfz30_1 := blk_frozen BK314.out 1; have hfz30_2 := blk_frozen BK314.out 2; have hfz30_3 := blk_frozen BK314.out 3; have hfz30_4 := blk_frozen BK314.out 4; have hfz30_5 := blk_frozen BK314.out 5; have hfz30_6 := blk_frozen BK314.out 6))
      go_ret2
      exact ⟨by first | rfl | (simp [errW_none, errW_some] <;> rfl) | (simp [*, errW_none, errW_some] <;> rfl), by repeat (first | (with_reducible first | exact HB.out | apply below_alloc | apply pw_below_drewN | apply below_drew1 | refine below_set ?_ GE304.out | refine below_set ?_ GE314.out) | exact HB.out)⟩
  · have H1 : (some (false, some q305)) = some (r1, r2) := by rw [if_neg (show ¬ (some q305).isNone = true by simp)] at H; exact H
    clear H
    have H := H1
    clear H1
    try simp only [errW_none, errW_some]
    simp only [Option.some.injEq, Prod.mk.injEq] at H
    obtain ⟨rfl, rfl⟩ := H
    go_enter Try.func16, Try.ntmps16
    go_wp2_with (first | ((with_reducible refine gate_callee (f := 11) rfl ?_); refine goesL_ (some 14) rfl rfl Try.func11 (by kernel_rfl) rfl #[.int .i64 a0, .int .u64 a1] rfl (by (try simp only [List.map_toArray, List.map_cons, List.map_nil]); first | done | rfl | (simp only [List.length_drop, List.length_take]; rfl)) ?_; (with_reducible refine (pte_Decode.calls k a0 a1 t296 t297 t298 t299 t300 t301 t302 (some q305) _ A4.out).mono ?_); rintro e w31 ⟨rfl, hb⟩; refine ⟨_, rfl, ?_⟩; have n0_ := Aside0.mk (below_step (by repeat (first | (with_reducible first | exact HB.out | apply below_alloc | apply pw_below_drewN | apply below_drew1) | exact HB.out)) hb); clear HB; have HB := n0_; clear n0_; (try clear hb); (try clear hb2); (try clear hk); (try clear hi); (try simp only [errW_none, errW_some])) | ((with_reducible refine gate_dst (N := 8) rfl ?_); refine box_event ?hg (N := 8) ?hd (cs := #[.int .i64 0, .int .i64 0, .bool false, .bool false, .bool false, .bool false, .int .i64 0]) (t := 25) ?hr ?_; (case hd => rfl); (case hg => rfl); (case hr => first | (go_simp; done) | (go_simp; rfl)); intro gb304 hg w32 hbox hb; have n0_ := Aside0.mk (below_step (by repeat (first | (with_reducible first | exact HB.out | apply below_alloc | apply pw_below_drewN | apply below_drew1) | exact HB.out)) hb); have n1_ := Aside0.mk (hbox); have n2_ := Aside0.mk ((by rw [hg]; exact (below_size (by repeat (first | (with_reducible first | exact HB.out | apply below_alloc | apply pw_below_drewN | apply below_drew1) | exact HB.out))) : w.heap.size ≤ gb304)); have n3_ := Aside0.mk ((by rw [hg]; exact (below_size (by repeat (first | (with_reducible first | exact HB.out | apply below_alloc | apply pw_below_drewN | apply below_drew1) | exact HB.out))) : w.heap.size ≤ gb304)); clear HB; have HB := n0_; have BK304 := n1_; have GW304 := n2_; have GE304 := n3_; clear n0_ n1_ n2_ n3_; clear hb hbox hg; have hcz33_0 : w32.cell? ⟨gb304, 0, none⟩ = some (.int .i64 0) := (blk_cell BK304.out 0).trans rfl; have hcz33_1 : w32.cell? ⟨gb304, 1, none⟩ = some (.int .i64 0) := (blk_cell BK304.out 1).trans rfl; have hcz33_2 : w32.cell? ⟨gb304, 2, none⟩ = some (.bool false) := (blk_cell BK304.out 2).trans rfl; have hcz33_3 : w32.cell? ⟨gb304, 3, none⟩ = some (.bool false) := (blk_cell BK304.out 3).trans rfl; have hcz33_4 : w32.cell? ⟨gb304, 4, none⟩ = some (.bool false) := (blk_cell BK304.out 4).trans rfl; have hcz33_5 : w32.cell? ⟨gb304, 5, none⟩ = some (.bool false) := (blk_cell BK304.out 5).trans rfl; have hcz33_6 : w32.cell? ⟨gb304, 6, none⟩ = some (.int .i64 0) := (blk_cell BK304.out 6).trans rfl; have hfz33_0 := blk_frozen BK304.out 0; have hfz33_1 := blk_frozen BK304.out 1; have hfz33_2 := blk_frozen BK304.out 2; have hfz33_3 := blk_frozen BK304.out 3; have hfz33_4 := blk_frozen BK304.out 4; have hfz33_5 := blk_frozen BK304.out 5; have hfz33_6 := blk_frozen BK304.out 6))
    go_ret2
    exact ⟨by first | rfl | (simp [errW_none, errW_some] <;> rfl) | (simp [*, errW_none, errW_some] <;> rfl), by repeat (first | (with_reducible first | exact HB.out | apply below_alloc | apply pw_below_drewN | apply below_drew1 | refine below_set ?_ GE304.out) | exact HB.out)⟩

/-! ### paviorref02_Change: function 17 -/
def paviorref02_Change.j0 : Nat → Int → Int → Int → Bool → Option (Bool)
  | 0, _, _, _, _ => none
  | k + 1, x0, x1, x2, x21 => if x21 = true then (some true) else ((paviorref02_Decode.f k x0 x1).bind fun bt316 => ((paviorref02_Decode.f k x0 x2).bind fun bt324 => (if (bt316.1 == bt324.1 && (bt316.2.1 == bt324.2.1 && (bt316.2.2.1 == bt324.2.2.1 && (bt316.2.2.2.1 == bt324.2.2.2.1 && (bt316.2.2.2.2.2.1 == bt324.2.2.2.2.2.1))))) = true then (some (bt316.1 != 5)) else (some false))))
def paviorref02_Change.f (k : Nat) (a0 : Int) (a1 : Int) (a2 : Int) : Option (Bool) := if a1 = a2 then (paviorref02_Change.j0 k a0 a1 a2 true) else (if (Int.tmod a1 2) = 0 then (paviorref02_Change.j0 k a0 a1 a2 true) else (paviorref02_Change.j0 k a0 a1 a2 ((Int.tmod a2 2) == 0)))
theorem paviorref02_Change.mono_l : ∀ k, (∀ y0 y1 y2 y3, LeO (paviorref02_Change.j0 k y0 y1 y2 y3) (paviorref02_Change.j0 (k + 1) y0 y1 y2 y3))
  | 0 => fun _ _ _ _ r h => by simp [paviorref02_Change.j0] at h
  | k + 1 => by
    have ih0 := paviorref02_Change.mono_l k
    · intro y0 y1 y2 y3
      unfold paviorref02_Change.j0
      repeat' first
      | (with_reducible exact ih0 _ _ _ _)
      | (with_reducible exact paviorref02_Decode.mono _ _ _)
      | (with_reducible exact LeO.refl _)
      | (with_reducible exact LeO.none _)
      | (with_reducible refine LeO.ite ?_ ?_)
      | (with_reducible refine LeO.bind ?_ (fun _ => ?_))
      | exact ih0 _ _ _ _
      | exact paviorref02_Decode.mono _ _ _
      | exact LeO.none _
      | refine LeO.ite ?_ ?_
      | refine LeO.bind ?_ (fun _ => ?_)
theorem paviorref02_Change.mono : ∀ a0 a1 a2 k, LeO (paviorref02_Change.f k a0 a1 a2) (paviorref02_Change.f (k + 1) a0 a1 a2) := by
  intro a0 a1 a2 k
  have ih0 := paviorref02_Change.mono_l k
  unfold paviorref02_Change.f
  repeat' first
      | (with_reducible exact ih0 _ _ _ _)
      | (with_reducible exact paviorref02_Decode.mono _ _ _)
      | (with_reducible exact LeO.refl _)
      | (with_reducible exact LeO.none _)
      | (with_reducible refine LeO.ite ?_ ?_)
      | (with_reducible refine LeO.bind ?_ (fun _ => ?_))
      | exact ih0 _ _ _ _
      | exact paviorref02_Decode.mono _ _ _
      | exact LeO.none _
      | refine LeO.ite ?_ ?_
      | refine LeO.bind ?_ (fun _ => ?_)
set_option maxHeartbeats 8000000 in
set_option maxRecDepth 100000 in
theorem paviorref02_Change.calls (k : Nat) (a0 : Int) (a1 : Int) (a2 : Int) (r : Bool) (w : World) (h : paviorref02_Change.f k a0 a1 a2 = some r) :
    Calls Try.prog 17 #[.int .i64 a0, .int .u64 a1, .int .u64 a2] w fun e w' => e = .returned (.bool r) ∧ Below w.heap.size w w' := by
  have hu25 := Try.underlying25
  have HB := Aside0.mk (Below.refl w.heap.size w)
  have H : (if a1 = a2 then (paviorref02_Change.j0 k a0 a1 a2 true) else (if (Int.tmod a1 2) = 0 then (paviorref02_Change.j0 k a0 a1 a2 true) else (paviorref02_Change.j0 k a0 a1 a2 ((Int.tmod a2 2) == 0)))) = some r := h
  clear h
  have HC4 := Aside0.mk H
  clear H
  go_enter Try.func17, Try.ntmps17
  go_upto_region 1 with (fail)
  go_cut [21] (fun v21 wc => ∃ (kq : Nat) (x21_3 : Bool), v21 = .bool x21_3 ∧ Aside0 (paviorref02_Change.j0 kq a0 a1 a2 x21_3 = some r) ∧ Aside0 (kq ≤ k) ∧ Aside0 (Below w.heap.size w wc))
  case first =>
    have H := HC4.out
    clear HC4
    by_cases c5 : a1 = a2
    · rw [if_pos c5] at H
      have c5b0 : (a1 == a2) = true := beq_iff_eq.mpr c5
      have c5b1 : (a1 != a2) = false := bne_eq_false_iff_eq.mpr c5
      clear c5
      (first | rw [c5b0] | (simp only [i64_w, i32_w]; rw [c5b0]) | skip)
      have H' := Aside0.mk H
      clear H
      go_wp2
      go_meet
      case rel => exact ⟨_, (true), (by first | rfl | (simp; done) | (simp [*]; done)), H', ⟨by first | omega | exact Nat.le_refl _⟩, ⟨by repeat (first | (with_reducible first | exact HB.out | apply below_alloc | apply pw_below_drewN | apply below_drew1) | exact HB.out)⟩⟩
    · rw [if_neg c5] at H
      have c5b0 : (a1 == a2) = false := beq_eq_false_iff_ne.mpr c5
      have c5b1 : (a1 != a2) = true := bne_iff_ne.mpr c5
      (first | rw [c5b0] | (simp only [i64_w, i32_w]; rw [c5b0]) | skip)
      by_cases c6 : (Int.tmod a1 2) = 0
      · rw [if_pos c6] at H
        have c6b0 : ((Int.tmod a1 2) == 0) = true := beq_iff_eq.mpr c6
        have c6b1 : ((Int.tmod a1 2) != 0) = false := bne_eq_false_iff_eq.mpr c6
        clear c6
        have H' := Aside0.mk H
        clear H
        go_wp2
        go_meet
        case rel => exact ⟨_, (true), (by first | rfl | (simp; done) | (simp [*]; done)), H', ⟨by first | omega | exact Nat.le_refl _⟩, ⟨by repeat (first | (with_reducible first | exact HB.out | apply below_alloc | apply pw_below_drewN | apply below_drew1) | exact HB.out)⟩⟩
      · rw [if_neg c6] at H
        have c6b0 : ((Int.tmod a1 2) == 0) = false := beq_eq_false_iff_ne.mpr c6
        have c6b1 : ((Int.tmod a1 2) != 0) = true := bne_iff_ne.mpr c6
        have H' := Aside0.mk H
        clear H
        go_wp2
        go_meet
        case rel => exact ⟨_, (((Int.tmod a2 2) == 0)), (by first | rfl | (simp; done) | (simp [*]; done)), H', ⟨by first | omega | exact Nat.le_refl _⟩, ⟨by repeat (first | (with_reducible first | exact HB.out | apply below_alloc | apply pw_below_drewN | apply below_drew1) | exact HB.out)⟩⟩
  case rest =>
    clear HC4
    try clear c1
    try clear p2
    try clear c5
    try clear c5b0
    try clear c5b1
    try clear c6
    try clear c6b0
    try clear c6b1
    obtain ⟨kq, x21_3, rfl, HA, HJ3, HB⟩ := hcut
    cases kq with
    | zero => exact absurd HA.out (by simp [paviorref02_Change.j0])
    | succ kj3 =>
      have H := HA.out
      clear HA
      simp only [paviorref02_Change.j0] at H
      by_cases c7 : x21_3 = true
      · subst c7
        have H1 : (some true) = some r := by rw [if_pos rfl] at H; exact H
        clear H
        have H := H1
        clear H1
        obtain rfl := Option.some.inj H
        go_wp2
        go_ret
        exact ⟨by first | rfl | (simp [errW_none, errW_some] <;> rfl) | (simp [*, errW_none, errW_some] <;> rfl), by repeat (first | (with_reducible first | exact HB.out | apply below_alloc | apply pw_below_drewN | apply below_drew1) | exact HB.out)⟩
      · replace c7 := Bool.eq_false_iff.mpr c7
        subst c7
        have H1 : ((paviorref02_Decode.f kj3 a0 a1).bind fun bt316 => ((paviorref02_Decode.f kj3 a0 a2).bind fun bt324 => (if (bt316.1 == bt324.1 && (bt316.2.1 == bt324.2.1 && (bt316.2.2.1 == bt324.2.2.1 && (bt316.2.2.2.1 == bt324.2.2.2.1 && (bt316.2.2.2.2.2.1 == bt324.2.2.2.2.2.1))))) = true then (some (bt316.1 != 5)) else (some false)))) = some r := by rw [if_neg (show ¬ (false = true) by decide)] at H; exact H
        clear H
        have H := H1
        clear H1
        replace H := Option.bind_eq_some_iff.mp H
        obtain ⟨⟨t316, t317, t318, t319, t320, t321, t322⟩, A80, H⟩ := H
        replace H : ((paviorref02_Decode.f kj3 a0 a2).bind fun bt324 => (if (t316 == bt324.1 && (t317 == bt324.2.1 && (t318 == bt324.2.2.1 && (t319 == bt324.2.2.2.1 && (t321 == bt324.2.2.2.2.2.1))))) = true then (some (t316 != 5)) else (some false))) = some r := H
        have A8 := Aside0.mk A80
        clear A80
        replace H := Option.bind_eq_some_iff.mp H
        obtain ⟨⟨t324, t325, t326, t327, t328, t329, t330⟩, A90, H⟩ := H
        replace H : (if (t316 == t324 && (t317 == t325 && (t318 == t326 && (t319 == t327 && (t321 == t329))))) = true then (some (t316 != 5)) else (some false)) = some r := H
        have A9 := Aside0.mk A90
        clear A90
        by_cases c10 : (t316 == t324 && (t317 == t325 && (t318 == t326 && (t319 == t327 && (t321 == t329))))) = true
        · rw [if_pos c10] at H
          have c10b0 : (t316 == t324 && (t317 == t325 && (t318 == t326 && (t319 == t327 && (t321 == t329))))) = true := c10
          (try (have c10b1 : decide (t316 = t324 && (t317 == t325 && (t318 == t326 && (t319 == t327 && (t321 == t329))))) = true := by simpa using c10))
          (try (have c10b2 : (t316 == t324 && (t317 == t325 && (t318 == t326 && (t319 == t327 && (t321 == t329))))) = true := by simpa using c10))
          clear c10
          obtain rfl := Option.some.inj H
          go_wp2_with (first | ((with_reducible refine gate_callee (f := 12) rfl ?_); refine goesL_ (some 24) rfl rfl Try.func12 (by kernel_rfl) rfl #[.int .i64 a0, .int .u64 a1] rfl (by (try simp only [List.map_toArray, List.map_cons, List.map_nil]); first | done | rfl | (simp only [List.length_drop, List.length_take]; rfl)) ?_; (with_reducible refine (paviorref02_Decode.calls kj3 a0 a1 t316 t317 t318 t319 t320 t321 t322 _ A8.out).mono ?_); rintro e w11 ⟨rfl, hb⟩; refine ⟨_, rfl, ?_⟩; have n0_ := Aside0.mk (below_step (by repeat (first | (with_reducible first | exact HB.out | apply below_alloc | apply pw_below_drewN | apply below_drew1) | exact HB.out)) hb); clear HB; have HB := n0_; clear n0_; (try clear hb); (try clear hb2); (try clear hk); (try clear hi)) | ((with_reducible refine gate_dst (N := 7) rfl ?_); refine box_event ?hg (N := 7) ?hd (cs := #[.int .i64 0, .int .i64 0, .bool false, .bool false, .bool false, .bool false, .int .i64 0]) (t := 25) ?hr ?_; (case hd => rfl); (case hg => rfl); (case hr => first | (go_simp; done) | (go_simp; rfl)); intro gb323 hg w12 hbox hb; have n0_ := Aside0.mk (below_step (by repeat (first | (with_reducible first | exact HB.out | apply below_alloc | apply pw_below_drewN | apply below_drew1) | exact HB.out)) hb); have n1_ := Aside0.mk (hbox); have n2_ := Aside0.mk ((by rw [hg]; exact (below_size (by repeat (first | (with_reducible first | exact HB.out | apply below_alloc | apply pw_below_drewN | apply below_drew1) | exact HB.out))) : w.heap.size ≤ gb323)); have n3_ := Aside0.mk ((by rw [hg]; exact (below_size (by repeat (first | (with_reducible first | exact HB.out | apply below_alloc | apply pw_below_drewN | apply below_drew1) | exact HB.out))) : w.heap.size ≤ gb323)); clear HB; have HB := n0_; have BK323 := n1_; have GW323 := n2_; have GE323 := n3_; clear n0_ n1_ n2_ n3_; clear hb hbox hg; have hcz13_0 : w12.cell? ⟨gb323, 0, none⟩ = some (.int .i64 0) := (blk_cell BK323.out 0).trans rfl; have hcz13_1 : w12.cell? ⟨gb323, 1, none⟩ = some (.int .i64 0) := (blk_cell BK323.out 1).trans rfl; have hcz13_2 : w12.cell? ⟨gb323, 2, none⟩ = some (.bool false) := (blk_cell BK323.out 2).trans rfl; have hcz13_3 : w12.cell? ⟨gb323, 3, none⟩ = some (.bool false) := (blk_cell BK323.out 3).trans rfl; have hcz13_4 : w12.cell? ⟨gb323, 4, none⟩ = some (.bool false) := (blk_cell BK323.out 4).trans rfl; have hcz13_5 : w12.cell? ⟨gb323, 5, none⟩ = some (.bool false) := (blk_cell BK323.out 5).trans rfl; have hcz13_6 : w12.cell? ⟨gb323, 6, none⟩ = some (.int .i64 0) := (blk_cell BK323.out 6).trans rfl; have hfz13_0 := blk_frozen BK323.out 0; have hfz13_1 := blk_frozen BK323.out 1; have hfz13_2 := blk_frozen BK323.out 2; have hfz13_3 := blk_frozen BK323.out 3; have hfz13_4 := blk_frozen BK323.out 4; have hfz13_5 := blk_frozen BK323.out 5; have hfz13_6 := blk_frozen BK323.out 6) | ((with_reducible refine gate_callee (f := 12) rfl ?_); refine goesL_ (some 27) rfl rfl Try.func12 (by kernel_rfl) rfl #[.int .i64 a0, .int .u64 a2] rfl (by (try simp only [List.map_toArray, List.map_cons, List.map_nil]); first | done | rfl | (simp only [List.length_drop, List.length_take]; rfl)) ?_; (with_reducible refine (paviorref02_Decode.calls kj3 a0 a2 t324 t325 t326 t327 t328 t329 t330 _ A9.out).mono ?_); rintro e w14 ⟨rfl, hb⟩; refine ⟨_, rfl, ?_⟩; have n0_ := Aside0.mk (blk_below (g := gb323) (o := .cells #[.int .i64 t316, .int .i64 t317, .bool t318, .bool t319, .bool t320, .bool t321, .int .i64 t322] 25 (0, 0)) (by (with_reducible repeat (first | refine blk_drewN ?_ _ | refine blk_drew ?_ | refine blk_alloc ?_ _)); refine blk_put (cs := #[.int .i64 t316, .int .i64 t317, .bool t318, .bool t319, .bool t320, .bool t321, .int .i64 0]) ?_ 6 _ rfl; (with_reducible repeat (first | refine blk_drewN ?_ _ | refine blk_drew ?_ | refine blk_alloc ?_ _)); refine blk_put (cs := #[.int .i64 t316, .int .i64 t317, .bool t318, .bool t319, .bool t320, .bool false, .int .i64 0]) ?_ 5 _ rfl; (with_reducible repeat (first | refine blk_drewN ?_ _ | refine blk_drew ?_ | refine blk_alloc ?_ _)); refine blk_put (cs := #[.int .i64 t316, .int .i64 t317, .bool t318, .bool t319, .bool false, .bool false, .int .i64 0]) ?_ 4 _ rfl; (with_reducible repeat (first | refine blk_drewN ?_ _ | refine blk_drew ?_ | refine blk_alloc ?_ _)); refine blk_put (cs := #[.int .i64 t316, .int .i64 t317, .bool t318, .bool false, .bool false, .bool false, .int .i64 0]) ?_ 3 _ rfl; (with_reducible repeat (first | refine blk_drewN ?_ _ | refine blk_drew ?_ | refine blk_alloc ?_ _)); refine blk_put (cs := #[.int .i64 t316, .int .i64 t317, .bool false, .bool false, .bool false, .bool false, .int .i64 0]) ?_ 2 _ rfl; (with_reducible repeat (first | refine blk_drewN ?_ _ | refine blk_drew ?_ | refine blk_alloc ?_ _)); refine blk_put (cs := #[.int .i64 t316, .int .i64 0, .bool false, .bool false, .bool false, .bool false, .int .i64 0]) ?_ 1 _ rfl; (with_reducible repeat (first | refine blk_drewN ?_ _ | refine blk_drew ?_ | refine blk_alloc ?_ _)); refine blk_put (cs := #[.int .i64 0, .int .i64 0, .bool false, .bool false, .bool false, .bool false, .int .i64 0]) ?_ 0 _ rfl; (with_reducible repeat (first | refine blk_drewN ?_ _ | refine blk_drew ?_ | refine blk_alloc ?_ _)); exact BK323.out) hb); have n1_ := Aside0.mk (below_step (by repeat (first | (with_reducible first | exact HB.out | apply below_alloc | apply pw_below_drewN | apply below_drew1 | refine below_set ?_ GE323.out) | exact HB.out)) hb); clear BK323; clear HB; have BK323 := n0_; have HB := n1_; clear n0_ n1_; (try clear hb); (try clear hb2); (try clear hk); (try clear hi)) | ((with_reducible refine gate_dst (N := 8) rfl ?_); refine box_event ?hg (N := 8) ?hd (cs := #[.int .i64 0, .int .i64 0, .bool false, .bool false, .bool false, .bool false, .int .i64 0]) (t := 25) ?hr ?_; (case hd => rfl); (case hg => rfl); (case hr => first | (go_simp; done) | (go_simp; rfl)); intro gb331 hg w15 hbox hb; have n0_ := Aside0.mk (blk_below (g := gb323) (o := .cells #[.int .i64 t316, .int .i64 t317, .bool t318, .bool t319, .bool t320, .bool t321, .int .i64 t322] 25 (0, 0)) (by (with_reducible repeat (first | refine blk_drewN ?_ _ | refine blk_drew ?_ | refine blk_alloc ?_ _)); exact BK323.out) hb); have n1_ := Aside0.mk (below_step (by repeat (first | (with_reducible first | exact HB.out | apply below_alloc | apply pw_below_drewN | apply below_drew1 | refine below_set ?_ GE323.out) | exact HB.out)) hb); have n2_ := Aside0.mk (hbox); have n3_ := Aside0.mk ((by rw [hg]; exact (below_size (by repeat (first | (with_reducible first | exact HB.out | apply below_alloc | apply pw_below_drewN | apply below_drew1 | refine below_set ?_ GE323.out) | exact HB.out))) : w.heap.size ≤ gb331)); have n4_ := Aside0.mk ((by rw [hg]; exact (below_size (by repeat (first | (with_reducible first | exact HB.out | apply below_alloc | apply pw_below_drewN | apply below_drew1 | refine below_set ?_ GE323.out) | exact HB.out))) : w.heap.size ≤ gb331)); have n5_ := Aside0.mk ((by rw [hg]; exact Nat.ne_of_lt (blk_lt (g := gb323) (o := .cells #[.int .i64 t316, .int .i64 t317, .bool t318, .bool t319, .bool t320, .bool t321, .int .i64 t322] 25 (0, 0)) (by (with_reducible repeat (first | refine blk_drewN ?_ _ | refine blk_drew ?_ | refine blk_alloc ?_ _)); exact BK323.out)) : gb323 ≠ gb331)); have n6_ := Aside0.mk ((by rw [hg]; exact Nat.ne_of_gt (blk_lt (g := gb323) (o := .cells #[.int .i64 t316, .int .i64 t317, .bool t318, .bool t319, .bool t320, .bool t321, .int .i64 t322] 25 (0, 0)) (by (with_reducible repeat (first | refine blk_drewN ?_ _ | refine blk_drew ?_ | refine blk_alloc ?_ _)); exact BK323.out)) : gb331 ≠ gb323)); clear BK323; clear HB; have BK323 := n0_; have HB := n1_; have BK331 := n2_; have GW331 := n3_; have GE331 := n4_; have NB323_331 := n5_; have NB331_323 := n6_; clear n0_ n1_ n2_ n3_ n4_ n5_ n6_; clear hb hbox hg; have hnb16 := NB331_323.out; have hnc16 := NB323_331.out; have hcz17_0 : w15.cell? ⟨gb331, 0, none⟩ = some (.int .i64 0) := (blk_cell BK331.out 0).trans rfl; have hcz17_1 : w15.cell? ⟨gb331, 1, none⟩ = some (.int .i64 0) := (blk_cell BK331.out 1).trans rfl; have hcz17_2 : w15.cell? ⟨gb331, 2, none⟩ = some (.bool false) := (blk_cell BK331.out 2).trans rfl; have hcz17_3 : w15.cell? ⟨gb331, 3, none⟩ = some (.bool false) := (blk_cell BK331.out 3).trans rfl; have hcz17_4 : w15.cell? ⟨gb331, 4, none⟩ = some (.bool false) := (blk_cell BK331.out 4).trans rfl; have hcz17_5 : w15.cell? ⟨gb331, 5, none⟩ = some (.bool false) := (blk_cell BK331.out 5).trans rfl; have hcz17_6 : w15.cell? ⟨gb331, 6, none⟩ = some (.int .i64 0) := (blk_cell BK331.out 6).trans rfl; have hfz17_0 := blk_frozen BK331.out 0; have hfz17_1 := blk_frozen BK331.out 1; have hfz17_2 := blk_frozen BK331.out 2; have hfz17_3 := blk_frozen BK331.out 3; have hfz17_4 := blk_frozen BK331.out 4; have hfz17_5 := blk_frozen BK331.out 5; have hfz17_6 := blk_frozen BK331.out 6; have hcz18_0 : w15.cell? ⟨gb323, 0, none⟩ = some (.int .i64 t316) := (blk_cell BK323.out 0).trans rfl; have hcz18_1 : w15.cell? ⟨gb323, 1, none⟩ = some (.int .i64 t317) := (blk_cell BK323.out 1).trans rfl; have hcz18_2 : w15.cell? ⟨gb323, 2, none⟩ = some (.bool t318) := (blk_cell BK323.out 2).trans rfl; have hcz18_3 : w15.cell? ⟨gb323, 3, none⟩ = some (.bool t319) := (blk_cell BK323.out 3).trans rfl; have hcz18_4 : w15.cell? ⟨gb323, 4, none⟩ = some (.bool t320) := (blk_cell BK323.out 4).trans rfl; have hcz18_5 : w15.cell? ⟨gb323, 5, none⟩ = some (.bool t321) := (blk_cell BK323.out 5).trans rfl; have hcz18_6 : w15.cell? ⟨gb323, 6, none⟩ = some (.int .i64 t322) := (blk_cell BK323.out 6).trans rfl; have hfz18_0 := blk_frozen BK323.out 0; have hfz18_1 := blk_frozen BK323.out 1; have hfz18_2 := blk_frozen BK323.out 2; have hfz18_3 := blk_frozen BK323.out 3; have hfz18_4 := blk_frozen BK323.out 4; have hfz18_5 := blk_frozen BK323.out 5; have hfz18_6 := blk_frozen BK323.out 6))
          go_ret
          exact ⟨by first | rfl | (simp [errW_none, errW_some] <;> rfl) | (simp [*, errW_none, errW_some] <;> rfl), by repeat (first | (with_reducible first | exact HB.out | apply below_alloc | apply pw_below_drewN | apply below_drew1 | refine below_set ?_ GE323.out | refine below_set ?_ GE331.out) | exact HB.out)⟩
        · rw [if_neg c10] at H
          have c10b0 : (t316 == t324 && (t317 == t325 && (t318 == t326 && (t319 == t327 && (t321 == t329))))) = false := by simpa using c10
          (try (have c10b1 : decide (t316 = t324 && (t317 == t325 && (t318 == t326 && (t319 == t327 && (t321 == t329))))) = false := by simpa using c10))
          (try (have c10b2 : (t316 == t324 && (t317 == t325 && (t318 == t326 && (t319 == t327 && (t321 == t329))))) = false := by simpa using c10))
          (try (have c10b3 : ¬ (t316 = t324 && (t317 == t325 && (t318 == t326 && (t319 == t327 && (t321 == t329))))) := by simpa using c10))
          clear c10
          obtain rfl := Option.some.inj H
          go_wp2_with (first | ((with_reducible refine gate_callee (f := 12) rfl ?_); refine goesL_ (some 24) rfl rfl Try.func12 (by kernel_rfl) rfl #[.int .i64 a0, .int .u64 a1] rfl (by (try simp only [List.map_toArray, List.map_cons, List.map_nil]); first | done | rfl | (simp only [List.length_drop, List.length_take]; rfl)) ?_; (with_reducible refine (paviorref02_Decode.calls kj3 a0 a1 t316 t317 t318 t319 t320 t321 t322 _ A8.out).mono ?_); rintro e w19 ⟨rfl, hb⟩; refine ⟨_, rfl, ?_⟩; have n0_ := Aside0.mk (below_step (by repeat (first | (with_reducible first | exact HB.out | apply below_alloc | apply pw_below_drewN | apply below_drew1) | exact HB.out)) hb); clear HB; have HB := n0_; clear n0_; (try clear hb); (try clear hb2); (try clear hk); (try clear hi)) | ((with_reducible refine gate_dst (N := 7) rfl ?_); refine box_event ?hg (N := 7) ?hd (cs := #[.int .i64 0, .int .i64 0, .bool false, .bool false, .bool false, .bool false, .int .i64 0]) (t := 25) ?hr ?_; (case hd => rfl); (case hg => rfl); (case hr => first | (go_simp; done) | (go_simp; rfl)); intro gb323 hg w20 hbox hb; have n0_ := Aside0.mk (below_step (by repeat (first | (with_reducible first | exact HB.out | apply below_alloc | apply pw_below_drewN | apply below_drew1) | exact HB.out)) hb); have n1_ := Aside0.mk (hbox); have n2_ := Aside0.mk ((by rw [hg]; exact (below_size (by repeat (first | (with_reducible first | exact HB.out | apply below_alloc | apply pw_below_drewN | apply below_drew1) | exact HB.out))) : w.heap.size ≤ gb323)); have n3_ := Aside0.mk ((by rw [hg]; exact (below_size (by repeat (first | (with_reducible first | exact HB.out | apply below_alloc | apply pw_below_drewN | apply below_drew1) | exact HB.out))) : w.heap.size ≤ gb323)); clear HB; have HB := n0_; have BK323 := n1_; have GW323 := n2_; have GE323 := n3_; clear n0_ n1_ n2_ n3_; clear hb hbox hg; have hcz21_0 : w20.cell? ⟨gb323, 0, none⟩ = some (.int .i64 0) := (blk_cell BK323.out 0).trans rfl; have hcz21_1 : w20.cell? ⟨gb323, 1, none⟩ = some (.int .i64 0) := (blk_cell BK323.out 1).trans rfl; have hcz21_2 : w20.cell? ⟨gb323, 2, none⟩ = some (.bool false) := (blk_cell BK323.out 2).trans rfl; have hcz21_3 : w20.cell? ⟨gb323, 3, none⟩ = some (.bool false) := (blk_cell BK323.out 3).trans rfl; have hcz21_4 : w20.cell? ⟨gb323, 4, none⟩ = some (.bool false) := (blk_cell BK323.out 4).trans rfl; have hcz21_5 : w20.cell? ⟨gb323, 5, none⟩ = some (.bool false) := (blk_cell BK323.out 5).trans rfl; have hcz21_6 : w20.cell? ⟨gb323, 6, none⟩ = some (.int .i64 0) := (blk_cell BK323.out 6).trans rfl; have hfz21_0 := blk_frozen BK323.out 0; have hfz21_1 := blk_frozen BK323.out 1; have hfz21_2 := blk_frozen BK323.out 2; have hfz21_3 := blk_frozen BK323.out 3; have hfz21_4 := blk_frozen BK323.out 4; have hfz21_5 := blk_frozen BK323.out 5; have hfz21_6 := blk_frozen BK323.out 6) | ((with_reducible refine gate_callee (f := 12) rfl ?_); refine goesL_ (some 27) rfl rfl Try.func12 (by kernel_rfl) rfl #[.int .i64 a0, .int .u64 a2] rfl (by (try simp only [List.map_toArray, List.map_cons, List.map_nil]); first | done | rfl | (simp only [List.length_drop, List.length_take]; rfl)) ?_; (with_reducible refine (paviorref02_Decode.calls kj3 a0 a2 t324 t325 t326 t327 t328 t329 t330 _ A9.out).mono ?_); rintro e w22 ⟨rfl, hb⟩; refine ⟨_, rfl, ?_⟩; have n0_ := Aside0.mk (blk_below (g := gb323) (o := .cells #[.int .i64 t316, .int .i64 t317, .bool t318, .bool t319, .bool t320, .bool t321, .int .i64 t322] 25 (0, 0)) (by (with_reducible repeat (first | refine blk_drewN ?_ _ | refine blk_drew ?_ | refine blk_alloc ?_ _)); refine blk_put (cs := #[.int .i64 t316, .int .i64 t317, .bool t318, .bool t319, .bool t320, .bool t321, .int .i64 0]) ?_ 6 _ rfl; (with_reducible repeat (first | refine blk_drewN ?_ _ | refine blk_drew ?_ | refine blk_alloc ?_ _)); refine blk_put (cs := #[.int .i64 t316, .int .i64 t317, .bool t318, .bool t319, .bool t320, .bool false, .int .i64 0]) ?_ 5 _ rfl; (with_reducible repeat (first | refine blk_drewN ?_ _ | refine blk_drew ?_ | refine blk_alloc ?_ _)); refine blk_put (cs := #[.int .i64 t316, .int .i64 t317, .bool t318, .bool t319, .bool false, .bool false, .int .i64 0]) ?_ 4 _ rfl; (with_reducible repeat (first | refine blk_drewN ?_ _ | refine blk_drew ?_ | refine blk_alloc ?_ _)); refine blk_put (cs := #[.int .i64 t316, .int .i64 t317, .bool t318, .bool false, .bool false, .bool false, .int .i64 0]) ?_ 3 _ rfl; (with_reducible repeat (first | refine blk_drewN ?_ _ | refine blk_drew ?_ | refine blk_alloc ?_ _)); refine blk_put (cs := #[.int .i64 t316, .int .i64 t317, .bool false, .bool false, .bool false, .bool false, .int .i64 0]) ?_ 2 _ rfl; (with_reducible repeat (first | refine blk_drewN ?_ _ | refine blk_drew ?_ | refine blk_alloc ?_ _)); refine blk_put (cs := #[.int .i64 t316, .int .i64 0, .bool false, .bool false, .bool false, .bool false, .int .i64 0]) ?_ 1 _ rfl; (with_reducible repeat (first | refine blk_drewN ?_ _ | refine blk_drew ?_ | refine blk_alloc ?_ _)); refine blk_put (cs := #[.int .i64 0, .int .i64 0, .bool false, .bool false, .bool false, .bool false, .int .i64 0]) ?_ 0 _ rfl; (with_reducible repeat (first | refine blk_drewN ?_ _ | refine blk_drew ?_ | refine blk_alloc ?_ _)); exact BK323.out) hb); have n1_ := Aside0.mk (below_step (by repeat (first | (with_reducible first | exact HB.out | apply below_alloc | apply pw_below_drewN | apply below_drew1 | refine below_set ?_ GE323.out) | exact HB.out)) hb); clear BK323; clear HB; have BK323 := n0_; have HB := n1_; clear n0_ n1_; (try clear hb); (try clear hb2); (try clear hk); (try clear hi)) | ((with_reducible refine gate_dst (N := 8) rfl ?_); refine box_event ?hg (N := 8) ?hd (cs := #[.int .i64 0, .int .i64 0, .bool false, .bool false, .bool false, .bool false, .int .i64 0]) (t := 25) ?hr ?_; (case hd => rfl); (case hg => rfl); (case hr => first | (go_simp; done) | (go_simp; rfl)); intro gb331 hg w23 hbox hb; have n0_ := Aside0.mk (blk_below (g := gb323) (o := .cells #[.int .i64 t316, .int .i64 t317, .bool t318, .bool t319, .bool t320, .bool t321, .int .i64 t322] 25 (0, 0)) (by (with_reducible repeat (first | refine blk_drewN ?_ _ | refine blk_drew ?_ | refine blk_alloc ?_ _)); exact BK323.out) hb); have n1_ := Aside0.mk (below_step (by repeat (first | (with_reducible first | exact HB.out | apply below_alloc | apply pw_below_drewN | apply below_drew1 | refine below_set ?_ GE323.out) | exact HB.out)) hb); have n2_ := Aside0.mk (hbox); have n3_ := Aside0.mk ((by rw [hg]; exact (below_size (by repeat (first | (with_reducible first | exact HB.out | apply below_alloc | apply pw_below_drewN | apply below_drew1 | refine below_set ?_ GE323.out) | exact HB.out))) : w.heap.size ≤ gb331)); have n4_ := Aside0.mk ((by rw [hg]; exact (below_size (by repeat (first | (with_reducible first | exact HB.out | apply below_alloc | apply pw_below_drewN | apply below_drew1 | refine below_set ?_ GE323.out) | exact HB.out))) : w.heap.size ≤ gb331)); have n5_ := Aside0.mk ((by rw [hg]; exact Nat.ne_of_lt (blk_lt (g := gb323) (o := .cells #[.int .i64 t316, .int .i64 t317, .bool t318, .bool t319, .bool t320, .bool t321, .int .i64 t322] 25 (0, 0)) (by (with_reducible repeat (first | refine blk_drewN ?_ _ | refine blk_drew ?_ | refine blk_alloc ?_ _)); exact BK323.out)) : gb323 ≠ gb331)); have n6_ := Aside0.mk ((by rw [hg]; exact Nat.ne_of_gt (blk_lt (g := gb323) (o := .cells #[.int .i64 t316, .int .i64 t317, .bool t318, .bool t319, .bool t320, .bool t321, .int .i64 t322] 25 (0, 0)) (by (with_reducible repeat (first | refine blk_drewN ?_ _ | refine blk_drew ?_ | refine blk_alloc ?_ _)); exact BK323.out)) : gb331 ≠ gb323)); clear BK323; clear HB; have BK323 := n0_; have HB := n1_; have BK331 := n2_; have GW331 := n3_; have GE331 := n4_; have NB323_331 := n5_; have NB331_323 := n6_; clear n0_ n1_ n2_ n3_ n4_ n5_ n6_; clear hb hbox hg; have hnb24 := NB331_323.out; have hnc24 := NB323_331.out; have hcz25_0 : w23.cell? ⟨gb331, 0, none⟩ = some (.int .i64 0) := (blk_cell BK331.out 0).trans rfl; have hcz25_1 : w23.cell? ⟨gb331, 1, none⟩ = some (.int .i64 0) := (blk_cell BK331.out 1).trans rfl; have hcz25_2 : w23.cell? ⟨gb331, 2, none⟩ = some (.bool false) := (blk_cell BK331.out 2).trans rfl; have hcz25_3 : w23.cell? ⟨gb331, 3, none⟩ = some (.bool false) := (blk_cell BK331.out 3).trans rfl; have hcz25_4 : w23.cell? ⟨gb331, 4, none⟩ = some (.bool false) := (blk_cell BK331.out 4).trans rfl; have hcz25_5 : w23.cell? ⟨gb331, 5, none⟩ = some (.bool false) := (blk_cell BK331.out 5).trans rfl; have hcz25_6 : w23.cell? ⟨gb331, 6, none⟩ = some (.int .i64 0) := (blk_cell BK331.out 6).trans rfl; have hfz25_0 := blk_frozen BK331.out 0; have hfz25_1 := blk_frozen BK331.out 1; have hfz25_2 := blk_frozen BK331.out 2; have hfz25_3 := blk_frozen BK331.out 3; have hfz25_4 := blk_frozen BK331.out 4; have hfz25_5 := blk_frozen BK331.out 5; have hfz25_6 := blk_frozen BK331.out 6; have hcz26_0 : w23.cell? ⟨gb323, 0, none⟩ = some (.int .i64 t316) := (blk_cell BK323.out 0).trans rfl; have hcz26_1 : w23.cell? ⟨gb323, 1, none⟩ = some (.int .i64 t317) := (blk_cell BK323.out 1).trans rfl; have hcz26_2 : w23.cell? ⟨gb323, 2, none⟩ = some (.bool t318) := (blk_cell BK323.out 2).trans rfl; have hcz26_3 : w23.cell? ⟨gb323, 3, none⟩ = some (.bool t319) := (blk_cell BK323.out 3).trans rfl; have hcz26_4 : w23.cell? ⟨gb323, 4, none⟩ = some (.bool t320) := (blk_cell BK323.out 4).trans rfl; have hcz26_5 : w23.cell? ⟨gb323, 5, none⟩ = some (.bool t321) := (blk_cell BK323.out 5).trans rfl; have hcz26_6 : w23.cell? ⟨gb323, 6, none⟩ = some (.int .i64 t322) := (blk_cell BK323.out 6).trans rfl; have hfz26_0 := blk_frozen BK323.out 0; have hfz26_1 := blk_frozen BK323.out 1; have hfz26_2 := blk_frozen BK323.out 2; have hfz26_3 := blk_frozen BK323.out 3; have hfz26_4 := blk_frozen BK323.out 4; have hfz26_5 := blk_frozen BK323.out 5; have hfz26_6 := blk_frozen BK323.out 6))
          go_ret
          exact ⟨by first | rfl | (simp [errW_none, errW_some] <;> rfl) | (simp [*, errW_none, errW_some] <;> rfl), by repeat (first | (with_reducible first | exact HB.out | apply below_alloc | apply pw_below_drewN | apply below_drew1 | refine below_set ?_ GE323.out | refine below_set ?_ GE331.out) | exact HB.out)⟩

/-! ### paviorlaw02_PteChanges: function 8 -/
def paviorlaw02_PteChanges.j0 : Nat → Int → Int → Int → Bool → Bool → Option Int → Bool → Option (Bool)
  | 0, _, _, _, _, _, _, _ => none
  | k + 1, x0, x1, x2, x7, x8, x9, x23 => if x23 = true then (if x7 = true then (if x9.isNone = true then (some false) else (if (x9.getD 0) = 1 then (some (!x8)) else (some false))) else (some false)) else (if x7 = true then (if x9.isNone = true then ((paviorref02_Change.f k x0 x1 x2).bind fun t337 => (some (x8 == t337))) else (some false)) else (some false))
def paviorlaw02_PteChanges.f (k : Nat) (a0 : Int) (a1 : Int) (a2 : Int) : Option (Bool) := (paviorlaw02_up.f k).bind fun t332 => ((pte_Change.f k a0 a1 a2).bind fun bt333 => (if a0 < 0 then (paviorlaw02_PteChanges.j0 k a0 a1 a2 t332 bt333.1 bt333.2 true) else (paviorlaw02_PteChanges.j0 k a0 a1 a2 t332 bt333.1 bt333.2 (decide (a0 > 3)))))
theorem paviorlaw02_PteChanges.mono_l : ∀ k, (∀ y0 y1 y2 y3 y4 y5 y6, LeO (paviorlaw02_PteChanges.j0 k y0 y1 y2 y3 y4 y5 y6) (paviorlaw02_PteChanges.j0 (k + 1) y0 y1 y2 y3 y4 y5 y6))
  | 0 => fun _ _ _ _ _ _ _ r h => by simp [paviorlaw02_PteChanges.j0] at h
  | k + 1 => by
    have ih0 := paviorlaw02_PteChanges.mono_l k
    · intro y0 y1 y2 y3 y4 y5 y6
      unfold paviorlaw02_PteChanges.j0
      repeat' first
      | (with_reducible exact ih0 _ _ _ _ _ _ _)
      | (with_reducible exact paviorlaw02_up.mono _)
      | (with_reducible exact paviorref02_Change.mono _ _ _ _)
      | (with_reducible exact pte_Change.mono _ _ _ _)
      | (with_reducible exact LeO.refl _)
      | (with_reducible exact LeO.none _)
      | (with_reducible refine LeO.ite ?_ ?_)
      | (with_reducible refine LeO.bind ?_ (fun _ => ?_))
      | exact ih0 _ _ _ _ _ _ _
      | exact paviorlaw02_up.mono _
      | exact paviorref02_Change.mono _ _ _ _
      | exact pte_Change.mono _ _ _ _
      | exact LeO.none _
      | refine LeO.ite ?_ ?_
      | refine LeO.bind ?_ (fun _ => ?_)
theorem paviorlaw02_PteChanges.mono : ∀ a0 a1 a2 k, LeO (paviorlaw02_PteChanges.f k a0 a1 a2) (paviorlaw02_PteChanges.f (k + 1) a0 a1 a2) := by
  intro a0 a1 a2 k
  have ih0 := paviorlaw02_PteChanges.mono_l k
  unfold paviorlaw02_PteChanges.f
  repeat' first
      | (with_reducible exact ih0 _ _ _ _ _ _ _)
      | (with_reducible exact paviorlaw02_up.mono _)
      | (with_reducible exact paviorref02_Change.mono _ _ _ _)
      | (with_reducible exact pte_Change.mono _ _ _ _)
      | (with_reducible exact LeO.refl _)
      | (with_reducible exact LeO.none _)
      | (with_reducible refine LeO.ite ?_ ?_)
      | (with_reducible refine LeO.bind ?_ (fun _ => ?_))
      | exact ih0 _ _ _ _ _ _ _
      | exact paviorlaw02_up.mono _
      | exact paviorref02_Change.mono _ _ _ _
      | exact pte_Change.mono _ _ _ _
      | exact LeO.none _
      | refine LeO.ite ?_ ?_
      | refine LeO.bind ?_ (fun _ => ?_)
set_option maxHeartbeats 8000000 in
set_option maxRecDepth 100000 in
theorem paviorlaw02_PteChanges.calls (k : Nat) (a0 : Int) (a1 : Int) (a2 : Int) (r : Bool) (w : World) (h : paviorlaw02_PteChanges.f k a0 a1 a2 = some r) :
    Calls Try.prog 8 #[.int .i64 a0, .int .u64 a1, .int .u64 a2] w fun e w' => e = .returned (.bool r) ∧ Below w.heap.size w w' := by
  have hu27 := Try.underlying27
  have hu30 := Try.underlying30
  have HB := Aside0.mk (Below.refl w.heap.size w)
  have H : ((paviorlaw02_up.f k).bind fun t332 => ((pte_Change.f k a0 a1 a2).bind fun bt333 => (if a0 < 0 then (paviorlaw02_PteChanges.j0 k a0 a1 a2 t332 bt333.1 bt333.2 true) else (paviorlaw02_PteChanges.j0 k a0 a1 a2 t332 bt333.1 bt333.2 (decide (a0 > 3)))))) = some r := h
  clear h
  replace H := Option.bind_eq_some_iff.mp H
  obtain ⟨t332, A40, H⟩ := H
  replace H : ((pte_Change.f k a0 a1 a2).bind fun bt333 => (if a0 < 0 then (paviorlaw02_PteChanges.j0 k a0 a1 a2 t332 bt333.1 bt333.2 true) else (paviorlaw02_PteChanges.j0 k a0 a1 a2 t332 bt333.1 bt333.2 (decide (a0 > 3))))) = some r := H
  have A4 := Aside0.mk A40
  clear A40
  replace H := Option.bind_eq_some_iff.mp H
  obtain ⟨⟨t333, t334⟩, A50, H⟩ := H
  replace H : (if a0 < 0 then (paviorlaw02_PteChanges.j0 k a0 a1 a2 t332 t333 t334 true) else (paviorlaw02_PteChanges.j0 k a0 a1 a2 t332 t333 t334 (decide (a0 > 3)))) = some r := H
  have A5 := Aside0.mk A50
  clear A50
  have HC6 := Aside0.mk H
  clear H
  go_enter Try.func8, Try.ntmps8
  go_upto_region 3 with (first | ((with_reducible refine gate_callee (f := 10) rfl ?_); refine goesL_ (some 10) rfl rfl Try.func10 (by kernel_rfl) rfl #[] rfl (by (try simp only [List.map_toArray, List.map_cons, List.map_nil]); first | done | rfl | (simp only [List.length_drop, List.length_take]; rfl)) ?_; (with_reducible refine (paviorlaw02_up.calls k  t332 _ A4.out).mono ?_); rintro e w7 ⟨rfl, hb⟩; refine ⟨_, rfl, ?_⟩; have n0_ := Aside0.mk (below_step (by repeat (first | (with_reducible first | exact HB.out | apply below_alloc | apply pw_below_drewN | apply below_drew1) | exact HB.out)) hb); clear HB; have HB := n0_; clear n0_; (try clear hb); (try clear hb2); (try clear hk); (try clear hi)) | ((with_reducible refine gate_callee (f := 16) rfl ?_); refine goesL_ (some 15) rfl rfl Try.func16 (by kernel_rfl) rfl #[.int .i64 a0, .int .u64 a1, .int .u64 a2] rfl (by (try simp only [List.map_toArray, List.map_cons, List.map_nil]); first | done | rfl | (simp only [List.length_drop, List.length_take]; rfl)) ?_; (with_reducible refine (pte_Change.calls k a0 a1 a2 t333 t334 _ A5.out).mono ?_); rintro e w8 ⟨rfl, hb⟩; refine ⟨_, rfl, ?_⟩; have n0_ := Aside0.mk (below_step (by repeat (first | (with_reducible first | exact HB.out | apply below_alloc | apply pw_below_drewN | apply below_drew1) | exact HB.out)) hb); clear HB; have HB := n0_; clear n0_; (try clear hb); (try clear hb2); (try clear hk); (try clear hi); (try simp only [errW_none, errW_some])))
  (try simp only [Act.put, List.setIfInBounds_toArray, List.set_cons_zero, List.set_cons_succ])
  go_cut [23] (fun v23 wc => ∃ (kq : Nat) (x23_5 : Bool), v23 = .bool x23_5 ∧ Aside0 (paviorlaw02_PteChanges.j0 kq a0 a1 a2 t332 t333 t334 x23_5 = some r) ∧ Aside0 (kq ≤ k) ∧ Aside0 (Below w.heap.size w wc))
  case first =>
    have H := HC6.out
    clear HC6
    by_cases c9 : a0 < 0
    · rw [if_pos c9] at H
      have c9b0 : decide (a0 < 0) = true := decide_eq_true c9
      clear c9
      (first | rw [c9b0] | (simp only [i64_w, i32_w]; rw [c9b0]) | skip)
      have H' := Aside0.mk H
      clear H
      go_wp2
      go_meet
      case rel => exact ⟨_, (true), (by first | rfl | (simp; done) | (simp [*]; done)), H', ⟨by first | omega | exact Nat.le_refl _⟩, ⟨by repeat (first | (with_reducible first | exact HB.out | apply below_alloc | apply pw_below_drewN | apply below_drew1) | exact HB.out)⟩⟩
    · rw [if_neg c9] at H
      have c9b0 : decide (a0 < 0) = false := decide_eq_false c9
      clear c9
      (first | rw [c9b0] | (simp only [i64_w, i32_w]; rw [c9b0]) | skip)
      have H' := Aside0.mk H
      clear H
      go_wp2
      go_meet
      case rel => exact ⟨_, (decide (a0 > 3)), (by first | rfl | (simp; done) | (simp [*]; done)), H', ⟨by first | omega | exact Nat.le_refl _⟩, ⟨by repeat (first | (with_reducible first | exact HB.out | apply below_alloc | apply pw_below_drewN | apply below_drew1) | exact HB.out)⟩⟩
  case rest =>
    clear HC6
    try clear c1
    try clear p2
    try clear c8
    try clear c9
    try clear c9b0
    obtain ⟨kq, x23_5, rfl, HA, HJ5, HB⟩ := hcut
    cases kq with
    | zero => exact absurd HA.out (by simp [paviorlaw02_PteChanges.j0])
    | succ kj5 =>
      have H := HA.out
      clear HA
      simp only [paviorlaw02_PteChanges.j0] at H
      by_cases c10 : x23_5 = true
      · subst c10
        have H1 : (if t332 = true then (if t334.isNone = true then (some false) else (if (t334.getD 0) = 1 then (some (!t333)) else (some false))) else (some false)) = some r := by rw [if_pos rfl] at H; exact H
        clear H
        have H := H1
        clear H1
        by_cases c11 : t332 = true
        · subst c11
          have H1 : (if t334.isNone = true then (some false) else (if (t334.getD 0) = 1 then (some (!t333)) else (some false))) = some r := by rw [if_pos rfl] at H; exact H
          clear H
          have H := H1
          clear H1
          rcases t334 with _ | q335
          · have H1 : (some false) = some r := by rw [if_pos (show (none : Option Int).isNone = true by rfl)] at H; exact H
            clear H
            have H := H1
            clear H1
            try simp only [errW_none, errW_some]
            obtain rfl := Option.some.inj H
            go_wp2
            go_ret
            exact ⟨by first | rfl | (simp [errW_none, errW_some] <;> rfl) | (simp [*, errW_none, errW_some] <;> rfl), by repeat (first | (with_reducible first | exact HB.out | apply below_alloc | apply pw_below_drewN | apply below_drew1) | exact HB.out)⟩
          · have H1 : (if q335 = 1 then (some (!t333)) else (some false)) = some r := by rw [if_neg (show ¬ (some q335).isNone = true by simp)] at H; exact H
            clear H
            have H := H1
            clear H1
            try simp only [errW_none, errW_some]
            by_cases c12 : q335 = 1
            · rw [if_pos c12] at H
              have c12b0 : (q335 == 1) = true := beq_iff_eq.mpr c12
              have c12b1 : (q335 != 1) = false := bne_eq_false_iff_eq.mpr c12
              clear c12
              obtain rfl := Option.some.inj H
              go_wp2
              go_ret
              exact ⟨by first | rfl | (simp [errW_none, errW_some] <;> rfl) | (simp [*, errW_none, errW_some] <;> rfl), by repeat (first | (with_reducible first | exact HB.out | apply below_alloc | apply pw_below_drewN | apply below_drew1) | exact HB.out)⟩
            · rw [if_neg c12] at H
              have c12b0 : (q335 == 1) = false := beq_eq_false_iff_ne.mpr c12
              have c12b1 : (q335 != 1) = true := bne_iff_ne.mpr c12
              obtain rfl := Option.some.inj H
              go_wp2
              go_ret
              exact ⟨by first | rfl | (simp [errW_none, errW_some] <;> rfl) | (simp [*, errW_none, errW_some] <;> rfl), by repeat (first | (with_reducible first | exact HB.out | apply below_alloc | apply pw_below_drewN | apply below_drew1) | exact HB.out)⟩
        · replace c11 := Bool.eq_false_iff.mpr c11
          subst c11
          have H1 : (some false) = some r := by rw [if_neg (show ¬ (false = true) by decide)] at H; exact H
          clear H
          have H := H1
          clear H1
          obtain rfl := Option.some.inj H
          go_wp2
          go_ret
          exact ⟨by first | rfl | (simp [errW_none, errW_some] <;> rfl) | (simp [*, errW_none, errW_some] <;> rfl), by repeat (first | (with_reducible first | exact HB.out | apply below_alloc | apply pw_below_drewN | apply below_drew1) | exact HB.out)⟩
      · replace c10 := Bool.eq_false_iff.mpr c10
        subst c10
        have H1 : (if t332 = true then (if t334.isNone = true then ((paviorref02_Change.f kj5 a0 a1 a2).bind fun t337 => (some (t333 == t337))) else (some false)) else (some false)) = some r := by rw [if_neg (show ¬ (false = true) by decide)] at H; exact H
        clear H
        have H := H1
        clear H1
        by_cases c13 : t332 = true
        · subst c13
          have H1 : (if t334.isNone = true then ((paviorref02_Change.f kj5 a0 a1 a2).bind fun t337 => (some (t333 == t337))) else (some false)) = some r := by rw [if_pos rfl] at H; exact H
          clear H
          have H := H1
          clear H1
          rcases t334 with _ | q336
          · have H1 : ((paviorref02_Change.f kj5 a0 a1 a2).bind fun t337 => (some (t333 == t337))) = some r := by rw [if_pos (show (none : Option Int).isNone = true by rfl)] at H; exact H
            clear H
            have H := H1
            clear H1
            try simp only [errW_none, errW_some]
            replace H := Option.bind_eq_some_iff.mp H
            obtain ⟨t337, A140, H⟩ := H
            replace H : (some (t333 == t337)) = some r := H
            have A14 := Aside0.mk A140
            clear A140
            obtain rfl := Option.some.inj H
            go_wp2_with (first | (go_at_call 17; (with_reducible refine (paviorref02_Change.calls kj5 a0 a1 a2 t337 _ A14.out).mono ?_); rintro e w15 ⟨rfl, hb⟩; have n0_ := Aside0.mk (below_step (by repeat (first | (with_reducible first | exact HB.out | apply below_alloc | apply pw_below_drewN | apply below_drew1) | exact HB.out)) hb); clear HB; have HB := n0_; clear n0_; (try clear hb); (try clear hb2); (try clear hk); (try clear hi)))
            go_ret
            exact ⟨by first | rfl | (simp [errW_none, errW_some] <;> rfl) | (simp [*, errW_none, errW_some] <;> rfl), by repeat (first | (with_reducible first | exact HB.out | apply below_alloc | apply pw_below_drewN | apply below_drew1) | exact HB.out)⟩
          · have H1 : (some false) = some r := by rw [if_neg (show ¬ (some q336).isNone = true by simp)] at H; exact H
            clear H
            have H := H1
            clear H1
            try simp only [errW_none, errW_some]
            obtain rfl := Option.some.inj H
            go_wp2
            go_ret
            exact ⟨by first | rfl | (simp [errW_none, errW_some] <;> rfl) | (simp [*, errW_none, errW_some] <;> rfl), by repeat (first | (with_reducible first | exact HB.out | apply below_alloc | apply pw_below_drewN | apply below_drew1) | exact HB.out)⟩
        · replace c13 := Bool.eq_false_iff.mpr c13
          subst c13
          have H1 : (some false) = some r := by rw [if_neg (show ¬ (false = true) by decide)] at H; exact H
          clear H
          have H := H1
          clear H1
          obtain rfl := Option.some.inj H
          go_wp2
          go_ret
          exact ⟨by first | rfl | (simp [errW_none, errW_some] <;> rfl) | (simp [*, errW_none, errW_some] <;> rfl), by repeat (first | (with_reducible first | exact HB.out | apply below_alloc | apply pw_below_drewN | apply below_drew1) | exact HB.out)⟩

/-- THE ONE PURE STATEMENT of paviorlaw02_PteChanges: yours. -/
def paviorlaw02_PteChanges.Pure : Prop := ∀ (a0 : Int) (a1 : Int) (a2 : Int), (Lit.int .i64 a0).wf = true → (Lit.int .u64 a1).wf = true → (Lit.int .u64 a2).wf = true → ∃ k, paviorlaw02_PteChanges.f k a0 a1 a2 = some true
theorem paviorlaw02_PteChanges.walk (P : paviorlaw02_PteChanges.Pure) (a0 : Int) (a1 : Int) (a2 : Int) (w : World) (w0 : (Lit.int .i64 a0).wf = true) (w1 : (Lit.int .u64 a1).wf = true) (w2 : (Lit.int .u64 a2).wf = true) :
    Calls Try.prog 8 #[.int .i64 a0, .int .u64 a1, .int .u64 a2] w fun e w' => e = .returned (.bool true) ∧ Below w.heap.size w w' := by
  obtain ⟨k, h⟩ := P a0 a1 a2 w0 w1 w2
  refine (paviorlaw02_PteChanges.calls k a0 a1 a2 true w h).mono ?_
  rintro e w' ⟨rfl, hd⟩
  exact ⟨rfl, hd⟩

end Go.Proofs.Ytobbcfpkmmafnab.Q
