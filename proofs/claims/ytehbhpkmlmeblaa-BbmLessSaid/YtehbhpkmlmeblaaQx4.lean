-- Written by this session's program wip/tools/xprint.py (the kit's printer, turned by it); not the kit's own print.
import Derived.Test.YtehbhpkmlmeblaaQx0
import Derived.Test.YtehbhpkmlmeblaaQx1
import Derived.Test.YtehbhpkmlmeblaaQx2
import Derived.Test.YtehbhpkmlmeblaaQx3
namespace Go.Proofs.Ytehbhpkmlmeblaa.Q
open Go.RowKit Go.Proofs.YtehbhpkmlmeblaaW.PrintWords Go.Proofs.YtehbhpkmlmeblaaW.PrintLast Go.Proofs.YtehbhpkmlmeblaaW.PrintMore
attribute [local go_sem] max2_int min2_int max_two min_two max_three min_three max_four min_four   -- for this text's walks alone
set_option linter.unusedVariables false
set_option linter.unusedSimpArgs false

attribute [local go_sem high] eqA37
attribute [local go_sem high] eqErr_some neErr_some eqErr_left neErr_left
/-! ### pte_Decode: function 28 -/
mutual
def pte_Decode.j0 : Nat → Int → Int → Bool → Option (Int × Int × Bool × Bool × Bool × Bool × Int × Option Int)
  | 0, _, _, _ => none
  | k + 1, x0, x1, x14 => if x14 = true then (some (0, 0, false, false, false, false, 0, some 1)) else ((pte_read.f k x0 x1).bind fun bt145 => ((pte_Encode.f k x0 bt145.1 bt145.2.1 bt145.2.2.1 bt145.2.2.2.1 bt145.2.2.2.2.1 bt145.2.2.2.2.2.1 bt145.2.2.2.2.2.2).bind fun bt153 => (if bt153.2.isNone = true then (pte_Decode.j1 k (bt153.1 != x1) bt145.1 bt145.2.1 bt145.2.2.1 bt145.2.2.2.1 bt145.2.2.2.2.1 bt145.2.2.2.2.2.1 bt145.2.2.2.2.2.2) else (pte_Decode.j1 k true bt145.1 bt145.2.1 bt145.2.2.1 bt145.2.2.2.1 bt145.2.2.2.2.1 bt145.2.2.2.2.2.1 bt145.2.2.2.2.2.2))))
def pte_Decode.j1 : Nat → Bool → Int → Int → Bool → Bool → Bool → Bool → Int → Option (Int × Int × Bool × Bool × Bool × Bool × Int × Option Int)
  | 0, _, _, _, _, _, _, _, _ => none
  | k + 1, x32, x153000, x153001, x153002, x153003, x153004, x153005, x153006 => if x32 = true then (some (5, 0, false, false, false, false, 0, none)) else (some (x153000, x153001, x153002, x153003, x153004, x153005, x153006, none))
end
def pte_Decode.f (k : Nat) (a0 : Int) (a1 : Int) : Option (Int × Int × Bool × Bool × Bool × Bool × Int × Option Int) := if a0 < 0 then (pte_Decode.j0 k a0 a1 true) else (pte_Decode.j0 k a0 a1 (decide (a0 > 3)))
set_option maxHeartbeats 8000000 in
set_option maxRecDepth 100000 in
theorem pte_Decode.calls (k : Nat) (a0 : Int) (a1 : Int) (r1 : Int) (r2 : Int) (r3 : Bool) (r4 : Bool) (r5 : Bool) (r6 : Bool) (r7 : Int) (r8 : Option Int) (w : World) (h : pte_Decode.f k a0 a1 = some (r1, r2, r3, r4, r5, r6, r7, r8)) :
    Calls Try.prog 28 #[.int .i64 a0, .int .u64 a1] w fun e w' => e = .returned (.tuple #[.agg #[.int .i64 r1, .int .i64 r2, .bool r3, .bool r4, .bool r5, .bool r6, .int .i64 r7], errW r8]) ∧ Below w.heap.size w w' := by
  have hu37 := Try.underlying37
  have hu29 := Try.underlying29
  have hu47 := Try.underlying47
  have HB := Aside0.mk (Below.refl w.heap.size w)
  have H : (if a0 < 0 then (pte_Decode.j0 k a0 a1 true) else (pte_Decode.j0 k a0 a1 (decide (a0 > 3)))) = some (r1, r2, r3, r4, r5, r6, r7, r8) := h
  clear h
  have HC3 := Aside0.mk H
  clear H
  go_enter Try.func28, Try.ntmps28
  go_upto_region 1 with (first | ((with_reducible refine gate_dst (N := 4) rfl ?_); refine box_event ?hg (N := 4) ?hd (cs := #[.int .i64 0, .int .i64 0, .bool false, .bool false, .bool false, .bool false, .int .i64 0]) (t := 37) ?hr ?_; (case hd => rfl); (case hg => rfl); (case hr => first | (go_simp; done) | (go_simp; rfl)); intro gb144 hg w4 hbox hb; have n0_ := Aside0.mk (below_step (by repeat (first | (with_reducible first | exact HB.out | apply below_alloc | apply pw_below_drewN | apply below_drew1) | exact HB.out)) hb); have n1_ := Aside0.mk (hbox); have n2_ := Aside0.mk ((by rw [hg]; exact (below_size (by repeat (first | (with_reducible first | exact HB.out | apply below_alloc | apply pw_below_drewN | apply below_drew1) | exact HB.out))) : w.heap.size ≤ gb144)); have n3_ := Aside0.mk ((by rw [hg]; exact (below_size (by repeat (first | (with_reducible first | exact HB.out | apply below_alloc | apply pw_below_drewN | apply below_drew1) | exact HB.out))) : w.heap.size ≤ gb144)); clear HB; have HB := n0_; have BK144 := n1_; have GW144 := n2_; have GE144 := n3_; clear n0_ n1_ n2_ n3_; clear hb hbox hg))
  (try simp only [Act.put, List.setIfInBounds_toArray, List.set_cons_zero, List.set_cons_succ])
  go_cut [14] (fun v14 wc => ∃ (kq : Nat) (x14_2 : Bool), v14 = .bool x14_2 ∧ Aside0 (pte_Decode.j0 kq a0 a1 x14_2 = some (r1, r2, r3, r4, r5, r6, r7, r8)) ∧ Aside0 (kq ≤ k) ∧ Aside0 (wc.heap[gb144]? = some (.cells #[.int .i64 0, .int .i64 0, .bool false, .bool false, .bool false, .bool false, .int .i64 0] 37 (0, 0))) ∧ Aside0 (Below w.heap.size w wc))
  case first =>
    have H := HC3.out
    clear HC3
    by_cases c5 : a0 < 0
    · rw [if_pos c5] at H
      have c5b0 : decide (a0 < 0) = true := decide_eq_true c5
      clear c5
      (first | rw [c5b0] | (simp only [i64_w, i32_w]; rw [c5b0]) | skip)
      have H' := Aside0.mk H
      clear H
      go_wp2
      go_meet
      case rel => exact ⟨_, (true), (by first | rfl | (simp; done) | (simp [*]; done)), H', ⟨by first | omega | exact Nat.le_refl _⟩, ⟨by (with_reducible repeat (first | refine blk_drewN ?_ _ | refine blk_drew ?_ | refine blk_alloc ?_ _)); exact BK144.out⟩, ⟨by repeat (first | (with_reducible first | exact HB.out | apply below_alloc | apply pw_below_drewN | apply below_drew1 | refine below_set ?_ GE144.out) | exact HB.out)⟩⟩
    · rw [if_neg c5] at H
      have c5b0 : decide (a0 < 0) = false := decide_eq_false c5
      clear c5
      (first | rw [c5b0] | (simp only [i64_w, i32_w]; rw [c5b0]) | skip)
      have H' := Aside0.mk H
      clear H
      go_wp2
      go_meet
      case rel => exact ⟨_, (decide (a0 > 3)), (by first | rfl | (simp; done) | (simp [*]; done)), H', ⟨by first | omega | exact Nat.le_refl _⟩, ⟨by (with_reducible repeat (first | refine blk_drewN ?_ _ | refine blk_drew ?_ | refine blk_alloc ?_ _)); exact BK144.out⟩, ⟨by repeat (first | (with_reducible first | exact HB.out | apply below_alloc | apply pw_below_drewN | apply below_drew1 | refine below_set ?_ GE144.out) | exact HB.out)⟩⟩
  case rest =>
    clear HC3
    try clear c2
    try clear p2
    try clear c5
    try clear c5b0
    obtain ⟨kq, x14_2, rfl, HA, HJ2, BK144, HB⟩ := hcut
    cases kq with
    | zero => exact absurd HA.out (by simp [pte_Decode.j0])
    | succ kj2 =>
      have H := HA.out
      clear HA
      simp only [pte_Decode.j0] at H
      by_cases c6 : x14_2 = true
      · subst c6
        have H1 : (some (0, 0, false, false, false, false, 0, some 1)) = some (r1, r2, r3, r4, r5, r6, r7, r8) := by rw [if_pos rfl] at H; exact H
        clear H
        have H := H1
        clear H1
        simp only [Option.some.injEq, Prod.mk.injEq] at H
        obtain ⟨rfl, rfl, rfl, rfl, rfl, rfl, rfl, rfl⟩ := H
        have hcz7_0 : wc.cell? ⟨gb144, 0, none⟩ = some (.int .i64 0) := (blk_cell BK144.out 0).trans rfl
        have hcz7_1 : wc.cell? ⟨gb144, 1, none⟩ = some (.int .i64 0) := (blk_cell BK144.out 1).trans rfl
        have hcz7_2 : wc.cell? ⟨gb144, 2, none⟩ = some (.bool false) := (blk_cell BK144.out 2).trans rfl
        have hcz7_3 : wc.cell? ⟨gb144, 3, none⟩ = some (.bool false) := (blk_cell BK144.out 3).trans rfl
        have hcz7_4 : wc.cell? ⟨gb144, 4, none⟩ = some (.bool false) := (blk_cell BK144.out 4).trans rfl
        have hcz7_5 : wc.cell? ⟨gb144, 5, none⟩ = some (.bool false) := (blk_cell BK144.out 5).trans rfl
        have hcz7_6 : wc.cell? ⟨gb144, 6, none⟩ = some (.int .i64 0) := (blk_cell BK144.out 6).trans rfl
        have hfz7_0 := blk_frozen BK144.out 0
        have hfz7_1 := blk_frozen BK144.out 1
        have hfz7_2 := blk_frozen BK144.out 2
        have hfz7_3 := blk_frozen BK144.out 3
        have hfz7_4 := blk_frozen BK144.out 4
        have hfz7_5 := blk_frozen BK144.out 5
        have hfz7_6 := blk_frozen BK144.out 6
        go_wp2
        refine bodyPost_ret (results_ct rfl _ _ gb144 37 #[.int .i64 0, .int .i64 0, .bool false, .bool false, .bool false, .bool false, .int .i64 0] (0, 0) _ rfl (by (with_reducible repeat (first | refine blk_drewN ?_ _ | refine blk_drew ?_ | refine blk_alloc ?_ _)); refine blk_put (cs := #[.int .i64 0, .int .i64 0, .bool false, .bool false, .bool false, .bool false, .int .i64 0]) ?_ 6 _ rfl; (with_reducible repeat (first | refine blk_drewN ?_ _ | refine blk_drew ?_ | refine blk_alloc ?_ _)); refine blk_put (cs := #[.int .i64 0, .int .i64 0, .bool false, .bool false, .bool false, .bool false, .int .i64 0]) ?_ 5 _ rfl; (with_reducible repeat (first | refine blk_drewN ?_ _ | refine blk_drew ?_ | refine blk_alloc ?_ _)); refine blk_put (cs := #[.int .i64 0, .int .i64 0, .bool false, .bool false, .bool false, .bool false, .int .i64 0]) ?_ 4 _ rfl; (with_reducible repeat (first | refine blk_drewN ?_ _ | refine blk_drew ?_ | refine blk_alloc ?_ _)); refine blk_put (cs := #[.int .i64 0, .int .i64 0, .bool false, .bool false, .bool false, .bool false, .int .i64 0]) ?_ 3 _ rfl; (with_reducible repeat (first | refine blk_drewN ?_ _ | refine blk_drew ?_ | refine blk_alloc ?_ _)); refine blk_put (cs := #[.int .i64 0, .int .i64 0, .bool false, .bool false, .bool false, .bool false, .int .i64 0]) ?_ 2 _ rfl; (with_reducible repeat (first | refine blk_drewN ?_ _ | refine blk_drew ?_ | refine blk_alloc ?_ _)); refine blk_put (cs := #[.int .i64 0, .int .i64 0, .bool false, .bool false, .bool false, .bool false, .int .i64 0]) ?_ 1 _ rfl; (with_reducible repeat (first | refine blk_drewN ?_ _ | refine blk_drew ?_ | refine blk_alloc ?_ _)); refine blk_put (cs := #[.int .i64 0, .int .i64 0, .bool false, .bool false, .bool false, .bool false, .int .i64 0]) ?_ 0 _ rfl; (with_reducible repeat (first | refine blk_drewN ?_ _ | refine blk_drew ?_ | refine blk_alloc ?_ _)); exact BK144.out) Try.underlying37 rfl (by kernel_rfl)) rfl ?_
        exact ⟨by first | rfl | (simp [errW_none, errW_some] <;> rfl) | (simp [*, errW_none, errW_some] <;> rfl), by repeat (first | (with_reducible first | exact HB.out | apply below_alloc | apply pw_below_drewN | apply below_drew1 | refine below_set ?_ GE144.out) | exact HB.out)⟩
      · replace c6 := Bool.eq_false_iff.mpr c6
        subst c6
        have H1 : ((pte_read.f kj2 a0 a1).bind fun bt145 => ((pte_Encode.f kj2 a0 bt145.1 bt145.2.1 bt145.2.2.1 bt145.2.2.2.1 bt145.2.2.2.2.1 bt145.2.2.2.2.2.1 bt145.2.2.2.2.2.2).bind fun bt153 => (if bt153.2.isNone = true then (pte_Decode.j1 kj2 (bt153.1 != a1) bt145.1 bt145.2.1 bt145.2.2.1 bt145.2.2.2.1 bt145.2.2.2.2.1 bt145.2.2.2.2.2.1 bt145.2.2.2.2.2.2) else (pte_Decode.j1 kj2 true bt145.1 bt145.2.1 bt145.2.2.1 bt145.2.2.2.1 bt145.2.2.2.2.1 bt145.2.2.2.2.2.1 bt145.2.2.2.2.2.2)))) = some (r1, r2, r3, r4, r5, r6, r7, r8) := by rw [if_neg (show ¬ (false = true) by decide)] at H; exact H
        clear H
        have H := H1
        clear H1
        replace H := Option.bind_eq_some_iff.mp H
        obtain ⟨⟨t145, t146, t147, t148, t149, t150, t151⟩, A80, H⟩ := H
        replace H : ((pte_Encode.f kj2 a0 t145 t146 t147 t148 t149 t150 t151).bind fun bt153 => (if bt153.2.isNone = true then (pte_Decode.j1 kj2 (bt153.1 != a1) t145 t146 t147 t148 t149 t150 t151) else (pte_Decode.j1 kj2 true t145 t146 t147 t148 t149 t150 t151))) = some (r1, r2, r3, r4, r5, r6, r7, r8) := H
        have A8 := Aside0.mk A80
        clear A80
        replace H := Option.bind_eq_some_iff.mp H
        obtain ⟨⟨t153, t154⟩, A90, H⟩ := H
        replace H : (if t154.isNone = true then (pte_Decode.j1 kj2 (t153 != a1) t145 t146 t147 t148 t149 t150 t151) else (pte_Decode.j1 kj2 true t145 t146 t147 t148 t149 t150 t151)) = some (r1, r2, r3, r4, r5, r6, r7, r8) := H
        have A9 := Aside0.mk A90
        clear A90
        have HC10 := Aside0.mk H
        clear H
        go_upto_region 5 with (first | ((with_reducible refine gate_callee (f := 31) rfl ?_); refine goesL_ (some 19) rfl rfl Try.func31 (by kernel_rfl) rfl #[.int .i64 a0, .int .u64 a1] rfl (by (try simp only [List.map_toArray, List.map_cons, List.map_nil]); first | done | rfl | (simp only [List.length_drop, List.length_take]; rfl)) ?_; (with_reducible refine (pte_read.calls kj2 a0 a1 t145 t146 t147 t148 t149 t150 t151 _ A8.out).mono ?_); rintro e w11 ⟨rfl, hb⟩; refine ⟨_, rfl, ?_⟩; have n0_ := Aside0.mk (blk_below (g := gb144) (o := .cells #[.int .i64 0, .int .i64 0, .bool false, .bool false, .bool false, .bool false, .int .i64 0] 37 (0, 0)) (by (with_reducible repeat (first | refine blk_drewN ?_ _ | refine blk_drew ?_ | refine blk_alloc ?_ _)); exact BK144.out) hb); have n1_ := Aside0.mk (below_step (by repeat (first | (with_reducible first | exact HB.out | apply below_alloc | apply pw_below_drewN | apply below_drew1 | refine below_set ?_ GE144.out) | exact HB.out)) hb); clear BK144; clear HB; have BK144 := n0_; have HB := n1_; clear n0_ n1_; (try clear hb); (try clear hb2); (try clear hk); (try clear hi)) | ((with_reducible refine gate_dst (N := 6) rfl ?_); refine box_event ?hg (N := 6) ?hd (cs := #[.int .i64 0, .int .i64 0, .bool false, .bool false, .bool false, .bool false, .int .i64 0]) (t := 37) ?hr ?_; (case hd => rfl); (case hg => rfl); (case hr => first | (go_simp; done) | (go_simp; rfl)); intro gb152 hg w12 hbox hb; have n0_ := Aside0.mk (blk_below (g := gb144) (o := .cells #[.int .i64 0, .int .i64 0, .bool false, .bool false, .bool false, .bool false, .int .i64 0] 37 (0, 0)) (by (with_reducible repeat (first | refine blk_drewN ?_ _ | refine blk_drew ?_ | refine blk_alloc ?_ _)); exact BK144.out) hb); have n1_ := Aside0.mk (below_step (by repeat (first | (with_reducible first | exact HB.out | apply below_alloc | apply pw_below_drewN | apply below_drew1 | refine below_set ?_ GE144.out) | exact HB.out)) hb); have n2_ := Aside0.mk (hbox); have n3_ := Aside0.mk ((by rw [hg]; exact (below_size (by repeat (first | (with_reducible first | exact HB.out | apply below_alloc | apply pw_below_drewN | apply below_drew1 | refine below_set ?_ GE144.out) | exact HB.out))) : w.heap.size ≤ gb152)); have n4_ := Aside0.mk ((by rw [hg]; exact (below_size (by repeat (first | (with_reducible first | exact HB.out | apply below_alloc | apply pw_below_drewN | apply below_drew1 | refine below_set ?_ GE144.out) | exact HB.out))) : w.heap.size ≤ gb152)); have n5_ := Aside0.mk ((by rw [hg]; exact Nat.ne_of_lt (blk_lt (g := gb144) (o := .cells #[.int .i64 0, .int .i64 0, .bool false, .bool false, .bool false, .bool false, .int .i64 0] 37 (0, 0)) (by (with_reducible repeat (first | refine blk_drewN ?_ _ | refine blk_drew ?_ | refine blk_alloc ?_ _)); exact BK144.out)) : gb144 ≠ gb152)); have n6_ := Aside0.mk ((by rw [hg]; exact Nat.ne_of_gt (blk_lt (g := gb144) (o := .cells #[.int .i64 0, .int .i64 0, .bool false, .bool false, .bool false, .bool false, .int .i64 0] 37 (0, 0)) (by (with_reducible repeat (first | refine blk_drewN ?_ _ | refine blk_drew ?_ | refine blk_alloc ?_ _)); exact BK144.out)) : gb152 ≠ gb144)); clear BK144; clear HB; have BK144 := n0_; have HB := n1_; have BK152 := n2_; have GW152 := n3_; have GE152 := n4_; have NB144_152 := n5_; have NB152_144 := n6_; clear n0_ n1_ n2_ n3_ n4_ n5_ n6_; clear hb hbox hg; have hnb13 := NB152_144.out; have hnc13 := NB144_152.out; have hcz14_0 : w12.cell? ⟨gb152, 0, none⟩ = some (.int .i64 0) := (blk_cell BK152.out 0).trans rfl; have hcz14_1 : w12.cell? ⟨gb152, 1, none⟩ = some (.int .i64 0) := (blk_cell BK152.out 1).trans rfl; have hcz14_2 : w12.cell? ⟨gb152, 2, none⟩ = some (.bool false) := (blk_cell BK152.out 2).trans rfl; have hcz14_3 : w12.cell? ⟨gb152, 3, none⟩ = some (.bool false) := (blk_cell BK152.out 3).trans rfl; have hcz14_4 : w12.cell? ⟨gb152, 4, none⟩ = some (.bool false) := (blk_cell BK152.out 4).trans rfl; have hcz14_5 : w12.cell? ⟨gb152, 5, none⟩ = some (.bool false) := (blk_cell BK152.out 5).trans rfl; have hcz14_6 : w12.cell? ⟨gb152, 6, none⟩ = some (.int .i64 0) := (blk_cell BK152.out 6).trans rfl; have hfz14_0 := blk_frozen BK152.out 0; have hfz14_1 := blk_frozen BK152.out 1; have hfz14_2 := blk_frozen BK152.out 2; have hfz14_3 := blk_frozen BK152.out 3; have hfz14_4 := blk_frozen BK152.out 4; have hfz14_5 := blk_frozen BK152.out 5; have hfz14_6 := blk_frozen BK152.out 6) | ((with_reducible refine gate_callee (f := 32) rfl ?_); refine goesL_ (some 23) rfl rfl Try.func32 (by kernel_rfl) rfl #[.int .i64 a0, .agg #[.int .i64 t145, .int .i64 t146, .bool t147, .bool t148, .bool t149, .bool t150, .int .i64 t151]] rfl (by (try simp only [List.map_toArray, List.map_cons, List.map_nil]); first | done | rfl | (simp only [List.length_drop, List.length_take]; rfl)) ?_; (with_reducible refine (pte_Encode.calls kj2 a0 t145 t146 t147 t148 t149 t150 t151 t153 t154 _ A9.out).mono ?_); rintro e w15 ⟨rfl, hb⟩; refine ⟨_, rfl, ?_⟩; have n0_ := Aside0.mk (blk_below (g := gb144) (o := .cells #[.int .i64 0, .int .i64 0, .bool false, .bool false, .bool false, .bool false, .int .i64 0] 37 (0, 0)) (by (with_reducible repeat (first | refine blk_drewN ?_ _ | refine blk_drew ?_ | refine blk_alloc ?_ _)); refine blk_far ?_ NB144_152.out _; (with_reducible repeat (first | refine blk_drewN ?_ _ | refine blk_drew ?_ | refine blk_alloc ?_ _)); refine blk_far ?_ NB144_152.out _; (with_reducible repeat (first | refine blk_drewN ?_ _ | refine blk_drew ?_ | refine blk_alloc ?_ _)); refine blk_far ?_ NB144_152.out _; (with_reducible repeat (first | refine blk_drewN ?_ _ | refine blk_drew ?_ | refine blk_alloc ?_ _)); refine blk_far ?_ NB144_152.out _; (with_reducible repeat (first | refine blk_drewN ?_ _ | refine blk_drew ?_ | refine blk_alloc ?_ _)); refine blk_far ?_ NB144_152.out _; (with_reducible repeat (first | refine blk_drewN ?_ _ | refine blk_drew ?_ | refine blk_alloc ?_ _)); refine blk_far ?_ NB144_152.out _; (with_reducible repeat (first | refine blk_drewN ?_ _ | refine blk_drew ?_ | refine blk_alloc ?_ _)); refine blk_far ?_ NB144_152.out _; (with_reducible repeat (first | refine blk_drewN ?_ _ | refine blk_drew ?_ | refine blk_alloc ?_ _)); exact BK144.out) hb); have n1_ := Aside0.mk (blk_below (g := gb152) (o := .cells #[.int .i64 t145, .int .i64 t146, .bool t147, .bool t148, .bool t149, .bool t150, .int .i64 t151] 37 (0, 0)) (by (with_reducible repeat (first | refine blk_drewN ?_ _ | refine blk_drew ?_ | refine blk_alloc ?_ _)); refine blk_put (cs := #[.int .i64 t145, .int .i64 t146, .bool t147, .bool t148, .bool t149, .bool t150, .int .i64 0]) ?_ 6 _ rfl; (with_reducible repeat (first | refine blk_drewN ?_ _ | refine blk_drew ?_ | refine blk_alloc ?_ _)); refine blk_put (cs := #[.int .i64 t145, .int .i64 t146, .bool t147, .bool t148, .bool t149, .bool false, .int .i64 0]) ?_ 5 _ rfl; (with_reducible repeat (first | refine blk_drewN ?_ _ | refine blk_drew ?_ | refine blk_alloc ?_ _)); refine blk_put (cs := #[.int .i64 t145, .int .i64 t146, .bool t147, .bool t148, .bool false, .bool false, .int .i64 0]) ?_ 4 _ rfl; (with_reducible repeat (first | refine blk_drewN ?_ _ | refine blk_drew ?_ | refine blk_alloc ?_ _)); refine blk_put (cs := #[.int .i64 t145, .int .i64 t146, .bool t147, .bool false, .bool false, .bool false, .int .i64 0]) ?_ 3 _ rfl; (with_reducible repeat (first | refine blk_drewN ?_ _ | refine blk_drew ?_ | refine blk_alloc ?_ _)); refine blk_put (cs := #[.int .i64 t145, .int .i64 t146, .bool false, .bool false, .bool false, .bool false, .int .i64 0]) ?_ 2 _ rfl; (with_reducible repeat (first | refine blk_drewN ?_ _ | refine blk_drew ?_ | refine blk_alloc ?_ _)); refine blk_put (cs := #[.int .i64 t145, .int .i64 0, .bool false, .bool false, .bool false, .bool false, .int .i64 0]) ?_ 1 _ rfl; (with_reducible repeat (first | refine blk_drewN ?_ _ | refine blk_drew ?_ | refine blk_alloc ?_ _)); refine blk_put (cs := #[.int .i64 0, .int .i64 0, .bool false, .bool false, .bool false, .bool false, .int .i64 0]) ?_ 0 _ rfl; (with_reducible repeat (first | refine blk_drewN ?_ _ | refine blk_drew ?_ | refine blk_alloc ?_ _)); exact BK152.out) hb); have n2_ := Aside0.mk (below_step (by repeat (first | (with_reducible first | exact HB.out | apply below_alloc | apply pw_below_drewN | apply below_drew1 | refine below_set ?_ GE144.out | refine below_set ?_ GE152.out) | exact HB.out)) hb); clear BK144; clear BK152; clear HB; have BK144 := n0_; have BK152 := n1_; have HB := n2_; clear n0_ n1_ n2_; (try clear hb); (try clear hb2); (try clear hk); (try clear hi); (try simp only [errW_none, errW_some])))
        (try simp only [Act.put, List.setIfInBounds_toArray, List.set_cons_zero, List.set_cons_succ])
        go_cut [32] (fun v32 wc => ∃ (kq : Nat) (x32_9 : Bool), v32 = .bool x32_9 ∧ Aside0 (pte_Decode.j1 kq x32_9 t145 t146 t147 t148 t149 t150 t151 = some (r1, r2, r3, r4, r5, r6, r7, r8)) ∧ Aside0 (kq ≤ kj2) ∧ Aside0 (wc.heap[gb144]? = some (.cells #[.int .i64 0, .int .i64 0, .bool false, .bool false, .bool false, .bool false, .int .i64 0] 37 (0, 0))) ∧ Aside0 (wc.heap[gb152]? = some (.cells #[.int .i64 t145, .int .i64 t146, .bool t147, .bool t148, .bool t149, .bool t150, .int .i64 t151] 37 (0, 0))) ∧ Aside0 (Below w.heap.size w wc))
        case first =>
          have H := HC10.out
          clear HC10
          rcases t154 with _ | q155
          · have H1 : (pte_Decode.j1 kj2 (t153 != a1) t145 t146 t147 t148 t149 t150 t151) = some (r1, r2, r3, r4, r5, r6, r7, r8) := by rw [if_pos (show (none : Option Int).isNone = true by rfl)] at H; exact H
            clear H
            have H := H1
            clear H1
            try simp only [errW_none, errW_some]
            have H' := Aside0.mk H
            clear H
            go_wp2
            go_meet
            case rel => exact ⟨_, ((t153 != a1)), (by first | rfl | (simp; done) | (simp [*]; done)), H', ⟨by have := HJ2.out; first | omega | exact Nat.le_refl _⟩, ⟨by (with_reducible repeat (first | refine blk_drewN ?_ _ | refine blk_drew ?_ | refine blk_alloc ?_ _)); exact BK144.out⟩, ⟨by (with_reducible repeat (first | refine blk_drewN ?_ _ | refine blk_drew ?_ | refine blk_alloc ?_ _)); exact BK152.out⟩, ⟨by repeat (first | (with_reducible first | exact HB.out | apply below_alloc | apply pw_below_drewN | apply below_drew1 | refine below_set ?_ GE144.out | refine below_set ?_ GE152.out) | exact HB.out)⟩⟩
          · have H1 : (pte_Decode.j1 kj2 true t145 t146 t147 t148 t149 t150 t151) = some (r1, r2, r3, r4, r5, r6, r7, r8) := by rw [if_neg (show ¬ (some q155).isNone = true by simp)] at H; exact H
            clear H
            have H := H1
            clear H1
            try simp only [errW_none, errW_some]
            have H' := Aside0.mk H
            clear H
            go_wp2
            go_meet
            case rel => exact ⟨_, (true), (by first | rfl | (simp; done) | (simp [*]; done)), H', ⟨by have := HJ2.out; first | omega | exact Nat.le_refl _⟩, ⟨by (with_reducible repeat (first | refine blk_drewN ?_ _ | refine blk_drew ?_ | refine blk_alloc ?_ _)); exact BK144.out⟩, ⟨by (with_reducible repeat (first | refine blk_drewN ?_ _ | refine blk_drew ?_ | refine blk_alloc ?_ _)); exact BK152.out⟩, ⟨by repeat (first | (with_reducible first | exact HB.out | apply below_alloc | apply pw_below_drewN | apply below_drew1 | refine below_set ?_ GE144.out | refine below_set ?_ GE152.out) | exact HB.out)⟩⟩
        case rest =>
          clear HC10
          try clear c1
          try clear q1
          try clear c2
          try clear p2
          try clear c3
          try clear c5
          try clear c5b0
          try clear c6
          try clear c13
          try clear q15
          try clear hcz14_0
          try clear hcz14_1
          try clear hcz14_2
          try clear hcz14_3
          try clear hcz14_4
          try clear hcz14_5
          try clear hcz14_6
          try clear hcz7_0
          try clear hcz7_1
          try clear hcz7_2
          try clear hcz7_3
          try clear hcz7_4
          try clear hcz7_5
          try clear hcz7_6
          try clear hfz14_0
          try clear hfz14_1
          try clear hfz14_2
          try clear hfz14_3
          try clear hfz14_4
          try clear hfz14_5
          try clear hfz14_6
          try clear hfz7_0
          try clear hfz7_1
          try clear hfz7_2
          try clear hfz7_3
          try clear hfz7_4
          try clear hfz7_5
          try clear hfz7_6
          try clear p2
          try clear q155
          obtain ⟨kq, x32_9, rfl, HA, HJ9, BK144, BK152, HB⟩ := hcut
          cases kq with
          | zero => exact absurd HA.out (by simp [pte_Decode.j1])
          | succ kj9 =>
            have H := HA.out
            clear HA
            simp only [pte_Decode.j1] at H
            by_cases c16 : x32_9 = true
            · subst c16
              have H1 : (some (5, 0, false, false, false, false, 0, none)) = some (r1, r2, r3, r4, r5, r6, r7, r8) := by rw [if_pos rfl] at H; exact H
              clear H
              have H := H1
              clear H1
              simp only [Option.some.injEq, Prod.mk.injEq] at H
              obtain ⟨rfl, rfl, rfl, rfl, rfl, rfl, rfl, rfl⟩ := H
              have hnb17 := NB144_152.out
              have hnc17 := NB152_144.out
              have hcz18_0 : wc.cell? ⟨gb144, 0, none⟩ = some (.int .i64 0) := (blk_cell BK144.out 0).trans rfl
              have hcz18_1 : wc.cell? ⟨gb144, 1, none⟩ = some (.int .i64 0) := (blk_cell BK144.out 1).trans rfl
              have hcz18_2 : wc.cell? ⟨gb144, 2, none⟩ = some (.bool false) := (blk_cell BK144.out 2).trans rfl
              have hcz18_3 : wc.cell? ⟨gb144, 3, none⟩ = some (.bool false) := (blk_cell BK144.out 3).trans rfl
              have hcz18_4 : wc.cell? ⟨gb144, 4, none⟩ = some (.bool false) := (blk_cell BK144.out 4).trans rfl
              have hcz18_5 : wc.cell? ⟨gb144, 5, none⟩ = some (.bool false) := (blk_cell BK144.out 5).trans rfl
              have hcz18_6 : wc.cell? ⟨gb144, 6, none⟩ = some (.int .i64 0) := (blk_cell BK144.out 6).trans rfl
              have hfz18_0 := blk_frozen BK144.out 0
              have hfz18_1 := blk_frozen BK144.out 1
              have hfz18_2 := blk_frozen BK144.out 2
              have hfz18_3 := blk_frozen BK144.out 3
              have hfz18_4 := blk_frozen BK144.out 4
              have hfz18_5 := blk_frozen BK144.out 5
              have hfz18_6 := blk_frozen BK144.out 6
              go_wp2
              refine bodyPost_ret (results_ct rfl _ _ gb144 37 #[.int .i64 5, .int .i64 0, .bool false, .bool false, .bool false, .bool false, .int .i64 0] (0, 0) _ rfl (by (with_reducible repeat (first | refine blk_drewN ?_ _ | refine blk_drew ?_ | refine blk_alloc ?_ _)); refine blk_put (cs := #[.int .i64 5, .int .i64 0, .bool false, .bool false, .bool false, .bool false, .int .i64 0]) ?_ 6 _ rfl; (with_reducible repeat (first | refine blk_drewN ?_ _ | refine blk_drew ?_ | refine blk_alloc ?_ _)); refine blk_put (cs := #[.int .i64 5, .int .i64 0, .bool false, .bool false, .bool false, .bool false, .int .i64 0]) ?_ 5 _ rfl; (with_reducible repeat (first | refine blk_drewN ?_ _ | refine blk_drew ?_ | refine blk_alloc ?_ _)); refine blk_put (cs := #[.int .i64 5, .int .i64 0, .bool false, .bool false, .bool false, .bool false, .int .i64 0]) ?_ 4 _ rfl; (with_reducible repeat (first | refine blk_drewN ?_ _ | refine blk_drew ?_ | refine blk_alloc ?_ _)); refine blk_put (cs := #[.int .i64 5, .int .i64 0, .bool false, .bool false, .bool false, .bool false, .int .i64 0]) ?_ 3 _ rfl; (with_reducible repeat (first | refine blk_drewN ?_ _ | refine blk_drew ?_ | refine blk_alloc ?_ _)); refine blk_put (cs := #[.int .i64 5, .int .i64 0, .bool false, .bool false, .bool false, .bool false, .int .i64 0]) ?_ 2 _ rfl; (with_reducible repeat (first | refine blk_drewN ?_ _ | refine blk_drew ?_ | refine blk_alloc ?_ _)); refine blk_put (cs := #[.int .i64 5, .int .i64 0, .bool false, .bool false, .bool false, .bool false, .int .i64 0]) ?_ 1 _ rfl; (with_reducible repeat (first | refine blk_drewN ?_ _ | refine blk_drew ?_ | refine blk_alloc ?_ _)); refine blk_put (cs := #[.int .i64 0, .int .i64 0, .bool false, .bool false, .bool false, .bool false, .int .i64 0]) ?_ 0 _ rfl; (with_reducible repeat (first | refine blk_drewN ?_ _ | refine blk_drew ?_ | refine blk_alloc ?_ _)); exact BK144.out) Try.underlying37 rfl (by kernel_rfl)) rfl ?_
              exact ⟨by first | rfl | (simp [errW_none, errW_some] <;> rfl) | (simp [*, errW_none, errW_some] <;> rfl), by repeat (first | (with_reducible first | exact HB.out | apply below_alloc | apply pw_below_drewN | apply below_drew1 | refine below_set ?_ GE144.out | refine below_set ?_ GE152.out) | exact HB.out)⟩
            · replace c16 := Bool.eq_false_iff.mpr c16
              subst c16
              have H1 : (some (t145, t146, t147, t148, t149, t150, t151, none)) = some (r1, r2, r3, r4, r5, r6, r7, r8) := by rw [if_neg (show ¬ (false = true) by decide)] at H; exact H
              clear H
              have H := H1
              clear H1
              simp only [Option.some.injEq, Prod.mk.injEq] at H
              obtain ⟨rfl, rfl, rfl, rfl, rfl, rfl, rfl, rfl⟩ := H
              have hnb19 := NB152_144.out
              have hnc19 := NB144_152.out
              have hcz20_0 : wc.cell? ⟨gb152, 0, none⟩ = some (.int .i64 t145) := (blk_cell BK152.out 0).trans rfl
              have hcz20_1 : wc.cell? ⟨gb152, 1, none⟩ = some (.int .i64 t146) := (blk_cell BK152.out 1).trans rfl
              have hcz20_2 : wc.cell? ⟨gb152, 2, none⟩ = some (.bool t147) := (blk_cell BK152.out 2).trans rfl
              have hcz20_3 : wc.cell? ⟨gb152, 3, none⟩ = some (.bool t148) := (blk_cell BK152.out 3).trans rfl
              have hcz20_4 : wc.cell? ⟨gb152, 4, none⟩ = some (.bool t149) := (blk_cell BK152.out 4).trans rfl
              have hcz20_5 : wc.cell? ⟨gb152, 5, none⟩ = some (.bool t150) := (blk_cell BK152.out 5).trans rfl
              have hcz20_6 : wc.cell? ⟨gb152, 6, none⟩ = some (.int .i64 t151) := (blk_cell BK152.out 6).trans rfl
              have hfz20_0 := blk_frozen BK152.out 0
              have hfz20_1 := blk_frozen BK152.out 1
              have hfz20_2 := blk_frozen BK152.out 2
              have hfz20_3 := blk_frozen BK152.out 3
              have hfz20_4 := blk_frozen BK152.out 4
              have hfz20_5 := blk_frozen BK152.out 5
              have hfz20_6 := blk_frozen BK152.out 6
              have hcz21_0 : wc.cell? ⟨gb144, 0, none⟩ = some (.int .i64 0) := (blk_cell BK144.out 0).trans rfl
              have hcz21_1 : wc.cell? ⟨gb144, 1, none⟩ = some (.int .i64 0) := (blk_cell BK144.out 1).trans rfl
              have hcz21_2 : wc.cell? ⟨gb144, 2, none⟩ = some (.bool false) := (blk_cell BK144.out 2).trans rfl
              have hcz21_3 : wc.cell? ⟨gb144, 3, none⟩ = some (.bool false) := (blk_cell BK144.out 3).trans rfl
              have hcz21_4 : wc.cell? ⟨gb144, 4, none⟩ = some (.bool false) := (blk_cell BK144.out 4).trans rfl
              have hcz21_5 : wc.cell? ⟨gb144, 5, none⟩ = some (.bool false) := (blk_cell BK144.out 5).trans rfl
              have hcz21_6 : wc.cell? ⟨gb144, 6, none⟩ = some (.int .i64 0) := (blk_cell BK144.out 6).trans rfl
              have hfz21_0 := blk_frozen BK144.out 0
              have hfz21_1 := blk_frozen BK144.out 1
              have hfz21_2 := blk_frozen BK144.out 2
              have hfz21_3 := blk_frozen BK144.out 3
              have hfz21_4 := blk_frozen BK144.out 4
              have hfz21_5 := blk_frozen BK144.out 5
              have hfz21_6 := blk_frozen BK144.out 6
              go_wp2
              refine bodyPost_ret (results_ct rfl _ _ gb144 37 #[.int .i64 t145, .int .i64 t146, .bool t147, .bool t148, .bool t149, .bool t150, .int .i64 t151] (0, 0) _ rfl (by (with_reducible repeat (first | refine blk_drewN ?_ _ | refine blk_drew ?_ | refine blk_alloc ?_ _)); refine blk_put (cs := #[.int .i64 t145, .int .i64 t146, .bool t147, .bool t148, .bool t149, .bool t150, .int .i64 0]) ?_ 6 _ rfl; (with_reducible repeat (first | refine blk_drewN ?_ _ | refine blk_drew ?_ | refine blk_alloc ?_ _)); refine blk_put (cs := #[.int .i64 t145, .int .i64 t146, .bool t147, .bool t148, .bool t149, .bool false, .int .i64 0]) ?_ 5 _ rfl; (with_reducible repeat (first | refine blk_drewN ?_ _ | refine blk_drew ?_ | refine blk_alloc ?_ _)); refine blk_put (cs := #[.int .i64 t145, .int .i64 t146, .bool t147, .bool t148, .bool false, .bool false, .int .i64 0]) ?_ 4 _ rfl; (with_reducible repeat (first | refine blk_drewN ?_ _ | refine blk_drew ?_ | refine blk_alloc ?_ _)); refine blk_put (cs := #[.int .i64 t145, .int .i64 t146, .bool t147, .bool false, .bool false, .bool false, .int .i64 0]) ?_ 3 _ rfl; (with_reducible repeat (first | refine blk_drewN ?_ _ | refine blk_drew ?_ | refine blk_alloc ?_ _)); refine blk_put (cs := #[.int .i64 t145, .int .i64 t146, .bool false, .bool false, .bool false, .bool false, .int .i64 0]) ?_ 2 _ rfl; (with_reducible repeat (first | refine blk_drewN ?_ _ | refine blk_drew ?_ | refine blk_alloc ?_ _)); refine blk_put (cs := #[.int .i64 t145, .int .i64 0, .bool false, .bool false, .bool false, .bool false, .int .i64 0]) ?_ 1 _ rfl; (with_reducible repeat (first | refine blk_drewN ?_ _ | refine blk_drew ?_ | refine blk_alloc ?_ _)); refine blk_put (cs := #[.int .i64 0, .int .i64 0, .bool false, .bool false, .bool false, .bool false, .int .i64 0]) ?_ 0 _ rfl; (with_reducible repeat (first | refine blk_drewN ?_ _ | refine blk_drew ?_ | refine blk_alloc ?_ _)); exact BK144.out) Try.underlying37 rfl (by kernel_rfl)) rfl ?_
              exact ⟨by first | rfl | (simp [errW_none, errW_some] <;> rfl) | (simp [*, errW_none, errW_some] <;> rfl), by repeat (first | (with_reducible first | exact HB.out | apply below_alloc | apply pw_below_drewN | apply below_drew1 | refine below_set ?_ GE144.out | refine below_set ?_ GE152.out) | exact HB.out)⟩

/-! ### pte_Change: function 21 -/
def pte_Change.j0 : Nat → Bool → Int → Int → Bool → Bool → Bool → Bool → Int → Int → Int → Bool → Bool → Bool → Bool → Int → Option (Bool × Option Int)
  | 0, _, _, _, _, _, _, _, _, _, _, _, _, _, _, _ => none
  | k + 1, x41, x165000, x165001, x165002, x165003, x165004, x165005, x165006, x175000, x175001, x175002, x175003, x175004, x175005, x175006 => if x41 = true then (some (true, none)) else (if (x165000 == x175000 && (x165001 == x175001 && (x165002 == x175002 && (x165003 == x175003 && (x165005 == x175005))))) = true then (some ((x165000 != 5), none)) else (some (false, none)))
def pte_Change.f (k : Nat) (a0 : Int) (a1 : Int) (a2 : Int) : Option (Bool × Option Int) := (pte_Decode.f k a0 a1).bind fun bt156 => (if bt156.2.2.2.2.2.2.2.isNone = true then ((pte_Decode.f k a0 a2).bind fun bt166 => (if bt166.2.2.2.2.2.2.2.isNone = true then (if a1 = a2 then (pte_Change.j0 k true bt156.1 bt156.2.1 bt156.2.2.1 bt156.2.2.2.1 bt156.2.2.2.2.1 bt156.2.2.2.2.2.1 bt156.2.2.2.2.2.2.1 bt166.1 bt166.2.1 bt166.2.2.1 bt166.2.2.2.1 bt166.2.2.2.2.1 bt166.2.2.2.2.2.1 bt166.2.2.2.2.2.2.1) else (if (Go.bits .and .u64 a1 1) = 0 then (pte_Change.j0 k true bt156.1 bt156.2.1 bt156.2.2.1 bt156.2.2.2.1 bt156.2.2.2.2.1 bt156.2.2.2.2.2.1 bt156.2.2.2.2.2.2.1 bt166.1 bt166.2.1 bt166.2.2.1 bt166.2.2.2.1 bt166.2.2.2.2.1 bt166.2.2.2.2.2.1 bt166.2.2.2.2.2.2.1) else (pte_Change.j0 k ((Go.bits .and .u64 a2 1) == 0) bt156.1 bt156.2.1 bt156.2.2.1 bt156.2.2.2.1 bt156.2.2.2.2.1 bt156.2.2.2.2.2.1 bt156.2.2.2.2.2.2.1 bt166.1 bt166.2.1 bt166.2.2.1 bt166.2.2.2.1 bt166.2.2.2.2.1 bt166.2.2.2.2.2.1 bt166.2.2.2.2.2.2.1))) else (some (false, some (bt166.2.2.2.2.2.2.2.getD 0))))) else (some (false, some (bt156.2.2.2.2.2.2.2.getD 0))))
set_option maxHeartbeats 8000000 in
set_option maxRecDepth 100000 in
theorem pte_Change.calls (k : Nat) (a0 : Int) (a1 : Int) (a2 : Int) (r1 : Bool) (r2 : Option Int) (w : World) (h : pte_Change.f k a0 a1 a2 = some (r1, r2)) :
    Calls Try.prog 21 #[.int .i64 a0, .int .u64 a1, .int .u64 a2] w fun e w' => e = .returned (.tuple #[.bool r1, errW r2]) ∧ Below w.heap.size w w' := by
  have hu37 := Try.underlying37
  have hu29 := Try.underlying29
  have hu47 := Try.underlying47
  have HB := Aside0.mk (Below.refl w.heap.size w)
  have H : ((pte_Decode.f k a0 a1).bind fun bt156 => (if bt156.2.2.2.2.2.2.2.isNone = true then ((pte_Decode.f k a0 a2).bind fun bt166 => (if bt166.2.2.2.2.2.2.2.isNone = true then (if a1 = a2 then (pte_Change.j0 k true bt156.1 bt156.2.1 bt156.2.2.1 bt156.2.2.2.1 bt156.2.2.2.2.1 bt156.2.2.2.2.2.1 bt156.2.2.2.2.2.2.1 bt166.1 bt166.2.1 bt166.2.2.1 bt166.2.2.2.1 bt166.2.2.2.2.1 bt166.2.2.2.2.2.1 bt166.2.2.2.2.2.2.1) else (if (Go.bits .and .u64 a1 1) = 0 then (pte_Change.j0 k true bt156.1 bt156.2.1 bt156.2.2.1 bt156.2.2.2.1 bt156.2.2.2.2.1 bt156.2.2.2.2.2.1 bt156.2.2.2.2.2.2.1 bt166.1 bt166.2.1 bt166.2.2.1 bt166.2.2.2.1 bt166.2.2.2.2.1 bt166.2.2.2.2.2.1 bt166.2.2.2.2.2.2.1) else (pte_Change.j0 k ((Go.bits .and .u64 a2 1) == 0) bt156.1 bt156.2.1 bt156.2.2.1 bt156.2.2.2.1 bt156.2.2.2.2.1 bt156.2.2.2.2.2.1 bt156.2.2.2.2.2.2.1 bt166.1 bt166.2.1 bt166.2.2.1 bt166.2.2.2.1 bt166.2.2.2.2.1 bt166.2.2.2.2.2.1 bt166.2.2.2.2.2.2.1))) else (some (false, some (bt166.2.2.2.2.2.2.2.getD 0))))) else (some (false, some (bt156.2.2.2.2.2.2.2.getD 0))))) = some (r1, r2) := h
  clear h
  replace H := Option.bind_eq_some_iff.mp H
  obtain ⟨⟨t156, t157, t158, t159, t160, t161, t162, t163⟩, A40, H⟩ := H
  replace H : (if t163.isNone = true then ((pte_Decode.f k a0 a2).bind fun bt166 => (if bt166.2.2.2.2.2.2.2.isNone = true then (if a1 = a2 then (pte_Change.j0 k true t156 t157 t158 t159 t160 t161 t162 bt166.1 bt166.2.1 bt166.2.2.1 bt166.2.2.2.1 bt166.2.2.2.2.1 bt166.2.2.2.2.2.1 bt166.2.2.2.2.2.2.1) else (if (Go.bits .and .u64 a1 1) = 0 then (pte_Change.j0 k true t156 t157 t158 t159 t160 t161 t162 bt166.1 bt166.2.1 bt166.2.2.1 bt166.2.2.2.1 bt166.2.2.2.2.1 bt166.2.2.2.2.2.1 bt166.2.2.2.2.2.2.1) else (pte_Change.j0 k ((Go.bits .and .u64 a2 1) == 0) t156 t157 t158 t159 t160 t161 t162 bt166.1 bt166.2.1 bt166.2.2.1 bt166.2.2.2.1 bt166.2.2.2.2.1 bt166.2.2.2.2.2.1 bt166.2.2.2.2.2.2.1))) else (some (false, some (bt166.2.2.2.2.2.2.2.getD 0))))) else (some (false, some (t163.getD 0)))) = some (r1, r2) := H
  have A4 := Aside0.mk A40
  clear A40
  rcases t163 with _ | q165
  · have H1 : ((pte_Decode.f k a0 a2).bind fun bt166 => (if bt166.2.2.2.2.2.2.2.isNone = true then (if a1 = a2 then (pte_Change.j0 k true t156 t157 t158 t159 t160 t161 t162 bt166.1 bt166.2.1 bt166.2.2.1 bt166.2.2.2.1 bt166.2.2.2.2.1 bt166.2.2.2.2.2.1 bt166.2.2.2.2.2.2.1) else (if (Go.bits .and .u64 a1 1) = 0 then (pte_Change.j0 k true t156 t157 t158 t159 t160 t161 t162 bt166.1 bt166.2.1 bt166.2.2.1 bt166.2.2.2.1 bt166.2.2.2.2.1 bt166.2.2.2.2.2.1 bt166.2.2.2.2.2.2.1) else (pte_Change.j0 k ((Go.bits .and .u64 a2 1) == 0) t156 t157 t158 t159 t160 t161 t162 bt166.1 bt166.2.1 bt166.2.2.1 bt166.2.2.2.1 bt166.2.2.2.2.1 bt166.2.2.2.2.2.1 bt166.2.2.2.2.2.2.1))) else (some (false, some (bt166.2.2.2.2.2.2.2.getD 0))))) = some (r1, r2) := by rw [if_pos (show (none : Option Int).isNone = true by rfl)] at H; exact H
    clear H
    have H := H1
    clear H1
    try simp only [errW_none, errW_some]
    replace H := Option.bind_eq_some_iff.mp H
    obtain ⟨⟨t166, t167, t168, t169, t170, t171, t172, t173⟩, A50, H⟩ := H
    replace H : (if t173.isNone = true then (if a1 = a2 then (pte_Change.j0 k true t156 t157 t158 t159 t160 t161 t162 t166 t167 t168 t169 t170 t171 t172) else (if (Go.bits .and .u64 a1 1) = 0 then (pte_Change.j0 k true t156 t157 t158 t159 t160 t161 t162 t166 t167 t168 t169 t170 t171 t172) else (pte_Change.j0 k ((Go.bits .and .u64 a2 1) == 0) t156 t157 t158 t159 t160 t161 t162 t166 t167 t168 t169 t170 t171 t172))) else (some (false, some (t173.getD 0)))) = some (r1, r2) := H
    have A5 := Aside0.mk A50
    clear A50
    rcases t173 with _ | q175
    · have H1 : (if a1 = a2 then (pte_Change.j0 k true t156 t157 t158 t159 t160 t161 t162 t166 t167 t168 t169 t170 t171 t172) else (if (Go.bits .and .u64 a1 1) = 0 then (pte_Change.j0 k true t156 t157 t158 t159 t160 t161 t162 t166 t167 t168 t169 t170 t171 t172) else (pte_Change.j0 k ((Go.bits .and .u64 a2 1) == 0) t156 t157 t158 t159 t160 t161 t162 t166 t167 t168 t169 t170 t171 t172))) = some (r1, r2) := by rw [if_pos (show (none : Option Int).isNone = true by rfl)] at H; exact H
      clear H
      have H := H1
      clear H1
      try simp only [errW_none, errW_some]
      have HC6 := Aside0.mk H
      clear H
      go_enter Try.func21, Try.ntmps21
      go_upto_region 7 with (first | ((with_reducible refine gate_callee (f := 28) rfl ?_); refine goesL_ (some 14) rfl rfl Try.func28 (by kernel_rfl) rfl #[.int .i64 a0, .int .u64 a1] rfl (by (try simp only [List.map_toArray, List.map_cons, List.map_nil]); first | done | rfl | (simp only [List.length_drop, List.length_take]; rfl)) ?_; (with_reducible refine (pte_Decode.calls k a0 a1 t156 t157 t158 t159 t160 t161 t162 none _ A4.out).mono ?_); rintro e w7 ⟨rfl, hb⟩; refine ⟨_, rfl, ?_⟩; have n0_ := Aside0.mk (below_step (by repeat (first | (with_reducible first | exact HB.out | apply below_alloc | apply pw_below_drewN | apply below_drew1) | exact HB.out)) hb); clear HB; have HB := n0_; clear n0_; (try clear hb); (try clear hb2); (try clear hk); (try clear hi); (try simp only [errW_none, errW_some])) | ((with_reducible refine gate_dst (N := 8) rfl ?_); refine box_event ?hg (N := 8) ?hd (cs := #[.int .i64 0, .int .i64 0, .bool false, .bool false, .bool false, .bool false, .int .i64 0]) (t := 37) ?hr ?_; (case hd => rfl); (case hg => rfl); (case hr => first | (go_simp; done) | (go_simp; rfl)); intro gb164 hg w8 hbox hb; have n0_ := Aside0.mk (below_step (by repeat (first | (with_reducible first | exact HB.out | apply below_alloc | apply pw_below_drewN | apply below_drew1) | exact HB.out)) hb); have n1_ := Aside0.mk (hbox); have n2_ := Aside0.mk ((by rw [hg]; exact (below_size (by repeat (first | (with_reducible first | exact HB.out | apply below_alloc | apply pw_below_drewN | apply below_drew1) | exact HB.out))) : w.heap.size ≤ gb164)); have n3_ := Aside0.mk ((by rw [hg]; exact (below_size (by repeat (first | (with_reducible first | exact HB.out | apply below_alloc | apply pw_below_drewN | apply below_drew1) | exact HB.out))) : w.heap.size ≤ gb164)); clear HB; have HB := n0_; have BK164 := n1_; have GW164 := n2_; have GE164 := n3_; clear n0_ n1_ n2_ n3_; clear hb hbox hg; have hcz9_0 : w8.cell? ⟨gb164, 0, none⟩ = some (.int .i64 0) := (blk_cell BK164.out 0).trans rfl; have hcz9_1 : w8.cell? ⟨gb164, 1, none⟩ = some (.int .i64 0) := (blk_cell BK164.out 1).trans rfl; have hcz9_2 : w8.cell? ⟨gb164, 2, none⟩ = some (.bool false) := (blk_cell BK164.out 2).trans rfl; have hcz9_3 : w8.cell? ⟨gb164, 3, none⟩ = some (.bool false) := (blk_cell BK164.out 3).trans rfl; have hcz9_4 : w8.cell? ⟨gb164, 4, none⟩ = some (.bool false) := (blk_cell BK164.out 4).trans rfl; have hcz9_5 : w8.cell? ⟨gb164, 5, none⟩ = some (.bool false) := (blk_cell BK164.out 5).trans rfl; have hcz9_6 : w8.cell? ⟨gb164, 6, none⟩ = some (.int .i64 0) := (blk_cell BK164.out 6).trans rfl; have hfz9_0 := blk_frozen BK164.out 0; have hfz9_1 := blk_frozen BK164.out 1; have hfz9_2 := blk_frozen BK164.out 2; have hfz9_3 := blk_frozen BK164.out 3; have hfz9_4 := blk_frozen BK164.out 4; have hfz9_5 := blk_frozen BK164.out 5; have hfz9_6 := blk_frozen BK164.out 6) | ((with_reducible refine gate_callee (f := 28) rfl ?_); refine goesL_ (some 23) rfl rfl Try.func28 (by kernel_rfl) rfl #[.int .i64 a0, .int .u64 a2] rfl (by (try simp only [List.map_toArray, List.map_cons, List.map_nil]); first | done | rfl | (simp only [List.length_drop, List.length_take]; rfl)) ?_; (with_reducible refine (pte_Decode.calls k a0 a2 t166 t167 t168 t169 t170 t171 t172 none _ A5.out).mono ?_); rintro e w10 ⟨rfl, hb⟩; refine ⟨_, rfl, ?_⟩; have n0_ := Aside0.mk (blk_below (g := gb164) (o := .cells #[.int .i64 t156, .int .i64 t157, .bool t158, .bool t159, .bool t160, .bool t161, .int .i64 t162] 37 (0, 0)) (by (with_reducible repeat (first | refine blk_drewN ?_ _ | refine blk_drew ?_ | refine blk_alloc ?_ _)); refine blk_put (cs := #[.int .i64 t156, .int .i64 t157, .bool t158, .bool t159, .bool t160, .bool t161, .int .i64 0]) ?_ 6 _ rfl; (with_reducible repeat (first | refine blk_drewN ?_ _ | refine blk_drew ?_ | refine blk_alloc ?_ _)); refine blk_put (cs := #[.int .i64 t156, .int .i64 t157, .bool t158, .bool t159, .bool t160, .bool false, .int .i64 0]) ?_ 5 _ rfl; (with_reducible repeat (first | refine blk_drewN ?_ _ | refine blk_drew ?_ | refine blk_alloc ?_ _)); refine blk_put (cs := #[.int .i64 t156, .int .i64 t157, .bool t158, .bool t159, .bool false, .bool false, .int .i64 0]) ?_ 4 _ rfl; (with_reducible repeat (first | refine blk_drewN ?_ _ | refine blk_drew ?_ | refine blk_alloc ?_ _)); refine blk_put (cs := #[.int .i64 t156, .int .i64 t157, .bool t158, .bool false, .bool false, .bool false, .int .i64 0]) ?_ 3 _ rfl; (with_reducible repeat (first | refine blk_drewN ?_ _ | refine blk_drew ?_ | refine blk_alloc ?_ _)); refine blk_put (cs := #[.int .i64 t156, .int .i64 t157, .bool false, .bool false, .bool false, .bool false, .int .i64 0]) ?_ 2 _ rfl; (with_reducible repeat (first | refine blk_drewN ?_ _ | refine blk_drew ?_ | refine blk_alloc ?_ _)); refine blk_put (cs := #[.int .i64 t156, .int .i64 0, .bool false, .bool false, .bool false, .bool false, .int .i64 0]) ?_ 1 _ rfl; (with_reducible repeat (first | refine blk_drewN ?_ _ | refine blk_drew ?_ | refine blk_alloc ?_ _)); refine blk_put (cs := #[.int .i64 0, .int .i64 0, .bool false, .bool false, .bool false, .bool false, .int .i64 0]) ?_ 0 _ rfl; (with_reducible repeat (first | refine blk_drewN ?_ _ | refine blk_drew ?_ | refine blk_alloc ?_ _)); exact BK164.out) hb); have n1_ := Aside0.mk (below_step (by repeat (first | (with_reducible first | exact HB.out | apply below_alloc | apply pw_below_drewN | apply below_drew1 | refine below_set ?_ GE164.out) | exact HB.out)) hb); clear BK164; clear HB; have BK164 := n0_; have HB := n1_; clear n0_ n1_; (try clear hb); (try clear hb2); (try clear hk); (try clear hi); (try simp only [errW_none, errW_some])) | ((with_reducible refine gate_dst (N := 10) rfl ?_); refine box_event ?hg (N := 10) ?hd (cs := #[.int .i64 0, .int .i64 0, .bool false, .bool false, .bool false, .bool false, .int .i64 0]) (t := 37) ?hr ?_; (case hd => rfl); (case hg => rfl); (case hr => first | (go_simp; done) | (go_simp; rfl)); intro gb174 hg w11 hbox hb; have n0_ := Aside0.mk (blk_below (g := gb164) (o := .cells #[.int .i64 t156, .int .i64 t157, .bool t158, .bool t159, .bool t160, .bool t161, .int .i64 t162] 37 (0, 0)) (by (with_reducible repeat (first | refine blk_drewN ?_ _ | refine blk_drew ?_ | refine blk_alloc ?_ _)); exact BK164.out) hb); have n1_ := Aside0.mk (below_step (by repeat (first | (with_reducible first | exact HB.out | apply below_alloc | apply pw_below_drewN | apply below_drew1 | refine below_set ?_ GE164.out) | exact HB.out)) hb); have n2_ := Aside0.mk (hbox); have n3_ := Aside0.mk ((by rw [hg]; exact (below_size (by repeat (first | (with_reducible first | exact HB.out | apply below_alloc | apply pw_below_drewN | apply below_drew1 | refine below_set ?_ GE164.out) | exact HB.out))) : w.heap.size ≤ gb174)); have n4_ := Aside0.mk ((by rw [hg]; exact (below_size (by repeat (first | (with_reducible first | exact HB.out | apply below_alloc | apply pw_below_drewN | apply below_drew1 | refine below_set ?_ GE164.out) | exact HB.out))) : w.heap.size ≤ gb174)); have n5_ := Aside0.mk ((by rw [hg]; exact Nat.ne_of_lt (blk_lt (g := gb164) (o := .cells #[.int .i64 t156, .int .i64 t157, .bool t158, .bool t159, .bool t160, .bool t161, .int .i64 t162] 37 (0, 0)) (by (with_reducible repeat (first | refine blk_drewN ?_ _ | refine blk_drew ?_ | refine blk_alloc ?_ _)); exact BK164.out)) : gb164 ≠ gb174)); have n6_ := Aside0.mk ((by rw [hg]; exact Nat.ne_of_gt (blk_lt (g := gb164) (o := .cells #[.int .i64 t156, .int .i64 t157, .bool t158, .bool t159, .bool t160, .bool t161, .int .i64 t162] 37 (0, 0)) (by (with_reducible repeat (first | refine blk_drewN ?_ _ | refine blk_drew ?_ | refine blk_alloc ?_ _)); exact BK164.out)) : gb174 ≠ gb164)); clear BK164; clear HB; have BK164 := n0_; have HB := n1_; have BK174 := n2_; have GW174 := n3_; have GE174 := n4_; have NB164_174 := n5_; have NB174_164 := n6_; clear n0_ n1_ n2_ n3_ n4_ n5_ n6_; clear hb hbox hg; have hnb12 := NB174_164.out; have hnc12 := NB164_174.out; have hcz13_0 : w11.cell? ⟨gb174, 0, none⟩ = some (.int .i64 0) := (blk_cell BK174.out 0).trans rfl; have hcz13_1 : w11.cell? ⟨gb174, 1, none⟩ = some (.int .i64 0) := (blk_cell BK174.out 1).trans rfl; have hcz13_2 : w11.cell? ⟨gb174, 2, none⟩ = some (.bool false) := (blk_cell BK174.out 2).trans rfl; have hcz13_3 : w11.cell? ⟨gb174, 3, none⟩ = some (.bool false) := (blk_cell BK174.out 3).trans rfl; have hcz13_4 : w11.cell? ⟨gb174, 4, none⟩ = some (.bool false) := (blk_cell BK174.out 4).trans rfl; have hcz13_5 : w11.cell? ⟨gb174, 5, none⟩ = some (.bool false) := (blk_cell BK174.out 5).trans rfl; have hcz13_6 : w11.cell? ⟨gb174, 6, none⟩ = some (.int .i64 0) := (blk_cell BK174.out 6).trans rfl; have hfz13_0 := blk_frozen BK174.out 0; have hfz13_1 := blk_frozen BK174.out 1; have hfz13_2 := blk_frozen BK174.out 2; have hfz13_3 := blk_frozen BK174.out 3; have hfz13_4 := blk_frozen BK174.out 4; have hfz13_5 := blk_frozen BK174.out 5; have hfz13_6 := blk_frozen BK174.out 6))
      (try simp only [Act.put, List.setIfInBounds_toArray, List.set_cons_zero, List.set_cons_succ])
      go_cut [41] (fun v41 wc => ∃ (kq : Nat) (x41_5 : Bool), v41 = .bool x41_5 ∧ Aside0 (pte_Change.j0 kq x41_5 t156 t157 t158 t159 t160 t161 t162 t166 t167 t168 t169 t170 t171 t172 = some (r1, r2)) ∧ Aside0 (kq ≤ k) ∧ Aside0 (wc.heap[gb164]? = some (.cells #[.int .i64 t156, .int .i64 t157, .bool t158, .bool t159, .bool t160, .bool t161, .int .i64 t162] 37 (0, 0))) ∧ Aside0 (wc.heap[gb174]? = some (.cells #[.int .i64 t166, .int .i64 t167, .bool t168, .bool t169, .bool t170, .bool t171, .int .i64 t172] 37 (0, 0))) ∧ Aside0 (Below w.heap.size w wc))
      case first =>
        have H := HC6.out
        clear HC6
        by_cases c14 : a1 = a2
        · rw [if_pos c14] at H
          have c14b0 : (a1 == a2) = true := beq_iff_eq.mpr c14
          have c14b1 : (a1 != a2) = false := bne_eq_false_iff_eq.mpr c14
          clear c14
          (first | rw [c14b0] | (simp only [i64_w, i32_w]; rw [c14b0]) | skip)
          have H' := Aside0.mk H
          clear H
          go_wp2
          go_meet
          case rel => exact ⟨_, (true), (by first | rfl | (simp; done) | (simp [*]; done)), H', ⟨by first | omega | exact Nat.le_refl _⟩, ⟨by (with_reducible repeat (first | refine blk_drewN ?_ _ | refine blk_drew ?_ | refine blk_alloc ?_ _)); refine blk_far ?_ NB164_174.out _; (with_reducible repeat (first | refine blk_drewN ?_ _ | refine blk_drew ?_ | refine blk_alloc ?_ _)); refine blk_far ?_ NB164_174.out _; (with_reducible repeat (first | refine blk_drewN ?_ _ | refine blk_drew ?_ | refine blk_alloc ?_ _)); refine blk_far ?_ NB164_174.out _; (with_reducible repeat (first | refine blk_drewN ?_ _ | refine blk_drew ?_ | refine blk_alloc ?_ _)); refine blk_far ?_ NB164_174.out _; (with_reducible repeat (first | refine blk_drewN ?_ _ | refine blk_drew ?_ | refine blk_alloc ?_ _)); refine blk_far ?_ NB164_174.out _; (with_reducible repeat (first | refine blk_drewN ?_ _ | refine blk_drew ?_ | refine blk_alloc ?_ _)); refine blk_far ?_ NB164_174.out _; (with_reducible repeat (first | refine blk_drewN ?_ _ | refine blk_drew ?_ | refine blk_alloc ?_ _)); refine blk_far ?_ NB164_174.out _; (with_reducible repeat (first | refine blk_drewN ?_ _ | refine blk_drew ?_ | refine blk_alloc ?_ _)); exact BK164.out⟩, ⟨by (with_reducible repeat (first | refine blk_drewN ?_ _ | refine blk_drew ?_ | refine blk_alloc ?_ _)); refine blk_put (cs := #[.int .i64 t166, .int .i64 t167, .bool t168, .bool t169, .bool t170, .bool t171, .int .i64 0]) ?_ 6 _ rfl; (with_reducible repeat (first | refine blk_drewN ?_ _ | refine blk_drew ?_ | refine blk_alloc ?_ _)); refine blk_put (cs := #[.int .i64 t166, .int .i64 t167, .bool t168, .bool t169, .bool t170, .bool false, .int .i64 0]) ?_ 5 _ rfl; (with_reducible repeat (first | refine blk_drewN ?_ _ | refine blk_drew ?_ | refine blk_alloc ?_ _)); refine blk_put (cs := #[.int .i64 t166, .int .i64 t167, .bool t168, .bool t169, .bool false, .bool false, .int .i64 0]) ?_ 4 _ rfl; (with_reducible repeat (first | refine blk_drewN ?_ _ | refine blk_drew ?_ | refine blk_alloc ?_ _)); refine blk_put (cs := #[.int .i64 t166, .int .i64 t167, .bool t168, .bool false, .bool false, .bool false, .int .i64 0]) ?_ 3 _ rfl; (with_reducible repeat (first | refine blk_drewN ?_ _ | refine blk_drew ?_ | refine blk_alloc ?_ _)); refine blk_put (cs := #[.int .i64 t166, .int .i64 t167, .bool false, .bool false, .bool false, .bool false, .int .i64 0]) ?_ 2 _ rfl; (with_reducible repeat (first | refine blk_drewN ?_ _ | refine blk_drew ?_ | refine blk_alloc ?_ _)); refine blk_put (cs := #[.int .i64 t166, .int .i64 0, .bool false, .bool false, .bool false, .bool false, .int .i64 0]) ?_ 1 _ rfl; (with_reducible repeat (first | refine blk_drewN ?_ _ | refine blk_drew ?_ | refine blk_alloc ?_ _)); refine blk_put (cs := #[.int .i64 0, .int .i64 0, .bool false, .bool false, .bool false, .bool false, .int .i64 0]) ?_ 0 _ rfl; (with_reducible repeat (first | refine blk_drewN ?_ _ | refine blk_drew ?_ | refine blk_alloc ?_ _)); exact BK174.out⟩, ⟨by repeat (first | (with_reducible first | exact HB.out | apply below_alloc | apply pw_below_drewN | apply below_drew1 | refine below_set ?_ GE164.out | refine below_set ?_ GE174.out) | exact HB.out)⟩⟩
        · rw [if_neg c14] at H
          have c14b0 : (a1 == a2) = false := beq_eq_false_iff_ne.mpr c14
          have c14b1 : (a1 != a2) = true := bne_iff_ne.mpr c14
          (first | rw [c14b0] | (simp only [i64_w, i32_w]; rw [c14b0]) | skip)
          by_cases c15 : (Go.bits .and .u64 a1 1) = 0
          · rw [if_pos c15] at H
            have c15b0 : ((Go.bits .and .u64 a1 1) == 0) = true := beq_iff_eq.mpr c15
            have c15b1 : ((Go.bits .and .u64 a1 1) != 0) = false := bne_eq_false_iff_eq.mpr c15
            clear c15
            have H' := Aside0.mk H
            clear H
            go_wp2
            go_meet
            case rel => exact ⟨_, (true), (by first | rfl | (simp; done) | (simp [*]; done)), H', ⟨by first | omega | exact Nat.le_refl _⟩, ⟨by (with_reducible repeat (first | refine blk_drewN ?_ _ | refine blk_drew ?_ | refine blk_alloc ?_ _)); refine blk_far ?_ NB164_174.out _; (with_reducible repeat (first | refine blk_drewN ?_ _ | refine blk_drew ?_ | refine blk_alloc ?_ _)); refine blk_far ?_ NB164_174.out _; (with_reducible repeat (first | refine blk_drewN ?_ _ | refine blk_drew ?_ | refine blk_alloc ?_ _)); refine blk_far ?_ NB164_174.out _; (with_reducible repeat (first | refine blk_drewN ?_ _ | refine blk_drew ?_ | refine blk_alloc ?_ _)); refine blk_far ?_ NB164_174.out _; (with_reducible repeat (first | refine blk_drewN ?_ _ | refine blk_drew ?_ | refine blk_alloc ?_ _)); refine blk_far ?_ NB164_174.out _; (with_reducible repeat (first | refine blk_drewN ?_ _ | refine blk_drew ?_ | refine blk_alloc ?_ _)); refine blk_far ?_ NB164_174.out _; (with_reducible repeat (first | refine blk_drewN ?_ _ | refine blk_drew ?_ | refine blk_alloc ?_ _)); refine blk_far ?_ NB164_174.out _; (with_reducible repeat (first | refine blk_drewN ?_ _ | refine blk_drew ?_ | refine blk_alloc ?_ _)); exact BK164.out⟩, ⟨by (with_reducible repeat (first | refine blk_drewN ?_ _ | refine blk_drew ?_ | refine blk_alloc ?_ _)); refine blk_put (cs := #[.int .i64 t166, .int .i64 t167, .bool t168, .bool t169, .bool t170, .bool t171, .int .i64 0]) ?_ 6 _ rfl; (with_reducible repeat (first | refine blk_drewN ?_ _ | refine blk_drew ?_ | refine blk_alloc ?_ _)); refine blk_put (cs := #[.int .i64 t166, .int .i64 t167, .bool t168, .bool t169, .bool t170, .bool false, .int .i64 0]) ?_ 5 _ rfl; (with_reducible repeat (first | refine blk_drewN ?_ _ | refine blk_drew ?_ | refine blk_alloc ?_ _)); refine blk_put (cs := #[.int .i64 t166, .int .i64 t167, .bool t168, .bool t169, .bool false, .bool false, .int .i64 0]) ?_ 4 _ rfl; (with_reducible repeat (first | refine blk_drewN ?_ _ | refine blk_drew ?_ | refine blk_alloc ?_ _)); refine blk_put (cs := #[.int .i64 t166, .int .i64 t167, .bool t168, .bool false, .bool false, .bool false, .int .i64 0]) ?_ 3 _ rfl; (with_reducible repeat (first | refine blk_drewN ?_ _ | refine blk_drew ?_ | refine blk_alloc ?_ _)); refine blk_put (cs := #[.int .i64 t166, .int .i64 t167, .bool false, .bool false, .bool false, .bool false, .int .i64 0]) ?_ 2 _ rfl; (with_reducible repeat (first | refine blk_drewN ?_ _ | refine blk_drew ?_ | refine blk_alloc ?_ _)); refine blk_put (cs := #[.int .i64 t166, .int .i64 0, .bool false, .bool false, .bool false, .bool false, .int .i64 0]) ?_ 1 _ rfl; (with_reducible repeat (first | refine blk_drewN ?_ _ | refine blk_drew ?_ | refine blk_alloc ?_ _)); refine blk_put (cs := #[.int .i64 0, .int .i64 0, .bool false, .bool false, .bool false, .bool false, .int .i64 0]) ?_ 0 _ rfl; (with_reducible repeat (first | refine blk_drewN ?_ _ | refine blk_drew ?_ | refine blk_alloc ?_ _)); exact BK174.out⟩, ⟨by repeat (first | (with_reducible first | exact HB.out | apply below_alloc | apply pw_below_drewN | apply below_drew1 | refine below_set ?_ GE164.out | refine below_set ?_ GE174.out) | exact HB.out)⟩⟩
          · rw [if_neg c15] at H
            have c15b0 : ((Go.bits .and .u64 a1 1) == 0) = false := beq_eq_false_iff_ne.mpr c15
            have c15b1 : ((Go.bits .and .u64 a1 1) != 0) = true := bne_iff_ne.mpr c15
            have H' := Aside0.mk H
            clear H
            go_wp2
            go_meet
            case rel => exact ⟨_, (((Go.bits .and .u64 a2 1) == 0)), (by first | rfl | (simp; done) | (simp [*]; done)), H', ⟨by first | omega | exact Nat.le_refl _⟩, ⟨by (with_reducible repeat (first | refine blk_drewN ?_ _ | refine blk_drew ?_ | refine blk_alloc ?_ _)); refine blk_far ?_ NB164_174.out _; (with_reducible repeat (first | refine blk_drewN ?_ _ | refine blk_drew ?_ | refine blk_alloc ?_ _)); refine blk_far ?_ NB164_174.out _; (with_reducible repeat (first | refine blk_drewN ?_ _ | refine blk_drew ?_ | refine blk_alloc ?_ _)); refine blk_far ?_ NB164_174.out _; (with_reducible repeat (first | refine blk_drewN ?_ _ | refine blk_drew ?_ | refine blk_alloc ?_ _)); refine blk_far ?_ NB164_174.out _; (with_reducible repeat (first | refine blk_drewN ?_ _ | refine blk_drew ?_ | refine blk_alloc ?_ _)); refine blk_far ?_ NB164_174.out _; (with_reducible repeat (first | refine blk_drewN ?_ _ | refine blk_drew ?_ | refine blk_alloc ?_ _)); refine blk_far ?_ NB164_174.out _; (with_reducible repeat (first | refine blk_drewN ?_ _ | refine blk_drew ?_ | refine blk_alloc ?_ _)); refine blk_far ?_ NB164_174.out _; (with_reducible repeat (first | refine blk_drewN ?_ _ | refine blk_drew ?_ | refine blk_alloc ?_ _)); exact BK164.out⟩, ⟨by (with_reducible repeat (first | refine blk_drewN ?_ _ | refine blk_drew ?_ | refine blk_alloc ?_ _)); refine blk_put (cs := #[.int .i64 t166, .int .i64 t167, .bool t168, .bool t169, .bool t170, .bool t171, .int .i64 0]) ?_ 6 _ rfl; (with_reducible repeat (first | refine blk_drewN ?_ _ | refine blk_drew ?_ | refine blk_alloc ?_ _)); refine blk_put (cs := #[.int .i64 t166, .int .i64 t167, .bool t168, .bool t169, .bool t170, .bool false, .int .i64 0]) ?_ 5 _ rfl; (with_reducible repeat (first | refine blk_drewN ?_ _ | refine blk_drew ?_ | refine blk_alloc ?_ _)); refine blk_put (cs := #[.int .i64 t166, .int .i64 t167, .bool t168, .bool t169, .bool false, .bool false, .int .i64 0]) ?_ 4 _ rfl; (with_reducible repeat (first | refine blk_drewN ?_ _ | refine blk_drew ?_ | refine blk_alloc ?_ _)); refine blk_put (cs := #[.int .i64 t166, .int .i64 t167, .bool t168, .bool false, .bool false, .bool false, .int .i64 0]) ?_ 3 _ rfl; (with_reducible repeat (first | refine blk_drewN ?_ _ | refine blk_drew ?_ | refine blk_alloc ?_ _)); refine blk_put (cs := #[.int .i64 t166, .int .i64 t167, .bool false, .bool false, .bool false, .bool false, .int .i64 0]) ?_ 2 _ rfl; (with_reducible repeat (first | refine blk_drewN ?_ _ | refine blk_drew ?_ | refine blk_alloc ?_ _)); refine blk_put (cs := #[.int .i64 t166, .int .i64 0, .bool false, .bool false, .bool false, .bool false, .int .i64 0]) ?_ 1 _ rfl; (with_reducible repeat (first | refine blk_drewN ?_ _ | refine blk_drew ?_ | refine blk_alloc ?_ _)); refine blk_put (cs := #[.int .i64 0, .int .i64 0, .bool false, .bool false, .bool false, .bool false, .int .i64 0]) ?_ 0 _ rfl; (with_reducible repeat (first | refine blk_drewN ?_ _ | refine blk_drew ?_ | refine blk_alloc ?_ _)); exact BK174.out⟩, ⟨by repeat (first | (with_reducible first | exact HB.out | apply below_alloc | apply pw_below_drewN | apply below_drew1 | refine below_set ?_ GE164.out | refine below_set ?_ GE174.out) | exact HB.out)⟩⟩
      case rest =>
        clear HC6
        try clear c1
        try clear q1
        try clear c2
        try clear p2
        try clear c12
        try clear c14
        try clear c14b0
        try clear c14b1
        try clear c15
        try clear c15b0
        try clear c15b1
        try clear hcz13_0
        try clear hcz13_1
        try clear hcz13_2
        try clear hcz13_3
        try clear hcz13_4
        try clear hcz13_5
        try clear hcz13_6
        try clear hcz9_0
        try clear hcz9_1
        try clear hcz9_2
        try clear hcz9_3
        try clear hcz9_4
        try clear hcz9_5
        try clear hcz9_6
        try clear hfz13_0
        try clear hfz13_1
        try clear hfz13_2
        try clear hfz13_3
        try clear hfz13_4
        try clear hfz13_5
        try clear hfz13_6
        try clear hfz9_0
        try clear hfz9_1
        try clear hfz9_2
        try clear hfz9_3
        try clear hfz9_4
        try clear hfz9_5
        try clear hfz9_6
        try clear q165
        try clear q175
        obtain ⟨kq, x41_5, rfl, HA, HJ5, BK164, BK174, HB⟩ := hcut
        cases kq with
        | zero => exact absurd HA.out (by simp [pte_Change.j0])
        | succ kj5 =>
          have H := HA.out
          clear HA
          simp only [pte_Change.j0] at H
          by_cases c16 : x41_5 = true
          · subst c16
            have H1 : (some (true, none)) = some (r1, r2) := by rw [if_pos rfl] at H; exact H
            clear H
            have H := H1
            clear H1
            simp only [Option.some.injEq, Prod.mk.injEq] at H
            obtain ⟨rfl, rfl⟩ := H
            go_wp2
            go_ret2
            exact ⟨by first | rfl | (simp [errW_none, errW_some] <;> rfl) | (simp [*, errW_none, errW_some] <;> rfl), by repeat (first | (with_reducible first | exact HB.out | apply below_alloc | apply pw_below_drewN | apply below_drew1 | refine below_set ?_ GE164.out | refine below_set ?_ GE174.out) | exact HB.out)⟩
          · replace c16 := Bool.eq_false_iff.mpr c16
            subst c16
            have H1 : (if (t156 == t166 && (t157 == t167 && (t158 == t168 && (t159 == t169 && (t161 == t171))))) = true then (some ((t156 != 5), none)) else (some (false, none))) = some (r1, r2) := by rw [if_neg (show ¬ (false = true) by decide)] at H; exact H
            clear H
            have H := H1
            clear H1
            by_cases c17 : (t156 == t166 && (t157 == t167 && (t158 == t168 && (t159 == t169 && (t161 == t171))))) = true
            · rw [if_pos c17] at H
              have c17b0 : (t156 == t166 && (t157 == t167 && (t158 == t168 && (t159 == t169 && (t161 == t171))))) = true := c17
              (try (have c17b1 : decide (t156 = t166 && (t157 == t167 && (t158 == t168 && (t159 == t169 && (t161 == t171))))) = true := by simpa using c17))
              (try (have c17b2 : (t156 == t166 && (t157 == t167 && (t158 == t168 && (t159 == t169 && (t161 == t171))))) = true := by simpa using c17))
              clear c17
              simp only [Option.some.injEq, Prod.mk.injEq] at H
              obtain ⟨rfl, rfl⟩ := H
              have hnb18 := NB164_174.out
              have hnc18 := NB174_164.out
              have hcz19_0 : wc.cell? ⟨gb164, 0, none⟩ = some (.int .i64 t156) := (blk_cell BK164.out 0).trans rfl
              have hcz19_1 : wc.cell? ⟨gb164, 1, none⟩ = some (.int .i64 t157) := (blk_cell BK164.out 1).trans rfl
              have hcz19_2 : wc.cell? ⟨gb164, 2, none⟩ = some (.bool t158) := (blk_cell BK164.out 2).trans rfl
              have hcz19_3 : wc.cell? ⟨gb164, 3, none⟩ = some (.bool t159) := (blk_cell BK164.out 3).trans rfl
              have hcz19_4 : wc.cell? ⟨gb164, 4, none⟩ = some (.bool t160) := (blk_cell BK164.out 4).trans rfl
              have hcz19_5 : wc.cell? ⟨gb164, 5, none⟩ = some (.bool t161) := (blk_cell BK164.out 5).trans rfl
              have hcz19_6 : wc.cell? ⟨gb164, 6, none⟩ = some (.int .i64 t162) := (blk_cell BK164.out 6).trans rfl
              have hfz19_0 := blk_frozen BK164.out 0
              have hfz19_1 := blk_frozen BK164.out 1
              have hfz19_2 := blk_frozen BK164.out 2
              have hfz19_3 := blk_frozen BK164.out 3
              have hfz19_4 := blk_frozen BK164.out 4
              have hfz19_5 := blk_frozen BK164.out 5
              have hfz19_6 := blk_frozen BK164.out 6
              have hcz20_0 : wc.cell? ⟨gb174, 0, none⟩ = some (.int .i64 t166) := (blk_cell BK174.out 0).trans rfl
              have hcz20_1 : wc.cell? ⟨gb174, 1, none⟩ = some (.int .i64 t167) := (blk_cell BK174.out 1).trans rfl
              have hcz20_2 : wc.cell? ⟨gb174, 2, none⟩ = some (.bool t168) := (blk_cell BK174.out 2).trans rfl
              have hcz20_3 : wc.cell? ⟨gb174, 3, none⟩ = some (.bool t169) := (blk_cell BK174.out 3).trans rfl
              have hcz20_4 : wc.cell? ⟨gb174, 4, none⟩ = some (.bool t170) := (blk_cell BK174.out 4).trans rfl
              have hcz20_5 : wc.cell? ⟨gb174, 5, none⟩ = some (.bool t171) := (blk_cell BK174.out 5).trans rfl
              have hcz20_6 : wc.cell? ⟨gb174, 6, none⟩ = some (.int .i64 t172) := (blk_cell BK174.out 6).trans rfl
              have hfz20_0 := blk_frozen BK174.out 0
              have hfz20_1 := blk_frozen BK174.out 1
              have hfz20_2 := blk_frozen BK174.out 2
              have hfz20_3 := blk_frozen BK174.out 3
              have hfz20_4 := blk_frozen BK174.out 4
              have hfz20_5 := blk_frozen BK174.out 5
              have hfz20_6 := blk_frozen BK174.out 6
              go_wp2
              go_ret2
              exact ⟨by first | rfl | (simp [errW_none, errW_some] <;> rfl) | (simp [*, errW_none, errW_some] <;> rfl), by repeat (first | (with_reducible first | exact HB.out | apply below_alloc | apply pw_below_drewN | apply below_drew1 | refine below_set ?_ GE164.out | refine below_set ?_ GE174.out) | exact HB.out)⟩
            · rw [if_neg c17] at H
              have c17b0 : (t156 == t166 && (t157 == t167 && (t158 == t168 && (t159 == t169 && (t161 == t171))))) = false := by simpa using c17
              (try (have c17b1 : decide (t156 = t166 && (t157 == t167 && (t158 == t168 && (t159 == t169 && (t161 == t171))))) = false := by simpa using c17))
              (try (have c17b2 : (t156 == t166 && (t157 == t167 && (t158 == t168 && (t159 == t169 && (t161 == t171))))) = false := by simpa using c17))
              (try (have c17b3 : ¬ (t156 = t166 && (t157 == t167 && (t158 == t168 && (t159 == t169 && (t161 == t171))))) := by simpa using c17))
              clear c17
              simp only [Option.some.injEq, Prod.mk.injEq] at H
              obtain ⟨rfl, rfl⟩ := H
              have hnb21 := NB164_174.out
              have hnc21 := NB174_164.out
              have hcz22_0 : wc.cell? ⟨gb164, 0, none⟩ = some (.int .i64 t156) := (blk_cell BK164.out 0).trans rfl
              have hcz22_1 : wc.cell? ⟨gb164, 1, none⟩ = some (.int .i64 t157) := (blk_cell BK164.out 1).trans rfl
              have hcz22_2 : wc.cell? ⟨gb164, 2, none⟩ = some (.bool t158) := (blk_cell BK164.out 2).trans rfl
              have hcz22_3 : wc.cell? ⟨gb164, 3, none⟩ = some (.bool t159) := (blk_cell BK164.out 3).trans rfl
              have hcz22_4 : wc.cell? ⟨gb164, 4, none⟩ = some (.bool t160) := (blk_cell BK164.out 4).trans rfl
              have hcz22_5 : wc.cell? ⟨gb164, 5, none⟩ = some (.bool t161) := (blk_cell BK164.out 5).trans rfl
              have hcz22_6 : wc.cell? ⟨gb164, 6, none⟩ = some (.int .i64 t162) := (blk_cell BK164.out 6).trans rfl
              have hfz22_0 := blk_frozen BK164.out 0
              have hfz22_1 := blk_frozen BK164.out 1
              have hfz22_2 := blk_frozen BK164.out 2
              have hfz22_3 := blk_frozen BK164.out 3
              have hfz22_4 := blk_frozen BK164.out 4
              have hfz22_5 := blk_frozen BK164.out 5
              have hfz22_6 := blk_frozen BK164.out 6
              have hcz23_0 : wc.cell? ⟨gb174, 0, none⟩ = some (.int .i64 t166) := (blk_cell BK174.out 0).trans rfl
              have hcz23_1 : wc.cell? ⟨gb174, 1, none⟩ = some (.int .i64 t167) := (blk_cell BK174.out 1).trans rfl
              have hcz23_2 : wc.cell? ⟨gb174, 2, none⟩ = some (.bool t168) := (blk_cell BK174.out 2).trans rfl
              have hcz23_3 : wc.cell? ⟨gb174, 3, none⟩ = some (.bool t169) := (blk_cell BK174.out 3).trans rfl
              have hcz23_4 : wc.cell? ⟨gb174, 4, none⟩ = some (.bool t170) := (blk_cell BK174.out 4).trans rfl
              have hcz23_5 : wc.cell? ⟨gb174, 5, none⟩ = some (.bool t171) := (blk_cell BK174.out 5).trans rfl
              have hcz23_6 : wc.cell? ⟨gb174, 6, none⟩ = some (.int .i64 t172) := (blk_cell BK174.out 6).trans rfl
              have hfz23_0 := blk_frozen BK174.out 0
              have hfz23_1 := blk_frozen BK174.out 1
              have hfz23_2 := blk_frozen BK174.out 2
              have hfz23_3 := blk_frozen BK174.out 3
              have hfz23_4 := blk_frozen BK174.out 4
              have hfz23_5 := blk_frozen BK174.out 5
              have hfz23_6 := blk_frozen BK174.out 6
              go_wp2
              go_ret2
              exact ⟨by first | rfl | (simp [errW_none, errW_some] <;> rfl) | (simp [*, errW_none, errW_some] <;> rfl), by repeat (first | (with_reducible first | exact HB.out | apply below_alloc | apply pw_below_drewN | apply below_drew1 | refine below_set ?_ GE164.out | refine below_set ?_ GE174.out) | exact HB.out)⟩
    · have H1 : (some (false, some q175)) = some (r1, r2) := by rw [if_neg (show ¬ (some q175).isNone = true by simp)] at H; exact H
      clear H
      have H := H1
      clear H1
      try simp only [errW_none, errW_some]
      simp only [Option.some.injEq, Prod.mk.injEq] at H
      obtain ⟨rfl, rfl⟩ := H
      go_enter Try.func21, Try.ntmps21
      go_wp2_with (first | ((with_reducible refine gate_callee (f := 28) rfl ?_); refine goesL_ (some 14) rfl rfl Try.func28 (by kernel_rfl) rfl #[.int .i64 a0, .int .u64 a1] rfl (by (try simp only [List.map_toArray, List.map_cons, List.map_nil]); first | done | rfl | (simp only [List.length_drop, List.length_take]; rfl)) ?_; (with_reducible refine (pte_Decode.calls k a0 a1 t156 t157 t158 t159 t160 t161 t162 none _ A4.out).mono ?_); rintro e w24 ⟨rfl, hb⟩; refine ⟨_, rfl, ?_⟩; have n0_ := Aside0.mk (below_step (by repeat (first | (with_reducible first | exact HB.out | apply below_alloc | apply pw_below_drewN | apply below_drew1) | exact HB.out)) hb); clear HB; have HB := n0_; clear n0_; (try clear hb); (try clear hb2); (try clear hk); (try clear hi); (try simp only [errW_none, errW_some])) | ((with_reducible refine gate_dst (N := 8) rfl ?_); refine box_event ?hg (N := 8) ?hd (cs := #[.int .i64 0, .int .i64 0, .bool false, .bool false, .bool false, .bool false, .int .i64 0]) (t := 37) ?hr ?_; (case hd => rfl); (case hg => rfl); (case hr => first | (go_simp; done) | (go_simp; rfl)); intro gb164 hg w25 hbox hb; have n0_ := Aside0.mk (below_step (by repeat (first | (with_reducible first | exact HB.out | apply below_alloc | apply pw_below_drewN | apply below_drew1) | exact HB.out)) hb); have n1_ := Aside0.mk (hbox); have n2_ := Aside0.mk ((by rw [hg]; exact (below_size (by repeat (first | (with_reducible first | exact HB.out | apply below_alloc | apply pw_below_drewN | apply below_drew1) | exact HB.out))) : w.heap.size ≤ gb164)); have n3_ := Aside0.mk ((by rw [hg]; exact (below_size (by repeat (first | (with_reducible first | exact HB.out | apply below_alloc | apply pw_below_drewN | apply below_drew1) | exact HB.out))) : w.heap.size ≤ gb164)); clear HB; have HB := n0_; have BK164 := n1_; have GW164 := n2_; have GE164 := n3_; clear n0_ n1_ n2_ n3_; clear hb hbox hg; have hcz26_0 : w25.cell? ⟨gb164, 0, none⟩ = some (.int .i64 0) := (blk_cell BK164.out 0).trans rfl; have hcz26_1 : w25.cell? ⟨gb164, 1, none⟩ = some (.int .i64 0) := (blk_cell BK164.out 1).trans rfl; have hcz26_2 : w25.cell? ⟨gb164, 2, none⟩ = some (.bool false) := (blk_cell BK164.out 2).trans rfl; have hcz26_3 : w25.cell? ⟨gb164, 3, none⟩ = some (.bool false) := (blk_cell BK164.out 3).trans rfl; have hcz26_4 : w25.cell? ⟨gb164, 4, none⟩ = some (.bool false) := (blk_cell BK164.out 4).trans rfl; have hcz26_5 : w25.cell? ⟨gb164, 5, none⟩ = some (.bool false) := (blk_cell BK164.out 5).trans rfl; have hcz26_6 : w25.cell? ⟨gb164, 6, none⟩ = some (.int .i64 0) := (blk_cell BK164.out 6).trans rfl; have hfz26_0 := blk_frozen BK164.out 0; have hfz26_1 := blk_frozen BK164.out 1; have hfz26_2 := blk_frozen BK164.out 2; have hfz26_3 := blk_frozen BK164.out 3; have hfz26_4 := blk_frozen BK164.out 4; have hfz26_5 := blk_frozen BK164.out 5; have hfz26_6 := blk_frozen BK164.out 6) | ((with_reducible refine gate_callee (f := 28) rfl ?_); refine goesL_ (some 23) rfl rfl Try.func28 (by kernel_rfl) rfl #[.int .i64 a0, .int .u64 a2] rfl (by (try simp only [List.map_toArray, List.map_cons, List.map_nil]); first | done | rfl | (simp only [List.length_drop, List.length_take]; rfl)) ?_; (with_reducible refine (pte_Decode.calls k a0 a2 t166 t167 t168 t169 t170 t171 t172 (some q175) _ A5.out).mono ?_); rintro e w27 ⟨rfl, hb⟩; refine ⟨_, rfl, ?_⟩; have n0_ := Aside0.mk (blk_below (g := gb164) (o := .cells #[.int .i64 t156, .int .i64 t157, .bool t158, .bool t159, .bool t160, .bool t161, .int .i64 t162] 37 (0, 0)) (by (with_reducible repeat (first | refine blk_drewN ?_ _ | refine blk_drew ?_ | refine blk_alloc ?_ _)); refine blk_put (cs := #[.int .i64 t156, .int .i64 t157, .bool t158, .bool t159, .bool t160, .bool t161, .int .i64 0]) ?_ 6 _ rfl; (with_reducible repeat (first | refine blk_drewN ?_ _ | refine blk_drew ?_ | refine blk_alloc ?_ _)); refine blk_put (cs := #[.int .i64 t156, .int .i64 t157, .bool t158, .bool t159, .bool t160, .bool false, .int .i64 0]) ?_ 5 _ rfl; (with_reducible repeat (first | refine blk_drewN ?_ _ | refine blk_drew ?_ | refine blk_alloc ?_ _)); refine blk_put (cs := #[.int .i64 t156, .int .i64 t157, .bool t158, .bool t159, .bool false, .bool false, .int .i64 0]) ?_ 4 _ rfl; (with_reducible repeat (first | refine blk_drewN ?_ _ | refine blk_drew ?_ | refine blk_alloc ?_ _)); refine blk_put (cs := #[.int .i64 t156, .int .i64 t157, .bool t158, .bool false, .bool false, .bool false, .int .i64 0]) ?_ 3 _ rfl; (with_reducible repeat (first | refine blk_drewN ?_ _ | refine blk_drew ?_ | refine blk_alloc ?_ _)); refine blk_put (cs := #[.int .i64 t156, .int .i64 t157, .bool false, .bool false, .bool false, .bool false, .int .i64 0]) ?_ 2 _ rfl; (with_reducible repeat (first | refine blk_drewN ?_ _ | refine blk_drew ?_ | refine blk_alloc ?_ _)); refine blk_put (cs := #[.int .i64 t156, .int .i64 0, .bool false, .bool false, .bool false, .bool false, .int .i64 0]) ?_ 1 _ rfl; (with_reducible repeat (first | refine blk_drewN ?_ _ | refine blk_drew ?_ | refine blk_alloc ?_ _)); refine blk_put (cs := #[.int .i64 0, .int .i64 0, .bool false, .bool false, .bool false, .bool false, .int .i64 0]) ?_ 0 _ rfl; (with_reducible repeat (first | refine blk_drewN ?_ _ | refine blk_drew ?_ | refine blk_alloc ?_ _)); exact BK164.out) hb); have n1_ := Aside0.mk (below_step (by repeat (first | (with_reducible first | exact HB.out | apply below_alloc | apply pw_below_drewN | apply below_drew1 | refine below_set ?_ GE164.out) | exact HB.out)) hb); clear BK164; clear HB; have BK164 := n0_; have HB := n1_; clear n0_ n1_; (try clear hb); (try clear hb2); (try clear hk); (try clear hi); (try simp only [errW_none, errW_some])) | ((with_reducible refine gate_dst (N := 10) rfl ?_); refine box_event ?hg (N := 10) ?hd (cs := #[.int .i64 0, .int .i64 0, .bool false, .bool false, .bool false, .bool false, .int .i64 0]) (t := 37) ?hr ?_; (case hd => rfl); (case hg => rfl); (case hr => first | (go_simp; done) | (go_simp; rfl)); intro gb174 hg w28 hbox hb; have n0_ := Aside0.mk (blk_below (g := gb164) (o := .cells #[.int .i64 t156, .int .i64 t157, .bool t158, .bool t159, .bool t160, .bool t161, .int .i64 t162] 37 (0, 0)) (by (with_reducible repeat (first | refine blk_drewN ?_ _ | refine blk_drew ?_ | refine blk_alloc ?_ _)); exact BK164.out) hb); have n1_ := Aside0.mk (below_step (by repeat (first | (with_reducible first | exact HB.out | apply below_alloc | apply pw_below_drewN | apply below_drew1 | refine below_set ?_ GE164.out) | exact HB.out)) hb); have n2_ := Aside0.mk (hbox); have n3_ := Aside0.mk ((by rw [hg]; exact (below_size (by repeat (first | (with_reducible first | exact HB.out | apply below_alloc | apply pw_below_drewN | apply below_drew1 | refine below_set ?_ GE164.out) | exact HB.out))) : w.heap.size ≤ gb174)); have n4_ := Aside0.mk ((by rw [hg]; exact (below_size (by repeat (first | (with_reducible first | exact HB.out | apply below_alloc | apply pw_below_drewN | apply below_drew1 | refine below_set ?_ GE164.out) | exact HB.out))) : w.heap.size ≤ gb174)); have n5_ := Aside0.mk ((by rw [hg]; exact Nat.ne_of_lt (blk_lt (g := gb164) (o := .cells #[.int .i64 t156, .int .i64 t157, .bool t158, .bool t159, .bool t160, .bool t161, .int .i64 t162] 37 (0, 0)) (by (with_reducible repeat (first | refine blk_drewN ?_ _ | refine blk_drew ?_ | refine blk_alloc ?_ _)); exact BK164.out)) : gb164 ≠ gb174)); have n6_ := Aside0.mk ((by rw [hg]; exact Nat.ne_of_gt (blk_lt (g := gb164) (o := .cells #[.int .i64 t156, .int .i64 t157, .bool t158, .bool t159, .bool t160, .bool t161, .int .i64 t162] 37 (0, 0)) (by (with_reducible repeat (first | refine blk_drewN ?_ _ | refine blk_drew ?_ | refine blk_alloc ?_ _)); exact BK164.out)) : gb174 ≠ gb164)); clear BK164; clear HB; have BK164 := n0_; have HB := n1_; have BK174 := n2_; have GW174 := n3_; have GE174 := n4_; have NB164_174 := n5_; have NB174_164 := n6_; clear n0_ n1_ n2_ n3_ n4_ n5_ n6_; clear hb hbox hg; have hnb29 := NB174_164.out; have hnc29 := NB164_174.out; have hcz30_0 : w28.cell? ⟨gb174, 0, none⟩ = some (.int .i64 0) := (blk_cell BK174.out 0).trans rfl; have hcz30_1 : w28.cell? ⟨gb174, 1, none⟩ = some (.int .i64 0) := (blk_cell BK174.out 1).trans rfl; have hcz30_2 : w28.cell? ⟨gb174, 2, none⟩ = some (.bool false) := (blk_cell BK174.out 2).trans rfl; have hcz30_3 : w28.cell? ⟨gb174, 3, none⟩ = some (.bool false) := (blk_cell BK174.out 3).trans rfl; have hcz30_4 : w28.cell? ⟨gb174, 4, none⟩ = some (.bool false) := (blk_cell BK174.out 4).trans rfl; have hcz30_5 : w28.cell? ⟨gb174, 5, none⟩ = some (.bool false) := (blk_cell BK174.out 5).trans rfl; have hcz30_6 : w28.cell? ⟨gb174, 6, none⟩ = some (.int .i64 0) := (blk_cell BK174.out 6).trans rfl; have hfz30_0 := blk_frozen BK174.out 0; have hfz30_1 := blk_frozen BK174.out 1; have hfz30_2 := blk_frozen BK174.out 2; have hfz30_3 := blk_frozen BK174.out 3; have hfz30_4 := blk_frozen BK174.out 4; have hfz30_5 := blk_frozen BK174.out 5; have hfz30_6 := blk_frozen BK174.out 6))
      go_ret2
      exact ⟨by first | rfl | (simp [errW_none, errW_some] <;> rfl) | (simp [*, errW_none, errW_some] <;> rfl), by repeat (first | (with_reducible first | exact HB.out | apply below_alloc | apply pw_below_drewN | apply below_drew1 | refine below_set ?_ GE164.out | refine below_set ?_ GE174.out) | exact HB.out)⟩
  · have H1 : (some (false, some q165)) = some (r1, r2) := by rw [if_neg (show ¬ (some q165).isNone = true by simp)] at H; exact H
    clear H
    have H := H1
    clear H1
    try simp only [errW_none, errW_some]
    simp only [Option.some.injEq, Prod.mk.injEq] at H
    obtain ⟨rfl, rfl⟩ := H
    go_enter Try.func21, Try.ntmps21
    go_wp2_with (first | ((with_reducible refine gate_callee (f := 28) rfl ?_); refine goesL_ (some 14) rfl rfl Try.func28 (by kernel_rfl) rfl #[.int .i64 a0, .int .u64 a1] rfl (by (try simp only [List.map_toArray, List.map_cons, List.map_nil]); first | done | rfl | (simp only [List.length_drop, List.length_take]; rfl)) ?_; (with_reducible refine (pte_Decode.calls k a0 a1 t156 t157 t158 t159 t160 t161 t162 (some q165) _ A4.out).mono ?_); rintro e w31 ⟨rfl, hb⟩; refine ⟨_, rfl, ?_⟩; have n0_ := Aside0.mk (below_step (by repeat (first | (with_reducible first | exact HB.out | apply below_alloc | apply pw_below_drewN | apply below_drew1) | exact HB.out)) hb); clear HB; have HB := n0_; clear n0_; (try clear hb); (try clear hb2); (try clear hk); (try clear hi); (try simp only [errW_none, errW_some])) | ((with_reducible refine gate_dst (N := 8) rfl ?_); refine box_event ?hg (N := 8) ?hd (cs := #[.int .i64 0, .int .i64 0, .bool false, .bool false, .bool false, .bool false, .int .i64 0]) (t := 37) ?hr ?_; (case hd => rfl); (case hg => rfl); (case hr => first | (go_simp; done) | (go_simp; rfl)); intro gb164 hg w32 hbox hb; have n0_ := Aside0.mk (below_step (by repeat (first | (with_reducible first | exact HB.out | apply below_alloc | apply pw_below_drewN | apply below_drew1) | exact HB.out)) hb); have n1_ := Aside0.mk (hbox); have n2_ := Aside0.mk ((by rw [hg]; exact (below_size (by repeat (first | (with_reducible first | exact HB.out | apply below_alloc | apply pw_below_drewN | apply below_drew1) | exact HB.out))) : w.heap.size ≤ gb164)); have n3_ := Aside0.mk ((by rw [hg]; exact (below_size (by repeat (first | (with_reducible first | exact HB.out | apply below_alloc | apply pw_below_drewN | apply below_drew1) | exact HB.out))) : w.heap.size ≤ gb164)); clear HB; have HB := n0_; have BK164 := n1_; have GW164 := n2_; have GE164 := n3_; clear n0_ n1_ n2_ n3_; clear hb hbox hg; have hcz33_0 : w32.cell? ⟨gb164, 0, none⟩ = some (.int .i64 0) := (blk_cell BK164.out 0).trans rfl; have hcz33_1 : w32.cell? ⟨gb164, 1, none⟩ = some (.int .i64 0) := (blk_cell BK164.out 1).trans rfl; have hcz33_2 : w32.cell? ⟨gb164, 2, none⟩ = some (.bool false) := (blk_cell BK164.out 2).trans rfl; have hcz33_3 : w32.cell? ⟨gb164, 3, none⟩ = some (.bool false) := (blk_cell BK164.out 3).trans rfl; have hcz33_4 : w32.cell? ⟨gb164, 4, none⟩ = some (.bool false) := (blk_cell BK164.out 4).trans rfl; have hcz33_5 : w32.cell? ⟨gb164, 5, none⟩ = some (.bool false) := (blk_cell BK164.out 5).trans rfl; have hcz33_6 : w32.cell? ⟨gb164, 6, none⟩ = some (.int .i64 0) := (blk_cell BK164.out 6).trans rfl; have hfz33_0 := blk_frozen BK164.out 0; have hfz33_1 := blk_frozen BK164.out 1; have hfz33_2 := blk_frozen BK164.out 2; have hfz33_3 := blk_frozen BK164.out 3; have hfz33_4 := blk_frozen BK164.out 4; have hfz33_5 := blk_frozen BK164.out 5; have hfz33_6 := blk_frozen BK164.out 6))
    go_ret2
    exact ⟨by first | rfl | (simp [errW_none, errW_some] <;> rfl) | (simp [*, errW_none, errW_some] <;> rfl), by repeat (first | (with_reducible first | exact HB.out | apply below_alloc | apply pw_below_drewN | apply below_drew1 | refine below_set ?_ GE164.out) | exact HB.out)⟩

/-! ### bbm_alike: function 23 -/
def bbm_alike.f (k : Nat) (a0 : Int) (a1 : Int) (a2 : Int) : Option (Bool) := (pte_Change.f k a0 a1 a2).bind fun bt176 => ((pte_Decode.f k a0 a1).bind fun bt178 => (if bt176.2.isNone = true then (if bt178.2.2.2.2.2.2.2.isNone = true then (if bt176.1 = true then (some (bt178.1 != 5)) else (some false)) else (some false)) else (some false)))
set_option maxHeartbeats 8000000 in
set_option maxRecDepth 100000 in
theorem bbm_alike.calls (k : Nat) (a0 : Int) (a1 : Int) (a2 : Int) (r : Bool) (w : World) (h : bbm_alike.f k a0 a1 a2 = some r) :
    Calls Try.prog 23 #[.int .i64 a0, .int .u64 a1, .int .u64 a2] w fun e w' => e = .returned (.bool r) ∧ Below w.heap.size w w' := by
  have hu37 := Try.underlying37
  have hu29 := Try.underlying29
  have hu47 := Try.underlying47
  have HB := Aside0.mk (Below.refl w.heap.size w)
  have H : ((pte_Change.f k a0 a1 a2).bind fun bt176 => ((pte_Decode.f k a0 a1).bind fun bt178 => (if bt176.2.isNone = true then (if bt178.2.2.2.2.2.2.2.isNone = true then (if bt176.1 = true then (some (bt178.1 != 5)) else (some false)) else (some false)) else (some false)))) = some r := h
  clear h
  replace H := Option.bind_eq_some_iff.mp H
  obtain ⟨⟨t176, t177⟩, A40, H⟩ := H
  replace H : ((pte_Decode.f k a0 a1).bind fun bt178 => (if t177.isNone = true then (if bt178.2.2.2.2.2.2.2.isNone = true then (if t176 = true then (some (bt178.1 != 5)) else (some false)) else (some false)) else (some false))) = some r := H
  have A4 := Aside0.mk A40
  clear A40
  replace H := Option.bind_eq_some_iff.mp H
  obtain ⟨⟨t178, t179, t180, t181, t182, t183, t184, t185⟩, A50, H⟩ := H
  replace H : (if t177.isNone = true then (if t185.isNone = true then (if t176 = true then (some (t178 != 5)) else (some false)) else (some false)) else (some false)) = some r := H
  have A5 := Aside0.mk A50
  clear A50
  rcases t177 with _ | q187
  · have H1 : (if t185.isNone = true then (if t176 = true then (some (t178 != 5)) else (some false)) else (some false)) = some r := by rw [if_pos (show (none : Option Int).isNone = true by rfl)] at H; exact H
    clear H
    have H := H1
    clear H1
    try simp only [errW_none, errW_some]
    rcases t185 with _ | q188
    · have H1 : (if t176 = true then (some (t178 != 5)) else (some false)) = some r := by rw [if_pos (show (none : Option Int).isNone = true by rfl)] at H; exact H
      clear H
      have H := H1
      clear H1
      try simp only [errW_none, errW_some]
      by_cases c6 : t176 = true
      · subst c6
        have H1 : (some (t178 != 5)) = some r := by rw [if_pos rfl] at H; exact H
        clear H
        have H := H1
        clear H1
        obtain rfl := Option.some.inj H
        go_enter Try.func23, Try.ntmps23
        go_wp2_with (first | ((with_reducible refine gate_callee (f := 21) rfl ?_); refine goesL_ (some 15) rfl rfl Try.func21 (by kernel_rfl) rfl #[.int .i64 a0, .int .u64 a1, .int .u64 a2] rfl (by (try simp only [List.map_toArray, List.map_cons, List.map_nil]); first | done | rfl | (simp only [List.length_drop, List.length_take]; rfl)) ?_; (with_reducible refine (pte_Change.calls k a0 a1 a2 true none _ A4.out).mono ?_); rintro e w7 ⟨rfl, hb⟩; refine ⟨_, rfl, ?_⟩; have n0_ := Aside0.mk (below_step (by repeat (first | (with_reducible first | exact HB.out | apply below_alloc | apply pw_below_drewN | apply below_drew1) | exact HB.out)) hb); clear HB; have HB := n0_; clear n0_; (try clear hb); (try clear hb2); (try clear hk); (try clear hi); (try simp only [errW_none, errW_some])) | ((with_reducible refine gate_callee (f := 28) rfl ?_); refine goesL_ (some 21) rfl rfl Try.func28 (by kernel_rfl) rfl #[.int .i64 a0, .int .u64 a1] rfl (by (try simp only [List.map_toArray, List.map_cons, List.map_nil]); first | done | rfl | (simp only [List.length_drop, List.length_take]; rfl)) ?_; (with_reducible refine (pte_Decode.calls k a0 a1 t178 t179 t180 t181 t182 t183 t184 none _ A5.out).mono ?_); rintro e w8 ⟨rfl, hb⟩; refine ⟨_, rfl, ?_⟩; have n0_ := Aside0.mk (below_step (by repeat (first | (with_reducible first | exact HB.out | apply below_alloc | apply pw_below_drewN | apply below_drew1) | exact HB.out)) hb); clear HB; have HB := n0_; clear n0_; (try clear hb); (try clear hb2); (try clear hk); (try clear hi); (try simp only [errW_none, errW_some])) | ((with_reducible refine gate_dst (N := 9) rfl ?_); refine box_event ?hg (N := 9) ?hd (cs := #[.int .i64 0, .int .i64 0, .bool false, .bool false, .bool false, .bool false, .int .i64 0]) (t := 37) ?hr ?_; (case hd => rfl); (case hg => rfl); (case hr => first | (go_simp; done) | (go_simp; rfl)); intro gb186 hg w9 hbox hb; have n0_ := Aside0.mk (below_step (by repeat (first | (with_reducible first | exact HB.out | apply below_alloc | apply pw_below_drewN | apply below_drew1) | exact HB.out)) hb); have n1_ := Aside0.mk (hbox); have n2_ := Aside0.mk ((by rw [hg]; exact (below_size (by repeat (first | (with_reducible first | exact HB.out | apply below_alloc | apply pw_below_drewN | apply below_drew1) | exact HB.out))) : w.heap.size ≤ gb186)); have n3_ := Aside0.mk ((by rw [hg]; exact (below_size (by repeat (first | (with_reducible first | exact HB.out | apply below_alloc | apply pw_below_drewN | apply below_drew1) | exact HB.out))) : w.heap.size ≤ gb186)); clear HB; have HB := n0_; have BK186 := n1_; have GW186 := n2_; have GE186 := n3_; clear n0_ n1_ n2_ n3_; clear hb hbox hg; have hcz10_0 : w9.cell? ⟨gb186, 0, none⟩ = some (.int .i64 0) := (blk_cell BK186.out 0).trans rfl; have hcz10_1 : w9.cell? ⟨gb186, 1, none⟩ = some (.int .i64 0) := (blk_cell BK186.out 1).trans rfl; have hcz10_2 : w9.cell? ⟨gb186, 2, none⟩ = some (.bool false) := (blk_cell BK186.out 2).trans rfl; have hcz10_3 : w9.cell? ⟨gb186, 3, none⟩ = some (.bool false) := (blk_cell BK186.out 3).trans rfl; have hcz10_4 : w9.cell? ⟨gb186, 4, none⟩ = some (.bool false) := (blk_cell BK186.out 4).trans rfl; have hcz10_5 : w9.cell? ⟨gb186, 5, none⟩ = some (.bool false) := (blk_cell BK186.out 5).trans rfl; have hcz10_6 : w9.cell? ⟨gb186, 6, none⟩ = some (.int .i64 0) := (blk_cell BK186.out 6).trans rfl; have hfz10_0 := blk_frozen BK186.out 0; have hfz10_1 := blk_frozen BK186.out 1; have hfz10_2 := blk_frozen BK186.out 2; have hfz10_3 := blk_frozen BK186.out 3; have hfz10_4 := blk_frozen BK186.out 4; have hfz10_5 := blk_frozen BK186.out 5; have hfz10_6 := blk_frozen BK186.out 6))
        go_ret
        exact ⟨by first | rfl | (simp [errW_none, errW_some] <;> rfl) | (simp [*, errW_none, errW_some] <;> rfl), by repeat (first | (with_reducible first | exact HB.out | apply below_alloc | apply pw_below_drewN | apply below_drew1 | refine below_set ?_ GE186.out) | exact HB.out)⟩
      · replace c6 := Bool.eq_false_iff.mpr c6
        subst c6
        have H1 : (some false) = some r := by rw [if_neg (show ¬ (false = true) by decide)] at H; exact H
        clear H
        have H := H1
        clear H1
        obtain rfl := Option.some.inj H
        go_enter Try.func23, Try.ntmps23
        go_wp2_with (first | ((with_reducible refine gate_callee (f := 21) rfl ?_); refine goesL_ (some 15) rfl rfl Try.func21 (by kernel_rfl) rfl #[.int .i64 a0, .int .u64 a1, .int .u64 a2] rfl (by (try simp only [List.map_toArray, List.map_cons, List.map_nil]); first | done | rfl | (simp only [List.length_drop, List.length_take]; rfl)) ?_; (with_reducible refine (pte_Change.calls k a0 a1 a2 false none _ A4.out).mono ?_); rintro e w11 ⟨rfl, hb⟩; refine ⟨_, rfl, ?_⟩; have n0_ := Aside0.mk (below_step (by repeat (first | (with_reducible first | exact HB.out | apply below_alloc | apply pw_below_drewN | apply below_drew1) | exact HB.out)) hb); clear HB; have HB := n0_; clear n0_; (try clear hb); (try clear hb2); (try clear hk); (try clear hi); (try simp only [errW_none, errW_some])) | ((with_reducible refine gate_callee (f := 28) rfl ?_); refine goesL_ (some 21) rfl rfl Try.func28 (by kernel_rfl) rfl #[.int .i64 a0, .int .u64 a1] rfl (by (try simp only [List.map_toArray, List.map_cons, List.map_nil]); first | done | rfl | (simp only [List.length_drop, List.length_take]; rfl)) ?_; (with_reducible refine (pte_Decode.calls k a0 a1 t178 t179 t180 t181 t182 t183 t184 none _ A5.out).mono ?_); rintro e w12 ⟨rfl, hb⟩; refine ⟨_, rfl, ?_⟩; have n0_ := Aside0.mk (below_step (by repeat (first | (with_reducible first | exact HB.out | apply below_alloc | apply pw_below_drewN | apply below_drew1) | exact HB.out)) hb); clear HB; have HB := n0_; clear n0_; (try clear hb); (try clear hb2); (try clear hk); (try clear hi); (try simp only [errW_none, errW_some])) | ((with_reducible refine gate_dst (N := 9) rfl ?_); refine box_event ?hg (N := 9) ?hd (cs := #[.int .i64 0, .int .i64 0, .bool false, .bool false, .bool false, .bool false, .int .i64 0]) (t := 37) ?hr ?_; (case hd => rfl); (case hg => rfl); (case hr => first | (go_simp; done) | (go_simp; rfl)); intro gb186 hg w13 hbox hb; have n0_ := Aside0.mk (below_step (by repeat (first | (with_reducible first | exact HB.out | apply below_alloc | apply pw_below_drewN | apply below_drew1) | exact HB.out)) hb); have n1_ := Aside0.mk (hbox); have n2_ := Aside0.mk ((by rw [hg]; exact (below_size (by repeat (first | (with_reducible first | exact HB.out | apply below_alloc | apply pw_below_drewN | apply below_drew1) | exact HB.out))) : w.heap.size ≤ gb186)); have n3_ := Aside0.mk ((by rw [hg]; exact (below_size (by repeat (first | (with_reducible first | exact HB.out | apply below_alloc | apply pw_below_drewN | apply below_drew1) | exact HB.out))) : w.heap.size ≤ gb186)); clear HB; have HB := n0_; have BK186 := n1_; have GW186 := n2_; have GE186 := n3_; clear n0_ n1_ n2_ n3_; clear hb hbox hg; have hcz14_0 : w13.cell? ⟨gb186, 0, none⟩ = some (.int .i64 0) := (blk_cell BK186.out 0).trans rfl; have hcz14_1 : w13.cell? ⟨gb186, 1, none⟩ = some (.int .i64 0) := (blk_cell BK186.out 1).trans rfl; have hcz14_2 : w13.cell? ⟨gb186, 2, none⟩ = some (.bool false) := (blk_cell BK186.out 2).trans rfl; have hcz14_3 : w13.cell? ⟨gb186, 3, none⟩ = some (.bool false) := (blk_cell BK186.out 3).trans rfl; have hcz14_4 : w13.cell? ⟨gb186, 4, none⟩ = some (.bool false) := (blk_cell BK186.out 4).trans rfl; have hcz14_5 : w13.cell? ⟨gb186, 5, none⟩ = some (.bool false) := (blk_cell BK186.out 5).trans rfl; have hcz14_6 : w13.cell? ⟨gb186, 6, none⟩ = some (.int .i64 0) := (blk_cell BK186.out 6).trans rfl; have hfz14_0 := blk_frozen BK186.out 0; have hfz14_1 := blk_frozen BK186.out 1; have hfz14_2 := blk_frozen BK186.out 2; have hfz14_3 := blk_frozen BK186.out 3; have hfz14_4 := blk_frozen BK186.out 4; have hfz14_5 := blk_frozen BK186.out 5; have hfz14_6 := blk_frozen BK186.out 6))
        go_ret
        exact ⟨by first | rfl | (simp [errW_none, errW_some] <;> rfl) | (simp [*, errW_none, errW_some] <;> rfl), by repeat (first | (with_reducible first | exact HB.out | apply below_alloc | apply pw_below_drewN | apply below_drew1 | refine below_set ?_ GE186.out) | exact HB.out)⟩
    · have H1 : (some false) = some r := by rw [if_neg (show ¬ (some q188).isNone = true by simp)] at H; exact H
      clear H
      have H := H1
      clear H1
      try simp only [errW_none, errW_some]
      obtain rfl := Option.some.inj H
      go_enter Try.func23, Try.ntmps23
      go_wp2_with (first | ((with_reducible refine gate_callee (f := 21) rfl ?_); refine goesL_ (some 15) rfl rfl Try.func21 (by kernel_rfl) rfl #[.int .i64 a0, .int .u64 a1, .int .u64 a2] rfl (by (try simp only [List.map_toArray, List.map_cons, List.map_nil]); first | done | rfl | (simp only [List.length_drop, List.length_take]; rfl)) ?_; (with_reducible refine (pte_Change.calls k a0 a1 a2 t176 none _ A4.out).mono ?_); rintro e w15 ⟨rfl, hb⟩; refine ⟨_, rfl, ?_⟩; have n0_ := Aside0.mk (below_step (by repeat (first | (with_reducible first | exact HB.out | apply below_alloc | apply pw_below_drewN | apply below_drew1) | exact HB.out)) hb); clear HB; have HB := n0_; clear n0_; (try clear hb); (try clear hb2); (try clear hk); (try clear hi); (try simp only [errW_none, errW_some])) | ((with_reducible refine gate_callee (f := 28) rfl ?_); refine goesL_ (some 21) rfl rfl Try.func28 (by kernel_rfl) rfl #[.int .i64 a0, .int .u64 a1] rfl (by (try simp only [List.map_toArray, List.map_cons, List.map_nil]); first | done | rfl | (simp only [List.length_drop, List.length_take]; rfl)) ?_; (with_reducible refine (pte_Decode.calls k a0 a1 t178 t179 t180 t181 t182 t183 t184 (some q188) _ A5.out).mono ?_); rintro e w16 ⟨rfl, hb⟩; refine ⟨_, rfl, ?_⟩; have n0_ := Aside0.mk (below_step (by repeat (first | (with_reducible first | exact HB.out | apply below_alloc | apply pw_below_drewN | apply below_drew1) | exact HB.out)) hb); clear HB; have HB := n0_; clear n0_; (try clear hb); (try clear hb2); (try clear hk); (try clear hi); (try simp only [errW_none, errW_some])) | ((with_reducible refine gate_dst (N := 9) rfl ?_); refine box_event ?hg (N := 9) ?hd (cs := #[.int .i64 0, .int .i64 0, .bool false, .bool false, .bool false, .bool false, .int .i64 0]) (t := 37) ?hr ?_; (case hd => rfl); (case hg => rfl); (case hr => first | (go_simp; done) | (go_simp; rfl)); intro gb186 hg w17 hbox hb; have n0_ := Aside0.mk (below_step (by repeat (first | (with_reducible first | exact HB.out | apply below_alloc | apply pw_below_drewN | apply below_drew1) | exact HB.out)) hb); have n1_ := Aside0.mk (hbox); have n2_ := Aside0.mk ((by rw [hg]; exact (below_size (by repeat (first | (with_reducible first | exact HB.out | apply below_alloc | apply pw_below_drewN | apply below_drew1) | exact HB.out))) : w.heap.size ≤ gb186)); have n3_ := Aside0.mk ((by rw [hg]; exact (below_size (by repeat (first | (with_reducible first | exact HB.out | apply below_alloc | apply pw_below_drewN | apply below_drew1) | exact HB.out))) : w.heap.size ≤ gb186)); clear HB; have HB := n0_; have BK186 := n1_; have GW186 := n2_; have GE186 := n3_; clear n0_ n1_ n2_ n3_; clear hb hbox hg; have hcz18_0 : w17.cell? ⟨gb186, 0, none⟩ = some (.int .i64 0) := (blk_cell BK186.out 0).trans rfl; have hcz18_1 : w17.cell? ⟨gb186, 1, none⟩ = some (.int .i64 0) := (blk_cell BK186.out 1).trans rfl; have hcz18_2 : w17.cell? ⟨gb186, 2, none⟩ = some (.bool false) := (blk_cell BK186.out 2).trans rfl; have hcz18_3 : w17.cell? ⟨gb186, 3, none⟩ = some (.bool false) := (blk_cell BK186.out 3).trans rfl; have hcz18_4 : w17.cell? ⟨gb186, 4, none⟩ = some (.bool false) := (blk_cell BK186.out 4).trans rfl; have hcz18_5 : w17.cell? ⟨gb186, 5, none⟩ = some (.bool false) := (blk_cell BK186.out 5).trans rfl; have hcz18_6 : w17.cell? ⟨gb186, 6, none⟩ = some (.int .i64 0) := (blk_cell BK186.out 6).trans rfl; have hfz18_0 := blk_frozen BK186.out 0; have hfz18_1 := blk_frozen BK186.out 1; have hfz18_2 := blk_frozen BK186.out 2; have hfz18_3 := blk_frozen BK186.out 3; have hfz18_4 := blk_frozen BK186.out 4; have hfz18_5 := blk_frozen BK186.out 5; have hfz18_6 := blk_frozen BK186.out 6))
      go_ret
      exact ⟨by first | rfl | (simp [errW_none, errW_some] <;> rfl) | (simp [*, errW_none, errW_some] <;> rfl), by repeat (first | (with_reducible first | exact HB.out | apply below_alloc | apply pw_below_drewN | apply below_drew1 | refine below_set ?_ GE186.out) | exact HB.out)⟩
  · have H1 : (some false) = some r := by rw [if_neg (show ¬ (some q187).isNone = true by simp)] at H; exact H
    clear H
    have H := H1
    clear H1
    try simp only [errW_none, errW_some]
    obtain rfl := Option.some.inj H
    go_enter Try.func23, Try.ntmps23
    go_wp2_with (first | ((with_reducible refine gate_callee (f := 21) rfl ?_); refine goesL_ (some 15) rfl rfl Try.func21 (by kernel_rfl) rfl #[.int .i64 a0, .int .u64 a1, .int .u64 a2] rfl (by (try simp only [List.map_toArray, List.map_cons, List.map_nil]); first | done | rfl | (simp only [List.length_drop, List.length_take]; rfl)) ?_; (with_reducible refine (pte_Change.calls k a0 a1 a2 t176 (some q187) _ A4.out).mono ?_); rintro e w19 ⟨rfl, hb⟩; refine ⟨_, rfl, ?_⟩; have n0_ := Aside0.mk (below_step (by repeat (first | (with_reducible first | exact HB.out | apply below_alloc | apply pw_below_drewN | apply below_drew1) | exact HB.out)) hb); clear HB; have HB := n0_; clear n0_; (try clear hb); (try clear hb2); (try clear hk); (try clear hi); (try simp only [errW_none, errW_some])) | ((with_reducible refine gate_callee (f := 28) rfl ?_); refine goesL_ (some 21) rfl rfl Try.func28 (by kernel_rfl) rfl #[.int .i64 a0, .int .u64 a1] rfl (by (try simp only [List.map_toArray, List.map_cons, List.map_nil]); first | done | rfl | (simp only [List.length_drop, List.length_take]; rfl)) ?_; (with_reducible refine (pte_Decode.calls k a0 a1 t178 t179 t180 t181 t182 t183 t184 t185 _ A5.out).mono ?_); rintro e w20 ⟨rfl, hb⟩; refine ⟨_, rfl, ?_⟩; have n0_ := Aside0.mk (below_step (by repeat (first | (with_reducible first | exact HB.out | apply below_alloc | apply pw_below_drewN | apply below_drew1) | exact HB.out)) hb); clear HB; have HB := n0_; clear n0_; (try clear hb); (try clear hb2); (try clear hk); (try clear hi); (try simp only [errW_none, errW_some])) | ((with_reducible refine gate_dst (N := 9) rfl ?_); refine box_event ?hg (N := 9) ?hd (cs := #[.int .i64 0, .int .i64 0, .bool false, .bool false, .bool false, .bool false, .int .i64 0]) (t := 37) ?hr ?_; (case hd => rfl); (case hg => rfl); (case hr => first | (go_simp; done) | (go_simp; rfl)); intro gb186 hg w21 hbox hb; have n0_ := Aside0.mk (below_step (by repeat (first | (with_reducible first | exact HB.out | apply below_alloc | apply pw_below_drewN | apply below_drew1) | exact HB.out)) hb); have n1_ := Aside0.mk (hbox); have n2_ := Aside0.mk ((by rw [hg]; exact (below_size (by repeat (first | (with_reducible first | exact HB.out | apply below_alloc | apply pw_below_drewN | apply below_drew1) | exact HB.out))) : w.heap.size ≤ gb186)); have n3_ := Aside0.mk ((by rw [hg]; exact (below_size (by repeat (first | (with_reducible first | exact HB.out | apply below_alloc | apply pw_below_drewN | apply below_drew1) | exact HB.out))) : w.heap.size ≤ gb186)); clear HB; have HB := n0_; have BK186 := n1_; have GW186 := n2_; have GE186 := n3_; clear n0_ n1_ n2_ n3_; clear hb hbox hg; have hcz22_0 : w21.cell? ⟨gb186, 0, none⟩ = some (.int .i64 0) := (blk_cell BK186.out 0).trans rfl; have hcz22_1 : w21.cell? ⟨gb186, 1, none⟩ = some (.int .i64 0) := (blk_cell BK186.out 1).trans rfl; have hcz22_2 : w21.cell? ⟨gb186, 2, none⟩ = some (.bool false) := (blk_cell BK186.out 2).trans rfl; have hcz22_3 : w21.cell? ⟨gb186, 3, none⟩ = some (.bool false) := (blk_cell BK186.out 3).trans rfl; have hcz22_4 : w21.cell? ⟨gb186, 4, none⟩ = some (.bool false) := (blk_cell BK186.out 4).trans rfl; have hcz22_5 : w21.cell? ⟨gb186, 5, none⟩ = some (.bool false) := (blk_cell BK186.out 5).trans rfl; have hcz22_6 : w21.cell? ⟨gb186, 6, none⟩ = some (.int .i64 0) := (blk_cell BK186.out 6).trans rfl; have hfz22_0 := blk_frozen BK186.out 0; have hfz22_1 := blk_frozen BK186.out 1; have hfz22_2 := blk_frozen BK186.out 2; have hfz22_3 := blk_frozen BK186.out 3; have hfz22_4 := blk_frozen BK186.out 4; have hfz22_5 := blk_frozen BK186.out 5; have hfz22_6 := blk_frozen BK186.out 6))
    go_ret
    exact ⟨by first | rfl | (simp [errW_none, errW_some] <;> rfl) | (simp [*, errW_none, errW_some] <;> rfl), by repeat (first | (with_reducible first | exact HB.out | apply below_alloc | apply pw_below_drewN | apply below_drew1 | refine below_set ?_ GE186.out) | exact HB.out)⟩

/-! ### paviorref01_Bit: function 29 -/
def paviorref01_Bit.f (a0 : Int) (a1 : Int) : Option (Int) := if 0 ≤ a1 then (some (Go.bits .and .u64 (shr .u64 a0 a1) 1)) else (none)
set_option maxHeartbeats 8000000 in
set_option maxRecDepth 100000 in
theorem paviorref01_Bit.calls (a0 : Int) (a1 : Int) (r : Int) (w : World) (h : paviorref01_Bit.f a0 a1 = some r) :
    Calls Try.prog 29 #[.int .u64 a0, .int .i64 a1] w fun e w' => e = .returned (.int .u64 r) ∧ Drawn0 w w' := by
  have H : (if 0 ≤ a1 then (some (Go.bits .and .u64 (shr .u64 a0 a1) 1)) else (none)) = some r := h
  clear h
  by_cases c3 : 0 ≤ a1
  · rw [if_pos c3] at H
    have c3b0 := eq_true c3
    have c3b1 : decide (0 ≤ a1) = true := decide_eq_true c3
    clear c3
    obtain ⟨ji4, hji4⟩ : ∃ j_ : Int, (shr .u64 a0 a1) = j_ := ⟨_, rfl⟩
    replace H : (some (Go.bits .and .u64 (ji4) 1)) = some r := by first | (rw [hji4] at H; exact H) | (simp only [hji4] at H ⊢; exact H)
    have hji4_ : (a0 / 2 ^ min a1.toNat 64) = ji4 := hji4
    have hji4z : a1 ≤ 64 → (a0 / 2 ^ a1.toNat) = ji4 := shr_small hji4
    obtain rfl := Option.some.inj H
    go_enter Try.func29, Try.ntmps29
    go_wp2
    go_ret
    exact ⟨by first | rfl | (simp; done) | (simp only [← hji4] <;> (first | rfl | simp)) | (simp [*]; done), by repeat (first | exact Drawn0.refl _ | apply Drawn0.step)⟩
  · rw [if_neg c3] at H
    exact absurd H (by simp)

/-! ### paviorref01_Put: function 25 -/
mutual
def paviorref01_Put.l0 : Nat → Int → Int → Int → Int → Int → Int → Option (Int)
  | 0, _, _, _, _, _, _ => none
  | k + 1, x0, x1, x2, x3, x9, x10 => if x10 ≥ 0 then ((paviorref01_Bit.f x0 x10).bind fun t189 => (if x10 ≥ x1 then (paviorref01_Put.j1 k x0 x1 x2 x3 x9 x10 t189 (decide (x10 < (wrap64 (x1 + x2))))) else (paviorref01_Put.j1 k x0 x1 x2 x3 x9 x10 t189 false))) else (some x9)
def paviorref01_Put.j1 : Nat → Int → Int → Int → Int → Int → Int → Int → Bool → Option (Int)
  | 0, _, _, _, _, _, _, _, _ => none
  | k + 1, x0, x1, x2, x3, x9, x10, x11, x28 => if x28 = true then ((paviorref01_Bit.f x3 (wrap64 (x10 - x1))).bind fun t190 => (paviorref01_Put.l0 k x0 x1 x2 x3 (IntKind.u64.wrap ((IntKind.u64.wrap (x9 * 2)) + t190)) (wrap64 (x10 - 1)))) else (paviorref01_Put.l0 k x0 x1 x2 x3 (IntKind.u64.wrap ((IntKind.u64.wrap (x9 * 2)) + x11)) (wrap64 (x10 - 1)))
end
def paviorref01_Put.f (k : Nat) (a0 : Int) (a1 : Int) (a2 : Int) (a3 : Int) : Option (Int) := paviorref01_Put.l0 k a0 a1 a2 a3 0 63
set_option maxHeartbeats 8000000 in
set_option maxRecDepth 100000 in
theorem paviorref01_Put.calls (k : Nat) (a0 : Int) (a1 : Int) (a2 : Int) (a3 : Int) (r : Int) (w : World) (h : paviorref01_Put.f k a0 a1 a2 a3 = some r) :
    Calls Try.prog 25 #[.int .u64 a0, .int .i64 a1, .int .i64 a2, .int .u64 a3] w fun e w' => e = .returned (.int .u64 r) ∧ Drawn0 w w' := by
  have H : (paviorref01_Put.l0 k a0 a1 a2 a3 0 63) = some r := h
  clear h
  have H' := Aside0.mk H
  clear H
  go_enter Try.func25, Try.ntmps25
  go_wp2
  go_loopg [9, 10] k (fun kq v9 v10 w' => ∃ (x9_1 : Int) (x10_1 : Int), v9 = .int .u64 x9_1 ∧ v10 = .int .i64 x10_1 ∧ Aside0 (paviorref01_Put.l0 kq a0 a1 a2 a3 x9_1 x10_1 = some r) ∧ Aside0 (kq ≤ k) ∧ Drawn0 w w')
  case atStart => exact ⟨(0), (63), (by first | rfl | (simp; done) | (simp [*]; done)), (by first | rfl | (simp; done) | (simp [*]; done)), H', ⟨Nat.le_refl _⟩, by repeat (first | exact Drawn0.refl _ | apply Drawn0.step)⟩
  case round =>
    clear H'
    try clear c2
    try clear p2
    obtain ⟨x9_1, x10_1, rfl, rfl, HA, HK1, ⟨m1, rfl⟩⟩ := hrel
    cases gk with
    | zero => exact absurd HA.out (by simp [paviorref01_Put.l0])
    | succ k1 =>
      have H := HA.out
      clear HA
      simp only [paviorref01_Put.l0] at H
      by_cases c5 : x10_1 ≥ 0
      · rw [if_pos c5] at H
        have c5b0 : decide (0 ≤ x10_1) = true := decide_eq_true c5
        clear c5
        replace H := Option.bind_eq_some_iff.mp H
        obtain ⟨t189, A60, H⟩ := H
        replace H : (if x10_1 ≥ a1 then (paviorref01_Put.j1 k1 a0 a1 a2 a3 x9_1 x10_1 t189 (decide (x10_1 < (wrap64 (a1 + a2))))) else (paviorref01_Put.j1 k1 a0 a1 a2 a3 x9_1 x10_1 t189 false)) = some r := H
        have A6 := Aside0.mk A60
        clear A60
        have HC7 := Aside0.mk H
        clear H
        go_upto_region 6 with (first | ((with_reducible refine gate_callee (f := 29) rfl ?_); refine goesL_ (some 18) rfl rfl Try.func29 (by kernel_rfl) rfl #[.int .u64 a0, .int .i64 x10_1] rfl (by (try simp only [List.map_toArray, List.map_cons, List.map_nil]); first | done | rfl | (simp only [List.length_drop, List.length_take]; rfl)) ?_; (with_reducible refine (paviorref01_Bit.calls a0 x10_1 t189 _ A6.out).mono ?_); rintro e w' ⟨rfl, ⟨nd, rfl⟩⟩; refine ⟨_, rfl, ?_⟩))
        (try simp only [Act.put, List.setIfInBounds_toArray, List.set_cons_zero, List.set_cons_succ])
        go_cut [28] (fun v28 wc => ∃ (kq : Nat) (x28_6 : Bool), v28 = .bool x28_6 ∧ Aside0 (paviorref01_Put.j1 kq a0 a1 a2 a3 x9_1 x10_1 t189 x28_6 = some r) ∧ Aside0 (kq ≤ k1) ∧ Drawn0 w wc)
        case first =>
          have H := HC7.out
          clear HC7
          by_cases c8 : x10_1 ≥ a1
          · rw [if_pos c8] at H
            have c8b0 : decide (a1 ≤ x10_1) = true := decide_eq_true c8
            clear c8
            (first | rw [c8b0] | (simp only [i64_w, i32_w]; rw [c8b0]) | skip)
            have H' := Aside0.mk H
            clear H
            go_wp2
            go_meet
            case rel => exact ⟨_, (decide (x10_1 < (wrap64 (a1 + a2)))), (by first | rfl | (simp; done) | (simp [*]; done)), H', ⟨by have := HK1.out; first | omega | exact Nat.le_refl _⟩, by repeat (first | exact Drawn0.refl _ | apply Drawn0.step)⟩
          · rw [if_neg c8] at H
            have c8b0 : decide (a1 ≤ x10_1) = false := decide_eq_false c8
            clear c8
            (first | rw [c8b0] | (simp only [i64_w, i32_w]; rw [c8b0]) | skip)
            have H' := Aside0.mk H
            clear H
            go_wp2
            go_meet
            case rel => exact ⟨_, (false), (by first | rfl | (simp; done) | (simp [*]; done)), H', ⟨by have := HK1.out; first | omega | exact Nat.le_refl _⟩, by repeat (first | exact Drawn0.refl _ | apply Drawn0.step)⟩
        case rest =>
          clear HC7
          try clear c2
          try clear p2
          try clear c5
          try clear c5b0
          try clear p6
          try clear c8
          try clear c8b0
          try clear p2
          obtain ⟨kq, x28_6, rfl, HA, HJ6, ⟨mc6, rfl⟩⟩ := hcut
          cases kq with
          | zero => exact absurd HA.out (by simp [paviorref01_Put.j1])
          | succ kj6 =>
            have H := HA.out
            clear HA
            simp only [paviorref01_Put.j1] at H
            by_cases c9 : x28_6 = true
            · subst c9
              have H1 : ((paviorref01_Bit.f a3 (wrap64 (x10_1 - a1))).bind fun t190 => (paviorref01_Put.l0 kj6 a0 a1 a2 a3 (IntKind.u64.wrap ((IntKind.u64.wrap (x9_1 * 2)) + t190)) (wrap64 (x10_1 - 1)))) = some r := by rw [if_pos rfl] at H; exact H
              clear H
              have H := H1
              clear H1
              replace H := Option.bind_eq_some_iff.mp H
              obtain ⟨t190, A100, H⟩ := H
              replace H : (paviorref01_Put.l0 kj6 a0 a1 a2 a3 (IntKind.u64.wrap ((IntKind.u64.wrap (x9_1 * 2)) + t190)) (wrap64 (x10_1 - 1))) = some r := H
              have A10 := Aside0.mk A100
              clear A100
              have H' := Aside0.mk H
              clear H
              go_wp2_with (first | ((with_reducible refine gate_callee (f := 29) rfl ?_); refine goesL_ (some 33) rfl rfl Try.func29 (by kernel_rfl) rfl #[.int .u64 a3, .int .i64 (wrap64 (x10_1 - a1))] rfl (by (try simp only [List.map_toArray, List.map_cons, List.map_nil]); first | done | rfl | (simp only [List.length_drop, List.length_take]; rfl)) ?_; (with_reducible refine (paviorref01_Bit.calls a3 (wrap64 (x10_1 - a1)) t190 _ A10.out).mono ?_); rintro e w' ⟨rfl, ⟨nd, rfl⟩⟩; refine ⟨_, rfl, ?_⟩))
              go_roundg kj6
              case measure => have := HK1.out; have := HJ6.out; omega
              case rel => exact ⟨(IntKind.u64.wrap ((IntKind.u64.wrap (x9_1 * 2)) + t190)), (wrap64 (x10_1 - 1)), (by first | rfl | (simp; done) | (simp [*]; done)), (by first | rfl | (simp; done) | (simp [*]; done)), H', ⟨by have := HK1.out; have := HJ6.out; omega⟩, by repeat (first | exact Drawn0.refl _ | apply Drawn0.step)⟩
            · replace c9 := Bool.eq_false_iff.mpr c9
              subst c9
              have H1 : (paviorref01_Put.l0 kj6 a0 a1 a2 a3 (IntKind.u64.wrap ((IntKind.u64.wrap (x9_1 * 2)) + t189)) (wrap64 (x10_1 - 1))) = some r := by rw [if_neg (show ¬ (false = true) by decide)] at H; exact H
              clear H
              have H := H1
              clear H1
              have H' := Aside0.mk H
              clear H
              go_wp2
              go_roundg kj6
              case measure => have := HK1.out; have := HJ6.out; omega
              case rel => exact ⟨(IntKind.u64.wrap ((IntKind.u64.wrap (x9_1 * 2)) + t189)), (wrap64 (x10_1 - 1)), (by first | rfl | (simp; done) | (simp [*]; done)), (by first | rfl | (simp; done) | (simp [*]; done)), H', ⟨by have := HK1.out; have := HJ6.out; omega⟩, by repeat (first | exact Drawn0.refl _ | apply Drawn0.step)⟩
      · rw [if_neg c5] at H
        have c5b0 : decide (0 ≤ x10_1) = false := decide_eq_false c5
        clear c5
        obtain rfl := Option.some.inj H
        go_wp2
        go_ret
        exact ⟨by first | rfl | (simp; done) | (simp [*]; done), by repeat (first | exact Drawn0.refl _ | apply Drawn0.step)⟩

end Go.Proofs.Ytehbhpkmlmeblaa.Q
