-- Written by this session's program wip/tools/xprint.py (the kit's printer, turned by it); not the kit's own print.
import Derived.Test.YtlmjjkggoemababQx0
namespace Go.Proofs.Ytlmjjkggoemabab.Q
open Go.RowKit Go.Proofs.YtlmjjkggoemababW.PrintWords Go.Proofs.YtlmjjkggoemababW.PrintLast Go.Proofs.YtlmjjkggoemababW.PrintMore
attribute [local go_sem] max2_int min2_int max_two min_two max_three min_three max_four min_four   -- for this text's walks alone
set_option linter.unusedVariables false
set_option linter.unusedSimpArgs false

attribute [local go_sem high] eqErr_some neErr_some eqErr_left neErr_left
/-! ### area_parts_1: function 38 -/
def area_parts_1.f (l0 : List (S32)) (a1_0 : Int) (a1_1 : Int) (a1_2 : Bool) (a1_3 : Bool) (a1_4 : Bool) (a2 : Int) (a3 : Int) : Option ((List (S32))) := if (mx a1_0 a2) < (mn a1_1 a3) then (if l0.length < 5864062014805 then (some (l0 ++ [(⟨mx a1_0 a2, mn a1_1 a3, (⟨a1_2, a1_3⟩ : S30), a1_4⟩ : S32)])) else (none)) else (some l0)
set_option maxHeartbeats 8000000 in
set_option maxRecDepth 100000 in
theorem area_parts_1.calls (P0_ : Nat → Prop) (u9000_ : Value) (l0 : List (S32)) (a1_0 : Int) (a1_1 : Int) (a1_2 : Bool) (a1_3 : Bool) (a1_4 : Bool) (a2 : Int) (a3 : Int) (r : List (S32)) (w0 w : World) (hB : Below w0.heap.size w0 w) (ho0 : Kd.R k32 32 w w0.heap.size P0_ u9000_ l0) (h : area_parts_1.f l0 a1_0 a1_1 a1_2 a1_3 a1_4 a2 a3 = some r) :
    Calls Try.prog 38 #[u9000_, .agg #[.int .i64 a1_0, .int .i64 a1_1, .bool a1_2, .bool a1_3, .bool a1_4], .int .i64 a2, .int .i64 a3] w fun e w' => ∃ v0_ : Value, e = .returned (v0_) ∧ Kd.R k32 32 w' w0.heap.size (fun k_ => (P0_ k_ ∨ w.heap.size ≤ k_)) v0_ r ∧ Below w0.heap.size w0 w' ∧ Kept w w' (fun k_ => P0_ k_) := by
  have hu32 := Try.underlying32
  have HO0 := Aside0.mk (show Kd.R k32 32 w w0.heap.size (fun k_ => (P0_ k_ ∨ w.heap.size ≤ k_)) u9000_ l0 from Kd.R_mono ho0 (fun k_ hk => (.inl hk)))
  have HK := Aside0.mk (Kept.refl w (fun k_ => P0_ k_))
  have HW0 := Aside0.mk hB.size
  have HB := Aside0.mk hB
  clear hB
  have H : (if (mx a1_0 a2) < (mn a1_1 a3) then (if l0.length < 5864062014805 then (some (l0 ++ [(⟨mx a1_0 a2, mn a1_1 a3, (⟨a1_2, a1_3⟩ : S30), a1_4⟩ : S32)])) else (none)) else (some l0)) = some r := h
  clear h
  obtain ⟨ji5, hji5⟩ : ∃ j_ : Int, (mx a1_0 a2) = j_ := ⟨_, rfl⟩
  replace H : (if (ji5) < (mn a1_1 a3) then (if l0.length < 5864062014805 then (some (l0 ++ [(⟨ji5, mn a1_1 a3, (⟨a1_2, a1_3⟩ : S30), a1_4⟩ : S32)])) else (none)) else (some l0)) = some r := by first | (rw [hji5] at H; exact H) | (simp only [hji5] at H ⊢; exact H)
  have hji5_ : (if a1_0 < a2 then a2 else a1_0) = ji5 := hji5
  obtain ⟨ji6, hji6⟩ : ∃ j_ : Int, (mn a1_1 a3) = j_ := ⟨_, rfl⟩
  replace H : (if (ji5) < (ji6) then (if l0.length < 5864062014805 then (some (l0 ++ [(⟨ji5, ji6, (⟨a1_2, a1_3⟩ : S30), a1_4⟩ : S32)])) else (none)) else (some l0)) = some r := by first | (rw [hji6] at H; exact H) | (simp only [hji6] at H ⊢; exact H)
  have hji6_ : (if a3 < a1_1 then a3 else a1_1) = ji6 := hji6
  by_cases c7 : (ji5) < (ji6)
  · rw [if_pos c7] at H
    have c7b0 : decide ((ji5) < (ji6)) = true := decide_eq_true c7
    clear c7
    by_cases c8 : l0.length < 5864062014805
    · rw [if_pos c8] at H
      have LMc8 := Aside0.mk c8
      clear c8
      obtain ⟨y111, hy111⟩ : ∃ y_ : List (S32), y_ = (l0 ++ [(⟨ji5, ji6, (⟨a1_2, a1_3⟩ : S30), a1_4⟩ : S32)]) := ⟨_, rfl⟩
      replace H : (some y111) = some r := by first | (rw [hy111]; with_reducible exact H) | (have H2_ := (Option.bind_some _ _).symm.trans H; rw [hy111]; with_reducible exact H2_) | (have H2_ := (Option.bind_some _ _).symm.trans H; with_reducible exact H2_) | with_reducible exact H | (rw [hy111]; exact H) | exact H
      have Ny111 := Aside0.mk hy111
      clear hy111
      obtain rfl := Option.some.inj H
      go_enter Try.func38, Try.ntmps38
      go_wp2_with (first | ((with_reducible refine gate_dst (N := 5) rfl ?_); refine box_event ?hg (N := 5) ?hd (cs := #[.int .i64 a1_0, .int .i64 a1_1, .bool a1_2, .bool a1_3, .bool a1_4]) (t := 32) ?hr ?_; (case hd => rfl); (case hg => rfl); (case hr => first | (go_simp; done) | (go_simp; rfl)); intro gb110 hg w9 hbox hb; have n0_ := Aside0.mk (Kd.R_below (Kd.R_elderB (by (with_reducible repeat (first | apply Kd.R_alloc | apply Kd.R_drewN | apply Kd.R_drew)); exact HO0.out) gb110 (Nat.le_of_eq hg.symm)) hb); have n1_ := Aside0.mk (Kept.below (S := (fun k_ => P0_ k_)) (by repeat (first | (with_reducible first | exact HK.out | apply Kept.alloc | apply Kept.drewN | apply Kept.drew) | exact HK.out)) hb); have n2_ := Aside0.mk (below_step (by repeat (first | (with_reducible first | exact HB.out | apply below_alloc | apply pw_below_drewN | apply below_drew1) | exact HB.out)) hb); have n3_ := Aside0.mk (hbox); have n4_ := Aside0.mk ((by rw [hg]; exact (by first | exact HK.out.1 | exact (show Kept w _ (fun k_ => P0_ k_) from by repeat (first | (with_reducible first | exact HK.out | apply Kept.alloc | apply Kept.drewN | apply Kept.drew) | exact HK.out)).1) : w.heap.size ≤ gb110)); have n5_ := Aside0.mk ((by rw [hg]; exact (below_size (by repeat (first | (with_reducible first | exact HB.out | apply below_alloc | apply pw_below_drewN | apply below_drew1) | exact HB.out))) : w0.heap.size ≤ gb110)); clear HO0; clear HK; clear HB; have HO0 := n0_; have HK := n1_; have HB := n2_; have BK110 := n3_; have GW110 := n4_; have GE110 := n5_; clear n0_ n1_ n2_ n3_ n4_ n5_; clear hb hbox hg; have hcz10_0 : w9.cell? ⟨gb110, 0, none⟩ = some (.int .i64 a1_0) := (blk_cell BK110.out 0).trans rfl; have hcz10_1 : w9.cell? ⟨gb110, 1, none⟩ = some (.int .i64 a1_1) := (blk_cell BK110.out 1).trans rfl; have hcz10_2 : w9.cell? ⟨gb110, 2, none⟩ = some (.bool a1_2) := (blk_cell BK110.out 2).trans rfl; have hcz10_3 : w9.cell? ⟨gb110, 3, none⟩ = some (.bool a1_3) := (blk_cell BK110.out 3).trans rfl; have hcz10_4 : w9.cell? ⟨gb110, 4, none⟩ = some (.bool a1_4) := (blk_cell BK110.out 4).trans rfl; have hfz10_0 := blk_frozen BK110.out 0; have hfz10_1 := blk_frozen BK110.out 1; have hfz10_2 := blk_frozen BK110.out 2; have hfz10_3 := blk_frozen BK110.out 3; have hfz10_4 := blk_frozen BK110.out 4) | ((with_reducible refine gate_builtin (b := .append) (xs := #[.tmp 24, .tmp 26]) rfl ?_); at_builtin; refine Kd.R_append k32 (w0 := w0) w0.heap.size rfl (.tmp 24) (.tmp 26) 22 32 (.agg #[(.int .i64 0), (.int .i64 0), (.bool false), (.bool false), (.bool false)]) 24 rfl Try.underlying22 info32 rfl (by decide) (by omega) u9000_ l0 (⟨ji5, ji6, (⟨a1_2, a1_3⟩ : S30), a1_4⟩ : S32) [.int .i64 ji5, .int .i64 ji6, .bool a1_2, .bool a1_3, .bool a1_4] (fun k_ => (P0_ k_ ∨ w.heap.size ≤ k_) ∧ k_ ≠ gb110) (fun _ => False) rfl (by first | (go_simp; done) | (go_simp; rfl)) ?aP (fun _ hk => hk.elim) ?aF ?aO ?aB ?aS ?aL ?_; (case aP => exact k32_mkM _ _ _ (⟨ji5, ji6, (⟨a1_2, a1_3⟩ : S30), a1_4⟩ : S32)); (case aB => exact (by repeat (first | (with_reducible first | exact HB.out | apply below_alloc | apply pw_below_drewN | apply below_drew1 | refine below_set ?_ GE110.out) | exact HB.out))); (case aF => exact (fun k_ hk => ⟨(.inr (Nat.le_trans (show Kept w _ (fun k_ => P0_ k_) from by repeat (first | (with_reducible first | exact HK.out | apply Kept.alloc | apply Kept.drewN | apply Kept.drew | refine Kept.setCell ?_ (.inr GW110.out) _) | exact HK.out)).1 hk)), Kd.freshB (g := gb110) (o := .cells #[.int .i64 ji5, .int .i64 ji6, .bool a1_2, .bool a1_3, .bool a1_4] 32 (0, 0)) (by (with_reducible repeat (first | refine blk_drewN ?_ _ | refine blk_drew ?_ | refine blk_alloc ?_ _)); refine blk_put (cs := #[.int .i64 ji5, .int .i64 a1_1, .bool a1_2, .bool a1_3, .bool a1_4]) ?_ 1 _ rfl; (with_reducible repeat (first | refine blk_drewN ?_ _ | refine blk_drew ?_ | refine blk_alloc ?_ _)); refine blk_put (cs := #[.int .i64 a1_0, .int .i64 a1_1, .bool a1_2, .bool a1_3, .bool a1_4]) ?_ 0 _ rfl; (with_reducible repeat (first | refine blk_drewN ?_ _ | refine blk_drew ?_ | refine blk_alloc ?_ _)); exact BK110.out) k_ hk⟩)); (case aO => exact (by (with_reducible repeat (first | apply Kd.R_alloc | apply Kd.R_drewN | apply Kd.R_drew)); exact Kd.R_mono (Kd.R_far (p := ⟨gb110, 1, none⟩) (Kd.R_far (p := ⟨gb110, 0, none⟩) (Kd.R_mono HO0.out (fun k_ hk => (⟨hk, hk.2⟩ : _ ∧ k_ ≠ gb110))) (fun _ hk => hk.2) (.int .i64 ji5)) (fun _ hk => hk.2) (.int .i64 ji6)) (fun _ hk => ⟨hk.1.1, hk.1.2⟩))); (case aS => exact (below_size (by repeat (first | (with_reducible first | exact HB.out | apply below_alloc | apply pw_below_drewN | apply below_drew1 | refine below_set ?_ GE110.out) | exact HB.out)))); (case aL => have := LMc8.out; omega); intro v112 w11 ho hb hg hat; rw [← Ny111.out] at ho; have n0_ := Aside0.mk (blk_grown (g := gb110) (o := .cells #[.int .i64 ji5, .int .i64 ji6, .bool a1_2, .bool a1_3, .bool a1_4] 32 (0, 0)) (by (with_reducible repeat (first | refine blk_drewN ?_ _ | refine blk_drew ?_ | refine blk_alloc ?_ _)); refine blk_put (cs := #[.int .i64 ji5, .int .i64 a1_1, .bool a1_2, .bool a1_3, .bool a1_4]) ?_ 1 _ rfl; (with_reducible repeat (first | refine blk_drewN ?_ _ | refine blk_drew ?_ | refine blk_alloc ?_ _)); refine blk_put (cs := #[.int .i64 a1_0, .int .i64 a1_1, .bool a1_2, .bool a1_3, .bool a1_4]) ?_ 0 _ rfl; (with_reducible repeat (first | refine blk_drewN ?_ _ | refine blk_drew ?_ | refine blk_alloc ?_ _)); exact BK110.out) hg (Kd.R_away HO0.out (fun _ hk => hk.2))); have n1_ := Aside0.mk (hb); have n2_ := Aside0.mk (Kept.of_grown (S := (fun k_ => P0_ k_)) hg (by repeat (first | (with_reducible first | exact HK.out | apply Kept.alloc | apply Kept.drewN | apply Kept.drew | refine Kept.setCell ?_ (.inr GW110.out) _) | exact HK.out)) (fun k_ e_ => (HO0.out.1 k_ e_).1)); have n3_ := Aside0.mk (ho); clear BK110; clear HB; clear HK; clear HO0; have BK110 := n0_; have HB := n1_; have HK := n2_; have HO113 := n3_; clear n0_ n1_ n2_ n3_; clear ho hb hg hat))
      go_ret
      exact ⟨_, by first | rfl | (simp [errW_none, errW_some] <;> rfl) | (simp only [← hji5, ← hji6]; first | rfl | (simp [errW_none, errW_some] <;> rfl)) | (simp [*, errW_none, errW_some] <;> rfl), by (with_reducible repeat (first | apply Kd.R_alloc | apply Kd.R_drewN | apply Kd.R_drew)); exact Kd.R_mono HO113.out (fun _ hk => hk.1), by repeat (first | (with_reducible first | exact HB.out | apply below_alloc | apply pw_below_drewN | apply below_drew1 | refine below_set ?_ GE110.out) | exact HB.out), by repeat (first | (with_reducible first | exact HK.out | apply Kept.alloc | apply Kept.drewN | apply Kept.drew | refine Kept.setCell ?_ (.inr GW110.out) _) | exact HK.out)⟩
    · rw [if_neg c8] at H
      exact absurd H (by simp)
  · rw [if_neg c7] at H
    have c7b0 : decide ((ji5) < (ji6)) = false := decide_eq_false c7
    clear c7
    obtain rfl := Option.some.inj H
    go_enter Try.func38, Try.ntmps38
    go_wp2_with (first | ((with_reducible refine gate_dst (N := 5) rfl ?_); refine box_event ?hg (N := 5) ?hd (cs := #[.int .i64 a1_0, .int .i64 a1_1, .bool a1_2, .bool a1_3, .bool a1_4]) (t := 32) ?hr ?_; (case hd => rfl); (case hg => rfl); (case hr => first | (go_simp; done) | (go_simp; rfl)); intro gb110 hg w12 hbox hb; have n0_ := Aside0.mk (Kd.R_below (Kd.R_elderB (by (with_reducible repeat (first | apply Kd.R_alloc | apply Kd.R_drewN | apply Kd.R_drew)); exact HO0.out) gb110 (Nat.le_of_eq hg.symm)) hb); have n1_ := Aside0.mk (Kept.below (S := (fun k_ => P0_ k_)) (by repeat (first | (with_reducible first | exact HK.out | apply Kept.alloc | apply Kept.drewN | apply Kept.drew) | exact HK.out)) hb); have n2_ := Aside0.mk (below_step (by repeat (first | (with_reducible first | exact HB.out | apply below_alloc | apply pw_below_drewN | apply below_drew1) | exact HB.out)) hb); have n3_ := Aside0.mk (hbox); have n4_ := Aside0.mk ((by rw [hg]; exact (by first | exact HK.out.1 | exact (show Kept w _ (fun k_ => P0_ k_) from by repeat (first | (with_reducible first | exact HK.out | apply Kept.alloc | apply Kept.drewN | apply Kept.drew) | exact HK.out)).1) : w.heap.size ≤ gb110)); have n5_ := Aside0.mk ((by rw [hg]; exact (below_size (by repeat (first | (with_reducible first | exact HB.out | apply below_alloc | apply pw_below_drewN | apply below_drew1) | exact HB.out))) : w0.heap.size ≤ gb110)); clear HO0; clear HK; clear HB; have HO0 := n0_; have HK := n1_; have HB := n2_; have BK110 := n3_; have GW110 := n4_; have GE110 := n5_; clear n0_ n1_ n2_ n3_ n4_ n5_; clear hb hbox hg; have hcz13_0 : w12.cell? ⟨gb110, 0, none⟩ = some (.int .i64 a1_0) := (blk_cell BK110.out 0).trans rfl; have hcz13_1 : w12.cell? ⟨gb110, 1, none⟩ = some (.int .i64 a1_1) := (blk_cell BK110.out 1).trans rfl; have hcz13_2 : w12.cell? ⟨gb110, 2, none⟩ = some (.bool a1_2) := (blk_cell BK110.out 2).trans rfl; have hcz13_3 : w12.cell? ⟨gb110, 3, none⟩ = some (.bool a1_3) := (blk_cell BK110.out 3).trans rfl; have hcz13_4 : w12.cell? ⟨gb110, 4, none⟩ = some (.bool a1_4) := (blk_cell BK110.out 4).trans rfl; have hfz13_0 := blk_frozen BK110.out 0; have hfz13_1 := blk_frozen BK110.out 1; have hfz13_2 := blk_frozen BK110.out 2; have hfz13_3 := blk_frozen BK110.out 3; have hfz13_4 := blk_frozen BK110.out 4))
    go_ret
    exact ⟨_, by first | rfl | (simp [errW_none, errW_some] <;> rfl) | (simp only [← hji5, ← hji6]; first | rfl | (simp [errW_none, errW_some] <;> rfl)) | (simp [*, errW_none, errW_some] <;> rfl), by (with_reducible repeat (first | apply Kd.R_alloc | apply Kd.R_drewN | apply Kd.R_drew)); exact Kd.R_mono (Kd.R_far (p := ⟨gb110, 1, none⟩) (Kd.R_far (p := ⟨gb110, 0, none⟩) (Kd.R_mono HO0.out (fun k_ hk => (⟨hk, hk.2⟩ : _ ∧ k_ ≠ gb110))) (fun _ hk => hk.2) (.int .i64 ji5)) (fun _ hk => hk.2) (.int .i64 ji6)) (fun _ hk => hk.1.1), by repeat (first | (with_reducible first | exact HB.out | apply below_alloc | apply pw_below_drewN | apply below_drew1 | refine below_set ?_ GE110.out) | exact HB.out), by repeat (first | (with_reducible first | exact HK.out | apply Kept.alloc | apply Kept.drewN | apply Kept.drew | refine Kept.setCell ?_ (.inr GW110.out) _) | exact HK.out)⟩

/-! ### area_parts: function 31 -/
def area_parts.l0 : Nat → Int → Int → List (S32) → List (S32) → List (S32) → List (S32) → Int → Int → Option ((List (S32)) × (List (S32)) × (List (S32)))
  | 0, _, _, _, _, _, _, _, _ => none
  | k + 1, x1, x2, x9, x10, x11, x15, x16, x17 => if x17 < x16 then (if 0 ≤ x17 then (if x17 < (x15.length : Int) then ((area_parts_1.f x9 ((rd_T32 x15 x17).f0) ((rd_T32 x15 x17).f1) ((rd_T32 x15 x17).f2.f0) ((rd_T32 x15 x17).f2.f1) ((rd_T32 x15 x17).f3) 0 x1).bind fun t116 => ((area_parts_1.f x10 ((rd_T32 x15 x17).f0) ((rd_T32 x15 x17).f1) ((rd_T32 x15 x17).f2.f0) ((rd_T32 x15 x17).f2.f1) ((rd_T32 x15 x17).f3) x1 x2).bind fun t119 => ((area_parts_1.f x11 ((rd_T32 x15 x17).f0) ((rd_T32 x15 x17).f1) ((rd_T32 x15 x17).f2.f0) ((rd_T32 x15 x17).f2.f1) ((rd_T32 x15 x17).f3) x2 4096).bind fun t122 => (area_parts.l0 k x1 x2 t116 t119 t122 x15 x16 (wrap64 (x17 + 1)))))) else (none)) else (none)) else (some (x9, x10, x11))
def area_parts.f (k : Nat) (l0 : List (S32)) (a1 : Int) (a2 : Int) : Option ((List (S32)) × (List (S32)) × (List (S32))) := area_parts.l0 k a1 a2 ([] : List (S32)) ([] : List (S32)) ([] : List (S32)) l0 (l0.length : Int) 0
theorem area_parts.mono_l : ∀ k, (∀ y0 y1 y2 y3 y4 y5 y6 y7, LeO (area_parts.l0 k y0 y1 y2 y3 y4 y5 y6 y7) (area_parts.l0 (k + 1) y0 y1 y2 y3 y4 y5 y6 y7))
  | 0 => fun _ _ _ _ _ _ _ _ r h => by simp [area_parts.l0] at h
  | k + 1 => by
    have ih0 := area_parts.mono_l k
    · intro y0 y1 y2 y3 y4 y5 y6 y7
      unfold area_parts.l0
      repeat' first
      | (with_reducible exact ih0 _ _ _ _ _ _ _ _)
      | (with_reducible exact LeO.refl _)
      | (with_reducible exact LeO.none _)
      | (with_reducible refine LeO.ite ?_ ?_)
      | (with_reducible refine LeO.bind ?_ (fun _ => ?_))
      | exact ih0 _ _ _ _ _ _ _ _
      | exact LeO.none _
      | refine LeO.ite ?_ ?_
      | refine LeO.bind ?_ (fun _ => ?_)
theorem area_parts.mono : ∀ a0 a1 a2 k, LeO (area_parts.f k a0 a1 a2) (area_parts.f (k + 1) a0 a1 a2) := by
  intro a0 a1 a2 k
  have ih0 := area_parts.mono_l k
  unfold area_parts.f
  repeat' first
      | (with_reducible exact ih0 _ _ _ _ _ _ _ _)
      | (with_reducible exact LeO.refl _)
      | (with_reducible exact LeO.none _)
      | (with_reducible refine LeO.ite ?_ ?_)
      | (with_reducible refine LeO.bind ?_ (fun _ => ?_))
      | exact ih0 _ _ _ _ _ _ _ _
      | exact LeO.none _
      | refine LeO.ite ?_ ?_
      | refine LeO.bind ?_ (fun _ => ?_)
set_option maxHeartbeats 8000000 in
set_option maxRecDepth 100000 in
theorem area_parts.calls (k : Nat) (A0 : Option Addr) (c0 : Nat) (l0 : List (S32)) (a1 : Int) (a2 : Int) (r1 : List (S32)) (r2 : List (S32)) (r3 : List (S32)) (w : World) (hr0 : Kd.C k32 w A0 l0.length l0) (hc0 : l0.length ≤ c0) (h : area_parts.f k l0 a1 a2 = some (r1, r2, r3)) :
    Calls Try.prog 31 #[.slice A0 l0.length c0, .int .i64 a1, .int .i64 a2] w fun e w' => ∃ v0_ v1_ v2_ : Value, e = .returned (.tuple #[v0_, v1_, v2_]) ∧ Kd.R k32 32 w' w.heap.size (fun k_ => some k_ ≠ (v1_ : Value).ownBlock ∧ some k_ ≠ (v2_ : Value).ownBlock) v0_ r1 ∧ Kd.R k32 32 w' w.heap.size (fun k_ => some k_ ≠ (v0_ : Value).ownBlock ∧ some k_ ≠ (v2_ : Value).ownBlock) v1_ r2 ∧ Kd.R k32 32 w' w.heap.size (fun k_ => some k_ ≠ (v0_ : Value).ownBlock ∧ some k_ ≠ (v1_ : Value).ownBlock) v2_ r3 ∧ Below w.heap.size w w' := by
  have hu32 := Try.underlying32
  have HR0 := Aside0.mk hr0
  have HC0 := Aside0.mk hc0
  clear hr0 hc0
  have HB := Aside0.mk (Below.refl w.heap.size w)
  have H : (area_parts.l0 k a1 a2 ([] : List (S32)) ([] : List (S32)) ([] : List (S32)) l0 (l0.length : Int) 0) = some (r1, r2, r3) := h
  clear h
  have H' := Aside0.mk H
  clear H
  go_enter Try.func31, Try.ntmps31
  go_wp2
  go_loopg [9, 10, 11, 17] k (fun kq v9 v10 v11 v17 w' => ∃ (x9_1 : List (S32)) (x10_1 : List (S32)) (x11_1 : List (S32)) (x17_1 : Int), v17 = .int .i64 x17_1 ∧ Aside0 (area_parts.l0 kq a1 a2 x9_1 x10_1 x11_1 l0 (l0.length : Int) x17_1 = some (r1, r2, r3)) ∧ Aside0 (kq ≤ k) ∧ Aside0 (Kd.R k32 32 w' w.heap.size (fun k_ => some k_ ≠ (v10 : Value).ownBlock ∧ some k_ ≠ (v11 : Value).ownBlock) v9 x9_1) ∧ Aside0 (Kd.R k32 32 w' w.heap.size (fun k_ => some k_ ≠ (v9 : Value).ownBlock ∧ some k_ ≠ (v11 : Value).ownBlock) v10 x10_1) ∧ Aside0 (Kd.R k32 32 w' w.heap.size (fun k_ => some k_ ≠ (v9 : Value).ownBlock ∧ some k_ ≠ (v10 : Value).ownBlock) v11 x11_1) ∧ Aside0 (Below w.heap.size w w'))
  case atStart => exact ⟨(([] : List (S32))), (([] : List (S32))), (([] : List (S32))), (0), (by first | rfl | (simp; done) | (simp [*]; done)), H', ⟨Nat.le_refl _⟩, ⟨by first | exact Kd.R_nil _ _ _ _ _ | exact Kd.N_nil _ _ _ _ _ | exact Kd.V_nil _ _ _ _ _ | exact Kd.Q_nil _ _ _ _ _ | exact Kd.S_nil _ _ _ _ _⟩, ⟨by first | exact Kd.R_nil _ _ _ _ _ | exact Kd.N_nil _ _ _ _ _ | exact Kd.V_nil _ _ _ _ _ | exact Kd.Q_nil _ _ _ _ _ | exact Kd.S_nil _ _ _ _ _⟩, ⟨by first | exact Kd.R_nil _ _ _ _ _ | exact Kd.N_nil _ _ _ _ _ | exact Kd.V_nil _ _ _ _ _ | exact Kd.Q_nil _ _ _ _ _ | exact Kd.S_nil _ _ _ _ _⟩, ⟨by repeat (first | (with_reducible first | exact HB.out | apply below_alloc | apply pw_below_drewN | apply below_drew1) | exact HB.out)⟩⟩
  case round =>
    clear H'
    try clear p2
    try clear c3
    obtain ⟨x9_1, x10_1, x11_1, x17_1, rfl, HA, HK1, HO_9, HO_10, HO_11, HB⟩ := hrel
    cases gk with
    | zero => exact absurd HA.out (by simp [area_parts.l0])
    | succ k1 =>
      have H := HA.out
      clear HA
      simp only [area_parts.l0] at H
      by_cases c4 : x17_1 < (l0.length : Int)
      · rw [if_pos c4] at H
        have c4b0 : decide (x17_1 < (l0.length : Int)) = true := decide_eq_true c4
        clear c4
        by_cases c5 : 0 ≤ x17_1
        · rw [if_pos c5] at H
          have c5b0 : decide (0 ≤ x17_1) = true := decide_eq_true c5
          clear c5
          by_cases c6 : x17_1 < (l0.length : Int)
          · rw [if_pos c6] at H
            have c6b0 : decide (x17_1 < (l0.length : Int)) = true := decide_eq_true c6
            clear c6
            replace H := Option.bind_eq_some_iff.mp H
            obtain ⟨t116, A70, H⟩ := H
            replace H : ((area_parts_1.f x10_1 ((rd_T32 l0 x17_1).f0) ((rd_T32 l0 x17_1).f1) ((rd_T32 l0 x17_1).f2.f0) ((rd_T32 l0 x17_1).f2.f1) ((rd_T32 l0 x17_1).f3) a1 a2).bind fun t119 => ((area_parts_1.f x11_1 ((rd_T32 l0 x17_1).f0) ((rd_T32 l0 x17_1).f1) ((rd_T32 l0 x17_1).f2.f0) ((rd_T32 l0 x17_1).f2.f1) ((rd_T32 l0 x17_1).f3) a2 4096).bind fun t122 => (area_parts.l0 k1 a1 a2 t116 t119 t122 l0 (l0.length : Int) (wrap64 (x17_1 + 1))))) = some (r1, r2, r3) := H
            have A7 := Aside0.mk A70
            clear A70
            replace H := Option.bind_eq_some_iff.mp H
            obtain ⟨t119, A80, H⟩ := H
            replace H : ((area_parts_1.f x11_1 ((rd_T32 l0 x17_1).f0) ((rd_T32 l0 x17_1).f1) ((rd_T32 l0 x17_1).f2.f0) ((rd_T32 l0 x17_1).f2.f1) ((rd_T32 l0 x17_1).f3) a2 4096).bind fun t122 => (area_parts.l0 k1 a1 a2 t116 t119 t122 l0 (l0.length : Int) (wrap64 (x17_1 + 1)))) = some (r1, r2, r3) := H
            have A8 := Aside0.mk A80
            clear A80
            replace H := Option.bind_eq_some_iff.mp H
            obtain ⟨t122, A90, H⟩ := H
            replace H : (area_parts.l0 k1 a1 a2 t116 t119 t122 l0 (l0.length : Int) (wrap64 (x17_1 + 1))) = some (r1, r2, r3) := H
            have A9 := Aside0.mk A90
            clear A90
            have H' := Aside0.mk H
            clear H
            have p114 : 0 ≤ (x17_1 : Int) := of_decide_eq_true (by first | (with_reducible assumption) | assumption)
            have q114 : x17_1 < (l0.length : Int) := of_decide_eq_true (by first | (with_reducible assumption) | assumption)
            obtain ⟨ad114, e114, hx114_0, hx114_1, hx114_2, hx114_3, hx114_4⟩ := at_T32 HR0.out x17_1 p114 q114
            cases e114
            replace hx114_0 := (HB.out.cell (World.block_lt_of_cell? w _ hx114_0)).trans hx114_0
            replace hx114_1 := (HB.out.cell (World.block_lt_of_cell? w _ hx114_1)).trans hx114_1
            replace hx114_2 := (HB.out.cell (World.block_lt_of_cell? w _ hx114_2)).trans hx114_2
            replace hx114_3 := (HB.out.cell (World.block_lt_of_cell? w _ hx114_3)).trans hx114_3
            replace hx114_4 := (HB.out.cell (World.block_lt_of_cell? w _ hx114_4)).trans hx114_4
            replace p114 := eq_true p114
            replace q114 := eq_true q114
            go_wp2_with (first | ((with_reducible refine gate_dst (N := 14) rfl ?_); refine box_event ?hg (N := 14) ?hd (cs := #[.int .i64 0, .int .i64 0, .bool false, .bool false, .bool false]) (t := 32) ?hr ?_; (case hd => rfl); (case hg => rfl); (case hr => first | (go_simp; done) | (go_simp; rfl)); intro gb115 hg w10 hbox hb; have n0_ := Aside0.mk (Kd.R_below (Kd.R_elderB (by (with_reducible repeat (first | apply Kd.R_alloc | apply Kd.R_drewN | apply Kd.R_drew)); exact HO_9.out) gb115 (Nat.le_of_eq hg.symm)) hb); have n1_ := Aside0.mk (Kd.R_below (Kd.R_elderB (by (with_reducible repeat (first | apply Kd.R_alloc | apply Kd.R_drewN | apply Kd.R_drew)); exact HO_10.out) gb115 (Nat.le_of_eq hg.symm)) hb); have n2_ := Aside0.mk (Kd.R_below (Kd.R_elderB (by (with_reducible repeat (first | apply Kd.R_alloc | apply Kd.R_drewN | apply Kd.R_drew)); exact HO_11.out) gb115 (Nat.le_of_eq hg.symm)) hb); have n3_ := Aside0.mk (below_step (by repeat (first | (with_reducible first | exact HB.out | apply below_alloc | apply pw_below_drewN | apply below_drew1) | exact HB.out)) hb); have n4_ := Aside0.mk (hbox); have n5_ := Aside0.mk ((by rw [hg]; exact (below_size (by repeat (first | (with_reducible first | exact HB.out | apply below_alloc | apply pw_below_drewN | apply below_drew1) | exact HB.out))) : w.heap.size ≤ gb115)); have n6_ := Aside0.mk ((by rw [hg]; exact (below_size (by repeat (first | (with_reducible first | exact HB.out | apply below_alloc | apply pw_below_drewN | apply below_drew1) | exact HB.out))) : w.heap.size ≤ gb115)); clear HO_9; clear HO_10; clear HO_11; clear HB; have HO_9 := n0_; have HO_10 := n1_; have HO_11 := n2_; have HB := n3_; have BK115 := n4_; have GW115 := n5_; have GE115 := n6_; clear n0_ n1_ n2_ n3_ n4_ n5_ n6_; clear hb hbox hg; have hcz11_0 : w10.cell? ⟨gb115, 0, none⟩ = some (.int .i64 0) := (blk_cell BK115.out 0).trans rfl; have hcz11_1 : w10.cell? ⟨gb115, 1, none⟩ = some (.int .i64 0) := (blk_cell BK115.out 1).trans rfl; have hcz11_2 : w10.cell? ⟨gb115, 2, none⟩ = some (.bool false) := (blk_cell BK115.out 2).trans rfl; have hcz11_3 : w10.cell? ⟨gb115, 3, none⟩ = some (.bool false) := (blk_cell BK115.out 3).trans rfl; have hcz11_4 : w10.cell? ⟨gb115, 4, none⟩ = some (.bool false) := (blk_cell BK115.out 4).trans rfl; have hfz11_0 := blk_frozen BK115.out 0; have hfz11_1 := blk_frozen BK115.out 1; have hfz11_2 := blk_frozen BK115.out 2; have hfz11_3 := blk_frozen BK115.out 3; have hfz11_4 := blk_frozen BK115.out 4) | ((with_reducible refine gate_store (t := 32) (p := 14) rfl ?_); refine store_event (t := 32) (p := 14) (v := ?vo_w12) (w1 := (((((w10.setCell ⟨gb115, 0, none⟩ (.int .i64 ((rd_T32 l0 x17_1).f0))).setCell ⟨gb115, 1, none⟩ (.int .i64 ((rd_T32 l0 x17_1).f1))).setCell ⟨gb115, 2, none⟩ (.bool ((rd_T32 l0 x17_1).f2.f0))).setCell ⟨gb115, 3, none⟩ (.bool ((rd_T32 l0 x17_1).f2.f1))).setCell ⟨gb115, 4, none⟩ (.bool ((rd_T32 l0 x17_1).f3)))) ?hg ?ho ?hn ?hr ?_; (case ho => rfl); (case hg => rfl); (case hn => rfl); (case hr => first | (go_simp; done) | (go_simp; rfl)); intro w12 hw; have n0_ : Aside0 (Kd.R k32 32 w12 w.heap.size (fun k_ => some k_ ≠ (u10 : Value).ownBlock ∧ some k_ ≠ (u11 : Value).ownBlock ∧ k_ ≠ gb115) u9 x9_1) := ⟨(by rw [hw]; exact (by (with_reducible repeat (first | apply Kd.R_alloc | apply Kd.R_drewN | apply Kd.R_drew)); exact Kd.R_mono (Kd.R_far (p := ⟨gb115, 4, none⟩) (Kd.R_far (p := ⟨gb115, 3, none⟩) (Kd.R_far (p := ⟨gb115, 2, none⟩) (Kd.R_far (p := ⟨gb115, 1, none⟩) (Kd.R_far (p := ⟨gb115, 0, none⟩) (Kd.R_mono HO_9.out (fun k_ hk => (⟨hk, hk.2⟩ : _ ∧ k_ ≠ gb115))) (fun _ hk => hk.2) (.int .i64 ((rd_T32 l0 x17_1).f0))) (fun _ hk => hk.2) (.int .i64 ((rd_T32 l0 x17_1).f1))) (fun _ hk => hk.2) (.bool ((rd_T32 l0 x17_1).f2.f0))) (fun _ hk => hk.2) (.bool ((rd_T32 l0 x17_1).f2.f1))) (fun _ hk => hk.2) (.bool ((rd_T32 l0 x17_1).f3))) (fun _ hk => ⟨hk.1.1.1, ⟨hk.1.1.2, hk.1.2⟩⟩)))⟩; have n1_ : Aside0 (Kd.R k32 32 w12 w.heap.size (fun k_ => some k_ ≠ (u9 : Value).ownBlock ∧ some k_ ≠ (u11 : Value).ownBlock ∧ k_ ≠ gb115) u10 x10_1) := ⟨(by rw [hw]; exact (by (with_reducible repeat (first | apply Kd.R_alloc | apply Kd.R_drewN | apply Kd.R_drew)); exact Kd.R_mono (Kd.R_far (p := ⟨gb115, 4, none⟩) (Kd.R_far (p := ⟨gb115, 3, none⟩) (Kd.R_far (p := ⟨gb115, 2, none⟩) (Kd.R_far (p := ⟨gb115, 1, none⟩) (Kd.R_far (p := ⟨gb115, 0, none⟩) (Kd.R_mono HO_10.out (fun k_ hk => (⟨hk, hk.2⟩ : _ ∧ k_ ≠ gb115))) (fun _ hk => hk.2) (.int .i64 ((rd_T32 l0 x17_1).f0))) (fun _ hk => hk.2) (.int .i64 ((rd_T32 l0 x17_1).f1))) (fun _ hk => hk.2) (.bool ((rd_T32 l0 x17_1).f2.f0))) (fun _ hk => hk.2) (.bool ((rd_T32 l0 x17_1).f2.f1))) (fun _ hk => hk.2) (.bool ((rd_T32 l0 x17_1).f3))) (fun _ hk => ⟨hk.1.1.1, ⟨hk.1.1.2, hk.1.2⟩⟩)))⟩; have n2_ : Aside0 (Kd.R k32 32 w12 w.heap.size (fun k_ => some k_ ≠ (u9 : Value).ownBlock ∧ some k_ ≠ (u10 : Value).ownBlock ∧ k_ ≠ gb115) u11 x11_1) := ⟨(by rw [hw]; exact (by (with_reducible repeat (first | apply Kd.R_alloc | apply Kd.R_drewN | apply Kd.R_drew)); exact Kd.R_mono (Kd.R_far (p := ⟨gb115, 4, none⟩) (Kd.R_far (p := ⟨gb115, 3, none⟩) (Kd.R_far (p := ⟨gb115, 2, none⟩) (Kd.R_far (p := ⟨gb115, 1, none⟩) (Kd.R_far (p := ⟨gb115, 0, none⟩) (Kd.R_mono HO_11.out (fun k_ hk => (⟨hk, hk.2⟩ : _ ∧ k_ ≠ gb115))) (fun _ hk => hk.2) (.int .i64 ((rd_T32 l0 x17_1).f0))) (fun _ hk => hk.2) (.int .i64 ((rd_T32 l0 x17_1).f1))) (fun _ hk => hk.2) (.bool ((rd_T32 l0 x17_1).f2.f0))) (fun _ hk => hk.2) (.bool ((rd_T32 l0 x17_1).f2.f1))) (fun _ hk => hk.2) (.bool ((rd_T32 l0 x17_1).f3))) (fun _ hk => ⟨hk.1.1.1, ⟨hk.1.1.2, hk.1.2⟩⟩)))⟩; have n3_ : Aside0 (w12.heap[gb115]? = some (.cells #[.int .i64 ((rd_T32 l0 x17_1).f0), .int .i64 ((rd_T32 l0 x17_1).f1), .bool ((rd_T32 l0 x17_1).f2.f0), .bool ((rd_T32 l0 x17_1).f2.f1), .bool ((rd_T32 l0 x17_1).f3)] 32 (0, 0))) := ⟨(by rw [hw]; exact (by (with_reducible repeat (first | refine blk_drewN ?_ _ | refine blk_drew ?_ | refine blk_alloc ?_ _)); refine blk_put (cs := #[.int .i64 ((rd_T32 l0 x17_1).f0), .int .i64 ((rd_T32 l0 x17_1).f1), .bool ((rd_T32 l0 x17_1).f2.f0), .bool ((rd_T32 l0 x17_1).f2.f1), .bool false]) ?_ 4 _ rfl; (with_reducible repeat (first | refine blk_drewN ?_ _ | refine blk_drew ?_ | refine blk_alloc ?_ _)); refine blk_put (cs := #[.int .i64 ((rd_T32 l0 x17_1).f0), .int .i64 ((rd_T32 l0 x17_1).f1), .bool ((rd_T32 l0 x17_1).f2.f0), .bool false, .bool false]) ?_ 3 _ rfl; (with_reducible repeat (first | refine blk_drewN ?_ _ | refine blk_drew ?_ | refine blk_alloc ?_ _)); refine blk_put (cs := #[.int .i64 ((rd_T32 l0 x17_1).f0), .int .i64 ((rd_T32 l0 x17_1).f1), .bool false, .bool false, .bool false]) ?_ 2 _ rfl; (with_reducible repeat (first | refine blk_drewN ?_ _ | refine blk_drew ?_ | refine blk_alloc ?_ _)); refine blk_put (cs := #[.int .i64 ((rd_T32 l0 x17_1).f0), .int .i64 0, .bool false, .bool false, .bool false]) ?_ 1 _ rfl; (with_reducible repeat (first | refine blk_drewN ?_ _ | refine blk_drew ?_ | refine blk_alloc ?_ _)); refine blk_put (cs := #[.int .i64 0, .int .i64 0, .bool false, .bool false, .bool false]) ?_ 0 _ rfl; (with_reducible repeat (first | refine blk_drewN ?_ _ | refine blk_drew ?_ | refine blk_alloc ?_ _)); exact BK115.out))⟩; have n4_ : Aside0 (Below w.heap.size w w12) := ⟨(by rw [hw]; exact (by repeat (first | (with_reducible first | exact HB.out | apply below_alloc | apply pw_below_drewN | apply below_drew1 | refine below_set ?_ GE115.out) | exact HB.out)))⟩; clear hw; clear HO_9; clear HO_10; clear HO_11; clear BK115; clear HB; have HO_9 := n0_; have HO_10 := n1_; have HO_11 := n2_; have BK115 := n3_; have HB := n4_; clear n0_ n1_ n2_ n3_ n4_; have hcz13_0 : w12.cell? ⟨gb115, 0, none⟩ = some (.int .i64 ((rd_T32 l0 x17_1).f0)) := (blk_cell BK115.out 0).trans rfl; have hcz13_1 : w12.cell? ⟨gb115, 1, none⟩ = some (.int .i64 ((rd_T32 l0 x17_1).f1)) := (blk_cell BK115.out 1).trans rfl; have hcz13_2 : w12.cell? ⟨gb115, 2, none⟩ = some (.bool ((rd_T32 l0 x17_1).f2.f0)) := (blk_cell BK115.out 2).trans rfl; have hcz13_3 : w12.cell? ⟨gb115, 3, none⟩ = some (.bool ((rd_T32 l0 x17_1).f2.f1)) := (blk_cell BK115.out 3).trans rfl; have hcz13_4 : w12.cell? ⟨gb115, 4, none⟩ = some (.bool ((rd_T32 l0 x17_1).f3)) := (blk_cell BK115.out 4).trans rfl; have hfz13_0 := blk_frozen BK115.out 0; have hfz13_1 := blk_frozen BK115.out 1; have hfz13_2 := blk_frozen BK115.out 2; have hfz13_3 := blk_frozen BK115.out 3; have hfz13_4 := blk_frozen BK115.out 4; obtain ⟨Ao14, co14, eo14⟩ := Kd.R_slice HO_9.out; subst eo14) | ((with_reducible refine HFn.gate_calleeT (f := 38) (t := 21) rfl ?_); refine HFn.goesT_ (some 25) rfl rfl Try.func38 (by kernel_rfl) rfl #[.slice Ao14 x9_1.length co14, .agg #[.int .i64 ((rd_T32 l0 x17_1).f0), .int .i64 ((rd_T32 l0 x17_1).f1), .bool ((rd_T32 l0 x17_1).f2.f0), .bool ((rd_T32 l0 x17_1).f2.f1), .bool ((rd_T32 l0 x17_1).f3)], .int .i64 0, .int .i64 a1] rfl (by first | rfl | simp [Act.eval]) (by (try simp only [List.map_toArray, List.map_cons, List.map_nil]); first | done | rfl | (simp only [List.length_drop, List.length_take]; rfl)) ?_; (with_reducible refine (area_parts_1.calls (fun k_ => some k_ = (.slice Ao14 x9_1.length co14 : Value).ownBlock) (.slice Ao14 x9_1.length co14) x9_1 ((rd_T32 l0 x17_1).f0) ((rd_T32 l0 x17_1).f1) ((rd_T32 l0 x17_1).f2.f0) ((rd_T32 l0 x17_1).f2.f1) ((rd_T32 l0 x17_1).f3) 0 a1 t116 w _ ?side1 ?side2 A7.out).mono ?_); (case side1 => repeat (first | (with_reducible first | exact HB.out | apply below_alloc | apply pw_below_drewN | apply below_drew1 | refine below_set ?_ GE115.out) | exact HB.out)); (case side2 => exact Kd.R_tight rfl HO_9.out); rintro e w15 ⟨v117, rfl, ho0, hb, hkp⟩; refine ⟨_, rfl, ?_⟩; have n0_ := Aside0.mk (Kd.R_mono (ok' := fun k_ => some k_ ≠ (u11 : Value).ownBlock ∧ k_ ≠ gb115 ∧ some k_ ≠ (v117 : Value).ownBlock) (Kd.R_keptB (HO_10.out) hkp (fun k_ hk_ hs_ => (hk_.1) hs_)) (fun k_ hk_ => ⟨hk_.1.2.1, hk_.1.2.2, fun e_ => Or.elim (ho0.1 k_ e_.symm) (fun hs_ => hk_.2.1 hs_) (fun hn_ => Nat.not_le.2 hk_.2.2 hn_)⟩)); have n1_ := Aside0.mk (Kd.R_mono (ok' := fun k_ => some k_ ≠ (u10 : Value).ownBlock ∧ k_ ≠ gb115 ∧ some k_ ≠ (v117 : Value).ownBlock) (Kd.R_keptB (HO_11.out) hkp (fun k_ hk_ hs_ => (hk_.1) hs_)) (fun k_ hk_ => ⟨hk_.1.2.1, hk_.1.2.2, fun e_ => Or.elim (ho0.1 k_ e_.symm) (fun hs_ => hk_.2.1 hs_) (fun hn_ => Nat.not_le.2 hk_.2.2 hn_)⟩)); have n2_ := Aside0.mk (blk_kept (by (with_reducible repeat (first | refine blk_drewN ?_ _ | refine blk_drew ?_ | refine blk_alloc ?_ _)); exact BK115.out) hkp (fun hs_ => (fun e_ => (Kd.R_away HO_9.out (fun _ hk => hk.2.2)) e_) hs_)); have n3_ := Aside0.mk (Kd.R_mono (ok' := fun k_ => some k_ ≠ (u10 : Value).ownBlock ∧ some k_ ≠ (u11 : Value).ownBlock ∧ k_ ≠ gb115) ho0 (fun k_ hk_ => ⟨Or.elim hk_ (fun hs_ => fun e_ => (((HO_10.out).1 k_ e_.symm).1) hs_) (fun hn_ => (Kd.fresh' (Kd.R_lt (by (with_reducible repeat (first | apply Kd.R_alloc | apply Kd.R_drewN | apply Kd.R_drew)); exact HO_10.out)) k_ hn_)), Or.elim hk_ (fun hs_ => fun e_ => (((HO_11.out).1 k_ e_.symm).1) hs_) (fun hn_ => (Kd.fresh' (Kd.R_lt (by (with_reducible repeat (first | apply Kd.R_alloc | apply Kd.R_drewN | apply Kd.R_drew)); exact HO_11.out)) k_ hn_)), Or.elim hk_ (fun hs_ => fun e_ => (Kd.R_away HO_9.out (fun _ hk => hk.2.2)) (by rw [← e_]; exact hs_)) (fun hn_ => (Kd.freshB (g := gb115) (o := .cells #[.int .i64 ((rd_T32 l0 x17_1).f0), .int .i64 ((rd_T32 l0 x17_1).f1), .bool ((rd_T32 l0 x17_1).f2.f0), .bool ((rd_T32 l0 x17_1).f2.f1), .bool ((rd_T32 l0 x17_1).f3)] 32 (0, 0)) (by (with_reducible repeat (first | refine blk_drewN ?_ _ | refine blk_drew ?_ | refine blk_alloc ?_ _)); exact BK115.out) k_ hn_))⟩)); have n4_ := Aside0.mk (hb); clear HO_10; clear HO_11; clear BK115; clear HB; clear HO_9; have HO_10 := n0_; have HO_11 := n1_; have BK115 := n2_; have HO118 := n3_; have HB := n4_; clear n0_ n1_ n2_ n3_ n4_; (try clear hb); (try clear hkp); (try clear ho0); have hcz16_0 : w15.cell? ⟨gb115, 0, none⟩ = some (.int .i64 ((rd_T32 l0 x17_1).f0)) := (blk_cell BK115.out 0).trans rfl; have hcz16_1 : w15.cell? ⟨gb115, 1, none⟩ = some (.int .i64 ((rd_T32 l0 x17_1).f1)) := (blk_cell BK115.out 1).trans rfl; have hcz16_2 : w15.cell? ⟨gb115, 2, none⟩ = some (.bool ((rd_T32 l0 x17_1).f2.f0)) := (blk_cell BK115.out 2).trans rfl; have hcz16_3 : w15.cell? ⟨gb115, 3, none⟩ = some (.bool ((rd_T32 l0 x17_1).f2.f1)) := (blk_cell BK115.out 3).trans rfl; have hcz16_4 : w15.cell? ⟨gb115, 4, none⟩ = some (.bool ((rd_T32 l0 x17_1).f3)) := (blk_cell BK115.out 4).trans rfl; have hfz16_0 := blk_frozen BK115.out 0; have hfz16_1 := blk_frozen BK115.out 1; have hfz16_2 := blk_frozen BK115.out 2; have hfz16_3 := blk_frozen BK115.out 3; have hfz16_4 := blk_frozen BK115.out 4; obtain ⟨Ao17, co17, eo17⟩ := Kd.R_slice HO_10.out; subst eo17) | ((with_reducible refine HFn.gate_calleeT (f := 38) (t := 26) rfl ?_); refine HFn.goesT_ (some 31) rfl rfl Try.func38 (by kernel_rfl) rfl #[.slice Ao17 x10_1.length co17, .agg #[.int .i64 ((rd_T32 l0 x17_1).f0), .int .i64 ((rd_T32 l0 x17_1).f1), .bool ((rd_T32 l0 x17_1).f2.f0), .bool ((rd_T32 l0 x17_1).f2.f1), .bool ((rd_T32 l0 x17_1).f3)], .int .i64 a1, .int .i64 a2] rfl (by first | rfl | simp [Act.eval]) (by (try simp only [List.map_toArray, List.map_cons, List.map_nil]); first | done | rfl | (simp only [List.length_drop, List.length_take]; rfl)) ?_; (with_reducible refine (area_parts_1.calls (fun k_ => some k_ = (.slice Ao17 x10_1.length co17 : Value).ownBlock) (.slice Ao17 x10_1.length co17) x10_1 ((rd_T32 l0 x17_1).f0) ((rd_T32 l0 x17_1).f1) ((rd_T32 l0 x17_1).f2.f0) ((rd_T32 l0 x17_1).f2.f1) ((rd_T32 l0 x17_1).f3) a1 a2 t119 w _ ?side1 ?side2 A8.out).mono ?_); (case side1 => repeat (first | (with_reducible first | exact HB.out | apply below_alloc | apply pw_below_drewN | apply below_drew1 | refine below_set ?_ GE115.out) | exact HB.out)); (case side2 => exact Kd.R_tight rfl HO_10.out); rintro e w18 ⟨v120, rfl, ho0, hb, hkp⟩; refine ⟨_, rfl, ?_⟩; have n0_ := Aside0.mk (Kd.R_mono (ok' := fun k_ => some k_ ≠ (v117 : Value).ownBlock ∧ k_ ≠ gb115 ∧ some k_ ≠ (v120 : Value).ownBlock) (Kd.R_keptB (HO_11.out) hkp (fun k_ hk_ hs_ => (hk_.1) hs_)) (fun k_ hk_ => ⟨hk_.1.2.2, hk_.1.2.1, fun e_ => Or.elim (ho0.1 k_ e_.symm) (fun hs_ => hk_.2.1 hs_) (fun hn_ => Nat.not_le.2 hk_.2.2 hn_)⟩)); have n1_ := Aside0.mk (blk_kept (by (with_reducible repeat (first | refine blk_drewN ?_ _ | refine blk_drew ?_ | refine blk_alloc ?_ _)); exact BK115.out) hkp (fun hs_ => (fun e_ => (Kd.R_away HO_10.out (fun _ hk => hk.2.1)) e_) hs_)); have n2_ := Aside0.mk (Kd.R_mono (ok' := fun k_ => some k_ ≠ (u11 : Value).ownBlock ∧ k_ ≠ gb115 ∧ some k_ ≠ (v120 : Value).ownBlock) (Kd.R_keptB (HO118.out) hkp (fun k_ hk_ hs_ => (hk_.1) hs_)) (fun k_ hk_ => ⟨hk_.1.2.1, hk_.1.2.2, fun e_ => Or.elim (ho0.1 k_ e_.symm) (fun hs_ => hk_.2.1 hs_) (fun hn_ => Nat.not_le.2 hk_.2.2 hn_)⟩)); have n3_ := Aside0.mk (Kd.R_mono (ok' := fun k_ => some k_ ≠ (u11 : Value).ownBlock ∧ some k_ ≠ (v117 : Value).ownBlock ∧ k_ ≠ gb115) ho0 (fun k_ hk_ => ⟨Or.elim hk_ (fun hs_ => fun e_ => (((HO_11.out).1 k_ e_.symm).1) hs_) (fun hn_ => (Kd.fresh' (Kd.R_lt (by (with_reducible repeat (first | apply Kd.R_alloc | apply Kd.R_drewN | apply Kd.R_drew)); exact HO_11.out)) k_ hn_)), Or.elim hk_ (fun hs_ => fun e_ => (((HO118.out).1 k_ e_.symm).1) hs_) (fun hn_ => (Kd.fresh' (Kd.R_lt (by (with_reducible repeat (first | apply Kd.R_alloc | apply Kd.R_drewN | apply Kd.R_drew)); exact HO118.out)) k_ hn_)), Or.elim hk_ (fun hs_ => fun e_ => (Kd.R_away HO_10.out (fun _ hk => hk.2.1)) (by rw [← e_]; exact hs_)) (fun hn_ => (Kd.freshB (g := gb115) (o := .cells #[.int .i64 ((rd_T32 l0 x17_1).f0), .int .i64 ((rd_T32 l0 x17_1).f1), .bool ((rd_T32 l0 x17_1).f2.f0), .bool ((rd_T32 l0 x17_1).f2.f1), .bool ((rd_T32 l0 x17_1).f3)] 32 (0, 0)) (by (with_reducible repeat (first | refine blk_drewN ?_ _ | refine blk_drew ?_ | refine blk_alloc ?_ _)); exact BK115.out) k_ hn_))⟩)); have n4_ := Aside0.mk (hb); clear HO_11; clear BK115; clear HO118; clear HB; clear HO_10; have HO_11 := n0_; have BK115 := n1_; have HO118 := n2_; have HO121 := n3_; have HB := n4_; clear n0_ n1_ n2_ n3_ n4_; (try clear hb); (try clear hkp); (try clear ho0); have hcz19_0 : w18.cell? ⟨gb115, 0, none⟩ = some (.int .i64 ((rd_T32 l0 x17_1).f0)) := (blk_cell BK115.out 0).trans rfl; have hcz19_1 : w18.cell? ⟨gb115, 1, none⟩ = some (.int .i64 ((rd_T32 l0 x17_1).f1)) := (blk_cell BK115.out 1).trans rfl; have hcz19_2 : w18.cell? ⟨gb115, 2, none⟩ = some (.bool ((rd_T32 l0 x17_1).f2.f0)) := (blk_cell BK115.out 2).trans rfl; have hcz19_3 : w18.cell? ⟨gb115, 3, none⟩ = some (.bool ((rd_T32 l0 x17_1).f2.f1)) := (blk_cell BK115.out 3).trans rfl; have hcz19_4 : w18.cell? ⟨gb115, 4, none⟩ = some (.bool ((rd_T32 l0 x17_1).f3)) := (blk_cell BK115.out 4).trans rfl; have hfz19_0 := blk_frozen BK115.out 0; have hfz19_1 := blk_frozen BK115.out 1; have hfz19_2 := blk_frozen BK115.out 2; have hfz19_3 := blk_frozen BK115.out 3; have hfz19_4 := blk_frozen BK115.out 4; obtain ⟨Ao20, co20, eo20⟩ := Kd.R_slice HO_11.out; subst eo20) | ((with_reducible refine HFn.gate_calleeT (f := 38) (t := 32) rfl ?_); refine HFn.goesT_ (some 36) rfl rfl Try.func38 (by kernel_rfl) rfl #[.slice Ao20 x11_1.length co20, .agg #[.int .i64 ((rd_T32 l0 x17_1).f0), .int .i64 ((rd_T32 l0 x17_1).f1), .bool ((rd_T32 l0 x17_1).f2.f0), .bool ((rd_T32 l0 x17_1).f2.f1), .bool ((rd_T32 l0 x17_1).f3)], .int .i64 a2, .int .i64 4096] rfl (by first | rfl | simp [Act.eval]) (by (try simp only [List.map_toArray, List.map_cons, List.map_nil]); first | done | rfl | (simp only [List.length_drop, List.length_take]; rfl)) ?_; (with_reducible refine (area_parts_1.calls (fun k_ => some k_ = (.slice Ao20 x11_1.length co20 : Value).ownBlock) (.slice Ao20 x11_1.length co20) x11_1 ((rd_T32 l0 x17_1).f0) ((rd_T32 l0 x17_1).f1) ((rd_T32 l0 x17_1).f2.f0) ((rd_T32 l0 x17_1).f2.f1) ((rd_T32 l0 x17_1).f3) a2 4096 t122 w _ ?side1 ?side2 A9.out).mono ?_); (case side1 => repeat (first | (with_reducible first | exact HB.out | apply below_alloc | apply pw_below_drewN | apply below_drew1 | refine below_set ?_ GE115.out) | exact HB.out)); (case side2 => exact Kd.R_tight rfl HO_11.out); rintro e w21 ⟨v123, rfl, ho0, hb, hkp⟩; refine ⟨_, rfl, ?_⟩; have n0_ := Aside0.mk (blk_kept (by (with_reducible repeat (first | refine blk_drewN ?_ _ | refine blk_drew ?_ | refine blk_alloc ?_ _)); exact BK115.out) hkp (fun hs_ => (fun e_ => (Kd.R_away HO_11.out (fun _ hk => hk.2.1)) e_) hs_)); have n1_ := Aside0.mk (Kd.R_mono (ok' := fun k_ => some k_ ≠ (v120 : Value).ownBlock ∧ k_ ≠ gb115 ∧ some k_ ≠ (v123 : Value).ownBlock) (Kd.R_keptB (HO118.out) hkp (fun k_ hk_ hs_ => (hk_.1) hs_)) (fun k_ hk_ => ⟨hk_.1.2.2, hk_.1.2.1, fun e_ => Or.elim (ho0.1 k_ e_.symm) (fun hs_ => hk_.2.1 hs_) (fun hn_ => Nat.not_le.2 hk_.2.2 hn_)⟩)); have n2_ := Aside0.mk (Kd.R_mono (ok' := fun k_ => some k_ ≠ (v117 : Value).ownBlock ∧ k_ ≠ gb115 ∧ some k_ ≠ (v123 : Value).ownBlock) (Kd.R_keptB (HO121.out) hkp (fun k_ hk_ hs_ => (hk_.1) hs_)) (fun k_ hk_ => ⟨hk_.1.2.1, hk_.1.2.2, fun e_ => Or.elim (ho0.1 k_ e_.symm) (fun hs_ => hk_.2.1 hs_) (fun hn_ => Nat.not_le.2 hk_.2.2 hn_)⟩)); have n3_ := Aside0.mk (Kd.R_mono (ok' := fun k_ => some k_ ≠ (v117 : Value).ownBlock ∧ some k_ ≠ (v120 : Value).ownBlock ∧ k_ ≠ gb115) ho0 (fun k_ hk_ => ⟨Or.elim hk_ (fun hs_ => fun e_ => (((HO118.out).1 k_ e_.symm).1) hs_) (fun hn_ => (Kd.fresh' (Kd.R_lt (by (with_reducible repeat (first | apply Kd.R_alloc | apply Kd.R_drewN | apply Kd.R_drew)); exact HO118.out)) k_ hn_)), Or.elim hk_ (fun hs_ => fun e_ => (((HO121.out).1 k_ e_.symm).1) hs_) (fun hn_ => (Kd.fresh' (Kd.R_lt (by (with_reducible repeat (first | apply Kd.R_alloc | apply Kd.R_drewN | apply Kd.R_drew)); exact HO121.out)) k_ hn_)), Or.elim hk_ (fun hs_ => fun e_ => (Kd.R_away HO_11.out (fun _ hk => hk.2.1)) (by rw [← e_]; exact hs_)) (fun hn_ => (Kd.freshB (g := gb115) (o := .cells #[.int .i64 ((rd_T32 l0 x17_1).f0), .int .i64 ((rd_T32 l0 x17_1).f1), .bool ((rd_T32 l0 x17_1).f2.f0), .bool ((rd_T32 l0 x17_1).f2.f1), .bool ((rd_T32 l0 x17_1).f3)] 32 (0, 0)) (by (with_reducible repeat (first | refine blk_drewN ?_ _ | refine blk_drew ?_ | refine blk_alloc ?_ _)); exact BK115.out) k_ hn_))⟩)); have n4_ := Aside0.mk (hb); clear BK115; clear HO118; clear HO121; clear HB; clear HO_11; have BK115 := n0_; have HO118 := n1_; have HO121 := n2_; have HO124 := n3_; have HB := n4_; clear n0_ n1_ n2_ n3_ n4_; (try clear hb); (try clear hkp); (try clear ho0)))
            go_roundg k1
            case measure => have := HK1.out; omega
            case rel => exact ⟨(t116), (t119), (t122), (wrap64 (x17_1 + 1)), (by first | rfl | (simp; done) | (simp [*]; done)), H', ⟨by have := HK1.out; omega⟩, ⟨by (with_reducible repeat (first | apply Kd.R_alloc | apply Kd.R_drewN | apply Kd.R_drew)); exact Kd.R_mono HO118.out (fun _ hk => ⟨hk.1, hk.2.2⟩)⟩, ⟨by (with_reducible repeat (first | apply Kd.R_alloc | apply Kd.R_drewN | apply Kd.R_drew)); exact Kd.R_mono HO121.out (fun _ hk => ⟨hk.1, hk.2.2⟩)⟩, ⟨by (with_reducible repeat (first | apply Kd.R_alloc | apply Kd.R_drewN | apply Kd.R_drew)); exact Kd.R_mono HO124.out (fun _ hk => ⟨hk.1, hk.2.1⟩)⟩, ⟨by repeat (first | (with_reducible first | exact HB.out | apply below_alloc | apply pw_below_drewN | apply below_drew1 | refine below_set ?_ GE115.out) | exact HB.out)⟩⟩
          · rw [if_neg c6] at H
            exact absurd H (by simp)
        · rw [if_neg c5] at H
          exact absurd H (by simp)
      · rw [if_neg c4] at H
        have c4b0 : decide (x17_1 < (l0.length : Int)) = false := decide_eq_false c4
        clear c4
        simp only [Option.some.injEq, Prod.mk.injEq] at H
        obtain ⟨rfl, rfl, rfl⟩ := H
        go_wp2
        go_ret3
        exact ⟨_, _, _, by first | rfl | (simp [errW_none, errW_some] <;> rfl) | (simp [*, errW_none, errW_some] <;> rfl), by (with_reducible repeat (first | apply Kd.R_alloc | apply Kd.R_drewN | apply Kd.R_drew)); exact HO_9.out, by (with_reducible repeat (first | apply Kd.R_alloc | apply Kd.R_drewN | apply Kd.R_drew)); exact HO_10.out, by (with_reducible repeat (first | apply Kd.R_alloc | apply Kd.R_drewN | apply Kd.R_drew)); exact HO_11.out, by repeat (first | (with_reducible first | exact HB.out | apply below_alloc | apply pw_below_drewN | apply below_drew1) | exact HB.out)⟩

/-! ### slices.Grow of nil: function 42 -/
def api_Area_42.f (a1 : Int) : Option (List (S32)) := if 0 ≤ a1 then (if a1 < 1000000 then some [] else none) else none
set_option maxHeartbeats 4000000 in
theorem api_Area_42.calls (a1 : Int) (r : List (S32)) (w : World) (h : api_Area_42.f a1 = some r) :
    Calls Try.prog 42 #[.slice none 0 0, .int .i64 a1] w fun e w' => ∃ v0_ : Value, e = .returned v0_ ∧ Kd.R k32 32 w' w.heap.size (fun _ => True) v0_ r ∧ Below w.heap.size w w' := by
  unfold api_Area_42.f at h
  by_cases c1 : 0 ≤ a1
  · rw [if_pos c1] at h
    by_cases c2 : a1 < 1000000
    · rw [if_pos c2] at h
      obtain rfl := Option.some.inj h
      clear h
      have b1 : decide (a1 < 0) = false := decide_eq_false (by omega)
      by_cases c3 : a1 = 0
      · subst c3
        go_enter Try.func42, Try.ntmps42
        go_wp2
        go_ret
        exact ⟨_, rfl, Kd.R_nil _ _ _ _ _, Below.refl _ _⟩
      · have b2 : decide (0 < a1) = true := decide_eq_true (by omega)
        have e0 : wrap64 (a1 - 0) = a1 := by unfold wrap64; omega
        have e1 : wrap64 a1 = a1 := by unfold wrap64; omega
        clear c3
        go_enter Try.func42, Try.ntmps42
        go_wp2_with (first | (at_builtin; refine Kd.R_append_zeros k32 (w0 := w) w.heap.size rfl (.tmp 20) (.tmp 21) 22 3 32 (.agg #[(.int .i64 0), (.int .i64 0), (.bool false), (.bool false), (.bool false)]) 24 rfl Try.underlying22 Try.underlying3 info32 rfl (by decide) (by omega) (.slice none 0 0) [] z32 (a1 : Int) (fun _ => True) rfl rfl (k32_mkM _ _ _ z32) ?aF ?aO c1 ?aB ?aS ?aL ?_; (case aB => exact Below.refl _ _); (case aF => exact fun _ _ => trivial); (case aO => exact Kd.R_nil _ _ _ _ _); (case aS => exact Nat.le_refl _); (case aL => have hlx : ([] : List S32).length = 0 := rfl; omega); intro v1 w1 ho hb hg hat; obtain ⟨A1, n1, rfl⟩ := Kd.R_slice ho))
        go_ret
        exact ⟨_, rfl, Kd.R_take (m := 0) ho (Nat.zero_le _), hb⟩
    · rw [if_neg c2] at h; cases h
  · rw [if_neg c1] at h; cases h


/-! ### api_Area_39: function 39 -/
mutual
def api_Area_39.l0 : Nat → List (List (S32)) → Int → List (List (S32)) → Int → Int → Option ((List (S32)))
  | 0, _, _, _, _, _ => none
  | k + 1, x0, x3, x9, x10, x11 => if x11 < x10 then (if 0 ≤ x11 then (if x11 < (x9.length : Int) then (if (wrap64 (x3 + ((rd_L4 x9 x11).length : Int))) < 0 then (none) else (api_Area_39.l0 k x0 (wrap64 (x3 + ((rd_L4 x9 x11).length : Int))) x9 x10 (wrap64 (x11 + 1)))) else (none)) else (none)) else ((api_Area_42.f x3).bind fun t126 => (api_Area_39.l1 k t126 x0 (x0.length : Int) 0))
def api_Area_39.l1 : Nat → List (S32) → List (List (S32)) → Int → Int → Option ((List (S32)))
  | 0, _, _, _, _ => none
  | k + 1, x6, x25, x26, x27 => if x27 < x26 then (if 0 ≤ x27 then (if x27 < (x25.length : Int) then (if x6.length + (rd_L4 x25 x27).length < 5864062014805 then (api_Area_39.l1 k (x6 ++ (rd_L4 x25 x27)) x25 x26 (wrap64 (x27 + 1))) else (none)) else (none)) else (none)) else (some x6)
end
def api_Area_39.f (k : Nat) (l0 : List (List (S32))) : Option ((List (S32))) := api_Area_39.l0 k l0 0 l0 (l0.length : Int) 0
theorem api_Area_39.mono_l : ∀ k, (∀ y0 y1 y2 y3 y4, LeO (api_Area_39.l0 k y0 y1 y2 y3 y4) (api_Area_39.l0 (k + 1) y0 y1 y2 y3 y4)) ∧ (∀ y0 y1 y2 y3, LeO (api_Area_39.l1 k y0 y1 y2 y3) (api_Area_39.l1 (k + 1) y0 y1 y2 y3))
  | 0 => ⟨fun _ _ _ _ _ r h => by simp [api_Area_39.l0] at h, fun _ _ _ _ r h => by simp [api_Area_39.l1] at h⟩
  | k + 1 => by
    obtain ⟨ih0, ih1⟩ := api_Area_39.mono_l k
    refine ⟨?_, ?_⟩
    · intro y0 y1 y2 y3 y4
      unfold api_Area_39.l0
      repeat' first
      | (with_reducible exact ih0 _ _ _ _ _)
      | (with_reducible exact ih1 _ _ _ _)
      | (with_reducible exact LeO.refl _)
      | (with_reducible exact LeO.none _)
      | (with_reducible refine LeO.ite ?_ ?_)
      | (with_reducible refine LeO.bind ?_ (fun _ => ?_))
      | exact ih0 _ _ _ _ _
      | exact ih1 _ _ _ _
      | exact LeO.none _
      | refine LeO.ite ?_ ?_
      | refine LeO.bind ?_ (fun _ => ?_)
    · intro y0 y1 y2 y3
      unfold api_Area_39.l1
      repeat' first
      | (with_reducible exact ih0 _ _ _ _ _)
      | (with_reducible exact ih1 _ _ _ _)
      | (with_reducible exact LeO.refl _)
      | (with_reducible exact LeO.none _)
      | (with_reducible refine LeO.ite ?_ ?_)
      | (with_reducible refine LeO.bind ?_ (fun _ => ?_))
      | exact ih0 _ _ _ _ _
      | exact ih1 _ _ _ _
      | exact LeO.none _
      | refine LeO.ite ?_ ?_
      | refine LeO.bind ?_ (fun _ => ?_)
theorem api_Area_39.mono : ∀ a0 k, LeO (api_Area_39.f k a0) (api_Area_39.f (k + 1) a0) := by
  intro a0 k
  obtain ⟨ih0, ih1⟩ := api_Area_39.mono_l k
  unfold api_Area_39.f
  repeat' first
      | (with_reducible exact ih0 _ _ _ _ _)
      | (with_reducible exact ih1 _ _ _ _)
      | (with_reducible exact LeO.refl _)
      | (with_reducible exact LeO.none _)
      | (with_reducible refine LeO.ite ?_ ?_)
      | (with_reducible refine LeO.bind ?_ (fun _ => ?_))
      | exact ih0 _ _ _ _ _
      | exact ih1 _ _ _ _
      | exact LeO.none _
      | refine LeO.ite ?_ ?_
      | refine LeO.bind ?_ (fun _ => ?_)
set_option maxHeartbeats 8000000 in
set_option maxRecDepth 100000 in
theorem api_Area_39.calls (k : Nat) (A0 : Option Addr) (c0 : Nat) (l0 : List (List (S32))) (r : List (S32)) (w : World) (hr0 : Kd.C (Kd.slice 32 k32) w A0 l0.length l0) (hc0 : l0.length ≤ c0) (h : api_Area_39.f k l0 = some r) :
    Calls Try.prog 39 #[.slice A0 l0.length c0] w fun e w' => ∃ v0_ : Value, e = .returned (v0_) ∧ Kd.R k32 32 w' w.heap.size (fun _ => True) v0_ r ∧ Below w.heap.size w w' := by
  have HR0 := Aside0.mk hr0
  have HC0 := Aside0.mk hc0
  clear hr0 hc0
  have HB := Aside0.mk (Below.refl w.heap.size w)
  have H : (api_Area_39.l0 k l0 0 l0 (l0.length : Int) 0) = some r := h
  clear h
  have H' := Aside0.mk H
  clear H
  go_enter Try.func39, Try.ntmps39
  go_wp2
  go_loopg [3, 11] k (fun kq v3 v11 w' => ∃ (x3_1 : Int) (x11_1 : Int), v3 = .int .i64 x3_1 ∧ v11 = .int .i64 x11_1 ∧ Aside0 (api_Area_39.l0 kq l0 x3_1 l0 (l0.length : Int) x11_1 = some r) ∧ Aside0 (kq ≤ k) ∧ Aside0 (Below w.heap.size w w'))
  case atStart => exact ⟨(0), (0), (by first | rfl | (simp; done) | (simp [*]; done)), (by first | rfl | (simp; done) | (simp [*]; done)), H', ⟨Nat.le_refl _⟩, ⟨by repeat (first | (with_reducible first | exact HB.out | apply below_alloc | apply pw_below_drewN | apply below_drew1) | exact HB.out)⟩⟩
  case round =>
    clear H'
    obtain ⟨x3_1, x11_1, rfl, rfl, HA, HK1, HB⟩ := hrel
    cases gk with
    | zero => exact absurd HA.out (by simp [api_Area_39.l0])
    | succ k1 =>
      have H := HA.out
      clear HA
      simp only [api_Area_39.l0] at H
      by_cases c2 : x11_1 < (l0.length : Int)
      · rw [if_pos c2] at H
        have c2b0 : decide (x11_1 < (l0.length : Int)) = true := decide_eq_true c2
        clear c2
        by_cases c3 : 0 ≤ x11_1
        · rw [if_pos c3] at H
          have c3b0 : decide (0 ≤ x11_1) = true := decide_eq_true c3
          clear c3
          by_cases c4 : x11_1 < (l0.length : Int)
          · rw [if_pos c4] at H
            have c4b0 : decide (x11_1 < (l0.length : Int)) = true := decide_eq_true c4
            clear c4
            by_cases c5 : (wrap64 (x3_1 + ((rd_L4 l0 x11_1).length : Int))) < 0
            · rw [if_pos c5] at H
              exact absurd H (by simp)
            · rw [if_neg c5] at H
              have c5b0 : decide ((wrap64 (x3_1 + ((rd_L4 l0 x11_1).length : Int))) < 0) = false := decide_eq_false c5
              clear c5
              have H' := Aside0.mk H
              clear H
              have p125 : 0 ≤ (x11_1 : Int) := of_decide_eq_true (by first | (with_reducible assumption) | assumption)
              have q125 : x11_1 < (l0.length : Int) := of_decide_eq_true (by first | (with_reducible assumption) | assumption)
              obtain ⟨ad125, A125_0, c125_0, e125, hx125_0, hl125_0, hi125_0⟩ := at_L4 HR0.out x11_1 p125 q125
              cases e125
              replace hx125_0 := (HB.out.cell (World.block_lt_of_cell? w _ hx125_0)).trans hx125_0
              have HR125_0 := Aside0.mk hi125_0
              have HC125_0 := Aside0.mk hl125_0
              clear hi125_0 hl125_0
              replace p125 := eq_true p125
              replace q125 := eq_true q125
              go_wp2
              go_roundg k1
              case measure => have := HK1.out; omega
              case rel => exact ⟨(wrap64 (x3_1 + ((rd_L4 l0 x11_1).length : Int))), (wrap64 (x11_1 + 1)), (by first | rfl | (simp; done) | (simp [*]; done)), (by first | rfl | (simp; done) | (simp [*]; done)), H', ⟨by have := HK1.out; omega⟩, ⟨by repeat (first | (with_reducible first | exact HB.out | apply below_alloc | apply pw_below_drewN | apply below_drew1) | exact HB.out)⟩⟩
          · rw [if_neg c4] at H
            exact absurd H (by simp)
        · rw [if_neg c3] at H
          exact absurd H (by simp)
      · rw [if_neg c2] at H
        have c2b0 : decide (x11_1 < (l0.length : Int)) = false := decide_eq_false c2
        clear c2
        replace H := Option.bind_eq_some_iff.mp H
        obtain ⟨t126, A60, H⟩ := H
        replace H : (api_Area_39.l1 k1 t126 l0 (l0.length : Int) 0) = some r := H
        have A6 := Aside0.mk A60
        clear A60
        have H' := Aside0.mk H
        clear H
        go_wp2_with (first | ((with_reducible refine gate_callee (f := 42) rfl ?_); refine goesL_ (some 24) rfl rfl Try.func42 (by kernel_rfl) rfl #[.slice none 0 0, .int .i64 x3_1] rfl (by (try simp only [List.map_toArray, List.map_cons, List.map_nil]); first | done | rfl | (simp only [List.length_drop, List.length_take]; rfl)) ?_; (with_reducible refine (api_Area_42.calls x3_1 t126 _ A6.out).mono ?_); rintro e w7 ⟨v127, rfl, ho0, hb⟩; refine ⟨_, rfl, ?_⟩; have n0_ := Aside0.mk (Kd.R_lower ho0 (below_size (by repeat (first | (with_reducible first | exact HB.out | apply below_alloc | apply pw_below_drewN | apply below_drew1) | exact HB.out)))); have n1_ := Aside0.mk (below_step (by repeat (first | (with_reducible first | exact HB.out | apply below_alloc | apply pw_below_drewN | apply below_drew1) | exact HB.out)) hb); clear HB; have HO128 := n0_; have HB := n1_; clear n0_ n1_; (try clear hb); (try clear hb2); (try clear hk); (try clear hi); (try clear ho0)))
        go_loopg [6, 27] k1 (fun kq v6 v27 w' => ∃ (x6_2 : List (S32)) (x27_2 : Int), v27 = .int .i64 x27_2 ∧ Aside0 (api_Area_39.l1 kq x6_2 l0 (l0.length : Int) x27_2 = some r) ∧ Aside0 (kq ≤ k1) ∧ Aside0 (Kd.R k32 32 w' w.heap.size (fun _ => True) v6 x6_2) ∧ Aside0 (Below w.heap.size w w'))
        case atStart => exact ⟨(t126), (0), (by first | rfl | (simp; done) | (simp [*]; done)), H', ⟨Nat.le_refl _⟩, ⟨by (with_reducible repeat (first | apply Kd.R_alloc | apply Kd.R_drewN | apply Kd.R_drew)); exact HO128.out⟩, ⟨by repeat (first | (with_reducible first | exact HB.out | apply below_alloc | apply pw_below_drewN | apply below_drew1) | exact HB.out)⟩⟩
        case round =>
          clear H'
          try clear c1
          try clear p1
          try clear q1
          try clear hx1
          try clear c2
          try clear c2b0
          try clear p2
          try clear c3
          try clear c3b0
          try clear c4
          try clear c4b0
          try clear c5
          try clear c5b0
          try clear p6
          try clear hx125_0
          try clear p125
          try clear q125
          obtain ⟨x6_2, x27_2, rfl, HA, HK2, HO_6, HB⟩ := hrel
          cases gk with
          | zero => exact absurd HA.out (by simp [api_Area_39.l1])
          | succ k2 =>
            have H := HA.out
            clear HA
            simp only [api_Area_39.l1] at H
            by_cases c8 : x27_2 < (l0.length : Int)
            · rw [if_pos c8] at H
              have c8b0 : decide (x27_2 < (l0.length : Int)) = true := decide_eq_true c8
              clear c8
              by_cases c9 : 0 ≤ x27_2
              · rw [if_pos c9] at H
                have c9b0 : decide (0 ≤ x27_2) = true := decide_eq_true c9
                clear c9
                by_cases c10 : x27_2 < (l0.length : Int)
                · rw [if_pos c10] at H
                  have c10b0 : decide (x27_2 < (l0.length : Int)) = true := decide_eq_true c10
                  clear c10
                  by_cases c11 : x6_2.length + (rd_L4 l0 x27_2).length < 5864062014805
                  · rw [if_pos c11] at H
                    have LMc11 := Aside0.mk c11
                    clear c11
                    obtain ⟨y130, hy130⟩ : ∃ y_ : List (S32), y_ = (x6_2 ++ (rd_L4 l0 x27_2)) := ⟨_, rfl⟩
                    replace H : (api_Area_39.l1 k2 y130 l0 (l0.length : Int) (wrap64 (x27_2 + 1))) = some r := by first | (rw [hy130]; with_reducible exact H) | (have H2_ := (Option.bind_some _ _).symm.trans H; rw [hy130]; with_reducible exact H2_) | (have H2_ := (Option.bind_some _ _).symm.trans H; with_reducible exact H2_) | with_reducible exact H | (rw [hy130]; exact H) | exact H
                    have Ny130 := Aside0.mk hy130
                    clear hy130
                    have H' := Aside0.mk H
                    clear H
                    have p129 : 0 ≤ (x27_2 : Int) := of_decide_eq_true (by first | (with_reducible assumption) | assumption)
                    have q129 : x27_2 < (l0.length : Int) := of_decide_eq_true (by first | (with_reducible assumption) | assumption)
                    obtain ⟨ad129, A129_0, c129_0, e129, hx129_0, hl129_0, hi129_0⟩ := at_L4 HR0.out x27_2 p129 q129
                    cases e129
                    replace hx129_0 := (HB.out.cell (World.block_lt_of_cell? w _ hx129_0)).trans hx129_0
                    have HR129_0 := Aside0.mk hi129_0
                    have HC129_0 := Aside0.mk hl129_0
                    clear hi129_0 hl129_0
                    replace p129 := eq_true p129
                    replace q129 := eq_true q129
                    go_wp2_with (first | ((with_reducible refine gate_builtin (b := .append) (xs := #[.tmp 31, .tmp 32]) rfl ?_); at_builtin; refine Kd.R_append_rows k32 (w0 := w) w.heap.size rfl (.tmp 31) (.tmp 32) 22 32 (.agg #[(.int .i64 0), (.int .i64 0), (.bool false), (.bool false), (.bool false)]) 24 rfl Try.underlying22 info32 rfl (by decide) (by omega) u6 x6_2 (rd_L4 l0 x27_2) _ _ _ (fun _ => True) (fun _ => False) rfl rfl ?aO ?aR (fun _ _ h => h) (fun _ h => h.elim) ?aF ?aB ?aS ?aL ?_; (case aR => repeat (first | exact (Kd.C_below HR129_0.out HB.out) | (with_reducible refine Kd.C_alloc ?_ _) | (with_reducible refine Kd.C_drewN ?_ _) | (with_reducible refine Kd.C_drew ?_))); (case aB => exact (by repeat (first | (with_reducible first | exact HB.out | apply below_alloc | apply pw_below_drewN | apply below_drew1) | exact HB.out))); (case aF => exact (fun _ _ => trivial)); (case aO => exact (by (with_reducible repeat (first | apply Kd.R_alloc | apply Kd.R_drewN | apply Kd.R_drew)); exact HO_6.out)); (case aS => exact (below_size (by repeat (first | (with_reducible first | exact HB.out | apply below_alloc | apply pw_below_drewN | apply below_drew1) | exact HB.out)))); (case aL => have := LMc11.out; omega); intro v131 w12 ho hb hg hat; rw [← Ny130.out] at ho; have n0_ := Aside0.mk (hb); have n1_ := Aside0.mk (ho); clear HB; clear HO_6; have HB := n0_; have HO132 := n1_; clear n0_ n1_; clear ho hb hg hat))
                    go_roundg k2
                    case measure => have := HK1.out; have := HK2.out; omega
                    case rel => exact ⟨(y130), (wrap64 (x27_2 + 1)), (by first | rfl | (simp; done) | (simp [*]; done)), H', ⟨by have := HK1.out; have := HK2.out; omega⟩, ⟨by (with_reducible repeat (first | apply Kd.R_alloc | apply Kd.R_drewN | apply Kd.R_drew)); exact HO132.out⟩, ⟨by repeat (first | (with_reducible first | exact HB.out | apply below_alloc | apply pw_below_drewN | apply below_drew1) | exact HB.out)⟩⟩
                  · rw [if_neg c11] at H
                    exact absurd H (by simp)
                · rw [if_neg c10] at H
                  exact absurd H (by simp)
              · rw [if_neg c9] at H
                exact absurd H (by simp)
            · rw [if_neg c8] at H
              have c8b0 : decide (x27_2 < (l0.length : Int)) = false := decide_eq_false c8
              clear c8
              obtain rfl := Option.some.inj H
              go_wp2
              go_ret
              exact ⟨_, by first | rfl | (simp [errW_none, errW_some] <;> rfl) | (simp [*, errW_none, errW_some] <;> rfl), by (with_reducible repeat (first | apply Kd.R_alloc | apply Kd.R_drewN | apply Kd.R_drew)); exact HO_6.out, by repeat (first | (with_reducible first | exact HB.out | apply below_alloc | apply pw_below_drewN | apply below_drew1) | exact HB.out)⟩

end Go.Proofs.Ytlmjjkggoemabab.Q
