-- Written by this session's program wip/tools/xprint.py (the kit's printer, turned by it); not the kit's own print.
import Derived.Test.YtlmjjkggoemababQx0
import Derived.Test.YtlmjjkggoemababQx4
import Derived.Test.YtlmjjkggoemababQx6
namespace Go.Proofs.Ytlmjjkggoemabab.Q
open Go.RowKit Go.Proofs.YtlmjjkggoemababW.PrintWords Go.Proofs.YtlmjjkggoemababW.PrintLast Go.Proofs.YtlmjjkggoemababW.PrintMore
attribute [local go_sem] max2_int min2_int max_two min_two max_three min_three max_four min_four   -- for this text's walks alone
set_option linter.unusedVariables false
set_option linter.unusedSimpArgs false

attribute [local go_sem high] eqErr_some neErr_some eqErr_left neErr_left
/-! ### area_joined: function 32 -/
mutual
def area_joined.l0 : Nat → List (S32) → List (S32) → Int → Int → Option ((List (S32)) × Option Int)
  | 0, _, _, _, _ => none
  | k + 1, x4, x9, x10, x11 => if x11 < x10 then (if 0 ≤ x11 then (if x11 < (x9.length : Int) then (if (x4.length : Int) > 0 then (if 0 ≤ (wrap64 ((x4.length : Int) - 1)) then (if (wrap64 ((x4.length : Int) - 1)) < (x4.length : Int) then (if ((rd_T32 x4 (wrap64 ((x4.length : Int) - 1))).f1) = ((rd_T32 x9 x11).f0) then ((area_alike.f ((rd_T32 x4 (wrap64 ((x4.length : Int) - 1))).f0) ((rd_T32 x4 (wrap64 ((x4.length : Int) - 1))).f1) ((rd_T32 x4 (wrap64 ((x4.length : Int) - 1))).f2.f0) ((rd_T32 x4 (wrap64 ((x4.length : Int) - 1))).f2.f1) ((rd_T32 x4 (wrap64 ((x4.length : Int) - 1))).f3) ((rd_T32 x9 x11).f0) ((rd_T32 x9 x11).f1) ((rd_T32 x9 x11).f2.f0) ((rd_T32 x9 x11).f2.f1) ((rd_T32 x9 x11).f3)).bind fun t140 => (area_joined.j1 k x4 (x4.length : Int) x9 x10 x11 t140 ((rd_T32 x9 x11).f0) ((rd_T32 x9 x11).f1) ((rd_T32 x9 x11).f2.f0) ((rd_T32 x9 x11).f2.f1) ((rd_T32 x9 x11).f3))) else (area_joined.j1 k x4 (x4.length : Int) x9 x10 x11 false ((rd_T32 x9 x11).f0) ((rd_T32 x9 x11).f1) ((rd_T32 x9 x11).f2.f0) ((rd_T32 x9 x11).f2.f1) ((rd_T32 x9 x11).f3))) else (none)) else (none)) else (area_joined.j1 k x4 (x4.length : Int) x9 x10 x11 false ((rd_T32 x9 x11).f0) ((rd_T32 x9 x11).f1) ((rd_T32 x9 x11).f2.f0) ((rd_T32 x9 x11).f2.f1) ((rd_T32 x9 x11).f3))) else (none)) else (none)) else (if (x4.length : Int) > 64 then (some (([] : List (S32)), some 5)) else (some (x4, none)))
def area_joined.j1 : Nat → List (S32) → Int → List (S32) → Int → Int → Bool → Int → Int → Bool → Bool → Bool → Option ((List (S32)) × Option Int)
  | 0, _, _, _, _, _, _, _, _, _, _, _ => none
  | k + 1, x4, x7, x9, x10, x11, x38, x138000, x138001, x138002, x138003, x138004 => if x38 = true then (if 0 ≤ (wrap64 (x7 - 1)) then (if (wrap64 (x7 - 1)) < (x4.length : Int) then (area_joined.l0 k (x4.set ((wrap64 (x7 - 1)) : Int).toNat (⟨(rd_T32 x4 (wrap64 (x7 - 1))).f0, x138001, (⟨(rd_T32 x4 (wrap64 (x7 - 1))).f2.f0, (rd_T32 x4 (wrap64 (x7 - 1))).f2.f1⟩ : S30), (rd_T32 x4 (wrap64 (x7 - 1))).f3⟩ : S32)) x9 x10 (wrap64 (x11 + 1))) else (none)) else (none)) else (if x4.length < 5864062014805 then (area_joined.l0 k (x4 ++ [(⟨x138000, x138001, (⟨x138002, x138003⟩ : S30), x138004⟩ : S32)]) x9 x10 (wrap64 (x11 + 1))) else (none))
end
def area_joined.f (k : Nat) (l0 : List (List (S32))) : Option ((List (S32)) × Option Int) := (api_Area_39.f k l0).bind fun t133 => (area_joined.l0 k ([] : List (S32)) t133 (t133.length : Int) 0)
theorem area_joined.mono_l : ∀ k, (∀ y0 y1 y2 y3, LeO (area_joined.l0 k y0 y1 y2 y3) (area_joined.l0 (k + 1) y0 y1 y2 y3)) ∧ (∀ y0 y1 y2 y3 y4 y5 y6 y7 y8 y9 y10, LeO (area_joined.j1 k y0 y1 y2 y3 y4 y5 y6 y7 y8 y9 y10) (area_joined.j1 (k + 1) y0 y1 y2 y3 y4 y5 y6 y7 y8 y9 y10))
  | 0 => ⟨fun _ _ _ _ r h => by simp [area_joined.l0] at h, fun _ _ _ _ _ _ _ _ _ _ _ r h => by simp [area_joined.j1] at h⟩
  | k + 1 => by
    obtain ⟨ih0, ih1⟩ := area_joined.mono_l k
    refine ⟨?_, ?_⟩
    · intro y0 y1 y2 y3
      unfold area_joined.l0
      repeat' first
      | (with_reducible exact ih0 _ _ _ _)
      | (with_reducible exact ih1 _ _ _ _ _ _ _ _ _ _ _)
      | (with_reducible exact api_Area_39.mono _ _)
      | (with_reducible exact LeO.refl _)
      | (with_reducible exact LeO.none _)
      | (with_reducible refine LeO.ite ?_ ?_)
      | (with_reducible refine LeO.bind ?_ (fun _ => ?_))
      | exact ih0 _ _ _ _
      | exact ih1 _ _ _ _ _ _ _ _ _ _ _
      | exact api_Area_39.mono _ _
      | exact LeO.none _
      | refine LeO.ite ?_ ?_
      | refine LeO.bind ?_ (fun _ => ?_)
    · intro y0 y1 y2 y3 y4 y5 y6 y7 y8 y9 y10
      unfold area_joined.j1
      repeat' first
      | (with_reducible exact ih0 _ _ _ _)
      | (with_reducible exact ih1 _ _ _ _ _ _ _ _ _ _ _)
      | (with_reducible exact api_Area_39.mono _ _)
      | (with_reducible exact LeO.refl _)
      | (with_reducible exact LeO.none _)
      | (with_reducible refine LeO.ite ?_ ?_)
      | (with_reducible refine LeO.bind ?_ (fun _ => ?_))
      | exact ih0 _ _ _ _
      | exact ih1 _ _ _ _ _ _ _ _ _ _ _
      | exact api_Area_39.mono _ _
      | exact LeO.none _
      | refine LeO.ite ?_ ?_
      | refine LeO.bind ?_ (fun _ => ?_)
theorem area_joined.mono : ∀ a0 k, LeO (area_joined.f k a0) (area_joined.f (k + 1) a0) := by
  intro a0 k
  obtain ⟨ih0, ih1⟩ := area_joined.mono_l k
  unfold area_joined.f
  repeat' first
      | (with_reducible exact ih0 _ _ _ _)
      | (with_reducible exact ih1 _ _ _ _ _ _ _ _ _ _ _)
      | (with_reducible exact api_Area_39.mono _ _)
      | (with_reducible exact LeO.refl _)
      | (with_reducible exact LeO.none _)
      | (with_reducible refine LeO.ite ?_ ?_)
      | (with_reducible refine LeO.bind ?_ (fun _ => ?_))
      | exact ih0 _ _ _ _
      | exact ih1 _ _ _ _ _ _ _ _ _ _ _
      | exact api_Area_39.mono _ _
      | exact LeO.none _
      | refine LeO.ite ?_ ?_
      | refine LeO.bind ?_ (fun _ => ?_)
def area_joined.T6 : Bool × List (List Nat × List Nat) := (true, [([], []), ([0], [0]), ([1], [1]), ([2], [2]), ([2], [2]), ([4, 2], [2, 4]), ([3, 5, 2], [2, 3, 5]), ([6, 2], [2, 6]), ([7, 2], [2, 7]), ([2], [2]), ([9, 2], [2, 9]), ([8, 10, 2], [2, 8, 10]), ([2, 11], [2, 11]), ([12, 2], [12]), ([13], [13]), ([13], [13]), ([15, 13], [13, 15]), ([14, 16, 13], [13, 14, 16]), ([17, 13], [13, 17]), ([13], [13]), ([18, 19, 13, 13], [13, 18, 19]), ([13, 20], [13, 20])])
def area_joined.B6 : List Nat := [0, 1, 3, 7, 7, 23, 63, 127, 255, 7, 519, 2047, 4095, 8191, 16383, 16383, 49151, 131071, 262143, 16383, 1048575, 2097151]
theorem area_joined.tab6 : rtab .any (opsOf Try.f32 6) = area_joined.T6 := by kernel_rfl
theorem area_joined.bits6 : waitsOk area_joined.T6.2 area_joined.B6 = true := by kernel_rfl
set_option maxHeartbeats 8000000 in
set_option maxRecDepth 100000 in
theorem area_joined.calls (k : Nat) (A0 : Option Addr) (c0 : Nat) (l0 : List (List (S32))) (r1 : List (S32)) (r2 : Option Int) (w : World) (hr0 : Kd.C (Kd.slice 32 k32) w A0 l0.length l0) (hc0 : l0.length ≤ c0) (h : area_joined.f k l0 = some (r1, r2)) :
    Calls Try.prog 32 #[.slice A0 l0.length c0] w fun e w' => ∃ v0_ : Value, e = .returned (.tuple #[v0_, errW r2]) ∧ Kd.R k32 32 w' w.heap.size (fun _ => True) v0_ r1 ∧ Below w.heap.size w w' := by
  have hu32 := Try.underlying32
  have hu25 := Try.underlying25
  have hu28 := Try.underlying28
  have HR0 := Aside0.mk hr0
  have HC0 := Aside0.mk hc0
  clear hr0 hc0
  have HB := Aside0.mk (Below.refl w.heap.size w)
  have H : ((api_Area_39.f k l0).bind fun t133 => (area_joined.l0 k ([] : List (S32)) t133 (t133.length : Int) 0)) = some (r1, r2) := h
  clear h
  replace H := Option.bind_eq_some_iff.mp H
  obtain ⟨t133, A20, H⟩ := H
  replace H : (area_joined.l0 k ([] : List (S32)) t133 (t133.length : Int) 0) = some (r1, r2) := H
  have A2 := Aside0.mk A20
  clear A20
  have H' := Aside0.mk H
  clear H
  go_enter Try.func32, Try.ntmps32
  go_wp2_with (first | ((with_reducible refine gate_callee (f := 39) rfl ?_); refine goesL_ (some 9) rfl rfl Try.func39 (by kernel_rfl) rfl #[.slice A0 l0.length c0] rfl (by (try simp only [List.map_toArray, List.map_cons, List.map_nil]); first | done | rfl | (simp only [List.length_drop, List.length_take]; rfl)) ?_; (with_reducible refine (api_Area_39.calls k _ _ l0 t133 _ ?side1 ?side2 A2.out).mono ?_); (case side1 => repeat (first | exact HR0.out | (with_reducible refine Kd.C_alloc ?_ _) | (with_reducible refine Kd.C_drewN ?_ _) | (with_reducible refine Kd.C_drew ?_))); (case side2 => exact HC0.out); rintro e w3 ⟨v134, rfl, ho0, hb⟩; refine ⟨_, rfl, ?_⟩; have n0_ := Aside0.mk (Kd.R_lower ho0 (below_size (by repeat (first | (with_reducible first | exact HB.out | apply below_alloc | apply pw_below_drewN | apply below_drew1) | exact HB.out)))); have n1_ := Aside0.mk (below_step (by repeat (first | (with_reducible first | exact HB.out | apply below_alloc | apply pw_below_drewN | apply below_drew1) | exact HB.out)) hb); clear HB; have HO135 := n0_; have HB := n1_; clear n0_ n1_; (try clear hb); (try clear hb2); (try clear hk); (try clear hi); (try clear ho0); obtain ⟨Ao4, co4, eo4⟩ := Kd.R_slice HO135.out; subst eo4))
  go_loopg [4, 11] k (fun kq v4 v11 w' => ∃ (x4_1 : List (S32)) (x9_1 : List (S32)) (x11_1 : Int), v11 = .int .i64 x11_1 ∧ Aside0 (area_joined.l0 kq x4_1 x9_1 (t133.length : Int) x11_1 = some (r1, r2)) ∧ Aside0 (kq ≤ k) ∧ Aside0 (Kd.R k32 32 w' w.heap.size (fun k_ => some k_ ≠ ((.slice Ao4 t133.length co4) : Value).ownBlock) v4 x4_1) ∧ Aside0 (Kd.R k32 32 w' w.heap.size (fun k_ => some k_ ≠ (v4 : Value).ownBlock) (.slice Ao4 t133.length co4) x9_1) ∧ Aside0 (Below w.heap.size w w'))
  case atStart => exact ⟨(([] : List (S32))), (t133), (0), (by first | rfl | (simp; done) | (simp [*]; done)), H', ⟨Nat.le_refl _⟩, ⟨by first | exact Kd.R_nil _ _ _ _ _ | exact Kd.N_nil _ _ _ _ _ | exact Kd.V_nil _ _ _ _ _ | exact Kd.Q_nil _ _ _ _ _ | exact Kd.S_nil _ _ _ _ _⟩, ⟨by (with_reducible repeat (first | apply Kd.R_alloc | apply Kd.R_drewN | apply Kd.R_drew)); exact Kd.R_mono HO135.out (fun _ hk => (by simp [Value.ownBlock]))⟩, ⟨by repeat (first | (with_reducible first | exact HB.out | apply below_alloc | apply pw_below_drewN | apply below_drew1) | exact HB.out)⟩⟩
  case round =>
    clear H'
    try clear p2
    try clear c3
    obtain ⟨x4_1, x9_1, x11_1, rfl, HA, HK1, HO_4, HO_9, HB⟩ := hrel
    have hl9_1 := (Kd.R_reads' HO_9.out).1
    rw [hl9_1] at HO_9
    (try simp only [hl9_1])
    (try simp only [hl9_1] at HO_4)
    cases gk with
    | zero => exact absurd HA.out (by simp [area_joined.l0])
    | succ k1 =>
      have H := HA.out
      clear HA
      simp only [area_joined.l0] at H
      by_cases c5 : x11_1 < (t133.length : Int)
      · rw [if_pos c5] at H
        have c5b0 : decide (x11_1 < (t133.length : Int)) = true := decide_eq_true c5
        try rw [hl9_1] at c5b0
        clear c5
        by_cases c6 : 0 ≤ x11_1
        · rw [if_pos c6] at H
          have c6b0 : decide (0 ≤ x11_1) = true := decide_eq_true c6
          clear c6
          by_cases c7 : x11_1 < (x9_1.length : Int)
          · rw [if_pos c7] at H
            have c7b0 : decide (x11_1 < (x9_1.length : Int)) = true := decide_eq_true c7
            try rw [hl9_1] at c7b0
            clear c7
            have HC8 := Aside0.mk H
            clear H
            have p136 : 0 ≤ (x11_1 : Int) := of_decide_eq_true (by first | (with_reducible assumption) | assumption)
            have q136 : x11_1 < (x9_1.length : Int) := of_decide_eq_true (by first | (with_reducible assumption) | assumption)
            obtain ⟨ad136, e136, hx136_0, hx136_1, hx136_2, hx136_3, hx136_4⟩ := at_T32 (Kd.R_reads' HO_9.out).2.2 x11_1 p136 q136
            cases e136
            replace p136 := eq_true p136
            replace q136 := eq_true q136
            go_upto_region 6 with (first | ((with_reducible refine gate_dst (N := 6) rfl ?_); refine box_event ?hg (N := 6) ?hd (cs := #[.int .i64 0, .int .i64 0, .bool false, .bool false, .bool false]) (t := 32) ?hr ?_; (case hd => rfl); (case hg => rfl); (case hr => first | (go_simp; done) | (go_simp; rfl)); intro gb137 hg w9 hbox hb; have n0_ := Aside0.mk (Kd.R_below (Kd.R_elderB (by (with_reducible repeat (first | apply Kd.R_alloc | apply Kd.R_drewN | apply Kd.R_drew)); exact HO_4.out) gb137 (Nat.le_of_eq hg.symm)) hb); have n1_ := Aside0.mk (Kd.R_below (Kd.R_elderB (by (with_reducible repeat (first | apply Kd.R_alloc | apply Kd.R_drewN | apply Kd.R_drew)); exact HO_9.out) gb137 (Nat.le_of_eq hg.symm)) hb); have n2_ := Aside0.mk (below_step (by repeat (first | (with_reducible first | exact HB.out | apply below_alloc | apply pw_below_drewN | apply below_drew1) | exact HB.out)) hb); have n3_ := Aside0.mk (hbox); have n4_ := Aside0.mk ((by rw [hg]; exact (below_size (by repeat (first | (with_reducible first | exact HB.out | apply below_alloc | apply pw_below_drewN | apply below_drew1) | exact HB.out))) : w.heap.size ≤ gb137)); have n5_ := Aside0.mk ((by rw [hg]; exact (below_size (by repeat (first | (with_reducible first | exact HB.out | apply below_alloc | apply pw_below_drewN | apply below_drew1) | exact HB.out))) : w.heap.size ≤ gb137)); clear HO_4; clear HO_9; clear HB; have HO_4 := n0_; have HO_9 := n1_; have HB := n2_; have BK137 := n3_; have GW137 := n4_; have GE137 := n5_; clear n0_ n1_ n2_ n3_ n4_ n5_; clear hb hbox hg; have hcz10_0 : w9.cell? ⟨gb137, 0, none⟩ = some (.int .i64 0) := (blk_cell BK137.out 0).trans rfl; have hcz10_1 : w9.cell? ⟨gb137, 1, none⟩ = some (.int .i64 0) := (blk_cell BK137.out 1).trans rfl; have hcz10_2 : w9.cell? ⟨gb137, 2, none⟩ = some (.bool false) := (blk_cell BK137.out 2).trans rfl; have hcz10_3 : w9.cell? ⟨gb137, 3, none⟩ = some (.bool false) := (blk_cell BK137.out 3).trans rfl; have hcz10_4 : w9.cell? ⟨gb137, 4, none⟩ = some (.bool false) := (blk_cell BK137.out 4).trans rfl; have hfz10_0 := blk_frozen BK137.out 0; have hfz10_1 := blk_frozen BK137.out 1; have hfz10_2 := blk_frozen BK137.out 2; have hfz10_3 := blk_frozen BK137.out 3; have hfz10_4 := blk_frozen BK137.out 4; obtain ⟨Ao11, co11, eo11⟩ := Kd.R_slice HO_4.out; subst eo11))
            (try simp only [Act.put, List.setIfInBounds_toArray, List.set_cons_zero, List.set_cons_succ])
            go_cut [38] (fun v38 wc => ∃ (kq : Nat) (x38_7 : Bool), v38 = .bool x38_7 ∧ Aside0 (area_joined.j1 kq x4_1 (x4_1.length : Int) x9_1 (t133.length : Int) x11_1 x38_7 ((rd_T32 x9_1 x11_1).f0) ((rd_T32 x9_1 x11_1).f1) ((rd_T32 x9_1 x11_1).f2.f0) ((rd_T32 x9_1 x11_1).f2.f1) ((rd_T32 x9_1 x11_1).f3) = some (r1, r2)) ∧ Aside0 (kq ≤ k1) ∧ Aside0 (Kd.R k32 32 wc w.heap.size (fun k_ => some k_ ≠ ((.slice (some ad136) x9_1.length co4) : Value).ownBlock ∧ k_ ≠ gb137) (.slice Ao11 x4_1.length co11) x4_1) ∧ Aside0 (Kd.R k32 32 wc w.heap.size (fun k_ => some k_ ≠ ((.slice Ao11 x4_1.length co11) : Value).ownBlock ∧ k_ ≠ gb137) (.slice (some ad136) x9_1.length co4) x9_1) ∧ Aside0 (wc.heap[gb137]? = some (.cells #[.int .i64 ((rd_T32 x9_1 x11_1).f0), .int .i64 ((rd_T32 x9_1 x11_1).f1), .bool ((rd_T32 x9_1 x11_1).f2.f0), .bool ((rd_T32 x9_1 x11_1).f2.f1), .bool ((rd_T32 x9_1 x11_1).f3)] 32 (0, 0))) ∧ Aside0 (Below w.heap.size w wc))
            case first =>
              have H := HC8.out
              clear HC8
              by_cases c12 : (x4_1.length : Int) > 0
              · rw [if_pos c12] at H
                have c12b0 : decide (0 < (x4_1.length : Int)) = true := decide_eq_true c12
                try rw [hl9_1] at c12b0
                have c12b1 : decide (0 < x4_1.length) = true := decide_eq_true (by omega)
                try rw [hl9_1] at c12b1
                clear c12
                (first | rw [c12b0] | (simp only [i64_w, i32_w]; rw [c12b0]) | skip)
                obtain ⟨ji13, hji13⟩ : ∃ j_ : Int, (wrap64 ((x4_1.length : Int) - 1)) = j_ := ⟨_, rfl⟩
                replace H : (if 0 ≤ (ji13) then (if (ji13) < (x4_1.length : Int) then (if ((rd_T32 x4_1 (ji13)).f1) = ((rd_T32 x9_1 x11_1).f0) then ((area_alike.f ((rd_T32 x4_1 (ji13)).f0) ((rd_T32 x4_1 (ji13)).f1) ((rd_T32 x4_1 (ji13)).f2.f0) ((rd_T32 x4_1 (ji13)).f2.f1) ((rd_T32 x4_1 (ji13)).f3) ((rd_T32 x9_1 x11_1).f0) ((rd_T32 x9_1 x11_1).f1) ((rd_T32 x9_1 x11_1).f2.f0) ((rd_T32 x9_1 x11_1).f2.f1) ((rd_T32 x9_1 x11_1).f3)).bind fun t140 => (area_joined.j1 k1 x4_1 (x4_1.length : Int) x9_1 (t133.length : Int) x11_1 t140 ((rd_T32 x9_1 x11_1).f0) ((rd_T32 x9_1 x11_1).f1) ((rd_T32 x9_1 x11_1).f2.f0) ((rd_T32 x9_1 x11_1).f2.f1) ((rd_T32 x9_1 x11_1).f3))) else (area_joined.j1 k1 x4_1 (x4_1.length : Int) x9_1 (t133.length : Int) x11_1 false ((rd_T32 x9_1 x11_1).f0) ((rd_T32 x9_1 x11_1).f1) ((rd_T32 x9_1 x11_1).f2.f0) ((rd_T32 x9_1 x11_1).f2.f1) ((rd_T32 x9_1 x11_1).f3))) else (none)) else (none)) = some (r1, r2) := by first | (rw [hji13] at H; exact H) | (simp only [hji13] at H ⊢; exact H)
                have hji13w : (IntKind.i64.wrap ((x4_1.length : Int) - 1)) = ji13 := (i64_w _).trans hji13
                by_cases c14 : 0 ≤ (ji13)
                · rw [if_pos c14] at H
                  have c14b0 : decide (0 ≤ (ji13)) = true := decide_eq_true c14
                  clear c14
                  by_cases c15 : (ji13) < (x4_1.length : Int)
                  · rw [if_pos c15] at H
                    have c15b0 : decide ((ji13) < (x4_1.length : Int)) = true := decide_eq_true c15
                    try rw [hl9_1] at c15b0
                    clear c15
                    by_cases c16 : ((rd_T32 x4_1 (ji13)).f1) = ((rd_T32 x9_1 x11_1).f0)
                    · rw [if_pos c16] at H
                      have c16b0 : (((rd_T32 x4_1 (ji13)).f1) == ((rd_T32 x9_1 x11_1).f0)) = true := beq_iff_eq.mpr c16
                      have c16b1 : (((rd_T32 x4_1 (ji13)).f1) != ((rd_T32 x9_1 x11_1).f0)) = false := bne_eq_false_iff_eq.mpr c16
                      clear c16
                      replace H := Option.bind_eq_some_iff.mp H
                      obtain ⟨t140, A170, H⟩ := H
                      replace H : (area_joined.j1 k1 x4_1 (x4_1.length : Int) x9_1 (t133.length : Int) x11_1 t140 ((rd_T32 x9_1 x11_1).f0) ((rd_T32 x9_1 x11_1).f1) ((rd_T32 x9_1 x11_1).f2.f0) ((rd_T32 x9_1 x11_1).f2.f1) ((rd_T32 x9_1 x11_1).f3)) = some (r1, r2) := H
                      have A17 := Aside0.mk A170
                      clear A170
                      have H' := Aside0.mk H
                      clear H
                      try go_wp2
                      have n0_ : Aside0 (Kd.R k32 32 (((((w9.setCell ⟨gb137, 0, none⟩ (.int .i64 ((rd_T32 x9_1 x11_1).f0))).setCell ⟨gb137, 1, none⟩ (.int .i64 ((rd_T32 x9_1 x11_1).f1))).setCell ⟨gb137, 2, none⟩ (.bool ((rd_T32 x9_1 x11_1).f2.f0))).setCell ⟨gb137, 3, none⟩ (.bool ((rd_T32 x9_1 x11_1).f2.f1))).setCell ⟨gb137, 4, none⟩ (.bool ((rd_T32 x9_1 x11_1).f3))) w.heap.size (fun k_ => some k_ ≠ (.slice (some ad136) x9_1.length co4 : Value).ownBlock ∧ k_ ≠ gb137) (.slice Ao11 x4_1.length co11) x4_1) := ⟨by (with_reducible repeat (first | apply Kd.R_alloc | apply Kd.R_drewN | apply Kd.R_drew)); exact Kd.R_mono (Kd.R_far (p := ⟨gb137, 4, none⟩) (Kd.R_far (p := ⟨gb137, 3, none⟩) (Kd.R_far (p := ⟨gb137, 2, none⟩) (Kd.R_far (p := ⟨gb137, 1, none⟩) (Kd.R_far (p := ⟨gb137, 0, none⟩) (Kd.R_mono HO_4.out (fun k_ hk => (⟨hk, hk.2⟩ : _ ∧ k_ ≠ gb137))) (fun _ hk => hk.2) (.int .i64 ((rd_T32 x9_1 x11_1).f0))) (fun _ hk => hk.2) (.int .i64 ((rd_T32 x9_1 x11_1).f1))) (fun _ hk => hk.2) (.bool ((rd_T32 x9_1 x11_1).f2.f0))) (fun _ hk => hk.2) (.bool ((rd_T32 x9_1 x11_1).f2.f1))) (fun _ hk => hk.2) (.bool ((rd_T32 x9_1 x11_1).f3))) (fun _ hk => ⟨hk.1.1, hk.1.2⟩)⟩
                      have n1_ : Aside0 (Kd.R k32 32 (((((w9.setCell ⟨gb137, 0, none⟩ (.int .i64 ((rd_T32 x9_1 x11_1).f0))).setCell ⟨gb137, 1, none⟩ (.int .i64 ((rd_T32 x9_1 x11_1).f1))).setCell ⟨gb137, 2, none⟩ (.bool ((rd_T32 x9_1 x11_1).f2.f0))).setCell ⟨gb137, 3, none⟩ (.bool ((rd_T32 x9_1 x11_1).f2.f1))).setCell ⟨gb137, 4, none⟩ (.bool ((rd_T32 x9_1 x11_1).f3))) w.heap.size (fun k_ => some k_ ≠ (.slice Ao11 x4_1.length co11 : Value).ownBlock ∧ k_ ≠ gb137) (.slice (some ad136) x9_1.length co4) x9_1) := ⟨by (with_reducible repeat (first | apply Kd.R_alloc | apply Kd.R_drewN | apply Kd.R_drew)); exact Kd.R_mono (Kd.R_far (p := ⟨gb137, 4, none⟩) (Kd.R_far (p := ⟨gb137, 3, none⟩) (Kd.R_far (p := ⟨gb137, 2, none⟩) (Kd.R_far (p := ⟨gb137, 1, none⟩) (Kd.R_far (p := ⟨gb137, 0, none⟩) (Kd.R_mono HO_9.out (fun k_ hk => (⟨hk, hk.2⟩ : _ ∧ k_ ≠ gb137))) (fun _ hk => hk.2) (.int .i64 ((rd_T32 x9_1 x11_1).f0))) (fun _ hk => hk.2) (.int .i64 ((rd_T32 x9_1 x11_1).f1))) (fun _ hk => hk.2) (.bool ((rd_T32 x9_1 x11_1).f2.f0))) (fun _ hk => hk.2) (.bool ((rd_T32 x9_1 x11_1).f2.f1))) (fun _ hk => hk.2) (.bool ((rd_T32 x9_1 x11_1).f3))) (fun _ hk => ⟨hk.1.1, hk.1.2⟩)⟩
                      have n2_ : Aside0 ((((((w9.setCell ⟨gb137, 0, none⟩ (.int .i64 ((rd_T32 x9_1 x11_1).f0))).setCell ⟨gb137, 1, none⟩ (.int .i64 ((rd_T32 x9_1 x11_1).f1))).setCell ⟨gb137, 2, none⟩ (.bool ((rd_T32 x9_1 x11_1).f2.f0))).setCell ⟨gb137, 3, none⟩ (.bool ((rd_T32 x9_1 x11_1).f2.f1))).setCell ⟨gb137, 4, none⟩ (.bool ((rd_T32 x9_1 x11_1).f3))).heap[gb137]? = some (.cells #[.int .i64 ((rd_T32 x9_1 x11_1).f0), .int .i64 ((rd_T32 x9_1 x11_1).f1), .bool ((rd_T32 x9_1 x11_1).f2.f0), .bool ((rd_T32 x9_1 x11_1).f2.f1), .bool ((rd_T32 x9_1 x11_1).f3)] 32 (0, 0))) := ⟨by (with_reducible repeat (first | refine blk_drewN ?_ _ | refine blk_drew ?_ | refine blk_alloc ?_ _)); refine blk_put (cs := #[.int .i64 ((rd_T32 x9_1 x11_1).f0), .int .i64 ((rd_T32 x9_1 x11_1).f1), .bool ((rd_T32 x9_1 x11_1).f2.f0), .bool ((rd_T32 x9_1 x11_1).f2.f1), .bool false]) ?_ 4 _ rfl; (with_reducible repeat (first | refine blk_drewN ?_ _ | refine blk_drew ?_ | refine blk_alloc ?_ _)); refine blk_put (cs := #[.int .i64 ((rd_T32 x9_1 x11_1).f0), .int .i64 ((rd_T32 x9_1 x11_1).f1), .bool ((rd_T32 x9_1 x11_1).f2.f0), .bool false, .bool false]) ?_ 3 _ rfl; (with_reducible repeat (first | refine blk_drewN ?_ _ | refine blk_drew ?_ | refine blk_alloc ?_ _)); refine blk_put (cs := #[.int .i64 ((rd_T32 x9_1 x11_1).f0), .int .i64 ((rd_T32 x9_1 x11_1).f1), .bool false, .bool false, .bool false]) ?_ 2 _ rfl; (with_reducible repeat (first | refine blk_drewN ?_ _ | refine blk_drew ?_ | refine blk_alloc ?_ _)); refine blk_put (cs := #[.int .i64 ((rd_T32 x9_1 x11_1).f0), .int .i64 0, .bool false, .bool false, .bool false]) ?_ 1 _ rfl; (with_reducible repeat (first | refine blk_drewN ?_ _ | refine blk_drew ?_ | refine blk_alloc ?_ _)); refine blk_put (cs := #[.int .i64 0, .int .i64 0, .bool false, .bool false, .bool false]) ?_ 0 _ rfl; (with_reducible repeat (first | refine blk_drewN ?_ _ | refine blk_drew ?_ | refine blk_alloc ?_ _)); exact BK137.out⟩
                      have n3_ : Aside0 (Below w.heap.size w (((((w9.setCell ⟨gb137, 0, none⟩ (.int .i64 ((rd_T32 x9_1 x11_1).f0))).setCell ⟨gb137, 1, none⟩ (.int .i64 ((rd_T32 x9_1 x11_1).f1))).setCell ⟨gb137, 2, none⟩ (.bool ((rd_T32 x9_1 x11_1).f2.f0))).setCell ⟨gb137, 3, none⟩ (.bool ((rd_T32 x9_1 x11_1).f2.f1))).setCell ⟨gb137, 4, none⟩ (.bool ((rd_T32 x9_1 x11_1).f3)))) := ⟨by repeat (first | (with_reducible first | exact HB.out | apply below_alloc | apply pw_below_drewN | apply below_drew1 | refine below_set ?_ GE137.out) | exact HB.out)⟩
                      (try clear HO_4)
                      (try clear HO_9)
                      (try clear BK137)
                      (try clear HB)
                      generalize (((((w9.setCell ⟨gb137, 0, none⟩ (.int .i64 ((rd_T32 x9_1 x11_1).f0))).setCell ⟨gb137, 1, none⟩ (.int .i64 ((rd_T32 x9_1 x11_1).f1))).setCell ⟨gb137, 2, none⟩ (.bool ((rd_T32 x9_1 x11_1).f2.f0))).setCell ⟨gb137, 3, none⟩ (.bool ((rd_T32 x9_1 x11_1).f2.f1))).setCell ⟨gb137, 4, none⟩ (.bool ((rd_T32 x9_1 x11_1).f3))) = w18 at n0_ n1_ n2_ n3_ ⊢
                      have HO_4 := n0_
                      have HO_9 := n1_
                      have BK137 := n2_
                      have HB := n3_
                      clear n0_ n1_ n2_ n3_
                      have n0_ := Aside0.mk (Kd.R_drew HO_4.out)
                      have n1_ := Aside0.mk (Kd.R_drew HO_9.out)
                      have n2_ := Aside0.mk (blk_drew BK137.out)
                      have n3_ := Aside0.mk (below_drew1 HB.out)
                      clear HO_4
                      clear HO_9
                      clear BK137
                      clear HB
                      have HO_4 := n0_
                      have HO_9 := n1_
                      have BK137 := n2_
                      have HB := n3_
                      clear n0_ n1_ n2_ n3_
                      have p138 : 0 ≤ ((ji13) : Int) := of_decide_eq_true (by first | (with_reducible assumption) | assumption)
                      have q138 : (ji13) < (x4_1.length : Int) := of_decide_eq_true (by first | (with_reducible assumption) | assumption)
                      obtain ⟨ad138, e138, hx138_0, hx138_1, hx138_2, hx138_3, hx138_4⟩ := at_T32 (Kd.R_reads' HO_4.out).2.2 (ji13) p138 q138
                      cases e138
                      replace p138 := eq_true p138
                      replace q138 := eq_true q138
                      have p139 : 0 ≤ ((ji13) : Int) := of_decide_eq_true (by first | (with_reducible assumption) | assumption)
                      have q139 : (ji13) < (x4_1.length : Int) := of_decide_eq_true (by first | (with_reducible assumption) | assumption)
                      obtain ⟨ad139, e139, hx139_0, hx139_1, hx139_2, hx139_3, hx139_4⟩ := at_T32 (Kd.R_reads' HO_4.out).2.2 (ji13) p139 q139
                      obtain rfl : ad138 = ad139 := (by injection e139)
                      replace p139 := eq_true p139
                      replace q139 := eq_true q139
                      refine start_ (n := 22) (S := fun w' => w'.cell? ⟨gb137, 0, none⟩ = some (.int .i64 ((rd_T32 x9_1 x11_1).f0)) ∧ w'.cell? ⟨gb137, 1, none⟩ = some (.int .i64 ((rd_T32 x9_1 x11_1).f1)) ∧ w'.cell? ⟨gb137, 2, none⟩ = some (.bool ((rd_T32 x9_1 x11_1).f2.f0)) ∧ w'.cell? ⟨gb137, 3, none⟩ = some (.bool ((rd_T32 x9_1 x11_1).f2.f1)) ∧ w'.cell? ⟨gb137, 4, none⟩ = some (.bool ((rd_T32 x9_1 x11_1).f3)) ∧ w'.cell? (ad138.add (((ji13)).toNat * 5)) = some (.int .i64 ((rd_T32 x4_1 (ji13)).f0)) ∧ w'.cell? ⟨(ad138.add (((ji13)).toNat * 5)).block, (ad138.add (((ji13)).toNat * 5)).off + 1, none⟩ = some (.int .i64 ((rd_T32 x4_1 (ji13)).f1)) ∧ w'.cell? ⟨(ad138.add (((ji13)).toNat * 5)).block, (ad138.add (((ji13)).toNat * 5)).off + 2, none⟩ = some (.bool ((rd_T32 x4_1 (ji13)).f2.f0)) ∧ w'.cell? ⟨(ad138.add (((ji13)).toNat * 5)).block, (ad138.add (((ji13)).toNat * 5)).off + 3, none⟩ = some (.bool ((rd_T32 x4_1 (ji13)).f2.f1)) ∧ w'.cell? ⟨(ad138.add (((ji13)).toNat * 5)).block, (ad138.add (((ji13)).toNat * 5)).off + 4, none⟩ = some (.bool ((rd_T32 x4_1 (ji13)).f3)) ∧ w'.cell? (ad138.add (((ji13)).toNat * 5)) = some (.int .i64 ((rd_T32 x4_1 (ji13)).f0)) ∧ w'.cell? ⟨(ad138.add (((ji13)).toNat * 5)).block, (ad138.add (((ji13)).toNat * 5)).off + 1, none⟩ = some (.int .i64 ((rd_T32 x4_1 (ji13)).f1)) ∧ w'.cell? ⟨(ad138.add (((ji13)).toNat * 5)).block, (ad138.add (((ji13)).toNat * 5)).off + 2, none⟩ = some (.bool ((rd_T32 x4_1 (ji13)).f2.f0)) ∧ w'.cell? ⟨(ad138.add (((ji13)).toNat * 5)).block, (ad138.add (((ji13)).toNat * 5)).off + 3, none⟩ = some (.bool ((rd_T32 x4_1 (ji13)).f2.f1)) ∧ w'.cell? ⟨(ad138.add (((ji13)).toNat * 5)).block, (ad138.add (((ji13)).toNat * 5)).off + 4, none⟩ = some (.bool ((rd_T32 x4_1 (ji13)).f3))) (ds := []) #[false, false, false, false, false, false, false, false, false, false, false, false, false, false, false, false, false, false, false, false, false, false] (by kernel_rfl) rfl rfl ⟨(blk_cell BK137.out 0).trans rfl, (blk_cell BK137.out 1).trans rfl, (blk_cell BK137.out 2).trans rfl, (blk_cell BK137.out 3).trans rfl, (blk_cell BK137.out 4).trans rfl, hx138_0, hx138_1, hx138_2, hx138_3, hx138_4, hx139_0, hx139_1, hx139_2, hx139_3, hx139_4⟩ (fun hHeld => ?_); refine with_tabW area_joined.tab6 area_joined.bits6 (fun HT_ HW_ => ?_)
                      generalize w18.drew = w19 at HO_4 HO_9 BK137 HB hx138_0 hx138_1 hx138_2 hx138_3 hx138_4 hx139_0 hx139_1 hx139_2 hx139_3 hx139_4 hHeld ⊢
                      refine pure_ (i := 0) (N := some 17) (v := ?_) (a' := ?_) #[true, false, false, false, false, false, false, false, false, false, false, false, false, false, false, false, false, false, false, false, false, false] rfl rfl (any_of HT_.out (by kernel_rfl)) (fun _ _ _ h => h) (Or.inl ⟨by rfl, ?_⟩) ?_ ?_
                      rotate_left
                      · intro w'
                        go_simp
                        with_reducible rfl
                      rotate_left
                      · simp only [Act.put, List.setIfInBounds_toArray, List.set_cons_zero, List.set_cons_succ, i64_w, i32_w]
                        rfl
                      refine pure_ (i := 1) (N := some 18) (v := ?_) (a' := ?_) #[true, true, false, false, false, false, false, false, false, false, false, false, false, false, false, false, false, false, false, false, false, false] rfl rfl (any_of HT_.out (by kernel_rfl)) (fun _ _ _ h => h) (Or.inl ⟨by rfl, ?_⟩) ?_ ?_
                      rotate_left
                      · intro w'
                        go_simp
                        with_reducible rfl
                      rotate_left
                      · simp only [Act.put, List.setIfInBounds_toArray, List.set_cons_zero, List.set_cons_succ, i64_w, i32_w]
                        rfl
                      refine pure_ (i := 2) (N := some 19) (v := ?_) (a' := ?_) #[true, true, true, false, false, false, false, false, false, false, false, false, false, false, false, false, false, false, false, false, false, false] rfl rfl (any_of HT_.out (by kernel_rfl)) (fun _ _ _ h => h) (Or.inl ⟨by rfl, ?_⟩) ?_ ?_
                      rotate_left
                      · intro w'
                        go_simp
                        with_reducible rfl
                      rotate_left
                      · simp only [Act.put, List.setIfInBounds_toArray, List.set_cons_zero, List.set_cons_succ, i64_w, i32_w]
                        rfl
                      refine pure_ (i := 3) (N := some 20) (v := ?_) (a' := ?_) #[true, true, true, true, false, false, false, false, false, false, false, false, false, false, false, false, false, false, false, false, false, false] rfl rfl (any_of HT_.out (by kernel_rfl)) (fun _ _ _ h => h) (Or.inl ⟨by rfl, ?_⟩) ?_ ?_
                      rotate_left
                      · intro w'
                        go_simp
                        with_reducible rfl
                      rotate_left
                      · simp only [Act.put, List.setIfInBounds_toArray, List.set_cons_zero, List.set_cons_succ, i64_w, i32_w]
                        rfl
                      refine pure_ (i := 4) (N := some 21) (v := ?_) (a' := ?_) #[true, true, true, true, true, false, false, false, false, false, false, false, false, false, false, false, false, false, false, false, false, false] rfl rfl (any_of HT_.out (by kernel_rfl)) (fun _ _ _ h => h) (Or.inl ⟨by rfl, ?_⟩) ?_ ?_
                      rotate_left
                      · intro w'
                        go_simp
                        with_reducible rfl
                      rotate_left
                      · simp only [Act.put, List.setIfInBounds_toArray, List.set_cons_zero, List.set_cons_succ, i64_w, i32_w]
                        rfl
                      refine pure_ (i := 5) (N := some 22) (v := ?_) (a' := ?_) #[true, true, true, true, true, true, false, false, false, false, false, false, false, false, false, false, false, false, false, false, false, false] rfl rfl (any_of HT_.out (by kernel_rfl)) (fun _ _ _ h => h) (Or.inl ⟨by rfl, ?_⟩) ?_ ?_
                      rotate_left
                      · intro w'
                        go_simp
                        with_reducible rfl
                      rotate_left
                      · simp only [Act.put, List.setIfInBounds_toArray, List.set_cons_zero, List.set_cons_succ, i64_w, i32_w]
                        rfl
                      refine pure_ (i := 6) (N := some 23) (v := ?_) (a' := ?_) #[true, true, true, true, true, true, true, false, false, false, false, false, false, false, false, false, false, false, false, false, false, false] rfl rfl (any_of HT_.out (by kernel_rfl)) (fun _ _ _ h => h) (Or.inl ⟨by rfl, ?_⟩) ?_ ?_
                      rotate_left
                      · intro w'
                        go_simp
                        with_reducible rfl
                      rotate_left
                      · simp only [Act.put, List.setIfInBounds_toArray, List.set_cons_zero, List.set_cons_succ, i64_w, i32_w]
                        rfl
                      refine pure_ (i := 7) (N := some 24) (v := ?_) (a' := ?_) #[true, true, true, true, true, true, true, true, false, false, false, false, false, false, false, false, false, false, false, false, false, false] rfl rfl (any_of HT_.out (by kernel_rfl)) (fun _ _ _ h => h) (Or.inl ⟨by rfl, ?_⟩) ?_ ?_
                      rotate_left
                      · intro w'
                        go_simp
                        with_reducible rfl
                      rotate_left
                      · simp only [Act.put, List.setIfInBounds_toArray, List.set_cons_zero, List.set_cons_succ, i64_w, i32_w]
                        rfl
                      refine pure_ (i := 9) (N := some 26) (v := ?_) (a' := ?_) #[true, true, true, true, true, true, true, true, false, true, false, false, false, false, false, false, false, false, false, false, false, false] rfl rfl (any_of HT_.out (by kernel_rfl)) (fun _ _ _ h => h) (Or.inl ⟨by rfl, ?_⟩) ?_ ?_
                      rotate_left
                      · intro w'
                        go_simp
                        with_reducible rfl
                      rotate_left
                      · simp only [Act.put, List.setIfInBounds_toArray, List.set_cons_zero, List.set_cons_succ, i64_w, i32_w]
                        rfl
                      refine take_ (i := 8) (N := some 25) (v := ?_) (a' := ?_) #[true, true, true, true, true, true, true, true, true, true, false, false, false, false, false, false, false, false, false, false, false, false] rfl rfl (take_ofW HT_.out HW_.out (by kernel_rfl)) (fun _ _ _ h => h) (Or.inl ⟨by rfl, ?_⟩) hHeld ?_ ?_
                      rotate_left
                      · rintro w' ⟨s0, s1, s2, s3, s4, s5, s6, s7, s8, s9, s10, s11, s12, s13, s14⟩
                        go_simp
                        with_reducible rfl
                      rotate_left
                      · simp only [Act.put, List.setIfInBounds_toArray, List.set_cons_zero, List.set_cons_succ, i64_w, i32_w]
                        rfl
                      refine take_ (i := 10) (N := some 27) (v := ?_) (a' := ?_) #[true, true, true, true, true, true, true, true, true, true, true, false, false, false, false, false, false, false, false, false, false, false] rfl rfl (take_ofW HT_.out HW_.out (by kernel_rfl)) (fun _ _ _ h => h) (Or.inl ⟨by rfl, ?_⟩) hHeld ?_ ?_
                      rotate_left
                      · rintro w' ⟨s0, s1, s2, s3, s4, s5, s6, s7, s8, s9, s10, s11, s12, s13, s14⟩
                        go_simp
                        with_reducible rfl
                      rotate_left
                      · simp only [Act.put, List.setIfInBounds_toArray, List.set_cons_zero, List.set_cons_succ, i64_w, i32_w]
                        rfl
                      refine pure_ (i := 11) (N := some 28) (v := ?_) (a' := ?_) #[true, true, true, true, true, true, true, true, true, true, true, true, false, false, false, false, false, false, false, false, false, false] rfl rfl (any_of HT_.out (by kernel_rfl)) (fun _ _ _ h => h) (Or.inl ⟨by rfl, ?_⟩) ?_ ?_
                      rotate_left
                      · intro w'
                        go_simp
                        with_reducible rfl
                      rotate_left
                      · simp only [Act.put, List.setIfInBounds_toArray, List.set_cons_zero, List.set_cons_succ, i64_w, i32_w]
                        rfl
                      refine pure_ (i := 12) (N := some 29) (v := ?_) (a' := ?_) #[true, true, true, true, true, true, true, true, true, true, true, true, true, false, false, false, false, false, false, false, false, false] rfl rfl (any_of HT_.out (by kernel_rfl)) (fun _ _ _ h => h) (Or.inl ⟨by rfl, ?_⟩) ?_ ?_
                      rotate_left
                      · intro w'
                        go_simp
                        with_reducible rfl
                      rotate_left
                      · simp only [Act.put, List.setIfInBounds_toArray, List.set_cons_zero, List.set_cons_succ, i64_w, i32_w]
                        rfl
                      refine pure_ (i := 13) (N := some 30) (v := ?_) (a' := ?_) #[true, true, true, true, true, true, true, true, true, true, true, true, true, true, false, false, false, false, false, false, false, false] rfl rfl (any_of HT_.out (by kernel_rfl)) (fun _ _ _ h => h) (Or.inl ⟨by rfl, ?_⟩) ?_ ?_
                      rotate_left
                      · intro w'
                        go_simp
                        with_reducible rfl
                      rotate_left
                      · simp only [Act.put, List.setIfInBounds_toArray, List.set_cons_zero, List.set_cons_succ, i64_w, i32_w]
                        rfl
                      refine pure_ (i := 14) (N := some 31) (v := ?_) (a' := ?_) #[true, true, true, true, true, true, true, true, true, true, true, true, true, true, true, false, false, false, false, false, false, false] rfl rfl (any_of HT_.out (by kernel_rfl)) (fun _ _ _ h => h) (Or.inl ⟨by rfl, ?_⟩) ?_ ?_
                      rotate_left
                      · intro w'
                        go_simp
                        with_reducible rfl
                      rotate_left
                      · simp only [Act.put, List.setIfInBounds_toArray, List.set_cons_zero, List.set_cons_succ, i64_w, i32_w]
                        rfl
                      refine pure_ (i := 15) (N := some 32) (v := ?_) (a' := ?_) #[true, true, true, true, true, true, true, true, true, true, true, true, true, true, true, true, false, false, false, false, false, false] rfl rfl (any_of HT_.out (by kernel_rfl)) (fun _ _ _ h => h) (Or.inl ⟨by rfl, ?_⟩) ?_ ?_
                      rotate_left
                      · intro w'
                        go_simp
                        with_reducible rfl
                      rotate_left
                      · simp only [Act.put, List.setIfInBounds_toArray, List.set_cons_zero, List.set_cons_succ, i64_w, i32_w]
                        rfl
                      refine pure_ (i := 16) (N := some 33) (v := ?_) (a' := ?_) #[true, true, true, true, true, true, true, true, true, true, true, true, true, true, true, true, true, false, false, false, false, false] rfl rfl (any_of HT_.out (by kernel_rfl)) (fun _ _ _ h => h) (Or.inl ⟨by rfl, ?_⟩) ?_ ?_
                      rotate_left
                      · intro w'
                        go_simp
                        with_reducible rfl
                      rotate_left
                      · simp only [Act.put, List.setIfInBounds_toArray, List.set_cons_zero, List.set_cons_succ, i64_w, i32_w]
                        rfl
                      refine pure_ (i := 17) (N := some 34) (v := ?_) (a' := ?_) #[true, true, true, true, true, true, true, true, true, true, true, true, true, true, true, true, true, true, false, false, false, false] rfl rfl (any_of HT_.out (by kernel_rfl)) (fun _ _ _ h => h) (Or.inl ⟨by rfl, ?_⟩) ?_ ?_
                      rotate_left
                      · intro w'
                        go_simp
                        with_reducible rfl
                      rotate_left
                      · simp only [Act.put, List.setIfInBounds_toArray, List.set_cons_zero, List.set_cons_succ, i64_w, i32_w]
                        rfl
                      refine take_ (i := 18) (N := some 35) (v := ?_) (a' := ?_) #[true, true, true, true, true, true, true, true, true, true, true, true, true, true, true, true, true, true, true, false, false, false] rfl rfl (take_ofW HT_.out HW_.out (by kernel_rfl)) (fun _ _ _ h => h) (Or.inl ⟨by rfl, ?_⟩) hHeld ?_ ?_
                      rotate_left
                      · rintro w' ⟨s0, s1, s2, s3, s4, s5, s6, s7, s8, s9, s10, s11, s12, s13, s14⟩
                        go_simp
                        with_reducible rfl
                      rotate_left
                      · simp only [Act.put, List.setIfInBounds_toArray, List.set_cons_zero, List.set_cons_succ, i64_w, i32_w]
                        rfl
                      refine take_ (i := 19) (N := some 36) (v := ?_) (a' := ?_) #[true, true, true, true, true, true, true, true, true, true, true, true, true, true, true, true, true, true, true, true, false, false] rfl rfl (take_ofW HT_.out HW_.out (by kernel_rfl)) (fun _ _ _ h => h) (Or.inl ⟨by rfl, ?_⟩) hHeld ?_ ?_
                      rotate_left
                      · rintro w' ⟨s0, s1, s2, s3, s4, s5, s6, s7, s8, s9, s10, s11, s12, s13, s14⟩
                        go_simp
                        with_reducible rfl
                      rotate_left
                      · simp only [Act.put, List.setIfInBounds_toArray, List.set_cons_zero, List.set_cons_succ, i64_w, i32_w]
                        rfl
                      refine one_ (i := 20) (N := some 37) #[true, true, true, true, true, true, true, true, true, true, true, true, true, true, true, true, true, true, true, true, true, false] rfl rfl (one_of HT_.out (by kernel_rfl)) (by decide) (fun K hK => ?_)
                      refine goes_ Try.func30 (by kernel_rfl) rfl #[.agg #[.int .i64 ((rd_T32 x4_1 (ji13)).f0), .int .i64 ((rd_T32 x4_1 (ji13)).f1), .bool ((rd_T32 x4_1 (ji13)).f2.f0), .bool ((rd_T32 x4_1 (ji13)).f2.f1), .bool ((rd_T32 x4_1 (ji13)).f3)], .agg #[.int .i64 ((rd_T32 x9_1 x11_1).f0), .int .i64 ((rd_T32 x9_1 x11_1).f1), .bool ((rd_T32 x9_1 x11_1).f2.f0), .bool ((rd_T32 x9_1 x11_1).f2.f1), .bool ((rd_T32 x9_1 x11_1).f3)]] (by rfl) rfl rfl (by (try simp only [List.map_toArray, List.map_cons, List.map_nil]); first | done | (simp only [hji13]; rfl) | rfl | (simp only [List.length_drop, List.length_take]; rfl)) ?_
                      with_reducible refine (area_alike.calls ((rd_T32 x4_1 (ji13)).f0) ((rd_T32 x4_1 (ji13)).f1) ((rd_T32 x4_1 (ji13)).f2.f0) ((rd_T32 x4_1 (ji13)).f2.f1) ((rd_T32 x4_1 (ji13)).f3) ((rd_T32 x9_1 x11_1).f0) ((rd_T32 x9_1 x11_1).f1) ((rd_T32 x9_1 x11_1).f2.f0) ((rd_T32 x9_1 x11_1).f2.f1) ((rd_T32 x9_1 x11_1).f3) t140 _ A17.out).mono ?_
                      rintro e w20 ⟨rfl, hb⟩
                      have HS5_ := (hb.cell (World.block_lt_of_cell? _ _ (hHeld.2.2.2.2.2.1))).trans (hHeld.2.2.2.2.2.1)
                      have HS6_ := (hb.cell (World.block_lt_of_cell? _ _ (hHeld.2.2.2.2.2.2.1))).trans (hHeld.2.2.2.2.2.2.1)
                      have HS7_ := (hb.cell (World.block_lt_of_cell? _ _ (hHeld.2.2.2.2.2.2.2.1))).trans (hHeld.2.2.2.2.2.2.2.1)
                      have HS8_ := (hb.cell (World.block_lt_of_cell? _ _ (hHeld.2.2.2.2.2.2.2.2.1))).trans (hHeld.2.2.2.2.2.2.2.2.1)
                      have HS9_ := (hb.cell (World.block_lt_of_cell? _ _ (hHeld.2.2.2.2.2.2.2.2.2.1))).trans (hHeld.2.2.2.2.2.2.2.2.2.1)
                      have HS10_ := (hb.cell (World.block_lt_of_cell? _ _ (hHeld.2.2.2.2.2.2.2.2.2.2.1))).trans (hHeld.2.2.2.2.2.2.2.2.2.2.1)
                      have HS11_ := (hb.cell (World.block_lt_of_cell? _ _ (hHeld.2.2.2.2.2.2.2.2.2.2.2.1))).trans (hHeld.2.2.2.2.2.2.2.2.2.2.2.1)
                      have HS12_ := (hb.cell (World.block_lt_of_cell? _ _ (hHeld.2.2.2.2.2.2.2.2.2.2.2.2.1))).trans (hHeld.2.2.2.2.2.2.2.2.2.2.2.2.1)
                      have HS13_ := (hb.cell (World.block_lt_of_cell? _ _ (hHeld.2.2.2.2.2.2.2.2.2.2.2.2.2.1))).trans (hHeld.2.2.2.2.2.2.2.2.2.2.2.2.2.1)
                      have HS14_ := (hb.cell (World.block_lt_of_cell? _ _ (hHeld.2.2.2.2.2.2.2.2.2.2.2.2.2.2))).trans (hHeld.2.2.2.2.2.2.2.2.2.2.2.2.2.2)
                      refine ⟨_, rfl, ?_⟩
                      have n0_ := Aside0.mk (Kd.R_below (by (with_reducible repeat (first | apply Kd.R_alloc | apply Kd.R_drewN | apply Kd.R_drew)); exact HO_4.out) hb)
                      have n1_ := Aside0.mk (Kd.R_below (by (with_reducible repeat (first | apply Kd.R_alloc | apply Kd.R_drewN | apply Kd.R_drew)); exact HO_9.out) hb)
                      have n2_ := Aside0.mk (blk_below (g := gb137) (o := .cells #[.int .i64 ((rd_T32 x9_1 x11_1).f0), .int .i64 ((rd_T32 x9_1 x11_1).f1), .bool ((rd_T32 x9_1 x11_1).f2.f0), .bool ((rd_T32 x9_1 x11_1).f2.f1), .bool ((rd_T32 x9_1 x11_1).f3)] 32 (0, 0)) (by (with_reducible repeat (first | refine blk_drewN ?_ _ | refine blk_drew ?_ | refine blk_alloc ?_ _)); exact BK137.out) hb)
                      have n3_ := Aside0.mk (below_step (by repeat (first | (with_reducible first | exact HB.out | apply below_alloc | apply pw_below_drewN | apply below_drew1 | refine below_set ?_ GE137.out) | exact HB.out)) hb)
                      clear HO_4
                      clear HO_9
                      clear BK137
                      clear HB
                      have HO_4 := n0_
                      have HO_9 := n1_
                      have BK137 := n2_
                      have HB := n3_
                      clear n0_ n1_ n2_ n3_
                      (try clear hb)
                      (try clear hb2)
                      (try clear hk)
                      (try clear hi)
                      refine hK.out _ _ ⟨(blk_cell BK137.out 0).trans rfl, (blk_cell BK137.out 1).trans rfl, (blk_cell BK137.out 2).trans rfl, (blk_cell BK137.out 3).trans rfl, (blk_cell BK137.out 4).trans rfl, HS5_, HS6_, HS7_, HS8_, HS9_, HS10_, HS11_, HS12_, HS13_, HS14_⟩ (fun hHeld => ?_)
                      clear hK K
                      refine norm_ (a' := ?_) ?_ ?_
                      rotate_left
                      · show Act.put _ (some 37) _ = _
                        simp only [Act.put, List.setIfInBounds_toArray, List.set_cons_zero, List.set_cons_succ, i64_w, i32_w]
                        rfl
                      refine pure_ (i := 21) (N := some 38) (v := ?_) (a' := ?_) #[true, true, true, true, true, true, true, true, true, true, true, true, true, true, true, true, true, true, true, true, true, true] rfl rfl (any_of HT_.out (by kernel_rfl)) (fun _ _ _ h => h) (Or.inl ⟨by rfl, ?_⟩) ?_ ?_
                      rotate_left
                      · intro w'
                        go_simp
                        with_reducible rfl
                      rotate_left
                      · simp only [Act.put, List.setIfInBounds_toArray, List.set_cons_zero, List.set_cons_succ, i64_w, i32_w]
                        rfl
                      refine done_ (done_of HT_.out (by kernel_rfl)) ?_
                      try go_wp2
                      go_meet
                      case rel => exact ⟨_, (t140), (by first | rfl | (simp; done) | (simp [*]; done)), H', ⟨by have := HK1.out; first | omega | exact Nat.le_refl _⟩, ⟨by (try simp only [hl9_1]); (with_reducible repeat (first | apply Kd.R_alloc | apply Kd.R_drewN | apply Kd.R_drew)); exact HO_4.out⟩, ⟨by (try simp only [hl9_1]); (with_reducible repeat (first | apply Kd.R_alloc | apply Kd.R_drewN | apply Kd.R_drew)); exact HO_9.out⟩, ⟨by (try simp only [hl9_1]); (with_reducible repeat (first | refine blk_drewN ?_ _ | refine blk_drew ?_ | refine blk_alloc ?_ _)); exact BK137.out⟩, ⟨by repeat (first | (with_reducible first | exact HB.out | apply below_alloc | apply pw_below_drewN | apply below_drew1 | refine below_set ?_ GE137.out) | exact HB.out)⟩⟩
                    · rw [if_neg c16] at H
                      have c16b0 : (((rd_T32 x4_1 (ji13)).f1) == ((rd_T32 x9_1 x11_1).f0)) = false := beq_eq_false_iff_ne.mpr c16
                      have c16b1 : (((rd_T32 x4_1 (ji13)).f1) != ((rd_T32 x9_1 x11_1).f0)) = true := bne_iff_ne.mpr c16
                      have H' := Aside0.mk H
                      clear H
                      try go_wp2
                      have n0_ : Aside0 (Kd.R k32 32 (((((w9.setCell ⟨gb137, 0, none⟩ (.int .i64 ((rd_T32 x9_1 x11_1).f0))).setCell ⟨gb137, 1, none⟩ (.int .i64 ((rd_T32 x9_1 x11_1).f1))).setCell ⟨gb137, 2, none⟩ (.bool ((rd_T32 x9_1 x11_1).f2.f0))).setCell ⟨gb137, 3, none⟩ (.bool ((rd_T32 x9_1 x11_1).f2.f1))).setCell ⟨gb137, 4, none⟩ (.bool ((rd_T32 x9_1 x11_1).f3))) w.heap.size (fun k_ => some k_ ≠ (.slice (some ad136) x9_1.length co4 : Value).ownBlock ∧ k_ ≠ gb137) (.slice Ao11 x4_1.length co11) x4_1) := ⟨by (with_reducible repeat (first | apply Kd.R_alloc | apply Kd.R_drewN | apply Kd.R_drew)); exact Kd.R_mono (Kd.R_far (p := ⟨gb137, 4, none⟩) (Kd.R_far (p := ⟨gb137, 3, none⟩) (Kd.R_far (p := ⟨gb137, 2, none⟩) (Kd.R_far (p := ⟨gb137, 1, none⟩) (Kd.R_far (p := ⟨gb137, 0, none⟩) (Kd.R_mono HO_4.out (fun k_ hk => (⟨hk, hk.2⟩ : _ ∧ k_ ≠ gb137))) (fun _ hk => hk.2) (.int .i64 ((rd_T32 x9_1 x11_1).f0))) (fun _ hk => hk.2) (.int .i64 ((rd_T32 x9_1 x11_1).f1))) (fun _ hk => hk.2) (.bool ((rd_T32 x9_1 x11_1).f2.f0))) (fun _ hk => hk.2) (.bool ((rd_T32 x9_1 x11_1).f2.f1))) (fun _ hk => hk.2) (.bool ((rd_T32 x9_1 x11_1).f3))) (fun _ hk => ⟨hk.1.1, hk.1.2⟩)⟩
                      have n1_ : Aside0 (Kd.R k32 32 (((((w9.setCell ⟨gb137, 0, none⟩ (.int .i64 ((rd_T32 x9_1 x11_1).f0))).setCell ⟨gb137, 1, none⟩ (.int .i64 ((rd_T32 x9_1 x11_1).f1))).setCell ⟨gb137, 2, none⟩ (.bool ((rd_T32 x9_1 x11_1).f2.f0))).setCell ⟨gb137, 3, none⟩ (.bool ((rd_T32 x9_1 x11_1).f2.f1))).setCell ⟨gb137, 4, none⟩ (.bool ((rd_T32 x9_1 x11_1).f3))) w.heap.size (fun k_ => some k_ ≠ (.slice Ao11 x4_1.length co11 : Value).ownBlock ∧ k_ ≠ gb137) (.slice (some ad136) x9_1.length co4) x9_1) := ⟨by (with_reducible repeat (first | apply Kd.R_alloc | apply Kd.R_drewN | apply Kd.R_drew)); exact Kd.R_mono (Kd.R_far (p := ⟨gb137, 4, none⟩) (Kd.R_far (p := ⟨gb137, 3, none⟩) (Kd.R_far (p := ⟨gb137, 2, none⟩) (Kd.R_far (p := ⟨gb137, 1, none⟩) (Kd.R_far (p := ⟨gb137, 0, none⟩) (Kd.R_mono HO_9.out (fun k_ hk => (⟨hk, hk.2⟩ : _ ∧ k_ ≠ gb137))) (fun _ hk => hk.2) (.int .i64 ((rd_T32 x9_1 x11_1).f0))) (fun _ hk => hk.2) (.int .i64 ((rd_T32 x9_1 x11_1).f1))) (fun _ hk => hk.2) (.bool ((rd_T32 x9_1 x11_1).f2.f0))) (fun _ hk => hk.2) (.bool ((rd_T32 x9_1 x11_1).f2.f1))) (fun _ hk => hk.2) (.bool ((rd_T32 x9_1 x11_1).f3))) (fun _ hk => ⟨hk.1.1, hk.1.2⟩)⟩
                      have n2_ : Aside0 ((((((w9.setCell ⟨gb137, 0, none⟩ (.int .i64 ((rd_T32 x9_1 x11_1).f0))).setCell ⟨gb137, 1, none⟩ (.int .i64 ((rd_T32 x9_1 x11_1).f1))).setCell ⟨gb137, 2, none⟩ (.bool ((rd_T32 x9_1 x11_1).f2.f0))).setCell ⟨gb137, 3, none⟩ (.bool ((rd_T32 x9_1 x11_1).f2.f1))).setCell ⟨gb137, 4, none⟩ (.bool ((rd_T32 x9_1 x11_1).f3))).heap[gb137]? = some (.cells #[.int .i64 ((rd_T32 x9_1 x11_1).f0), .int .i64 ((rd_T32 x9_1 x11_1).f1), .bool ((rd_T32 x9_1 x11_1).f2.f0), .bool ((rd_T32 x9_1 x11_1).f2.f1), .bool ((rd_T32 x9_1 x11_1).f3)] 32 (0, 0))) := ⟨by (with_reducible repeat (first | refine blk_drewN ?_ _ | refine blk_drew ?_ | refine blk_alloc ?_ _)); refine blk_put (cs := #[.int .i64 ((rd_T32 x9_1 x11_1).f0), .int .i64 ((rd_T32 x9_1 x11_1).f1), .bool ((rd_T32 x9_1 x11_1).f2.f0), .bool ((rd_T32 x9_1 x11_1).f2.f1), .bool false]) ?_ 4 _ rfl; (with_reducible repeat (first | refine blk_drewN ?_ _ | refine blk_drew ?_ | refine blk_alloc ?_ _)); refine blk_put (cs := #[.int .i64 ((rd_T32 x9_1 x11_1).f0), .int .i64 ((rd_T32 x9_1 x11_1).f1), .bool ((rd_T32 x9_1 x11_1).f2.f0), .bool false, .bool false]) ?_ 3 _ rfl; (with_reducible repeat (first | refine blk_drewN ?_ _ | refine blk_drew ?_ | refine blk_alloc ?_ _)); refine blk_put (cs := #[.int .i64 ((rd_T32 x9_1 x11_1).f0), .int .i64 ((rd_T32 x9_1 x11_1).f1), .bool false, .bool false, .bool false]) ?_ 2 _ rfl; (with_reducible repeat (first | refine blk_drewN ?_ _ | refine blk_drew ?_ | refine blk_alloc ?_ _)); refine blk_put (cs := #[.int .i64 ((rd_T32 x9_1 x11_1).f0), .int .i64 0, .bool false, .bool false, .bool false]) ?_ 1 _ rfl; (with_reducible repeat (first | refine blk_drewN ?_ _ | refine blk_drew ?_ | refine blk_alloc ?_ _)); refine blk_put (cs := #[.int .i64 0, .int .i64 0, .bool false, .bool false, .bool false]) ?_ 0 _ rfl; (with_reducible repeat (first | refine blk_drewN ?_ _ | refine blk_drew ?_ | refine blk_alloc ?_ _)); exact BK137.out⟩
                      have n3_ : Aside0 (Below w.heap.size w (((((w9.setCell ⟨gb137, 0, none⟩ (.int .i64 ((rd_T32 x9_1 x11_1).f0))).setCell ⟨gb137, 1, none⟩ (.int .i64 ((rd_T32 x9_1 x11_1).f1))).setCell ⟨gb137, 2, none⟩ (.bool ((rd_T32 x9_1 x11_1).f2.f0))).setCell ⟨gb137, 3, none⟩ (.bool ((rd_T32 x9_1 x11_1).f2.f1))).setCell ⟨gb137, 4, none⟩ (.bool ((rd_T32 x9_1 x11_1).f3)))) := ⟨by repeat (first | (with_reducible first | exact HB.out | apply below_alloc | apply pw_below_drewN | apply below_drew1 | refine below_set ?_ GE137.out) | exact HB.out)⟩
                      (try clear HO_4)
                      (try clear HO_9)
                      (try clear BK137)
                      (try clear HB)
                      generalize (((((w9.setCell ⟨gb137, 0, none⟩ (.int .i64 ((rd_T32 x9_1 x11_1).f0))).setCell ⟨gb137, 1, none⟩ (.int .i64 ((rd_T32 x9_1 x11_1).f1))).setCell ⟨gb137, 2, none⟩ (.bool ((rd_T32 x9_1 x11_1).f2.f0))).setCell ⟨gb137, 3, none⟩ (.bool ((rd_T32 x9_1 x11_1).f2.f1))).setCell ⟨gb137, 4, none⟩ (.bool ((rd_T32 x9_1 x11_1).f3))) = w21 at n0_ n1_ n2_ n3_ ⊢
                      have HO_4 := n0_
                      have HO_9 := n1_
                      have BK137 := n2_
                      have HB := n3_
                      clear n0_ n1_ n2_ n3_
                      have n0_ := Aside0.mk (Kd.R_drew HO_4.out)
                      have n1_ := Aside0.mk (Kd.R_drew HO_9.out)
                      have n2_ := Aside0.mk (blk_drew BK137.out)
                      have n3_ := Aside0.mk (below_drew1 HB.out)
                      clear HO_4
                      clear HO_9
                      clear BK137
                      clear HB
                      have HO_4 := n0_
                      have HO_9 := n1_
                      have BK137 := n2_
                      have HB := n3_
                      clear n0_ n1_ n2_ n3_
                      have p138 : 0 ≤ ((ji13) : Int) := of_decide_eq_true (by first | (with_reducible assumption) | assumption)
                      have q138 : (ji13) < (x4_1.length : Int) := of_decide_eq_true (by first | (with_reducible assumption) | assumption)
                      obtain ⟨ad138, e138, hx138_0, hx138_1, hx138_2, hx138_3, hx138_4⟩ := at_T32 (Kd.R_reads' HO_4.out).2.2 (ji13) p138 q138
                      cases e138
                      replace p138 := eq_true p138
                      replace q138 := eq_true q138
                      refine start_ (n := 22) (S := fun w' => w'.cell? ⟨gb137, 0, none⟩ = some (.int .i64 ((rd_T32 x9_1 x11_1).f0)) ∧ w'.cell? ⟨gb137, 1, none⟩ = some (.int .i64 ((rd_T32 x9_1 x11_1).f1)) ∧ w'.cell? ⟨gb137, 2, none⟩ = some (.bool ((rd_T32 x9_1 x11_1).f2.f0)) ∧ w'.cell? ⟨gb137, 3, none⟩ = some (.bool ((rd_T32 x9_1 x11_1).f2.f1)) ∧ w'.cell? ⟨gb137, 4, none⟩ = some (.bool ((rd_T32 x9_1 x11_1).f3)) ∧ w'.cell? (ad138.add (((ji13)).toNat * 5)) = some (.int .i64 ((rd_T32 x4_1 (ji13)).f0)) ∧ w'.cell? ⟨(ad138.add (((ji13)).toNat * 5)).block, (ad138.add (((ji13)).toNat * 5)).off + 1, none⟩ = some (.int .i64 ((rd_T32 x4_1 (ji13)).f1)) ∧ w'.cell? ⟨(ad138.add (((ji13)).toNat * 5)).block, (ad138.add (((ji13)).toNat * 5)).off + 2, none⟩ = some (.bool ((rd_T32 x4_1 (ji13)).f2.f0)) ∧ w'.cell? ⟨(ad138.add (((ji13)).toNat * 5)).block, (ad138.add (((ji13)).toNat * 5)).off + 3, none⟩ = some (.bool ((rd_T32 x4_1 (ji13)).f2.f1)) ∧ w'.cell? ⟨(ad138.add (((ji13)).toNat * 5)).block, (ad138.add (((ji13)).toNat * 5)).off + 4, none⟩ = some (.bool ((rd_T32 x4_1 (ji13)).f3))) (ds := []) #[false, false, false, false, false, false, false, false, false, false, false, false, false, false, false, false, false, false, false, false, false, false] (by kernel_rfl) rfl rfl ⟨(blk_cell BK137.out 0).trans rfl, (blk_cell BK137.out 1).trans rfl, (blk_cell BK137.out 2).trans rfl, (blk_cell BK137.out 3).trans rfl, (blk_cell BK137.out 4).trans rfl, hx138_0, hx138_1, hx138_2, hx138_3, hx138_4⟩ (fun hHeld => ?_); refine with_tabW area_joined.tab6 area_joined.bits6 (fun HT_ HW_ => ?_)
                      generalize w21.drew = w22 at HO_4 HO_9 BK137 HB hx138_0 hx138_1 hx138_2 hx138_3 hx138_4 hHeld ⊢
                      refine pure_ (i := 0) (N := some 17) (v := ?_) (a' := ?_) #[true, false, false, false, false, false, false, false, false, false, false, false, false, false, false, false, false, false, false, false, false, false] rfl rfl (any_of HT_.out (by kernel_rfl)) (fun _ _ _ h => h) (Or.inl ⟨by rfl, ?_⟩) ?_ ?_
                      rotate_left
                      · intro w'
                        go_simp
                        with_reducible rfl
                      rotate_left
                      · simp only [Act.put, List.setIfInBounds_toArray, List.set_cons_zero, List.set_cons_succ, i64_w, i32_w]
                        rfl
                      refine pure_ (i := 1) (N := some 18) (v := ?_) (a' := ?_) #[true, true, false, false, false, false, false, false, false, false, false, false, false, false, false, false, false, false, false, false, false, false] rfl rfl (any_of HT_.out (by kernel_rfl)) (fun _ _ _ h => h) (Or.inl ⟨by rfl, ?_⟩) ?_ ?_
                      rotate_left
                      · intro w'
                        go_simp
                        with_reducible rfl
                      rotate_left
                      · simp only [Act.put, List.setIfInBounds_toArray, List.set_cons_zero, List.set_cons_succ, i64_w, i32_w]
                        rfl
                      refine pure_ (i := 2) (N := some 19) (v := ?_) (a' := ?_) #[true, true, true, false, false, false, false, false, false, false, false, false, false, false, false, false, false, false, false, false, false, false] rfl rfl (any_of HT_.out (by kernel_rfl)) (fun _ _ _ h => h) (Or.inl ⟨by rfl, ?_⟩) ?_ ?_
                      rotate_left
                      · intro w'
                        go_simp
                        with_reducible rfl
                      rotate_left
                      · simp only [Act.put, List.setIfInBounds_toArray, List.set_cons_zero, List.set_cons_succ, i64_w, i32_w]
                        rfl
                      refine pure_ (i := 3) (N := some 20) (v := ?_) (a' := ?_) #[true, true, true, true, false, false, false, false, false, false, false, false, false, false, false, false, false, false, false, false, false, false] rfl rfl (any_of HT_.out (by kernel_rfl)) (fun _ _ _ h => h) (Or.inl ⟨by rfl, ?_⟩) ?_ ?_
                      rotate_left
                      · intro w'
                        go_simp
                        with_reducible rfl
                      rotate_left
                      · simp only [Act.put, List.setIfInBounds_toArray, List.set_cons_zero, List.set_cons_succ, i64_w, i32_w]
                        rfl
                      refine pure_ (i := 4) (N := some 21) (v := ?_) (a' := ?_) #[true, true, true, true, true, false, false, false, false, false, false, false, false, false, false, false, false, false, false, false, false, false] rfl rfl (any_of HT_.out (by kernel_rfl)) (fun _ _ _ h => h) (Or.inl ⟨by rfl, ?_⟩) ?_ ?_
                      rotate_left
                      · intro w'
                        go_simp
                        with_reducible rfl
                      rotate_left
                      · simp only [Act.put, List.setIfInBounds_toArray, List.set_cons_zero, List.set_cons_succ, i64_w, i32_w]
                        rfl
                      refine pure_ (i := 5) (N := some 22) (v := ?_) (a' := ?_) #[true, true, true, true, true, true, false, false, false, false, false, false, false, false, false, false, false, false, false, false, false, false] rfl rfl (any_of HT_.out (by kernel_rfl)) (fun _ _ _ h => h) (Or.inl ⟨by rfl, ?_⟩) ?_ ?_
                      rotate_left
                      · intro w'
                        go_simp
                        with_reducible rfl
                      rotate_left
                      · simp only [Act.put, List.setIfInBounds_toArray, List.set_cons_zero, List.set_cons_succ, i64_w, i32_w]
                        rfl
                      refine pure_ (i := 6) (N := some 23) (v := ?_) (a' := ?_) #[true, true, true, true, true, true, true, false, false, false, false, false, false, false, false, false, false, false, false, false, false, false] rfl rfl (any_of HT_.out (by kernel_rfl)) (fun _ _ _ h => h) (Or.inl ⟨by rfl, ?_⟩) ?_ ?_
                      rotate_left
                      · intro w'
                        go_simp
                        with_reducible rfl
                      rotate_left
                      · simp only [Act.put, List.setIfInBounds_toArray, List.set_cons_zero, List.set_cons_succ, i64_w, i32_w]
                        rfl
                      refine pure_ (i := 7) (N := some 24) (v := ?_) (a' := ?_) #[true, true, true, true, true, true, true, true, false, false, false, false, false, false, false, false, false, false, false, false, false, false] rfl rfl (any_of HT_.out (by kernel_rfl)) (fun _ _ _ h => h) (Or.inl ⟨by rfl, ?_⟩) ?_ ?_
                      rotate_left
                      · intro w'
                        go_simp
                        with_reducible rfl
                      rotate_left
                      · simp only [Act.put, List.setIfInBounds_toArray, List.set_cons_zero, List.set_cons_succ, i64_w, i32_w]
                        rfl
                      refine pure_ (i := 9) (N := some 26) (v := ?_) (a' := ?_) #[true, true, true, true, true, true, true, true, false, true, false, false, false, false, false, false, false, false, false, false, false, false] rfl rfl (any_of HT_.out (by kernel_rfl)) (fun _ _ _ h => h) (Or.inl ⟨by rfl, ?_⟩) ?_ ?_
                      rotate_left
                      · intro w'
                        go_simp
                        with_reducible rfl
                      rotate_left
                      · simp only [Act.put, List.setIfInBounds_toArray, List.set_cons_zero, List.set_cons_succ, i64_w, i32_w]
                        rfl
                      refine take_ (i := 8) (N := some 25) (v := ?_) (a' := ?_) #[true, true, true, true, true, true, true, true, true, true, false, false, false, false, false, false, false, false, false, false, false, false] rfl rfl (take_ofW HT_.out HW_.out (by kernel_rfl)) (fun _ _ _ h => h) (Or.inl ⟨by rfl, ?_⟩) hHeld ?_ ?_
                      rotate_left
                      · rintro w' ⟨s0, s1, s2, s3, s4, s5, s6, s7, s8, s9⟩
                        go_simp
                        with_reducible rfl
                      rotate_left
                      · simp only [Act.put, List.setIfInBounds_toArray, List.set_cons_zero, List.set_cons_succ, i64_w, i32_w]
                        rfl
                      refine take_ (i := 10) (N := some 27) (v := ?_) (a' := ?_) #[true, true, true, true, true, true, true, true, true, true, true, false, false, false, false, false, false, false, false, false, false, false] rfl rfl (take_ofW HT_.out HW_.out (by kernel_rfl)) (fun _ _ _ h => h) (Or.inl ⟨by rfl, ?_⟩) hHeld ?_ ?_
                      rotate_left
                      · rintro w' ⟨s0, s1, s2, s3, s4, s5, s6, s7, s8, s9⟩
                        go_simp
                        with_reducible rfl
                      rotate_left
                      · simp only [Act.put, List.setIfInBounds_toArray, List.set_cons_zero, List.set_cons_succ, i64_w, i32_w]
                        rfl
                      refine pure_ (i := 11) (N := some 28) (v := ?_) (a' := ?_) #[true, true, true, true, true, true, true, true, true, true, true, true, false, false, false, false, false, false, false, false, false, false] rfl rfl (any_of HT_.out (by kernel_rfl)) (fun _ _ _ h => h) (Or.inl ⟨by rfl, ?_⟩) ?_ ?_
                      rotate_left
                      · intro w'
                        go_simp
                        with_reducible rfl
                      rotate_left
                      · simp only [Act.put, List.setIfInBounds_toArray, List.set_cons_zero, List.set_cons_succ, i64_w, i32_w]
                        rfl
                      refine pure_ (i := 12) (N := some 29) (v := ?_) (a' := ?_) #[true, true, true, true, true, true, true, true, true, true, true, true, true, false, false, false, false, false, false, false, false, false] rfl rfl (any_of HT_.out (by kernel_rfl)) (fun _ _ _ h => h) (Or.inl ⟨by rfl, ?_⟩) ?_ ?_
                      rotate_left
                      · intro w'
                        go_simp
                        with_reducible rfl
                      rotate_left
                      · simp only [Act.put, List.setIfInBounds_toArray, List.set_cons_zero, List.set_cons_succ, i64_w, i32_w]
                        rfl
                      refine pure_ (i := 13) (N := some 30) (v := ?_) (a' := ?_) #[true, true, true, true, true, true, true, true, true, true, true, true, true, true, false, false, false, false, false, false, false, false] rfl rfl (any_of HT_.out (by kernel_rfl)) (fun _ _ _ h => h) (Or.inl ⟨by rfl, ?_⟩) ?_ ?_
                      rotate_left
                      · intro w'
                        go_simp
                        with_reducible rfl
                      rotate_left
                      · simp only [Act.put, List.setIfInBounds_toArray, List.set_cons_zero, List.set_cons_succ, i64_w, i32_w]
                        rfl
                      refine pure_ (i := 14) (N := some 31) (v := undef) (a' := ?_) #[true, true, true, true, true, true, true, true, true, true, true, true, true, true, true, false, false, false, false, false, false, false] rfl rfl (any_of HT_.out (by kernel_rfl)) (fun _ _ _ h => h) (Or.inr ⟨by rfl, rfl⟩) ?_ ?_
                      rotate_left
                      · simp only [Act.put, List.setIfInBounds_toArray, List.set_cons_zero, List.set_cons_succ, i64_w, i32_w]
                        rfl
                      refine pure_ (i := 15) (N := some 32) (v := undef) (a' := ?_) #[true, true, true, true, true, true, true, true, true, true, true, true, true, true, true, true, false, false, false, false, false, false] rfl rfl (any_of HT_.out (by kernel_rfl)) (fun _ _ _ h => h) (Or.inr ⟨by rfl, rfl⟩) ?_ ?_
                      rotate_left
                      · simp only [Act.put, List.setIfInBounds_toArray, List.set_cons_zero, List.set_cons_succ, i64_w, i32_w]
                        rfl
                      refine pure_ (i := 16) (N := some 33) (v := undef) (a' := ?_) #[true, true, true, true, true, true, true, true, true, true, true, true, true, true, true, true, true, false, false, false, false, false] rfl rfl (any_of HT_.out (by kernel_rfl)) (fun _ _ _ h => h) (Or.inr ⟨by rfl, rfl⟩) ?_ ?_
                      rotate_left
                      · simp only [Act.put, List.setIfInBounds_toArray, List.set_cons_zero, List.set_cons_succ, i64_w, i32_w]
                        rfl
                      refine pure_ (i := 17) (N := some 34) (v := undef) (a' := ?_) #[true, true, true, true, true, true, true, true, true, true, true, true, true, true, true, true, true, true, false, false, false, false] rfl rfl (any_of HT_.out (by kernel_rfl)) (fun _ _ _ h => h) (Or.inr ⟨by rfl, rfl⟩) ?_ ?_
                      rotate_left
                      · simp only [Act.put, List.setIfInBounds_toArray, List.set_cons_zero, List.set_cons_succ, i64_w, i32_w]
                        rfl
                      refine pure_ (i := 18) (N := some 35) (v := undef) (a' := ?_) #[true, true, true, true, true, true, true, true, true, true, true, true, true, true, true, true, true, true, true, false, false, false] rfl rfl (any_of HT_.out (by kernel_rfl)) (fun _ _ _ h => h) (Or.inr ⟨by rfl, rfl⟩) ?_ ?_
                      rotate_left
                      · simp only [Act.put, List.setIfInBounds_toArray, List.set_cons_zero, List.set_cons_succ, i64_w, i32_w]
                        rfl
                      refine pure_ (i := 19) (N := some 36) (v := undef) (a' := ?_) #[true, true, true, true, true, true, true, true, true, true, true, true, true, true, true, true, true, true, true, true, false, false] rfl rfl (any_of HT_.out (by kernel_rfl)) (fun _ _ _ h => h) (Or.inr ⟨by rfl, rfl⟩) ?_ ?_
                      rotate_left
                      · simp only [Act.put, List.setIfInBounds_toArray, List.set_cons_zero, List.set_cons_succ, i64_w, i32_w]
                        rfl
                      refine pure_ (i := 20) (N := some 37) (v := undef) (a' := ?_) #[true, true, true, true, true, true, true, true, true, true, true, true, true, true, true, true, true, true, true, true, true, false] rfl rfl (any_of HT_.out (by kernel_rfl)) (fun _ _ _ h => h) (Or.inr ⟨by rfl, rfl⟩) ?_ ?_
                      rotate_left
                      · simp only [Act.put, List.setIfInBounds_toArray, List.set_cons_zero, List.set_cons_succ, i64_w, i32_w]
                        rfl
                      refine pure_ (i := 21) (N := some 38) (v := ?_) (a' := ?_) #[true, true, true, true, true, true, true, true, true, true, true, true, true, true, true, true, true, true, true, true, true, true] rfl rfl (any_of HT_.out (by kernel_rfl)) (fun _ _ _ h => h) (Or.inl ⟨by rfl, ?_⟩) ?_ ?_
                      rotate_left
                      · intro w'
                        go_simp
                        with_reducible rfl
                      rotate_left
                      · simp only [Act.put, List.setIfInBounds_toArray, List.set_cons_zero, List.set_cons_succ, i64_w, i32_w]
                        rfl
                      refine done_ (done_of HT_.out (by kernel_rfl)) ?_
                      try go_wp2
                      go_meet
                      case rel => exact ⟨_, (false), (by first | rfl | (simp; done) | (simp [*]; done)), H', ⟨by have := HK1.out; first | omega | exact Nat.le_refl _⟩, ⟨by (try simp only [hl9_1]); (with_reducible repeat (first | apply Kd.R_alloc | apply Kd.R_drewN | apply Kd.R_drew)); exact HO_4.out⟩, ⟨by (try simp only [hl9_1]); (with_reducible repeat (first | apply Kd.R_alloc | apply Kd.R_drewN | apply Kd.R_drew)); exact HO_9.out⟩, ⟨by (try simp only [hl9_1]); (with_reducible repeat (first | refine blk_drewN ?_ _ | refine blk_drew ?_ | refine blk_alloc ?_ _)); exact BK137.out⟩, ⟨by repeat (first | (with_reducible first | exact HB.out | apply below_alloc | apply pw_below_drewN | apply below_drew1 | refine below_set ?_ GE137.out) | exact HB.out)⟩⟩
                  · rw [if_neg c15] at H
                    exact absurd H (by simp)
                · rw [if_neg c14] at H
                  exact absurd H (by simp)
              · rw [if_neg c12] at H
                have c12b0 : decide (0 < (x4_1.length : Int)) = false := decide_eq_false c12
                try rw [hl9_1] at c12b0
                have c12b1 : decide (0 < x4_1.length) = false := decide_eq_false (by omega)
                try rw [hl9_1] at c12b1
                clear c12
                (first | rw [c12b0] | (simp only [i64_w, i32_w]; rw [c12b0]) | skip)
                have H' := Aside0.mk H
                clear H
                try go_wp2
                have n0_ : Aside0 (Kd.R k32 32 (((((w9.setCell ⟨gb137, 0, none⟩ (.int .i64 ((rd_T32 x9_1 x11_1).f0))).setCell ⟨gb137, 1, none⟩ (.int .i64 ((rd_T32 x9_1 x11_1).f1))).setCell ⟨gb137, 2, none⟩ (.bool ((rd_T32 x9_1 x11_1).f2.f0))).setCell ⟨gb137, 3, none⟩ (.bool ((rd_T32 x9_1 x11_1).f2.f1))).setCell ⟨gb137, 4, none⟩ (.bool ((rd_T32 x9_1 x11_1).f3))) w.heap.size (fun k_ => some k_ ≠ (.slice (some ad136) x9_1.length co4 : Value).ownBlock ∧ k_ ≠ gb137) (.slice Ao11 x4_1.length co11) x4_1) := ⟨by (with_reducible repeat (first | apply Kd.R_alloc | apply Kd.R_drewN | apply Kd.R_drew)); exact Kd.R_mono (Kd.R_far (p := ⟨gb137, 4, none⟩) (Kd.R_far (p := ⟨gb137, 3, none⟩) (Kd.R_far (p := ⟨gb137, 2, none⟩) (Kd.R_far (p := ⟨gb137, 1, none⟩) (Kd.R_far (p := ⟨gb137, 0, none⟩) (Kd.R_mono HO_4.out (fun k_ hk => (⟨hk, hk.2⟩ : _ ∧ k_ ≠ gb137))) (fun _ hk => hk.2) (.int .i64 ((rd_T32 x9_1 x11_1).f0))) (fun _ hk => hk.2) (.int .i64 ((rd_T32 x9_1 x11_1).f1))) (fun _ hk => hk.2) (.bool ((rd_T32 x9_1 x11_1).f2.f0))) (fun _ hk => hk.2) (.bool ((rd_T32 x9_1 x11_1).f2.f1))) (fun _ hk => hk.2) (.bool ((rd_T32 x9_1 x11_1).f3))) (fun _ hk => ⟨hk.1.1, hk.1.2⟩)⟩
                have n1_ : Aside0 (Kd.R k32 32 (((((w9.setCell ⟨gb137, 0, none⟩ (.int .i64 ((rd_T32 x9_1 x11_1).f0))).setCell ⟨gb137, 1, none⟩ (.int .i64 ((rd_T32 x9_1 x11_1).f1))).setCell ⟨gb137, 2, none⟩ (.bool ((rd_T32 x9_1 x11_1).f2.f0))).setCell ⟨gb137, 3, none⟩ (.bool ((rd_T32 x9_1 x11_1).f2.f1))).setCell ⟨gb137, 4, none⟩ (.bool ((rd_T32 x9_1 x11_1).f3))) w.heap.size (fun k_ => some k_ ≠ (.slice Ao11 x4_1.length co11 : Value).ownBlock ∧ k_ ≠ gb137) (.slice (some ad136) x9_1.length co4) x9_1) := ⟨by (with_reducible repeat (first | apply Kd.R_alloc | apply Kd.R_drewN | apply Kd.R_drew)); exact Kd.R_mono (Kd.R_far (p := ⟨gb137, 4, none⟩) (Kd.R_far (p := ⟨gb137, 3, none⟩) (Kd.R_far (p := ⟨gb137, 2, none⟩) (Kd.R_far (p := ⟨gb137, 1, none⟩) (Kd.R_far (p := ⟨gb137, 0, none⟩) (Kd.R_mono HO_9.out (fun k_ hk => (⟨hk, hk.2⟩ : _ ∧ k_ ≠ gb137))) (fun _ hk => hk.2) (.int .i64 ((rd_T32 x9_1 x11_1).f0))) (fun _ hk => hk.2) (.int .i64 ((rd_T32 x9_1 x11_1).f1))) (fun _ hk => hk.2) (.bool ((rd_T32 x9_1 x11_1).f2.f0))) (fun _ hk => hk.2) (.bool ((rd_T32 x9_1 x11_1).f2.f1))) (fun _ hk => hk.2) (.bool ((rd_T32 x9_1 x11_1).f3))) (fun _ hk => ⟨hk.1.1, hk.1.2⟩)⟩
                have n2_ : Aside0 ((((((w9.setCell ⟨gb137, 0, none⟩ (.int .i64 ((rd_T32 x9_1 x11_1).f0))).setCell ⟨gb137, 1, none⟩ (.int .i64 ((rd_T32 x9_1 x11_1).f1))).setCell ⟨gb137, 2, none⟩ (.bool ((rd_T32 x9_1 x11_1).f2.f0))).setCell ⟨gb137, 3, none⟩ (.bool ((rd_T32 x9_1 x11_1).f2.f1))).setCell ⟨gb137, 4, none⟩ (.bool ((rd_T32 x9_1 x11_1).f3))).heap[gb137]? = some (.cells #[.int .i64 ((rd_T32 x9_1 x11_1).f0), .int .i64 ((rd_T32 x9_1 x11_1).f1), .bool ((rd_T32 x9_1 x11_1).f2.f0), .bool ((rd_T32 x9_1 x11_1).f2.f1), .bool ((rd_T32 x9_1 x11_1).f3)] 32 (0, 0))) := ⟨by (with_reducible repeat (first | refine blk_drewN ?_ _ | refine blk_drew ?_ | refine blk_alloc ?_ _)); refine blk_put (cs := #[.int .i64 ((rd_T32 x9_1 x11_1).f0), .int .i64 ((rd_T32 x9_1 x11_1).f1), .bool ((rd_T32 x9_1 x11_1).f2.f0), .bool ((rd_T32 x9_1 x11_1).f2.f1), .bool false]) ?_ 4 _ rfl; (with_reducible repeat (first | refine blk_drewN ?_ _ | refine blk_drew ?_ | refine blk_alloc ?_ _)); refine blk_put (cs := #[.int .i64 ((rd_T32 x9_1 x11_1).f0), .int .i64 ((rd_T32 x9_1 x11_1).f1), .bool ((rd_T32 x9_1 x11_1).f2.f0), .bool false, .bool false]) ?_ 3 _ rfl; (with_reducible repeat (first | refine blk_drewN ?_ _ | refine blk_drew ?_ | refine blk_alloc ?_ _)); refine blk_put (cs := #[.int .i64 ((rd_T32 x9_1 x11_1).f0), .int .i64 ((rd_T32 x9_1 x11_1).f1), .bool false, .bool false, .bool false]) ?_ 2 _ rfl; (with_reducible repeat (first | refine blk_drewN ?_ _ | refine blk_drew ?_ | refine blk_alloc ?_ _)); refine blk_put (cs := #[.int .i64 ((rd_T32 x9_1 x11_1).f0), .int .i64 0, .bool false, .bool false, .bool false]) ?_ 1 _ rfl; (with_reducible repeat (first | refine blk_drewN ?_ _ | refine blk_drew ?_ | refine blk_alloc ?_ _)); refine blk_put (cs := #[.int .i64 0, .int .i64 0, .bool false, .bool false, .bool false]) ?_ 0 _ rfl; (with_reducible repeat (first | refine blk_drewN ?_ _ | refine blk_drew ?_ | refine blk_alloc ?_ _)); exact BK137.out⟩
                have n3_ : Aside0 (Below w.heap.size w (((((w9.setCell ⟨gb137, 0, none⟩ (.int .i64 ((rd_T32 x9_1 x11_1).f0))).setCell ⟨gb137, 1, none⟩ (.int .i64 ((rd_T32 x9_1 x11_1).f1))).setCell ⟨gb137, 2, none⟩ (.bool ((rd_T32 x9_1 x11_1).f2.f0))).setCell ⟨gb137, 3, none⟩ (.bool ((rd_T32 x9_1 x11_1).f2.f1))).setCell ⟨gb137, 4, none⟩ (.bool ((rd_T32 x9_1 x11_1).f3)))) := ⟨by repeat (first | (with_reducible first | exact HB.out | apply below_alloc | apply pw_below_drewN | apply below_drew1 | refine below_set ?_ GE137.out) | exact HB.out)⟩
                (try clear HO_4)
                (try clear HO_9)
                (try clear BK137)
                (try clear HB)
                generalize (((((w9.setCell ⟨gb137, 0, none⟩ (.int .i64 ((rd_T32 x9_1 x11_1).f0))).setCell ⟨gb137, 1, none⟩ (.int .i64 ((rd_T32 x9_1 x11_1).f1))).setCell ⟨gb137, 2, none⟩ (.bool ((rd_T32 x9_1 x11_1).f2.f0))).setCell ⟨gb137, 3, none⟩ (.bool ((rd_T32 x9_1 x11_1).f2.f1))).setCell ⟨gb137, 4, none⟩ (.bool ((rd_T32 x9_1 x11_1).f3))) = w23 at n0_ n1_ n2_ n3_ ⊢
                have HO_4 := n0_
                have HO_9 := n1_
                have BK137 := n2_
                have HB := n3_
                clear n0_ n1_ n2_ n3_
                have n0_ := Aside0.mk (Kd.R_drew HO_4.out)
                have n1_ := Aside0.mk (Kd.R_drew HO_9.out)
                have n2_ := Aside0.mk (blk_drew BK137.out)
                have n3_ := Aside0.mk (below_drew1 HB.out)
                clear HO_4
                clear HO_9
                clear BK137
                clear HB
                have HO_4 := n0_
                have HO_9 := n1_
                have BK137 := n2_
                have HB := n3_
                clear n0_ n1_ n2_ n3_
                refine start_ (n := 22) (S := fun w' => True) (ds := []) #[false, false, false, false, false, false, false, false, false, false, false, false, false, false, false, false, false, false, false, false, false, false] (by kernel_rfl) rfl rfl trivial (fun hHeld => ?_); refine with_tabW area_joined.tab6 area_joined.bits6 (fun HT_ HW_ => ?_)
                generalize w23.drew = w24 at HO_4 HO_9 BK137 HB hHeld ⊢
                refine pure_ (i := 0) (N := some 17) (v := ?_) (a' := ?_) #[true, false, false, false, false, false, false, false, false, false, false, false, false, false, false, false, false, false, false, false, false, false] rfl rfl (any_of HT_.out (by kernel_rfl)) (fun _ _ _ h => h) (Or.inl ⟨by rfl, ?_⟩) ?_ ?_
                rotate_left
                · intro w'
                  go_simp
                  with_reducible rfl
                rotate_left
                · simp only [Act.put, List.setIfInBounds_toArray, List.set_cons_zero, List.set_cons_succ, i64_w, i32_w]
                  rfl
                refine pure_ (i := 1) (N := some 18) (v := ?_) (a' := ?_) #[true, true, false, false, false, false, false, false, false, false, false, false, false, false, false, false, false, false, false, false, false, false] rfl rfl (any_of HT_.out (by kernel_rfl)) (fun _ _ _ h => h) (Or.inl ⟨by rfl, ?_⟩) ?_ ?_
                rotate_left
                · intro w'
                  go_simp
                  with_reducible rfl
                rotate_left
                · simp only [Act.put, List.setIfInBounds_toArray, List.set_cons_zero, List.set_cons_succ, i64_w, i32_w]
                  rfl
                refine pure_ (i := 2) (N := some 19) (v := ?_) (a' := ?_) #[true, true, true, false, false, false, false, false, false, false, false, false, false, false, false, false, false, false, false, false, false, false] rfl rfl (any_of HT_.out (by kernel_rfl)) (fun _ _ _ h => h) (Or.inl ⟨by rfl, ?_⟩) ?_ ?_
                rotate_left
                · intro w'
                  go_simp
                  with_reducible rfl
                rotate_left
                · simp only [Act.put, List.setIfInBounds_toArray, List.set_cons_zero, List.set_cons_succ, i64_w, i32_w]
                  rfl
                refine pure_ (i := 3) (N := some 20) (v := undef) (a' := ?_) #[true, true, true, true, false, false, false, false, false, false, false, false, false, false, false, false, false, false, false, false, false, false] rfl rfl (any_of HT_.out (by kernel_rfl)) (fun _ _ _ h => h) (Or.inr ⟨by rfl, rfl⟩) ?_ ?_
                rotate_left
                · simp only [Act.put, List.setIfInBounds_toArray, List.set_cons_zero, List.set_cons_succ, i64_w, i32_w]
                  rfl
                refine pure_ (i := 4) (N := some 21) (v := undef) (a' := ?_) #[true, true, true, true, true, false, false, false, false, false, false, false, false, false, false, false, false, false, false, false, false, false] rfl rfl (any_of HT_.out (by kernel_rfl)) (fun _ _ _ h => h) (Or.inr ⟨by rfl, rfl⟩) ?_ ?_
                rotate_left
                · simp only [Act.put, List.setIfInBounds_toArray, List.set_cons_zero, List.set_cons_succ, i64_w, i32_w]
                  rfl
                refine pure_ (i := 5) (N := some 22) (v := undef) (a' := ?_) #[true, true, true, true, true, true, false, false, false, false, false, false, false, false, false, false, false, false, false, false, false, false] rfl rfl (any_of HT_.out (by kernel_rfl)) (fun _ _ _ h => h) (Or.inr ⟨by rfl, rfl⟩) ?_ ?_
                rotate_left
                · simp only [Act.put, List.setIfInBounds_toArray, List.set_cons_zero, List.set_cons_succ, i64_w, i32_w]
                  rfl
                refine pure_ (i := 6) (N := some 23) (v := undef) (a' := ?_) #[true, true, true, true, true, true, true, false, false, false, false, false, false, false, false, false, false, false, false, false, false, false] rfl rfl (any_of HT_.out (by kernel_rfl)) (fun _ _ _ h => h) (Or.inr ⟨by rfl, rfl⟩) ?_ ?_
                rotate_left
                · simp only [Act.put, List.setIfInBounds_toArray, List.set_cons_zero, List.set_cons_succ, i64_w, i32_w]
                  rfl
                refine pure_ (i := 7) (N := some 24) (v := undef) (a' := ?_) #[true, true, true, true, true, true, true, true, false, false, false, false, false, false, false, false, false, false, false, false, false, false] rfl rfl (any_of HT_.out (by kernel_rfl)) (fun _ _ _ h => h) (Or.inr ⟨by rfl, rfl⟩) ?_ ?_
                rotate_left
                · simp only [Act.put, List.setIfInBounds_toArray, List.set_cons_zero, List.set_cons_succ, i64_w, i32_w]
                  rfl
                refine pure_ (i := 8) (N := some 25) (v := undef) (a' := ?_) #[true, true, true, true, true, true, true, true, true, false, false, false, false, false, false, false, false, false, false, false, false, false] rfl rfl (any_of HT_.out (by kernel_rfl)) (fun _ _ _ h => h) (Or.inr ⟨by rfl, rfl⟩) ?_ ?_
                rotate_left
                · simp only [Act.put, List.setIfInBounds_toArray, List.set_cons_zero, List.set_cons_succ, i64_w, i32_w]
                  rfl
                refine pure_ (i := 9) (N := some 26) (v := undef) (a' := ?_) #[true, true, true, true, true, true, true, true, true, true, false, false, false, false, false, false, false, false, false, false, false, false] rfl rfl (any_of HT_.out (by kernel_rfl)) (fun _ _ _ h => h) (Or.inr ⟨by rfl, rfl⟩) ?_ ?_
                rotate_left
                · simp only [Act.put, List.setIfInBounds_toArray, List.set_cons_zero, List.set_cons_succ, i64_w, i32_w]
                  rfl
                refine pure_ (i := 10) (N := some 27) (v := undef) (a' := ?_) #[true, true, true, true, true, true, true, true, true, true, true, false, false, false, false, false, false, false, false, false, false, false] rfl rfl (any_of HT_.out (by kernel_rfl)) (fun _ _ _ h => h) (Or.inr ⟨by rfl, rfl⟩) ?_ ?_
                rotate_left
                · simp only [Act.put, List.setIfInBounds_toArray, List.set_cons_zero, List.set_cons_succ, i64_w, i32_w]
                  rfl
                refine pure_ (i := 11) (N := some 28) (v := undef) (a' := ?_) #[true, true, true, true, true, true, true, true, true, true, true, true, false, false, false, false, false, false, false, false, false, false] rfl rfl (any_of HT_.out (by kernel_rfl)) (fun _ _ _ h => h) (Or.inr ⟨by rfl, rfl⟩) ?_ ?_
                rotate_left
                · simp only [Act.put, List.setIfInBounds_toArray, List.set_cons_zero, List.set_cons_succ, i64_w, i32_w]
                  rfl
                refine pure_ (i := 12) (N := some 29) (v := ?_) (a' := ?_) #[true, true, true, true, true, true, true, true, true, true, true, true, true, false, false, false, false, false, false, false, false, false] rfl rfl (any_of HT_.out (by kernel_rfl)) (fun _ _ _ h => h) (Or.inl ⟨by rfl, ?_⟩) ?_ ?_
                rotate_left
                · intro w'
                  go_simp
                  with_reducible rfl
                rotate_left
                · simp only [Act.put, List.setIfInBounds_toArray, List.set_cons_zero, List.set_cons_succ, i64_w, i32_w]
                  rfl
                refine pure_ (i := 13) (N := some 30) (v := ?_) (a' := ?_) #[true, true, true, true, true, true, true, true, true, true, true, true, true, true, false, false, false, false, false, false, false, false] rfl rfl (any_of HT_.out (by kernel_rfl)) (fun _ _ _ h => h) (Or.inl ⟨by rfl, ?_⟩) ?_ ?_
                rotate_left
                · intro w'
                  go_simp
                  with_reducible rfl
                rotate_left
                · simp only [Act.put, List.setIfInBounds_toArray, List.set_cons_zero, List.set_cons_succ, i64_w, i32_w]
                  rfl
                refine pure_ (i := 14) (N := some 31) (v := undef) (a' := ?_) #[true, true, true, true, true, true, true, true, true, true, true, true, true, true, true, false, false, false, false, false, false, false] rfl rfl (any_of HT_.out (by kernel_rfl)) (fun _ _ _ h => h) (Or.inr ⟨by rfl, rfl⟩) ?_ ?_
                rotate_left
                · simp only [Act.put, List.setIfInBounds_toArray, List.set_cons_zero, List.set_cons_succ, i64_w, i32_w]
                  rfl
                refine pure_ (i := 15) (N := some 32) (v := undef) (a' := ?_) #[true, true, true, true, true, true, true, true, true, true, true, true, true, true, true, true, false, false, false, false, false, false] rfl rfl (any_of HT_.out (by kernel_rfl)) (fun _ _ _ h => h) (Or.inr ⟨by rfl, rfl⟩) ?_ ?_
                rotate_left
                · simp only [Act.put, List.setIfInBounds_toArray, List.set_cons_zero, List.set_cons_succ, i64_w, i32_w]
                  rfl
                refine pure_ (i := 16) (N := some 33) (v := undef) (a' := ?_) #[true, true, true, true, true, true, true, true, true, true, true, true, true, true, true, true, true, false, false, false, false, false] rfl rfl (any_of HT_.out (by kernel_rfl)) (fun _ _ _ h => h) (Or.inr ⟨by rfl, rfl⟩) ?_ ?_
                rotate_left
                · simp only [Act.put, List.setIfInBounds_toArray, List.set_cons_zero, List.set_cons_succ, i64_w, i32_w]
                  rfl
                refine pure_ (i := 17) (N := some 34) (v := undef) (a' := ?_) #[true, true, true, true, true, true, true, true, true, true, true, true, true, true, true, true, true, true, false, false, false, false] rfl rfl (any_of HT_.out (by kernel_rfl)) (fun _ _ _ h => h) (Or.inr ⟨by rfl, rfl⟩) ?_ ?_
                rotate_left
                · simp only [Act.put, List.setIfInBounds_toArray, List.set_cons_zero, List.set_cons_succ, i64_w, i32_w]
                  rfl
                refine pure_ (i := 18) (N := some 35) (v := undef) (a' := ?_) #[true, true, true, true, true, true, true, true, true, true, true, true, true, true, true, true, true, true, true, false, false, false] rfl rfl (any_of HT_.out (by kernel_rfl)) (fun _ _ _ h => h) (Or.inr ⟨by rfl, rfl⟩) ?_ ?_
                rotate_left
                · simp only [Act.put, List.setIfInBounds_toArray, List.set_cons_zero, List.set_cons_succ, i64_w, i32_w]
                  rfl
                refine pure_ (i := 19) (N := some 36) (v := undef) (a' := ?_) #[true, true, true, true, true, true, true, true, true, true, true, true, true, true, true, true, true, true, true, true, false, false] rfl rfl (any_of HT_.out (by kernel_rfl)) (fun _ _ _ h => h) (Or.inr ⟨by rfl, rfl⟩) ?_ ?_
                rotate_left
                · simp only [Act.put, List.setIfInBounds_toArray, List.set_cons_zero, List.set_cons_succ, i64_w, i32_w]
                  rfl
                refine pure_ (i := 20) (N := some 37) (v := undef) (a' := ?_) #[true, true, true, true, true, true, true, true, true, true, true, true, true, true, true, true, true, true, true, true, true, false] rfl rfl (any_of HT_.out (by kernel_rfl)) (fun _ _ _ h => h) (Or.inr ⟨by rfl, rfl⟩) ?_ ?_
                rotate_left
                · simp only [Act.put, List.setIfInBounds_toArray, List.set_cons_zero, List.set_cons_succ, i64_w, i32_w]
                  rfl
                refine pure_ (i := 21) (N := some 38) (v := ?_) (a' := ?_) #[true, true, true, true, true, true, true, true, true, true, true, true, true, true, true, true, true, true, true, true, true, true] rfl rfl (any_of HT_.out (by kernel_rfl)) (fun _ _ _ h => h) (Or.inl ⟨by rfl, ?_⟩) ?_ ?_
                rotate_left
                · intro w'
                  go_simp
                  with_reducible rfl
                rotate_left
                · simp only [Act.put, List.setIfInBounds_toArray, List.set_cons_zero, List.set_cons_succ, i64_w, i32_w]
                  rfl
                refine done_ (done_of HT_.out (by kernel_rfl)) ?_
                try go_wp2
                go_meet
                case rel => exact ⟨_, (false), (by first | rfl | (simp; done) | (simp [*]; done)), H', ⟨by have := HK1.out; first | omega | exact Nat.le_refl _⟩, ⟨by (try simp only [hl9_1]); (with_reducible repeat (first | apply Kd.R_alloc | apply Kd.R_drewN | apply Kd.R_drew)); exact HO_4.out⟩, ⟨by (try simp only [hl9_1]); (with_reducible repeat (first | apply Kd.R_alloc | apply Kd.R_drewN | apply Kd.R_drew)); exact HO_9.out⟩, ⟨by (try simp only [hl9_1]); (with_reducible repeat (first | refine blk_drewN ?_ _ | refine blk_drew ?_ | refine blk_alloc ?_ _)); exact BK137.out⟩, ⟨by repeat (first | (with_reducible first | exact HB.out | apply below_alloc | apply pw_below_drewN | apply below_drew1 | refine below_set ?_ GE137.out) | exact HB.out)⟩⟩
            case rest =>
              clear HC8
              try clear c1
              try clear p1
              try clear q1
              try clear hx1
              try clear p2
              try clear c3
              try clear c12
              try clear c12b0
              try clear c12b1
              try clear p13
              try clear q13
              try clear hx13
              try clear c14
              try clear c15
              try clear c16
              try clear c16b0
              try clear c16b1
              try clear hx138_0
              try clear hx138_1
              try clear hx138_2
              try clear hx138_3
              try clear hx138_4
              try clear hx139_0
              try clear hx139_1
              try clear hx139_2
              try clear hx139_3
              try clear hx139_4
              try clear p138
              try clear p139
              try clear q138
              try clear q139
              obtain ⟨kq, x38_7, rfl, HA, HJ7, HO_4, HO_9, BK137, HB⟩ := hcut
              cases kq with
              | zero => exact absurd HA.out (by simp [area_joined.j1])
              | succ kj7 =>
                have H := HA.out
                clear HA
                simp only [area_joined.j1] at H
                by_cases c25 : x38_7 = true
                · subst c25
                  have H1 : (if 0 ≤ (wrap64 ((x4_1.length : Int) - 1)) then (if (wrap64 ((x4_1.length : Int) - 1)) < (x4_1.length : Int) then (area_joined.l0 kj7 (x4_1.set ((wrap64 ((x4_1.length : Int) - 1)) : Int).toNat (⟨(rd_T32 x4_1 (wrap64 ((x4_1.length : Int) - 1))).f0, ((rd_T32 x9_1 x11_1).f1), (⟨(rd_T32 x4_1 (wrap64 ((x4_1.length : Int) - 1))).f2.f0, (rd_T32 x4_1 (wrap64 ((x4_1.length : Int) - 1))).f2.f1⟩ : S30), (rd_T32 x4_1 (wrap64 ((x4_1.length : Int) - 1))).f3⟩ : S32)) x9_1 (t133.length : Int) (wrap64 (x11_1 + 1))) else (none)) else (none)) = some (r1, r2) := by rw [if_pos rfl] at H; exact H
                  clear H
                  have H := H1
                  clear H1
                  obtain ⟨ji26, hji26⟩ : ∃ j_ : Int, (wrap64 ((x4_1.length : Int) - 1)) = j_ := ⟨_, rfl⟩
                  replace H : (if 0 ≤ (ji26) then (if (ji26) < (x4_1.length : Int) then (area_joined.l0 kj7 (x4_1.set ((ji26) : Int).toNat (⟨(rd_T32 x4_1 (ji26)).f0, ((rd_T32 x9_1 x11_1).f1), (⟨(rd_T32 x4_1 (ji26)).f2.f0, (rd_T32 x4_1 (ji26)).f2.f1⟩ : S30), (rd_T32 x4_1 (ji26)).f3⟩ : S32)) x9_1 (t133.length : Int) (wrap64 (x11_1 + 1))) else (none)) else (none)) = some (r1, r2) := by first | (rw [hji26] at H; exact H) | (simp only [hji26] at H ⊢; exact H)
                  have hji26w : (IntKind.i64.wrap ((x4_1.length : Int) - 1)) = ji26 := (i64_w _).trans hji26
                  by_cases c27 : 0 ≤ (ji26)
                  · rw [if_pos c27] at H
                    have c27b0 : decide (0 ≤ (ji26)) = true := decide_eq_true c27
                    clear c27
                    by_cases c28 : (ji26) < (x4_1.length : Int)
                    · rw [if_pos c28] at H
                      have c28b0 : decide ((ji26) < (x4_1.length : Int)) = true := decide_eq_true c28
                      try rw [hl9_1] at c28b0
                      clear c28
                      obtain ⟨y141, hy141⟩ : ∃ y_ : List (S32), y_ = (x4_1.set ((ji26) : Int).toNat (⟨(rd_T32 x4_1 (ji26)).f0, ((rd_T32 x9_1 x11_1).f1), (⟨(rd_T32 x4_1 (ji26)).f2.f0, (rd_T32 x4_1 (ji26)).f2.f1⟩ : S30), (rd_T32 x4_1 (ji26)).f3⟩ : S32)) := ⟨_, rfl⟩
                      replace H : (area_joined.l0 kj7 y141 x9_1 (t133.length : Int) (wrap64 (x11_1 + 1))) = some (r1, r2) := by first | (rw [hy141]; with_reducible exact H) | (have H2_ := (Option.bind_some _ _).symm.trans H; rw [hy141]; with_reducible exact H2_) | (have H2_ := (Option.bind_some _ _).symm.trans H; with_reducible exact H2_) | with_reducible exact H | (rw [hy141]; exact H) | exact H
                      have Ny141 := Aside0.mk hy141
                      clear hy141
                      have H' := Aside0.mk H
                      clear H
                      have hcz30_0 : wc.cell? ⟨gb137, 0, none⟩ = some (.int .i64 ((rd_T32 x9_1 x11_1).f0)) := (blk_cell BK137.out 0).trans rfl
                      have hcz30_1 : wc.cell? ⟨gb137, 1, none⟩ = some (.int .i64 ((rd_T32 x9_1 x11_1).f1)) := (blk_cell BK137.out 1).trans rfl
                      have hcz30_2 : wc.cell? ⟨gb137, 2, none⟩ = some (.bool ((rd_T32 x9_1 x11_1).f2.f0)) := (blk_cell BK137.out 2).trans rfl
                      have hcz30_3 : wc.cell? ⟨gb137, 3, none⟩ = some (.bool ((rd_T32 x9_1 x11_1).f2.f1)) := (blk_cell BK137.out 3).trans rfl
                      have hcz30_4 : wc.cell? ⟨gb137, 4, none⟩ = some (.bool ((rd_T32 x9_1 x11_1).f3)) := (blk_cell BK137.out 4).trans rfl
                      have hfz30_0 := blk_frozen BK137.out 0
                      have hfz30_1 := blk_frozen BK137.out 1
                      have hfz30_2 := blk_frozen BK137.out 2
                      have hfz30_3 := blk_frozen BK137.out 3
                      have hfz30_4 := blk_frozen BK137.out 4
                      have p29 : 0 ≤ ((ji26) : Int) := of_decide_eq_true (by first | (with_reducible assumption) | assumption)
                      have q29 : ((ji26) : Int) < ((x4_1.length : Int) : Int) := of_decide_eq_true (by first | (with_reducible assumption) | assumption)
                      obtain ⟨go29, co29, eo29, gb29, gl29, cl29, HG29⟩ := Kd.R_form HO_4.out (by omega)
                      (first | cases eo29 | (injection eo29 with ea_ en_ ec_; (first | subst ea_ | (injection ea_ with ea_; subst ea_)); subst ec_; clear en_))
                      have GB29 := Aside0.mk gb29
                      have GG29 := Aside0.mk HG29
                      clear gb29 gl29 HG29
                      obtain ⟨ce29, hcl29, hM29, hcc29, hfr29⟩ := Kd.R_elem HO_4.out z32 ((ji26) : Int) p29 q29
                      obtain rfl := k32_openM hM29
                      have hx29_0 : wc.cell? ⟨go29, ((ji26) : Int).toNat * 5, none⟩ = some (.int .i64 ((rd_T32 x4_1 (ji26)).f0)) := hcc29 0 _ rfl
                      have hx29_1 : wc.cell? ⟨go29, ((ji26) : Int).toNat * 5 + 1, none⟩ = some (.int .i64 ((rd_T32 x4_1 (ji26)).f1)) := hcc29 1 _ rfl
                      have hx29_2 : wc.cell? ⟨go29, ((ji26) : Int).toNat * 5 + 2, none⟩ = some (.bool ((rd_T32 x4_1 (ji26)).f2.f0)) := hcc29 2 _ rfl
                      have hx29_3 : wc.cell? ⟨go29, ((ji26) : Int).toNat * 5 + 3, none⟩ = some (.bool ((rd_T32 x4_1 (ji26)).f2.f1)) := hcc29 3 _ rfl
                      have hx29_4 : wc.cell? ⟨go29, ((ji26) : Int).toNat * 5 + 4, none⟩ = some (.bool ((rd_T32 x4_1 (ji26)).f3)) := hcc29 4 _ rfl
                      have hf29_0 : wc.frozen? ⟨go29, ((ji26) : Int).toNat * 5, none⟩ = false := hfr29 0
                      have hf29_1 : wc.frozen? ⟨go29, ((ji26) : Int).toNat * 5 + 1, none⟩ = false := hfr29 1
                      have hf29_2 : wc.frozen? ⟨go29, ((ji26) : Int).toNat * 5 + 2, none⟩ = false := hfr29 2
                      have hf29_3 : wc.frozen? ⟨go29, ((ji26) : Int).toNat * 5 + 3, none⟩ = false := hfr29 3
                      have hf29_4 : wc.frozen? ⟨go29, ((ji26) : Int).toNat * 5 + 4, none⟩ = false := hfr29 4
                      clear hcl29 hcc29 hfr29 hM29
                      replace p29 := eq_true p29
                      replace q29 := eq_true q29
                      have HX31 := Aside0.mk (show Kd.R k32 32 wc w.heap.size (fun k_ => some k_ ≠ (.slice (some ad136) x9_1.length co4 : Value).ownBlock ∧ k_ ≠ gb137) (.slice (some ⟨go29, 0, none⟩) x4_1.length co11) x4_1 from (by (with_reducible repeat (first | apply Kd.R_alloc | apply Kd.R_drewN | apply Kd.R_drew)); exact HO_4.out))
                      obtain ⟨ce31, hcl31, hM31, hcc31, hfr31⟩ := Kd.R_elem HX31.out z32 ((ji26) : Int) (of_decide_eq_true (by first | (with_reducible assumption) | assumption)) (by have h_ : ((ji26) : Int) < ((x4_1.length : Int) : Int) := of_decide_eq_true (by first | (with_reducible assumption) | assumption); first | exact h_ | (have e_ := (Kd.R_reads' HO_4.out).1; omega) | simpa using h_)
                      obtain rfl := k32_openM hM31
                      have HP31 := Kd.R_seg HX31.out ((ji26) : Int) (of_decide_eq_true (by first | (with_reducible assumption) | assumption)) (by have h_ : ((ji26) : Int) < ((x4_1.length : Int) : Int) := of_decide_eq_true (by first | (with_reducible assumption) | assumption); first | exact h_ | (have e_ := (Kd.R_reads' HO_4.out).1; omega) | simpa using h_) (seg := [.int .i64 ((rd_T32 x9_1 x11_1).f1)]) (j := 1) hcl31 hcc31 (show 2 ≤ 5 from by decide) (x' := (⟨(rd_T32 x4_1 (ji26)).f0, ((rd_T32 x9_1 x11_1).f1), (⟨(rd_T32 x4_1 (ji26)).f2.f0, (rd_T32 x4_1 (ji26)).f2.f1⟩ : S30), (rd_T32 x4_1 (ji26)).f3⟩ : S32)) (k32_mkM _ _ _ (⟨(rd_T32 x4_1 (ji26)).f0, ((rd_T32 x9_1 x11_1).f1), (⟨(rd_T32 x4_1 (ji26)).f2.f0, (rd_T32 x4_1 (ji26)).f2.f1⟩ : S30), (rd_T32 x4_1 (ji26)).f3⟩ : S32) ) (fun _ hk => hk)
                      have hx31_1 := hcc31 1 _ rfl
                      (try simp only [show (k32).sz = 5 from rfl, Nat.mul_one, Nat.add_zero] at hx31_1)
                      have hf31_1 := hfr31 1
                      (try simp only [show (k32).sz = 5 from rfl, Nat.mul_one, Nat.add_zero] at hf31_1)
                      clear hcl31 hcc31 hfr31 hM31
                      go_wp2_with (first | ((with_reducible refine gate_store (t := 3) (p := 45) rfl ?_); refine store_event (t := 3) (p := 45) (v := ?vo_w32) (w1 := (wc.setCell ⟨go29, ((ji26) : Int).toNat * 5 + 1, none⟩ (.int .i64 ((rd_T32 x9_1 x11_1).f1)))) ?hg ?ho ?hn ?hr ?_; (case ho => rfl); (case hg => rfl); (case hn => rfl); (case hr => first | (go_simp; done) | (go_simp; rfl)); intro w32 hw; have hg : wc.grownBy w32 (some go29) := (by rw [hw]; exact HP31.2); have hp_ : Kd.R k32 32 w32 w.heap.size (fun k_ => some k_ ≠ (.slice (some ad136) x9_1.length co4 : Value).ownBlock ∧ k_ ≠ gb137) (.slice (some ⟨go29, 0, none⟩) x4_1.length co11) y141 := (by rw [hw, Ny141.out]; exact HP31.1); clear HP31; have n0_ := Aside0.mk (hp_); have n1_ := Aside0.mk (Kd.R_after (v := (.slice (some ⟨go29, 0, none⟩) x4_1.length co11)) (v1 := (.slice (some ⟨go29, 0, none⟩) x4_1.length co11)) (ok := (fun k_ => k_ ≠ gb137)) (by (with_reducible repeat (first | apply Kd.R_alloc | apply Kd.R_drewN | apply Kd.R_drew)); exact Kd.R_mono HO_9.out (fun _ hk => ⟨hk.2, hk.1⟩)) hg (.inl rfl)); have n2_ := Aside0.mk (blk_grown (g := gb137) (o := .cells #[.int .i64 ((rd_T32 x9_1 x11_1).f0), .int .i64 ((rd_T32 x9_1 x11_1).f1), .bool ((rd_T32 x9_1 x11_1).f2.f0), .bool ((rd_T32 x9_1 x11_1).f2.f1), .bool ((rd_T32 x9_1 x11_1).f3)] 32 (0, 0)) (by (with_reducible repeat (first | refine blk_drewN ?_ _ | refine blk_drew ?_ | refine blk_alloc ?_ _)); exact BK137.out) hg (Kd.R_away HO_4.out (fun _ hk => hk.2))); have n3_ := Aside0.mk ((by rw [hw]; exact below_set (HB.out) GB29.out : Below w.heap.size w w32)); clear HO_4; clear HO_9; clear BK137; clear HB; have HO_4 := n0_; have HO_9 := n1_; have BK137 := n2_; have HB := n3_; clear n0_ n1_ n2_ n3_; clear hg hw hp_))
                      (try simp only [← hl9_1])
                      go_roundg kj7
                      case measure => have := HK1.out; have := HJ7.out; omega
                      case rel => exact ⟨(y141), (x9_1), (wrap64 (x11_1 + 1)), (by first | rfl | (simp; done) | (simp [*]; done)), H', ⟨by have := HK1.out; have := HJ7.out; omega⟩, ⟨by (try simp only [hl9_1]); (with_reducible repeat (first | apply Kd.R_alloc | apply Kd.R_drewN | apply Kd.R_drew)); exact Kd.R_mono HO_4.out (fun _ hk => hk.1)⟩, ⟨by (try simp only [hl9_1]); (with_reducible repeat (first | apply Kd.R_alloc | apply Kd.R_drewN | apply Kd.R_drew)); exact Kd.R_mono HO_9.out (fun _ hk => hk.2)⟩, ⟨by repeat (first | (with_reducible first | exact HB.out | apply below_alloc | apply pw_below_drewN | apply below_drew1 | refine below_set ?_ GE137.out) | exact HB.out)⟩⟩
                    · rw [if_neg c28] at H
                      exact absurd H (by simp)
                  · rw [if_neg c27] at H
                    exact absurd H (by simp)
                · replace c25 := Bool.eq_false_iff.mpr c25
                  subst c25
                  have H1 : (if x4_1.length < 5864062014805 then (area_joined.l0 kj7 (x4_1 ++ [(⟨((rd_T32 x9_1 x11_1).f0), ((rd_T32 x9_1 x11_1).f1), (⟨((rd_T32 x9_1 x11_1).f2.f0), ((rd_T32 x9_1 x11_1).f2.f1)⟩ : S30), ((rd_T32 x9_1 x11_1).f3)⟩ : S32)]) x9_1 (t133.length : Int) (wrap64 (x11_1 + 1))) else (none)) = some (r1, r2) := by rw [if_neg (show ¬ (false = true) by decide)] at H; exact H
                  clear H
                  have H := H1
                  clear H1
                  by_cases c33 : x4_1.length < 5864062014805
                  · rw [if_pos c33] at H
                    have LMc33 := Aside0.mk c33
                    clear c33
                    obtain ⟨y142, hy142⟩ : ∃ y_ : List (S32), y_ = (x4_1 ++ [(⟨((rd_T32 x9_1 x11_1).f0), ((rd_T32 x9_1 x11_1).f1), (⟨((rd_T32 x9_1 x11_1).f2.f0), ((rd_T32 x9_1 x11_1).f2.f1)⟩ : S30), ((rd_T32 x9_1 x11_1).f3)⟩ : S32)]) := ⟨_, rfl⟩
                    replace H : (area_joined.l0 kj7 y142 x9_1 (t133.length : Int) (wrap64 (x11_1 + 1))) = some (r1, r2) := by first | (rw [hy142]; with_reducible exact H) | (have H2_ := (Option.bind_some _ _).symm.trans H; rw [hy142]; with_reducible exact H2_) | (have H2_ := (Option.bind_some _ _).symm.trans H; with_reducible exact H2_) | with_reducible exact H | (rw [hy142]; exact H) | exact H
                    have Ny142 := Aside0.mk hy142
                    clear hy142
                    have H' := Aside0.mk H
                    clear H
                    have hcz34_0 : wc.cell? ⟨gb137, 0, none⟩ = some (.int .i64 ((rd_T32 x9_1 x11_1).f0)) := (blk_cell BK137.out 0).trans rfl
                    have hcz34_1 : wc.cell? ⟨gb137, 1, none⟩ = some (.int .i64 ((rd_T32 x9_1 x11_1).f1)) := (blk_cell BK137.out 1).trans rfl
                    have hcz34_2 : wc.cell? ⟨gb137, 2, none⟩ = some (.bool ((rd_T32 x9_1 x11_1).f2.f0)) := (blk_cell BK137.out 2).trans rfl
                    have hcz34_3 : wc.cell? ⟨gb137, 3, none⟩ = some (.bool ((rd_T32 x9_1 x11_1).f2.f1)) := (blk_cell BK137.out 3).trans rfl
                    have hcz34_4 : wc.cell? ⟨gb137, 4, none⟩ = some (.bool ((rd_T32 x9_1 x11_1).f3)) := (blk_cell BK137.out 4).trans rfl
                    have hfz34_0 := blk_frozen BK137.out 0
                    have hfz34_1 := blk_frozen BK137.out 1
                    have hfz34_2 := blk_frozen BK137.out 2
                    have hfz34_3 := blk_frozen BK137.out 3
                    have hfz34_4 := blk_frozen BK137.out 4
                    go_wp2_with (first | ((with_reducible refine gate_builtin (b := .append) (xs := #[.tmp 46, .tmp 48]) rfl ?_); at_builtin; refine Kd.R_append k32 (w0 := w) w.heap.size rfl (.tmp 46) (.tmp 48) 22 32 (.agg #[(.int .i64 0), (.int .i64 0), (.bool false), (.bool false), (.bool false)]) 24 rfl Try.underlying22 info32 rfl (by decide) (by omega) (.slice Ao11 x4_1.length co11) x4_1 (⟨((rd_T32 x9_1 x11_1).f0), ((rd_T32 x9_1 x11_1).f1), (⟨((rd_T32 x9_1 x11_1).f2.f0), ((rd_T32 x9_1 x11_1).f2.f1)⟩ : S30), ((rd_T32 x9_1 x11_1).f3)⟩ : S32) [.int .i64 ((rd_T32 x9_1 x11_1).f0), .int .i64 ((rd_T32 x9_1 x11_1).f1), .bool ((rd_T32 x9_1 x11_1).f2.f0), .bool ((rd_T32 x9_1 x11_1).f2.f1), .bool ((rd_T32 x9_1 x11_1).f3)] (fun k_ => some k_ ≠ (.slice (some ad136) x9_1.length co4 : Value).ownBlock ∧ k_ ≠ gb137) (fun _ => False) rfl rfl ?aP (fun _ hk => hk.elim) ?aF ?aO ?aB ?aS ?aL ?_; (case aP => exact k32_mkM _ _ _ (⟨((rd_T32 x9_1 x11_1).f0), ((rd_T32 x9_1 x11_1).f1), (⟨((rd_T32 x9_1 x11_1).f2.f0), ((rd_T32 x9_1 x11_1).f2.f1)⟩ : S30), ((rd_T32 x9_1 x11_1).f3)⟩ : S32)); (case aB => exact (by repeat (first | (with_reducible first | exact HB.out | apply below_alloc | apply pw_below_drewN | apply below_drew1 | refine below_set ?_ GE137.out) | exact HB.out))); (case aF => exact (fun k_ hk => ⟨Kd.fresh' (Kd.R_lt (by (with_reducible repeat (first | apply Kd.R_alloc | apply Kd.R_drewN | apply Kd.R_drew)); exact HO_9.out)) k_ hk, Kd.freshB (g := gb137) (o := .cells #[.int .i64 ((rd_T32 x9_1 x11_1).f0), .int .i64 ((rd_T32 x9_1 x11_1).f1), .bool ((rd_T32 x9_1 x11_1).f2.f0), .bool ((rd_T32 x9_1 x11_1).f2.f1), .bool ((rd_T32 x9_1 x11_1).f3)] 32 (0, 0)) (by (with_reducible repeat (first | refine blk_drewN ?_ _ | refine blk_drew ?_ | refine blk_alloc ?_ _)); exact BK137.out) k_ hk⟩)); (case aO => exact (by (with_reducible repeat (first | apply Kd.R_alloc | apply Kd.R_drewN | apply Kd.R_drew)); exact HO_4.out)); (case aS => exact (below_size (by repeat (first | (with_reducible first | exact HB.out | apply below_alloc | apply pw_below_drewN | apply below_drew1 | refine below_set ?_ GE137.out) | exact HB.out)))); (case aL => have := LMc33.out; omega); intro v143 w35 ho hb hg hat; rw [← Ny142.out] at ho; have n0_ := Aside0.mk (Kd.R_after (ok := (fun k_ => k_ ≠ gb137)) (by (with_reducible repeat (first | apply Kd.R_alloc | apply Kd.R_drewN | apply Kd.R_drew)); exact Kd.R_mono HO_9.out (fun _ hk => ⟨hk.2, hk.1⟩)) hg hat); have n1_ := Aside0.mk (blk_grown (g := gb137) (o := .cells #[.int .i64 ((rd_T32 x9_1 x11_1).f0), .int .i64 ((rd_T32 x9_1 x11_1).f1), .bool ((rd_T32 x9_1 x11_1).f2.f0), .bool ((rd_T32 x9_1 x11_1).f2.f1), .bool ((rd_T32 x9_1 x11_1).f3)] 32 (0, 0)) (by (with_reducible repeat (first | refine blk_drewN ?_ _ | refine blk_drew ?_ | refine blk_alloc ?_ _)); exact BK137.out) hg (Kd.R_away HO_4.out (fun _ hk => hk.2))); have n2_ := Aside0.mk (hb); have n3_ := Aside0.mk (ho); clear HO_9; clear BK137; clear HB; clear HO_4; have HO_9 := n0_; have BK137 := n1_; have HB := n2_; have HO144 := n3_; clear n0_ n1_ n2_ n3_; clear ho hb hg hat))
                    (try simp only [← hl9_1])
                    go_roundg kj7
                    case measure => have := HK1.out; have := HJ7.out; omega
                    case rel => exact ⟨(y142), (x9_1), (wrap64 (x11_1 + 1)), (by first | rfl | (simp; done) | (simp [*]; done)), H', ⟨by have := HK1.out; have := HJ7.out; omega⟩, ⟨by (try simp only [hl9_1]); (with_reducible repeat (first | apply Kd.R_alloc | apply Kd.R_drewN | apply Kd.R_drew)); exact Kd.R_mono HO144.out (fun _ hk => hk.1)⟩, ⟨by (try simp only [hl9_1]); (with_reducible repeat (first | apply Kd.R_alloc | apply Kd.R_drewN | apply Kd.R_drew)); exact Kd.R_mono HO_9.out (fun _ hk => hk.2)⟩, ⟨by repeat (first | (with_reducible first | exact HB.out | apply below_alloc | apply pw_below_drewN | apply below_drew1 | refine below_set ?_ GE137.out) | exact HB.out)⟩⟩
                  · rw [if_neg c33] at H
                    exact absurd H (by simp)
          · rw [if_neg c7] at H
            exact absurd H (by simp)
        · rw [if_neg c6] at H
          exact absurd H (by simp)
      · rw [if_neg c5] at H
        have c5b0 : decide (x11_1 < (t133.length : Int)) = false := decide_eq_false c5
        try rw [hl9_1] at c5b0
        clear c5
        by_cases c36 : (x4_1.length : Int) > 64
        · rw [if_pos c36] at H
          have c36b0 : decide (64 < (x4_1.length : Int)) = true := decide_eq_true c36
          try rw [hl9_1] at c36b0
          have c36b1 : decide (64 < x4_1.length) = true := decide_eq_true (by omega)
          try rw [hl9_1] at c36b1
          clear c36
          simp only [Option.some.injEq, Prod.mk.injEq] at H
          obtain ⟨rfl, rfl⟩ := H
          obtain ⟨Ao37, co37, eo37⟩ := Kd.R_slice HO_4.out
          subst eo37
          go_wp2
          go_ret2
          exact ⟨_, by first | rfl | (simp [errW_none, errW_some] <;> rfl) | (simp [*, errW_none, errW_some] <;> rfl), by first | exact Kd.R_nil _ _ _ _ _ | exact Kd.N_nil _ _ _ _ _ | exact Kd.V_nil _ _ _ _ _ | exact Kd.Q_nil _ _ _ _ _ | exact Kd.S_nil _ _ _ _ _, by repeat (first | (with_reducible first | exact HB.out | apply below_alloc | apply pw_below_drewN | apply below_drew1) | exact HB.out)⟩
        · rw [if_neg c36] at H
          have c36b0 : decide (64 < (x4_1.length : Int)) = false := decide_eq_false c36
          try rw [hl9_1] at c36b0
          have c36b1 : decide (64 < x4_1.length) = false := decide_eq_false (by omega)
          try rw [hl9_1] at c36b1
          clear c36
          simp only [Option.some.injEq, Prod.mk.injEq] at H
          obtain ⟨rfl, rfl⟩ := H
          obtain ⟨Ao38, co38, eo38⟩ := Kd.R_slice HO_4.out
          subst eo38
          go_wp2
          go_ret2
          exact ⟨_, by first | rfl | (simp [errW_none, errW_some] <;> rfl) | (simp [*, errW_none, errW_some] <;> rfl), by (with_reducible repeat (first | apply Kd.R_alloc | apply Kd.R_drewN | apply Kd.R_drew)); exact Kd.R_mono HO_4.out (fun _ hk => trivial), by repeat (first | (with_reducible first | exact HB.out | apply below_alloc | apply pw_below_drewN | apply below_drew1) | exact HB.out)⟩

end Go.Proofs.Ytlmjjkggoemabab.Q
