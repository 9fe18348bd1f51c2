-- Written by this session's program wip/tools/xprint.py (the kit's printer, turned by it); not the kit's own print.
import Derived.Test.YtobbcfpkmmafnabQx0
import Derived.Test.YtobbcfpkmmafnabQx4
import Derived.Test.YtobbcfpkmmafnabQx5
namespace Go.Proofs.Ytobbcfpkmmafnab.Q
open Go.RowKit Go.Proofs.YtobbcfpkmmafnabW.PrintWords Go.Proofs.YtobbcfpkmmafnabW.PrintLast Go.Proofs.YtobbcfpkmmafnabW.PrintMore
attribute [local go_sem] max2_int min2_int max_two min_two max_three min_three max_four min_four   -- for this text's walks alone
set_option linter.unusedVariables false
set_option linter.unusedSimpArgs false

attribute [local go_sem high] eqErr_some neErr_some eqErr_left neErr_left
/-! ### paviorref02_Decode: function 12 -/
mutual
def paviorref02_Decode.l0 : Nat → Int → Int → Int → Int → Int → Bool → Bool → Bool → Bool → Int → Option (Int × Int × Bool × Bool × Bool × Bool × Int)
  | 0, _, _, _, _, _, _, _, _, _, _ => none
  | k + 1, x0, x1, x7, x200000, x200001, x200002, x200003, x200004, x200005, x200006 => if x7 ≤ 4 then (if x7 = 0 then (paviorref02_Decode.j1 k x0 x1 x7 x200000 x200001 x200002 x200003 x200004 x200005 x200006 0 0 false false false false 0) else (paviorref02_Decode.j1 k x0 x1 x7 x200000 x200001 x200002 x200003 x200004 x200005 x200006 x7 x200001 x200002 x200003 x200004 x200005 x200006)) else (some (5, 0, false, false, false, false, 0))
def paviorref02_Decode.j1 : Nat → Int → Int → Int → Int → Int → Bool → Bool → Bool → Bool → Int → Int → Int → Bool → Bool → Bool → Bool → Int → Option (Int × Int × Bool × Bool × Bool × Bool × Int)
  | 0, _, _, _, _, _, _, _, _, _, _, _, _, _, _, _, _, _ => none
  | k + 1, x0, x1, x7, x200000, x200001, x200002, x200003, x200004, x200005, x200006, x201000, x201001, x201002, x201003, x201004, x201005, x201006 => if x7 = 1 then (paviorref02_Decode.j2 k x0 x1 x7 x200000 x200001 x200002 x200003 x200004 x200005 x200006 x7 x200001 false false false false 0) else (paviorref02_Decode.j2 k x0 x1 x7 x200000 x200001 x200002 x200003 x200004 x200005 x200006 x201000 x201001 x201002 x201003 x201004 x201005 x201006)
def paviorref02_Decode.j2 : Nat → Int → Int → Int → Int → Int → Bool → Bool → Bool → Bool → Int → Int → Int → Bool → Bool → Bool → Bool → Int → Option (Int × Int × Bool × Bool × Bool × Bool × Int)
  | 0, _, _, _, _, _, _, _, _, _, _, _, _, _, _, _, _, _ => none
  | k + 1, x0, x1, x7, x200000, x200001, x200002, x200003, x200004, x200005, x200006, x201000, x201001, x201002, x201003, x201004, x201005, x201006 => (paviorref02_May.f k x0 x201000 x201001 x201002 x201003 x201004 x201005 x201006).bind fun t201 => (if t201 = true then ((paviorref02_Word.f k x201000 x201001 x201002 x201003 x201004 x201005 x201006).bind fun t202 => (paviorref02_Decode.j3 k x0 x1 x7 (t202 == x1) x200000 x200001 x200002 x200003 x200004 x200005 x200006 x201000 x201001 x201002 x201003 x201004 x201005 x201006)) else (paviorref02_Decode.j3 k x0 x1 x7 false x200000 x200001 x200002 x200003 x200004 x200005 x200006 x201000 x201001 x201002 x201003 x201004 x201005 x201006))
def paviorref02_Decode.j3 : Nat → Int → Int → Int → Bool → Int → Int → Bool → Bool → Bool → Bool → Int → Int → Int → Bool → Bool → Bool → Bool → Int → Option (Int × Int × Bool × Bool × Bool × Bool × Int)
  | 0, _, _, _, _, _, _, _, _, _, _, _, _, _, _, _, _, _, _ => none
  | k + 1, x0, x1, x7, x58, x200000, x200001, x200002, x200003, x200004, x200005, x200006, x201000, x201001, x201002, x201003, x201004, x201005, x201006 => if x58 = true then (some (x201000, x201001, x201002, x201003, x201004, x201005, x201006)) else (paviorref02_Decode.l0 k x0 x1 (wrap64 (x7 + 1)) x200000 x200001 x200002 x200003 x200004 x200005 x200006)
end
def paviorref02_Decode.f (k : Nat) (a0 : Int) (a1 : Int) : Option (Int × Int × Bool × Bool × Bool × Bool × Int) := (paviorref01_Field.f k a1 12 36).bind fun t193 => (if t193 ≥ 512 then (some (5, 0, false, false, false, false, 0)) else ((paviorref01_Bit.f a1 7).bind fun t194 => ((paviorref01_Bit.f a1 54).bind fun t195 => ((paviorref01_Bit.f a1 10).bind fun t196 => ((paviorref01_Bit.f a1 52).bind fun t197 => ((paviorref01_Field.f k a1 55 3).bind fun t198 => (paviorref02_Decode.l0 k a0 a1 0 0 (wrap64 (t193)) (t194 == 0) (t195 == 0) (t196 == 1) (t197 == 1) (wrap64 (t198)))))))))
theorem paviorref02_Decode.mono_l : ∀ k, (∀ y0 y1 y2 y3 y4 y5 y6 y7 y8 y9, LeO (paviorref02_Decode.l0 k y0 y1 y2 y3 y4 y5 y6 y7 y8 y9) (paviorref02_Decode.l0 (k + 1) y0 y1 y2 y3 y4 y5 y6 y7 y8 y9)) ∧ (∀ y0 y1 y2 y3 y4 y5 y6 y7 y8 y9 y10 y11 y12 y13 y14 y15 y16, LeO (paviorref02_Decode.j1 k y0 y1 y2 y3 y4 y5 y6 y7 y8 y9 y10 y11 y12 y13 y14 y15 y16) (paviorref02_Decode.j1 (k + 1) y0 y1 y2 y3 y4 y5 y6 y7 y8 y9 y10 y11 y12 y13 y14 y15 y16)) ∧ (∀ y0 y1 y2 y3 y4 y5 y6 y7 y8 y9 y10 y11 y12 y13 y14 y15 y16, LeO (paviorref02_Decode.j2 k y0 y1 y2 y3 y4 y5 y6 y7 y8 y9 y10 y11 y12 y13 y14 y15 y16) (paviorref02_Decode.j2 (k + 1) y0 y1 y2 y3 y4 y5 y6 y7 y8 y9 y10 y11 y12 y13 y14 y15 y16)) ∧ (∀ y0 y1 y2 y3 y4 y5 y6 y7 y8 y9 y10 y11 y12 y13 y14 y15 y16 y17, LeO (paviorref02_Decode.j3 k y0 y1 y2 y3 y4 y5 y6 y7 y8 y9 y10 y11 y12 y13 y14 y15 y16 y17) (paviorref02_Decode.j3 (k + 1) y0 y1 y2 y3 y4 y5 y6 y7 y8 y9 y10 y11 y12 y13 y14 y15 y16 y17))
  | 0 => ⟨fun _ _ _ _ _ _ _ _ _ _ r h => by simp [paviorref02_Decode.l0] at h, fun _ _ _ _ _ _ _ _ _ _ _ _ _ _ _ _ _ r h => by simp [paviorref02_Decode.j1] at h, fun _ _ _ _ _ _ _ _ _ _ _ _ _ _ _ _ _ r h => by simp [paviorref02_Decode.j2] at h, fun _ _ _ _ _ _ _ _ _ _ _ _ _ _ _ _ _ _ r h => by simp [paviorref02_Decode.j3] at h⟩
  | k + 1 => by
    obtain ⟨ih0, ih1, ih2, ih3⟩ := paviorref02_Decode.mono_l k
    refine ⟨?_, ?_, ?_, ?_⟩
    · intro y0 y1 y2 y3 y4 y5 y6 y7 y8 y9
      unfold paviorref02_Decode.l0
      repeat' first
      | (with_reducible exact ih0 _ _ _ _ _ _ _ _ _ _)
      | (with_reducible exact ih1 _ _ _ _ _ _ _ _ _ _ _ _ _ _ _ _ _)
      | (with_reducible exact ih2 _ _ _ _ _ _ _ _ _ _ _ _ _ _ _ _ _)
      | (with_reducible exact ih3 _ _ _ _ _ _ _ _ _ _ _ _ _ _ _ _ _ _)
      | (with_reducible exact paviorref01_Field.mono _ _ _ _)
      | (with_reducible exact paviorref02_May.mono _ _ _ _ _ _ _ _ _)
      | (with_reducible exact paviorref02_Word.mono _ _ _ _ _ _ _ _)
      | (with_reducible exact LeO.refl _)
      | (with_reducible exact LeO.none _)
      | (with_reducible refine LeO.ite ?_ ?_)
      | (with_reducible refine LeO.bind ?_ (fun _ => ?_))
      | exact ih0 _ _ _ _ _ _ _ _ _ _
      | exact ih1 _ _ _ _ _ _ _ _ _ _ _ _ _ _ _ _ _
      | exact ih2 _ _ _ _ _ _ _ _ _ _ _ _ _ _ _ _ _
      | exact ih3 _ _ _ _ _ _ _ _ _ _ _ _ _ _ _ _ _ _
      | exact paviorref01_Field.mono _ _ _ _
      | exact paviorref02_May.mono _ _ _ _ _ _ _ _ _
      | exact paviorref02_Word.mono _ _ _ _ _ _ _ _
      | exact LeO.none _
      | refine LeO.ite ?_ ?_
      | refine LeO.bind ?_ (fun _ => ?_)
    · intro y0 y1 y2 y3 y4 y5 y6 y7 y8 y9 y10 y11 y12 y13 y14 y15 y16
      unfold paviorref02_Decode.j1
      repeat' first
      | (with_reducible exact ih0 _ _ _ _ _ _ _ _ _ _)
      | (with_reducible exact ih1 _ _ _ _ _ _ _ _ _ _ _ _ _ _ _ _ _)
      | (with_reducible exact ih2 _ _ _ _ _ _ _ _ _ _ _ _ _ _ _ _ _)
      | (with_reducible exact ih3 _ _ _ _ _ _ _ _ _ _ _ _ _ _ _ _ _ _)
      | (with_reducible exact paviorref01_Field.mono _ _ _ _)
      | (with_reducible exact paviorref02_May.mono _ _ _ _ _ _ _ _ _)
      | (with_reducible exact paviorref02_Word.mono _ _ _ _ _ _ _ _)
      | (with_reducible exact LeO.refl _)
      | (with_reducible exact LeO.none _)
      | (with_reducible refine LeO.ite ?_ ?_)
      | (with_reducible refine LeO.bind ?_ (fun _ => ?_))
      | exact ih0 _ _ _ _ _ _ _ _ _ _
      | exact ih1 _ _ _ _ _ _ _ _ _ _ _ _ _ _ _ _ _
      | exact ih2 _ _ _ _ _ _ _ _ _ _ _ _ _ _ _ _ _
      | exact ih3 _ _ _ _ _ _ _ _ _ _ _ _ _ _ _ _ _ _
      | exact paviorref01_Field.mono _ _ _ _
      | exact paviorref02_May.mono _ _ _ _ _ _ _ _ _
      | exact paviorref02_Word.mono _ _ _ _ _ _ _ _
      | exact LeO.none _
      | refine LeO.ite ?_ ?_
      | refine LeO.bind ?_ (fun _ => ?_)
    · intro y0 y1 y2 y3 y4 y5 y6 y7 y8 y9 y10 y11 y12 y13 y14 y15 y16
      unfold paviorref02_Decode.j2
      repeat' first
      | (with_reducible exact ih0 _ _ _ _ _ _ _ _ _ _)
      | (with_reducible exact ih1 _ _ _ _ _ _ _ _ _ _ _ _ _ _ _ _ _)
      | (with_reducible exact ih2 _ _ _ _ _ _ _ _ _ _ _ _ _ _ _ _ _)
      | (with_reducible exact ih3 _ _ _ _ _ _ _ _ _ _ _ _ _ _ _ _ _ _)
      | (with_reducible exact paviorref01_Field.mono _ _ _ _)
      | (with_reducible exact paviorref02_May.mono _ _ _ _ _ _ _ _ _)
      | (with_reducible exact paviorref02_Word.mono _ _ _ _ _ _ _ _)
      | (with_reducible exact LeO.refl _)
      | (with_reducible exact LeO.none _)
      | (with_reducible refine LeO.ite ?_ ?_)
      | (with_reducible refine LeO.bind ?_ (fun _ => ?_))
      | exact ih0 _ _ _ _ _ _ _ _ _ _
      | exact ih1 _ _ _ _ _ _ _ _ _ _ _ _ _ _ _ _ _
      | exact ih2 _ _ _ _ _ _ _ _ _ _ _ _ _ _ _ _ _
      | exact ih3 _ _ _ _ _ _ _ _ _ _ _ _ _ _ _ _ _ _
      | exact paviorref01_Field.mono _ _ _ _
      | exact paviorref02_May.mono _ _ _ _ _ _ _ _ _
      | exact paviorref02_Word.mono _ _ _ _ _ _ _ _
      | exact LeO.none _
      | refine LeO.ite ?_ ?_
      | refine LeO.bind ?_ (fun _ => ?_)
    · intro y0 y1 y2 y3 y4 y5 y6 y7 y8 y9 y10 y11 y12 y13 y14 y15 y16 y17
      unfold paviorref02_Decode.j3
      repeat' first
      | (with_reducible exact ih0 _ _ _ _ _ _ _ _ _ _)
      | (with_reducible exact ih1 _ _ _ _ _ _ _ _ _ _ _ _ _ _ _ _ _)
      | (with_reducible exact ih2 _ _ _ _ _ _ _ _ _ _ _ _ _ _ _ _ _)
      | (with_reducible exact ih3 _ _ _ _ _ _ _ _ _ _ _ _ _ _ _ _ _ _)
      | (with_reducible exact paviorref01_Field.mono _ _ _ _)
      | (with_reducible exact paviorref02_May.mono _ _ _ _ _ _ _ _ _)
      | (with_reducible exact paviorref02_Word.mono _ _ _ _ _ _ _ _)
      | (with_reducible exact LeO.refl _)
      | (with_reducible exact LeO.none _)
      | (with_reducible refine LeO.ite ?_ ?_)
      | (with_reducible refine LeO.bind ?_ (fun _ => ?_))
      | exact ih0 _ _ _ _ _ _ _ _ _ _
      | exact ih1 _ _ _ _ _ _ _ _ _ _ _ _ _ _ _ _ _
      | exact ih2 _ _ _ _ _ _ _ _ _ _ _ _ _ _ _ _ _
      | exact ih3 _ _ _ _ _ _ _ _ _ _ _ _ _ _ _ _ _ _
      | exact paviorref01_Field.mono _ _ _ _
      | exact paviorref02_May.mono _ _ _ _ _ _ _ _ _
      | exact paviorref02_Word.mono _ _ _ _ _ _ _ _
      | exact LeO.none _
      | refine LeO.ite ?_ ?_
      | refine LeO.bind ?_ (fun _ => ?_)
theorem paviorref02_Decode.mono : ∀ a0 a1 k, LeO (paviorref02_Decode.f k a0 a1) (paviorref02_Decode.f (k + 1) a0 a1) := by
  intro a0 a1 k
  obtain ⟨ih0, ih1, ih2, ih3⟩ := paviorref02_Decode.mono_l k
  unfold paviorref02_Decode.f
  repeat' first
      | (with_reducible exact ih0 _ _ _ _ _ _ _ _ _ _)
      | (with_reducible exact ih1 _ _ _ _ _ _ _ _ _ _ _ _ _ _ _ _ _)
      | (with_reducible exact ih2 _ _ _ _ _ _ _ _ _ _ _ _ _ _ _ _ _)
      | (with_reducible exact ih3 _ _ _ _ _ _ _ _ _ _ _ _ _ _ _ _ _ _)
      | (with_reducible exact paviorref01_Field.mono _ _ _ _)
      | (with_reducible exact paviorref02_May.mono _ _ _ _ _ _ _ _ _)
      | (with_reducible exact paviorref02_Word.mono _ _ _ _ _ _ _ _)
      | (with_reducible exact LeO.refl _)
      | (with_reducible exact LeO.none _)
      | (with_reducible refine LeO.ite ?_ ?_)
      | (with_reducible refine LeO.bind ?_ (fun _ => ?_))
      | exact ih0 _ _ _ _ _ _ _ _ _ _
      | exact ih1 _ _ _ _ _ _ _ _ _ _ _ _ _ _ _ _ _
      | exact ih2 _ _ _ _ _ _ _ _ _ _ _ _ _ _ _ _ _
      | exact ih3 _ _ _ _ _ _ _ _ _ _ _ _ _ _ _ _ _ _
      | exact paviorref01_Field.mono _ _ _ _
      | exact paviorref02_May.mono _ _ _ _ _ _ _ _ _
      | exact paviorref02_Word.mono _ _ _ _ _ _ _ _
      | exact LeO.none _
      | refine LeO.ite ?_ ?_
      | refine LeO.bind ?_ (fun _ => ?_)
set_option maxHeartbeats 8000000 in
set_option maxRecDepth 100000 in
theorem paviorref02_Decode.calls (k : Nat) (a0 : Int) (a1 : Int) (r1 : Int) (r2 : Int) (r3 : Bool) (r4 : Bool) (r5 : Bool) (r6 : Bool) (r7 : Int) (w : World) (h : paviorref02_Decode.f k a0 a1 = some (r1, r2, r3, r4, r5, r6, r7)) :
    Calls Try.prog 12 #[.int .i64 a0, .int .u64 a1] w fun e w' => e = .returned (.agg #[.int .i64 r1, .int .i64 r2, .bool r3, .bool r4, .bool r5, .bool r6, .int .i64 r7]) ∧ Below w.heap.size w w' := by
  have hu25 := Try.underlying25
  have HB := Aside0.mk (Below.refl w.heap.size w)
  have H : ((paviorref01_Field.f k a1 12 36).bind fun t193 => (if t193 ≥ 512 then (some (5, 0, false, false, false, false, 0)) else ((paviorref01_Bit.f a1 7).bind fun t194 => ((paviorref01_Bit.f a1 54).bind fun t195 => ((paviorref01_Bit.f a1 10).bind fun t196 => ((paviorref01_Bit.f a1 52).bind fun t197 => ((paviorref01_Field.f k a1 55 3).bind fun t198 => (paviorref02_Decode.l0 k a0 a1 0 0 (wrap64 (t193)) (t194 == 0) (t195 == 0) (t196 == 1) (t197 == 1) (wrap64 (t198)))))))))) = some (r1, r2, r3, r4, r5, r6, r7) := h
  clear h
  replace H := Option.bind_eq_some_iff.mp H
  obtain ⟨t193, A30, H⟩ := H
  replace H : (if t193 ≥ 512 then (some (5, 0, false, false, false, false, 0)) else ((paviorref01_Bit.f a1 7).bind fun t194 => ((paviorref01_Bit.f a1 54).bind fun t195 => ((paviorref01_Bit.f a1 10).bind fun t196 => ((paviorref01_Bit.f a1 52).bind fun t197 => ((paviorref01_Field.f k a1 55 3).bind fun t198 => (paviorref02_Decode.l0 k a0 a1 0 0 (wrap64 (t193)) (t194 == 0) (t195 == 0) (t196 == 1) (t197 == 1) (wrap64 (t198))))))))) = some (r1, r2, r3, r4, r5, r6, r7) := H
  have A3 := Aside0.mk A30
  clear A30
  by_cases c4 : t193 ≥ 512
  · rw [if_pos c4] at H
    have c4b0 : decide (512 ≤ t193) = true := decide_eq_true c4
    clear c4
    simp only [Option.some.injEq, Prod.mk.injEq] at H
    obtain ⟨rfl, rfl, rfl, rfl, rfl, rfl, rfl⟩ := H
    go_enter Try.func12, Try.ntmps12
    go_wp2_with (first | ((with_reducible refine gate_dst (N := 4) rfl ?_); refine box_event ?hg (N := 4) ?hd (cs := #[.int .i64 0, .int .i64 0, .bool false, .bool false, .bool false, .bool false, .int .i64 0]) (t := 25) ?hr ?_; (case hd => rfl); (case hg => rfl); (case hr => first | (go_simp; done) | (go_simp; rfl)); intro gb192 hg w5 hbox hb; have n0_ := Aside0.mk (below_step (by repeat (first | (with_reducible first | exact HB.out | apply below_alloc | apply pw_below_drewN | apply below_drew1) | exact HB.out)) hb); have n1_ := Aside0.mk (hbox); have n2_ := Aside0.mk ((by rw [hg]; exact (below_size (by repeat (first | (with_reducible first | exact HB.out | apply below_alloc | apply pw_below_drewN | apply below_drew1) | exact HB.out))) : w.heap.size ≤ gb192)); have n3_ := Aside0.mk ((by rw [hg]; exact (below_size (by repeat (first | (with_reducible first | exact HB.out | apply below_alloc | apply pw_below_drewN | apply below_drew1) | exact HB.out))) : w.heap.size ≤ gb192)); clear HB; have HB := n0_; have BK192 := n1_; have GW192 := n2_; have GE192 := n3_; clear n0_ n1_ n2_ n3_; clear hb hbox hg) | ((with_reducible refine gate_callee (f := 19) rfl ?_); refine goesL_ (some 11) rfl rfl Try.func19 (by kernel_rfl) rfl #[.int .u64 a1, .int .i64 12, .int .i64 36] rfl (by (try simp only [List.map_toArray, List.map_cons, List.map_nil]); first | done | rfl | (simp only [List.length_drop, List.length_take]; rfl)) ?_; (with_reducible refine (paviorref01_Field.calls k a1 12 36 t193 _ A3.out).mono ?_); rintro e w' ⟨rfl, ⟨nd, rfl⟩⟩; refine ⟨_, rfl, ?_⟩; (try (rw [drewN_self w5]; generalize hq_ : World.drewN w5 _ = w5; have n0_ : Aside0 (w5.heap[gb192]? = some (.cells #[.int .i64 0, .int .i64 0, .bool false, .bool false, .bool false, .bool false, .int .i64 0] 25 (0, 0))) := ⟨by rw [← hq_]; exact (by (with_reducible repeat (first | refine blk_drewN ?_ _ | refine blk_drew ?_ | refine blk_alloc ?_ _)); exact BK192.out)⟩; have n1_ : Aside0 (Below w.heap.size w w5) := ⟨by rw [← hq_]; exact (by repeat (first | (with_reducible first | exact HB.out | apply below_alloc | apply pw_below_drewN | apply below_drew1 | refine below_set ?_ GE192.out) | exact HB.out))⟩; clear BK192 HB hq_; have BK192 := n0_; have HB := n1_; clear n0_ n1_)); have hcz6_0 : w5.cell? ⟨gb192, 0, none⟩ = some (.int .i64 0) := (blk_cell BK192.out 0).trans rfl; have hcz6_1 : w5.cell? ⟨gb192, 1, none⟩ = some (.int .i64 0) := (blk_cell BK192.out 1).trans rfl; have hcz6_2 : w5.cell? ⟨gb192, 2, none⟩ = some (.bool false) := (blk_cell BK192.out 2).trans rfl; have hcz6_3 : w5.cell? ⟨gb192, 3, none⟩ = some (.bool false) := (blk_cell BK192.out 3).trans rfl; have hcz6_4 : w5.cell? ⟨gb192, 4, none⟩ = some (.bool false) := (blk_cell BK192.out 4).trans rfl; have hcz6_5 : w5.cell? ⟨gb192, 5, none⟩ = some (.bool false) := (blk_cell BK192.out 5).trans rfl; have hcz6_6 : w5.cell? ⟨gb192, 6, none⟩ = some (.int .i64 0) := (blk_cell BK192.out 6).trans rfl; have hfz6_0 := blk_frozen BK192.out 0; have hfz6_1 := blk_frozen BK192.out 1; have hfz6_2 := blk_frozen BK192.out 2; have hfz6_3 := blk_frozen BK192.out 3; have hfz6_4 := blk_frozen BK192.out 4; have hfz6_5 := blk_frozen BK192.out 5; have hfz6_6 := blk_frozen BK192.out 6))
    refine bodyPost_ret (results_cell_row rfl _ _ gb192 25 #[.int .i64 5, .int .i64 0, .bool false, .bool false, .bool false, .bool false, .int .i64 0] (0, 0) _ rfl (by (with_reducible repeat (first | refine blk_drewN ?_ _ | refine blk_drew ?_ | refine blk_alloc ?_ _)); refine blk_put (cs := #[.int .i64 5, .int .i64 0, .bool false, .bool false, .bool false, .bool false, .int .i64 0]) ?_ 6 _ rfl; (with_reducible repeat (first | refine blk_drewN ?_ _ | refine blk_drew ?_ | refine blk_alloc ?_ _)); refine blk_put (cs := #[.int .i64 5, .int .i64 0, .bool false, .bool false, .bool false, .bool false, .int .i64 0]) ?_ 5 _ rfl; (with_reducible repeat (first | refine blk_drewN ?_ _ | refine blk_drew ?_ | refine blk_alloc ?_ _)); refine blk_put (cs := #[.int .i64 5, .int .i64 0, .bool false, .bool false, .bool false, .bool false, .int .i64 0]) ?_ 4 _ rfl; (with_reducible repeat (first | refine blk_drewN ?_ _ | refine blk_drew ?_ | refine blk_alloc ?_ _)); refine blk_put (cs := #[.int .i64 5, .int .i64 0, .bool false, .bool false, .bool false, .bool false, .int .i64 0]) ?_ 3 _ rfl; (with_reducible repeat (first | refine blk_drewN ?_ _ | refine blk_drew ?_ | refine blk_alloc ?_ _)); refine blk_put (cs := #[.int .i64 5, .int .i64 0, .bool false, .bool false, .bool false, .bool false, .int .i64 0]) ?_ 2 _ rfl; (with_reducible repeat (first | refine blk_drewN ?_ _ | refine blk_drew ?_ | refine blk_alloc ?_ _)); refine blk_put (cs := #[.int .i64 5, .int .i64 0, .bool false, .bool false, .bool false, .bool false, .int .i64 0]) ?_ 1 _ rfl; (with_reducible repeat (first | refine blk_drewN ?_ _ | refine blk_drew ?_ | refine blk_alloc ?_ _)); refine blk_put (cs := #[.int .i64 0, .int .i64 0, .bool false, .bool false, .bool false, .bool false, .int .i64 0]) ?_ 0 _ rfl; (with_reducible repeat (first | refine blk_drewN ?_ _ | refine blk_drew ?_ | refine blk_alloc ?_ _)); exact BK192.out) Try.underlying25 rfl (by kernel_rfl)) rfl ?_
    exact ⟨by first | rfl | (simp [errW_none, errW_some] <;> rfl) | (simp [*, errW_none, errW_some] <;> rfl), by repeat (first | (with_reducible first | exact HB.out | apply below_alloc | apply pw_below_drewN | apply below_drew1 | refine below_set ?_ GE192.out) | exact HB.out)⟩
  · rw [if_neg c4] at H
    have c4b0 : decide (512 ≤ t193) = false := decide_eq_false c4
    clear c4
    replace H := Option.bind_eq_some_iff.mp H
    obtain ⟨t194, A70, H⟩ := H
    replace H : ((paviorref01_Bit.f a1 54).bind fun t195 => ((paviorref01_Bit.f a1 10).bind fun t196 => ((paviorref01_Bit.f a1 52).bind fun t197 => ((paviorref01_Field.f k a1 55 3).bind fun t198 => (paviorref02_Decode.l0 k a0 a1 0 0 (wrap64 (t193)) (t194 == 0) (t195 == 0) (t196 == 1) (t197 == 1) (wrap64 (t198))))))) = some (r1, r2, r3, r4, r5, r6, r7) := H
    have A7 := Aside0.mk A70
    clear A70
    replace H := Option.bind_eq_some_iff.mp H
    obtain ⟨t195, A80, H⟩ := H
    replace H : ((paviorref01_Bit.f a1 10).bind fun t196 => ((paviorref01_Bit.f a1 52).bind fun t197 => ((paviorref01_Field.f k a1 55 3).bind fun t198 => (paviorref02_Decode.l0 k a0 a1 0 0 (wrap64 (t193)) (t194 == 0) (t195 == 0) (t196 == 1) (t197 == 1) (wrap64 (t198)))))) = some (r1, r2, r3, r4, r5, r6, r7) := H
    have A8 := Aside0.mk A80
    clear A80
    replace H := Option.bind_eq_some_iff.mp H
    obtain ⟨t196, A90, H⟩ := H
    replace H : ((paviorref01_Bit.f a1 52).bind fun t197 => ((paviorref01_Field.f k a1 55 3).bind fun t198 => (paviorref02_Decode.l0 k a0 a1 0 0 (wrap64 (t193)) (t194 == 0) (t195 == 0) (t196 == 1) (t197 == 1) (wrap64 (t198))))) = some (r1, r2, r3, r4, r5, r6, r7) := H
    have A9 := Aside0.mk A90
    clear A90
    replace H := Option.bind_eq_some_iff.mp H
    obtain ⟨t197, A100, H⟩ := H
    replace H : ((paviorref01_Field.f k a1 55 3).bind fun t198 => (paviorref02_Decode.l0 k a0 a1 0 0 (wrap64 (t193)) (t194 == 0) (t195 == 0) (t196 == 1) (t197 == 1) (wrap64 (t198)))) = some (r1, r2, r3, r4, r5, r6, r7) := H
    have A10 := Aside0.mk A100
    clear A100
    replace H := Option.bind_eq_some_iff.mp H
    obtain ⟨t198, A110, H⟩ := H
    replace H : (paviorref02_Decode.l0 k a0 a1 0 0 (wrap64 (t193)) (t194 == 0) (t195 == 0) (t196 == 1) (t197 == 1) (wrap64 (t198))) = some (r1, r2, r3, r4, r5, r6, r7) := H
    have A11 := Aside0.mk A110
    clear A110
    have H' := Aside0.mk H
    clear H
    go_enter Try.func12, Try.ntmps12
    go_wp2_with (first | ((with_reducible refine gate_dst (N := 4) rfl ?_); refine box_event ?hg (N := 4) ?hd (cs := #[.int .i64 0, .int .i64 0, .bool false, .bool false, .bool false, .bool false, .int .i64 0]) (t := 25) ?hr ?_; (case hd => rfl); (case hg => rfl); (case hr => first | (go_simp; done) | (go_simp; rfl)); intro gb192 hg w12 hbox hb; have n0_ := Aside0.mk (below_step (by repeat (first | (with_reducible first | exact HB.out | apply below_alloc | apply pw_below_drewN | apply below_drew1) | exact HB.out)) hb); have n1_ := Aside0.mk (hbox); have n2_ := Aside0.mk ((by rw [hg]; exact (below_size (by repeat (first | (with_reducible first | exact HB.out | apply below_alloc | apply pw_below_drewN | apply below_drew1) | exact HB.out))) : w.heap.size ≤ gb192)); have n3_ := Aside0.mk ((by rw [hg]; exact (below_size (by repeat (first | (with_reducible first | exact HB.out | apply below_alloc | apply pw_below_drewN | apply below_drew1) | exact HB.out))) : w.heap.size ≤ gb192)); clear HB; have HB := n0_; have BK192 := n1_; have GW192 := n2_; have GE192 := n3_; clear n0_ n1_ n2_ n3_; clear hb hbox hg) | ((with_reducible refine gate_callee (f := 19) rfl ?_); refine goesL_ (some 11) rfl rfl Try.func19 (by kernel_rfl) rfl #[.int .u64 a1, .int .i64 12, .int .i64 36] rfl (by (try simp only [List.map_toArray, List.map_cons, List.map_nil]); first | done | rfl | (simp only [List.length_drop, List.length_take]; rfl)) ?_; (with_reducible refine (paviorref01_Field.calls k a1 12 36 t193 _ A3.out).mono ?_); rintro e w' ⟨rfl, ⟨nd, rfl⟩⟩; refine ⟨_, rfl, ?_⟩; (try (rw [drewN_self w12]; generalize hq_ : World.drewN w12 _ = w12; have n0_ : Aside0 (w12.heap[gb192]? = some (.cells #[.int .i64 0, .int .i64 0, .bool false, .bool false, .bool false, .bool false, .int .i64 0] 25 (0, 0))) := ⟨by rw [← hq_]; exact (by (with_reducible repeat (first | refine blk_drewN ?_ _ | refine blk_drew ?_ | refine blk_alloc ?_ _)); exact BK192.out)⟩; have n1_ : Aside0 (Below w.heap.size w w12) := ⟨by rw [← hq_]; exact (by repeat (first | (with_reducible first | exact HB.out | apply below_alloc | apply pw_below_drewN | apply below_drew1 | refine below_set ?_ GE192.out) | exact HB.out))⟩; clear BK192 HB hq_; have BK192 := n0_; have HB := n1_; clear n0_ n1_))) | ((with_reducible refine gate_callee (f := 20) rfl ?_); refine goesL_ (some 18) rfl rfl Try.func20 (by kernel_rfl) rfl #[.int .u64 a1, .int .i64 7] rfl (by (try simp only [List.map_toArray, List.map_cons, List.map_nil]); first | done | rfl | (simp only [List.length_drop, List.length_take]; rfl)) ?_; (with_reducible refine (paviorref01_Bit.calls a1 7 t194 _ A7.out).mono ?_); rintro e w' ⟨rfl, ⟨nd, rfl⟩⟩; refine ⟨_, rfl, ?_⟩; (try (rw [drewN_self w12]; generalize hq_ : World.drewN w12 _ = w12; have n0_ : Aside0 (w12.heap[gb192]? = some (.cells #[.int .i64 0, .int .i64 0, .bool false, .bool false, .bool false, .bool false, .int .i64 0] 25 (0, 0))) := ⟨by rw [← hq_]; exact (by (with_reducible repeat (first | refine blk_drewN ?_ _ | refine blk_drew ?_ | refine blk_alloc ?_ _)); exact BK192.out)⟩; have n1_ : Aside0 (Below w.heap.size w w12) := ⟨by rw [← hq_]; exact (by repeat (first | (with_reducible first | exact HB.out | apply below_alloc | apply pw_below_drewN | apply below_drew1 | refine below_set ?_ GE192.out) | exact HB.out))⟩; clear BK192 HB hq_; have BK192 := n0_; have HB := n1_; clear n0_ n1_))) | ((with_reducible refine gate_callee (f := 20) rfl ?_); refine goesL_ (some 21) rfl rfl Try.func20 (by kernel_rfl) rfl #[.int .u64 a1, .int .i64 54] rfl (by (try simp only [List.map_toArray, List.map_cons, List.map_nil]); first | done | rfl | (simp only [List.length_drop, List.length_take]; rfl)) ?_; (with_reducible refine (paviorref01_Bit.calls a1 54 t195 _ A8.out).mono ?_); rintro e w' ⟨rfl, ⟨nd, rfl⟩⟩; refine ⟨_, rfl, ?_⟩; (try (rw [drewN_self w12]; generalize hq_ : World.drewN w12 _ = w12; have n0_ : Aside0 (w12.heap[gb192]? = some (.cells #[.int .i64 0, .int .i64 0, .bool false, .bool false, .bool false, .bool false, .int .i64 0] 25 (0, 0))) := ⟨by rw [← hq_]; exact (by (with_reducible repeat (first | refine blk_drewN ?_ _ | refine blk_drew ?_ | refine blk_alloc ?_ _)); exact BK192.out)⟩; have n1_ : Aside0 (Below w.heap.size w w12) := ⟨by rw [← hq_]; exact (by repeat (first | (with_reducible first | exact HB.out | apply below_alloc | apply pw_below_drewN | apply below_drew1 | refine below_set ?_ GE192.out) | exact HB.out))⟩; clear BK192 HB hq_; have BK192 := n0_; have HB := n1_; clear n0_ n1_))) | ((with_reducible refine gate_callee (f := 20) rfl ?_); refine goesL_ (some 24) rfl rfl Try.func20 (by kernel_rfl) rfl #[.int .u64 a1, .int .i64 10] rfl (by (try simp only [List.map_toArray, List.map_cons, List.map_nil]); first | done | rfl | (simp only [List.length_drop, List.length_take]; rfl)) ?_; (with_reducible refine (paviorref01_Bit.calls a1 10 t196 _ A9.out).mono ?_); rintro e w' ⟨rfl, ⟨nd, rfl⟩⟩; refine ⟨_, rfl, ?_⟩; (try (rw [drewN_self w12]; generalize hq_ : World.drewN w12 _ = w12; have n0_ : Aside0 (w12.heap[gb192]? = some (.cells #[.int .i64 0, .int .i64 0, .bool false, .bool false, .bool false, .bool false, .int .i64 0] 25 (0, 0))) := ⟨by rw [← hq_]; exact (by (with_reducible repeat (first | refine blk_drewN ?_ _ | refine blk_drew ?_ | refine blk_alloc ?_ _)); exact BK192.out)⟩; have n1_ : Aside0 (Below w.heap.size w w12) := ⟨by rw [← hq_]; exact (by repeat (first | (with_reducible first | exact HB.out | apply below_alloc | apply pw_below_drewN | apply below_drew1 | refine below_set ?_ GE192.out) | exact HB.out))⟩; clear BK192 HB hq_; have BK192 := n0_; have HB := n1_; clear n0_ n1_))) | ((with_reducible refine gate_callee (f := 20) rfl ?_); refine goesL_ (some 27) rfl rfl Try.func20 (by kernel_rfl) rfl #[.int .u64 a1, .int .i64 52] rfl (by (try simp only [List.map_toArray, List.map_cons, List.map_nil]); first | done | rfl | (simp only [List.length_drop, List.length_take]; rfl)) ?_; (with_reducible refine (paviorref01_Bit.calls a1 52 t197 _ A10.out).mono ?_); rintro e w' ⟨rfl, ⟨nd, rfl⟩⟩; refine ⟨_, rfl, ?_⟩; (try (rw [drewN_self w12]; generalize hq_ : World.drewN w12 _ = w12; have n0_ : Aside0 (w12.heap[gb192]? = some (.cells #[.int .i64 0, .int .i64 0, .bool false, .bool false, .bool false, .bool false, .int .i64 0] 25 (0, 0))) := ⟨by rw [← hq_]; exact (by (with_reducible repeat (first | refine blk_drewN ?_ _ | refine blk_drew ?_ | refine blk_alloc ?_ _)); exact BK192.out)⟩; have n1_ : Aside0 (Below w.heap.size w w12) := ⟨by rw [← hq_]; exact (by repeat (first | (with_reducible first | exact HB.out | apply below_alloc | apply pw_below_drewN | apply below_drew1 | refine below_set ?_ GE192.out) | exact HB.out))⟩; clear BK192 HB hq_; have BK192 := n0_; have HB := n1_; clear n0_ n1_))) | ((with_reducible refine gate_callee (f := 19) rfl ?_); refine goesL_ (some 30) rfl rfl Try.func19 (by kernel_rfl) rfl #[.int .u64 a1, .int .i64 55, .int .i64 3] rfl (by (try simp only [List.map_toArray, List.map_cons, List.map_nil]); first | done | rfl | (simp only [List.length_drop, List.length_take]; rfl)) ?_; (with_reducible refine (paviorref01_Field.calls k a1 55 3 t198 _ A11.out).mono ?_); rintro e w' ⟨rfl, ⟨nd, rfl⟩⟩; refine ⟨_, rfl, ?_⟩; (try (rw [drewN_self w12]; generalize hq_ : World.drewN w12 _ = w12; have n0_ : Aside0 (w12.heap[gb192]? = some (.cells #[.int .i64 0, .int .i64 0, .bool false, .bool false, .bool false, .bool false, .int .i64 0] 25 (0, 0))) := ⟨by rw [← hq_]; exact (by (with_reducible repeat (first | refine blk_drewN ?_ _ | refine blk_drew ?_ | refine blk_alloc ?_ _)); exact BK192.out)⟩; have n1_ : Aside0 (Below w.heap.size w w12) := ⟨by rw [← hq_]; exact (by repeat (first | (with_reducible first | exact HB.out | apply below_alloc | apply pw_below_drewN | apply below_drew1 | refine below_set ?_ GE192.out) | exact HB.out))⟩; clear BK192 HB hq_; have BK192 := n0_; have HB := n1_; clear n0_ n1_))) | ((with_reducible refine gate_dst (N := 6) rfl ?_); refine box_event ?hg (N := 6) ?hd (cs := #[.int .i64 0, .int .i64 0, .bool false, .bool false, .bool false, .bool false, .int .i64 0]) (t := 25) ?hr ?_; (case hd => rfl); (case hg => rfl); (case hr => first | (go_simp; done) | (go_simp; rfl)); intro gb199 hg w13 hbox hb; have n0_ := Aside0.mk (blk_below (g := gb192) (o := .cells #[.int .i64 0, .int .i64 0, .bool false, .bool false, .bool false, .bool false, .int .i64 0] 25 (0, 0)) (by (with_reducible repeat (first | refine blk_drewN ?_ _ | refine blk_drew ?_ | refine blk_alloc ?_ _)); exact BK192.out) hb); have n1_ := Aside0.mk (below_step (by repeat (first | (with_reducible first | exact HB.out | apply below_alloc | apply pw_below_drewN | apply below_drew1 | refine below_set ?_ GE192.out) | exact HB.out)) hb); have n2_ := Aside0.mk (hbox); have n3_ := Aside0.mk ((by rw [hg]; exact (below_size (by repeat (first | (with_reducible first | exact HB.out | apply below_alloc | apply pw_below_drewN | apply below_drew1 | refine below_set ?_ GE192.out) | exact HB.out))) : w.heap.size ≤ gb199)); have n4_ := Aside0.mk ((by rw [hg]; exact (below_size (by repeat (first | (with_reducible first | exact HB.out | apply below_alloc | apply pw_below_drewN | apply below_drew1 | refine below_set ?_ GE192.out) | exact HB.out))) : w.heap.size ≤ gb199)); have n5_ := Aside0.mk ((by rw [hg]; exact Nat.ne_of_lt (blk_lt (g := gb192) (o := .cells #[.int .i64 0, .int .i64 0, .bool false, .bool false, .bool false, .bool false, .int .i64 0] 25 (0, 0)) (by (with_reducible repeat (first | refine blk_drewN ?_ _ | refine blk_drew ?_ | refine blk_alloc ?_ _)); exact BK192.out)) : gb192 ≠ gb199)); have n6_ := Aside0.mk ((by rw [hg]; exact Nat.ne_of_gt (blk_lt (g := gb192) (o := .cells #[.int .i64 0, .int .i64 0, .bool false, .bool false, .bool false, .bool false, .int .i64 0] 25 (0, 0)) (by (with_reducible repeat (first | refine blk_drewN ?_ _ | refine blk_drew ?_ | refine blk_alloc ?_ _)); exact BK192.out)) : gb199 ≠ gb192)); clear BK192; clear HB; have BK192 := n0_; have HB := n1_; have BK199 := n2_; have GW199 := n3_; have GE199 := n4_; have NB192_199 := n5_; have NB199_192 := n6_; clear n0_ n1_ n2_ n3_ n4_ n5_ n6_; clear hb hbox hg; have hnb14 := NB199_192.out; have hnc14 := NB192_199.out; have hcz15_0 : w13.cell? ⟨gb199, 0, none⟩ = some (.int .i64 0) := (blk_cell BK199.out 0).trans rfl; have hcz15_1 : w13.cell? ⟨gb199, 1, none⟩ = some (.int .i64 0) := (blk_cell BK199.out 1).trans rfl; have hcz15_2 : w13.cell? ⟨gb199, 2, none⟩ = some (.bool false) := (blk_cell BK199.out 2).trans rfl; have hcz15_3 : w13.cell? ⟨gb199, 3, none⟩ = some (.bool false) := (blk_cell BK199.out 3).trans rfl; have hcz15_4 : w13.cell? ⟨gb199, 4, none⟩ = some (.bool false) := (blk_cell BK199.out 4).trans rfl; have hcz15_5 : w13.cell? ⟨gb199, 5, none⟩ = some (.bool false) := (blk_cell BK199.out 5).trans rfl; have hcz15_6 : w13.cell? ⟨gb199, 6, none⟩ = some (.int .i64 0) := (blk_cell BK199.out 6).trans rfl; have hfz15_0 := blk_frozen BK199.out 0; have hfz15_1 := blk_frozen BK199.out 1; have hfz15_2 := blk_frozen BK199.out 2; have hfz15_3 := blk_frozen BK199.out 3; have hfz15_4 := blk_frozen BK199.out 4; have hfz15_5 := blk_frozen BK199.out 5; have hfz15_6 := blk_frozen BK199.out 6))
    go_loopg [7] k (fun kq v7 w' => ∃ (x7_1 : Int) (x193000_1 : Int) (x193001_1 : Int) (x193002_1 : Bool) (x193003_1 : Bool) (x193004_1 : Bool) (x193005_1 : Bool) (x193006_1 : Int), v7 = .int .i64 x7_1 ∧ Aside0 (paviorref02_Decode.l0 kq a0 a1 x7_1 0 (wrap64 (t193)) (t194 == 0) (t195 == 0) (t196 == 1) (t197 == 1) (wrap64 (t198)) = some (r1, r2, r3, r4, r5, r6, r7)) ∧ Aside0 (kq ≤ k) ∧ Aside0 (w'.heap[gb192]? = some (.cells #[.int .i64 x193000_1, .int .i64 x193001_1, .bool x193002_1, .bool x193003_1, .bool x193004_1, .bool x193005_1, .int .i64 x193006_1] 25 (0, 0))) ∧ Aside0 (w'.heap[gb199]? = some (.cells #[.int .i64 0, .int .i64 (wrap64 (t193)), .bool (t194 == 0), .bool (t195 == 0), .bool (t196 == 1), .bool (t197 == 1), .int .i64 (wrap64 (t198))] 25 (0, 0))) ∧ Aside0 (Below w.heap.size w w'))
    case atStart => exact ⟨(0), (0), (0), (false), (false), (false), (false), (0), (by first | rfl | (simp; done) | (simp [*]; done)), H', ⟨Nat.le_refl _⟩, ⟨by (with_reducible repeat (first | refine blk_drewN ?_ _ | refine blk_drew ?_ | refine blk_alloc ?_ _)); refine blk_far ?_ NB192_199.out _; (with_reducible repeat (first | refine blk_drewN ?_ _ | refine blk_drew ?_ | refine blk_alloc ?_ _)); refine blk_far ?_ NB192_199.out _; (with_reducible repeat (first | refine blk_drewN ?_ _ | refine blk_drew ?_ | refine blk_alloc ?_ _)); refine blk_far ?_ NB192_199.out _; (with_reducible repeat (first | refine blk_drewN ?_ _ | refine blk_drew ?_ | refine blk_alloc ?_ _)); refine blk_far ?_ NB192_199.out _; (with_reducible repeat (first | refine blk_drewN ?_ _ | refine blk_drew ?_ | refine blk_alloc ?_ _)); refine blk_far ?_ NB192_199.out _; (with_reducible repeat (first | refine blk_drewN ?_ _ | refine blk_drew ?_ | refine blk_alloc ?_ _)); refine blk_far ?_ NB192_199.out _; (with_reducible repeat (first | refine blk_drewN ?_ _ | refine blk_drew ?_ | refine blk_alloc ?_ _)); refine blk_far ?_ NB192_199.out _; (with_reducible repeat (first | refine blk_drewN ?_ _ | refine blk_drew ?_ | refine blk_alloc ?_ _)); exact BK192.out⟩, ⟨by (with_reducible repeat (first | refine blk_drewN ?_ _ | refine blk_drew ?_ | refine blk_alloc ?_ _)); refine blk_put (cs := #[.int .i64 0, .int .i64 (wrap64 (t193)), .bool (t194 == 0), .bool (t195 == 0), .bool (t196 == 1), .bool (t197 == 1), .int .i64 0]) ?_ 6 _ rfl; (with_reducible repeat (first | refine blk_drewN ?_ _ | refine blk_drew ?_ | refine blk_alloc ?_ _)); refine blk_put (cs := #[.int .i64 0, .int .i64 (wrap64 (t193)), .bool (t194 == 0), .bool (t195 == 0), .bool (t196 == 1), .bool false, .int .i64 0]) ?_ 5 _ rfl; (with_reducible repeat (first | refine blk_drewN ?_ _ | refine blk_drew ?_ | refine blk_alloc ?_ _)); refine blk_put (cs := #[.int .i64 0, .int .i64 (wrap64 (t193)), .bool (t194 == 0), .bool (t195 == 0), .bool false, .bool false, .int .i64 0]) ?_ 4 _ rfl; (with_reducible repeat (first | refine blk_drewN ?_ _ | refine blk_drew ?_ | refine blk_alloc ?_ _)); refine blk_put (cs := #[.int .i64 0, .int .i64 (wrap64 (t193)), .bool (t194 == 0), .bool false, .bool false, .bool false, .int .i64 0]) ?_ 3 _ rfl; (with_reducible repeat (first | refine blk_drewN ?_ _ | refine blk_drew ?_ | refine blk_alloc ?_ _)); refine blk_put (cs := #[.int .i64 0, .int .i64 (wrap64 (t193)), .bool false, .bool false, .bool false, .bool false, .int .i64 0]) ?_ 2 _ rfl; (with_reducible repeat (first | refine blk_drewN ?_ _ | refine blk_drew ?_ | refine blk_alloc ?_ _)); refine blk_put (cs := #[.int .i64 0, .int .i64 0, .bool false, .bool false, .bool false, .bool false, .int .i64 0]) ?_ 1 _ rfl; (with_reducible repeat (first | refine blk_drewN ?_ _ | refine blk_drew ?_ | refine blk_alloc ?_ _)); refine blk_put (cs := #[.int .i64 0, .int .i64 0, .bool false, .bool false, .bool false, .bool false, .int .i64 0]) ?_ 0 _ rfl; (with_reducible repeat (first | refine blk_drewN ?_ _ | refine blk_drew ?_ | refine blk_alloc ?_ _)); exact BK199.out⟩, ⟨by repeat (first | (with_reducible first | exact HB.out | apply below_alloc | apply pw_below_drewN | apply below_drew1 | refine below_set ?_ GE192.out | refine below_set ?_ GE199.out) | exact HB.out)⟩⟩
    case round =>
      clear H'
      try clear c1
      try clear c2
      try clear p2
      try clear c4
      try clear c4b0
      try clear p6
      try clear c12
      try clear c14
      try clear hcz15_0
      try clear hcz15_1
      try clear hcz15_2
      try clear hcz15_3
      try clear hcz15_4
      try clear hcz15_5
      try clear hcz15_6
      try clear hcz6_0
      try clear hcz6_1
      try clear hcz6_2
      try clear hcz6_3
      try clear hcz6_4
      try clear hcz6_5
      try clear hcz6_6
      try clear hfz15_0
      try clear hfz15_1
      try clear hfz15_2
      try clear hfz15_3
      try clear hfz15_4
      try clear hfz15_5
      try clear hfz15_6
      try clear hfz6_0
      try clear hfz6_1
      try clear hfz6_2
      try clear hfz6_3
      try clear hfz6_4
      try clear hfz6_5
      try clear hfz6_6
      obtain ⟨x7_1, x193000_1, x193001_1, x193002_1, x193003_1, x193004_1, x193005_1, x193006_1, rfl, HA, HK1, BK192, BK199, HB⟩ := hrel
      cases gk with
      | zero => exact absurd HA.out (by simp [paviorref02_Decode.l0])
      | succ k1 =>
        have H := HA.out
        clear HA
        simp only [paviorref02_Decode.l0] at H
        by_cases c16 : x7_1 ≤ 4
        · rw [if_pos c16] at H
          have c16b0 : decide (x7_1 ≤ 4) = true := decide_eq_true c16
          clear c16
          have HC17 := Aside0.mk H
          clear H
          have hnb18 := NB199_192.out
          have hnc18 := NB192_199.out
          have hcz19_0 : wr.cell? ⟨gb199, 0, none⟩ = some (.int .i64 0) := (blk_cell BK199.out 0).trans rfl
          have hcz19_1 : wr.cell? ⟨gb199, 1, none⟩ = some (.int .i64 (wrap64 (t193))) := (blk_cell BK199.out 1).trans rfl
          have hcz19_2 : wr.cell? ⟨gb199, 2, none⟩ = some (.bool (t194 == 0)) := (blk_cell BK199.out 2).trans rfl
          have hcz19_3 : wr.cell? ⟨gb199, 3, none⟩ = some (.bool (t195 == 0)) := (blk_cell BK199.out 3).trans rfl
          have hcz19_4 : wr.cell? ⟨gb199, 4, none⟩ = some (.bool (t196 == 1)) := (blk_cell BK199.out 4).trans rfl
          have hcz19_5 : wr.cell? ⟨gb199, 5, none⟩ = some (.bool (t197 == 1)) := (blk_cell BK199.out 5).trans rfl
          have hcz19_6 : wr.cell? ⟨gb199, 6, none⟩ = some (.int .i64 (wrap64 (t198))) := (blk_cell BK199.out 6).trans rfl
          have hfz19_0 := blk_frozen BK199.out 0
          have hfz19_1 := blk_frozen BK199.out 1
          have hfz19_2 := blk_frozen BK199.out 2
          have hfz19_3 := blk_frozen BK199.out 3
          have hfz19_4 := blk_frozen BK199.out 4
          have hfz19_5 := blk_frozen BK199.out 5
          have hfz19_6 := blk_frozen BK199.out 6
          go_upto_if 41 with (first | ((with_reducible refine gate_dst (N := 8) rfl ?_); refine box_event ?hg (N := 8) ?hd (cs := #[.int .i64 0, .int .i64 0, .bool false, .bool false, .bool false, .bool false, .int .i64 0]) (t := 25) ?hr ?_; (case hd => rfl); (case hg => rfl); (case hr => first | (go_simp; done) | (go_simp; rfl)); intro gb200 hg w20 hbox hb; have n0_ := Aside0.mk (blk_below (g := gb192) (o := .cells #[.int .i64 x193000_1, .int .i64 x193001_1, .bool x193002_1, .bool x193003_1, .bool x193004_1, .bool x193005_1, .int .i64 x193006_1] 25 (0, 0)) (by (with_reducible repeat (first | refine blk_drewN ?_ _ | refine blk_drew ?_ | refine blk_alloc ?_ _)); exact BK192.out) hb); have n1_ := Aside0.mk (blk_below (g := gb199) (o := .cells #[.int .i64 0, .int .i64 (wrap64 (t193)), .bool (t194 == 0), .bool (t195 == 0), .bool (t196 == 1), .bool (t197 == 1), .int .i64 (wrap64 (t198))] 25 (0, 0)) (by (with_reducible repeat (first | refine blk_drewN ?_ _ | refine blk_drew ?_ | refine blk_alloc ?_ _)); exact BK199.out) hb); have n2_ := Aside0.mk (below_step (by repeat (first | (with_reducible first | exact HB.out | apply below_alloc | apply pw_below_drewN | apply below_drew1 | refine below_set ?_ GE192.out | refine below_set ?_ GE199.out) | exact HB.out)) hb); have n3_ := Aside0.mk (hbox); have n4_ := Aside0.mk ((by rw [hg]; exact (below_size (by repeat (first | (with_reducible first | exact HB.out | apply below_alloc | apply pw_below_drewN | apply below_drew1 | refine below_set ?_ GE192.out | refine below_set ?_ GE199.out) | exact HB.out))) : w.heap.size ≤ gb200)); have n5_ := Aside0.mk ((by rw [hg]; exact (below_size (by repeat (first | (with_reducible first | exact HB.out | apply below_alloc | apply pw_below_drewN | apply below_drew1 | refine below_set ?_ GE192.out | refine below_set ?_ GE199.out) | exact HB.out))) : w.heap.size ≤ gb200)); have n6_ := Aside0.mk ((by rw [hg]; exact Nat.ne_of_lt (blk_lt (g := gb192) (o := .cells #[.int .i64 x193000_1, .int .i64 x193001_1, .bool x193002_1, .bool x193003_1, .bool x193004_1, .bool x193005_1, .int .i64 x193006_1] 25 (0, 0)) (by (with_reducible repeat (first | refine blk_drewN ?_ _ | refine blk_drew ?_ | refine blk_alloc ?_ _)); exact BK192.out)) : gb192 ≠ gb200)); have n7_ := Aside0.mk ((by rw [hg]; exact Nat.ne_of_gt (blk_lt (g := gb192) (o := .cells #[.int .i64 x193000_1, .int .i64 x193001_1, .bool x193002_1, .bool x193003_1, .bool x193004_1, .bool x193005_1, .int .i64 x193006_1] 25 (0, 0)) (by (with_reducible repeat (first | refine blk_drewN ?_ _ | refine blk_drew ?_ | refine blk_alloc ?_ _)); exact BK192.out)) : gb200 ≠ gb192)); have n8_ := Aside0.mk ((by rw [hg]; exact Nat.ne_of_lt (blk_lt (g := gb199) (o := .cells #[.int .i64 0, .int .i64 (wrap64 (t193)), .bool (t194 == 0), .bool (t195 == 0), .bool (t196 == 1), .bool (t197 == 1), .int .i64 (wrap64 (t198))] 25 (0, 0)) (by (with_reducible repeat (first | refine blk_drewN ?_ _ | refine blk_drew ?_ | refine blk_alloc ?_ _)); exact BK199.out)) : gb199 ≠ gb200)); have n9_ := Aside0.mk ((by rw [hg]; exact Nat.ne_of_gt (blk_lt (g := gb199) (o := .cells #[.int .i64 0, .int .i64 (wrap64 (t193)), .bool (t194 == 0), .bool (t195 == 0), .bool (t196 == 1), .bool (t197 == 1), .int .i64 (wrap64 (t198))] 25 (0, 0)) (by (with_reducible repeat (first | refine blk_drewN ?_ _ | refine blk_drew ?_ | refine blk_alloc ?_ _)); exact BK199.out)) : gb200 ≠ gb199)); clear BK192; clear BK199; clear HB; have BK192 := n0_; have BK199 := n1_; have HB := n2_; have BK200 := n3_; have GW200 := n4_; have GE200 := n5_; have NB192_200 := n6_; have NB200_192 := n7_; have NB199_200 := n8_; have NB200_199 := n9_; clear n0_ n1_ n2_ n3_ n4_ n5_ n6_ n7_ n8_ n9_; clear hb hbox hg; have hnb21 := NB200_192.out; have hnc21 := NB192_200.out; have hnb22 := NB200_199.out; have hnc22 := NB199_200.out; have hcz23_0 : w20.cell? ⟨gb200, 0, none⟩ = some (.int .i64 0) := (blk_cell BK200.out 0).trans rfl; have hcz23_1 : w20.cell? ⟨gb200, 1, none⟩ = some (.int .i64 0) := (blk_cell BK200.out 1).trans rfl; have hcz23_2 : w20.cell? ⟨gb200, 2, none⟩ = some (.bool false) := (blk_cell BK200.out 2).trans rfl; have hcz23_3 : w20.cell? ⟨gb200, 3, none⟩ = some (.bool false) := (blk_cell BK200.out 3).trans rfl; have hcz23_4 : w20.cell? ⟨gb200, 4, none⟩ = some (.bool false) := (blk_cell BK200.out 4).trans rfl; have hcz23_5 : w20.cell? ⟨gb200, 5, none⟩ = some (.bool false) := (blk_cell BK200.out 5).trans rfl; have hcz23_6 : w20.cell? ⟨gb200, 6, none⟩ = some (.int .i64 0) := (blk_cell BK200.out 6).trans rfl; have hfz23_0 := blk_frozen BK200.out 0; have hfz23_1 := blk_frozen BK200.out 1; have hfz23_2 := blk_frozen BK200.out 2; have hfz23_3 := blk_frozen BK200.out 3; have hfz23_4 := blk_frozen BK200.out 4; have hfz23_5 := blk_frozen BK200.out 5; have hfz23_6 := blk_frozen BK200.out 6))
          (try simp only [Act.put, List.setIfInBounds_toArray, List.set_cons_zero, List.set_cons_succ])
          go_cut [] (fun wc => ∃ (kq : Nat) (x201000_16 : Int) (x201001_16 : Int) (x201002_16 : Bool) (x201003_16 : Bool) (x201004_16 : Bool) (x201005_16 : Bool) (x201006_16 : Int), Aside0 (paviorref02_Decode.j1 kq a0 a1 x7_1 0 (wrap64 (t193)) (t194 == 0) (t195 == 0) (t196 == 1) (t197 == 1) (wrap64 (t198)) x201000_16 x201001_16 x201002_16 x201003_16 x201004_16 x201005_16 x201006_16 = some (r1, r2, r3, r4, r5, r6, r7)) ∧ Aside0 (kq ≤ k1) ∧ Aside0 (wc.heap[gb192]? = some (.cells #[.int .i64 x193000_1, .int .i64 x193001_1, .bool x193002_1, .bool x193003_1, .bool x193004_1, .bool x193005_1, .int .i64 x193006_1] 25 (0, 0))) ∧ Aside0 (wc.heap[gb199]? = some (.cells #[.int .i64 0, .int .i64 (wrap64 (t193)), .bool (t194 == 0), .bool (t195 == 0), .bool (t196 == 1), .bool (t197 == 1), .int .i64 (wrap64 (t198))] 25 (0, 0))) ∧ Aside0 (wc.heap[gb200]? = some (.cells #[.int .i64 x201000_16, .int .i64 x201001_16, .bool x201002_16, .bool x201003_16, .bool x201004_16, .bool x201005_16, .int .i64 x201006_16] 25 (0, 0))) ∧ Aside0 (Below w.heap.size w wc))
          case first =>
            have H := HC17.out
            clear HC17
            by_cases c24 : x7_1 = 0
            · rw [if_pos c24] at H
              have c24b0 : (x7_1 == 0) = true := beq_iff_eq.mpr c24
              have c24b1 : (x7_1 != 0) = false := bne_eq_false_iff_eq.mpr c24
              clear c24
              (first | rw [c24b0] | (simp only [i64_w, i32_w]; rw [c24b0]) | skip)
              have H' := Aside0.mk H
              clear H
              have hnb25 := NB200_192.out
              have hnc25 := NB192_200.out
              have hnb26 := NB200_199.out
              have hnc26 := NB199_200.out
              have hcz27_0 : w20.cell? ⟨gb200, 0, none⟩ = some (.int .i64 0) := (blk_cell BK200.out 0).trans rfl
              have hcz27_1 : w20.cell? ⟨gb200, 1, none⟩ = some (.int .i64 0) := (blk_cell BK200.out 1).trans rfl
              have hcz27_2 : w20.cell? ⟨gb200, 2, none⟩ = some (.bool false) := (blk_cell BK200.out 2).trans rfl
              have hcz27_3 : w20.cell? ⟨gb200, 3, none⟩ = some (.bool false) := (blk_cell BK200.out 3).trans rfl
              have hcz27_4 : w20.cell? ⟨gb200, 4, none⟩ = some (.bool false) := (blk_cell BK200.out 4).trans rfl
              have hcz27_5 : w20.cell? ⟨gb200, 5, none⟩ = some (.bool false) := (blk_cell BK200.out 5).trans rfl
              have hcz27_6 : w20.cell? ⟨gb200, 6, none⟩ = some (.int .i64 0) := (blk_cell BK200.out 6).trans rfl
              have hfz27_0 := blk_frozen BK200.out 0
              have hfz27_1 := blk_frozen BK200.out 1
              have hfz27_2 := blk_frozen BK200.out 2
              have hfz27_3 := blk_frozen BK200.out 3
              have hfz27_4 := blk_frozen BK200.out 4
              have hfz27_5 := blk_frozen BK200.out 5
              have hfz27_6 := blk_frozen BK200.out 6
              go_wp2
              go_meet
              case rel => exact ⟨_, (0), (0), (false), (false), (false), (false), (0), H', ⟨by have := HK1.out; first | omega | exact Nat.le_refl _⟩, ⟨by (with_reducible repeat (first | refine blk_drewN ?_ _ | refine blk_drew ?_ | refine blk_alloc ?_ _)); refine blk_far ?_ NB192_200.out _; (with_reducible repeat (first | refine blk_drewN ?_ _ | refine blk_drew ?_ | refine blk_alloc ?_ _)); refine blk_far ?_ NB192_200.out _; (with_reducible repeat (first | refine blk_drewN ?_ _ | refine blk_drew ?_ | refine blk_alloc ?_ _)); refine blk_far ?_ NB192_200.out _; (with_reducible repeat (first | refine blk_drewN ?_ _ | refine blk_drew ?_ | refine blk_alloc ?_ _)); refine blk_far ?_ NB192_200.out _; (with_reducible repeat (first | refine blk_drewN ?_ _ | refine blk_drew ?_ | refine blk_alloc ?_ _)); refine blk_far ?_ NB192_200.out _; (with_reducible repeat (first | refine blk_drewN ?_ _ | refine blk_drew ?_ | refine blk_alloc ?_ _)); refine blk_far ?_ NB192_200.out _; (with_reducible repeat (first | refine blk_drewN ?_ _ | refine blk_drew ?_ | refine blk_alloc ?_ _)); refine blk_far ?_ NB192_200.out _; (with_reducible repeat (first | refine blk_drewN ?_ _ | refine blk_drew ?_ | refine blk_alloc ?_ _)); refine blk_far ?_ NB192_200.out _; (with_reducible repeat (first | refine blk_drewN ?_ _ | refine blk_drew ?_ | refine blk_alloc ?_ _)); refine blk_far ?_ NB192_200.out _; (with_reducible repeat (first | refine blk_drewN ?_ _ | refine blk_drew ?_ | refine blk_alloc ?_ _)); refine blk_far ?_ NB192_200.out _; (with_reducible repeat (first | refine blk_drewN ?_ _ | refine blk_drew ?_ | refine blk_alloc ?_ _)); refine blk_far ?_ NB192_200.out _; (with_reducible repeat (first | refine blk_drewN ?_ _ | refine blk_drew ?_ | refine blk_alloc ?_ _)); refine blk_far ?_ NB192_200.out _; (with_reducible repeat (first | refine blk_drewN ?_ _ | refine blk_drew ?_ | refine blk_alloc ?_ _)); refine blk_far ?_ NB192_200.out _; (with_reducible repeat (first | refine blk_drewN ?_ _ | refine blk_drew ?_ | refine blk_alloc ?_ _)); refine blk_far ?_ NB192_200.out _; (with_reducible repeat (first | refine blk_drewN ?_ _ | refine blk_drew ?_ | refine blk_alloc ?_ _)); refine blk_far ?_ NB192_200.out _; (with_reducible repeat (first | refine blk_drewN ?_ _ | refine blk_drew ?_ | refine blk_alloc ?_ _)); exact BK192.out⟩, ⟨by (with_reducible repeat (first | refine blk_drewN ?_ _ | refine blk_drew ?_ | refine blk_alloc ?_ _)); refine blk_far ?_ NB199_200.out _; (with_reducible repeat (first | refine blk_drewN ?_ _ | refine blk_drew ?_ | refine blk_alloc ?_ _)); refine blk_far ?_ NB199_200.out _; (with_reducible repeat (first | refine blk_drewN ?_ _ | refine blk_drew ?_ | refine blk_alloc ?_ _)); refine blk_far ?_ NB199_200.out _; (with_reducible repeat (first | refine blk_drewN ?_ _ | refine blk_drew ?_ | refine blk_alloc ?_ _)); refine blk_far ?_ NB199_200.out _; (with_reducible repeat (first | refine blk_drewN ?_ _ | refine blk_drew ?_ | refine blk_alloc ?_ _)); refine blk_far ?_ NB199_200.out _; (with_reducible repeat (first | refine blk_drewN ?_ _ | refine blk_drew ?_ | refine blk_alloc ?_ _)); refine blk_far ?_ NB199_200.out _; (with_reducible repeat (first | refine blk_drewN ?_ _ | refine blk_drew ?_ | refine blk_alloc ?_ _)); refine blk_far ?_ NB199_200.out _; (with_reducible repeat (first | refine blk_drewN ?_ _ | refine blk_drew ?_ | refine blk_alloc ?_ _)); refine blk_far ?_ NB199_200.out _; (with_reducible repeat (first | refine blk_drewN ?_ _ | refine blk_drew ?_ | refine blk_alloc ?_ _)); refine blk_far ?_ NB199_200.out _; (with_reducible repeat (first | refine blk_drewN ?_ _ | refine blk_drew ?_ | refine blk_alloc ?_ _)); refine blk_far ?_ NB199_200.out _; (with_reducible repeat (first | refine blk_drewN ?_ _ | refine blk_drew ?_ | refine blk_alloc ?_ _)); refine blk_far ?_ NB199_200.out _; (with_reducible repeat (first | refine blk_drewN ?_ _ | refine blk_drew ?_ | refine blk_alloc ?_ _)); refine blk_far ?_ NB199_200.out _; (with_reducible repeat (first | refine blk_drewN ?_ _ | refine blk_drew ?_ | refine blk_alloc ?_ _)); refine blk_far ?_ NB199_200.out _; (with_reducible repeat (first | refine blk_drewN ?_ _ | refine blk_drew ?_ | refine blk_alloc ?_ _)); refine blk_far ?_ NB199_200.out _; (with_reducible repeat (first | refine blk_drewN ?_ _ | refine blk_drew ?_ | refine blk_alloc ?_ _)); refine blk_far ?_ NB199_200.out _; (with_reducible repeat (first | refine blk_drewN ?_ _ | refine blk_drew ?_ | refine blk_alloc ?_ _)); exact BK199.out⟩, ⟨by (with_reducible repeat (first | refine blk_drewN ?_ _ | refine blk_drew ?_ | refine blk_alloc ?_ _)); refine blk_put (cs := #[.int .i64 0, .int .i64 0, .bool false, .bool false, .bool false, .bool false, .int .i64 (wrap64 (t198))]) ?_ 6 _ rfl; (with_reducible repeat (first | refine blk_drewN ?_ _ | refine blk_drew ?_ | refine blk_alloc ?_ _)); refine blk_put (cs := #[.int .i64 0, .int .i64 0, .bool false, .bool false, .bool false, .bool (t197 == 1), .int .i64 (wrap64 (t198))]) ?_ 5 _ rfl; (with_reducible repeat (first | refine blk_drewN ?_ _ | refine blk_drew ?_ | refine blk_alloc ?_ _)); refine blk_put (cs := #[.int .i64 0, .int .i64 0, .bool false, .bool false, .bool (t196 == 1), .bool (t197 == 1), .int .i64 (wrap64 (t198))]) ?_ 4 _ rfl; (with_reducible repeat (first | refine blk_drewN ?_ _ | refine blk_drew ?_ | refine blk_alloc ?_ _)); refine blk_put (cs := #[.int .i64 0, .int .i64 0, .bool false, .bool (t195 == 0), .bool (t196 == 1), .bool (t197 == 1), .int .i64 (wrap64 (t198))]) ?_ 3 _ rfl; (with_reducible repeat (first | refine blk_drewN ?_ _ | refine blk_drew ?_ | refine blk_alloc ?_ _)); refine blk_put (cs := #[.int .i64 0, .int .i64 0, .bool (t194 == 0), .bool (t195 == 0), .bool (t196 == 1), .bool (t197 == 1), .int .i64 (wrap64 (t198))]) ?_ 2 _ rfl; (with_reducible repeat (first | refine blk_drewN ?_ _ | refine blk_drew ?_ | refine blk_alloc ?_ _)); refine blk_put (cs := #[.int .i64 0, .int .i64 (wrap64 (t193)), .bool (t194 == 0), .bool (t195 == 0), .bool (t196 == 1), .bool (t197 == 1), .int .i64 (wrap64 (t198))]) ?_ 1 _ rfl; (with_reducible repeat (first | refine blk_drewN ?_ _ | refine blk_drew ?_ | refine blk_alloc ?_ _)); refine blk_put (cs := #[.int .i64 x7_1, .int .i64 (wrap64 (t193)), .bool (t194 == 0), .bool (t195 == 0), .bool (t196 == 1), .bool (t197 == 1), .int .i64 (wrap64 (t198))]) ?_ 0 _ rfl; (with_reducible repeat (first | refine blk_drewN ?_ _ | refine blk_drew ?_ | refine blk_alloc ?_ _)); refine blk_put (cs := #[.int .i64 0, .int .i64 (wrap64 (t193)), .bool (t194 == 0), .bool (t195 == 0), .bool (t196 == 1), .bool (t197 == 1), .int .i64 (wrap64 (t198))]) ?_ 0 _ rfl; (with_reducible repeat (first | refine blk_drewN ?_ _ | refine blk_drew ?_ | refine blk_alloc ?_ _)); refine blk_put (cs := #[.int .i64 0, .int .i64 (wrap64 (t193)), .bool (t194 == 0), .bool (t195 == 0), .bool (t196 == 1), .bool (t197 == 1), .int .i64 0]) ?_ 6 _ rfl; (with_reducible repeat (first | refine blk_drewN ?_ _ | refine blk_drew ?_ | refine blk_alloc ?_ _)); refine blk_put (cs := #[.int .i64 0, .int .i64 (wrap64 (t193)), .bool (t194 == 0), .bool (t195 == 0), .bool (t196 == 1), .bool false, .int .i64 0]) ?_ 5 _ rfl; (with_reducible repeat (first | refine blk_drewN ?_ _ | refine blk_drew ?_ | refine blk_alloc ?_ _)); refine blk_put (cs := #[.int .i64 0, .int .i64 (wrap64 (t193)), .bool (t194 == 0), .bool (t195 == 0), .bool false, .bool false, .int .i64 0]) ?_ 4 _ rfl; (with_reducible repeat (first | refine blk_drewN ?_ _ | refine blk_drew ?_ | refine blk_alloc ?_ _)); refine blk_put (cs := #[.int .i64 0, .int .i64 (wrap64 (t193)), .bool (t194 == 0), .bool false, .bool false, .bool false, .int .i64 0]) ?_ 3 _ rfl; (with_reducible repeat (first | refine blk_drewN ?_ _ | refine blk_drew ?_ | refine blk_alloc ?_ _)); refine blk_put (cs := #[.int .i64 0, .int .i64 (wrap64 (t193)), .bool false, .bool false, .bool false, .bool false, .int .i64 0]) ?_ 2 _ rfl; (with_reducible repeat (first | refine blk_drewN ?_ _ | refine blk_drew ?_ | refine blk_alloc ?_ _)); refine blk_put (cs := #[.int .i64 0, .int .i64 0, .bool false, .bool false, .bool false, .bool false, .int .i64 0]) ?_ 1 _ rfl; (with_reducible repeat (first | refine blk_drewN ?_ _ | refine blk_drew ?_ | refine blk_alloc ?_ _)); refine blk_put (cs := #[.int .i64 0, .int .i64 0, .bool false, .bool false, .bool false, .bool false, .int .i64 0]) ?_ 0 _ rfl; (with_reducible repeat (first | refine blk_drewN ?_ _ | refine blk_drew ?_ | refine blk_alloc ?_ _)); exact BK200.out⟩, ⟨by repeat (first | (with_reducible first | exact HB.out | apply below_alloc | apply pw_below_drewN | apply below_drew1 | refine below_set ?_ GE192.out | refine below_set ?_ GE199.out | refine below_set ?_ GE200.out) | exact HB.out)⟩⟩
            · rw [if_neg c24] at H
              have c24b0 : (x7_1 == 0) = false := beq_eq_false_iff_ne.mpr c24
              have c24b1 : (x7_1 != 0) = true := bne_iff_ne.mpr c24
              (first | rw [c24b0] | (simp only [i64_w, i32_w]; rw [c24b0]) | skip)
              have H' := Aside0.mk H
              clear H
              go_wp2
              go_meet
              case rel => exact ⟨_, (x7_1), ((wrap64 (t193))), ((t194 == 0)), ((t195 == 0)), ((t196 == 1)), ((t197 == 1)), ((wrap64 (t198))), H', ⟨by have := HK1.out; first | omega | exact Nat.le_refl _⟩, ⟨by (with_reducible repeat (first | refine blk_drewN ?_ _ | refine blk_drew ?_ | refine blk_alloc ?_ _)); refine blk_far ?_ NB192_200.out _; (with_reducible repeat (first | refine blk_drewN ?_ _ | refine blk_drew ?_ | refine blk_alloc ?_ _)); refine blk_far ?_ NB192_200.out _; (with_reducible repeat (first | refine blk_drewN ?_ _ | refine blk_drew ?_ | refine blk_alloc ?_ _)); refine blk_far ?_ NB192_200.out _; (with_reducible repeat (first | refine blk_drewN ?_ _ | refine blk_drew ?_ | refine blk_alloc ?_ _)); refine blk_far ?_ NB192_200.out _; (with_reducible repeat (first | refine blk_drewN ?_ _ | refine blk_drew ?_ | refine blk_alloc ?_ _)); refine blk_far ?_ NB192_200.out _; (with_reducible repeat (first | refine blk_drewN ?_ _ | refine blk_drew ?_ | refine blk_alloc ?_ _)); refine blk_far ?_ NB192_200.out _; (with_reducible repeat (first | refine blk_drewN ?_ _ | refine blk_drew ?_ | refine blk_alloc ?_ _)); refine blk_far ?_ NB192_200.out _; (with_reducible repeat (first | refine blk_drewN ?_ _ | refine blk_drew ?_ | refine blk_alloc ?_ _)); refine blk_far ?_ NB192_200.out _; (with_reducible repeat (first | refine blk_drewN ?_ _ | refine blk_drew ?_ | refine blk_alloc ?_ _)); exact BK192.out⟩, ⟨by (with_reducible repeat (first | refine blk_drewN ?_ _ | refine blk_drew ?_ | refine blk_alloc ?_ _)); refine blk_far ?_ NB199_200.out _; (with_reducible repeat (first | refine blk_drewN ?_ _ | refine blk_drew ?_ | refine blk_alloc ?_ _)); refine blk_far ?_ NB199_200.out _; (with_reducible repeat (first | refine blk_drewN ?_ _ | refine blk_drew ?_ | refine blk_alloc ?_ _)); refine blk_far ?_ NB199_200.out _; (with_reducible repeat (first | refine blk_drewN ?_ _ | refine blk_drew ?_ | refine blk_alloc ?_ _)); refine blk_far ?_ NB199_200.out _; (with_reducible repeat (first | refine blk_drewN ?_ _ | refine blk_drew ?_ | refine blk_alloc ?_ _)); refine blk_far ?_ NB199_200.out _; (with_reducible repeat (first | refine blk_drewN ?_ _ | refine blk_drew ?_ | refine blk_alloc ?_ _)); refine blk_far ?_ NB199_200.out _; (with_reducible repeat (first | refine blk_drewN ?_ _ | refine blk_drew ?_ | refine blk_alloc ?_ _)); refine blk_far ?_ NB199_200.out _; (with_reducible repeat (first | refine blk_drewN ?_ _ | refine blk_drew ?_ | refine blk_alloc ?_ _)); refine blk_far ?_ NB199_200.out _; (with_reducible repeat (first | refine blk_drewN ?_ _ | refine blk_drew ?_ | refine blk_alloc ?_ _)); exact BK199.out⟩, ⟨by (with_reducible repeat (first | refine blk_drewN ?_ _ | refine blk_drew ?_ | refine blk_alloc ?_ _)); refine blk_put (cs := #[.int .i64 0, .int .i64 (wrap64 (t193)), .bool (t194 == 0), .bool (t195 == 0), .bool (t196 == 1), .bool (t197 == 1), .int .i64 (wrap64 (t198))]) ?_ 0 _ rfl; (with_reducible repeat (first | refine blk_drewN ?_ _ | refine blk_drew ?_ | refine blk_alloc ?_ _)); refine blk_put (cs := #[.int .i64 0, .int .i64 (wrap64 (t193)), .bool (t194 == 0), .bool (t195 == 0), .bool (t196 == 1), .bool (t197 == 1), .int .i64 0]) ?_ 6 _ rfl; (with_reducible repeat (first | refine blk_drewN ?_ _ | refine blk_drew ?_ | refine blk_alloc ?_ _)); refine blk_put (cs := #[.int .i64 0, .int .i64 (wrap64 (t193)), .bool (t194 == 0), .bool (t195 == 0), .bool (t196 == 1), .bool false, .int .i64 0]) ?_ 5 _ rfl; (with_reducible repeat (first | refine blk_drewN ?_ _ | refine blk_drew ?_ | refine blk_alloc ?_ _)); refine blk_put (cs := #[.int .i64 0, .int .i64 (wrap64 (t193)), .bool (t194 == 0), .bool (t195 == 0), .bool false, .bool false, .int .i64 0]) ?_ 4 _ rfl; (with_reducible repeat (first | refine blk_drewN ?_ _ | refine blk_drew ?_ | refine blk_alloc ?_ _)); refine blk_put (cs := #[.int .i64 0, .int .i64 (wrap64 (t193)), .bool (t194 == 0), .bool false, .bool false, .bool false, .int .i64 0]) ?_ 3 _ rfl; (with_reducible repeat (first | refine blk_drewN ?_ _ | refine blk_drew ?_ | refine blk_alloc ?_ _)); refine blk_put (cs := #[.int .i64 0, .int .i64 (wrap64 (t193)), .bool false, .bool false, .bool false, .bool false, .int .i64 0]) ?_ 2 _ rfl; (with_reducible repeat (first | refine blk_drewN ?_ _ | refine blk_drew ?_ | refine blk_alloc ?_ _)); refine blk_put (cs := #[.int .i64 0, .int .i64 0, .bool false, .bool false, .bool false, .bool false, .int .i64 0]) ?_ 1 _ rfl; (with_reducible repeat (first | refine blk_drewN ?_ _ | refine blk_drew ?_ | refine blk_alloc ?_ _)); refine blk_put (cs := #[.int .i64 0, .int .i64 0, .bool false, .bool false, .bool false, .bool false, .int .i64 0]) ?_ 0 _ rfl; (with_reducible repeat (first | refine blk_drewN ?_ _ | refine blk_drew ?_ | refine blk_alloc ?_ _)); exact BK200.out⟩, ⟨by repeat (first | (with_reducible first | exact HB.out | apply below_alloc | apply pw_below_drewN | apply below_drew1 | refine below_set ?_ GE192.out | refine below_set ?_ GE199.out | refine below_set ?_ GE200.out) | exact HB.out)⟩⟩
          case rest =>
            clear HC17
            try clear c1
            try clear c2
            try clear p2
            try clear c4
            try clear c4b0
            try clear p6
            try clear c12
            try clear c14
            try clear c16
            try clear c16b0
            try clear c18
            try clear c19
            try clear c20
            try clear c21
            try clear c22
            try clear c24
            try clear c24b0
            try clear c24b1
            try clear c25
            try clear c26
            try clear hcz15_0
            try clear hcz15_1
            try clear hcz15_2
            try clear hcz15_3
            try clear hcz15_4
            try clear hcz15_5
            try clear hcz15_6
            try clear hcz19_0
            try clear hcz19_1
            try clear hcz19_2
            try clear hcz19_3
            try clear hcz19_4
            try clear hcz19_5
            try clear hcz19_6
            try clear hcz23_0
            try clear hcz23_1
            try clear hcz23_2
            try clear hcz23_3
            try clear hcz23_4
            try clear hcz23_5
            try clear hcz23_6
            try clear hcz27_0
            try clear hcz27_1
            try clear hcz27_2
            try clear hcz27_3
            try clear hcz27_4
            try clear hcz27_5
            try clear hcz27_6
            try clear hcz6_0
            try clear hcz6_1
            try clear hcz6_2
            try clear hcz6_3
            try clear hcz6_4
            try clear hcz6_5
            try clear hcz6_6
            try clear hfz15_0
            try clear hfz15_1
            try clear hfz15_2
            try clear hfz15_3
            try clear hfz15_4
            try clear hfz15_5
            try clear hfz15_6
            try clear hfz19_0
            try clear hfz19_1
            try clear hfz19_2
            try clear hfz19_3
            try clear hfz19_4
            try clear hfz19_5
            try clear hfz19_6
            try clear hfz23_0
            try clear hfz23_1
            try clear hfz23_2
            try clear hfz23_3
            try clear hfz23_4
            try clear hfz23_5
            try clear hfz23_6
            try clear hfz27_0
            try clear hfz27_1
            try clear hfz27_2
            try clear hfz27_3
            try clear hfz27_4
            try clear hfz27_5
            try clear hfz27_6
            try clear hfz6_0
            try clear hfz6_1
            try clear hfz6_2
            try clear hfz6_3
            try clear hfz6_4
            try clear hfz6_5
            try clear hfz6_6
            try clear p2
            try clear p6
            obtain ⟨kq, x201000_16, x201001_16, x201002_16, x201003_16, x201004_16, x201005_16, x201006_16, HA, HJ16, BK192, BK199, BK200, HB⟩ := hcut
            cases kq with
            | zero => exact absurd HA.out (by simp [paviorref02_Decode.j1])
            | succ kj16 =>
              have H := HA.out
              clear HA
              simp only [paviorref02_Decode.j1] at H
              have HC28 := Aside0.mk H
              clear H
              go_upto_if 44 with (fail)
              go_cut [] (fun wc => ∃ (kq : Nat) (x201000_27 : Int) (x201001_27 : Int) (x201002_27 : Bool) (x201003_27 : Bool) (x201004_27 : Bool) (x201005_27 : Bool) (x201006_27 : Int), Aside0 (paviorref02_Decode.j2 kq a0 a1 x7_1 0 (wrap64 (t193)) (t194 == 0) (t195 == 0) (t196 == 1) (t197 == 1) (wrap64 (t198)) x201000_27 x201001_27 x201002_27 x201003_27 x201004_27 x201005_27 x201006_27 = some (r1, r2, r3, r4, r5, r6, r7)) ∧ Aside0 (kq ≤ kj16) ∧ Aside0 (wc.heap[gb192]? = some (.cells #[.int .i64 x193000_1, .int .i64 x193001_1, .bool x193002_1, .bool x193003_1, .bool x193004_1, .bool x193005_1, .int .i64 x193006_1] 25 (0, 0))) ∧ Aside0 (wc.heap[gb199]? = some (.cells #[.int .i64 0, .int .i64 (wrap64 (t193)), .bool (t194 == 0), .bool (t195 == 0), .bool (t196 == 1), .bool (t197 == 1), .int .i64 (wrap64 (t198))] 25 (0, 0))) ∧ Aside0 (wc.heap[gb200]? = some (.cells #[.int .i64 x201000_27, .int .i64 x201001_27, .bool x201002_27, .bool x201003_27, .bool x201004_27, .bool x201005_27, .int .i64 x201006_27] 25 (0, 0))) ∧ Aside0 (Below w.heap.size w wc))
              case first =>
                have H := HC28.out
                clear HC28
                by_cases c29 : x7_1 = 1
                · rw [if_pos c29] at H
                  have c29b0 : (x7_1 == 1) = true := beq_iff_eq.mpr c29
                  have c29b1 : (x7_1 != 1) = false := bne_eq_false_iff_eq.mpr c29
                  clear c29
                  (first | rw [c29b0] | (simp only [i64_w, i32_w]; rw [c29b0]) | skip)
                  have H' := Aside0.mk H
                  clear H
                  have hnb30 := NB199_192.out
                  have hnc30 := NB192_199.out
                  have hnb31 := NB199_200.out
                  have hnc31 := NB200_199.out
                  have hcz32_0 : wc.cell? ⟨gb199, 0, none⟩ = some (.int .i64 0) := (blk_cell BK199.out 0).trans rfl
                  have hcz32_1 : wc.cell? ⟨gb199, 1, none⟩ = some (.int .i64 (wrap64 (t193))) := (blk_cell BK199.out 1).trans rfl
                  have hcz32_2 : wc.cell? ⟨gb199, 2, none⟩ = some (.bool (t194 == 0)) := (blk_cell BK199.out 2).trans rfl
                  have hcz32_3 : wc.cell? ⟨gb199, 3, none⟩ = some (.bool (t195 == 0)) := (blk_cell BK199.out 3).trans rfl
                  have hcz32_4 : wc.cell? ⟨gb199, 4, none⟩ = some (.bool (t196 == 1)) := (blk_cell BK199.out 4).trans rfl
                  have hcz32_5 : wc.cell? ⟨gb199, 5, none⟩ = some (.bool (t197 == 1)) := (blk_cell BK199.out 5).trans rfl
                  have hcz32_6 : wc.cell? ⟨gb199, 6, none⟩ = some (.int .i64 (wrap64 (t198))) := (blk_cell BK199.out 6).trans rfl
                  have hfz32_0 := blk_frozen BK199.out 0
                  have hfz32_1 := blk_frozen BK199.out 1
                  have hfz32_2 := blk_frozen BK199.out 2
                  have hfz32_3 := blk_frozen BK199.out 3
                  have hfz32_4 := blk_frozen BK199.out 4
                  have hfz32_5 := blk_frozen BK199.out 5
                  have hfz32_6 := blk_frozen BK199.out 6
                  have hnb33 := NB200_192.out
                  have hnc33 := NB192_200.out
                  have hcz34_0 : wc.cell? ⟨gb200, 0, none⟩ = some (.int .i64 x201000_16) := (blk_cell BK200.out 0).trans rfl
                  have hcz34_1 : wc.cell? ⟨gb200, 1, none⟩ = some (.int .i64 x201001_16) := (blk_cell BK200.out 1).trans rfl
                  have hcz34_2 : wc.cell? ⟨gb200, 2, none⟩ = some (.bool x201002_16) := (blk_cell BK200.out 2).trans rfl
                  have hcz34_3 : wc.cell? ⟨gb200, 3, none⟩ = some (.bool x201003_16) := (blk_cell BK200.out 3).trans rfl
                  have hcz34_4 : wc.cell? ⟨gb200, 4, none⟩ = some (.bool x201004_16) := (blk_cell BK200.out 4).trans rfl
                  have hcz34_5 : wc.cell? ⟨gb200, 5, none⟩ = some (.bool x201005_16) := (blk_cell BK200.out 5).trans rfl
                  have hcz34_6 : wc.cell? ⟨gb200, 6, none⟩ = some (.int .i64 x201006_16) := (blk_cell BK200.out 6).trans rfl
                  have hfz34_0 := blk_frozen BK200.out 0
                  have hfz34_1 := blk_frozen BK200.out 1
                  have hfz34_2 := blk_frozen BK200.out 2
                  have hfz34_3 := blk_frozen BK200.out 3
                  have hfz34_4 := blk_frozen BK200.out 4
                  have hfz34_5 := blk_frozen BK200.out 5
                  have hfz34_6 := blk_frozen BK200.out 6
                  go_wp2
                  go_meet
                  case rel => exact ⟨_, (x7_1), ((wrap64 (t193))), (false), (false), (false), (false), (0), H', ⟨by have := HK1.out; have := HJ16.out; first | omega | exact Nat.le_refl _⟩, ⟨by (with_reducible repeat (first | refine blk_drewN ?_ _ | refine blk_drew ?_ | refine blk_alloc ?_ _)); refine blk_far ?_ NB192_200.out _; (with_reducible repeat (first | refine blk_drewN ?_ _ | refine blk_drew ?_ | refine blk_alloc ?_ _)); refine blk_far ?_ NB192_200.out _; (with_reducible repeat (first | refine blk_drewN ?_ _ | refine blk_drew ?_ | refine blk_alloc ?_ _)); refine blk_far ?_ NB192_200.out _; (with_reducible repeat (first | refine blk_drewN ?_ _ | refine blk_drew ?_ | refine blk_alloc ?_ _)); refine blk_far ?_ NB192_200.out _; (with_reducible repeat (first | refine blk_drewN ?_ _ | refine blk_drew ?_ | refine blk_alloc ?_ _)); refine blk_far ?_ NB192_200.out _; (with_reducible repeat (first | refine blk_drewN ?_ _ | refine blk_drew ?_ | refine blk_alloc ?_ _)); refine blk_far ?_ NB192_200.out _; (with_reducible repeat (first | refine blk_drewN ?_ _ | refine blk_drew ?_ | refine blk_alloc ?_ _)); refine blk_far ?_ NB192_200.out _; (with_reducible repeat (first | refine blk_drewN ?_ _ | refine blk_drew ?_ | refine blk_alloc ?_ _)); exact BK192.out⟩, ⟨by (with_reducible repeat (first | refine blk_drewN ?_ _ | refine blk_drew ?_ | refine blk_alloc ?_ _)); refine blk_far ?_ NB199_200.out _; (with_reducible repeat (first | refine blk_drewN ?_ _ | refine blk_drew ?_ | refine blk_alloc ?_ _)); refine blk_far ?_ NB199_200.out _; (with_reducible repeat (first | refine blk_drewN ?_ _ | refine blk_drew ?_ | refine blk_alloc ?_ _)); refine blk_far ?_ NB199_200.out _; (with_reducible repeat (first | refine blk_drewN ?_ _ | refine blk_drew ?_ | refine blk_alloc ?_ _)); refine blk_far ?_ NB199_200.out _; (with_reducible repeat (first | refine blk_drewN ?_ _ | refine blk_drew ?_ | refine blk_alloc ?_ _)); refine blk_far ?_ NB199_200.out _; (with_reducible repeat (first | refine blk_drewN ?_ _ | refine blk_drew ?_ | refine blk_alloc ?_ _)); refine blk_far ?_ NB199_200.out _; (with_reducible repeat (first | refine blk_drewN ?_ _ | refine blk_drew ?_ | refine blk_alloc ?_ _)); refine blk_far ?_ NB199_200.out _; (with_reducible repeat (first | refine blk_drewN ?_ _ | refine blk_drew ?_ | refine blk_alloc ?_ _)); exact BK199.out⟩, ⟨by (with_reducible repeat (first | refine blk_drewN ?_ _ | refine blk_drew ?_ | refine blk_alloc ?_ _)); refine blk_put (cs := #[.int .i64 x7_1, .int .i64 (wrap64 (t193)), .bool false, .bool false, .bool false, .bool false, .int .i64 x201006_16]) ?_ 6 _ rfl; (with_reducible repeat (first | refine blk_drewN ?_ _ | refine blk_drew ?_ | refine blk_alloc ?_ _)); refine blk_put (cs := #[.int .i64 x7_1, .int .i64 (wrap64 (t193)), .bool false, .bool false, .bool false, .bool x201005_16, .int .i64 x201006_16]) ?_ 5 _ rfl; (with_reducible repeat (first | refine blk_drewN ?_ _ | refine blk_drew ?_ | refine blk_alloc ?_ _)); refine blk_put (cs := #[.int .i64 x7_1, .int .i64 (wrap64 (t193)), .bool false, .bool false, .bool x201004_16, .bool x201005_16, .int .i64 x201006_16]) ?_ 4 _ rfl; (with_reducible repeat (first | refine blk_drewN ?_ _ | refine blk_drew ?_ | refine blk_alloc ?_ _)); refine blk_put (cs := #[.int .i64 x7_1, .int .i64 (wrap64 (t193)), .bool false, .bool x201003_16, .bool x201004_16, .bool x201005_16, .int .i64 x201006_16]) ?_ 3 _ rfl; (with_reducible repeat (first | refine blk_drewN ?_ _ | refine blk_drew ?_ | refine blk_alloc ?_ _)); refine blk_put (cs := #[.int .i64 x7_1, .int .i64 (wrap64 (t193)), .bool x201002_16, .bool x201003_16, .bool x201004_16, .bool x201005_16, .int .i64 x201006_16]) ?_ 2 _ rfl; (with_reducible repeat (first | refine blk_drewN ?_ _ | refine blk_drew ?_ | refine blk_alloc ?_ _)); refine blk_put (cs := #[.int .i64 x7_1, .int .i64 x201001_16, .bool x201002_16, .bool x201003_16, .bool x201004_16, .bool x201005_16, .int .i64 x201006_16]) ?_ 1 _ rfl; (with_reducible repeat (first | refine blk_drewN ?_ _ | refine blk_drew ?_ | refine blk_alloc ?_ _)); refine blk_put (cs := #[.int .i64 x201000_16, .int .i64 x201001_16, .bool x201002_16, .bool x201003_16, .bool x201004_16, .bool x201005_16, .int .i64 x201006_16]) ?_ 0 _ rfl; (with_reducible repeat (first | refine blk_drewN ?_ _ | refine blk_drew ?_ | refine blk_alloc ?_ _)); exact BK200.out⟩, ⟨by repeat (first | (with_reducible first | exact HB.out | apply below_alloc | apply pw_below_drewN | apply below_drew1 | refine below_set ?_ GE192.out | refine below_set ?_ GE199.out | refine below_set ?_ GE200.out) | exact HB.out)⟩⟩
                · rw [if_neg c29] at H
                  have c29b0 : (x7_1 == 1) = false := beq_eq_false_iff_ne.mpr c29
                  have c29b1 : (x7_1 != 1) = true := bne_iff_ne.mpr c29
                  (first | rw [c29b0] | (simp only [i64_w, i32_w]; rw [c29b0]) | skip)
                  have H' := Aside0.mk H
                  clear H
                  go_wp2
                  go_meet
                  case rel => exact ⟨_, (x201000_16), (x201001_16), (x201002_16), (x201003_16), (x201004_16), (x201005_16), (x201006_16), H', ⟨by have := HK1.out; have := HJ16.out; first | omega | exact Nat.le_refl _⟩, ⟨by (with_reducible repeat (first | refine blk_drewN ?_ _ | refine blk_drew ?_ | refine blk_alloc ?_ _)); exact BK192.out⟩, ⟨by (with_reducible repeat (first | refine blk_drewN ?_ _ | refine blk_drew ?_ | refine blk_alloc ?_ _)); exact BK199.out⟩, ⟨by (with_reducible repeat (first | refine blk_drewN ?_ _ | refine blk_drew ?_ | refine blk_alloc ?_ _)); exact BK200.out⟩, ⟨by repeat (first | (with_reducible first | exact HB.out | apply below_alloc | apply pw_below_drewN | apply below_drew1 | refine below_set ?_ GE192.out | refine below_set ?_ GE199.out | refine below_set ?_ GE200.out) | exact HB.out)⟩⟩
              case rest =>
                clear HC28
                try clear c1
                try clear c2
                try clear p2
                try clear c3
                try clear c4
                try clear c4b0
                try clear p6
                try clear c12
                try clear c14
                try clear c16
                try clear c16b0
                try clear c18
                try clear c19
                try clear c20
                try clear c21
                try clear c22
                try clear c24
                try clear c24b0
                try clear c24b1
                try clear c25
                try clear c26
                try clear c29
                try clear c29b0
                try clear c29b1
                try clear c30
                try clear c31
                try clear c33
                try clear hcz15_0
                try clear hcz15_1
                try clear hcz15_2
                try clear hcz15_3
                try clear hcz15_4
                try clear hcz15_5
                try clear hcz15_6
                try clear hcz19_0
                try clear hcz19_1
                try clear hcz19_2
                try clear hcz19_3
                try clear hcz19_4
                try clear hcz19_5
                try clear hcz19_6
                try clear hcz23_0
                try clear hcz23_1
                try clear hcz23_2
                try clear hcz23_3
                try clear hcz23_4
                try clear hcz23_5
                try clear hcz23_6
                try clear hcz27_0
                try clear hcz27_1
                try clear hcz27_2
                try clear hcz27_3
                try clear hcz27_4
                try clear hcz27_5
                try clear hcz27_6
                try clear hcz32_0
                try clear hcz32_1
                try clear hcz32_2
                try clear hcz32_3
                try clear hcz32_4
                try clear hcz32_5
                try clear hcz32_6
                try clear hcz34_0
                try clear hcz34_1
                try clear hcz34_2
                try clear hcz34_3
                try clear hcz34_4
                try clear hcz34_5
                try clear hcz34_6
                try clear hcz6_0
                try clear hcz6_1
                try clear hcz6_2
                try clear hcz6_3
                try clear hcz6_4
                try clear hcz6_5
                try clear hcz6_6
                try clear hfz15_0
                try clear hfz15_1
                try clear hfz15_2
                try clear hfz15_3
                try clear hfz15_4
                try clear hfz15_5
                try clear hfz15_6
                try clear hfz19_0
                try clear hfz19_1
                try clear hfz19_2
                try clear hfz19_3
                try clear hfz19_4
                try clear hfz19_5
                try clear hfz19_6
                try clear hfz23_0
                try clear hfz23_1
                try clear hfz23_2
                try clear hfz23_3
                try clear hfz23_4
                try clear hfz23_5
                try clear hfz23_6
                try clear hfz27_0
                try clear hfz27_1
                try clear hfz27_2
                try clear hfz27_3
                try clear hfz27_4
                try clear hfz27_5
                try clear hfz27_6
                try clear hfz32_0
                try clear hfz32_1
                try clear hfz32_2
                try clear hfz32_3
                try clear hfz32_4
                try clear hfz32_5
                try clear hfz32_6
                try clear hfz34_0
                try clear hfz34_1
                try clear hfz34_2
                try clear hfz34_3
                try clear hfz34_4
                try clear hfz34_5
                try clear hfz34_6
                try clear hfz6_0
                try clear hfz6_1
                try clear hfz6_2
                try clear hfz6_3
                try clear hfz6_4
                try clear hfz6_5
                try clear hfz6_6
                try clear p2
                try clear p6
                obtain ⟨kq, x201000_27, x201001_27, x201002_27, x201003_27, x201004_27, x201005_27, x201006_27, HA, HJ27, BK192, BK199, BK200, HB⟩ := hcut
                cases kq with
                | zero => exact absurd HA.out (by simp [paviorref02_Decode.j2])
                | succ kj27 =>
                  have H := HA.out
                  clear HA
                  simp only [paviorref02_Decode.j2] at H
                  replace H := Option.bind_eq_some_iff.mp H
                  obtain ⟨t201, A350, H⟩ := H
                  replace H : (if t201 = true then ((paviorref02_Word.f kj27 x201000_27 x201001_27 x201002_27 x201003_27 x201004_27 x201005_27 x201006_27).bind fun t202 => (paviorref02_Decode.j3 kj27 a0 a1 x7_1 (t202 == a1) 0 (wrap64 (t193)) (t194 == 0) (t195 == 0) (t196 == 1) (t197 == 1) (wrap64 (t198)) x201000_27 x201001_27 x201002_27 x201003_27 x201004_27 x201005_27 x201006_27)) else (paviorref02_Decode.j3 kj27 a0 a1 x7_1 false 0 (wrap64 (t193)) (t194 == 0) (t195 == 0) (t196 == 1) (t197 == 1) (wrap64 (t198)) x201000_27 x201001_27 x201002_27 x201003_27 x201004_27 x201005_27 x201006_27)) = some (r1, r2, r3, r4, r5, r6, r7) := H
                  have A35 := Aside0.mk A350
                  clear A350
                  have HC36 := Aside0.mk H
                  clear H
                  have hnb37 := NB200_192.out
                  have hnc37 := NB192_200.out
                  have hnb38 := NB200_199.out
                  have hnc38 := NB199_200.out
                  have hcz39_0 : wc.cell? ⟨gb200, 0, none⟩ = some (.int .i64 x201000_27) := (blk_cell BK200.out 0).trans rfl
                  have hcz39_1 : wc.cell? ⟨gb200, 1, none⟩ = some (.int .i64 x201001_27) := (blk_cell BK200.out 1).trans rfl
                  have hcz39_2 : wc.cell? ⟨gb200, 2, none⟩ = some (.bool x201002_27) := (blk_cell BK200.out 2).trans rfl
                  have hcz39_3 : wc.cell? ⟨gb200, 3, none⟩ = some (.bool x201003_27) := (blk_cell BK200.out 3).trans rfl
                  have hcz39_4 : wc.cell? ⟨gb200, 4, none⟩ = some (.bool x201004_27) := (blk_cell BK200.out 4).trans rfl
                  have hcz39_5 : wc.cell? ⟨gb200, 5, none⟩ = some (.bool x201005_27) := (blk_cell BK200.out 5).trans rfl
                  have hcz39_6 : wc.cell? ⟨gb200, 6, none⟩ = some (.int .i64 x201006_27) := (blk_cell BK200.out 6).trans rfl
                  have hfz39_0 := blk_frozen BK200.out 0
                  have hfz39_1 := blk_frozen BK200.out 1
                  have hfz39_2 := blk_frozen BK200.out 2
                  have hfz39_3 := blk_frozen BK200.out 3
                  have hfz39_4 := blk_frozen BK200.out 4
                  have hfz39_5 := blk_frozen BK200.out 5
                  have hfz39_6 := blk_frozen BK200.out 6
                  go_upto_region 15 with (first | ((with_reducible refine gate_callee (f := 14) rfl ?_); refine goesL_ (some 51) rfl rfl Try.func14 (by kernel_rfl) rfl #[.int .i64 a0, .agg #[.int .i64 x201000_27, .int .i64 x201001_27, .bool x201002_27, .bool x201003_27, .bool x201004_27, .bool x201005_27, .int .i64 x201006_27]] rfl (by (try simp only [List.map_toArray, List.map_cons, List.map_nil]); first | done | rfl | (simp only [List.length_drop, List.length_take]; rfl)) ?_; (with_reducible refine (paviorref02_May.calls kj27 a0 x201000_27 x201001_27 x201002_27 x201003_27 x201004_27 x201005_27 x201006_27 t201 _ A35.out).mono ?_); rintro e w40 ⟨rfl, hb⟩; refine ⟨_, rfl, ?_⟩; have n0_ := Aside0.mk (blk_below (g := gb192) (o := .cells #[.int .i64 x193000_1, .int .i64 x193001_1, .bool x193002_1, .bool x193003_1, .bool x193004_1, .bool x193005_1, .int .i64 x193006_1] 25 (0, 0)) (by (with_reducible repeat (first | refine blk_drewN ?_ _ | refine blk_drew ?_ | refine blk_alloc ?_ _)); exact BK192.out) hb); have n1_ := Aside0.mk (blk_below (g := gb199) (o := .cells #[.int .i64 0, .int .i64 (wrap64 (t193)), .bool (t194 == 0), .bool (t195 == 0), .bool (t196 == 1), .bool (t197 == 1), .int .i64 (wrap64 (t198))] 25 (0, 0)) (by (with_reducible repeat (first | refine blk_drewN ?_ _ | refine blk_drew ?_ | refine blk_alloc ?_ _)); exact BK199.out) hb); have n2_ := Aside0.mk (blk_below (g := gb200) (o := .cells #[.int .i64 x201000_27, .int .i64 x201001_27, .bool x201002_27, .bool x201003_27, .bool x201004_27, .bool x201005_27, .int .i64 x201006_27] 25 (0, 0)) (by (with_reducible repeat (first | refine blk_drewN ?_ _ | refine blk_drew ?_ | refine blk_alloc ?_ _)); exact BK200.out) hb); have n3_ := Aside0.mk (below_step (by repeat (first | (with_reducible first | exact HB.out | apply below_alloc | apply pw_below_drewN | apply below_drew1 | refine below_set ?_ GE192.out | refine below_set ?_ GE199.out | refine below_set ?_ GE200.out) | exact HB.out)) hb); clear BK192; clear BK199; clear BK200; clear HB; have BK192 := n0_; have BK199 := n1_; have BK200 := n2_; have HB := n3_; clear n0_ n1_ n2_ n3_; (try clear hb); (try clear hb2); (try clear hk); (try clear hi)))
                  (try simp only [Act.put, List.setIfInBounds_toArray, List.set_cons_zero, List.set_cons_succ])
                  go_cut [58] (fun v58 wc => ∃ (kq : Nat) (x58_35 : Bool), v58 = .bool x58_35 ∧ Aside0 (paviorref02_Decode.j3 kq a0 a1 x7_1 x58_35 0 (wrap64 (t193)) (t194 == 0) (t195 == 0) (t196 == 1) (t197 == 1) (wrap64 (t198)) x201000_27 x201001_27 x201002_27 x201003_27 x201004_27 x201005_27 x201006_27 = some (r1, r2, r3, r4, r5, r6, r7)) ∧ Aside0 (kq ≤ kj27) ∧ Aside0 (wc.heap[gb192]? = some (.cells #[.int .i64 x193000_1, .int .i64 x193001_1, .bool x193002_1, .bool x193003_1, .bool x193004_1, .bool x193005_1, .int .i64 x193006_1] 25 (0, 0))) ∧ Aside0 (wc.heap[gb199]? = some (.cells #[.int .i64 0, .int .i64 (wrap64 (t193)), .bool (t194 == 0), .bool (t195 == 0), .bool (t196 == 1), .bool (t197 == 1), .int .i64 (wrap64 (t198))] 25 (0, 0))) ∧ Aside0 (wc.heap[gb200]? = some (.cells #[.int .i64 x201000_27, .int .i64 x201001_27, .bool x201002_27, .bool x201003_27, .bool x201004_27, .bool x201005_27, .int .i64 x201006_27] 25 (0, 0))) ∧ Aside0 (Below w.heap.size w wc))
                  case first =>
                    have H := HC36.out
                    clear HC36
                    by_cases c41 : t201 = true
                    · subst c41
                      have H1 : ((paviorref02_Word.f kj27 x201000_27 x201001_27 x201002_27 x201003_27 x201004_27 x201005_27 x201006_27).bind fun t202 => (paviorref02_Decode.j3 kj27 a0 a1 x7_1 (t202 == a1) 0 (wrap64 (t193)) (t194 == 0) (t195 == 0) (t196 == 1) (t197 == 1) (wrap64 (t198)) x201000_27 x201001_27 x201002_27 x201003_27 x201004_27 x201005_27 x201006_27)) = some (r1, r2, r3, r4, r5, r6, r7) := by rw [if_pos rfl] at H; exact H
                      clear H
                      have H := H1
                      clear H1
                      replace H := Option.bind_eq_some_iff.mp H
                      obtain ⟨t202, A420, H⟩ := H
                      replace H : (paviorref02_Decode.j3 kj27 a0 a1 x7_1 (t202 == a1) 0 (wrap64 (t193)) (t194 == 0) (t195 == 0) (t196 == 1) (t197 == 1) (wrap64 (t198)) x201000_27 x201001_27 x201002_27 x201003_27 x201004_27 x201005_27 x201006_27) = some (r1, r2, r3, r4, r5, r6, r7) := H
                      have A42 := Aside0.mk A420
                      clear A420
                      have H' := Aside0.mk H
                      clear H
                      have hnb43 := NB200_192.out
                      have hnc43 := NB192_200.out
                      have hnb44 := NB200_199.out
                      have hnc44 := NB199_200.out
                      have hcz45_0 : w40.cell? ⟨gb200, 0, none⟩ = some (.int .i64 x201000_27) := (blk_cell BK200.out 0).trans rfl
                      have hcz45_1 : w40.cell? ⟨gb200, 1, none⟩ = some (.int .i64 x201001_27) := (blk_cell BK200.out 1).trans rfl
                      have hcz45_2 : w40.cell? ⟨gb200, 2, none⟩ = some (.bool x201002_27) := (blk_cell BK200.out 2).trans rfl
                      have hcz45_3 : w40.cell? ⟨gb200, 3, none⟩ = some (.bool x201003_27) := (blk_cell BK200.out 3).trans rfl
                      have hcz45_4 : w40.cell? ⟨gb200, 4, none⟩ = some (.bool x201004_27) := (blk_cell BK200.out 4).trans rfl
                      have hcz45_5 : w40.cell? ⟨gb200, 5, none⟩ = some (.bool x201005_27) := (blk_cell BK200.out 5).trans rfl
                      have hcz45_6 : w40.cell? ⟨gb200, 6, none⟩ = some (.int .i64 x201006_27) := (blk_cell BK200.out 6).trans rfl
                      have hfz45_0 := blk_frozen BK200.out 0
                      have hfz45_1 := blk_frozen BK200.out 1
                      have hfz45_2 := blk_frozen BK200.out 2
                      have hfz45_3 := blk_frozen BK200.out 3
                      have hfz45_4 := blk_frozen BK200.out 4
                      have hfz45_5 := blk_frozen BK200.out 5
                      have hfz45_6 := blk_frozen BK200.out 6
                      go_wp2_with (first | (go_at_call 15; (with_reducible refine (paviorref02_Word.calls kj27 x201000_27 x201001_27 x201002_27 x201003_27 x201004_27 x201005_27 x201006_27 t202 _ A42.out).mono ?_); rintro e w46 ⟨rfl, hb⟩; have n0_ := Aside0.mk (blk_below (g := gb192) (o := .cells #[.int .i64 x193000_1, .int .i64 x193001_1, .bool x193002_1, .bool x193003_1, .bool x193004_1, .bool x193005_1, .int .i64 x193006_1] 25 (0, 0)) (by (with_reducible repeat (first | refine blk_drewN ?_ _ | refine blk_drew ?_ | refine blk_alloc ?_ _)); exact BK192.out) hb); have n1_ := Aside0.mk (blk_below (g := gb199) (o := .cells #[.int .i64 0, .int .i64 (wrap64 (t193)), .bool (t194 == 0), .bool (t195 == 0), .bool (t196 == 1), .bool (t197 == 1), .int .i64 (wrap64 (t198))] 25 (0, 0)) (by (with_reducible repeat (first | refine blk_drewN ?_ _ | refine blk_drew ?_ | refine blk_alloc ?_ _)); exact BK199.out) hb); have n2_ := Aside0.mk (blk_below (g := gb200) (o := .cells #[.int .i64 x201000_27, .int .i64 x201001_27, .bool x201002_27, .bool x201003_27, .bool x201004_27, .bool x201005_27, .int .i64 x201006_27] 25 (0, 0)) (by (with_reducible repeat (first | refine blk_drewN ?_ _ | refine blk_drew ?_ | refine blk_alloc ?_ _)); exact BK200.out) hb); have n3_ := Aside0.mk (below_step (by repeat (first | (with_reducible first | exact HB.out | apply below_alloc | apply pw_below_drewN | apply below_drew1 | refine below_set ?_ GE192.out | refine below_set ?_ GE199.out | refine below_set ?_ GE200.out) | exact HB.out)) hb); clear BK192; clear BK199; clear BK200; clear HB; have BK192 := n0_; have BK199 := n1_; have BK200 := n2_; have HB := n3_; clear n0_ n1_ n2_ n3_; (try clear hb); (try clear hb2); (try clear hk); (try clear hi)))
                      go_meet
                      case rel => exact ⟨_, ((t202 == a1)), (by first | rfl | (simp; done) | (simp [*]; done)), H', ⟨by have := HK1.out; have := HJ16.out; have := HJ27.out; first | omega | exact Nat.le_refl _⟩, ⟨by (with_reducible repeat (first | refine blk_drewN ?_ _ | refine blk_drew ?_ | refine blk_alloc ?_ _)); exact BK192.out⟩, ⟨by (with_reducible repeat (first | refine blk_drewN ?_ _ | refine blk_drew ?_ | refine blk_alloc ?_ _)); exact BK199.out⟩, ⟨by (with_reducible repeat (first | refine blk_drewN ?_ _ | refine blk_drew ?_ | refine blk_alloc ?_ _)); exact BK200.out⟩, ⟨by repeat (first | (with_reducible first | exact HB.out | apply below_alloc | apply pw_below_drewN | apply below_drew1 | refine below_set ?_ GE192.out | refine below_set ?_ GE199.out | refine below_set ?_ GE200.out) | exact HB.out)⟩⟩
                    · replace c41 := Bool.eq_false_iff.mpr c41
                      subst c41
                      have H1 : (paviorref02_Decode.j3 kj27 a0 a1 x7_1 false 0 (wrap64 (t193)) (t194 == 0) (t195 == 0) (t196 == 1) (t197 == 1) (wrap64 (t198)) x201000_27 x201001_27 x201002_27 x201003_27 x201004_27 x201005_27 x201006_27) = some (r1, r2, r3, r4, r5, r6, r7) := by rw [if_neg (show ¬ (false = true) by decide)] at H; exact H
                      clear H
                      have H := H1
                      clear H1
                      have H' := Aside0.mk H
                      clear H
                      go_wp2
                      go_meet
                      case rel => exact ⟨_, (false), (by first | rfl | (simp; done) | (simp [*]; done)), H', ⟨by have := HK1.out; have := HJ16.out; have := HJ27.out; first | omega | exact Nat.le_refl _⟩, ⟨by (with_reducible repeat (first | refine blk_drewN ?_ _ | refine blk_drew ?_ | refine blk_alloc ?_ _)); exact BK192.out⟩, ⟨by (with_reducible repeat (first | refine blk_drewN ?_ _ | refine blk_drew ?_ | refine blk_alloc ?_ _)); exact BK199.out⟩, ⟨by (with_reducible repeat (first | refine blk_drewN ?_ _ | refine blk_drew ?_ | refine blk_alloc ?_ _)); exact BK200.out⟩, ⟨by repeat (first | (with_reducible first | exact HB.out | apply below_alloc | apply pw_below_drewN | apply below_drew1 | refine below_set ?_ GE192.out | refine below_set ?_ GE199.out | refine below_set ?_ GE200.out) | exact HB.out)⟩⟩
                  case rest =>
                    clear HC36
                    try clear c1
                    try clear c2
                    try clear p2
                    try clear c3
                    try clear c4
                    try clear c4b0
                    try clear p6
                    try clear c12
                    try clear c14
                    try clear c16
                    try clear c16b0
                    try clear c18
                    try clear c19
                    try clear c20
                    try clear c21
                    try clear c22
                    try clear c24
                    try clear c24b0
                    try clear c24b1
                    try clear c25
                    try clear c26
                    try clear c29
                    try clear c29b0
                    try clear c29b1
                    try clear c30
                    try clear c31
                    try clear c33
                    try clear c37
                    try clear c38
                    try clear c41
                    try clear c43
                    try clear c44
                    try clear hcz15_0
                    try clear hcz15_1
                    try clear hcz15_2
                    try clear hcz15_3
                    try clear hcz15_4
                    try clear hcz15_5
                    try clear hcz15_6
                    try clear hcz19_0
                    try clear hcz19_1
                    try clear hcz19_2
                    try clear hcz19_3
                    try clear hcz19_4
                    try clear hcz19_5
                    try clear hcz19_6
                    try clear hcz23_0
                    try clear hcz23_1
                    try clear hcz23_2
                    try clear hcz23_3
                    try clear hcz23_4
                    try clear hcz23_5
                    try clear hcz23_6
                    try clear hcz27_0
                    try clear hcz27_1
                    try clear hcz27_2
                    try clear hcz27_3
                    try clear hcz27_4
                    try clear hcz27_5
                    try clear hcz27_6
                    try clear hcz32_0
                    try clear hcz32_1
                    try clear hcz32_2
                    try clear hcz32_3
                    try clear hcz32_4
                    try clear hcz32_5
                    try clear hcz32_6
                    try clear hcz34_0
                    try clear hcz34_1
                    try clear hcz34_2
                    try clear hcz34_3
                    try clear hcz34_4
                    try clear hcz34_5
                    try clear hcz34_6
                    try clear hcz39_0
                    try clear hcz39_1
                    try clear hcz39_2
                    try clear hcz39_3
                    try clear hcz39_4
                    try clear hcz39_5
                    try clear hcz39_6
                    try clear hcz45_0
                    try clear hcz45_1
                    try clear hcz45_2
                    try clear hcz45_3
                    try clear hcz45_4
                    try clear hcz45_5
                    try clear hcz45_6
                    try clear hcz6_0
                    try clear hcz6_1
                    try clear hcz6_2
                    try clear hcz6_3
                    try clear hcz6_4
                    try clear hcz6_5
                    try clear hcz6_6
                    try clear hfz15_0
                    try clear hfz15_1
                    try clear hfz15_2
                    try clear hfz15_3
                    try clear hfz15_4
                    try clear hfz15_5
                    try clear hfz15_6
                    try clear hfz19_0
                    try clear hfz19_1
                    try clear hfz19_2
                    try clear hfz19_3
                    try clear hfz19_4
                    try clear hfz19_5
                    try clear hfz19_6
                    try clear hfz23_0
                    try clear hfz23_1
                    try clear hfz23_2
                    try clear hfz23_3
                    try clear hfz23_4
                    try clear hfz23_5
                    try clear hfz23_6
                    try clear hfz27_0
                    try clear hfz27_1
                    try clear hfz27_2
                    try clear hfz27_3
                    try clear hfz27_4
                    try clear hfz27_5
                    try clear hfz27_6
                    try clear hfz32_0
                    try clear hfz32_1
                    try clear hfz32_2
                    try clear hfz32_3
                    try clear hfz32_4
                    try clear hfz32_5
                    try clear hfz32_6
                    try clear hfz34_0
                    try clear hfz34_1
                    try clear hfz34_2
                    try clear hfz34_3
                    try clear hfz34_4
                    try clear hfz34_5
                    try clear hfz34_6
                    try clear hfz39_0
                    try clear hfz39_1
                    try clear hfz39_2
                    try clear hfz39_3
                    try clear hfz39_4
                    try clear hfz39_5
                    try clear hfz39_6
                    try clear hfz45_0
                    try clear hfz45_1
                    try clear hfz45_2
                    try clear hfz45_3
                    try clear hfz45_4
                    try clear hfz45_5
                    try clear hfz45_6
                    try clear hfz6_0
                    try clear hfz6_1
                    try clear hfz6_2
                    try clear hfz6_3
                    try clear hfz6_4
                    try clear hfz6_5
                    try clear hfz6_6
                    try clear p2
                    try clear p6
                    obtain ⟨kq, x58_35, rfl, HA, HJ35, BK192, BK199, BK200, HB⟩ := hcut
                    cases kq with
                    | zero => exact absurd HA.out (by simp [paviorref02_Decode.j3])
                    | succ kj35 =>
                      have H := HA.out
                      clear HA
                      simp only [paviorref02_Decode.j3] at H
                      by_cases c47 : x58_35 = true
                      · subst c47
                        have H1 : (some (x201000_27, x201001_27, x201002_27, x201003_27, x201004_27, x201005_27, x201006_27)) = some (r1, r2, r3, r4, r5, r6, r7) := by rw [if_pos rfl] at H; exact H
                        clear H
                        have H := H1
                        clear H1
                        simp only [Option.some.injEq, Prod.mk.injEq] at H
                        obtain ⟨rfl, rfl, rfl, rfl, rfl, rfl, rfl⟩ := H
                        have hnb48 := NB200_192.out
                        have hnc48 := NB192_200.out
                        have hnb49 := NB200_199.out
                        have hnc49 := NB199_200.out
                        have hcz50_0 : wc.cell? ⟨gb200, 0, none⟩ = some (.int .i64 x201000_27) := (blk_cell BK200.out 0).trans rfl
                        have hcz50_1 : wc.cell? ⟨gb200, 1, none⟩ = some (.int .i64 x201001_27) := (blk_cell BK200.out 1).trans rfl
                        have hcz50_2 : wc.cell? ⟨gb200, 2, none⟩ = some (.bool x201002_27) := (blk_cell BK200.out 2).trans rfl
                        have hcz50_3 : wc.cell? ⟨gb200, 3, none⟩ = some (.bool x201003_27) := (blk_cell BK200.out 3).trans rfl
                        have hcz50_4 : wc.cell? ⟨gb200, 4, none⟩ = some (.bool x201004_27) := (blk_cell BK200.out 4).trans rfl
                        have hcz50_5 : wc.cell? ⟨gb200, 5, none⟩ = some (.bool x201005_27) := (blk_cell BK200.out 5).trans rfl
                        have hcz50_6 : wc.cell? ⟨gb200, 6, none⟩ = some (.int .i64 x201006_27) := (blk_cell BK200.out 6).trans rfl
                        have hfz50_0 := blk_frozen BK200.out 0
                        have hfz50_1 := blk_frozen BK200.out 1
                        have hfz50_2 := blk_frozen BK200.out 2
                        have hfz50_3 := blk_frozen BK200.out 3
                        have hfz50_4 := blk_frozen BK200.out 4
                        have hfz50_5 := blk_frozen BK200.out 5
                        have hfz50_6 := blk_frozen BK200.out 6
                        have hnb51 := NB192_199.out
                        have hnc51 := NB199_192.out
                        have hcz52_0 : wc.cell? ⟨gb192, 0, none⟩ = some (.int .i64 x193000_1) := (blk_cell BK192.out 0).trans rfl
                        have hcz52_1 : wc.cell? ⟨gb192, 1, none⟩ = some (.int .i64 x193001_1) := (blk_cell BK192.out 1).trans rfl
                        have hcz52_2 : wc.cell? ⟨gb192, 2, none⟩ = some (.bool x193002_1) := (blk_cell BK192.out 2).trans rfl
                        have hcz52_3 : wc.cell? ⟨gb192, 3, none⟩ = some (.bool x193003_1) := (blk_cell BK192.out 3).trans rfl
                        have hcz52_4 : wc.cell? ⟨gb192, 4, none⟩ = some (.bool x193004_1) := (blk_cell BK192.out 4).trans rfl
                        have hcz52_5 : wc.cell? ⟨gb192, 5, none⟩ = some (.bool x193005_1) := (blk_cell BK192.out 5).trans rfl
                        have hcz52_6 : wc.cell? ⟨gb192, 6, none⟩ = some (.int .i64 x193006_1) := (blk_cell BK192.out 6).trans rfl
                        have hfz52_0 := blk_frozen BK192.out 0
                        have hfz52_1 := blk_frozen BK192.out 1
                        have hfz52_2 := blk_frozen BK192.out 2
                        have hfz52_3 := blk_frozen BK192.out 3
                        have hfz52_4 := blk_frozen BK192.out 4
                        have hfz52_5 := blk_frozen BK192.out 5
                        have hfz52_6 := blk_frozen BK192.out 6
                        go_wp2
                        refine bodyPost_ret (results_cell_row rfl _ _ gb192 25 #[.int .i64 x201000_27, .int .i64 x201001_27, .bool x201002_27, .bool x201003_27, .bool x201004_27, .bool x201005_27, .int .i64 x201006_27] (0, 0) _ rfl (by (with_reducible repeat (first | refine blk_drewN ?_ _ | refine blk_drew ?_ | refine blk_alloc ?_ _)); refine blk_put (cs := #[.int .i64 x201000_27, .int .i64 x201001_27, .bool x201002_27, .bool x201003_27, .bool x201004_27, .bool x201005_27, .int .i64 x193006_1]) ?_ 6 _ rfl; (with_reducible repeat (first | refine blk_drewN ?_ _ | refine blk_drew ?_ | refine blk_alloc ?_ _)); refine blk_put (cs := #[.int .i64 x201000_27, .int .i64 x201001_27, .bool x201002_27, .bool x201003_27, .bool x201004_27, .bool x193005_1, .int .i64 x193006_1]) ?_ 5 _ rfl; (with_reducible repeat (first | refine blk_drewN ?_ _ | refine blk_drew ?_ | refine blk_alloc ?_ _)); refine blk_put (cs := #[.int .i64 x201000_27, .int .i64 x201001_27, .bool x201002_27, .bool x201003_27, .bool x193004_1, .bool x193005_1, .int .i64 x193006_1]) ?_ 4 _ rfl; (with_reducible repeat (first | refine blk_drewN ?_ _ | refine blk_drew ?_ | refine blk_alloc ?_ _)); refine blk_put (cs := #[.int .i64 x201000_27, .int .i64 x201001_27, .bool x201002_27, .bool x193003_1, .bool x193004_1, .bool x193005_1, .int .i64 x193006_1]) ?_ 3 _ rfl; (with_reducible repeat (first | refine blk_drewN ?_ _ | refine blk_drew ?_ | refine blk_alloc ?_ _)); refine blk_put (cs := #[.int .i64 x201000_27, .int .i64 x201001_27, .bool x193002_1, .bool x193003_1, .bool x193004_1, .bool x193005_1, .int .i64 x193006_1]) ?_ 2 _ rfl; (with_reducible repeat (first | refine blk_drewN ?_ _ | refine blk_drew ?_ | refine blk_alloc ?_ _)); refine blk_put (cs := #[.int .i64 x201000_27, .int .i64 x193001_1, .bool x193002_1, .bool x193003_1, .bool x193004_1, .bool x193005_1, .int .i64 x193006_1]) ?_ 1 _ rfl; (with_reducible repeat (first | refine blk_drewN ?_ _ | refine blk_drew ?_ | refine blk_alloc ?_ _)); refine blk_put (cs := #[.int .i64 x193000_1, .int .i64 x193001_1, .bool x193002_1, .bool x193003_1, .bool x193004_1, .bool x193005_1, .int .i64 x193006_1]) ?_ 0 _ rfl; (with_reducible repeat (first | refine blk_drewN ?_ _ | refine blk_drew ?_ | refine blk_alloc ?_ _)); exact BK192.out) Try.underlying25 rfl (by kernel_rfl)) rfl ?_
                        exact ⟨by first | rfl | (simp [errW_none, errW_some] <;> rfl) | (simp [*, errW_none, errW_some] <;> rfl), by repeat (first | (with_reducible first | exact HB.out | apply below_alloc | apply pw_below_drewN | apply below_drew1 | refine below_set ?_ GE192.out | refine below_set ?_ GE199.out | refine below_set ?_ GE200.out) | exact HB.out)⟩
                      · replace c47 := Bool.eq_false_iff.mpr c47
                        subst c47
                        have H1 : (paviorref02_Decode.l0 kj35 a0 a1 (wrap64 (x7_1 + 1)) 0 (wrap64 (t193)) (t194 == 0) (t195 == 0) (t196 == 1) (t197 == 1) (wrap64 (t198))) = some (r1, r2, r3, r4, r5, r6, r7) := by rw [if_neg (show ¬ (false = true) by decide)] at H; exact H
                        clear H
                        have H := H1
                        clear H1
                        have H' := Aside0.mk H
                        clear H
                        go_wp2
                        go_roundg kj35
                        case measure => have := HK1.out; have := HJ16.out; have := HJ27.out; have := HJ35.out; omega
                        case rel => exact ⟨(wrap64 (x7_1 + 1)), (x193000_1), (x193001_1), (x193002_1), (x193003_1), (x193004_1), (x193005_1), (x193006_1), (by first | rfl | (simp; done) | (simp [*]; done)), H', ⟨by have := HK1.out; have := HJ16.out; have := HJ27.out; have := HJ35.out; omega⟩, ⟨by (with_reducible repeat (first | refine blk_drewN ?_ _ | refine blk_drew ?_ | refine blk_alloc ?_ _)); exact BK192.out⟩, ⟨by (with_reducible repeat (first | refine blk_drewN ?_ _ | refine blk_drew ?_ | refine blk_alloc ?_ _)); exact BK199.out⟩, ⟨by repeat (first | (with_reducible first | exact HB.out | apply below_alloc | apply pw_below_drewN | apply below_drew1 | refine below_set ?_ GE192.out | refine below_set ?_ GE199.out | refine below_set ?_ GE200.out) | exact HB.out)⟩⟩
        · rw [if_neg c16] at H
          have c16b0 : decide (x7_1 ≤ 4) = false := decide_eq_false c16
          clear c16
          simp only [Option.some.injEq, Prod.mk.injEq] at H
          obtain ⟨rfl, rfl, rfl, rfl, rfl, rfl, rfl⟩ := H
          have hnb53 := NB192_199.out
          have hnc53 := NB199_192.out
          have hcz54_0 : wr.cell? ⟨gb192, 0, none⟩ = some (.int .i64 x193000_1) := (blk_cell BK192.out 0).trans rfl
          have hcz54_1 : wr.cell? ⟨gb192, 1, none⟩ = some (.int .i64 x193001_1) := (blk_cell BK192.out 1).trans rfl
          have hcz54_2 : wr.cell? ⟨gb192, 2, none⟩ = some (.bool x193002_1) := (blk_cell BK192.out 2).trans rfl
          have hcz54_3 : wr.cell? ⟨gb192, 3, none⟩ = some (.bool x193003_1) := (blk_cell BK192.out 3).trans rfl
          have hcz54_4 : wr.cell? ⟨gb192, 4, none⟩ = some (.bool x193004_1) := (blk_cell BK192.out 4).trans rfl
          have hcz54_5 : wr.cell? ⟨gb192, 5, none⟩ = some (.bool x193005_1) := (blk_cell BK192.out 5).trans rfl
          have hcz54_6 : wr.cell? ⟨gb192, 6, none⟩ = some (.int .i64 x193006_1) := (blk_cell BK192.out 6).trans rfl
          have hfz54_0 := blk_frozen BK192.out 0
          have hfz54_1 := blk_frozen BK192.out 1
          have hfz54_2 := blk_frozen BK192.out 2
          have hfz54_3 := blk_frozen BK192.out 3
          have hfz54_4 := blk_frozen BK192.out 4
          have hfz54_5 := blk_frozen BK192.out 5
          have hfz54_6 := blk_frozen BK192.out 6
          go_wp2
          refine bodyPost_ret (results_cell_row rfl _ _ gb192 25 #[.int .i64 5, .int .i64 0, .bool false, .bool false, .bool false, .bool false, .int .i64 0] (0, 0) _ rfl (by (with_reducible repeat (first | refine blk_drewN ?_ _ | refine blk_drew ?_ | refine blk_alloc ?_ _)); refine blk_put (cs := #[.int .i64 5, .int .i64 0, .bool false, .bool false, .bool false, .bool false, .int .i64 x193006_1]) ?_ 6 _ rfl; (with_reducible repeat (first | refine blk_drewN ?_ _ | refine blk_drew ?_ | refine blk_alloc ?_ _)); refine blk_put (cs := #[.int .i64 5, .int .i64 0, .bool false, .bool false, .bool false, .bool x193005_1, .int .i64 x193006_1]) ?_ 5 _ rfl; (with_reducible repeat (first | refine blk_drewN ?_ _ | refine blk_drew ?_ | refine blk_alloc ?_ _)); refine blk_put (cs := #[.int .i64 5, .int .i64 0, .bool false, .bool false, .bool x193004_1, .bool x193005_1, .int .i64 x193006_1]) ?_ 4 _ rfl; (with_reducible repeat (first | refine blk_drewN ?_ _ | refine blk_drew ?_ | refine blk_alloc ?_ _)); refine blk_put (cs := #[.int .i64 5, .int .i64 0, .bool false, .bool x193003_1, .bool x193004_1, .bool x193005_1, .int .i64 x193006_1]) ?_ 3 _ rfl; (with_reducible repeat (first | refine blk_drewN ?_ _ | refine blk_drew ?_ | refine blk_alloc ?_ _)); refine blk_put (cs := #[.int .i64 5, .int .i64 0, .bool x193002_1, .bool x193003_1, .bool x193004_1, .bool x193005_1, .int .i64 x193006_1]) ?_ 2 _ rfl; (with_reducible repeat (first | refine blk_drewN ?_ _ | refine blk_drew ?_ | refine blk_alloc ?_ _)); refine blk_put (cs := #[.int .i64 5, .int .i64 x193001_1, .bool x193002_1, .bool x193003_1, .bool x193004_1, .bool x193005_1, .int .i64 x193006_1]) ?_ 1 _ rfl; (with_reducible repeat (first | refine blk_drewN ?_ _ | refine blk_drew ?_ | refine blk_alloc ?_ _)); refine blk_put (cs := #[.int .i64 x193000_1, .int .i64 x193001_1, .bool x193002_1, .bool x193003_1, .bool x193004_1, .bool x193005_1, .int .i64 x193006_1]) ?_ 0 _ rfl; (with_reducible repeat (first | refine blk_drewN ?_ _ | refine blk_drew ?_ | refine blk_alloc ?_ _)); exact BK192.out) Try.underlying25 rfl (by kernel_rfl)) rfl ?_
          exact ⟨by first | rfl | (simp [errW_none, errW_some] <;> rfl) | (simp [*, errW_none, errW_some] <;> rfl), by repeat (first | (with_reducible first | exact HB.out | apply below_alloc | apply pw_below_drewN | apply below_drew1 | refine below_set ?_ GE192.out | refine below_set ?_ GE199.out) | exact HB.out)⟩

end Go.Proofs.Ytobbcfpkmmafnab.Q
