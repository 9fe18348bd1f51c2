-- Written by this session's program wip/tools/xprint.py (the kit's printer, turned by it); not the kit's own print.
import Derived.Test.YtlmjjkggoemababQx0
import Derived.Test.YtlmjjkggoemababQx21
namespace Go.Proofs.Ytlmjjkggoemabab.Q
open Go.RowKit Go.Proofs.YtlmjjkggoemababW.PrintWords Go.Proofs.YtlmjjkggoemababW.PrintLast Go.Proofs.YtlmjjkggoemababW.PrintMore
attribute [local go_sem] max2_int min2_int max_two min_two max_three min_three max_four min_four   -- for this text's walks alone
set_option linter.unusedVariables false
set_option linter.unusedSimpArgs false

attribute [local go_sem high] eqErr_some neErr_some eqErr_left neErr_left
--ALONE
/-! ### area_Change: function 26 -/
def area_Change.of (a3_0 : Bool) (a3_1 : Bool) (x : S32) : S32 := ⟨x.f0, x.f1, ⟨a3_0, a3_1⟩, x.f3⟩
def area_Change.f (k : Nat) (l0 : List (S32)) (a1 : Int) (a2 : Int) (a3_0 : Bool) (a3_1 : Bool) : Option (List (S32) × Option Int) := area_each.f k l0 a1 a2 (area_Change.of a3_0 a3_1)
theorem area_Change.mono : ∀ a0 a1 a2 a3_0 a3_1 k, LeO (area_Change.f k a0 a1 a2 a3_0 a3_1) (area_Change.f (k + 1) a0 a1 a2 a3_0 a3_1) := fun a0 a1 a2 a3_0 a3_1 k => area_each.mono a0 a1 a2 (area_Change.of a3_0 a3_1) k
set_option maxHeartbeats 4000000 in
theorem area_Change.lit (a3_0 : Bool) (a3_1 : Bool) (B : Nat) (x : S32) (W : World) (hc0 : W.cell? ⟨B, 0, none⟩ = some (.bool a3_0)) (hc1 : W.cell? ⟨B, 1, none⟩ = some (.bool a3_1)) :
    Calls Try.prog 36 #[eF66 x, .pointer (some ⟨B, 0, none⟩)] W fun e W' => e = .returned (rF66 (area_Change.of a3_0 a3_1 x)) ∧ Below W.heap.size W W' := by
  obtain ⟨x0, x1, ⟨x2, x3⟩, x4⟩ := x
  unfold eF66 rF66 area_Change.of
  dsimp only
  go_enter Try.func36, Try.ntmps36
  go_wp2_with (first | ((with_reducible refine gate_dst (N := 2) rfl ?_); refine box_event ?hg (N := 2) ?hd (cs := #[.int .i64 x0, .int .i64 x1, .bool x2, .bool x3, .bool x4]) (t := 32) ?hr ?_; (case hd => rfl); (case hg => rfl); (case hr => first | (go_simp; done) | (go_simp; rfl)); intro gb hg w1 hbox hb; have HB1 := Aside0.mk hb; have hcz0 : w1.cell? ⟨gb, 0, none⟩ = some (.int .i64 x0) := (blk_cell hbox 0).trans rfl; have hcz1 : w1.cell? ⟨gb, 1, none⟩ = some (.int .i64 x1) := (blk_cell hbox 1).trans rfl; have hcz2 : w1.cell? ⟨gb, 2, none⟩ = some (.bool x2) := (blk_cell hbox 2).trans rfl; have hcz3 : w1.cell? ⟨gb, 3, none⟩ = some (.bool x3) := (blk_cell hbox 3).trans rfl; have hcz4 : w1.cell? ⟨gb, 4, none⟩ = some (.bool x4) := (blk_cell hbox 4).trans rfl; have hfz0 := blk_frozen hbox 0; have hfz1 := blk_frozen hbox 1; have hfz2 := blk_frozen hbox 2; have hfz3 := blk_frozen hbox 3; have hfz4 := blk_frozen hbox 4; have hp0 := (hb.cell (World.block_lt_of_cell? W _ hc0)).trans hc0; have hp1 := (hb.cell (World.block_lt_of_cell? W _ hc1)).trans hc1; have HX := Aside0.mk hbox; have hg1 : W.heap.size ≤ gb := Nat.le_of_eq hg.symm; clear hb hbox hg hc0 hc1) | ((with_reducible refine gate_dst (N := 3) rfl ?_); refine box_event ?hg (N := 3) ?hd (cs := #[.int .i64 0, .int .i64 0, .bool false, .bool false, .bool false]) (t := 32) ?hr ?_; (case hd => rfl); (case hg => rfl); (case hr => first | (go_simp; done) | (go_simp; rfl)); intro gb2 hg w2 hbox2 hb; have HB := Aside0.mk (below_step HB1.out hb); have hne : gb2 ≠ gb := (by have := blk_lt HX.out; omega); replace hcz0 := (hb.cell (World.block_lt_of_cell? _ _ hcz0)).trans hcz0; replace hcz1 := (hb.cell (World.block_lt_of_cell? _ _ hcz1)).trans hcz1; replace hcz2 := (hb.cell (World.block_lt_of_cell? _ _ hcz2)).trans hcz2; replace hcz3 := (hb.cell (World.block_lt_of_cell? _ _ hcz3)).trans hcz3; replace hcz4 := (hb.cell (World.block_lt_of_cell? _ _ hcz4)).trans hcz4; replace hp0 := (hb.cell (World.block_lt_of_cell? _ _ hp0)).trans hp0; replace hp1 := (hb.cell (World.block_lt_of_cell? _ _ hp1)).trans hp1; clear hfz0 hfz1 hfz2 hfz3 hfz4; have HX2 := blk_below HX.out hb; have hfz0 := blk_frozen HX2 0; have hfz1 := blk_frozen HX2 1; have hfz2 := blk_frozen HX2 2; have hfz3 := blk_frozen HX2 3; have hfz4 := blk_frozen HX2 4; have hfy0 := blk_frozen hbox2 0; have hfy1 := blk_frozen hbox2 1; have hfy2 := blk_frozen hbox2 2; have hfy3 := blk_frozen hbox2 3; have hfy4 := blk_frozen hbox2 4; have hcy0 : w2.cell? ⟨gb2, 0, none⟩ = some (.int .i64 0) := (blk_cell hbox2 0).trans rfl; have hcy1 : w2.cell? ⟨gb2, 1, none⟩ = some (.int .i64 0) := (blk_cell hbox2 1).trans rfl; have hcy2 : w2.cell? ⟨gb2, 2, none⟩ = some (.bool false) := (blk_cell hbox2 2).trans rfl; have hcy3 : w2.cell? ⟨gb2, 3, none⟩ = some (.bool false) := (blk_cell hbox2 3).trans rfl; have hcy4 : w2.cell? ⟨gb2, 4, none⟩ = some (.bool false) := (blk_cell hbox2 4).trans rfl; have hne2 : gb ≠ gb2 := hne.symm; have hg2 : W.heap.size ≤ gb2 := (by rw [hg]; exact below_size HB1.out); have HY := Aside0.mk hbox2; clear hbox2 HB1 HX HX2 hb hg))
  have hbox2 := HY.out
  refine bodyPost_ret (results_cell_row rfl _ _ gb2 32 #[.int .i64 x0, .int .i64 x1, .bool a3_0, .bool a3_1, .bool x4] (0, 0) _ rfl ?heap Try.underlying32 rfl (by kernel_rfl)) rfl ?_
  case heap => refine blk_put (cs := #[.int .i64 x0, .int .i64 x1, .bool a3_0, .bool a3_1, .bool false]) ?_ 4 _ rfl; refine blk_put (cs := #[.int .i64 x0, .int .i64 x1, .bool a3_0, .bool false, .bool false]) ?_ 3 _ rfl; refine blk_put (cs := #[.int .i64 x0, .int .i64 x1, .bool false, .bool false, .bool false]) ?_ 2 _ rfl; refine blk_put (cs := #[.int .i64 x0, .int .i64 0, .bool false, .bool false, .bool false]) ?_ 1 _ rfl; refine blk_put (cs := #[.int .i64 0, .int .i64 0, .bool false, .bool false, .bool false]) ?_ 0 _ rfl; refine blk_far ?_ (p := ⟨gb, 3, none⟩) hne _; refine blk_far ?_ (p := ⟨gb, 2, none⟩) hne _; exact hbox2
  exact ⟨rfl, by refine below_set ?_ hg2; refine below_set ?_ hg2; refine below_set ?_ hg2; refine below_set ?_ hg2; refine below_set ?_ hg2; refine below_set ?_ hg1; refine below_set ?_ hg1; exact HB.out⟩
set_option maxHeartbeats 4000000 in
theorem area_Change.calls (k : Nat) (A0 : Option Addr) (c0 : Nat) (l0 : List (S32)) (a1 : Int) (a2 : Int) (a3_0 : Bool) (a3_1 : Bool) (r1 : List (S32)) (r2 : Option Int) (w : World) (hr0 : Kd.C k32 w A0 l0.length l0) (hc0 : l0.length ≤ c0) (h : area_Change.f k l0 a1 a2 a3_0 a3_1 = some (r1, r2)) :
    Calls Try.prog 26 #[.slice A0 l0.length c0, .int .i64 a1, .int .i64 a2, .agg #[.bool a3_0, .bool a3_1]] w fun e w' => ∃ v0_ : Value, e = .returned (.tuple #[v0_, errW r2]) ∧ Kd.R k32 32 w' w.heap.size (fun _ => True) v0_ r1 ∧ Below w.heap.size w w' := by
  have H := Aside0.mk (show area_each.f k l0 a1 a2 (area_Change.of a3_0 a3_1) = some (r1, r2) from h)
  clear h
  have HR := Aside0.mk hr0
  have HC := Aside0.mk hc0
  clear hr0 hc0
  go_enter Try.func26, Try.ntmps26
  go_wp2_with (first | ((with_reducible refine gate_dst (N := 7) rfl ?_); refine box_event ?hg (N := 7) ?hd (cs := #[.bool a3_0, .bool a3_1]) (t := 30) ?hr ?_; (case hd => rfl); (case hg => rfl); (case hr => first | (go_simp; done) | (go_simp; rfl)); intro gb hg w1 hbox hb; have HB := Aside0.mk hb; have hcz0 := Aside0.mk (show w1.cell? ⟨gb, 0, none⟩ = some (.bool a3_0) from (blk_cell hbox 0).trans rfl); have hcz1 := Aside0.mk (show w1.cell? ⟨gb, 1, none⟩ = some (.bool a3_1) from (blk_cell hbox 1).trans rfl); clear hb hbox hg) | (go_at_call 35; (with_reducible refine (area_each.calls k _ _ l0 a1 a2 (area_Change.of a3_0 a3_1) _ r1 r2 _ ?side1 ?side2 ?side3 H.out).mono ?_); (case side1 => exact Kd.C_below HR.out HB.out); (case side2 => exact HC.out); (case side3 => exact ⟨36, _, _, rfl, Try.func36, by kernel_rfl, rfl, fun W x hW => area_Change.lit a3_0 a3_1 gb x W ((hW.cell (World.block_lt_of_cell? _ _ hcz0.out)).trans hcz0.out) ((hW.cell (World.block_lt_of_cell? _ _ hcz1.out)).trans hcz1.out)⟩); rintro e w2 ⟨v, rfl, ho, hb2⟩; have HB2 := Aside0.mk (below_step HB.out hb2); have HO := Aside0.mk (Kd.R_lower ho (below_size HB.out)); clear HB hb2 ho))
  go_ret2
  exact ⟨_, rfl, HO.out, HB2.out⟩


end Go.Proofs.Ytlmjjkggoemabab.Q
