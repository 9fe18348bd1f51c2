-- Written by this session's program wip/tools/xprint.py (the kit's printer, turned by it); not the kit's own print.
import Derived.Test.YtlmjjkggoemabaaQtx0
import Derived.Test.YtlmjjkggoemabaaQtx2
import Derived.Test.YtlmjjkggoemabaaQtx3
import Derived.Test.YtlmjjkggoemabaaQtx4
import Derived.Test.YtlmjjkggoemabaaHStill
namespace Go.Proofs.Ytlmjjkggoemabaa.Qt
open Go.RowKit Go.Proofs.YtlmjjkggoemabaaW.PrintWords Go.Proofs.YtlmjjkggoemabaaW.PrintLast Go.Proofs.YtlmjjkggoemabaaW.PrintMore
attribute [local go_sem] max2_int min2_int max_two min_two max_three min_three max_four min_four   -- for this text's walks alone
set_option linter.unusedVariables false
set_option linter.unusedSimpArgs false

attribute [local go_sem high] eqErr_some neErr_some eqErr_left neErr_left
--ALONE HStill
/-! ### tlb_Buffer_Fill: function 22 -/
def tlb_Buffer_Fill.clash (a1_0 : Int) (a1_1 : Int) (a1_2 : Int) (a1_3 : Int) (a1_4 : Bool) (a1_5 : Bool) (x : S48) : Option Bool := tlb_Clash.f 8 x.f0 x.f1 x.f2 x.f3 x.f4 x.f5 a1_0 a1_1 a1_2 a1_3 a1_4 a1_5
set_option maxHeartbeats 4000000 in
set_option maxRecDepth 100000 in
theorem tlb_Buffer_Fill.lit (a1_0 : Int) (a1_1 : Int) (a1_2 : Int) (a1_3 : Int) (a1_4 : Bool) (a1_5 : Bool) (B : Nat) (x : S48) (W : World) (hc0 : W.cell? ⟨B, 0, none⟩ = some (.int .i64 a1_0)) (hc1 : W.cell? ⟨B, 1, none⟩ = some (.int .i64 a1_1)) (hc2 : W.cell? ⟨B, 2, none⟩ = some (.int .i64 a1_2)) (hc3 : W.cell? ⟨B, 3, none⟩ = some (.int .i64 a1_3)) (hc4 : W.cell? ⟨B, 4, none⟩ = some (.bool a1_4)) (hc5 : W.cell? ⟨B, 5, none⟩ = some (.bool a1_5)) (q : Bool) (hy : tlb_Buffer_Fill.clash a1_0 a1_1 a1_2 a1_3 a1_4 a1_5 x = some q) :
    Calls Try.prog 47 #[eF53 x, .pointer (some ⟨B, 0, none⟩)] W fun e W' => e = .returned (rF53 q) ∧ Below W.heap.size W W' := by
  have A1 := Aside0.mk hy
  clear hy
  obtain ⟨x0, x1, x2, x3, x4, x5⟩ := x
  unfold eF53 rF53
  unfold tlb_Buffer_Fill.clash at A1
  dsimp only at A1 ⊢
  go_enter Try.func47, Try.ntmps47
  go_wp2_with (first | ((with_reducible refine gate_dst (N := 2) rfl ?_); refine box_event ?hg (N := 2) ?hd (cs := #[.int .i64 x0, .int .i64 x1, .int .i64 x2, .int .i64 x3, .bool x4, .bool x5]) (t := 48) ?hr ?_; (case hd => rfl); (case hg => rfl); (case hr => first | (go_simp; done) | (go_simp; rfl)); intro gb hg w1 hbox hb; have HB1 := Aside0.mk hb; have hcz0 : w1.cell? ⟨gb, 0, none⟩ = some (.int .i64 x0) := (blk_cell hbox 0).trans rfl; have hcz1 : w1.cell? ⟨gb, 1, none⟩ = some (.int .i64 x1) := (blk_cell hbox 1).trans rfl; have hcz2 : w1.cell? ⟨gb, 2, none⟩ = some (.int .i64 x2) := (blk_cell hbox 2).trans rfl; have hcz3 : w1.cell? ⟨gb, 3, none⟩ = some (.int .i64 x3) := (blk_cell hbox 3).trans rfl; have hcz4 : w1.cell? ⟨gb, 4, none⟩ = some (.bool x4) := (blk_cell hbox 4).trans rfl; have hcz5 : w1.cell? ⟨gb, 5, none⟩ = some (.bool x5) := (blk_cell hbox 5).trans rfl; replace hc0 := (hb.cell (World.block_lt_of_cell? W _ hc0)).trans hc0; replace hc1 := (hb.cell (World.block_lt_of_cell? W _ hc1)).trans hc1; replace hc2 := (hb.cell (World.block_lt_of_cell? W _ hc2)).trans hc2; replace hc3 := (hb.cell (World.block_lt_of_cell? W _ hc3)).trans hc3; replace hc4 := (hb.cell (World.block_lt_of_cell? W _ hc4)).trans hc4; replace hc5 := (hb.cell (World.block_lt_of_cell? W _ hc5)).trans hc5; clear hb hbox hg) | (go_at_call 29; (with_reducible refine (tlb_Clash.calls 8 x0 x1 x2 x3 x4 x5 a1_0 a1_1 a1_2 a1_3 a1_4 a1_5 _ _ A1.out).mono ?_); rintro e w2 ⟨rfl, hb⟩; have HB2 := Aside0.mk (below_step HB1.out hb); clear HB1 hb))
  go_ret
  exact ⟨rfl, HB2.out⟩
def tlb_Buffer_Fill.cut (l : List (S48)) : List (S48) := if l.length = 64 then l.drop 1 else l
def tlb_Buffer_Fill.f (k : Nat) (s0_0 : List (S48)) (s0_1 : Bool) (a1_0 : Int) (a1_1 : Int) (a1_2 : Int) (a1_3 : Int) (a1_4 : Bool) (a1_5 : Bool) : Option (Option Int × List (S48) × Bool) :=
  if s0_0.length < 1000 then (tlb_may.f k a1_0 a1_1 a1_2 a1_3 a1_4 a1_5).bind fun m => (if m = true then ((api_Entry_44.f k s0_0 a1_0 a1_1 a1_2 a1_3 a1_4 a1_5).bind fun c => (if c = true then some (none, s0_0, s0_1) else (if s0_1 = true then some (none, tlb_Buffer_Fill.cut s0_0 ++ [(⟨a1_0, a1_1, a1_2, a1_3, a1_4, a1_5⟩ : S48)], true) else ((api_Entry_46.f k (tlb_Buffer_Fill.cut s0_0) (tlb_Buffer_Fill.clash a1_0 a1_1 a1_2 a1_3 a1_4 a1_5)).bind fun q => some (none, tlb_Buffer_Fill.cut s0_0 ++ [(⟨a1_0, a1_1, a1_2, a1_3, a1_4, a1_5⟩ : S48)], q))))) else some (some 1, s0_0, s0_1)) else none
theorem tlb_Buffer_Fill.mono : ∀ s0 s1 a1_0 a1_1 a1_2 a1_3 a1_4 a1_5 k, LeO (tlb_Buffer_Fill.f k s0 s1 a1_0 a1_1 a1_2 a1_3 a1_4 a1_5) (tlb_Buffer_Fill.f (k + 1) s0 s1 a1_0 a1_1 a1_2 a1_3 a1_4 a1_5) := by
  intro s0 s1 a1_0 a1_1 a1_2 a1_3 a1_4 a1_5 k
  unfold tlb_Buffer_Fill.f
  repeat' first
      | (with_reducible exact tlb_may.mono _ _ _ _ _ _ _)
      | (with_reducible exact api_Entry_44.mono _ _ _ _ _ _ _ _)
      | (with_reducible exact api_Entry_46.mono _ _ _)
      | (with_reducible exact LeO.refl _)
      | (with_reducible exact LeO.none _)
      | (with_reducible refine LeO.ite ?_ ?_)
      | (with_reducible refine LeO.bind ?_ (fun _ => ?_))
set_option maxHeartbeats 8000000 in
set_option maxRecDepth 100000 in
theorem tlb_Buffer_Fill.calls (k : Nat) (g : Nat) (s0_0 : List (S48)) (s0_1 : Bool) (a1_0 : Int) (a1_1 : Int) (a1_2 : Int) (a1_3 : Int) (a1_4 : Bool) (a1_5 : Bool) (r1 : Option Int) (r2 : List (S48)) (r3 : Bool) (w0 w : World) (hI : IsS84 w0 w g s0_0 s0_1) (hB : Below w0.heap.size w0 w) (h : tlb_Buffer_Fill.f k s0_0 s0_1 a1_0 a1_1 a1_2 a1_3 a1_4 a1_5 = some (r1, r2, r3)) :
    Calls Try.prog 22 #[.pointer (some ⟨g, 0, none⟩), .agg #[.int .i64 a1_0, .int .i64 a1_1, .int .i64 a1_2, .int .i64 a1_3, .bool a1_4, .bool a1_5]] w fun e w' => e = .returned (errW r1) ∧ IsS84 w0 w' g r2 r3 ∧ Below w0.heap.size w0 w' ∧ True := by
  have HI := Aside0.mk hI
  have HB := Aside0.mk hB
  obtain ⟨sv, hb, hg, hr⟩ := hI
  obtain ⟨A0, c0, rfl⟩ := Kd.R_slice hr
  have HG := Aside0.mk hb
  have HR := Aside0.mk hr
  clear hb hg hr hB
  unfold tlb_Buffer_Fill.f at h
  by_cases c1 : s0_0.length < 1000
  · rw [if_pos c1] at h
    have LM := Aside0.mk c1
    clear c1
    replace h := Option.bind_eq_some_iff.mp h
    obtain ⟨m, A10, h⟩ := h
    have A1 := Aside0.mk A10
    clear A10
    cases m with
    | false =>
      rw [if_neg Bool.false_ne_true] at h
      simp only [Option.some.injEq, Prod.mk.injEq] at h
      obtain ⟨rfl, rfl, rfl⟩ := h
      go_enter Try.func22, Try.ntmps22
      go_wp2_with (first | ((with_reducible refine gate_dst (N := 3) rfl ?_); refine box_event ?hg (N := 3) ?hd (cs := #[.int .i64 a1_0, .int .i64 a1_1, .int .i64 a1_2, .int .i64 a1_3, .bool a1_4, .bool a1_5]) (t := 48) ?hr ?_; (case hd => rfl); (case hg => rfl); (case hr => first | (go_simp; done) | (go_simp; rfl)); intro gb hg w1 hbox hb; have m2 := Aside0.mk (blk_below HG.out hb); have m3 := Aside0.mk (Kd.R_below HR.out hb); have m4 := Aside0.mk (below_step HB.out hb); clear HG HR HB; have HX := Aside0.mk hbox; have HG := m2; have HR := m3; have HB := m4; clear m2 m3 m4 hb hbox hg; have hcz0 : w1.cell? ⟨gb, 0, none⟩ = some (.int .i64 a1_0) := (blk_cell HX.out 0).trans rfl; have hcz1 : w1.cell? ⟨gb, 1, none⟩ = some (.int .i64 a1_1) := (blk_cell HX.out 1).trans rfl; have hcz2 : w1.cell? ⟨gb, 2, none⟩ = some (.int .i64 a1_2) := (blk_cell HX.out 2).trans rfl; have hcz3 : w1.cell? ⟨gb, 3, none⟩ = some (.int .i64 a1_3) := (blk_cell HX.out 3).trans rfl; have hcz4 : w1.cell? ⟨gb, 4, none⟩ = some (.bool a1_4) := (blk_cell HX.out 4).trans rfl; have hcz5 : w1.cell? ⟨gb, 5, none⟩ = some (.bool a1_5) := (blk_cell HX.out 5).trans rfl; have hcg0 : w1.cell? ⟨g, 0, none⟩ = some (.slice A0 s0_0.length c0) := (blk_cell HG.out 0).trans rfl; have hcg1 : w1.cell? ⟨g, 1, none⟩ = some (.bool s0_1) := (blk_cell HG.out 1).trans rfl; have hfg0 := blk_frozen HG.out 0; have hfg1 := blk_frozen HG.out 1) | (go_at_call 43; (with_reducible refine (tlb_may.calls k a1_0 a1_1 a1_2 a1_3 a1_4 a1_5 _ _ A1.out).mono ?_); rintro e w2 ⟨rfl, hb⟩; have m1 := Aside0.mk (blk_below HX.out hb); have m2 := Aside0.mk (blk_below HG.out hb); have m3 := Aside0.mk (Kd.R_below HR.out hb); have m4 := Aside0.mk (below_step HB.out hb); clear HX HG HR HB hcz0 hcz1 hcz2 hcz3 hcz4 hcz5 hcg0 hcg1 hfg0 hfg1; have HX := m1; have HG := m2; have HR := m3; have HB := m4; clear m1 m2 m3 m4 hb; have hcz0 : w2.cell? ⟨gb, 0, none⟩ = some (.int .i64 a1_0) := (blk_cell HX.out 0).trans rfl; have hcz1 : w2.cell? ⟨gb, 1, none⟩ = some (.int .i64 a1_1) := (blk_cell HX.out 1).trans rfl; have hcz2 : w2.cell? ⟨gb, 2, none⟩ = some (.int .i64 a1_2) := (blk_cell HX.out 2).trans rfl; have hcz3 : w2.cell? ⟨gb, 3, none⟩ = some (.int .i64 a1_3) := (blk_cell HX.out 3).trans rfl; have hcz4 : w2.cell? ⟨gb, 4, none⟩ = some (.bool a1_4) := (blk_cell HX.out 4).trans rfl; have hcz5 : w2.cell? ⟨gb, 5, none⟩ = some (.bool a1_5) := (blk_cell HX.out 5).trans rfl; have hcg0 : w2.cell? ⟨g, 0, none⟩ = some (.slice A0 s0_0.length c0) := (blk_cell HG.out 0).trans rfl; have hcg1 : w2.cell? ⟨g, 1, none⟩ = some (.bool s0_1) := (blk_cell HG.out 1).trans rfl; have hfg0 := blk_frozen HG.out 0; have hfg1 := blk_frozen HG.out 1))
      repeat (go_quiet (first | ((with_reducible refine gate_dst (N := 3) rfl ?_); refine box_event ?hg (N := 3) ?hd (cs := #[.int .i64 a1_0, .int .i64 a1_1, .int .i64 a1_2, .int .i64 a1_3, .bool a1_4, .bool a1_5]) (t := 48) ?hr ?_; (case hd => rfl); (case hg => rfl); (case hr => first | (go_simp; done) | (go_simp; rfl)); intro gb hg w1 hbox hb; have m2 := Aside0.mk (blk_below HG.out hb); have m3 := Aside0.mk (Kd.R_below HR.out hb); have m4 := Aside0.mk (below_step HB.out hb); clear HG HR HB; have HX := Aside0.mk hbox; have HG := m2; have HR := m3; have HB := m4; clear m2 m3 m4 hb hbox hg; have hcz0 : w1.cell? ⟨gb, 0, none⟩ = some (.int .i64 a1_0) := (blk_cell HX.out 0).trans rfl; have hcz1 : w1.cell? ⟨gb, 1, none⟩ = some (.int .i64 a1_1) := (blk_cell HX.out 1).trans rfl; have hcz2 : w1.cell? ⟨gb, 2, none⟩ = some (.int .i64 a1_2) := (blk_cell HX.out 2).trans rfl; have hcz3 : w1.cell? ⟨gb, 3, none⟩ = some (.int .i64 a1_3) := (blk_cell HX.out 3).trans rfl; have hcz4 : w1.cell? ⟨gb, 4, none⟩ = some (.bool a1_4) := (blk_cell HX.out 4).trans rfl; have hcz5 : w1.cell? ⟨gb, 5, none⟩ = some (.bool a1_5) := (blk_cell HX.out 5).trans rfl; have hcg0 : w1.cell? ⟨g, 0, none⟩ = some (.slice A0 s0_0.length c0) := (blk_cell HG.out 0).trans rfl; have hcg1 : w1.cell? ⟨g, 1, none⟩ = some (.bool s0_1) := (blk_cell HG.out 1).trans rfl; have hfg0 := blk_frozen HG.out 0; have hfg1 := blk_frozen HG.out 1) | (go_at_call 43; (with_reducible refine (tlb_may.calls k a1_0 a1_1 a1_2 a1_3 a1_4 a1_5 _ _ A1.out).mono ?_); rintro e w2 ⟨rfl, hb⟩; have m1 := Aside0.mk (blk_below HX.out hb); have m2 := Aside0.mk (blk_below HG.out hb); have m3 := Aside0.mk (Kd.R_below HR.out hb); have m4 := Aside0.mk (below_step HB.out hb); clear HX HG HR HB hcz0 hcz1 hcz2 hcz3 hcz4 hcz5 hcg0 hcg1 hfg0 hfg1; have HX := m1; have HG := m2; have HR := m3; have HB := m4; clear m1 m2 m3 m4 hb; have hcz0 : w2.cell? ⟨gb, 0, none⟩ = some (.int .i64 a1_0) := (blk_cell HX.out 0).trans rfl; have hcz1 : w2.cell? ⟨gb, 1, none⟩ = some (.int .i64 a1_1) := (blk_cell HX.out 1).trans rfl; have hcz2 : w2.cell? ⟨gb, 2, none⟩ = some (.int .i64 a1_2) := (blk_cell HX.out 2).trans rfl; have hcz3 : w2.cell? ⟨gb, 3, none⟩ = some (.int .i64 a1_3) := (blk_cell HX.out 3).trans rfl; have hcz4 : w2.cell? ⟨gb, 4, none⟩ = some (.bool a1_4) := (blk_cell HX.out 4).trans rfl; have hcz5 : w2.cell? ⟨gb, 5, none⟩ = some (.bool a1_5) := (blk_cell HX.out 5).trans rfl; have hcg0 : w2.cell? ⟨g, 0, none⟩ = some (.slice A0 s0_0.length c0) := (blk_cell HG.out 0).trans rfl; have hcg1 : w2.cell? ⟨g, 1, none⟩ = some (.bool s0_1) := (blk_cell HG.out 1).trans rfl; have hfg0 := blk_frozen HG.out 0; have hfg1 := blk_frozen HG.out 1))); try go_wp2_with (first | ((with_reducible refine gate_dst (N := 3) rfl ?_); refine box_event ?hg (N := 3) ?hd (cs := #[.int .i64 a1_0, .int .i64 a1_1, .int .i64 a1_2, .int .i64 a1_3, .bool a1_4, .bool a1_5]) (t := 48) ?hr ?_; (case hd => rfl); (case hg => rfl); (case hr => first | (go_simp; done) | (go_simp; rfl)); intro gb hg w1 hbox hb; have m2 := Aside0.mk (blk_below HG.out hb); have m3 := Aside0.mk (Kd.R_below HR.out hb); have m4 := Aside0.mk (below_step HB.out hb); clear HG HR HB; have HX := Aside0.mk hbox; have HG := m2; have HR := m3; have HB := m4; clear m2 m3 m4 hb hbox hg; have hcz0 : w1.cell? ⟨gb, 0, none⟩ = some (.int .i64 a1_0) := (blk_cell HX.out 0).trans rfl; have hcz1 : w1.cell? ⟨gb, 1, none⟩ = some (.int .i64 a1_1) := (blk_cell HX.out 1).trans rfl; have hcz2 : w1.cell? ⟨gb, 2, none⟩ = some (.int .i64 a1_2) := (blk_cell HX.out 2).trans rfl; have hcz3 : w1.cell? ⟨gb, 3, none⟩ = some (.int .i64 a1_3) := (blk_cell HX.out 3).trans rfl; have hcz4 : w1.cell? ⟨gb, 4, none⟩ = some (.bool a1_4) := (blk_cell HX.out 4).trans rfl; have hcz5 : w1.cell? ⟨gb, 5, none⟩ = some (.bool a1_5) := (blk_cell HX.out 5).trans rfl; have hcg0 : w1.cell? ⟨g, 0, none⟩ = some (.slice A0 s0_0.length c0) := (blk_cell HG.out 0).trans rfl; have hcg1 : w1.cell? ⟨g, 1, none⟩ = some (.bool s0_1) := (blk_cell HG.out 1).trans rfl; have hfg0 := blk_frozen HG.out 0; have hfg1 := blk_frozen HG.out 1) | (go_at_call 43; (with_reducible refine (tlb_may.calls k a1_0 a1_1 a1_2 a1_3 a1_4 a1_5 _ _ A1.out).mono ?_); rintro e w2 ⟨rfl, hb⟩; have m1 := Aside0.mk (blk_below HX.out hb); have m2 := Aside0.mk (blk_below HG.out hb); have m3 := Aside0.mk (Kd.R_below HR.out hb); have m4 := Aside0.mk (below_step HB.out hb); clear HX HG HR HB hcz0 hcz1 hcz2 hcz3 hcz4 hcz5 hcg0 hcg1 hfg0 hfg1; have HX := m1; have HG := m2; have HR := m3; have HB := m4; clear m1 m2 m3 m4 hb; have hcz0 : w2.cell? ⟨gb, 0, none⟩ = some (.int .i64 a1_0) := (blk_cell HX.out 0).trans rfl; have hcz1 : w2.cell? ⟨gb, 1, none⟩ = some (.int .i64 a1_1) := (blk_cell HX.out 1).trans rfl; have hcz2 : w2.cell? ⟨gb, 2, none⟩ = some (.int .i64 a1_2) := (blk_cell HX.out 2).trans rfl; have hcz3 : w2.cell? ⟨gb, 3, none⟩ = some (.int .i64 a1_3) := (blk_cell HX.out 3).trans rfl; have hcz4 : w2.cell? ⟨gb, 4, none⟩ = some (.bool a1_4) := (blk_cell HX.out 4).trans rfl; have hcz5 : w2.cell? ⟨gb, 5, none⟩ = some (.bool a1_5) := (blk_cell HX.out 5).trans rfl; have hcg0 : w2.cell? ⟨g, 0, none⟩ = some (.slice A0 s0_0.length c0) := (blk_cell HG.out 0).trans rfl; have hcg1 : w2.cell? ⟨g, 1, none⟩ = some (.bool s0_1) := (blk_cell HG.out 1).trans rfl; have hfg0 := blk_frozen HG.out 0; have hfg1 := blk_frozen HG.out 1))
      go_ret
      exact ⟨rfl, ⟨_, HG.out, IsS84.ge HI.out, HR.out⟩, HB.out, trivial⟩
    | true =>
      rw [if_pos rfl] at h
      replace h := Option.bind_eq_some_iff.mp h
      obtain ⟨c, A20, h⟩ := h
      have A2 := Aside0.mk A20
      clear A20
      cases c with
      | true =>
        rw [if_pos rfl] at h
        simp only [Option.some.injEq, Prod.mk.injEq] at h
        obtain ⟨rfl, rfl, rfl⟩ := h
        go_enter Try.func22, Try.ntmps22
        go_wp2_with (first | ((with_reducible refine gate_dst (N := 3) rfl ?_); refine box_event ?hg (N := 3) ?hd (cs := #[.int .i64 a1_0, .int .i64 a1_1, .int .i64 a1_2, .int .i64 a1_3, .bool a1_4, .bool a1_5]) (t := 48) ?hr ?_; (case hd => rfl); (case hg => rfl); (case hr => first | (go_simp; done) | (go_simp; rfl)); intro gb hg w1 hbox hb; have m2 := Aside0.mk (blk_below HG.out hb); have m3 := Aside0.mk (Kd.R_below HR.out hb); have m4 := Aside0.mk (below_step HB.out hb); clear HG HR HB; have HX := Aside0.mk hbox; have HG := m2; have HR := m3; have HB := m4; clear m2 m3 m4 hb hbox hg; have hcz0 : w1.cell? ⟨gb, 0, none⟩ = some (.int .i64 a1_0) := (blk_cell HX.out 0).trans rfl; have hcz1 : w1.cell? ⟨gb, 1, none⟩ = some (.int .i64 a1_1) := (blk_cell HX.out 1).trans rfl; have hcz2 : w1.cell? ⟨gb, 2, none⟩ = some (.int .i64 a1_2) := (blk_cell HX.out 2).trans rfl; have hcz3 : w1.cell? ⟨gb, 3, none⟩ = some (.int .i64 a1_3) := (blk_cell HX.out 3).trans rfl; have hcz4 : w1.cell? ⟨gb, 4, none⟩ = some (.bool a1_4) := (blk_cell HX.out 4).trans rfl; have hcz5 : w1.cell? ⟨gb, 5, none⟩ = some (.bool a1_5) := (blk_cell HX.out 5).trans rfl; have hcg0 : w1.cell? ⟨g, 0, none⟩ = some (.slice A0 s0_0.length c0) := (blk_cell HG.out 0).trans rfl; have hcg1 : w1.cell? ⟨g, 1, none⟩ = some (.bool s0_1) := (blk_cell HG.out 1).trans rfl; have hfg0 := blk_frozen HG.out 0; have hfg1 := blk_frozen HG.out 1) | (go_at_call 43; (with_reducible refine (tlb_may.calls k a1_0 a1_1 a1_2 a1_3 a1_4 a1_5 _ _ A1.out).mono ?_); rintro e w2 ⟨rfl, hb⟩; have m1 := Aside0.mk (blk_below HX.out hb); have m2 := Aside0.mk (blk_below HG.out hb); have m3 := Aside0.mk (Kd.R_below HR.out hb); have m4 := Aside0.mk (below_step HB.out hb); clear HX HG HR HB hcz0 hcz1 hcz2 hcz3 hcz4 hcz5 hcg0 hcg1 hfg0 hfg1; have HX := m1; have HG := m2; have HR := m3; have HB := m4; clear m1 m2 m3 m4 hb; have hcz0 : w2.cell? ⟨gb, 0, none⟩ = some (.int .i64 a1_0) := (blk_cell HX.out 0).trans rfl; have hcz1 : w2.cell? ⟨gb, 1, none⟩ = some (.int .i64 a1_1) := (blk_cell HX.out 1).trans rfl; have hcz2 : w2.cell? ⟨gb, 2, none⟩ = some (.int .i64 a1_2) := (blk_cell HX.out 2).trans rfl; have hcz3 : w2.cell? ⟨gb, 3, none⟩ = some (.int .i64 a1_3) := (blk_cell HX.out 3).trans rfl; have hcz4 : w2.cell? ⟨gb, 4, none⟩ = some (.bool a1_4) := (blk_cell HX.out 4).trans rfl; have hcz5 : w2.cell? ⟨gb, 5, none⟩ = some (.bool a1_5) := (blk_cell HX.out 5).trans rfl; have hcg0 : w2.cell? ⟨g, 0, none⟩ = some (.slice A0 s0_0.length c0) := (blk_cell HG.out 0).trans rfl; have hcg1 : w2.cell? ⟨g, 1, none⟩ = some (.bool s0_1) := (blk_cell HG.out 1).trans rfl; have hfg0 := blk_frozen HG.out 0; have hfg1 := blk_frozen HG.out 1))
        go_still_tail 5, (by kernel_rfl)
        change wpList _ _ _ _ _ w2.drew
        have hb : Below w2.heap.size w2 w2.drew := below_drew (Below.refl _ _)
        generalize w2.drew = wd at hb ⊢
        have m1 := Aside0.mk (blk_below HX.out hb)
        have m2 := Aside0.mk (blk_below HG.out hb)
        have m3 := Aside0.mk (Kd.R_below HR.out hb)
        have m4 := Aside0.mk (below_step HB.out hb)
        clear HX HG HR HB hcz0 hcz1 hcz2 hcz3 hcz4 hcz5 hcg0 hcg1 hfg0 hfg1
        have HX := m1
        have HG := m2
        have HR := m3
        have HB := m4
        clear m1 m2 m3 m4 hb
        have hcz0 : wd.cell? ⟨gb, 0, none⟩ = some (.int .i64 a1_0) := (blk_cell HX.out 0).trans rfl
        have hcz1 : wd.cell? ⟨gb, 1, none⟩ = some (.int .i64 a1_1) := (blk_cell HX.out 1).trans rfl
        have hcz2 : wd.cell? ⟨gb, 2, none⟩ = some (.int .i64 a1_2) := (blk_cell HX.out 2).trans rfl
        have hcz3 : wd.cell? ⟨gb, 3, none⟩ = some (.int .i64 a1_3) := (blk_cell HX.out 3).trans rfl
        have hcz4 : wd.cell? ⟨gb, 4, none⟩ = some (.bool a1_4) := (blk_cell HX.out 4).trans rfl
        have hcz5 : wd.cell? ⟨gb, 5, none⟩ = some (.bool a1_5) := (blk_cell HX.out 5).trans rfl
        have hcg0 : wd.cell? ⟨g, 0, none⟩ = some (.slice A0 s0_0.length c0) := (blk_cell HG.out 0).trans rfl
        have hcg1 : wd.cell? ⟨g, 1, none⟩ = some (.bool s0_1) := (blk_cell HG.out 1).trans rfl
        have hfg0 := blk_frozen HG.out 0
        have hfg1 := blk_frozen HG.out 1
        go_wp2_with (first | (go_at_call 44; (with_reducible refine (api_Entry_44.calls k _ _ s0_0 a1_0 a1_1 a1_2 a1_3 a1_4 a1_5 _ _ ?side1 ?side2 A2.out).mono ?_); (case side1 => exact (Kd.R_reads' HR.out).2.2); (case side2 => exact (Kd.R_reads' HR.out).2.1); rintro e w3 ⟨rfl, hb⟩; have m1 := Aside0.mk (blk_below HX.out hb); have m2 := Aside0.mk (blk_below HG.out hb); have m3 := Aside0.mk (Kd.R_below HR.out hb); have m4 := Aside0.mk (below_step HB.out hb); clear HX HG HR HB hcz0 hcz1 hcz2 hcz3 hcz4 hcz5 hcg0 hcg1 hfg0 hfg1; have HX := m1; have HG := m2; have HR := m3; have HB := m4; clear m1 m2 m3 m4 hb; have hcz0 : w3.cell? ⟨gb, 0, none⟩ = some (.int .i64 a1_0) := (blk_cell HX.out 0).trans rfl; have hcz1 : w3.cell? ⟨gb, 1, none⟩ = some (.int .i64 a1_1) := (blk_cell HX.out 1).trans rfl; have hcz2 : w3.cell? ⟨gb, 2, none⟩ = some (.int .i64 a1_2) := (blk_cell HX.out 2).trans rfl; have hcz3 : w3.cell? ⟨gb, 3, none⟩ = some (.int .i64 a1_3) := (blk_cell HX.out 3).trans rfl; have hcz4 : w3.cell? ⟨gb, 4, none⟩ = some (.bool a1_4) := (blk_cell HX.out 4).trans rfl; have hcz5 : w3.cell? ⟨gb, 5, none⟩ = some (.bool a1_5) := (blk_cell HX.out 5).trans rfl; have hcg0 : w3.cell? ⟨g, 0, none⟩ = some (.slice A0 s0_0.length c0) := (blk_cell HG.out 0).trans rfl; have hcg1 : w3.cell? ⟨g, 1, none⟩ = some (.bool s0_1) := (blk_cell HG.out 1).trans rfl; have hfg0 := blk_frozen HG.out 0; have hfg1 := blk_frozen HG.out 1))
        go_ret
        exact ⟨rfl, ⟨_, HG.out, IsS84.ge HI.out, HR.out⟩, HB.out, trivial⟩
      | false =>
        rw [if_neg Bool.false_ne_true] at h
        by_cases c64 : s0_0.length = 64
        · have c64b0 : ((s0_0.length : Int) == 64) = true := beq_iff_eq.mpr (by omega)
          have ec : tlb_Buffer_Fill.cut s0_0 = s0_0.drop 1 := if_pos c64
          rw [ec] at h
          have C64 := Aside0.mk c64
          clear ec c64
          obtain ⟨ad0, rfl, _⟩ := ((Kd.R_reads' HR.out).2.2).2.2 (by have := C64.out; omega)
          obtain ⟨i0, hi0, hpp⟩ := Option.map_eq_some_iff.mp infoE
          have hsz : i0.size = 6 := congrArg (fun p => p.2.1) hpp
          have hcut0 : ∀ W : World, (Instr.slice 49 (.slice (some ad0) s0_0.length c0) (some (.int .i64 1)) none none).run Try.prog W = .ok (.slice (some (ad0.add 6)) (s0_0.drop 1).length (c0 - 1)) W := by
            intro W
            have := cut_from (P := Try.prog) 49 48 .i64 Try.underlying49 hi0 6 hsz (some ad0) s0_0.length c0 1 (by omega) (by have := C64.out; omega) W
            have h1 : c0 ≠ (1 : Int).toNat := by have := C64.out; have := (Kd.R_reads' HR.out).2.1; simp; omega
            rw [if_neg h1] at this
            rw [this, List.length_drop]
            rfl
          obtain ⟨D, hD⟩ : ∃ D, s0_0.drop 1 = D := ⟨_, rfl⟩
          have HD := Aside0.mk (show D.length + 1 = s0_0.length from by have := C64.out; have := s0_0.length_drop (i := 1); rw [← hD]; omega)
          obtain ⟨ad1, had⟩ : ∃ a, ad0.add 6 = a := ⟨_, rfl⟩
          obtain ⟨c1, hc1⟩ : ∃ c, c0 - 1 = c := ⟨_, rfl⟩
          have HC1 := Aside0.mk hc1
          rw [hD, had, hc1] at hcut0
          rw [hD] at h
          have HDD := Aside0.mk hD
          have HAD := Aside0.mk had
          clear hD had hc1 hsz hpp hi0
          clear i0
          have hcut := hcut0
          clear hcut0
          cases s0_1 with
          | true =>
            rw [if_pos rfl] at h
            simp only [Option.some.injEq, Prod.mk.injEq] at h
            obtain ⟨rfl, rfl, rfl⟩ := h
            go_enter Try.func22, Try.ntmps22
            go_wp2_with (first | ((with_reducible refine gate_dst (N := 3) rfl ?_); refine box_event ?hg (N := 3) ?hd (cs := #[.int .i64 a1_0, .int .i64 a1_1, .int .i64 a1_2, .int .i64 a1_3, .bool a1_4, .bool a1_5]) (t := 48) ?hr ?_; (case hd => rfl); (case hg => rfl); (case hr => first | (go_simp; done) | (go_simp; rfl)); intro gb hg w1 hbox hb; have m2 := Aside0.mk (blk_below HG.out hb); have m3 := Aside0.mk (Kd.R_below HR.out hb); have m4 := Aside0.mk (below_step HB.out hb); clear HG HR HB; have HX := Aside0.mk hbox; have HG := m2; have HR := m3; have HB := m4; clear m2 m3 m4 hb hbox hg; have hcz0 : w1.cell? ⟨gb, 0, none⟩ = some (.int .i64 a1_0) := (blk_cell HX.out 0).trans rfl; have hcz1 : w1.cell? ⟨gb, 1, none⟩ = some (.int .i64 a1_1) := (blk_cell HX.out 1).trans rfl; have hcz2 : w1.cell? ⟨gb, 2, none⟩ = some (.int .i64 a1_2) := (blk_cell HX.out 2).trans rfl; have hcz3 : w1.cell? ⟨gb, 3, none⟩ = some (.int .i64 a1_3) := (blk_cell HX.out 3).trans rfl; have hcz4 : w1.cell? ⟨gb, 4, none⟩ = some (.bool a1_4) := (blk_cell HX.out 4).trans rfl; have hcz5 : w1.cell? ⟨gb, 5, none⟩ = some (.bool a1_5) := (blk_cell HX.out 5).trans rfl; have hcg0 : w1.cell? ⟨g, 0, none⟩ = some (.slice (some ad0) s0_0.length c0) := (blk_cell HG.out 0).trans rfl; have hcg1 : w1.cell? ⟨g, 1, none⟩ = some (.bool true) := (blk_cell HG.out 1).trans rfl; have hfg0 := blk_frozen HG.out 0; have hfg1 := blk_frozen HG.out 1) | (go_at_call 43; (with_reducible refine (tlb_may.calls k a1_0 a1_1 a1_2 a1_3 a1_4 a1_5 _ _ A1.out).mono ?_); rintro e w2 ⟨rfl, hb⟩; have m1 := Aside0.mk (blk_below HX.out hb); have m2 := Aside0.mk (blk_below HG.out hb); have m3 := Aside0.mk (Kd.R_below HR.out hb); have m4 := Aside0.mk (below_step HB.out hb); clear HX HG HR HB hcz0 hcz1 hcz2 hcz3 hcz4 hcz5 hcg0 hcg1 hfg0 hfg1; have HX := m1; have HG := m2; have HR := m3; have HB := m4; clear m1 m2 m3 m4 hb; have hcz0 : w2.cell? ⟨gb, 0, none⟩ = some (.int .i64 a1_0) := (blk_cell HX.out 0).trans rfl; have hcz1 : w2.cell? ⟨gb, 1, none⟩ = some (.int .i64 a1_1) := (blk_cell HX.out 1).trans rfl; have hcz2 : w2.cell? ⟨gb, 2, none⟩ = some (.int .i64 a1_2) := (blk_cell HX.out 2).trans rfl; have hcz3 : w2.cell? ⟨gb, 3, none⟩ = some (.int .i64 a1_3) := (blk_cell HX.out 3).trans rfl; have hcz4 : w2.cell? ⟨gb, 4, none⟩ = some (.bool a1_4) := (blk_cell HX.out 4).trans rfl; have hcz5 : w2.cell? ⟨gb, 5, none⟩ = some (.bool a1_5) := (blk_cell HX.out 5).trans rfl; have hcg0 : w2.cell? ⟨g, 0, none⟩ = some (.slice (some ad0) s0_0.length c0) := (blk_cell HG.out 0).trans rfl; have hcg1 : w2.cell? ⟨g, 1, none⟩ = some (.bool true) := (blk_cell HG.out 1).trans rfl; have hfg0 := blk_frozen HG.out 0; have hfg1 := blk_frozen HG.out 1))
            go_still_tail 5, (by kernel_rfl)
            change wpList _ _ _ _ _ w2.drew
            have hb : Below w2.heap.size w2 w2.drew := below_drew (Below.refl _ _)
            generalize w2.drew = wd at hb ⊢
            have m1 := Aside0.mk (blk_below HX.out hb)
            have m2 := Aside0.mk (blk_below HG.out hb)
            have m3 := Aside0.mk (Kd.R_below HR.out hb)
            have m4 := Aside0.mk (below_step HB.out hb)
            clear HX HG HR HB hcz0 hcz1 hcz2 hcz3 hcz4 hcz5 hcg0 hcg1 hfg0 hfg1
            have HX := m1
            have HG := m2
            have HR := m3
            have HB := m4
            clear m1 m2 m3 m4 hb
            have hcz0 : wd.cell? ⟨gb, 0, none⟩ = some (.int .i64 a1_0) := (blk_cell HX.out 0).trans rfl
            have hcz1 : wd.cell? ⟨gb, 1, none⟩ = some (.int .i64 a1_1) := (blk_cell HX.out 1).trans rfl
            have hcz2 : wd.cell? ⟨gb, 2, none⟩ = some (.int .i64 a1_2) := (blk_cell HX.out 2).trans rfl
            have hcz3 : wd.cell? ⟨gb, 3, none⟩ = some (.int .i64 a1_3) := (blk_cell HX.out 3).trans rfl
            have hcz4 : wd.cell? ⟨gb, 4, none⟩ = some (.bool a1_4) := (blk_cell HX.out 4).trans rfl
            have hcz5 : wd.cell? ⟨gb, 5, none⟩ = some (.bool a1_5) := (blk_cell HX.out 5).trans rfl
            have hcg0 : wd.cell? ⟨g, 0, none⟩ = some (.slice (some ad0) s0_0.length c0) := (blk_cell HG.out 0).trans rfl
            have hcg1 : wd.cell? ⟨g, 1, none⟩ = some (.bool true) := (blk_cell HG.out 1).trans rfl
            have hfg0 := blk_frozen HG.out 0
            have hfg1 := blk_frozen HG.out 1
            go_wp2_with (first | (go_at_call 44; (with_reducible refine (api_Entry_44.calls k _ _ s0_0 a1_0 a1_1 a1_2 a1_3 a1_4 a1_5 _ _ ?side1 ?side2 A2.out).mono ?_); (case side1 => exact (Kd.R_reads' HR.out).2.2); (case side2 => exact (Kd.R_reads' HR.out).2.1); rintro e w3 ⟨rfl, hb⟩; have m1 := Aside0.mk (blk_below HX.out hb); have m2 := Aside0.mk (blk_below HG.out hb); have m3 := Aside0.mk (Kd.R_below HR.out hb); have m4 := Aside0.mk (below_step HB.out hb); clear HX HG HR HB hcz0 hcz1 hcz2 hcz3 hcz4 hcz5 hcg0 hcg1 hfg0 hfg1; have HX := m1; have HG := m2; have HR := m3; have HB := m4; clear m1 m2 m3 m4 hb; have hcz0 : w3.cell? ⟨gb, 0, none⟩ = some (.int .i64 a1_0) := (blk_cell HX.out 0).trans rfl; have hcz1 : w3.cell? ⟨gb, 1, none⟩ = some (.int .i64 a1_1) := (blk_cell HX.out 1).trans rfl; have hcz2 : w3.cell? ⟨gb, 2, none⟩ = some (.int .i64 a1_2) := (blk_cell HX.out 2).trans rfl; have hcz3 : w3.cell? ⟨gb, 3, none⟩ = some (.int .i64 a1_3) := (blk_cell HX.out 3).trans rfl; have hcz4 : w3.cell? ⟨gb, 4, none⟩ = some (.bool a1_4) := (blk_cell HX.out 4).trans rfl; have hcz5 : w3.cell? ⟨gb, 5, none⟩ = some (.bool a1_5) := (blk_cell HX.out 5).trans rfl; have hcg0 : w3.cell? ⟨g, 0, none⟩ = some (.slice (some ad0) s0_0.length c0) := (blk_cell HG.out 0).trans rfl; have hcg1 : w3.cell? ⟨g, 1, none⟩ = some (.bool true) := (blk_cell HG.out 1).trans rfl; have hfg0 := blk_frozen HG.out 0; have hfg1 := blk_frozen HG.out 1) | (go_at_call 45; (with_reducible refine (api_Entry_45.calls (some ad1) c1 D D _ ?side1 ?side2 ?side3).mono ?_); (case side1 => have hc := Kd.C_drop (m := 1) (c := c0) ((Kd.R_reads' HR.out).2.2) (by have := C64.out; omega) ((Kd.R_reads' HR.out).2.1); rw [if_neg (by have := C64.out; have := (Kd.R_reads' HR.out).2.1; omega), HDD.out] at hc; have h2 := HAD.out; rw [← h2]; exact hc); (case side2 => have := (Kd.R_reads' HR.out).2.1; have := HD.out; have := HC1.out; omega); (case side3 => unfold api_Entry_45.f; rw [if_pos (by have := C64.out; have := HD.out; omega)]); rintro e w4 ⟨v4, rfl, hr4, hb⟩; have HC4 := Aside0.mk (Kd.R_lower hr4 HB.out.size); (obtain ⟨A4, c4, rfl⟩ := Kd.R_slice hr4); have m1 := Aside0.mk (blk_below HX.out hb); have m2 := Aside0.mk (blk_below HG.out hb); have m4 := Aside0.mk (below_step HB.out hb); clear HX HG HR HB hcz0 hcz1 hcz2 hcz3 hcz4 hcz5 hcg0 hcg1 hfg0 hfg1 hr4; have HX := m1; have HG := m2; have HR := HC4; have HB := m4; clear m1 m2 m4 hb HC4; have hfh0 := blk_frozen HG.out 0; have hch0 : w4.cell? ⟨g, 0, none⟩ = some (.slice (some ad0) s0_0.length c0) := (blk_cell HG.out 0).trans rfl; have hne := blk_ne HX.out HG.out (by decide); have hg0 := IsS84.ge HI.out; (obtain ⟨w5, hw5⟩ : ∃ W, w4.setCell ⟨g, 0, none⟩ (.slice A4 D.length c4) = W := ⟨_, rfl⟩); have m1 := Aside0.mk (blk_far HX.out (p := ⟨g, 0, none⟩) hne (.slice A4 D.length c4)); have m2 := Aside0.mk (show (w4.setCell ⟨g, 0, none⟩ (.slice A4 D.length c4)).heap[g]? = some (.cells #[.slice A4 D.length c4, .bool true] 84 (0, 0)) from blk_put HG.out 0 _ rfl); have m3 := Aside0.mk (Kd.R_mono (Kd.R_far (p := ⟨g, 0, none⟩) (Kd.R_types HR.out HG.out (by decide)) (fun _ hk => hk.2) (.slice A4 D.length c4)) (fun _ _ => trivial : ∀ k, _ → (fun _ : Nat => True) k)); have m4 := Aside0.mk (below_set (j := 0) (v := .slice A4 D.length c4) HB.out hg0); rw [hw5] at m1 m2 m3 m4; clear HX HG HR HB; have HX := m1; have HG := m2; have HR := m3; have HB := m4; clear m1 m2 m3 m4; have hcz0 : w5.cell? ⟨gb, 0, none⟩ = some (.int .i64 a1_0) := (blk_cell HX.out 0).trans rfl; have hcz1 : w5.cell? ⟨gb, 1, none⟩ = some (.int .i64 a1_1) := (blk_cell HX.out 1).trans rfl; have hcz2 : w5.cell? ⟨gb, 2, none⟩ = some (.int .i64 a1_2) := (blk_cell HX.out 2).trans rfl; have hcz3 : w5.cell? ⟨gb, 3, none⟩ = some (.int .i64 a1_3) := (blk_cell HX.out 3).trans rfl; have hcz4 : w5.cell? ⟨gb, 4, none⟩ = some (.bool a1_4) := (blk_cell HX.out 4).trans rfl; have hcz5 : w5.cell? ⟨gb, 5, none⟩ = some (.bool a1_5) := (blk_cell HX.out 5).trans rfl; have hcg0 : w5.cell? ⟨g, 0, none⟩ = some (.slice A4 D.length c4) := (blk_cell HG.out 0).trans rfl; have hcg1 : w5.cell? ⟨g, 1, none⟩ = some (.bool true) := (blk_cell HG.out 1).trans rfl; have hfg0 := blk_frozen HG.out 0; have hfg1 := blk_frozen HG.out 1))
            have hne : gb ≠ g := blk_ne HX.out HG.out (by decide)
            have hg0 := IsS84.ge HI.out
            have m1 := Aside0.mk (show (w5.setCell ⟨g, 1, none⟩ (.bool true)).heap[g]? = some (.cells #[.slice A4 D.length c4, .bool true] 84 (0, 0)) from blk_put HG.out 1 _ rfl)
            have m2 := Aside0.mk (blk_far HX.out (p := ⟨g, 1, none⟩) hne (.bool true))
            have m3 := Aside0.mk (Kd.R_mono (Kd.R_far (p := ⟨g, 1, none⟩) (Kd.R_types HR.out HG.out (by decide)) (fun _ hk => hk.2) (.bool true)) (fun _ _ => trivial : ∀ k, _ → (fun _ : Nat => True) k))
            have m4 := Aside0.mk (below_set (j := 1) (v := .bool true) HB.out hg0)
            clear HX HG HR HB hcz0 hcz1 hcz2 hcz3 hcz4 hcz5 hcg0 hcg1 hfg0 hfg1
            have HX := m2
            have HG := m1
            have HR := m3
            have HB := m4
            clear m1 m2 m3 m4
            generalize w5.setCell ⟨g, 1, none⟩ (.bool true) = W at HX HG HR HB ⊢
            have hcz0 : W.cell? ⟨gb, 0, none⟩ = some (.int .i64 a1_0) := (blk_cell HX.out 0).trans rfl
            have hcz1 : W.cell? ⟨gb, 1, none⟩ = some (.int .i64 a1_1) := (blk_cell HX.out 1).trans rfl
            have hcz2 : W.cell? ⟨gb, 2, none⟩ = some (.int .i64 a1_2) := (blk_cell HX.out 2).trans rfl
            have hcz3 : W.cell? ⟨gb, 3, none⟩ = some (.int .i64 a1_3) := (blk_cell HX.out 3).trans rfl
            have hcz4 : W.cell? ⟨gb, 4, none⟩ = some (.bool a1_4) := (blk_cell HX.out 4).trans rfl
            have hcz5 : W.cell? ⟨gb, 5, none⟩ = some (.bool a1_5) := (blk_cell HX.out 5).trans rfl
            have hcg0 : W.cell? ⟨g, 0, none⟩ = some (.slice A4 D.length c4) := (blk_cell HG.out 0).trans rfl
            have hcg1 : W.cell? ⟨g, 1, none⟩ = some (.bool true) := (blk_cell HG.out 1).trans rfl
            have hfg0 := blk_frozen HG.out 0
            have hfg1 := blk_frozen HG.out 1
            have hcb0 : (W.alloc (Obj.cells #[.int .i64 a1_0, .int .i64 a1_1, .int .i64 a1_2, .int .i64 a1_3, .bool a1_4, .bool a1_5] 48)).cell? ⟨g, 0, none⟩ = some (.slice A4 D.length c4) := (World.cell?_alloc_lt _ _ _ (World.block_lt_of_cell? W _ hcg0)).trans hcg0
            go_region_law (first | (refine Kd.R_append_step k48 (w0 := w0) (W := W.drew) w0.heap.size (by rfl) (.tmp 52) (.tmp 54) 49 48 (.agg #[(.int .i64 0), (.int .i64 0), (.int .i64 0), (.int .i64 0), (.bool false), (.bool false)]) 40 rfl Try.underlying49 infoE rfl (by decide) (by omega) (.slice A4 D.length c4) D (⟨a1_0, a1_1, a1_2, a1_3, a1_4, a1_5⟩ : S48) [.int .i64 a1_0, .int .i64 a1_1, .int .i64 a1_2, .int .i64 a1_3, .bool a1_4, .bool a1_5] (fun _ => True) (fun _ => False) (by first | rfl | (simp [Act.eval, Act.put]; done)) (by first | rfl | (simp [Act.eval, Act.put]; done)) ?aP (fun _ hk => hk.elim) ?aF ?aO ?aB ?aS ?aL ?_; (case aP => exact k48_mkM _ _ _ (⟨a1_0, a1_1, a1_2, a1_3, a1_4, a1_5⟩ : S48)); (case aF => exact fun _ _ => trivial); (case aO => exact Kd.R_drew HR.out); (case aB => exact below_drew HB.out); (case aS => exact HB.out.size); (case aL => have := LM.out; have := HD.out; omega); intro v5 w5 ho hb hgr hat; (obtain ⟨A5, c5, hv5⟩ := Kd.R_slice ho); rw [List.length_append, List.length_singleton] at hv5; subst hv5; have hn5 := Kd.R_ne HR.out HG.out (by decide); have m1 := Aside0.mk (blk_grown (blk_drew HG.out) hgr hn5); have HO5 := Aside0.mk ho; have HB5 := Aside0.mk hb; have hcg5 : w5.cell? ⟨g, 0, none⟩ = some (.slice A4 D.length c4) := (blk_cell m1.out 0).trans rfl; have hfg5 := blk_frozen m1.out 0; have HG5 := m1; clear m1 ho hb hgr hat hn5))
            all_goals go_wp2
            all_goals go_ret
            all_goals (have hg0 := IsS84.ge HI.out; exact ⟨rfl, ⟨_, blk_put HG5.out 0 _ rfl, hg0, Kd.R_mono (Kd.R_far (p := ⟨g, 0, none⟩) (Kd.R_types HO5.out HG5.out (by decide)) (fun _ hk => hk.2) _) (fun _ _ => trivial : ∀ k, _ → (fun _ : Nat => True) k)⟩, below_set (j := 0) HB5.out hg0, trivial⟩)
          | false =>
            rw [if_neg Bool.false_ne_true] at h
            replace h := Option.bind_eq_some_iff.mp h
            obtain ⟨q, A30, h⟩ := h
            have A3 := Aside0.mk A30
            clear A30
            simp only [Option.some.injEq, Prod.mk.injEq] at h
            obtain ⟨rfl, rfl, rfl⟩ := h
            go_enter Try.func22, Try.ntmps22
            go_wp2_with (first | ((with_reducible refine gate_dst (N := 3) rfl ?_); refine box_event ?hg (N := 3) ?hd (cs := #[.int .i64 a1_0, .int .i64 a1_1, .int .i64 a1_2, .int .i64 a1_3, .bool a1_4, .bool a1_5]) (t := 48) ?hr ?_; (case hd => rfl); (case hg => rfl); (case hr => first | (go_simp; done) | (go_simp; rfl)); intro gb hg w1 hbox hb; have m2 := Aside0.mk (blk_below HG.out hb); have m3 := Aside0.mk (Kd.R_below HR.out hb); have m4 := Aside0.mk (below_step HB.out hb); clear HG HR HB; have HX := Aside0.mk hbox; have HG := m2; have HR := m3; have HB := m4; clear m2 m3 m4 hb hbox hg; have hcz0 : w1.cell? ⟨gb, 0, none⟩ = some (.int .i64 a1_0) := (blk_cell HX.out 0).trans rfl; have hcz1 : w1.cell? ⟨gb, 1, none⟩ = some (.int .i64 a1_1) := (blk_cell HX.out 1).trans rfl; have hcz2 : w1.cell? ⟨gb, 2, none⟩ = some (.int .i64 a1_2) := (blk_cell HX.out 2).trans rfl; have hcz3 : w1.cell? ⟨gb, 3, none⟩ = some (.int .i64 a1_3) := (blk_cell HX.out 3).trans rfl; have hcz4 : w1.cell? ⟨gb, 4, none⟩ = some (.bool a1_4) := (blk_cell HX.out 4).trans rfl; have hcz5 : w1.cell? ⟨gb, 5, none⟩ = some (.bool a1_5) := (blk_cell HX.out 5).trans rfl; have hcg0 : w1.cell? ⟨g, 0, none⟩ = some (.slice (some ad0) s0_0.length c0) := (blk_cell HG.out 0).trans rfl; have hcg1 : w1.cell? ⟨g, 1, none⟩ = some (.bool false) := (blk_cell HG.out 1).trans rfl; have hfg0 := blk_frozen HG.out 0; have hfg1 := blk_frozen HG.out 1) | (go_at_call 43; (with_reducible refine (tlb_may.calls k a1_0 a1_1 a1_2 a1_3 a1_4 a1_5 _ _ A1.out).mono ?_); rintro e w2 ⟨rfl, hb⟩; have m1 := Aside0.mk (blk_below HX.out hb); have m2 := Aside0.mk (blk_below HG.out hb); have m3 := Aside0.mk (Kd.R_below HR.out hb); have m4 := Aside0.mk (below_step HB.out hb); clear HX HG HR HB hcz0 hcz1 hcz2 hcz3 hcz4 hcz5 hcg0 hcg1 hfg0 hfg1; have HX := m1; have HG := m2; have HR := m3; have HB := m4; clear m1 m2 m3 m4 hb; have hcz0 : w2.cell? ⟨gb, 0, none⟩ = some (.int .i64 a1_0) := (blk_cell HX.out 0).trans rfl; have hcz1 : w2.cell? ⟨gb, 1, none⟩ = some (.int .i64 a1_1) := (blk_cell HX.out 1).trans rfl; have hcz2 : w2.cell? ⟨gb, 2, none⟩ = some (.int .i64 a1_2) := (blk_cell HX.out 2).trans rfl; have hcz3 : w2.cell? ⟨gb, 3, none⟩ = some (.int .i64 a1_3) := (blk_cell HX.out 3).trans rfl; have hcz4 : w2.cell? ⟨gb, 4, none⟩ = some (.bool a1_4) := (blk_cell HX.out 4).trans rfl; have hcz5 : w2.cell? ⟨gb, 5, none⟩ = some (.bool a1_5) := (blk_cell HX.out 5).trans rfl; have hcg0 : w2.cell? ⟨g, 0, none⟩ = some (.slice (some ad0) s0_0.length c0) := (blk_cell HG.out 0).trans rfl; have hcg1 : w2.cell? ⟨g, 1, none⟩ = some (.bool false) := (blk_cell HG.out 1).trans rfl; have hfg0 := blk_frozen HG.out 0; have hfg1 := blk_frozen HG.out 1))
            go_still_tail 5, (by kernel_rfl)
            change wpList _ _ _ _ _ w2.drew
            have hb : Below w2.heap.size w2 w2.drew := below_drew (Below.refl _ _)
            generalize w2.drew = wd at hb ⊢
            have m1 := Aside0.mk (blk_below HX.out hb)
            have m2 := Aside0.mk (blk_below HG.out hb)
            have m3 := Aside0.mk (Kd.R_below HR.out hb)
            have m4 := Aside0.mk (below_step HB.out hb)
            clear HX HG HR HB hcz0 hcz1 hcz2 hcz3 hcz4 hcz5 hcg0 hcg1 hfg0 hfg1
            have HX := m1
            have HG := m2
            have HR := m3
            have HB := m4
            clear m1 m2 m3 m4 hb
            have hcz0 : wd.cell? ⟨gb, 0, none⟩ = some (.int .i64 a1_0) := (blk_cell HX.out 0).trans rfl
            have hcz1 : wd.cell? ⟨gb, 1, none⟩ = some (.int .i64 a1_1) := (blk_cell HX.out 1).trans rfl
            have hcz2 : wd.cell? ⟨gb, 2, none⟩ = some (.int .i64 a1_2) := (blk_cell HX.out 2).trans rfl
            have hcz3 : wd.cell? ⟨gb, 3, none⟩ = some (.int .i64 a1_3) := (blk_cell HX.out 3).trans rfl
            have hcz4 : wd.cell? ⟨gb, 4, none⟩ = some (.bool a1_4) := (blk_cell HX.out 4).trans rfl
            have hcz5 : wd.cell? ⟨gb, 5, none⟩ = some (.bool a1_5) := (blk_cell HX.out 5).trans rfl
            have hcg0 : wd.cell? ⟨g, 0, none⟩ = some (.slice (some ad0) s0_0.length c0) := (blk_cell HG.out 0).trans rfl
            have hcg1 : wd.cell? ⟨g, 1, none⟩ = some (.bool false) := (blk_cell HG.out 1).trans rfl
            have hfg0 := blk_frozen HG.out 0
            have hfg1 := blk_frozen HG.out 1
            go_wp2_with (first | (go_at_call 44; (with_reducible refine (api_Entry_44.calls k _ _ s0_0 a1_0 a1_1 a1_2 a1_3 a1_4 a1_5 _ _ ?side1 ?side2 A2.out).mono ?_); (case side1 => exact (Kd.R_reads' HR.out).2.2); (case side2 => exact (Kd.R_reads' HR.out).2.1); rintro e w3 ⟨rfl, hb⟩; have m1 := Aside0.mk (blk_below HX.out hb); have m2 := Aside0.mk (blk_below HG.out hb); have m3 := Aside0.mk (Kd.R_below HR.out hb); have m4 := Aside0.mk (below_step HB.out hb); clear HX HG HR HB hcz0 hcz1 hcz2 hcz3 hcz4 hcz5 hcg0 hcg1 hfg0 hfg1; have HX := m1; have HG := m2; have HR := m3; have HB := m4; clear m1 m2 m3 m4 hb; have hcz0 : w3.cell? ⟨gb, 0, none⟩ = some (.int .i64 a1_0) := (blk_cell HX.out 0).trans rfl; have hcz1 : w3.cell? ⟨gb, 1, none⟩ = some (.int .i64 a1_1) := (blk_cell HX.out 1).trans rfl; have hcz2 : w3.cell? ⟨gb, 2, none⟩ = some (.int .i64 a1_2) := (blk_cell HX.out 2).trans rfl; have hcz3 : w3.cell? ⟨gb, 3, none⟩ = some (.int .i64 a1_3) := (blk_cell HX.out 3).trans rfl; have hcz4 : w3.cell? ⟨gb, 4, none⟩ = some (.bool a1_4) := (blk_cell HX.out 4).trans rfl; have hcz5 : w3.cell? ⟨gb, 5, none⟩ = some (.bool a1_5) := (blk_cell HX.out 5).trans rfl; have hcg0 : w3.cell? ⟨g, 0, none⟩ = some (.slice (some ad0) s0_0.length c0) := (blk_cell HG.out 0).trans rfl; have hcg1 : w3.cell? ⟨g, 1, none⟩ = some (.bool false) := (blk_cell HG.out 1).trans rfl; have hfg0 := blk_frozen HG.out 0; have hfg1 := blk_frozen HG.out 1) | (go_at_call 45; (with_reducible refine (api_Entry_45.calls (some ad1) c1 D D _ ?side1 ?side2 ?side3).mono ?_); (case side1 => have hc := Kd.C_drop (m := 1) (c := c0) ((Kd.R_reads' HR.out).2.2) (by have := C64.out; omega) ((Kd.R_reads' HR.out).2.1); rw [if_neg (by have := C64.out; have := (Kd.R_reads' HR.out).2.1; omega), HDD.out] at hc; have h2 := HAD.out; rw [← h2]; exact hc); (case side2 => have := (Kd.R_reads' HR.out).2.1; have := HD.out; have := HC1.out; omega); (case side3 => unfold api_Entry_45.f; rw [if_pos (by have := C64.out; have := HD.out; omega)]); rintro e w4 ⟨v4, rfl, hr4, hb⟩; have HC4 := Aside0.mk (Kd.R_lower hr4 HB.out.size); (obtain ⟨A4, c4, rfl⟩ := Kd.R_slice hr4); have m1 := Aside0.mk (blk_below HX.out hb); have m2 := Aside0.mk (blk_below HG.out hb); have m4 := Aside0.mk (below_step HB.out hb); clear HX HG HR HB hcz0 hcz1 hcz2 hcz3 hcz4 hcz5 hcg0 hcg1 hfg0 hfg1 hr4; have HX := m1; have HG := m2; have HR := HC4; have HB := m4; clear m1 m2 m4 hb HC4; have hfh0 := blk_frozen HG.out 0; have hch0 : w4.cell? ⟨g, 0, none⟩ = some (.slice (some ad0) s0_0.length c0) := (blk_cell HG.out 0).trans rfl; have hne := blk_ne HX.out HG.out (by decide); have hg0 := IsS84.ge HI.out; (obtain ⟨w5, hw5⟩ : ∃ W, w4.setCell ⟨g, 0, none⟩ (.slice A4 D.length c4) = W := ⟨_, rfl⟩); have m1 := Aside0.mk (blk_far HX.out (p := ⟨g, 0, none⟩) hne (.slice A4 D.length c4)); have m2 := Aside0.mk (show (w4.setCell ⟨g, 0, none⟩ (.slice A4 D.length c4)).heap[g]? = some (.cells #[.slice A4 D.length c4, .bool false] 84 (0, 0)) from blk_put HG.out 0 _ rfl); have m3 := Aside0.mk (Kd.R_mono (Kd.R_far (p := ⟨g, 0, none⟩) (Kd.R_types HR.out HG.out (by decide)) (fun _ hk => hk.2) (.slice A4 D.length c4)) (fun _ _ => trivial : ∀ k, _ → (fun _ : Nat => True) k)); have m4 := Aside0.mk (below_set (j := 0) (v := .slice A4 D.length c4) HB.out hg0); rw [hw5] at m1 m2 m3 m4; clear HX HG HR HB; have HX := m1; have HG := m2; have HR := m3; have HB := m4; clear m1 m2 m3 m4; have hcz0 : w5.cell? ⟨gb, 0, none⟩ = some (.int .i64 a1_0) := (blk_cell HX.out 0).trans rfl; have hcz1 : w5.cell? ⟨gb, 1, none⟩ = some (.int .i64 a1_1) := (blk_cell HX.out 1).trans rfl; have hcz2 : w5.cell? ⟨gb, 2, none⟩ = some (.int .i64 a1_2) := (blk_cell HX.out 2).trans rfl; have hcz3 : w5.cell? ⟨gb, 3, none⟩ = some (.int .i64 a1_3) := (blk_cell HX.out 3).trans rfl; have hcz4 : w5.cell? ⟨gb, 4, none⟩ = some (.bool a1_4) := (blk_cell HX.out 4).trans rfl; have hcz5 : w5.cell? ⟨gb, 5, none⟩ = some (.bool a1_5) := (blk_cell HX.out 5).trans rfl; have hcg0 : w5.cell? ⟨g, 0, none⟩ = some (.slice A4 D.length c4) := (blk_cell HG.out 0).trans rfl; have hcg1 : w5.cell? ⟨g, 1, none⟩ = some (.bool false) := (blk_cell HG.out 1).trans rfl; have hfg0 := blk_frozen HG.out 0; have hfg1 := blk_frozen HG.out 1) | (go_at_call 46; (with_reducible refine (api_Entry_46.calls k _ _ D (tlb_Buffer_Fill.clash a1_0 a1_1 a1_2 a1_3 a1_4 a1_5) _ _ _ ?side1 ?side2 ?side3 A3.out).mono ?_); (case side1 => exact (Kd.R_reads' HR.out).2.2); (case side2 => exact (Kd.R_reads' HR.out).2.1); (case side3 => exact ⟨47, _, _, rfl, Try.func47, by kernel_rfl, rfl, fun W x y hy hW => tlb_Buffer_Fill.lit a1_0 a1_1 a1_2 a1_3 a1_4 a1_5 gb x W ((hW.cell (World.block_lt_of_cell? _ _ hcz0)).trans hcz0) ((hW.cell (World.block_lt_of_cell? _ _ hcz1)).trans hcz1) ((hW.cell (World.block_lt_of_cell? _ _ hcz2)).trans hcz2) ((hW.cell (World.block_lt_of_cell? _ _ hcz3)).trans hcz3) ((hW.cell (World.block_lt_of_cell? _ _ hcz4)).trans hcz4) ((hW.cell (World.block_lt_of_cell? _ _ hcz5)).trans hcz5) y hy⟩); rintro e w6 ⟨rfl, hb⟩; have m1 := Aside0.mk (blk_below HX.out hb); have m2 := Aside0.mk (blk_below HG.out hb); have m3 := Aside0.mk (Kd.R_below HR.out hb); have m4 := Aside0.mk (below_step HB.out hb); clear HX HG HR HB hcz0 hcz1 hcz2 hcz3 hcz4 hcz5 hcg0 hcg1 hfg0 hfg1; have HX := m1; have HG := m2; have HR := m3; have HB := m4; clear m1 m2 m3 m4 hb; have hcz0 : w6.cell? ⟨gb, 0, none⟩ = some (.int .i64 a1_0) := (blk_cell HX.out 0).trans rfl; have hcz1 : w6.cell? ⟨gb, 1, none⟩ = some (.int .i64 a1_1) := (blk_cell HX.out 1).trans rfl; have hcz2 : w6.cell? ⟨gb, 2, none⟩ = some (.int .i64 a1_2) := (blk_cell HX.out 2).trans rfl; have hcz3 : w6.cell? ⟨gb, 3, none⟩ = some (.int .i64 a1_3) := (blk_cell HX.out 3).trans rfl; have hcz4 : w6.cell? ⟨gb, 4, none⟩ = some (.bool a1_4) := (blk_cell HX.out 4).trans rfl; have hcz5 : w6.cell? ⟨gb, 5, none⟩ = some (.bool a1_5) := (blk_cell HX.out 5).trans rfl; have hcg0 : w6.cell? ⟨g, 0, none⟩ = some (.slice A4 D.length c4) := (blk_cell HG.out 0).trans rfl; have hcg1 : w6.cell? ⟨g, 1, none⟩ = some (.bool false) := (blk_cell HG.out 1).trans rfl; have hfg0 := blk_frozen HG.out 0; have hfg1 := blk_frozen HG.out 1))
            have hne : gb ≠ g := blk_ne HX.out HG.out (by decide)
            have hg0 := IsS84.ge HI.out
            have m1 := Aside0.mk (show (w6.setCell ⟨g, 1, none⟩ (.bool q)).heap[g]? = some (.cells #[.slice A4 D.length c4, .bool q] 84 (0, 0)) from blk_put HG.out 1 _ rfl)
            have m2 := Aside0.mk (blk_far HX.out (p := ⟨g, 1, none⟩) hne (.bool q))
            have m3 := Aside0.mk (Kd.R_mono (Kd.R_far (p := ⟨g, 1, none⟩) (Kd.R_types HR.out HG.out (by decide)) (fun _ hk => hk.2) (.bool q)) (fun _ _ => trivial : ∀ k, _ → (fun _ : Nat => True) k))
            have m4 := Aside0.mk (below_set (j := 1) (v := .bool q) HB.out hg0)
            clear HX HG HR HB hcz0 hcz1 hcz2 hcz3 hcz4 hcz5 hcg0 hcg1 hfg0 hfg1
            have HX := m2
            have HG := m1
            have HR := m3
            have HB := m4
            clear m1 m2 m3 m4
            generalize w6.setCell ⟨g, 1, none⟩ (.bool q) = W at HX HG HR HB ⊢
            have hcz0 : W.cell? ⟨gb, 0, none⟩ = some (.int .i64 a1_0) := (blk_cell HX.out 0).trans rfl
            have hcz1 : W.cell? ⟨gb, 1, none⟩ = some (.int .i64 a1_1) := (blk_cell HX.out 1).trans rfl
            have hcz2 : W.cell? ⟨gb, 2, none⟩ = some (.int .i64 a1_2) := (blk_cell HX.out 2).trans rfl
            have hcz3 : W.cell? ⟨gb, 3, none⟩ = some (.int .i64 a1_3) := (blk_cell HX.out 3).trans rfl
            have hcz4 : W.cell? ⟨gb, 4, none⟩ = some (.bool a1_4) := (blk_cell HX.out 4).trans rfl
            have hcz5 : W.cell? ⟨gb, 5, none⟩ = some (.bool a1_5) := (blk_cell HX.out 5).trans rfl
            have hcg0 : W.cell? ⟨g, 0, none⟩ = some (.slice A4 D.length c4) := (blk_cell HG.out 0).trans rfl
            have hcg1 : W.cell? ⟨g, 1, none⟩ = some (.bool q) := (blk_cell HG.out 1).trans rfl
            have hfg0 := blk_frozen HG.out 0
            have hfg1 := blk_frozen HG.out 1
            have hcb0 : (W.alloc (Obj.cells #[.int .i64 a1_0, .int .i64 a1_1, .int .i64 a1_2, .int .i64 a1_3, .bool a1_4, .bool a1_5] 48)).cell? ⟨g, 0, none⟩ = some (.slice A4 D.length c4) := (World.cell?_alloc_lt _ _ _ (World.block_lt_of_cell? W _ hcg0)).trans hcg0
            go_region_law (first | (refine Kd.R_append_step k48 (w0 := w0) (W := W.drew) w0.heap.size (by rfl) (.tmp 52) (.tmp 54) 49 48 (.agg #[(.int .i64 0), (.int .i64 0), (.int .i64 0), (.int .i64 0), (.bool false), (.bool false)]) 40 rfl Try.underlying49 infoE rfl (by decide) (by omega) (.slice A4 D.length c4) D (⟨a1_0, a1_1, a1_2, a1_3, a1_4, a1_5⟩ : S48) [.int .i64 a1_0, .int .i64 a1_1, .int .i64 a1_2, .int .i64 a1_3, .bool a1_4, .bool a1_5] (fun _ => True) (fun _ => False) (by first | rfl | (simp [Act.eval, Act.put]; done)) (by first | rfl | (simp [Act.eval, Act.put]; done)) ?aP (fun _ hk => hk.elim) ?aF ?aO ?aB ?aS ?aL ?_; (case aP => exact k48_mkM _ _ _ (⟨a1_0, a1_1, a1_2, a1_3, a1_4, a1_5⟩ : S48)); (case aF => exact fun _ _ => trivial); (case aO => exact Kd.R_drew HR.out); (case aB => exact below_drew HB.out); (case aS => exact HB.out.size); (case aL => have := LM.out; have := HD.out; omega); intro v5 w5 ho hb hgr hat; (obtain ⟨A5, c5, hv5⟩ := Kd.R_slice ho); rw [List.length_append, List.length_singleton] at hv5; subst hv5; have hn5 := Kd.R_ne HR.out HG.out (by decide); have m1 := Aside0.mk (blk_grown (blk_drew HG.out) hgr hn5); have HO5 := Aside0.mk ho; have HB5 := Aside0.mk hb; have hcg5 : w5.cell? ⟨g, 0, none⟩ = some (.slice A4 D.length c4) := (blk_cell m1.out 0).trans rfl; have hfg5 := blk_frozen m1.out 0; have HG5 := m1; clear m1 ho hb hgr hat hn5))
            all_goals go_wp2
            all_goals go_ret
            all_goals (have hg0 := IsS84.ge HI.out; exact ⟨rfl, ⟨_, blk_put HG5.out 0 _ rfl, hg0, Kd.R_mono (Kd.R_far (p := ⟨g, 0, none⟩) (Kd.R_types HO5.out HG5.out (by decide)) (fun _ hk => hk.2) _) (fun _ _ => trivial : ∀ k, _ → (fun _ : Nat => True) k)⟩, below_set (j := 0) HB5.out hg0, trivial⟩)
        · have c64b0 : ((s0_0.length : Int) == 64) = false := beq_eq_false_iff_ne.mpr (by omega)
          have ec : tlb_Buffer_Fill.cut s0_0 = s0_0 := if_neg c64
          rw [ec] at h
          clear ec c64
          cases s0_1 with
          | true =>
            rw [if_pos rfl] at h
            simp only [Option.some.injEq, Prod.mk.injEq] at h
            obtain ⟨rfl, rfl, rfl⟩ := h
            go_enter Try.func22, Try.ntmps22
            go_wp2_with (first | ((with_reducible refine gate_dst (N := 3) rfl ?_); refine box_event ?hg (N := 3) ?hd (cs := #[.int .i64 a1_0, .int .i64 a1_1, .int .i64 a1_2, .int .i64 a1_3, .bool a1_4, .bool a1_5]) (t := 48) ?hr ?_; (case hd => rfl); (case hg => rfl); (case hr => first | (go_simp; done) | (go_simp; rfl)); intro gb hg w1 hbox hb; have m2 := Aside0.mk (blk_below HG.out hb); have m3 := Aside0.mk (Kd.R_below HR.out hb); have m4 := Aside0.mk (below_step HB.out hb); clear HG HR HB; have HX := Aside0.mk hbox; have HG := m2; have HR := m3; have HB := m4; clear m2 m3 m4 hb hbox hg; have hcz0 : w1.cell? ⟨gb, 0, none⟩ = some (.int .i64 a1_0) := (blk_cell HX.out 0).trans rfl; have hcz1 : w1.cell? ⟨gb, 1, none⟩ = some (.int .i64 a1_1) := (blk_cell HX.out 1).trans rfl; have hcz2 : w1.cell? ⟨gb, 2, none⟩ = some (.int .i64 a1_2) := (blk_cell HX.out 2).trans rfl; have hcz3 : w1.cell? ⟨gb, 3, none⟩ = some (.int .i64 a1_3) := (blk_cell HX.out 3).trans rfl; have hcz4 : w1.cell? ⟨gb, 4, none⟩ = some (.bool a1_4) := (blk_cell HX.out 4).trans rfl; have hcz5 : w1.cell? ⟨gb, 5, none⟩ = some (.bool a1_5) := (blk_cell HX.out 5).trans rfl; have hcg0 : w1.cell? ⟨g, 0, none⟩ = some (.slice A0 s0_0.length c0) := (blk_cell HG.out 0).trans rfl; have hcg1 : w1.cell? ⟨g, 1, none⟩ = some (.bool true) := (blk_cell HG.out 1).trans rfl; have hfg0 := blk_frozen HG.out 0; have hfg1 := blk_frozen HG.out 1) | (go_at_call 43; (with_reducible refine (tlb_may.calls k a1_0 a1_1 a1_2 a1_3 a1_4 a1_5 _ _ A1.out).mono ?_); rintro e w2 ⟨rfl, hb⟩; have m1 := Aside0.mk (blk_below HX.out hb); have m2 := Aside0.mk (blk_below HG.out hb); have m3 := Aside0.mk (Kd.R_below HR.out hb); have m4 := Aside0.mk (below_step HB.out hb); clear HX HG HR HB hcz0 hcz1 hcz2 hcz3 hcz4 hcz5 hcg0 hcg1 hfg0 hfg1; have HX := m1; have HG := m2; have HR := m3; have HB := m4; clear m1 m2 m3 m4 hb; have hcz0 : w2.cell? ⟨gb, 0, none⟩ = some (.int .i64 a1_0) := (blk_cell HX.out 0).trans rfl; have hcz1 : w2.cell? ⟨gb, 1, none⟩ = some (.int .i64 a1_1) := (blk_cell HX.out 1).trans rfl; have hcz2 : w2.cell? ⟨gb, 2, none⟩ = some (.int .i64 a1_2) := (blk_cell HX.out 2).trans rfl; have hcz3 : w2.cell? ⟨gb, 3, none⟩ = some (.int .i64 a1_3) := (blk_cell HX.out 3).trans rfl; have hcz4 : w2.cell? ⟨gb, 4, none⟩ = some (.bool a1_4) := (blk_cell HX.out 4).trans rfl; have hcz5 : w2.cell? ⟨gb, 5, none⟩ = some (.bool a1_5) := (blk_cell HX.out 5).trans rfl; have hcg0 : w2.cell? ⟨g, 0, none⟩ = some (.slice A0 s0_0.length c0) := (blk_cell HG.out 0).trans rfl; have hcg1 : w2.cell? ⟨g, 1, none⟩ = some (.bool true) := (blk_cell HG.out 1).trans rfl; have hfg0 := blk_frozen HG.out 0; have hfg1 := blk_frozen HG.out 1))
            go_still_tail 5, (by kernel_rfl)
            change wpList _ _ _ _ _ w2.drew
            have hb : Below w2.heap.size w2 w2.drew := below_drew (Below.refl _ _)
            generalize w2.drew = wd at hb ⊢
            have m1 := Aside0.mk (blk_below HX.out hb)
            have m2 := Aside0.mk (blk_below HG.out hb)
            have m3 := Aside0.mk (Kd.R_below HR.out hb)
            have m4 := Aside0.mk (below_step HB.out hb)
            clear HX HG HR HB hcz0 hcz1 hcz2 hcz3 hcz4 hcz5 hcg0 hcg1 hfg0 hfg1
            have HX := m1
            have HG := m2
            have HR := m3
            have HB := m4
            clear m1 m2 m3 m4 hb
            have hcz0 : wd.cell? ⟨gb, 0, none⟩ = some (.int .i64 a1_0) := (blk_cell HX.out 0).trans rfl
            have hcz1 : wd.cell? ⟨gb, 1, none⟩ = some (.int .i64 a1_1) := (blk_cell HX.out 1).trans rfl
            have hcz2 : wd.cell? ⟨gb, 2, none⟩ = some (.int .i64 a1_2) := (blk_cell HX.out 2).trans rfl
            have hcz3 : wd.cell? ⟨gb, 3, none⟩ = some (.int .i64 a1_3) := (blk_cell HX.out 3).trans rfl
            have hcz4 : wd.cell? ⟨gb, 4, none⟩ = some (.bool a1_4) := (blk_cell HX.out 4).trans rfl
            have hcz5 : wd.cell? ⟨gb, 5, none⟩ = some (.bool a1_5) := (blk_cell HX.out 5).trans rfl
            have hcg0 : wd.cell? ⟨g, 0, none⟩ = some (.slice A0 s0_0.length c0) := (blk_cell HG.out 0).trans rfl
            have hcg1 : wd.cell? ⟨g, 1, none⟩ = some (.bool true) := (blk_cell HG.out 1).trans rfl
            have hfg0 := blk_frozen HG.out 0
            have hfg1 := blk_frozen HG.out 1
            go_wp2_with (first | (go_at_call 44; (with_reducible refine (api_Entry_44.calls k _ _ s0_0 a1_0 a1_1 a1_2 a1_3 a1_4 a1_5 _ _ ?side1 ?side2 A2.out).mono ?_); (case side1 => exact (Kd.R_reads' HR.out).2.2); (case side2 => exact (Kd.R_reads' HR.out).2.1); rintro e w3 ⟨rfl, hb⟩; have m1 := Aside0.mk (blk_below HX.out hb); have m2 := Aside0.mk (blk_below HG.out hb); have m3 := Aside0.mk (Kd.R_below HR.out hb); have m4 := Aside0.mk (below_step HB.out hb); clear HX HG HR HB hcz0 hcz1 hcz2 hcz3 hcz4 hcz5 hcg0 hcg1 hfg0 hfg1; have HX := m1; have HG := m2; have HR := m3; have HB := m4; clear m1 m2 m3 m4 hb; have hcz0 : w3.cell? ⟨gb, 0, none⟩ = some (.int .i64 a1_0) := (blk_cell HX.out 0).trans rfl; have hcz1 : w3.cell? ⟨gb, 1, none⟩ = some (.int .i64 a1_1) := (blk_cell HX.out 1).trans rfl; have hcz2 : w3.cell? ⟨gb, 2, none⟩ = some (.int .i64 a1_2) := (blk_cell HX.out 2).trans rfl; have hcz3 : w3.cell? ⟨gb, 3, none⟩ = some (.int .i64 a1_3) := (blk_cell HX.out 3).trans rfl; have hcz4 : w3.cell? ⟨gb, 4, none⟩ = some (.bool a1_4) := (blk_cell HX.out 4).trans rfl; have hcz5 : w3.cell? ⟨gb, 5, none⟩ = some (.bool a1_5) := (blk_cell HX.out 5).trans rfl; have hcg0 : w3.cell? ⟨g, 0, none⟩ = some (.slice A0 s0_0.length c0) := (blk_cell HG.out 0).trans rfl; have hcg1 : w3.cell? ⟨g, 1, none⟩ = some (.bool true) := (blk_cell HG.out 1).trans rfl; have hfg0 := blk_frozen HG.out 0; have hfg1 := blk_frozen HG.out 1))
            have hne : gb ≠ g := blk_ne HX.out HG.out (by decide)
            have hg0 := IsS84.ge HI.out
            have m1 := Aside0.mk (show (w3.setCell ⟨g, 1, none⟩ (.bool true)).heap[g]? = some (.cells #[.slice A0 s0_0.length c0, .bool true] 84 (0, 0)) from blk_put HG.out 1 _ rfl)
            have m2 := Aside0.mk (blk_far HX.out (p := ⟨g, 1, none⟩) hne (.bool true))
            have m3 := Aside0.mk (Kd.R_mono (Kd.R_far (p := ⟨g, 1, none⟩) (Kd.R_types HR.out HG.out (by decide)) (fun _ hk => hk.2) (.bool true)) (fun _ _ => trivial : ∀ k, _ → (fun _ : Nat => True) k))
            have m4 := Aside0.mk (below_set (j := 1) (v := .bool true) HB.out hg0)
            clear HX HG HR HB hcz0 hcz1 hcz2 hcz3 hcz4 hcz5 hcg0 hcg1 hfg0 hfg1
            have HX := m2
            have HG := m1
            have HR := m3
            have HB := m4
            clear m1 m2 m3 m4
            generalize w3.setCell ⟨g, 1, none⟩ (.bool true) = W at HX HG HR HB ⊢
            have hcz0 : W.cell? ⟨gb, 0, none⟩ = some (.int .i64 a1_0) := (blk_cell HX.out 0).trans rfl
            have hcz1 : W.cell? ⟨gb, 1, none⟩ = some (.int .i64 a1_1) := (blk_cell HX.out 1).trans rfl
            have hcz2 : W.cell? ⟨gb, 2, none⟩ = some (.int .i64 a1_2) := (blk_cell HX.out 2).trans rfl
            have hcz3 : W.cell? ⟨gb, 3, none⟩ = some (.int .i64 a1_3) := (blk_cell HX.out 3).trans rfl
            have hcz4 : W.cell? ⟨gb, 4, none⟩ = some (.bool a1_4) := (blk_cell HX.out 4).trans rfl
            have hcz5 : W.cell? ⟨gb, 5, none⟩ = some (.bool a1_5) := (blk_cell HX.out 5).trans rfl
            have hcg0 : W.cell? ⟨g, 0, none⟩ = some (.slice A0 s0_0.length c0) := (blk_cell HG.out 0).trans rfl
            have hcg1 : W.cell? ⟨g, 1, none⟩ = some (.bool true) := (blk_cell HG.out 1).trans rfl
            have hfg0 := blk_frozen HG.out 0
            have hfg1 := blk_frozen HG.out 1
            have hcb0 : (W.alloc (Obj.cells #[.int .i64 a1_0, .int .i64 a1_1, .int .i64 a1_2, .int .i64 a1_3, .bool a1_4, .bool a1_5] 48)).cell? ⟨g, 0, none⟩ = some (.slice A0 s0_0.length c0) := (World.cell?_alloc_lt _ _ _ (World.block_lt_of_cell? W _ hcg0)).trans hcg0
            go_region_law (first | (refine Kd.R_append_step k48 (w0 := w0) (W := W.drew) w0.heap.size (by rfl) (.tmp 52) (.tmp 54) 49 48 (.agg #[(.int .i64 0), (.int .i64 0), (.int .i64 0), (.int .i64 0), (.bool false), (.bool false)]) 40 rfl Try.underlying49 infoE rfl (by decide) (by omega) (.slice A0 s0_0.length c0) s0_0 (⟨a1_0, a1_1, a1_2, a1_3, a1_4, a1_5⟩ : S48) [.int .i64 a1_0, .int .i64 a1_1, .int .i64 a1_2, .int .i64 a1_3, .bool a1_4, .bool a1_5] (fun _ => True) (fun _ => False) (by first | rfl | (simp [Act.eval, Act.put]; done)) (by first | rfl | (simp [Act.eval, Act.put]; done)) ?aP (fun _ hk => hk.elim) ?aF ?aO ?aB ?aS ?aL ?_; (case aP => exact k48_mkM _ _ _ (⟨a1_0, a1_1, a1_2, a1_3, a1_4, a1_5⟩ : S48)); (case aF => exact fun _ _ => trivial); (case aO => exact Kd.R_drew HR.out); (case aB => exact below_drew HB.out); (case aS => exact HB.out.size); (case aL => have := LM.out; omega); intro v5 w5 ho hb hgr hat; (obtain ⟨A5, c5, hv5⟩ := Kd.R_slice ho); rw [List.length_append, List.length_singleton] at hv5; subst hv5; have hn5 := Kd.R_ne HR.out HG.out (by decide); have m1 := Aside0.mk (blk_grown (blk_drew HG.out) hgr hn5); have HO5 := Aside0.mk ho; have HB5 := Aside0.mk hb; have hcg5 : w5.cell? ⟨g, 0, none⟩ = some (.slice A0 s0_0.length c0) := (blk_cell m1.out 0).trans rfl; have hfg5 := blk_frozen m1.out 0; have HG5 := m1; clear m1 ho hb hgr hat hn5))
            all_goals go_wp2
            all_goals go_ret
            all_goals (have hg0 := IsS84.ge HI.out; exact ⟨rfl, ⟨_, blk_put HG5.out 0 _ rfl, hg0, Kd.R_mono (Kd.R_far (p := ⟨g, 0, none⟩) (Kd.R_types HO5.out HG5.out (by decide)) (fun _ hk => hk.2) _) (fun _ _ => trivial : ∀ k, _ → (fun _ : Nat => True) k)⟩, below_set (j := 0) HB5.out hg0, trivial⟩)
          | false =>
            rw [if_neg Bool.false_ne_true] at h
            replace h := Option.bind_eq_some_iff.mp h
            obtain ⟨q, A30, h⟩ := h
            have A3 := Aside0.mk A30
            clear A30
            simp only [Option.some.injEq, Prod.mk.injEq] at h
            obtain ⟨rfl, rfl, rfl⟩ := h
            go_enter Try.func22, Try.ntmps22
            go_wp2_with (first | ((with_reducible refine gate_dst (N := 3) rfl ?_); refine box_event ?hg (N := 3) ?hd (cs := #[.int .i64 a1_0, .int .i64 a1_1, .int .i64 a1_2, .int .i64 a1_3, .bool a1_4, .bool a1_5]) (t := 48) ?hr ?_; (case hd => rfl); (case hg => rfl); (case hr => first | (go_simp; done) | (go_simp; rfl)); intro gb hg w1 hbox hb; have m2 := Aside0.mk (blk_below HG.out hb); have m3 := Aside0.mk (Kd.R_below HR.out hb); have m4 := Aside0.mk (below_step HB.out hb); clear HG HR HB; have HX := Aside0.mk hbox; have HG := m2; have HR := m3; have HB := m4; clear m2 m3 m4 hb hbox hg; have hcz0 : w1.cell? ⟨gb, 0, none⟩ = some (.int .i64 a1_0) := (blk_cell HX.out 0).trans rfl; have hcz1 : w1.cell? ⟨gb, 1, none⟩ = some (.int .i64 a1_1) := (blk_cell HX.out 1).trans rfl; have hcz2 : w1.cell? ⟨gb, 2, none⟩ = some (.int .i64 a1_2) := (blk_cell HX.out 2).trans rfl; have hcz3 : w1.cell? ⟨gb, 3, none⟩ = some (.int .i64 a1_3) := (blk_cell HX.out 3).trans rfl; have hcz4 : w1.cell? ⟨gb, 4, none⟩ = some (.bool a1_4) := (blk_cell HX.out 4).trans rfl; have hcz5 : w1.cell? ⟨gb, 5, none⟩ = some (.bool a1_5) := (blk_cell HX.out 5).trans rfl; have hcg0 : w1.cell? ⟨g, 0, none⟩ = some (.slice A0 s0_0.length c0) := (blk_cell HG.out 0).trans rfl; have hcg1 : w1.cell? ⟨g, 1, none⟩ = some (.bool false) := (blk_cell HG.out 1).trans rfl; have hfg0 := blk_frozen HG.out 0; have hfg1 := blk_frozen HG.out 1) | (go_at_call 43; (with_reducible refine (tlb_may.calls k a1_0 a1_1 a1_2 a1_3 a1_4 a1_5 _ _ A1.out).mono ?_); rintro e w2 ⟨rfl, hb⟩; have m1 := Aside0.mk (blk_below HX.out hb); have m2 := Aside0.mk (blk_below HG.out hb); have m3 := Aside0.mk (Kd.R_below HR.out hb); have m4 := Aside0.mk (below_step HB.out hb); clear HX HG HR HB hcz0 hcz1 hcz2 hcz3 hcz4 hcz5 hcg0 hcg1 hfg0 hfg1; have HX := m1; have HG := m2; have HR := m3; have HB := m4; clear m1 m2 m3 m4 hb; have hcz0 : w2.cell? ⟨gb, 0, none⟩ = some (.int .i64 a1_0) := (blk_cell HX.out 0).trans rfl; have hcz1 : w2.cell? ⟨gb, 1, none⟩ = some (.int .i64 a1_1) := (blk_cell HX.out 1).trans rfl; have hcz2 : w2.cell? ⟨gb, 2, none⟩ = some (.int .i64 a1_2) := (blk_cell HX.out 2).trans rfl; have hcz3 : w2.cell? ⟨gb, 3, none⟩ = some (.int .i64 a1_3) := (blk_cell HX.out 3).trans rfl; have hcz4 : w2.cell? ⟨gb, 4, none⟩ = some (.bool a1_4) := (blk_cell HX.out 4).trans rfl; have hcz5 : w2.cell? ⟨gb, 5, none⟩ = some (.bool a1_5) := (blk_cell HX.out 5).trans rfl; have hcg0 : w2.cell? ⟨g, 0, none⟩ = some (.slice A0 s0_0.length c0) := (blk_cell HG.out 0).trans rfl; have hcg1 : w2.cell? ⟨g, 1, none⟩ = some (.bool false) := (blk_cell HG.out 1).trans rfl; have hfg0 := blk_frozen HG.out 0; have hfg1 := blk_frozen HG.out 1))
            go_still_tail 5, (by kernel_rfl)
            change wpList _ _ _ _ _ w2.drew
            have hb : Below w2.heap.size w2 w2.drew := below_drew (Below.refl _ _)
            generalize w2.drew = wd at hb ⊢
            have m1 := Aside0.mk (blk_below HX.out hb)
            have m2 := Aside0.mk (blk_below HG.out hb)
            have m3 := Aside0.mk (Kd.R_below HR.out hb)
            have m4 := Aside0.mk (below_step HB.out hb)
            clear HX HG HR HB hcz0 hcz1 hcz2 hcz3 hcz4 hcz5 hcg0 hcg1 hfg0 hfg1
            have HX := m1
            have HG := m2
            have HR := m3
            have HB := m4
            clear m1 m2 m3 m4 hb
            have hcz0 : wd.cell? ⟨gb, 0, none⟩ = some (.int .i64 a1_0) := (blk_cell HX.out 0).trans rfl
            have hcz1 : wd.cell? ⟨gb, 1, none⟩ = some (.int .i64 a1_1) := (blk_cell HX.out 1).trans rfl
            have hcz2 : wd.cell? ⟨gb, 2, none⟩ = some (.int .i64 a1_2) := (blk_cell HX.out 2).trans rfl
            have hcz3 : wd.cell? ⟨gb, 3, none⟩ = some (.int .i64 a1_3) := (blk_cell HX.out 3).trans rfl
            have hcz4 : wd.cell? ⟨gb, 4, none⟩ = some (.bool a1_4) := (blk_cell HX.out 4).trans rfl
            have hcz5 : wd.cell? ⟨gb, 5, none⟩ = some (.bool a1_5) := (blk_cell HX.out 5).trans rfl
            have hcg0 : wd.cell? ⟨g, 0, none⟩ = some (.slice A0 s0_0.length c0) := (blk_cell HG.out 0).trans rfl
            have hcg1 : wd.cell? ⟨g, 1, none⟩ = some (.bool false) := (blk_cell HG.out 1).trans rfl
            have hfg0 := blk_frozen HG.out 0
            have hfg1 := blk_frozen HG.out 1
            go_wp2_with (first | (go_at_call 44; (with_reducible refine (api_Entry_44.calls k _ _ s0_0 a1_0 a1_1 a1_2 a1_3 a1_4 a1_5 _ _ ?side1 ?side2 A2.out).mono ?_); (case side1 => exact (Kd.R_reads' HR.out).2.2); (case side2 => exact (Kd.R_reads' HR.out).2.1); rintro e w3 ⟨rfl, hb⟩; have m1 := Aside0.mk (blk_below HX.out hb); have m2 := Aside0.mk (blk_below HG.out hb); have m3 := Aside0.mk (Kd.R_below HR.out hb); have m4 := Aside0.mk (below_step HB.out hb); clear HX HG HR HB hcz0 hcz1 hcz2 hcz3 hcz4 hcz5 hcg0 hcg1 hfg0 hfg1; have HX := m1; have HG := m2; have HR := m3; have HB := m4; clear m1 m2 m3 m4 hb; have hcz0 : w3.cell? ⟨gb, 0, none⟩ = some (.int .i64 a1_0) := (blk_cell HX.out 0).trans rfl; have hcz1 : w3.cell? ⟨gb, 1, none⟩ = some (.int .i64 a1_1) := (blk_cell HX.out 1).trans rfl; have hcz2 : w3.cell? ⟨gb, 2, none⟩ = some (.int .i64 a1_2) := (blk_cell HX.out 2).trans rfl; have hcz3 : w3.cell? ⟨gb, 3, none⟩ = some (.int .i64 a1_3) := (blk_cell HX.out 3).trans rfl; have hcz4 : w3.cell? ⟨gb, 4, none⟩ = some (.bool a1_4) := (blk_cell HX.out 4).trans rfl; have hcz5 : w3.cell? ⟨gb, 5, none⟩ = some (.bool a1_5) := (blk_cell HX.out 5).trans rfl; have hcg0 : w3.cell? ⟨g, 0, none⟩ = some (.slice A0 s0_0.length c0) := (blk_cell HG.out 0).trans rfl; have hcg1 : w3.cell? ⟨g, 1, none⟩ = some (.bool false) := (blk_cell HG.out 1).trans rfl; have hfg0 := blk_frozen HG.out 0; have hfg1 := blk_frozen HG.out 1) | (go_at_call 46; (with_reducible refine (api_Entry_46.calls k _ _ s0_0 (tlb_Buffer_Fill.clash a1_0 a1_1 a1_2 a1_3 a1_4 a1_5) _ _ _ ?side1 ?side2 ?side3 A3.out).mono ?_); (case side1 => exact (Kd.R_reads' HR.out).2.2); (case side2 => exact (Kd.R_reads' HR.out).2.1); (case side3 => exact ⟨47, _, _, rfl, Try.func47, by kernel_rfl, rfl, fun W x y hy hW => tlb_Buffer_Fill.lit a1_0 a1_1 a1_2 a1_3 a1_4 a1_5 gb x W ((hW.cell (World.block_lt_of_cell? _ _ hcz0)).trans hcz0) ((hW.cell (World.block_lt_of_cell? _ _ hcz1)).trans hcz1) ((hW.cell (World.block_lt_of_cell? _ _ hcz2)).trans hcz2) ((hW.cell (World.block_lt_of_cell? _ _ hcz3)).trans hcz3) ((hW.cell (World.block_lt_of_cell? _ _ hcz4)).trans hcz4) ((hW.cell (World.block_lt_of_cell? _ _ hcz5)).trans hcz5) y hy⟩); rintro e w6 ⟨rfl, hb⟩; have m1 := Aside0.mk (blk_below HX.out hb); have m2 := Aside0.mk (blk_below HG.out hb); have m3 := Aside0.mk (Kd.R_below HR.out hb); have m4 := Aside0.mk (below_step HB.out hb); clear HX HG HR HB hcz0 hcz1 hcz2 hcz3 hcz4 hcz5 hcg0 hcg1 hfg0 hfg1; have HX := m1; have HG := m2; have HR := m3; have HB := m4; clear m1 m2 m3 m4 hb; have hcz0 : w6.cell? ⟨gb, 0, none⟩ = some (.int .i64 a1_0) := (blk_cell HX.out 0).trans rfl; have hcz1 : w6.cell? ⟨gb, 1, none⟩ = some (.int .i64 a1_1) := (blk_cell HX.out 1).trans rfl; have hcz2 : w6.cell? ⟨gb, 2, none⟩ = some (.int .i64 a1_2) := (blk_cell HX.out 2).trans rfl; have hcz3 : w6.cell? ⟨gb, 3, none⟩ = some (.int .i64 a1_3) := (blk_cell HX.out 3).trans rfl; have hcz4 : w6.cell? ⟨gb, 4, none⟩ = some (.bool a1_4) := (blk_cell HX.out 4).trans rfl; have hcz5 : w6.cell? ⟨gb, 5, none⟩ = some (.bool a1_5) := (blk_cell HX.out 5).trans rfl; have hcg0 : w6.cell? ⟨g, 0, none⟩ = some (.slice A0 s0_0.length c0) := (blk_cell HG.out 0).trans rfl; have hcg1 : w6.cell? ⟨g, 1, none⟩ = some (.bool false) := (blk_cell HG.out 1).trans rfl; have hfg0 := blk_frozen HG.out 0; have hfg1 := blk_frozen HG.out 1))
            have hne : gb ≠ g := blk_ne HX.out HG.out (by decide)
            have hg0 := IsS84.ge HI.out
            have m1 := Aside0.mk (show (w6.setCell ⟨g, 1, none⟩ (.bool q)).heap[g]? = some (.cells #[.slice A0 s0_0.length c0, .bool q] 84 (0, 0)) from blk_put HG.out 1 _ rfl)
            have m2 := Aside0.mk (blk_far HX.out (p := ⟨g, 1, none⟩) hne (.bool q))
            have m3 := Aside0.mk (Kd.R_mono (Kd.R_far (p := ⟨g, 1, none⟩) (Kd.R_types HR.out HG.out (by decide)) (fun _ hk => hk.2) (.bool q)) (fun _ _ => trivial : ∀ k, _ → (fun _ : Nat => True) k))
            have m4 := Aside0.mk (below_set (j := 1) (v := .bool q) HB.out hg0)
            clear HX HG HR HB hcz0 hcz1 hcz2 hcz3 hcz4 hcz5 hcg0 hcg1 hfg0 hfg1
            have HX := m2
            have HG := m1
            have HR := m3
            have HB := m4
            clear m1 m2 m3 m4
            generalize w6.setCell ⟨g, 1, none⟩ (.bool q) = W at HX HG HR HB ⊢
            have hcz0 : W.cell? ⟨gb, 0, none⟩ = some (.int .i64 a1_0) := (blk_cell HX.out 0).trans rfl
            have hcz1 : W.cell? ⟨gb, 1, none⟩ = some (.int .i64 a1_1) := (blk_cell HX.out 1).trans rfl
            have hcz2 : W.cell? ⟨gb, 2, none⟩ = some (.int .i64 a1_2) := (blk_cell HX.out 2).trans rfl
            have hcz3 : W.cell? ⟨gb, 3, none⟩ = some (.int .i64 a1_3) := (blk_cell HX.out 3).trans rfl
            have hcz4 : W.cell? ⟨gb, 4, none⟩ = some (.bool a1_4) := (blk_cell HX.out 4).trans rfl
            have hcz5 : W.cell? ⟨gb, 5, none⟩ = some (.bool a1_5) := (blk_cell HX.out 5).trans rfl
            have hcg0 : W.cell? ⟨g, 0, none⟩ = some (.slice A0 s0_0.length c0) := (blk_cell HG.out 0).trans rfl
            have hcg1 : W.cell? ⟨g, 1, none⟩ = some (.bool q) := (blk_cell HG.out 1).trans rfl
            have hfg0 := blk_frozen HG.out 0
            have hfg1 := blk_frozen HG.out 1
            have hcb0 : (W.alloc (Obj.cells #[.int .i64 a1_0, .int .i64 a1_1, .int .i64 a1_2, .int .i64 a1_3, .bool a1_4, .bool a1_5] 48)).cell? ⟨g, 0, none⟩ = some (.slice A0 s0_0.length c0) := (World.cell?_alloc_lt _ _ _ (World.block_lt_of_cell? W _ hcg0)).trans hcg0
            go_region_law (first | (refine Kd.R_append_step k48 (w0 := w0) (W := W.drew) w0.heap.size (by rfl) (.tmp 52) (.tmp 54) 49 48 (.agg #[(.int .i64 0), (.int .i64 0), (.int .i64 0), (.int .i64 0), (.bool false), (.bool false)]) 40 rfl Try.underlying49 infoE rfl (by decide) (by omega) (.slice A0 s0_0.length c0) s0_0 (⟨a1_0, a1_1, a1_2, a1_3, a1_4, a1_5⟩ : S48) [.int .i64 a1_0, .int .i64 a1_1, .int .i64 a1_2, .int .i64 a1_3, .bool a1_4, .bool a1_5] (fun _ => True) (fun _ => False) (by first | rfl | (simp [Act.eval, Act.put]; done)) (by first | rfl | (simp [Act.eval, Act.put]; done)) ?aP (fun _ hk => hk.elim) ?aF ?aO ?aB ?aS ?aL ?_; (case aP => exact k48_mkM _ _ _ (⟨a1_0, a1_1, a1_2, a1_3, a1_4, a1_5⟩ : S48)); (case aF => exact fun _ _ => trivial); (case aO => exact Kd.R_drew HR.out); (case aB => exact below_drew HB.out); (case aS => exact HB.out.size); (case aL => have := LM.out; omega); intro v5 w5 ho hb hgr hat; (obtain ⟨A5, c5, hv5⟩ := Kd.R_slice ho); rw [List.length_append, List.length_singleton] at hv5; subst hv5; have hn5 := Kd.R_ne HR.out HG.out (by decide); have m1 := Aside0.mk (blk_grown (blk_drew HG.out) hgr hn5); have HO5 := Aside0.mk ho; have HB5 := Aside0.mk hb; have hcg5 : w5.cell? ⟨g, 0, none⟩ = some (.slice A0 s0_0.length c0) := (blk_cell m1.out 0).trans rfl; have hfg5 := blk_frozen m1.out 0; have HG5 := m1; clear m1 ho hb hgr hat hn5))
            all_goals go_wp2
            all_goals go_ret
            all_goals (have hg0 := IsS84.ge HI.out; exact ⟨rfl, ⟨_, blk_put HG5.out 0 _ rfl, hg0, Kd.R_mono (Kd.R_far (p := ⟨g, 0, none⟩) (Kd.R_types HO5.out HG5.out (by decide)) (fun _ hk => hk.2) _) (fun _ _ => trivial : ∀ k, _ → (fun _ : Nat => True) k)⟩, below_set (j := 0) HB5.out hg0, trivial⟩)
  · rw [if_neg c1] at h
    cases h


end Go.Proofs.Ytlmjjkggoemabaa.Qt
