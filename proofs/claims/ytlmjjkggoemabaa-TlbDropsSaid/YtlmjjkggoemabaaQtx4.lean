-- Written by this session's program wip/tools/xprint.py (the kit's printer, turned by it); not the kit's own print.
import Derived.Test.YtlmjjkggoemabaaQtx0
import Derived.Test.YtlmjjkggoemabaaQtx3
namespace Go.Proofs.Ytlmjjkggoemabaa.Qt
open Go.RowKit Go.Proofs.YtlmjjkggoemabaaW.PrintWords Go.Proofs.YtlmjjkggoemabaaW.PrintLast Go.Proofs.YtlmjjkggoemabaaW.PrintMore
attribute [local go_sem] max2_int min2_int max_two min_two max_three min_three max_four min_four   -- for this text's walks alone
set_option linter.unusedVariables false
set_option linter.unusedSimpArgs false

attribute [local go_sem high] eqErr_some neErr_some eqErr_left neErr_left
/-! ### api_Entry_53: function 53 -/
def api_Entry_53.l0 : Nat → List (S48) → (S48 → Option Bool) → Int → Int → Option (Int)
  | 0, _, _, _, _ => none
  | k + 1, x0, x1, x7, x8 => if x8 < x7 then (if 0 ≤ x8 then (if x8 < (x0.length : Int) then ((ap53.f ((rd_T48 x0 x8).f0) ((rd_T48 x0 x8).f1) ((rd_T48 x0 x8).f2) ((rd_T48 x0 x8).f3) ((rd_T48 x0 x8).f4) ((rd_T48 x0 x8).f5) x1).bind fun t118 => (if t118 = true then (some x8) else (api_Entry_53.l0 k x0 x1 x7 (wrap64 (x8 + 1))))) else (none)) else (none)) else (some (-1))
def api_Entry_53.f (k : Nat) (l0 : List (S48)) (a1 : (S48 → Option Bool)) : Option (Int) := api_Entry_53.l0 k l0 a1 (l0.length : Int) 0
theorem api_Entry_53.mono_l : ∀ k, (∀ y0 y1 y2 y3, LeO (api_Entry_53.l0 k y0 y1 y2 y3) (api_Entry_53.l0 (k + 1) y0 y1 y2 y3))
  | 0 => fun _ _ _ _ r h => by simp [api_Entry_53.l0] at h
  | k + 1 => by
    have ih0 := api_Entry_53.mono_l k
    · intro y0 y1 y2 y3
      unfold api_Entry_53.l0
      repeat' first
      | (with_reducible exact ih0 _ _ _ _)
      | (with_reducible exact LeO.refl _)
      | (with_reducible exact LeO.none _)
      | (with_reducible refine LeO.ite ?_ ?_)
      | (with_reducible refine LeO.bind ?_ (fun _ => ?_))
      | exact ih0 _ _ _ _
      | exact LeO.none _
      | refine LeO.ite ?_ ?_
      | refine LeO.bind ?_ (fun _ => ?_)
theorem api_Entry_53.mono : ∀ a0 a1 k, LeO (api_Entry_53.f k a0 a1) (api_Entry_53.f (k + 1) a0 a1) := by
  intro a0 a1 k
  have ih0 := api_Entry_53.mono_l k
  unfold api_Entry_53.f
  repeat' first
      | (with_reducible exact ih0 _ _ _ _)
      | (with_reducible exact LeO.refl _)
      | (with_reducible exact LeO.none _)
      | (with_reducible refine LeO.ite ?_ ?_)
      | (with_reducible refine LeO.bind ?_ (fun _ => ?_))
      | exact ih0 _ _ _ _
      | exact LeO.none _
      | refine LeO.ite ?_ ?_
      | refine LeO.bind ?_ (fun _ => ?_)
set_option maxHeartbeats 8000000 in
set_option maxRecDepth 100000 in
theorem api_Entry_53.calls (k : Nat) (A0 : Option Addr) (c0 : Nat) (l0 : List (S48)) (a1 : (S48 → Option Bool)) (vF_ : Value) (r : Int) (w : World) (hr0 : Kd.C k48 w A0 l0.length l0) (hc0 : l0.length ≤ c0) (hF : HFn.FnOfO Try.prog eF53 rF53 a1 vF_ w) (h : api_Entry_53.f k l0 a1 = some r) :
    Calls Try.prog 53 #[.slice A0 l0.length c0, vF_] w fun e w' => e = .returned (.int .i64 r) ∧ Below w.heap.size w w' := by
  have hu48 := Try.underlying48
  have HR0 := Aside0.mk hr0
  have HC0 := Aside0.mk hc0
  clear hr0 hc0
  have HB := Aside0.mk (Below.refl w.heap.size w)
  have hFW := Aside0.mk hF
  obtain ⟨gF_, fnF_, lbF_, rfl, hfnF, hnmF, hbdF, hFF0⟩ := hF
  have hFF := Aside0.mk hFF0
  clear hFF0
  have H : (api_Entry_53.l0 k l0 a1 (l0.length : Int) 0) = some r := h
  clear h
  have H' := Aside0.mk H
  clear H
  go_enter Try.func53, Try.ntmps53
  go_wp2
  go_loopg [8] k (fun kq v8 w' => ∃ (x8_1 : Int), v8 = .int .i64 x8_1 ∧ Aside0 (api_Entry_53.l0 kq l0 a1 (l0.length : Int) x8_1 = some r) ∧ Aside0 (kq ≤ k) ∧ Aside0 (Below w.heap.size w w'))
  case atStart => exact ⟨(0), (by first | rfl | (simp; done) | (simp [*]; done)), H', ⟨Nat.le_refl _⟩, ⟨by repeat (first | (with_reducible first | exact HB.out | apply below_alloc | apply pw_below_drewN | apply below_drew1) | exact HB.out)⟩⟩
  case round =>
    clear H'
    try clear p2
    obtain ⟨x8_1, rfl, HA, HK1, HB⟩ := hrel
    cases gk with
    | zero => exact absurd HA.out (by simp [api_Entry_53.l0])
    | succ k1 =>
      have H := HA.out
      clear HA
      simp only [api_Entry_53.l0] at H
      by_cases c3 : x8_1 < (l0.length : Int)
      · rw [if_pos c3] at H
        have c3b0 : decide (x8_1 < (l0.length : Int)) = true := decide_eq_true c3
        clear c3
        by_cases c4 : 0 ≤ x8_1
        · rw [if_pos c4] at H
          have c4b0 : decide (0 ≤ x8_1) = true := decide_eq_true c4
          clear c4
          by_cases c5 : x8_1 < (l0.length : Int)
          · rw [if_pos c5] at H
            have c5b0 : decide (x8_1 < (l0.length : Int)) = true := decide_eq_true c5
            clear c5
            replace H := Option.bind_eq_some_iff.mp H
            obtain ⟨t118, A60, H⟩ := H
            replace H : (if t118 = true then (some x8_1) else (api_Entry_53.l0 k1 l0 a1 (l0.length : Int) (wrap64 (x8_1 + 1)))) = some r := H
            have A6 := Aside0.mk A60
            clear A60
            by_cases c7 : t118 = true
            · subst c7
              have H1 : (some x8_1) = some r := by rw [if_pos rfl] at H; exact H
              clear H
              have H := H1
              clear H1
              obtain rfl := Option.some.inj H
              have p117 : 0 ≤ (x8_1 : Int) := of_decide_eq_true (by first | (with_reducible assumption) | assumption)
              have q117 : x8_1 < (l0.length : Int) := of_decide_eq_true (by first | (with_reducible assumption) | assumption)
              obtain ⟨ad117, e117, hx117_0, hx117_1, hx117_2, hx117_3, hx117_4, hx117_5⟩ := at_T48 HR0.out x8_1 p117 q117
              cases e117
              replace hx117_0 := (HB.out.cell (World.block_lt_of_cell? w _ hx117_0)).trans hx117_0
              replace hx117_1 := (HB.out.cell (World.block_lt_of_cell? w _ hx117_1)).trans hx117_1
              replace hx117_2 := (HB.out.cell (World.block_lt_of_cell? w _ hx117_2)).trans hx117_2
              replace hx117_3 := (HB.out.cell (World.block_lt_of_cell? w _ hx117_3)).trans hx117_3
              replace hx117_4 := (HB.out.cell (World.block_lt_of_cell? w _ hx117_4)).trans hx117_4
              replace hx117_5 := (HB.out.cell (World.block_lt_of_cell? w _ hx117_5)).trans hx117_5
              replace p117 := eq_true p117
              replace q117 := eq_true q117
              go_wp2_with (first | ((with_reducible refine HFn.gate_calleeT (f := 1000053) (t := 11) rfl ?_); refine HFn.goesC_ (some 16) rfl rfl hfnF hnmF hbdF #[.agg #[.int .i64 ((rd_T48 l0 x8_1).f0), .int .i64 ((rd_T48 l0 x8_1).f1), .int .i64 ((rd_T48 l0 x8_1).f2), .int .i64 ((rd_T48 l0 x8_1).f3), .bool ((rd_T48 l0 x8_1).f4), .bool ((rd_T48 l0 x8_1).f5)]] rfl (by first | rfl | simp [Act.eval]) (by (try simp only [List.map_toArray, List.map_cons, List.map_nil]); first | done | rfl | (simp only [List.length_drop, List.length_take]; rfl)) ?_; (with_reducible refine (ap53.calls (w0 := w) ((rd_T48 l0 x8_1).f0) ((rd_T48 l0 x8_1).f1) ((rd_T48 l0 x8_1).f2) ((rd_T48 l0 x8_1).f3) ((rd_T48 l0 x8_1).f4) ((rd_T48 l0 x8_1).f5) a1 true _ ?side1 ?side2 A6.out).mono ?_); (case side1 => exact hFF.out); (case side2 => exact (by repeat (first | (with_reducible first | exact HB.out | apply below_alloc | apply pw_below_drewN | apply below_drew1) | exact HB.out))); rintro e w8 ⟨rfl, hb⟩; refine ⟨_, rfl, ?_⟩; have n0_ := Aside0.mk (below_step (by repeat (first | (with_reducible first | exact HB.out | apply below_alloc | apply pw_below_drewN | apply below_drew1) | exact HB.out)) hb); clear HB; have HB := n0_; clear n0_; (try clear hb); (try clear hb2); (try clear hk); (try clear hi)))
              go_ret
              exact ⟨by first | rfl | (simp [errW_none, errW_some] <;> rfl) | (simp [*, errW_none, errW_some] <;> rfl), by repeat (first | (with_reducible first | exact HB.out | apply below_alloc | apply pw_below_drewN | apply below_drew1) | exact HB.out)⟩
            · replace c7 := Bool.eq_false_iff.mpr c7
              subst c7
              have H1 : (api_Entry_53.l0 k1 l0 a1 (l0.length : Int) (wrap64 (x8_1 + 1))) = some r := by rw [if_neg (show ¬ (false = true) by decide)] at H; exact H
              clear H
              have H := H1
              clear H1
              have H' := Aside0.mk H
              clear H
              have p117 : 0 ≤ (x8_1 : Int) := of_decide_eq_true (by first | (with_reducible assumption) | assumption)
              have q117 : x8_1 < (l0.length : Int) := of_decide_eq_true (by first | (with_reducible assumption) | assumption)
              obtain ⟨ad117, e117, hx117_0, hx117_1, hx117_2, hx117_3, hx117_4, hx117_5⟩ := at_T48 HR0.out x8_1 p117 q117
              cases e117
              replace hx117_0 := (HB.out.cell (World.block_lt_of_cell? w _ hx117_0)).trans hx117_0
              replace hx117_1 := (HB.out.cell (World.block_lt_of_cell? w _ hx117_1)).trans hx117_1
              replace hx117_2 := (HB.out.cell (World.block_lt_of_cell? w _ hx117_2)).trans hx117_2
              replace hx117_3 := (HB.out.cell (World.block_lt_of_cell? w _ hx117_3)).trans hx117_3
              replace hx117_4 := (HB.out.cell (World.block_lt_of_cell? w _ hx117_4)).trans hx117_4
              replace hx117_5 := (HB.out.cell (World.block_lt_of_cell? w _ hx117_5)).trans hx117_5
              replace p117 := eq_true p117
              replace q117 := eq_true q117
              go_wp2_with (first | ((with_reducible refine HFn.gate_calleeT (f := 1000053) (t := 11) rfl ?_); refine HFn.goesC_ (some 16) rfl rfl hfnF hnmF hbdF #[.agg #[.int .i64 ((rd_T48 l0 x8_1).f0), .int .i64 ((rd_T48 l0 x8_1).f1), .int .i64 ((rd_T48 l0 x8_1).f2), .int .i64 ((rd_T48 l0 x8_1).f3), .bool ((rd_T48 l0 x8_1).f4), .bool ((rd_T48 l0 x8_1).f5)]] rfl (by first | rfl | simp [Act.eval]) (by (try simp only [List.map_toArray, List.map_cons, List.map_nil]); first | done | rfl | (simp only [List.length_drop, List.length_take]; rfl)) ?_; (with_reducible refine (ap53.calls (w0 := w) ((rd_T48 l0 x8_1).f0) ((rd_T48 l0 x8_1).f1) ((rd_T48 l0 x8_1).f2) ((rd_T48 l0 x8_1).f3) ((rd_T48 l0 x8_1).f4) ((rd_T48 l0 x8_1).f5) a1 false _ ?side1 ?side2 A6.out).mono ?_); (case side1 => exact hFF.out); (case side2 => exact (by repeat (first | (with_reducible first | exact HB.out | apply below_alloc | apply pw_below_drewN | apply below_drew1) | exact HB.out))); rintro e w9 ⟨rfl, hb⟩; refine ⟨_, rfl, ?_⟩; have n0_ := Aside0.mk (below_step (by repeat (first | (with_reducible first | exact HB.out | apply below_alloc | apply pw_below_drewN | apply below_drew1) | exact HB.out)) hb); clear HB; have HB := n0_; clear n0_; (try clear hb); (try clear hb2); (try clear hk); (try clear hi)))
              go_roundg k1
              case measure => have := HK1.out; omega
              case rel => exact ⟨(wrap64 (x8_1 + 1)), (by first | rfl | (simp; done) | (simp [*]; done)), H', ⟨by have := HK1.out; omega⟩, ⟨by repeat (first | (with_reducible first | exact HB.out | apply below_alloc | apply pw_below_drewN | apply below_drew1) | exact HB.out)⟩⟩
          · rw [if_neg c5] at H
            exact absurd H (by simp)
        · rw [if_neg c4] at H
          exact absurd H (by simp)
      · rw [if_neg c3] at H
        have c3b0 : decide (x8_1 < (l0.length : Int)) = false := decide_eq_false c3
        clear c3
        obtain rfl := Option.some.inj H
        go_wp2
        go_ret
        exact ⟨by first | rfl | (simp [errW_none, errW_some] <;> rfl) | (simp [*, errW_none, errW_some] <;> rfl), by repeat (first | (with_reducible first | exact HB.out | apply below_alloc | apply pw_below_drewN | apply below_drew1) | exact HB.out)⟩

/-! ### api_Entry_46: function 46 -/
def api_Entry_46.f (k : Nat) (l0 : List (S48)) (a1 : (S48 → Option Bool)) : Option (Bool) := (api_Entry_53.f k l0 a1).bind fun t119 => (some (decide (t119 ≥ 0)))
theorem api_Entry_46.mono : ∀ a0 a1 k, LeO (api_Entry_46.f k a0 a1) (api_Entry_46.f (k + 1) a0 a1) := by
  intro a0 a1 k
  unfold api_Entry_46.f
  repeat' first
      | (with_reducible exact api_Entry_53.mono _ _ _)
      | (with_reducible exact LeO.refl _)
      | (with_reducible exact LeO.none _)
      | (with_reducible refine LeO.ite ?_ ?_)
      | (with_reducible refine LeO.bind ?_ (fun _ => ?_))
      | exact api_Entry_53.mono _ _ _
      | exact LeO.none _
      | refine LeO.ite ?_ ?_
      | refine LeO.bind ?_ (fun _ => ?_)
set_option maxHeartbeats 8000000 in
set_option maxRecDepth 100000 in
theorem api_Entry_46.calls (k : Nat) (A0 : Option Addr) (c0 : Nat) (l0 : List (S48)) (a1 : (S48 → Option Bool)) (vF_ : Value) (r : Bool) (w : World) (hr0 : Kd.C k48 w A0 l0.length l0) (hc0 : l0.length ≤ c0) (hF : HFn.FnOfO Try.prog eF53 rF53 a1 vF_ w) (h : api_Entry_46.f k l0 a1 = some r) :
    Calls Try.prog 46 #[.slice A0 l0.length c0, vF_] w fun e w' => e = .returned (.bool r) ∧ Below w.heap.size w w' := by
  have HR0 := Aside0.mk hr0
  have HC0 := Aside0.mk hc0
  clear hr0 hc0
  have HB := Aside0.mk (Below.refl w.heap.size w)
  have hFW := Aside0.mk hF
  obtain ⟨gF_, fnF_, lbF_, rfl, hfnF, hnmF, hbdF, hFF0⟩ := hF
  have hFF := Aside0.mk hFF0
  clear hFF0
  have H : ((api_Entry_53.f k l0 a1).bind fun t119 => (some (decide (t119 ≥ 0)))) = some r := h
  clear h
  replace H := Option.bind_eq_some_iff.mp H
  obtain ⟨t119, A30, H⟩ := H
  replace H : (some (decide (t119 ≥ 0))) = some r := H
  have A3 := Aside0.mk A30
  clear A30
  obtain rfl := Option.some.inj H
  go_enter Try.func46, Try.ntmps46
  go_wp2_with (first | ((with_reducible refine gate_callee (f := 53) rfl ?_); refine goesL_ (some 7) rfl rfl Try.func53 (by kernel_rfl) rfl #[.slice A0 l0.length c0, .func (.func gF_) #[] lbF_] rfl (by (try simp only [List.map_toArray, List.map_cons, List.map_nil]); first | done | rfl | (simp only [List.length_drop, List.length_take]; rfl)) ?_; (with_reducible refine (api_Entry_53.calls k _ _ l0 a1 _ t119 _ ?side1 ?side2 ?side3 A3.out).mono ?_); (case side1 => repeat (first | exact HR0.out | (with_reducible refine Kd.C_alloc ?_ _) | (with_reducible refine Kd.C_drewN ?_ _) | (with_reducible refine Kd.C_drew ?_))); (case side2 => exact HC0.out); (case side3 => exact HFn.FnOfO.below hFW.out (by repeat (first | (with_reducible first | exact HB.out | apply below_alloc | apply pw_below_drewN | apply below_drew1) | exact HB.out))); rintro e w4 ⟨rfl, hb⟩; refine ⟨_, rfl, ?_⟩; have n0_ := Aside0.mk (below_step (by repeat (first | (with_reducible first | exact HB.out | apply below_alloc | apply pw_below_drewN | apply below_drew1) | exact HB.out)) hb); clear HB; have HB := n0_; clear n0_; (try clear hb); (try clear hb2); (try clear hk); (try clear hi)))
  go_ret
  exact ⟨by first | rfl | (simp [errW_none, errW_some] <;> rfl) | (simp [*, errW_none, errW_some] <;> rfl), by repeat (first | (with_reducible first | exact HB.out | apply below_alloc | apply pw_below_drewN | apply below_drew1) | exact HB.out)⟩

end Go.Proofs.Ytlmjjkggoemabaa.Qt
