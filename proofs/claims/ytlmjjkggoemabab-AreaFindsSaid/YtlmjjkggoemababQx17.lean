-- Written by this session's program wip/tools/xprint.py (the kit's printer, turned by it); not the kit's own print.
import Derived.Test.YtlmjjkggoemababQx0
import Derived.Test.YtlmjjkggoemababQx5
namespace Go.Proofs.Ytlmjjkggoemabab.Q
open Go.RowKit Go.Proofs.YtlmjjkggoemababW.PrintWords Go.Proofs.YtlmjjkggoemababW.PrintLast Go.Proofs.YtlmjjkggoemababW.PrintMore
attribute [local go_sem] max2_int min2_int max_two min_two max_three min_three max_four min_four   -- for this text's walks alone
set_option linter.unusedVariables false
set_option linter.unusedSimpArgs false

attribute [local go_sem high] eqErr_some neErr_some eqErr_left neErr_left
/-! ### ap71: function 1000071 -/
def eF71 (x : S32) : Value := .agg #[.int .i64 x.f0, .int .i64 x.f1, .bool x.f2.f0, .bool x.f2.f1, .bool x.f3]
def rF71 (x : Bool) : Value := .bool x
def ap71.f (a0_0 : Int) (a0_1 : Int) (a0_2_0 : Bool) (a0_2_1 : Bool) (a0_3 : Bool) (a1 : (S32 → Bool)) : Option (Bool) := some ((a1 (⟨a0_0, a0_1, (⟨a0_2_0, a0_2_1⟩ : S30), a0_3⟩ : S32)))
theorem ap71.calls {g : Nat} {lb : Array Value} {w0 : World} (a0_0 : Int) (a0_1 : Int) (a0_2_0 : Bool) (a0_2_1 : Bool) (a0_3 : Bool) (a1 : (S32 → Bool)) (r : Bool) (w : World) (hF : ∀ W x, Below w0.heap.size w0 W → Calls Try.prog g (#[eF71 x] ++ lb) W (fun e W' => e = .returned (rF71 (a1 x)) ∧ Below W.heap.size W W')) (hB : Below w0.heap.size w0 w) (h : ap71.f a0_0 a0_1 a0_2_0 a0_2_1 a0_3 a1 = some r) :
    Calls Try.prog g (#[.agg #[.int .i64 a0_0, .int .i64 a0_1, .bool a0_2_0, .bool a0_2_1, .bool a0_3]] ++ lb) w fun e w' => e = .returned (.bool r) ∧ Below w.heap.size w w' := by
  refine (hF w (⟨a0_0, a0_1, (⟨a0_2_0, a0_2_1⟩ : S30), a0_3⟩ : S32) hB).mono ?_
  rintro e w' ⟨rfl, hb⟩
  obtain rfl := Option.some.inj h
  exact ⟨rfl, hb⟩

/-! ### api_Area_40: function 40 -/
def api_Area_40.l0 : Nat → List (S32) → (S32 → Bool) → Int → Int → Option (Int)
  | 0, _, _, _, _ => none
  | k + 1, x0, x1, x7, x8 => if x8 < x7 then (if 0 ≤ x8 then (if x8 < (x0.length : Int) then ((ap71.f ((rd_T32 x0 x8).f0) ((rd_T32 x0 x8).f1) ((rd_T32 x0 x8).f2.f0) ((rd_T32 x0 x8).f2.f1) ((rd_T32 x0 x8).f3) x1).bind fun t353 => (if t353 = true then (some x8) else (api_Area_40.l0 k x0 x1 x7 (wrap64 (x8 + 1))))) else (none)) else (none)) else (some (-1))
def api_Area_40.f (k : Nat) (l0 : List (S32)) (a1 : (S32 → Bool)) : Option (Int) := api_Area_40.l0 k l0 a1 (l0.length : Int) 0
theorem api_Area_40.mono_l : ∀ k, (∀ y0 y1 y2 y3, LeO (api_Area_40.l0 k y0 y1 y2 y3) (api_Area_40.l0 (k + 1) y0 y1 y2 y3))
  | 0 => fun _ _ _ _ r h => by simp [api_Area_40.l0] at h
  | k + 1 => by
    have ih0 := api_Area_40.mono_l k
    · intro y0 y1 y2 y3
      unfold api_Area_40.l0
      repeat' first
      | (with_reducible exact ih0 _ _ _ _)
      | (with_reducible exact LeO.refl _)
      | (with_reducible exact LeO.none _)
      | (with_reducible refine LeO.ite ?_ ?_)
      | (with_reducible refine LeO.bind ?_ (fun _ => ?_))
      | exact ih0 _ _ _ _
      | exact LeO.none _
      | refine LeO.ite ?_ ?_
      | refine LeO.bind ?_ (fun _ => ?_)
theorem api_Area_40.mono : ∀ a0 a1 k, LeO (api_Area_40.f k a0 a1) (api_Area_40.f (k + 1) a0 a1) := by
  intro a0 a1 k
  have ih0 := api_Area_40.mono_l k
  unfold api_Area_40.f
  repeat' first
      | (with_reducible exact ih0 _ _ _ _)
      | (with_reducible exact LeO.refl _)
      | (with_reducible exact LeO.none _)
      | (with_reducible refine LeO.ite ?_ ?_)
      | (with_reducible refine LeO.bind ?_ (fun _ => ?_))
      | exact ih0 _ _ _ _
      | exact LeO.none _
      | refine LeO.ite ?_ ?_
      | refine LeO.bind ?_ (fun _ => ?_)
set_option maxHeartbeats 8000000 in
set_option maxRecDepth 100000 in
theorem api_Area_40.calls (k : Nat) (A0 : Option Addr) (c0 : Nat) (l0 : List (S32)) (a1 : (S32 → Bool)) (vF_ : Value) (r : Int) (w : World) (hr0 : Kd.C k32 w A0 l0.length l0) (hc0 : l0.length ≤ c0) (hF : HFn.FnOf Try.prog eF71 rF71 a1 vF_ w) (h : api_Area_40.f k l0 a1 = some r) :
    Calls Try.prog 40 #[.slice A0 l0.length c0, vF_] w fun e w' => e = .returned (.int .i64 r) ∧ Below w.heap.size w w' := by
  have hu32 := Try.underlying32
  have HR0 := Aside0.mk hr0
  have HC0 := Aside0.mk hc0
  clear hr0 hc0
  have HB := Aside0.mk (Below.refl w.heap.size w)
  obtain ⟨gF_, fnF_, lbF_, rfl, hfnF, hnmF, hbdF, hFF0⟩ := hF
  have hFF := Aside0.mk hFF0
  clear hFF0
  have H : (api_Area_40.l0 k l0 a1 (l0.length : Int) 0) = some r := h
  clear h
  have H' := Aside0.mk H
  clear H
  go_enter Try.func40, Try.ntmps40
  go_wp2
  go_loopg [8] k (fun kq v8 w' => ∃ (x8_1 : Int), v8 = .int .i64 x8_1 ∧ Aside0 (api_Area_40.l0 kq l0 a1 (l0.length : Int) x8_1 = some r) ∧ Aside0 (kq ≤ k) ∧ Aside0 (Below w.heap.size w w'))
  case atStart => exact ⟨(0), (by first | rfl | (simp; done) | (simp [*]; done)), H', ⟨Nat.le_refl _⟩, ⟨by repeat (first | (with_reducible first | exact HB.out | apply below_alloc | apply pw_below_drewN | apply below_drew1) | exact HB.out)⟩⟩
  case round =>
    clear H'
    try clear p2
    obtain ⟨x8_1, rfl, HA, HK1, HB⟩ := hrel
    cases gk with
    | zero => exact absurd HA.out (by simp [api_Area_40.l0])
    | succ k1 =>
      have H := HA.out
      clear HA
      simp only [api_Area_40.l0] at H
      by_cases c3 : x8_1 < (l0.length : Int)
      · rw [if_pos c3] at H
        have c3b0 : decide (x8_1 < (l0.length : Int)) = true := decide_eq_true c3
        clear c3
        by_cases c4 : 0 ≤ x8_1
        · rw [if_pos c4] at H
          have c4b0 : decide (0 ≤ x8_1) = true := decide_eq_true c4
          clear c4
          by_cases c5 : x8_1 < (l0.length : Int)
          · rw [if_pos c5] at H
            have c5b0 : decide (x8_1 < (l0.length : Int)) = true := decide_eq_true c5
            clear c5
            replace H := Option.bind_eq_some_iff.mp H
            obtain ⟨t353, A60, H⟩ := H
            replace H : (if t353 = true then (some x8_1) else (api_Area_40.l0 k1 l0 a1 (l0.length : Int) (wrap64 (x8_1 + 1)))) = some r := H
            have A6 := Aside0.mk A60
            clear A60
            by_cases c7 : t353 = true
            · subst c7
              have H1 : (some x8_1) = some r := by rw [if_pos rfl] at H; exact H
              clear H
              have H := H1
              clear H1
              obtain rfl := Option.some.inj H
              have p352 : 0 ≤ (x8_1 : Int) := of_decide_eq_true (by first | (with_reducible assumption) | assumption)
              have q352 : x8_1 < (l0.length : Int) := of_decide_eq_true (by first | (with_reducible assumption) | assumption)
              obtain ⟨ad352, e352, hx352_0, hx352_1, hx352_2, hx352_3, hx352_4⟩ := at_T32 HR0.out x8_1 p352 q352
              cases e352
              replace hx352_0 := (HB.out.cell (World.block_lt_of_cell? w _ hx352_0)).trans hx352_0
              replace hx352_1 := (HB.out.cell (World.block_lt_of_cell? w _ hx352_1)).trans hx352_1
              replace hx352_2 := (HB.out.cell (World.block_lt_of_cell? w _ hx352_2)).trans hx352_2
              replace hx352_3 := (HB.out.cell (World.block_lt_of_cell? w _ hx352_3)).trans hx352_3
              replace hx352_4 := (HB.out.cell (World.block_lt_of_cell? w _ hx352_4)).trans hx352_4
              replace p352 := eq_true p352
              replace q352 := eq_true q352
              go_wp2_with (first | ((with_reducible refine HFn.gate_calleeT (f := 1000071) (t := 11) rfl ?_); refine HFn.goesC_ (some 16) rfl rfl hfnF hnmF hbdF #[.agg #[.int .i64 ((rd_T32 l0 x8_1).f0), .int .i64 ((rd_T32 l0 x8_1).f1), .bool ((rd_T32 l0 x8_1).f2.f0), .bool ((rd_T32 l0 x8_1).f2.f1), .bool ((rd_T32 l0 x8_1).f3)]] rfl (by first | rfl | simp [Act.eval]) (by (try simp only [List.map_toArray, List.map_cons, List.map_nil]); first | done | rfl | (simp only [List.length_drop, List.length_take]; rfl)) ?_; (with_reducible refine (ap71.calls (w0 := w) ((rd_T32 l0 x8_1).f0) ((rd_T32 l0 x8_1).f1) ((rd_T32 l0 x8_1).f2.f0) ((rd_T32 l0 x8_1).f2.f1) ((rd_T32 l0 x8_1).f3) a1 true _ ?side1 ?side2 A6.out).mono ?_); (case side1 => exact hFF.out); (case side2 => exact (by repeat (first | (with_reducible first | exact HB.out | apply below_alloc | apply pw_below_drewN | apply below_drew1) | exact HB.out))); rintro e w8 ⟨rfl, hb⟩; refine ⟨_, rfl, ?_⟩; have n0_ := Aside0.mk (below_step (by repeat (first | (with_reducible first | exact HB.out | apply below_alloc | apply pw_below_drewN | apply below_drew1) | exact HB.out)) hb); clear HB; have HB := n0_; clear n0_; (try clear hb); (try clear hb2); (try clear hk); (try clear hi)))
              go_ret
              exact ⟨by first | rfl | (simp [errW_none, errW_some] <;> rfl) | (simp [*, errW_none, errW_some] <;> rfl), by repeat (first | (with_reducible first | exact HB.out | apply below_alloc | apply pw_below_drewN | apply below_drew1) | exact HB.out)⟩
            · replace c7 := Bool.eq_false_iff.mpr c7
              subst c7
              have H1 : (api_Area_40.l0 k1 l0 a1 (l0.length : Int) (wrap64 (x8_1 + 1))) = some r := by rw [if_neg (show ¬ (false = true) by decide)] at H; exact H
              clear H
              have H := H1
              clear H1
              have H' := Aside0.mk H
              clear H
              have p352 : 0 ≤ (x8_1 : Int) := of_decide_eq_true (by first | (with_reducible assumption) | assumption)
              have q352 : x8_1 < (l0.length : Int) := of_decide_eq_true (by first | (with_reducible assumption) | assumption)
              obtain ⟨ad352, e352, hx352_0, hx352_1, hx352_2, hx352_3, hx352_4⟩ := at_T32 HR0.out x8_1 p352 q352
              cases e352
              replace hx352_0 := (HB.out.cell (World.block_lt_of_cell? w _ hx352_0)).trans hx352_0
              replace hx352_1 := (HB.out.cell (World.block_lt_of_cell? w _ hx352_1)).trans hx352_1
              replace hx352_2 := (HB.out.cell (World.block_lt_of_cell? w _ hx352_2)).trans hx352_2
              replace hx352_3 := (HB.out.cell (World.block_lt_of_cell? w _ hx352_3)).trans hx352_3
              replace hx352_4 := (HB.out.cell (World.block_lt_of_cell? w _ hx352_4)).trans hx352_4
              replace p352 := eq_true p352
              replace q352 := eq_true q352
              go_wp2_with (first | ((with_reducible refine HFn.gate_calleeT (f := 1000071) (t := 11) rfl ?_); refine HFn.goesC_ (some 16) rfl rfl hfnF hnmF hbdF #[.agg #[.int .i64 ((rd_T32 l0 x8_1).f0), .int .i64 ((rd_T32 l0 x8_1).f1), .bool ((rd_T32 l0 x8_1).f2.f0), .bool ((rd_T32 l0 x8_1).f2.f1), .bool ((rd_T32 l0 x8_1).f3)]] rfl (by first | rfl | simp [Act.eval]) (by (try simp only [List.map_toArray, List.map_cons, List.map_nil]); first | done | rfl | (simp only [List.length_drop, List.length_take]; rfl)) ?_; (with_reducible refine (ap71.calls (w0 := w) ((rd_T32 l0 x8_1).f0) ((rd_T32 l0 x8_1).f1) ((rd_T32 l0 x8_1).f2.f0) ((rd_T32 l0 x8_1).f2.f1) ((rd_T32 l0 x8_1).f3) a1 false _ ?side1 ?side2 A6.out).mono ?_); (case side1 => exact hFF.out); (case side2 => exact (by repeat (first | (with_reducible first | exact HB.out | apply below_alloc | apply pw_below_drewN | apply below_drew1) | exact HB.out))); rintro e w9 ⟨rfl, hb⟩; refine ⟨_, rfl, ?_⟩; have n0_ := Aside0.mk (below_step (by repeat (first | (with_reducible first | exact HB.out | apply below_alloc | apply pw_below_drewN | apply below_drew1) | exact HB.out)) hb); clear HB; have HB := n0_; clear n0_; (try clear hb); (try clear hb2); (try clear hk); (try clear hi)))
              go_roundg k1
              case measure => have := HK1.out; omega
              case rel => exact ⟨(wrap64 (x8_1 + 1)), (by first | rfl | (simp; done) | (simp [*]; done)), H', ⟨by have := HK1.out; omega⟩, ⟨by repeat (first | (with_reducible first | exact HB.out | apply below_alloc | apply pw_below_drewN | apply below_drew1) | exact HB.out)⟩⟩
          · rw [if_neg c5] at H
            exact absurd H (by simp)
        · rw [if_neg c4] at H
          exact absurd H (by simp)
      · rw [if_neg c3] at H
        have c3b0 : decide (x8_1 < (l0.length : Int)) = false := decide_eq_false c3
        clear c3
        obtain rfl := Option.some.inj H
        go_wp2
        go_ret
        exact ⟨by first | rfl | (simp [errW_none, errW_some] <;> rfl) | (simp [*, errW_none, errW_some] <;> rfl), by repeat (first | (with_reducible first | exact HB.out | apply below_alloc | apply pw_below_drewN | apply below_drew1) | exact HB.out)⟩

/-! ### area_find: function 34 -/
def area_find.has (p : Int) (x : S32) : Bool := decide (x.f0 ≤ p) && decide (p < x.f1)
def area_find.f (k : Nat) (l0 : List (S32)) (a1 : Int) : Option Int := api_Area_40.f k l0 (area_find.has a1)
theorem area_find.mono : ∀ a0 a1 k, LeO (area_find.f k a0 a1) (area_find.f (k + 1) a0 a1) := fun a0 a1 k => api_Area_40.mono a0 (area_find.has a1) k
set_option maxHeartbeats 4000000 in
theorem area_find.lit (p : Int) (B : Nat) (x : S32) (W : World) (hc : W.cell? ⟨B, 0, none⟩ = some (.int .i64 p)) :
    Calls Try.prog 41 #[eF71 x, .pointer (some ⟨B, 0, none⟩)] W fun e W' => e = .returned (rF71 (area_find.has p x)) ∧ Below W.heap.size W W' := by
  obtain ⟨x0, x1, ⟨x2, x3⟩, x4⟩ := x
  unfold eF71 rF71 area_find.has
  dsimp only
  by_cases c : x0 ≤ p
  · have c1 : decide (x0 ≤ p) = true := decide_eq_true c
    rw [c1, Bool.true_and]
    clear c
    go_enter Try.func41, Try.ntmps41
    go_wp2_with (first | ((with_reducible refine gate_dst (N := 2) rfl ?_); refine box_event ?hg (N := 2) ?hd (cs := #[.int .i64 x0, .int .i64 x1, .bool x2, .bool x3, .bool x4]) (t := 32) ?hr ?_; (case hd => rfl); (case hg => rfl); (case hr => first | (go_simp; done) | (go_simp; rfl)); intro gb hg w1 hbox hb; have HB := Aside0.mk hb; have hcz0 : w1.cell? ⟨gb, 0, none⟩ = some (.int .i64 x0) := (blk_cell hbox 0).trans rfl; have hcz1 : w1.cell? ⟨gb, 1, none⟩ = some (.int .i64 x1) := (blk_cell hbox 1).trans rfl; have hp := (hb.cell (World.block_lt_of_cell? W _ hc)).trans hc; clear hb hbox hg hc))
    go_ret
    exact ⟨rfl, HB.out⟩
  · have c1 : decide (x0 ≤ p) = false := decide_eq_false c
    rw [c1, Bool.false_and]
    clear c
    go_enter Try.func41, Try.ntmps41
    go_wp2_with (first | ((with_reducible refine gate_dst (N := 2) rfl ?_); refine box_event ?hg (N := 2) ?hd (cs := #[.int .i64 x0, .int .i64 x1, .bool x2, .bool x3, .bool x4]) (t := 32) ?hr ?_; (case hd => rfl); (case hg => rfl); (case hr => first | (go_simp; done) | (go_simp; rfl)); intro gb hg w1 hbox hb; have HB := Aside0.mk hb; have hcz0 : w1.cell? ⟨gb, 0, none⟩ = some (.int .i64 x0) := (blk_cell hbox 0).trans rfl; have hcz1 : w1.cell? ⟨gb, 1, none⟩ = some (.int .i64 x1) := (blk_cell hbox 1).trans rfl; have hp := (hb.cell (World.block_lt_of_cell? W _ hc)).trans hc; clear hb hbox hg hc))
    go_ret
    exact ⟨rfl, HB.out⟩
set_option maxHeartbeats 4000000 in
theorem area_find.calls (k : Nat) (A0 : Option Addr) (c0 : Nat) (l0 : List (S32)) (a1 : Int) (r : Int) (w : World) (hr0 : Kd.C k32 w A0 l0.length l0) (hc0 : l0.length ≤ c0) (h : area_find.f k l0 a1 = some r) :
    Calls Try.prog 34 #[.slice A0 l0.length c0, .int .i64 a1] w fun e w' => e = .returned (.int .i64 r) ∧ Below w.heap.size w w' := by
  have H := Aside0.mk (show api_Area_40.f k l0 (area_find.has a1) = some r from h)
  clear h
  have HR := Aside0.mk hr0
  have HC := Aside0.mk hc0
  clear hr0 hc0
  go_enter Try.func34, Try.ntmps34
  go_wp2_with (first | ((with_reducible refine gate_dst (N := 3) rfl ?_); refine box_event ?hg (N := 3) ?hd (cs := #[.int .i64 a1]) (t := 3) ?hr ?_; (case hd => rfl); (case hg => rfl); (case hr => first | (go_simp; done) | (go_simp; rfl)); intro gb hg w1 hbox hb; have HB := Aside0.mk hb; have hcz0 := Aside0.mk (show w1.cell? ⟨gb, 0, none⟩ = some (.int .i64 a1) from (blk_cell hbox 0).trans rfl); clear hb hbox hg) | (go_at_call 40; (with_reducible refine (api_Area_40.calls k _ _ l0 (area_find.has a1) _ r _ ?side1 ?side2 ?side3 H.out).mono ?_); (case side1 => exact Kd.C_below HR.out HB.out); (case side2 => exact HC.out); (case side3 => exact ⟨41, _, _, rfl, Try.func41, by kernel_rfl, rfl, fun W x hW => area_find.lit a1 gb x W ((hW.cell (World.block_lt_of_cell? _ _ hcz0.out)).trans hcz0.out)⟩); rintro e w2 ⟨rfl, hb2⟩; have HB2 := Aside0.mk (below_step HB.out hb2); clear HB hb2))
  go_ret
  exact ⟨rfl, HB2.out⟩


/-! ### area_Find: function 22 -/
def area_Find.f (k : Nat) (l0 : List (S32)) (a1 : Int) : Option (Int × Int × Bool × Bool × Bool × Option Int) := (area_Check.f k l0).bind fun t355 => (if t355.isNone = true then ((area_find.f k l0 a1).bind fun t357 => (if t357 < 0 then (some (0, 0, false, false, false, some 3)) else (if 0 ≤ t357 then (if t357 < (l0.length : Int) then (some ((rd_T32 l0 t357).f0, (rd_T32 l0 t357).f1, (rd_T32 l0 t357).f2.f0, (rd_T32 l0 t357).f2.f1, (rd_T32 l0 t357).f3, none)) else (none)) else (none)))) else (some (0, 0, false, false, false, some (t355.getD 0))))
theorem area_Find.mono : ∀ a0 a1 k, LeO (area_Find.f k a0 a1) (area_Find.f (k + 1) a0 a1) := by
  intro a0 a1 k
  unfold area_Find.f
  repeat' first
      | (with_reducible exact area_Check.mono _ _)
      | (with_reducible exact area_find.mono _ _ _)
      | (with_reducible exact LeO.refl _)
      | (with_reducible exact LeO.none _)
      | (with_reducible refine LeO.ite ?_ ?_)
      | (with_reducible refine LeO.bind ?_ (fun _ => ?_))
      | exact area_Check.mono _ _
      | exact area_find.mono _ _ _
      | exact LeO.none _
      | refine LeO.ite ?_ ?_
      | refine LeO.bind ?_ (fun _ => ?_)
set_option maxHeartbeats 8000000 in
set_option maxRecDepth 100000 in
theorem area_Find.calls (k : Nat) (A0 : Option Addr) (c0 : Nat) (l0 : List (S32)) (a1 : Int) (r1 : Int) (r2 : Int) (r3 : Bool) (r4 : Bool) (r5 : Bool) (r6 : Option Int) (w : World) (hr0 : Kd.C k32 w A0 l0.length l0) (hc0 : l0.length ≤ c0) (h : area_Find.f k l0 a1 = some (r1, r2, r3, r4, r5, r6)) :
    Calls Try.prog 22 #[.slice A0 l0.length c0, .int .i64 a1] w fun e w' => e = .returned (.tuple #[.agg #[.int .i64 r1, .int .i64 r2, .bool r3, .bool r4, .bool r5], errW r6]) ∧ Below w.heap.size w w' := by
  have hu32 := Try.underlying32
  have hu25 := Try.underlying25
  have hu28 := Try.underlying28
  have HR0 := Aside0.mk hr0
  have HC0 := Aside0.mk hc0
  clear hr0 hc0
  have HB := Aside0.mk (Below.refl w.heap.size w)
  have H : ((area_Check.f k l0).bind fun t355 => (if t355.isNone = true then ((area_find.f k l0 a1).bind fun t357 => (if t357 < 0 then (some (0, 0, false, false, false, some 3)) else (if 0 ≤ t357 then (if t357 < (l0.length : Int) then (some ((rd_T32 l0 t357).f0, (rd_T32 l0 t357).f1, (rd_T32 l0 t357).f2.f0, (rd_T32 l0 t357).f2.f1, (rd_T32 l0 t357).f3, none)) else (none)) else (none)))) else (some (0, 0, false, false, false, some (t355.getD 0))))) = some (r1, r2, r3, r4, r5, r6) := h
  clear h
  replace H := Option.bind_eq_some_iff.mp H
  obtain ⟨t355, A30, H⟩ := H
  replace H : (if t355.isNone = true then ((area_find.f k l0 a1).bind fun t357 => (if t357 < 0 then (some (0, 0, false, false, false, some 3)) else (if 0 ≤ t357 then (if t357 < (l0.length : Int) then (some ((rd_T32 l0 t357).f0, (rd_T32 l0 t357).f1, (rd_T32 l0 t357).f2.f0, (rd_T32 l0 t357).f2.f1, (rd_T32 l0 t357).f3, none)) else (none)) else (none)))) else (some (0, 0, false, false, false, some (t355.getD 0)))) = some (r1, r2, r3, r4, r5, r6) := H
  have A3 := Aside0.mk A30
  clear A30
  rcases t355 with _ | q356
  · have H1 : ((area_find.f k l0 a1).bind fun t357 => (if t357 < 0 then (some (0, 0, false, false, false, some 3)) else (if 0 ≤ t357 then (if t357 < (l0.length : Int) then (some ((rd_T32 l0 t357).f0, (rd_T32 l0 t357).f1, (rd_T32 l0 t357).f2.f0, (rd_T32 l0 t357).f2.f1, (rd_T32 l0 t357).f3, none)) else (none)) else (none)))) = some (r1, r2, r3, r4, r5, r6) := by rw [if_pos (show (none : Option Int).isNone = true by rfl)] at H; exact H
    clear H
    have H := H1
    clear H1
    try simp only [errW_none, errW_some]
    replace H := Option.bind_eq_some_iff.mp H
    obtain ⟨t357, A40, H⟩ := H
    replace H : (if t357 < 0 then (some (0, 0, false, false, false, some 3)) else (if 0 ≤ t357 then (if t357 < (l0.length : Int) then (some ((rd_T32 l0 t357).f0, (rd_T32 l0 t357).f1, (rd_T32 l0 t357).f2.f0, (rd_T32 l0 t357).f2.f1, (rd_T32 l0 t357).f3, none)) else (none)) else (none))) = some (r1, r2, r3, r4, r5, r6) := H
    have A4 := Aside0.mk A40
    clear A40
    by_cases c5 : t357 < 0
    · rw [if_pos c5] at H
      have c5b0 : decide (t357 < 0) = true := decide_eq_true c5
      clear c5
      simp only [Option.some.injEq, Prod.mk.injEq] at H
      obtain ⟨rfl, rfl, rfl, rfl, rfl, rfl⟩ := H
      go_enter Try.func22, Try.ntmps22
      go_wp2_with (first | ((with_reducible refine gate_dst (N := 4) rfl ?_); refine box_event ?hg (N := 4) ?hd (cs := #[.int .i64 0, .int .i64 0, .bool false, .bool false, .bool false]) (t := 32) ?hr ?_; (case hd => rfl); (case hg => rfl); (case hr => first | (go_simp; done) | (go_simp; rfl)); intro gb354 hg w6 hbox hb; have n0_ := Aside0.mk (below_step (by repeat (first | (with_reducible first | exact HB.out | apply below_alloc | apply pw_below_drewN | apply below_drew1) | exact HB.out)) hb); have n1_ := Aside0.mk (hbox); have n2_ := Aside0.mk ((by rw [hg]; exact (below_size (by repeat (first | (with_reducible first | exact HB.out | apply below_alloc | apply pw_below_drewN | apply below_drew1) | exact HB.out))) : w.heap.size ≤ gb354)); have n3_ := Aside0.mk ((by rw [hg]; exact (below_size (by repeat (first | (with_reducible first | exact HB.out | apply below_alloc | apply pw_below_drewN | apply below_drew1) | exact HB.out))) : w.heap.size ≤ gb354)); clear HB; have HB := n0_; have BK354 := n1_; have GW354 := n2_; have GE354 := n3_; clear n0_ n1_ n2_ n3_; clear hb hbox hg) | ((with_reducible refine gate_callee (f := 13) rfl ?_); refine goesL_ (some 9) rfl rfl Try.func13 (by kernel_rfl) rfl #[.slice A0 l0.length c0] rfl (by (try simp only [List.map_toArray, List.map_cons, List.map_nil]); first | done | rfl | (simp only [List.length_drop, List.length_take]; rfl)) ?_; (with_reducible refine (area_Check.calls k _ _ l0 none _ ?side1 ?side2 A3.out).mono ?_); (case side1 => repeat (first | exact (Kd.C_below HR0.out HB.out) | (with_reducible refine Kd.C_alloc ?_ _) | (with_reducible refine Kd.C_drewN ?_ _) | (with_reducible refine Kd.C_drew ?_))); (case side2 => exact HC0.out); rintro e w7 ⟨rfl, hb⟩; refine ⟨_, rfl, ?_⟩; have n0_ := Aside0.mk (blk_below (g := gb354) (o := .cells #[.int .i64 0, .int .i64 0, .bool false, .bool false, .bool false] 32 (0, 0)) (by (with_reducible repeat (first | refine blk_drewN ?_ _ | refine blk_drew ?_ | refine blk_alloc ?_ _)); exact BK354.out) hb); have n1_ := Aside0.mk (below_step (by repeat (first | (with_reducible first | exact HB.out | apply below_alloc | apply pw_below_drewN | apply below_drew1 | refine below_set ?_ GE354.out) | exact HB.out)) hb); clear BK354; clear HB; have BK354 := n0_; have HB := n1_; clear n0_ n1_; (try clear hb); (try clear hb2); (try clear hk); (try clear hi); (try simp only [errW_none, errW_some])) | ((with_reducible refine gate_callee (f := 34) rfl ?_); refine goesL_ (some 16) rfl rfl Try.func34 (by kernel_rfl) rfl #[.slice A0 l0.length c0, .int .i64 a1] rfl (by (try simp only [List.map_toArray, List.map_cons, List.map_nil]); first | done | rfl | (simp only [List.length_drop, List.length_take]; rfl)) ?_; (with_reducible refine (area_find.calls k _ _ l0 a1 t357 _ ?side1 ?side2 A4.out).mono ?_); (case side1 => repeat (first | exact (Kd.C_below HR0.out HB.out) | (with_reducible refine Kd.C_alloc ?_ _) | (with_reducible refine Kd.C_drewN ?_ _) | (with_reducible refine Kd.C_drew ?_))); (case side2 => exact HC0.out); rintro e w8 ⟨rfl, hb⟩; refine ⟨_, rfl, ?_⟩; have n0_ := Aside0.mk (blk_below (g := gb354) (o := .cells #[.int .i64 0, .int .i64 0, .bool false, .bool false, .bool false] 32 (0, 0)) (by (with_reducible repeat (first | refine blk_drewN ?_ _ | refine blk_drew ?_ | refine blk_alloc ?_ _)); exact BK354.out) hb); have n1_ := Aside0.mk (below_step (by repeat (first | (with_reducible first | exact HB.out | apply below_alloc | apply pw_below_drewN | apply below_drew1 | refine below_set ?_ GE354.out) | exact HB.out)) hb); clear BK354; clear HB; have BK354 := n0_; have HB := n1_; clear n0_ n1_; (try clear hb); (try clear hb2); (try clear hk); (try clear hi); have hcz9_0 : w8.cell? ⟨gb354, 0, none⟩ = some (.int .i64 0) := (blk_cell BK354.out 0).trans rfl; have hcz9_1 : w8.cell? ⟨gb354, 1, none⟩ = some (.int .i64 0) := (blk_cell BK354.out 1).trans rfl; have hcz9_2 : w8.cell? ⟨gb354, 2, none⟩ = some (.bool false) := (blk_cell BK354.out 2).trans rfl; have hcz9_3 : w8.cell? ⟨gb354, 3, none⟩ = some (.bool false) := (blk_cell BK354.out 3).trans rfl; have hcz9_4 : w8.cell? ⟨gb354, 4, none⟩ = some (.bool false) := (blk_cell BK354.out 4).trans rfl; have hfz9_0 := blk_frozen BK354.out 0; have hfz9_1 := blk_frozen BK354.out 1; have hfz9_2 := blk_frozen BK354.out 2; have hfz9_3 := blk_frozen BK354.out 3; have hfz9_4 := blk_frozen BK354.out 4))
      refine bodyPost_ret (results_ct rfl _ _ gb354 32 #[.int .i64 0, .int .i64 0, .bool false, .bool false, .bool false] (0, 0) _ rfl (by (with_reducible repeat (first | refine blk_drewN ?_ _ | refine blk_drew ?_ | refine blk_alloc ?_ _)); refine blk_put (cs := #[.int .i64 0, .int .i64 0, .bool false, .bool false, .bool false]) ?_ 4 _ rfl; (with_reducible repeat (first | refine blk_drewN ?_ _ | refine blk_drew ?_ | refine blk_alloc ?_ _)); refine blk_put (cs := #[.int .i64 0, .int .i64 0, .bool false, .bool false, .bool false]) ?_ 3 _ rfl; (with_reducible repeat (first | refine blk_drewN ?_ _ | refine blk_drew ?_ | refine blk_alloc ?_ _)); refine blk_put (cs := #[.int .i64 0, .int .i64 0, .bool false, .bool false, .bool false]) ?_ 2 _ rfl; (with_reducible repeat (first | refine blk_drewN ?_ _ | refine blk_drew ?_ | refine blk_alloc ?_ _)); refine blk_put (cs := #[.int .i64 0, .int .i64 0, .bool false, .bool false, .bool false]) ?_ 1 _ rfl; (with_reducible repeat (first | refine blk_drewN ?_ _ | refine blk_drew ?_ | refine blk_alloc ?_ _)); refine blk_put (cs := #[.int .i64 0, .int .i64 0, .bool false, .bool false, .bool false]) ?_ 0 _ rfl; (with_reducible repeat (first | refine blk_drewN ?_ _ | refine blk_drew ?_ | refine blk_alloc ?_ _)); exact BK354.out) Try.underlying32 rfl (by kernel_rfl)) rfl ?_
      exact ⟨by first | rfl | (simp [errW_none, errW_some] <;> rfl) | (simp [*, errW_none, errW_some] <;> rfl), by repeat (first | (with_reducible first | exact HB.out | apply below_alloc | apply pw_below_drewN | apply below_drew1 | refine below_set ?_ GE354.out) | exact HB.out)⟩
    · rw [if_neg c5] at H
      have c5b0 : decide (t357 < 0) = false := decide_eq_false c5
      clear c5
      by_cases c10 : 0 ≤ t357
      · rw [if_pos c10] at H
        have c10b0 : decide (0 ≤ t357) = true := decide_eq_true c10
        clear c10
        by_cases c11 : t357 < (l0.length : Int)
        · rw [if_pos c11] at H
          have c11b0 : decide (t357 < (l0.length : Int)) = true := decide_eq_true c11
          clear c11
          simp only [Option.some.injEq, Prod.mk.injEq] at H
          obtain ⟨rfl, rfl, rfl, rfl, rfl, rfl⟩ := H
          go_enter Try.func22, Try.ntmps22
          go_wp2_with (first | ((with_reducible refine gate_dst (N := 4) rfl ?_); refine box_event ?hg (N := 4) ?hd (cs := #[.int .i64 0, .int .i64 0, .bool false, .bool false, .bool false]) (t := 32) ?hr ?_; (case hd => rfl); (case hg => rfl); (case hr => first | (go_simp; done) | (go_simp; rfl)); intro gb354 hg w12 hbox hb; have n0_ := Aside0.mk (below_step (by repeat (first | (with_reducible first | exact HB.out | apply below_alloc | apply pw_below_drewN | apply below_drew1) | exact HB.out)) hb); have n1_ := Aside0.mk (hbox); have n2_ := Aside0.mk ((by rw [hg]; exact (below_size (by repeat (first | (with_reducible first | exact HB.out | apply below_alloc | apply pw_below_drewN | apply below_drew1) | exact HB.out))) : w.heap.size ≤ gb354)); have n3_ := Aside0.mk ((by rw [hg]; exact (below_size (by repeat (first | (with_reducible first | exact HB.out | apply below_alloc | apply pw_below_drewN | apply below_drew1) | exact HB.out))) : w.heap.size ≤ gb354)); clear HB; have HB := n0_; have BK354 := n1_; have GW354 := n2_; have GE354 := n3_; clear n0_ n1_ n2_ n3_; clear hb hbox hg) | ((with_reducible refine gate_callee (f := 13) rfl ?_); refine goesL_ (some 9) rfl rfl Try.func13 (by kernel_rfl) rfl #[.slice A0 l0.length c0] rfl (by (try simp only [List.map_toArray, List.map_cons, List.map_nil]); first | done | rfl | (simp only [List.length_drop, List.length_take]; rfl)) ?_; (with_reducible refine (area_Check.calls k _ _ l0 none _ ?side1 ?side2 A3.out).mono ?_); (case side1 => repeat (first | exact (Kd.C_below HR0.out HB.out) | (with_reducible refine Kd.C_alloc ?_ _) | (with_reducible refine Kd.C_drewN ?_ _) | (with_reducible refine Kd.C_drew ?_))); (case side2 => exact HC0.out); rintro e w13 ⟨rfl, hb⟩; refine ⟨_, rfl, ?_⟩; have n0_ := Aside0.mk (blk_below (g := gb354) (o := .cells #[.int .i64 0, .int .i64 0, .bool false, .bool false, .bool false] 32 (0, 0)) (by (with_reducible repeat (first | refine blk_drewN ?_ _ | refine blk_drew ?_ | refine blk_alloc ?_ _)); exact BK354.out) hb); have n1_ := Aside0.mk (below_step (by repeat (first | (with_reducible first | exact HB.out | apply below_alloc | apply pw_below_drewN | apply below_drew1 | refine below_set ?_ GE354.out) | exact HB.out)) hb); clear BK354; clear HB; have BK354 := n0_; have HB := n1_; clear n0_ n1_; (try clear hb); (try clear hb2); (try clear hk); (try clear hi); (try simp only [errW_none, errW_some])) | ((with_reducible refine gate_callee (f := 34) rfl ?_); refine goesL_ (some 16) rfl rfl Try.func34 (by kernel_rfl) rfl #[.slice A0 l0.length c0, .int .i64 a1] rfl (by (try simp only [List.map_toArray, List.map_cons, List.map_nil]); first | done | rfl | (simp only [List.length_drop, List.length_take]; rfl)) ?_; (with_reducible refine (area_find.calls k _ _ l0 a1 t357 _ ?side1 ?side2 A4.out).mono ?_); (case side1 => repeat (first | exact (Kd.C_below HR0.out HB.out) | (with_reducible refine Kd.C_alloc ?_ _) | (with_reducible refine Kd.C_drewN ?_ _) | (with_reducible refine Kd.C_drew ?_))); (case side2 => exact HC0.out); rintro e w14 ⟨rfl, hb⟩; refine ⟨_, rfl, ?_⟩; have n0_ := Aside0.mk (blk_below (g := gb354) (o := .cells #[.int .i64 0, .int .i64 0, .bool false, .bool false, .bool false] 32 (0, 0)) (by (with_reducible repeat (first | refine blk_drewN ?_ _ | refine blk_drew ?_ | refine blk_alloc ?_ _)); exact BK354.out) hb); have n1_ := Aside0.mk (below_step (by repeat (first | (with_reducible first | exact HB.out | apply below_alloc | apply pw_below_drewN | apply below_drew1 | refine below_set ?_ GE354.out) | exact HB.out)) hb); clear BK354; clear HB; have BK354 := n0_; have HB := n1_; clear n0_ n1_; (try clear hb); (try clear hb2); (try clear hk); (try clear hi); have p358 : 0 ≤ (t357 : Int) := of_decide_eq_true (by first | (with_reducible assumption) | assumption); have q358 : t357 < (l0.length : Int) := of_decide_eq_true (by first | (with_reducible assumption) | assumption); obtain ⟨ad358, e358, hx358_0, hx358_1, hx358_2, hx358_3, hx358_4⟩ := at_T32 HR0.out t357 p358 q358; cases e358; replace hx358_0 := (HB.out.cell (World.block_lt_of_cell? w _ hx358_0)).trans hx358_0; replace hx358_1 := (HB.out.cell (World.block_lt_of_cell? w _ hx358_1)).trans hx358_1; replace hx358_2 := (HB.out.cell (World.block_lt_of_cell? w _ hx358_2)).trans hx358_2; replace hx358_3 := (HB.out.cell (World.block_lt_of_cell? w _ hx358_3)).trans hx358_3; replace hx358_4 := (HB.out.cell (World.block_lt_of_cell? w _ hx358_4)).trans hx358_4; replace p358 := eq_true p358; replace q358 := eq_true q358; have hcz15_0 : w14.cell? ⟨gb354, 0, none⟩ = some (.int .i64 0) := (blk_cell BK354.out 0).trans rfl; have hcz15_1 : w14.cell? ⟨gb354, 1, none⟩ = some (.int .i64 0) := (blk_cell BK354.out 1).trans rfl; have hcz15_2 : w14.cell? ⟨gb354, 2, none⟩ = some (.bool false) := (blk_cell BK354.out 2).trans rfl; have hcz15_3 : w14.cell? ⟨gb354, 3, none⟩ = some (.bool false) := (blk_cell BK354.out 3).trans rfl; have hcz15_4 : w14.cell? ⟨gb354, 4, none⟩ = some (.bool false) := (blk_cell BK354.out 4).trans rfl; have hfz15_0 := blk_frozen BK354.out 0; have hfz15_1 := blk_frozen BK354.out 1; have hfz15_2 := blk_frozen BK354.out 2; have hfz15_3 := blk_frozen BK354.out 3; have hfz15_4 := blk_frozen BK354.out 4))
          refine bodyPost_ret (results_ct rfl _ _ gb354 32 #[.int .i64 ((rd_T32 l0 t357).f0), .int .i64 ((rd_T32 l0 t357).f1), .bool ((rd_T32 l0 t357).f2.f0), .bool ((rd_T32 l0 t357).f2.f1), .bool ((rd_T32 l0 t357).f3)] (0, 0) _ rfl (by (with_reducible repeat (first | refine blk_drewN ?_ _ | refine blk_drew ?_ | refine blk_alloc ?_ _)); refine blk_put (cs := #[.int .i64 ((rd_T32 l0 t357).f0), .int .i64 ((rd_T32 l0 t357).f1), .bool ((rd_T32 l0 t357).f2.f0), .bool ((rd_T32 l0 t357).f2.f1), .bool false]) ?_ 4 _ rfl; (with_reducible repeat (first | refine blk_drewN ?_ _ | refine blk_drew ?_ | refine blk_alloc ?_ _)); refine blk_put (cs := #[.int .i64 ((rd_T32 l0 t357).f0), .int .i64 ((rd_T32 l0 t357).f1), .bool ((rd_T32 l0 t357).f2.f0), .bool false, .bool false]) ?_ 3 _ rfl; (with_reducible repeat (first | refine blk_drewN ?_ _ | refine blk_drew ?_ | refine blk_alloc ?_ _)); refine blk_put (cs := #[.int .i64 ((rd_T32 l0 t357).f0), .int .i64 ((rd_T32 l0 t357).f1), .bool false, .bool false, .bool false]) ?_ 2 _ rfl; (with_reducible repeat (first | refine blk_drewN ?_ _ | refine blk_drew ?_ | refine blk_alloc ?_ _)); refine blk_put (cs := #[.int .i64 ((rd_T32 l0 t357).f0), .int .i64 0, .bool false, .bool false, .bool false]) ?_ 1 _ rfl; (with_reducible repeat (first | refine blk_drewN ?_ _ | refine blk_drew ?_ | refine blk_alloc ?_ _)); refine blk_put (cs := #[.int .i64 0, .int .i64 0, .bool false, .bool false, .bool false]) ?_ 0 _ rfl; (with_reducible repeat (first | refine blk_drewN ?_ _ | refine blk_drew ?_ | refine blk_alloc ?_ _)); exact BK354.out) Try.underlying32 rfl (by kernel_rfl)) rfl ?_
          exact ⟨by first | rfl | (simp [errW_none, errW_some] <;> rfl) | (simp [*, errW_none, errW_some] <;> rfl), by repeat (first | (with_reducible first | exact HB.out | apply below_alloc | apply pw_below_drewN | apply below_drew1 | refine below_set ?_ GE354.out) | exact HB.out)⟩
        · rw [if_neg c11] at H
          exact absurd H (by simp)
      · rw [if_neg c10] at H
        exact absurd H (by simp)
  · have H1 : (some (0, 0, false, false, false, some q356)) = some (r1, r2, r3, r4, r5, r6) := by rw [if_neg (show ¬ (some q356).isNone = true by simp)] at H; exact H
    clear H
    have H := H1
    clear H1
    try simp only [errW_none, errW_some]
    simp only [Option.some.injEq, Prod.mk.injEq] at H
    obtain ⟨rfl, rfl, rfl, rfl, rfl, rfl⟩ := H
    go_enter Try.func22, Try.ntmps22
    go_wp2_with (first | ((with_reducible refine gate_dst (N := 4) rfl ?_); refine box_event ?hg (N := 4) ?hd (cs := #[.int .i64 0, .int .i64 0, .bool false, .bool false, .bool false]) (t := 32) ?hr ?_; (case hd => rfl); (case hg => rfl); (case hr => first | (go_simp; done) | (go_simp; rfl)); intro gb354 hg w16 hbox hb; have n0_ := Aside0.mk (below_step (by repeat (first | (with_reducible first | exact HB.out | apply below_alloc | apply pw_below_drewN | apply below_drew1) | exact HB.out)) hb); have n1_ := Aside0.mk (hbox); have n2_ := Aside0.mk ((by rw [hg]; exact (below_size (by repeat (first | (with_reducible first | exact HB.out | apply below_alloc | apply pw_below_drewN | apply below_drew1) | exact HB.out))) : w.heap.size ≤ gb354)); have n3_ := Aside0.mk ((by rw [hg]; exact (below_size (by repeat (first | (with_reducible first | exact HB.out | apply below_alloc | apply pw_below_drewN | apply below_drew1) | exact HB.out))) : w.heap.size ≤ gb354)); clear HB; have HB := n0_; have BK354 := n1_; have GW354 := n2_; have GE354 := n3_; clear n0_ n1_ n2_ n3_; clear hb hbox hg) | ((with_reducible refine gate_callee (f := 13) rfl ?_); refine goesL_ (some 9) rfl rfl Try.func13 (by kernel_rfl) rfl #[.slice A0 l0.length c0] rfl (by (try simp only [List.map_toArray, List.map_cons, List.map_nil]); first | done | rfl | (simp only [List.length_drop, List.length_take]; rfl)) ?_; (with_reducible refine (area_Check.calls k _ _ l0 (some q356) _ ?side1 ?side2 A3.out).mono ?_); (case side1 => repeat (first | exact (Kd.C_below HR0.out HB.out) | (with_reducible refine Kd.C_alloc ?_ _) | (with_reducible refine Kd.C_drewN ?_ _) | (with_reducible refine Kd.C_drew ?_))); (case side2 => exact HC0.out); rintro e w17 ⟨rfl, hb⟩; refine ⟨_, rfl, ?_⟩; have n0_ := Aside0.mk (blk_below (g := gb354) (o := .cells #[.int .i64 0, .int .i64 0, .bool false, .bool false, .bool false] 32 (0, 0)) (by (with_reducible repeat (first | refine blk_drewN ?_ _ | refine blk_drew ?_ | refine blk_alloc ?_ _)); exact BK354.out) hb); have n1_ := Aside0.mk (below_step (by repeat (first | (with_reducible first | exact HB.out | apply below_alloc | apply pw_below_drewN | apply below_drew1 | refine below_set ?_ GE354.out) | exact HB.out)) hb); clear BK354; clear HB; have BK354 := n0_; have HB := n1_; clear n0_ n1_; (try clear hb); (try clear hb2); (try clear hk); (try clear hi); (try simp only [errW_none, errW_some]); have hcz18_0 : w17.cell? ⟨gb354, 0, none⟩ = some (.int .i64 0) := (blk_cell BK354.out 0).trans rfl; have hcz18_1 : w17.cell? ⟨gb354, 1, none⟩ = some (.int .i64 0) := (blk_cell BK354.out 1).trans rfl; have hcz18_2 : w17.cell? ⟨gb354, 2, none⟩ = some (.bool false) := (blk_cell BK354.out 2).trans rfl; have hcz18_3 : w17.cell? ⟨gb354, 3, none⟩ = some (.bool false) := (blk_cell BK354.out 3).trans rfl; have hcz18_4 : w17.cell? ⟨gb354, 4, none⟩ = some (.bool false) := (blk_cell BK354.out 4).trans rfl; have hfz18_0 := blk_frozen BK354.out 0; have hfz18_1 := blk_frozen BK354.out 1; have hfz18_2 := blk_frozen BK354.out 2; have hfz18_3 := blk_frozen BK354.out 3; have hfz18_4 := blk_frozen BK354.out 4))
    refine bodyPost_ret (results_ct rfl _ _ gb354 32 #[.int .i64 0, .int .i64 0, .bool false, .bool false, .bool false] (0, 0) _ rfl (by (with_reducible repeat (first | refine blk_drewN ?_ _ | refine blk_drew ?_ | refine blk_alloc ?_ _)); refine blk_put (cs := #[.int .i64 0, .int .i64 0, .bool false, .bool false, .bool false]) ?_ 4 _ rfl; (with_reducible repeat (first | refine blk_drewN ?_ _ | refine blk_drew ?_ | refine blk_alloc ?_ _)); refine blk_put (cs := #[.int .i64 0, .int .i64 0, .bool false, .bool false, .bool false]) ?_ 3 _ rfl; (with_reducible repeat (first | refine blk_drewN ?_ _ | refine blk_drew ?_ | refine blk_alloc ?_ _)); refine blk_put (cs := #[.int .i64 0, .int .i64 0, .bool false, .bool false, .bool false]) ?_ 2 _ rfl; (with_reducible repeat (first | refine blk_drewN ?_ _ | refine blk_drew ?_ | refine blk_alloc ?_ _)); refine blk_put (cs := #[.int .i64 0, .int .i64 0, .bool false, .bool false, .bool false]) ?_ 1 _ rfl; (with_reducible repeat (first | refine blk_drewN ?_ _ | refine blk_drew ?_ | refine blk_alloc ?_ _)); refine blk_put (cs := #[.int .i64 0, .int .i64 0, .bool false, .bool false, .bool false]) ?_ 0 _ rfl; (with_reducible repeat (first | refine blk_drewN ?_ _ | refine blk_drew ?_ | refine blk_alloc ?_ _)); exact BK354.out) Try.underlying32 rfl (by kernel_rfl)) rfl ?_
    exact ⟨by first | rfl | (simp [errW_none, errW_some] <;> rfl) | (simp [*, errW_none, errW_some] <;> rfl), by repeat (first | (with_reducible first | exact HB.out | apply below_alloc | apply pw_below_drewN | apply below_drew1 | refine below_set ?_ GE354.out) | exact HB.out)⟩

/-! ### paviorref09_Room: function 24 -/
mutual
def paviorref09_Room.l0 : Nat → List (S40) → Int → Int → Int → Option (Int)
  | 0, _, _, _, _ => none
  | k + 1, x0, x1, x5, x6 => if x6 < 4096 then (if 0 ≤ x6 then (if x6 < (x0.length : Int) then (if (rd_T40 x0 x6).f0 = true then (paviorref09_Room.j1 k x0 x1 0 x6) else (paviorref09_Room.j1 k x0 x1 (wrap64 (x5 + 1)) x6)) else (none)) else (none)) else (some (-1))
def paviorref09_Room.j1 : Nat → List (S40) → Int → Int → Int → Option (Int)
  | 0, _, _, _, _ => none
  | k + 1, x0, x1, x5, x6 => if x5 = x1 then (some (wrap64 ((wrap64 (x6 - x1)) + 1))) else (paviorref09_Room.l0 k x0 x1 x5 (wrap64 (x6 + 1)))
end
def paviorref09_Room.f (k : Nat) (l0 : List (S40)) (a1 : Int) : Option (Int) := paviorref09_Room.l0 k l0 a1 0 0
theorem paviorref09_Room.mono_l : ∀ k, (∀ y0 y1 y2 y3, LeO (paviorref09_Room.l0 k y0 y1 y2 y3) (paviorref09_Room.l0 (k + 1) y0 y1 y2 y3)) ∧ (∀ y0 y1 y2 y3, LeO (paviorref09_Room.j1 k y0 y1 y2 y3) (paviorref09_Room.j1 (k + 1) y0 y1 y2 y3))
  | 0 => ⟨fun _ _ _ _ r h => by simp [paviorref09_Room.l0] at h, fun _ _ _ _ r h => by simp [paviorref09_Room.j1] at h⟩
  | k + 1 => by
    obtain ⟨ih0, ih1⟩ := paviorref09_Room.mono_l k
    refine ⟨?_, ?_⟩
    · intro y0 y1 y2 y3
      unfold paviorref09_Room.l0
      repeat' first
      | (with_reducible exact ih0 _ _ _ _)
      | (with_reducible exact ih1 _ _ _ _)
      | (with_reducible exact LeO.refl _)
      | (with_reducible exact LeO.none _)
      | (with_reducible refine LeO.ite ?_ ?_)
      | (with_reducible refine LeO.bind ?_ (fun _ => ?_))
      | exact ih0 _ _ _ _
      | exact ih1 _ _ _ _
      | exact LeO.none _
      | refine LeO.ite ?_ ?_
      | refine LeO.bind ?_ (fun _ => ?_)
    · intro y0 y1 y2 y3
      unfold paviorref09_Room.j1
      repeat' first
      | (with_reducible exact ih0 _ _ _ _)
      | (with_reducible exact ih1 _ _ _ _)
      | (with_reducible exact LeO.refl _)
      | (with_reducible exact LeO.none _)
      | (with_reducible refine LeO.ite ?_ ?_)
      | (with_reducible refine LeO.bind ?_ (fun _ => ?_))
      | exact ih0 _ _ _ _
      | exact ih1 _ _ _ _
      | exact LeO.none _
      | refine LeO.ite ?_ ?_
      | refine LeO.bind ?_ (fun _ => ?_)
theorem paviorref09_Room.mono : ∀ a0 a1 k, LeO (paviorref09_Room.f k a0 a1) (paviorref09_Room.f (k + 1) a0 a1) := by
  intro a0 a1 k
  obtain ⟨ih0, ih1⟩ := paviorref09_Room.mono_l k
  unfold paviorref09_Room.f
  repeat' first
      | (with_reducible exact ih0 _ _ _ _)
      | (with_reducible exact ih1 _ _ _ _)
      | (with_reducible exact LeO.refl _)
      | (with_reducible exact LeO.none _)
      | (with_reducible refine LeO.ite ?_ ?_)
      | (with_reducible refine LeO.bind ?_ (fun _ => ?_))
      | exact ih0 _ _ _ _
      | exact ih1 _ _ _ _
      | exact LeO.none _
      | refine LeO.ite ?_ ?_
      | refine LeO.bind ?_ (fun _ => ?_)
set_option maxHeartbeats 8000000 in
set_option maxRecDepth 100000 in
theorem paviorref09_Room.calls (k : Nat) (A0 : Option Addr) (c0 : Nat) (l0 : List (S40)) (a1 : Int) (r : Int) (w : World) (hr0 : Kd.C k40 w A0 l0.length l0) (hc0 : l0.length ≤ c0) (h : paviorref09_Room.f k l0 a1 = some r) :
    Calls Try.prog 24 #[.slice A0 l0.length c0, .int .i64 a1] w fun e w' => e = .returned (.int .i64 r) ∧ Drawn0 w w' := by
  have HR0 := Aside0.mk hr0
  have HC0 := Aside0.mk hc0
  clear hr0 hc0
  have H : (paviorref09_Room.l0 k l0 a1 0 0) = some r := h
  clear h
  have H' := Aside0.mk H
  clear H
  go_enter Try.func24, Try.ntmps24
  go_wp2
  go_loopg [5, 6] k (fun kq v5 v6 w' => ∃ (x5_1 : Int) (x6_1 : Int), v5 = .int .i64 x5_1 ∧ v6 = .int .i64 x6_1 ∧ Aside0 (paviorref09_Room.l0 kq l0 a1 x5_1 x6_1 = some r) ∧ Aside0 (kq ≤ k) ∧ Drawn0 w w')
  case atStart => exact ⟨(0), (0), (by first | rfl | (simp; done) | (simp [*]; done)), (by first | rfl | (simp; done) | (simp [*]; done)), H', ⟨Nat.le_refl _⟩, by repeat (first | exact Drawn0.refl _ | apply Drawn0.step)⟩
  case round =>
    clear H'
    try clear c2
    try clear p2
    obtain ⟨x5_1, x6_1, rfl, rfl, HA, HK1, ⟨m1, rfl⟩⟩ := hrel
    cases gk with
    | zero => exact absurd HA.out (by simp [paviorref09_Room.l0])
    | succ k1 =>
      have H := HA.out
      clear HA
      simp only [paviorref09_Room.l0] at H
      by_cases c3 : x6_1 < 4096
      · rw [if_pos c3] at H
        have c3b0 : decide (x6_1 < 4096) = true := decide_eq_true c3
        clear c3
        by_cases c4 : 0 ≤ x6_1
        · rw [if_pos c4] at H
          have c4b0 : decide (0 ≤ x6_1) = true := decide_eq_true c4
          clear c4
          by_cases c5 : x6_1 < (l0.length : Int)
          · rw [if_pos c5] at H
            have c5b0 : decide (x6_1 < (l0.length : Int)) = true := decide_eq_true c5
            clear c5
            have HC6 := Aside0.mk H
            clear H
            have p359 : 0 ≤ (x6_1 : Int) := of_decide_eq_true (by first | (with_reducible assumption) | assumption)
            have q359 : x6_1 < (l0.length : Int) := of_decide_eq_true (by first | (with_reducible assumption) | assumption)
            obtain ⟨ad359, e359, hx359_0, hx359_1, hx359_2, hx359_3⟩ := at_T40 HR0.out x6_1 p359 q359
            cases e359
            replace p359 := eq_true p359
            replace q359 := eq_true q359
            go_upto_if 17 with (fail)
            go_cut [5] (fun v5 wc => ∃ (kq : Nat) (x5_5 : Int), v5 = .int .i64 x5_5 ∧ Aside0 (paviorref09_Room.j1 kq l0 a1 x5_5 x6_1 = some r) ∧ Aside0 (kq ≤ k1) ∧ Drawn0 w wc)
            case first =>
              have H := HC6.out
              clear HC6
              obtain ⟨bq7, hbq7⟩ : ∃ b_ : Bool, b_ = ((rd_T40 l0 x6_1).f0) := ⟨_, rfl⟩
              replace H : (if bq7 = true then (paviorref09_Room.j1 k1 l0 a1 0 x6_1) else (paviorref09_Room.j1 k1 l0 a1 (wrap64 (x5_1 + 1)) x6_1)) = some r := by rw [← hbq7] at H; exact H
              have Nbq7 := Aside0.mk hbq7
              clear hbq7
              (try rw [← Nbq7.out])
              by_cases c8 : bq7 = true
              · subst c8
                have H1 : (paviorref09_Room.j1 k1 l0 a1 0 x6_1) = some r := by rw [if_pos rfl] at H; exact H
                clear H
                have H := H1
                clear H1
                have H' := Aside0.mk H
                clear H
                go_wp2
                go_meet
                case rel => exact ⟨_, (0), (by first | rfl | (simp; done) | (simp [*]; done)), H', ⟨by have := HK1.out; first | omega | exact Nat.le_refl _⟩, by repeat (first | exact Drawn0.refl _ | apply Drawn0.step)⟩
              · replace c8 := Bool.eq_false_iff.mpr c8
                subst c8
                have H1 : (paviorref09_Room.j1 k1 l0 a1 (wrap64 (x5_1 + 1)) x6_1) = some r := by rw [if_neg (show ¬ (false = true) by decide)] at H; exact H
                clear H
                have H := H1
                clear H1
                have H' := Aside0.mk H
                clear H
                go_wp2
                go_meet
                case rel => exact ⟨_, (wrap64 (x5_1 + 1)), (by first | rfl | (simp; done) | (simp [*]; done)), H', ⟨by have := HK1.out; first | omega | exact Nat.le_refl _⟩, by repeat (first | exact Drawn0.refl _ | apply Drawn0.step)⟩
            case rest =>
              clear HC6
              try clear c2
              try clear p2
              try clear c3
              try clear c3b0
              try clear p3
              try clear q3
              try clear hx3
              try clear c4
              try clear c4b0
              try clear c5
              try clear c5b0
              try clear p6
              try clear q7
              try clear c8
              try clear hx359_0
              try clear hx359_1
              try clear hx359_2
              try clear hx359_3
              try clear p2
              try clear p359
              try clear q359
              obtain ⟨kq, x5_5, rfl, HA, HJ5, ⟨mc5, rfl⟩⟩ := hcut
              cases kq with
              | zero => exact absurd HA.out (by simp [paviorref09_Room.j1])
              | succ kj5 =>
                have H := HA.out
                clear HA
                simp only [paviorref09_Room.j1] at H
                by_cases c9 : x5_5 = a1
                · rw [if_pos c9] at H
                  have c9b0 : (x5_5 == a1) = true := beq_iff_eq.mpr c9
                  have c9b1 : (x5_5 != a1) = false := bne_eq_false_iff_eq.mpr c9
                  clear c9
                  obtain rfl := Option.some.inj H
                  go_wp2
                  go_ret
                  exact ⟨by first | rfl | (simp; done) | (simp [*]; done), by repeat (first | exact Drawn0.refl _ | apply Drawn0.step)⟩
                · rw [if_neg c9] at H
                  have c9b0 : (x5_5 == a1) = false := beq_eq_false_iff_ne.mpr c9
                  have c9b1 : (x5_5 != a1) = true := bne_iff_ne.mpr c9
                  have H' := Aside0.mk H
                  clear H
                  go_wp2
                  go_roundg kj5
                  case measure => have := HK1.out; have := HJ5.out; omega
                  case rel => exact ⟨(x5_5), (wrap64 (x6_1 + 1)), (by first | rfl | (simp; done) | (simp [*]; done)), (by first | rfl | (simp; done) | (simp [*]; done)), H', ⟨by have := HK1.out; have := HJ5.out; omega⟩, by repeat (first | exact Drawn0.refl _ | apply Drawn0.step)⟩
          · rw [if_neg c5] at H
            exact absurd H (by simp)
        · rw [if_neg c4] at H
          exact absurd H (by simp)
      · rw [if_neg c3] at H
        have c3b0 : decide (x6_1 < 4096) = false := decide_eq_false c3
        clear c3
        obtain rfl := Option.some.inj H
        go_wp2
        go_ret
        exact ⟨by first | rfl | (simp; done) | (simp [*]; done), by repeat (first | exact Drawn0.refl _ | apply Drawn0.step)⟩

end Go.Proofs.Ytlmjjkggoemabab.Q
