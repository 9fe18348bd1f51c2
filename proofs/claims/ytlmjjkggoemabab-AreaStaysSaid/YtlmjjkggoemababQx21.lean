-- Written by this session's program wip/tools/xprint.py (the kit's printer, turned by it); not the kit's own print.
import Derived.Test.YtlmjjkggoemababQx0
import Derived.Test.YtlmjjkggoemababQx4
import Derived.Test.YtlmjjkggoemababQx5
import Derived.Test.YtlmjjkggoemababQx6
import Derived.Test.YtlmjjkggoemababQx7
namespace Go.Proofs.Ytlmjjkggoemabab.Q
open Go.RowKit Go.Proofs.YtlmjjkggoemababW.PrintWords Go.Proofs.YtlmjjkggoemababW.PrintLast Go.Proofs.YtlmjjkggoemababW.PrintMore
attribute [local go_sem] max2_int min2_int max_two min_two max_three min_three max_four min_four   -- for this text's walks alone
set_option linter.unusedVariables false
set_option linter.unusedSimpArgs false

attribute [local go_sem high] eqErr_some neErr_some eqErr_left neErr_left
/-! ### ap66: function 1000066 -/
def eF66 (x : S32) : Value := .agg #[.int .i64 x.f0, .int .i64 x.f1, .bool x.f2.f0, .bool x.f2.f1, .bool x.f3]
def rF66 (x : S32) : Value := .agg #[.int .i64 x.f0, .int .i64 x.f1, .bool x.f2.f0, .bool x.f2.f1, .bool x.f3]
def ap66.f (a0_0 : Int) (a0_1 : Int) (a0_2_0 : Bool) (a0_2_1 : Bool) (a0_3 : Bool) (a1 : (S32 → S32)) : Option (Int × Int × Bool × Bool × Bool) := some ((a1 (⟨a0_0, a0_1, (⟨a0_2_0, a0_2_1⟩ : S30), a0_3⟩ : S32)).f0, (a1 (⟨a0_0, a0_1, (⟨a0_2_0, a0_2_1⟩ : S30), a0_3⟩ : S32)).f1, (a1 (⟨a0_0, a0_1, (⟨a0_2_0, a0_2_1⟩ : S30), a0_3⟩ : S32)).f2.f0, (a1 (⟨a0_0, a0_1, (⟨a0_2_0, a0_2_1⟩ : S30), a0_3⟩ : S32)).f2.f1, (a1 (⟨a0_0, a0_1, (⟨a0_2_0, a0_2_1⟩ : S30), a0_3⟩ : S32)).f3)
theorem ap66.calls {g : Nat} {lb : Array Value} {w0 : World} (a0_0 : Int) (a0_1 : Int) (a0_2_0 : Bool) (a0_2_1 : Bool) (a0_3 : Bool) (a1 : (S32 → S32)) (r1 : Int) (r2 : Int) (r3 : Bool) (r4 : Bool) (r5 : Bool) (w : World) (hF : ∀ W x, Below w0.heap.size w0 W → Calls Try.prog g (#[eF66 x] ++ lb) W (fun e W' => e = .returned (rF66 (a1 x)) ∧ Below W.heap.size W W')) (hB : Below w0.heap.size w0 w) (h : ap66.f a0_0 a0_1 a0_2_0 a0_2_1 a0_3 a1 = some (r1, r2, r3, r4, r5)) :
    Calls Try.prog g (#[.agg #[.int .i64 a0_0, .int .i64 a0_1, .bool a0_2_0, .bool a0_2_1, .bool a0_3]] ++ lb) w fun e w' => e = .returned (.agg #[.int .i64 r1, .int .i64 r2, .bool r3, .bool r4, .bool r5]) ∧ Below w.heap.size w w' := by
  refine (hF w (⟨a0_0, a0_1, (⟨a0_2_0, a0_2_1⟩ : S30), a0_3⟩ : S32) hB).mono ?_
  rintro e w' ⟨rfl, hb⟩
  simp only [ap66.f, Option.some.injEq, Prod.mk.injEq] at h
  obtain ⟨rfl, rfl, rfl, rfl, rfl⟩ := h
  exact ⟨rfl, hb⟩

/-! ### area_each: function 35 -/
mutual
def area_each.j0 : Nat → List (S32) → Int → Int → (S32 → S32) → Bool → Option ((List (S32)) × Option Int)
  | 0, _, _, _, _, _ => none
  | k + 1, x0, x1, x2, x3, x24 => if x24 = true then (some (([] : List (S32)), some 1)) else ((area_parts.f k x0 x1 x2).bind fun bt462 => (area_each.l0 k x1 x2 x3 bt462.1 bt462.2.1 bt462.2.2 0 (bt462.2.1.length : Int) 0))
def area_each.l0 : Nat → Int → Int → (S32 → S32) → List (S32) → List (S32) → List (S32) → Int → Int → Int → Option ((List (S32)) × Option Int)
  | 0, _, _, _, _, _, _, _, _, _ => none
  | k + 1, x1, x2, x3, x10, x11, x12, x13, x35, x36 => if x36 < x35 then (if 0 ≤ x36 then (if x36 < (x11.length : Int) then ((ap66.f ((rd_T32 x11 x36).f0) ((rd_T32 x11 x36).f1) ((rd_T32 x11 x36).f2.f0) ((rd_T32 x11 x36).f2.f1) ((rd_T32 x11 x36).f3) x3).bind fun bt473 => (area_each.l0 k x1 x2 x3 x10 (x11.set (x36 : Int).toNat (⟨bt473.1, bt473.2.1, (⟨bt473.2.2.1, bt473.2.2.2.1⟩ : S30), bt473.2.2.2.2⟩ : S32)) x12 (wrap64 (x13 + (wrap64 (((rd_T32 x11 x36).f1) - ((rd_T32 x11 x36).f0))))) x35 (wrap64 (x36 + 1)))) else (none)) else (none)) else (if x13 < (wrap64 (x2 - x1)) then (some (([] : List (S32)), some 3)) else ((area_joined.f k (([x10, x11, x12] : List (List (S32))))).bind fun bt482 => (some (bt482.1, bt482.2))))
end
def area_each.f (k : Nat) (l0 : List (S32)) (a1 : Int) (a2 : Int) (a3 : (S32 → S32)) : Option ((List (S32)) × Option Int) := (area_Check.f k l0).bind fun t459 => (if t459.isNone = true then ((area_span.f a1 a2).bind fun t461 => (area_each.j0 k l0 a1 a2 a3 (!t461))) else (area_each.j0 k l0 a1 a2 a3 true))
theorem area_each.mono_l : ∀ k, (∀ y0 y1 y2 y3 y4, LeO (area_each.j0 k y0 y1 y2 y3 y4) (area_each.j0 (k + 1) y0 y1 y2 y3 y4)) ∧ (∀ y0 y1 y2 y3 y4 y5 y6 y7 y8, LeO (area_each.l0 k y0 y1 y2 y3 y4 y5 y6 y7 y8) (area_each.l0 (k + 1) y0 y1 y2 y3 y4 y5 y6 y7 y8))
  | 0 => ⟨fun _ _ _ _ _ r h => by simp [area_each.j0] at h, fun _ _ _ _ _ _ _ _ _ r h => by simp [area_each.l0] at h⟩
  | k + 1 => by
    obtain ⟨ih0, ih1⟩ := area_each.mono_l k
    refine ⟨?_, ?_⟩
    · intro y0 y1 y2 y3 y4
      unfold area_each.j0
      repeat' first
      | (with_reducible exact ih0 _ _ _ _ _)
      | (with_reducible exact ih1 _ _ _ _ _ _ _ _ _)
      | (with_reducible exact area_Check.mono _ _)
      | (with_reducible exact area_joined.mono _ _)
      | (with_reducible exact area_parts.mono _ _ _ _)
      | (with_reducible exact LeO.refl _)
      | (with_reducible exact LeO.none _)
      | (with_reducible refine LeO.ite ?_ ?_)
      | (with_reducible refine LeO.bind ?_ (fun _ => ?_))
      | exact ih0 _ _ _ _ _
      | exact ih1 _ _ _ _ _ _ _ _ _
      | exact area_Check.mono _ _
      | exact area_joined.mono _ _
      | exact area_parts.mono _ _ _ _
      | exact LeO.none _
      | refine LeO.ite ?_ ?_
      | refine LeO.bind ?_ (fun _ => ?_)
    · intro y0 y1 y2 y3 y4 y5 y6 y7 y8
      unfold area_each.l0
      repeat' first
      | (with_reducible exact ih0 _ _ _ _ _)
      | (with_reducible exact ih1 _ _ _ _ _ _ _ _ _)
      | (with_reducible exact area_Check.mono _ _)
      | (with_reducible exact area_joined.mono _ _)
      | (with_reducible exact area_parts.mono _ _ _ _)
      | (with_reducible exact LeO.refl _)
      | (with_reducible exact LeO.none _)
      | (with_reducible refine LeO.ite ?_ ?_)
      | (with_reducible refine LeO.bind ?_ (fun _ => ?_))
      | exact ih0 _ _ _ _ _
      | exact ih1 _ _ _ _ _ _ _ _ _
      | exact area_Check.mono _ _
      | exact area_joined.mono _ _
      | exact area_parts.mono _ _ _ _
      | exact LeO.none _
      | refine LeO.ite ?_ ?_
      | refine LeO.bind ?_ (fun _ => ?_)
theorem area_each.mono : ∀ a0 a1 a2 a3 k, LeO (area_each.f k a0 a1 a2 a3) (area_each.f (k + 1) a0 a1 a2 a3) := by
  intro a0 a1 a2 a3 k
  obtain ⟨ih0, ih1⟩ := area_each.mono_l k
  unfold area_each.f
  repeat' first
      | (with_reducible exact ih0 _ _ _ _ _)
      | (with_reducible exact ih1 _ _ _ _ _ _ _ _ _)
      | (with_reducible exact area_Check.mono _ _)
      | (with_reducible exact area_joined.mono _ _)
      | (with_reducible exact area_parts.mono _ _ _ _)
      | (with_reducible exact LeO.refl _)
      | (with_reducible exact LeO.none _)
      | (with_reducible refine LeO.ite ?_ ?_)
      | (with_reducible refine LeO.bind ?_ (fun _ => ?_))
      | exact ih0 _ _ _ _ _
      | exact ih1 _ _ _ _ _ _ _ _ _
      | exact area_Check.mono _ _
      | exact area_joined.mono _ _
      | exact area_parts.mono _ _ _ _
      | exact LeO.none _
      | refine LeO.ite ?_ ?_
      | refine LeO.bind ?_ (fun _ => ?_)
set_option maxHeartbeats 8000000 in
set_option maxRecDepth 100000 in
theorem area_each.calls (k : Nat) (A0 : Option Addr) (c0 : Nat) (l0 : List (S32)) (a1 : Int) (a2 : Int) (a3 : (S32 → S32)) (vF_ : Value) (r1 : List (S32)) (r2 : Option Int) (w : World) (hr0 : Kd.C k32 w A0 l0.length l0) (hc0 : l0.length ≤ c0) (hF : HFn.FnOf Try.prog eF66 rF66 a3 vF_ w) (h : area_each.f k l0 a1 a2 a3 = some (r1, r2)) :
    Calls Try.prog 35 #[.slice A0 l0.length c0, .int .i64 a1, .int .i64 a2, vF_] w fun e w' => ∃ v0_ : Value, e = .returned (.tuple #[v0_, errW r2]) ∧ Kd.R k32 32 w' w.heap.size (fun _ => True) v0_ r1 ∧ Below w.heap.size w w' := by
  have hu32 := Try.underlying32
  have hu25 := Try.underlying25
  have hu28 := Try.underlying28
  have HR0 := Aside0.mk hr0
  have HC0 := Aside0.mk hc0
  clear hr0 hc0
  have HB := Aside0.mk (Below.refl w.heap.size w)
  obtain ⟨gF_, fnF_, lbF_, rfl, hfnF, hnmF, hbdF, hFF0⟩ := hF
  have hFF := Aside0.mk hFF0
  clear hFF0
  have H : ((area_Check.f k l0).bind fun t459 => (if t459.isNone = true then ((area_span.f a1 a2).bind fun t461 => (area_each.j0 k l0 a1 a2 a3 (!t461))) else (area_each.j0 k l0 a1 a2 a3 true))) = some (r1, r2) := h
  clear h
  have HC5 := Aside0.mk H
  clear H
  go_enter Try.func35, Try.ntmps35
  go_upto_region 1 with (fail)
  go_cut [24] (fun v24 wc => ∃ (kq : Nat) (x24_4 : Bool), v24 = .bool x24_4 ∧ Aside0 (area_each.j0 kq l0 a1 a2 a3 x24_4 = some (r1, r2)) ∧ Aside0 (kq ≤ k) ∧ Aside0 (Below w.heap.size w wc))
  case first =>
    have H := HC5.out
    clear HC5
    replace H := Option.bind_eq_some_iff.mp H
    obtain ⟨t459, A60, H⟩ := H
    replace H : (if t459.isNone = true then ((area_span.f a1 a2).bind fun t461 => (area_each.j0 k l0 a1 a2 a3 (!t461))) else (area_each.j0 k l0 a1 a2 a3 true)) = some (r1, r2) := H
    have A6 := Aside0.mk A60
    clear A60
    rcases t459 with _ | q460
    · have H1 : ((area_span.f a1 a2).bind fun t461 => (area_each.j0 k l0 a1 a2 a3 (!t461))) = some (r1, r2) := by rw [if_pos (show (none : Option Int).isNone = true by rfl)] at H; exact H
      clear H
      have H := H1
      clear H1
      try simp only [errW_none, errW_some]
      replace H := Option.bind_eq_some_iff.mp H
      obtain ⟨t461, A70, H⟩ := H
      replace H : (area_each.j0 k l0 a1 a2 a3 (!t461)) = some (r1, r2) := H
      have A7 := Aside0.mk A70
      clear A70
      have H' := Aside0.mk H
      clear H
      go_wp2_with (first | ((with_reducible refine gate_callee (f := 13) rfl ?_); refine goesL_ (some 17) rfl rfl Try.func13 (by kernel_rfl) rfl #[.slice A0 l0.length c0] rfl (by (try simp only [List.map_toArray, List.map_cons, List.map_nil]); first | done | rfl | (simp only [List.length_drop, List.length_take]; rfl)) ?_; (with_reducible refine (area_Check.calls k _ _ l0 none _ ?side1 ?side2 A6.out).mono ?_); (case side1 => repeat (first | exact (Kd.C_below HR0.out HB.out) | (with_reducible refine Kd.C_alloc ?_ _) | (with_reducible refine Kd.C_drewN ?_ _) | (with_reducible refine Kd.C_drew ?_))); (case side2 => exact HC0.out); rintro e w8 ⟨rfl, hb⟩; refine ⟨_, rfl, ?_⟩; have n0_ := Aside0.mk (below_step (by repeat (first | (with_reducible first | exact HB.out | apply below_alloc | apply pw_below_drewN | apply below_drew1) | exact HB.out)) hb); clear HB; have HB := n0_; clear n0_; (try clear hb); (try clear hb2); (try clear hk); (try clear hi); (try simp only [errW_none, errW_some])) | (go_at_call 29; (with_reducible refine (area_span.calls a1 a2 t461 _ A7.out).mono ?_); rintro e w' ⟨rfl, ⟨nd, rfl⟩⟩))
      go_meet
      case rel => exact ⟨_, (!t461), (by first | rfl | (simp; done) | (simp [*]; done)), H', ⟨by first | omega | exact Nat.le_refl _⟩, ⟨by repeat (first | (with_reducible first | exact HB.out | apply below_alloc | apply pw_below_drewN | apply below_drew1) | exact HB.out)⟩⟩
    · have H1 : (area_each.j0 k l0 a1 a2 a3 true) = some (r1, r2) := by rw [if_neg (show ¬ (some q460).isNone = true by simp)] at H; exact H
      clear H
      have H := H1
      clear H1
      try simp only [errW_none, errW_some]
      have H' := Aside0.mk H
      clear H
      go_wp2_with (first | ((with_reducible refine gate_callee (f := 13) rfl ?_); refine goesL_ (some 17) rfl rfl Try.func13 (by kernel_rfl) rfl #[.slice A0 l0.length c0] rfl (by (try simp only [List.map_toArray, List.map_cons, List.map_nil]); first | done | rfl | (simp only [List.length_drop, List.length_take]; rfl)) ?_; (with_reducible refine (area_Check.calls k _ _ l0 (some q460) _ ?side1 ?side2 A6.out).mono ?_); (case side1 => repeat (first | exact (Kd.C_below HR0.out HB.out) | (with_reducible refine Kd.C_alloc ?_ _) | (with_reducible refine Kd.C_drewN ?_ _) | (with_reducible refine Kd.C_drew ?_))); (case side2 => exact HC0.out); rintro e w9 ⟨rfl, hb⟩; refine ⟨_, rfl, ?_⟩; have n0_ := Aside0.mk (below_step (by repeat (first | (with_reducible first | exact HB.out | apply below_alloc | apply pw_below_drewN | apply below_drew1) | exact HB.out)) hb); clear HB; have HB := n0_; clear n0_; (try clear hb); (try clear hb2); (try clear hk); (try clear hi); (try simp only [errW_none, errW_some])))
      go_meet
      case rel => exact ⟨_, (true), (by first | rfl | (simp; done) | (simp [*]; done)), H', ⟨by first | omega | exact Nat.le_refl _⟩, ⟨by repeat (first | (with_reducible first | exact HB.out | apply below_alloc | apply pw_below_drewN | apply below_drew1) | exact HB.out)⟩⟩
  case rest =>
    clear HC5
    try clear c1
    try clear p2
    try clear c3
    try clear q4
    try clear q460
    obtain ⟨kq, x24_4, rfl, HA, HJ4, HB⟩ := hcut
    cases kq with
    | zero => exact absurd HA.out (by simp [area_each.j0])
    | succ kj4 =>
      have H := HA.out
      clear HA
      simp only [area_each.j0] at H
      by_cases c10 : x24_4 = true
      · subst c10
        have H1 : (some (([] : List (S32)), some 1)) = some (r1, r2) := by rw [if_pos rfl] at H; exact H
        clear H
        have H := H1
        clear H1
        simp only [Option.some.injEq, Prod.mk.injEq] at H
        obtain ⟨rfl, rfl⟩ := H
        go_wp2
        go_ret2
        exact ⟨_, by first | rfl | (simp [errW_none, errW_some] <;> rfl) | (simp [*, errW_none, errW_some] <;> rfl), by first | exact Kd.R_nil _ _ _ _ _ | exact Kd.N_nil _ _ _ _ _ | exact Kd.V_nil _ _ _ _ _ | exact Kd.Q_nil _ _ _ _ _ | exact Kd.S_nil _ _ _ _ _, by repeat (first | (with_reducible first | exact HB.out | apply below_alloc | apply pw_below_drewN | apply below_drew1) | exact HB.out)⟩
      · replace c10 := Bool.eq_false_iff.mpr c10
        subst c10
        have H1 : ((area_parts.f kj4 l0 a1 a2).bind fun bt462 => (area_each.l0 kj4 a1 a2 a3 bt462.1 bt462.2.1 bt462.2.2 0 (bt462.2.1.length : Int) 0)) = some (r1, r2) := by rw [if_neg (show ¬ (false = true) by decide)] at H; exact H
        clear H
        have H := H1
        clear H1
        replace H := Option.bind_eq_some_iff.mp H
        obtain ⟨⟨t462, t463, t464⟩, A110, H⟩ := H
        replace H : (area_each.l0 kj4 a1 a2 a3 t462 t463 t464 0 (t463.length : Int) 0) = some (r1, r2) := H
        have A11 := Aside0.mk A110
        clear A110
        have H' := Aside0.mk H
        clear H
        go_wp2_with (first | ((with_reducible refine gate_callee (f := 31) rfl ?_); refine goesL_ (some 30) rfl rfl Try.func31 (by kernel_rfl) rfl #[.slice A0 l0.length c0, .int .i64 a1, .int .i64 a2] rfl (by (try simp only [List.map_toArray, List.map_cons, List.map_nil]); first | done | rfl | (simp only [List.length_drop, List.length_take]; rfl)) ?_; (with_reducible refine (area_parts.calls kj4 _ _ l0 a1 a2 t462 t463 t464 _ ?side1 ?side2 A11.out).mono ?_); (case side1 => repeat (first | exact (Kd.C_below HR0.out HB.out) | (with_reducible refine Kd.C_alloc ?_ _) | (with_reducible refine Kd.C_drewN ?_ _) | (with_reducible refine Kd.C_drew ?_))); (case side2 => exact HC0.out); rintro e w12 ⟨v465, v467, v469, rfl, ho0, ho1, ho2, hb⟩; refine ⟨_, rfl, ?_⟩; have n0_ := Aside0.mk (Kd.R_lower ho0 (below_size (by repeat (first | (with_reducible first | exact HB.out | apply below_alloc | apply pw_below_drewN | apply below_drew1) | exact HB.out)))); have n1_ := Aside0.mk (Kd.R_lower ho1 (below_size (by repeat (first | (with_reducible first | exact HB.out | apply below_alloc | apply pw_below_drewN | apply below_drew1) | exact HB.out)))); have n2_ := Aside0.mk (Kd.R_lower ho2 (below_size (by repeat (first | (with_reducible first | exact HB.out | apply below_alloc | apply pw_below_drewN | apply below_drew1) | exact HB.out)))); have n3_ := Aside0.mk (below_step (by repeat (first | (with_reducible first | exact HB.out | apply below_alloc | apply pw_below_drewN | apply below_drew1) | exact HB.out)) hb); clear HB; have HO466 := n0_; have HO468 := n1_; have HO470 := n2_; have HB := n3_; clear n0_ n1_ n2_ n3_; (try clear hb); (try clear hb2); (try clear hk); (try clear hi); (try clear ho0); (try clear ho1); (try clear ho2); obtain ⟨Ao13, co13, eo13⟩ := Kd.R_slice HO468.out; subst eo13))
        go_loopg [13, 36] kj4 (fun kq v13 v36 w' => ∃ (x11_2 : List (S32)) (x13_2 : Int) (x36_2 : Int), v13 = .int .i64 x13_2 ∧ v36 = .int .i64 x36_2 ∧ Aside0 (area_each.l0 kq a1 a2 a3 t462 x11_2 t464 x13_2 (t463.length : Int) x36_2 = some (r1, r2)) ∧ Aside0 (kq ≤ kj4) ∧ Aside0 (Kd.R k32 32 w' w.heap.size (fun k_ => some k_ ≠ ((.slice Ao13 t463.length co13) : Value).ownBlock ∧ some k_ ≠ (v469 : Value).ownBlock) v465 t462) ∧ Aside0 (Kd.R k32 32 w' w.heap.size (fun k_ => some k_ ≠ (v465 : Value).ownBlock ∧ some k_ ≠ (v469 : Value).ownBlock) (.slice Ao13 t463.length co13) x11_2) ∧ Aside0 (Kd.R k32 32 w' w.heap.size (fun k_ => some k_ ≠ (v465 : Value).ownBlock ∧ some k_ ≠ ((.slice Ao13 t463.length co13) : Value).ownBlock) v469 t464) ∧ Aside0 (Below w.heap.size w w'))
        case atStart => exact ⟨(t463), (0), (0), (by first | rfl | (simp; done) | (simp [*]; done)), (by first | rfl | (simp; done) | (simp [*]; done)), H', ⟨Nat.le_refl _⟩, ⟨by (with_reducible repeat (first | apply Kd.R_alloc | apply Kd.R_drewN | apply Kd.R_drew)); exact HO466.out⟩, ⟨by (with_reducible repeat (first | apply Kd.R_alloc | apply Kd.R_drewN | apply Kd.R_drew)); exact HO468.out⟩, ⟨by (with_reducible repeat (first | apply Kd.R_alloc | apply Kd.R_drewN | apply Kd.R_drew)); exact HO470.out⟩, ⟨by repeat (first | (with_reducible first | exact HB.out | apply below_alloc | apply pw_below_drewN | apply below_drew1) | exact HB.out)⟩⟩
        case round =>
          clear H'
          try clear c1
          try clear p2
          try clear c3
          try clear q4
          try clear c10
          try clear c13
          try clear p2
          try clear q4
          try clear q460
          obtain ⟨x11_2, x13_2, x36_2, rfl, rfl, HA, HK2, HO_10, HO_11, HO_12, HB⟩ := hrel
          have hl11_2 := (Kd.R_reads' HO_11.out).1
          rw [hl11_2] at HO_11
          (try simp only [hl11_2])
          (try simp only [hl11_2] at HO_10)
          (try simp only [hl11_2] at HO_12)
          cases gk with
          | zero => exact absurd HA.out (by simp [area_each.l0])
          | succ k2 =>
            have H := HA.out
            clear HA
            simp only [area_each.l0] at H
            by_cases c14 : x36_2 < (t463.length : Int)
            · rw [if_pos c14] at H
              have c14b0 : decide (x36_2 < (t463.length : Int)) = true := decide_eq_true c14
              try rw [hl11_2] at c14b0
              clear c14
              by_cases c15 : 0 ≤ x36_2
              · rw [if_pos c15] at H
                have c15b0 : decide (0 ≤ x36_2) = true := decide_eq_true c15
                clear c15
                by_cases c16 : x36_2 < (x11_2.length : Int)
                · rw [if_pos c16] at H
                  have c16b0 : decide (x36_2 < (x11_2.length : Int)) = true := decide_eq_true c16
                  try rw [hl11_2] at c16b0
                  clear c16
                  replace H := Option.bind_eq_some_iff.mp H
                  obtain ⟨⟨t473, t474, t475, t476, t477⟩, A170, H⟩ := H
                  replace H : (area_each.l0 k2 a1 a2 a3 t462 (x11_2.set (x36_2 : Int).toNat (⟨t473, t474, (⟨t475, t476⟩ : S30), t477⟩ : S32)) t464 (wrap64 (x13_2 + (wrap64 (((rd_T32 x11_2 x36_2).f1) - ((rd_T32 x11_2 x36_2).f0))))) (t463.length : Int) (wrap64 (x36_2 + 1))) = some (r1, r2) := H
                  have A17 := Aside0.mk A170
                  clear A170
                  obtain ⟨y478, hy478⟩ : ∃ y_ : List (S32), y_ = (x11_2.set (x36_2 : Int).toNat (⟨t473, t474, (⟨t475, t476⟩ : S30), t477⟩ : S32)) := ⟨_, rfl⟩
                  replace H : (area_each.l0 k2 a1 a2 a3 t462 y478 t464 (wrap64 (x13_2 + (wrap64 (((rd_T32 x11_2 x36_2).f1) - ((rd_T32 x11_2 x36_2).f0))))) (t463.length : Int) (wrap64 (x36_2 + 1))) = some (r1, r2) := by first | (rw [hy478]; with_reducible exact H) | (have H2_ := (Option.bind_some _ _).symm.trans H; rw [hy478]; with_reducible exact H2_) | (have H2_ := (Option.bind_some _ _).symm.trans H; with_reducible exact H2_) | with_reducible exact H | (rw [hy478]; exact H) | exact H
                  have Ny478 := Aside0.mk hy478
                  clear hy478
                  have H' := Aside0.mk H
                  clear H
                  have p471 : 0 ≤ (x36_2 : Int) := of_decide_eq_true (by first | (with_reducible assumption) | assumption)
                  have q471 : x36_2 < (x11_2.length : Int) := of_decide_eq_true (by first | (with_reducible assumption) | assumption)
                  obtain ⟨ad471, e471, hx471_0, hx471_1, hx471_2, hx471_3, hx471_4⟩ := at_T32 (Kd.R_reads' HO_11.out).2.2 x36_2 p471 q471
                  cases e471
                  replace p471 := eq_true p471
                  replace q471 := eq_true q471
                  go_wp2_with (first | ((with_reducible refine gate_dst (N := 15) rfl ?_); refine box_event ?hg (N := 15) ?hd (cs := #[.int .i64 0, .int .i64 0, .bool false, .bool false, .bool false]) (t := 32) ?hr ?_; (case hd => rfl); (case hg => rfl); (case hr => first | (go_simp; done) | (go_simp; rfl)); intro gb472 hg w19 hbox hb; have n0_ := Aside0.mk (Kd.R_below (Kd.R_elderB (by (with_reducible repeat (first | apply Kd.R_alloc | apply Kd.R_drewN | apply Kd.R_drew)); exact HO_10.out) gb472 (Nat.le_of_eq hg.symm)) hb); have n1_ := Aside0.mk (Kd.R_below (Kd.R_elderB (by (with_reducible repeat (first | apply Kd.R_alloc | apply Kd.R_drewN | apply Kd.R_drew)); exact HO_11.out) gb472 (Nat.le_of_eq hg.symm)) hb); have n2_ := Aside0.mk (Kd.R_below (Kd.R_elderB (by (with_reducible repeat (first | apply Kd.R_alloc | apply Kd.R_drewN | apply Kd.R_drew)); exact HO_12.out) gb472 (Nat.le_of_eq hg.symm)) hb); have n3_ := Aside0.mk (below_step (by repeat (first | (with_reducible first | exact HB.out | apply below_alloc | apply pw_below_drewN | apply below_drew1) | exact HB.out)) hb); have n4_ := Aside0.mk (hbox); have n5_ := Aside0.mk ((by rw [hg]; exact (below_size (by repeat (first | (with_reducible first | exact HB.out | apply below_alloc | apply pw_below_drewN | apply below_drew1) | exact HB.out))) : w.heap.size ≤ gb472)); have n6_ := Aside0.mk ((by rw [hg]; exact (below_size (by repeat (first | (with_reducible first | exact HB.out | apply below_alloc | apply pw_below_drewN | apply below_drew1) | exact HB.out))) : w.heap.size ≤ gb472)); clear HO_10; clear HO_11; clear HO_12; clear HB; have HO_10 := n0_; have HO_11 := n1_; have HO_12 := n2_; have HB := n3_; have BK472 := n4_; have GW472 := n5_; have GE472 := n6_; clear n0_ n1_ n2_ n3_ n4_ n5_ n6_; clear hb hbox hg; have hcz20_0 : w19.cell? ⟨gb472, 0, none⟩ = some (.int .i64 0) := (blk_cell BK472.out 0).trans rfl; have hcz20_1 : w19.cell? ⟨gb472, 1, none⟩ = some (.int .i64 0) := (blk_cell BK472.out 1).trans rfl; have hcz20_2 : w19.cell? ⟨gb472, 2, none⟩ = some (.bool false) := (blk_cell BK472.out 2).trans rfl; have hcz20_3 : w19.cell? ⟨gb472, 3, none⟩ = some (.bool false) := (blk_cell BK472.out 3).trans rfl; have hcz20_4 : w19.cell? ⟨gb472, 4, none⟩ = some (.bool false) := (blk_cell BK472.out 4).trans rfl; have hfz20_0 := blk_frozen BK472.out 0; have hfz20_1 := blk_frozen BK472.out 1; have hfz20_2 := blk_frozen BK472.out 2; have hfz20_3 := blk_frozen BK472.out 3; have hfz20_4 := blk_frozen BK472.out 4) | ((with_reducible refine HFn.gate_calleeT (f := 1000066) (t := 50) rfl ?_); refine HFn.goesC_ (some 52) rfl rfl hfnF hnmF hbdF #[.agg #[.int .i64 ((rd_T32 x11_2 x36_2).f0), .int .i64 ((rd_T32 x11_2 x36_2).f1), .bool ((rd_T32 x11_2 x36_2).f2.f0), .bool ((rd_T32 x11_2 x36_2).f2.f1), .bool ((rd_T32 x11_2 x36_2).f3)]] rfl (by first | rfl | simp [Act.eval]) (by (try simp only [List.map_toArray, List.map_cons, List.map_nil]); first | done | rfl | (simp only [List.length_drop, List.length_take]; rfl)) ?_; (with_reducible refine (ap66.calls (w0 := w) ((rd_T32 x11_2 x36_2).f0) ((rd_T32 x11_2 x36_2).f1) ((rd_T32 x11_2 x36_2).f2.f0) ((rd_T32 x11_2 x36_2).f2.f1) ((rd_T32 x11_2 x36_2).f3) a3 t473 t474 t475 t476 t477 _ ?side1 ?side2 A17.out).mono ?_); (case side1 => exact hFF.out); (case side2 => exact (by repeat (first | (with_reducible first | exact HB.out | apply below_alloc | apply pw_below_drewN | apply below_drew1 | refine below_set ?_ GE472.out) | exact HB.out))); rintro e w21 ⟨rfl, hb⟩; refine ⟨_, rfl, ?_⟩; have n0_ := Aside0.mk (Kd.R_below (by (with_reducible repeat (first | apply Kd.R_alloc | apply Kd.R_drewN | apply Kd.R_drew)); exact (Kd.R_mono (Kd.R_far (p := ⟨gb472, 4, none⟩) (Kd.R_far (p := ⟨gb472, 3, none⟩) (Kd.R_far (p := ⟨gb472, 2, none⟩) (Kd.R_far (p := ⟨gb472, 1, none⟩) (Kd.R_far (p := ⟨gb472, 0, none⟩) (Kd.R_mono HO_10.out (fun k_ hk => (⟨hk, hk.2⟩ : _ ∧ k_ ≠ gb472))) (fun _ hk => hk.2) (.int .i64 ((rd_T32 x11_2 x36_2).f0))) (fun _ hk => hk.2) (.int .i64 ((rd_T32 x11_2 x36_2).f1))) (fun _ hk => hk.2) (.bool ((rd_T32 x11_2 x36_2).f2.f0))) (fun _ hk => hk.2) (.bool ((rd_T32 x11_2 x36_2).f2.f1))) (fun _ hk => hk.2) (.bool ((rd_T32 x11_2 x36_2).f3))) (fun _ h_ => h_.1))) hb); have n1_ := Aside0.mk (Kd.R_below (by (with_reducible repeat (first | apply Kd.R_alloc | apply Kd.R_drewN | apply Kd.R_drew)); exact (Kd.R_mono (Kd.R_far (p := ⟨gb472, 4, none⟩) (Kd.R_far (p := ⟨gb472, 3, none⟩) (Kd.R_far (p := ⟨gb472, 2, none⟩) (Kd.R_far (p := ⟨gb472, 1, none⟩) (Kd.R_far (p := ⟨gb472, 0, none⟩) (Kd.R_mono HO_11.out (fun k_ hk => (⟨hk, hk.2⟩ : _ ∧ k_ ≠ gb472))) (fun _ hk => hk.2) (.int .i64 ((rd_T32 x11_2 x36_2).f0))) (fun _ hk => hk.2) (.int .i64 ((rd_T32 x11_2 x36_2).f1))) (fun _ hk => hk.2) (.bool ((rd_T32 x11_2 x36_2).f2.f0))) (fun _ hk => hk.2) (.bool ((rd_T32 x11_2 x36_2).f2.f1))) (fun _ hk => hk.2) (.bool ((rd_T32 x11_2 x36_2).f3))) (fun _ h_ => h_.1))) hb); have n2_ := Aside0.mk (Kd.R_below (by (with_reducible repeat (first | apply Kd.R_alloc | apply Kd.R_drewN | apply Kd.R_drew)); exact (Kd.R_mono (Kd.R_far (p := ⟨gb472, 4, none⟩) (Kd.R_far (p := ⟨gb472, 3, none⟩) (Kd.R_far (p := ⟨gb472, 2, none⟩) (Kd.R_far (p := ⟨gb472, 1, none⟩) (Kd.R_far (p := ⟨gb472, 0, none⟩) (Kd.R_mono HO_12.out (fun k_ hk => (⟨hk, hk.2⟩ : _ ∧ k_ ≠ gb472))) (fun _ hk => hk.2) (.int .i64 ((rd_T32 x11_2 x36_2).f0))) (fun _ hk => hk.2) (.int .i64 ((rd_T32 x11_2 x36_2).f1))) (fun _ hk => hk.2) (.bool ((rd_T32 x11_2 x36_2).f2.f0))) (fun _ hk => hk.2) (.bool ((rd_T32 x11_2 x36_2).f2.f1))) (fun _ hk => hk.2) (.bool ((rd_T32 x11_2 x36_2).f3))) (fun _ h_ => h_.1))) hb); have n3_ := Aside0.mk (blk_below (g := gb472) (o := .cells #[.int .i64 ((rd_T32 x11_2 x36_2).f0), .int .i64 ((rd_T32 x11_2 x36_2).f1), .bool ((rd_T32 x11_2 x36_2).f2.f0), .bool ((rd_T32 x11_2 x36_2).f2.f1), .bool ((rd_T32 x11_2 x36_2).f3)] 32 (0, 0)) (by (with_reducible repeat (first | refine blk_drewN ?_ _ | refine blk_drew ?_ | refine blk_alloc ?_ _)); refine blk_put (cs := #[.int .i64 ((rd_T32 x11_2 x36_2).f0), .int .i64 ((rd_T32 x11_2 x36_2).f1), .bool ((rd_T32 x11_2 x36_2).f2.f0), .bool ((rd_T32 x11_2 x36_2).f2.f1), .bool false]) ?_ 4 _ rfl; (with_reducible repeat (first | refine blk_drewN ?_ _ | refine blk_drew ?_ | refine blk_alloc ?_ _)); refine blk_put (cs := #[.int .i64 ((rd_T32 x11_2 x36_2).f0), .int .i64 ((rd_T32 x11_2 x36_2).f1), .bool ((rd_T32 x11_2 x36_2).f2.f0), .bool false, .bool false]) ?_ 3 _ rfl; (with_reducible repeat (first | refine blk_drewN ?_ _ | refine blk_drew ?_ | refine blk_alloc ?_ _)); refine blk_put (cs := #[.int .i64 ((rd_T32 x11_2 x36_2).f0), .int .i64 ((rd_T32 x11_2 x36_2).f1), .bool false, .bool false, .bool false]) ?_ 2 _ rfl; (with_reducible repeat (first | refine blk_drewN ?_ _ | refine blk_drew ?_ | refine blk_alloc ?_ _)); refine blk_put (cs := #[.int .i64 ((rd_T32 x11_2 x36_2).f0), .int .i64 0, .bool false, .bool false, .bool false]) ?_ 1 _ rfl; (with_reducible repeat (first | refine blk_drewN ?_ _ | refine blk_drew ?_ | refine blk_alloc ?_ _)); refine blk_put (cs := #[.int .i64 0, .int .i64 0, .bool false, .bool false, .bool false]) ?_ 0 _ rfl; (with_reducible repeat (first | refine blk_drewN ?_ _ | refine blk_drew ?_ | refine blk_alloc ?_ _)); exact BK472.out) hb); have n4_ := Aside0.mk (below_step (by repeat (first | (with_reducible first | exact HB.out | apply below_alloc | apply pw_below_drewN | apply below_drew1 | refine below_set ?_ GE472.out) | exact HB.out)) hb); clear HO_10; clear HO_11; clear HO_12; clear BK472; clear HB; have HO_10 := n0_; have HO_11 := n1_; have HO_12 := n2_; have BK472 := n3_; have HB := n4_; clear n0_ n1_ n2_ n3_ n4_; (try clear hb); (try clear hb2); (try clear hk); (try clear hi); have p18 : 0 ≤ (x36_2 : Int) := of_decide_eq_true (by first | (with_reducible assumption) | assumption); have q18 : (x36_2 : Int) < ((x11_2.length : Int) : Int) := of_decide_eq_true (by first | (with_reducible assumption) | assumption); obtain ⟨go18, co18, eo18, gb18, gl18, cl18, HG18⟩ := Kd.R_form HO_11.out (by omega); (first | cases eo18 | (injection eo18 with ea_ en_ ec_; (first | subst ea_ | (injection ea_ with ea_; subst ea_)); subst ec_; clear en_)); have GB18 := Aside0.mk gb18; have GG18 := Aside0.mk HG18; clear gb18 gl18 HG18; (first | simp only [add_plain] at hx471_0 | skip); (first | simp only [add_plain] at hx471_1 | skip); (first | simp only [add_plain] at hx471_2 | skip); (first | simp only [add_plain] at hx471_3 | skip); (first | simp only [add_plain] at hx471_4 | skip); obtain ⟨ce18, hcl18, hM18, hcc18, hfr18⟩ := Kd.R_elem HO_11.out z32 (x36_2 : Int) p18 q18; obtain rfl := k32_openM hM18; have hx18_0 : w21.cell? ⟨go18, (x36_2 : Int).toNat * 5, none⟩ = some (.int .i64 ((rd_T32 x11_2 x36_2).f0)) := hcc18 0 _ rfl; have hx18_1 : w21.cell? ⟨go18, (x36_2 : Int).toNat * 5 + 1, none⟩ = some (.int .i64 ((rd_T32 x11_2 x36_2).f1)) := hcc18 1 _ rfl; have hx18_2 : w21.cell? ⟨go18, (x36_2 : Int).toNat * 5 + 2, none⟩ = some (.bool ((rd_T32 x11_2 x36_2).f2.f0)) := hcc18 2 _ rfl; have hx18_3 : w21.cell? ⟨go18, (x36_2 : Int).toNat * 5 + 3, none⟩ = some (.bool ((rd_T32 x11_2 x36_2).f2.f1)) := hcc18 3 _ rfl; have hx18_4 : w21.cell? ⟨go18, (x36_2 : Int).toNat * 5 + 4, none⟩ = some (.bool ((rd_T32 x11_2 x36_2).f3)) := hcc18 4 _ rfl; have hf18_0 : w21.frozen? ⟨go18, (x36_2 : Int).toNat * 5, none⟩ = false := hfr18 0; have hf18_1 : w21.frozen? ⟨go18, (x36_2 : Int).toNat * 5 + 1, none⟩ = false := hfr18 1; have hf18_2 : w21.frozen? ⟨go18, (x36_2 : Int).toNat * 5 + 2, none⟩ = false := hfr18 2; have hf18_3 : w21.frozen? ⟨go18, (x36_2 : Int).toNat * 5 + 3, none⟩ = false := hfr18 3; have hf18_4 : w21.frozen? ⟨go18, (x36_2 : Int).toNat * 5 + 4, none⟩ = false := hfr18 4; clear hcl18 hcc18 hfr18 hM18; replace p18 := eq_true p18; replace q18 := eq_true q18; have n_ := Aside0.mk (Kd.R_mono (ok' := (fun k_ => some k_ ≠ (v465 : Value).ownBlock ∧ some k_ ≠ (v469 : Value).ownBlock ∧ k_ ≠ gb472)) HO_11.out (fun k_ hk => ⟨hk.1.1, ⟨hk.1.2, hk.2⟩⟩)); clear HO_11; have HO_11 := n_; clear n_; have HX22 := Aside0.mk (show Kd.R k32 32 w21 w.heap.size (fun k_ => some k_ ≠ (v465 : Value).ownBlock ∧ some k_ ≠ (v469 : Value).ownBlock ∧ k_ ≠ gb472) (.slice (some ⟨go18, 0, none⟩) x11_2.length co13) x11_2 from (by (with_reducible repeat (first | apply Kd.R_alloc | apply Kd.R_drewN | apply Kd.R_drew)); exact HO_11.out)); obtain ⟨ce22, hcl22, hM22, hcc22, hfr22⟩ := Kd.R_elem HX22.out z32 (x36_2 : Int) (of_decide_eq_true (by first | (with_reducible assumption) | assumption)) (by have h_ : (x36_2 : Int) < ((x11_2.length : Int) : Int) := of_decide_eq_true (by first | (with_reducible assumption) | assumption); first | exact h_ | (have e_ := (Kd.R_reads' HO_11.out).1; omega) | simpa using h_); obtain rfl := k32_openM hM22; have HP22 := Kd.R_seg HX22.out (x36_2 : Int) (of_decide_eq_true (by first | (with_reducible assumption) | assumption)) (by have h_ : (x36_2 : Int) < ((x11_2.length : Int) : Int) := of_decide_eq_true (by first | (with_reducible assumption) | assumption); first | exact h_ | (have e_ := (Kd.R_reads' HO_11.out).1; omega) | simpa using h_) (seg := [.int .i64 t473, .int .i64 t474, .bool t475, .bool t476, .bool t477]) (j := 0) hcl22 hcc22 (show 5 ≤ 5 from by decide) (x' := (⟨t473, t474, (⟨t475, t476⟩ : S30), t477⟩ : S32)) (k32_mkM _ _ _ (⟨t473, t474, (⟨t475, t476⟩ : S30), t477⟩ : S32) ) (fun _ hk => hk); have hx22_0 := hcc22 0 _ rfl; (try simp only [show (k32).sz = 5 from rfl, Nat.mul_one, Nat.add_zero] at hx22_0); have hf22_0 := hfr22 0; (try simp only [show (k32).sz = 5 from rfl, Nat.mul_one, Nat.add_zero] at hf22_0); have hx22_1 := hcc22 1 _ rfl; (try simp only [show (k32).sz = 5 from rfl, Nat.mul_one, Nat.add_zero] at hx22_1); have hf22_1 := hfr22 1; (try simp only [show (k32).sz = 5 from rfl, Nat.mul_one, Nat.add_zero] at hf22_1); have hx22_2 := hcc22 2 _ rfl; (try simp only [show (k32).sz = 5 from rfl, Nat.mul_one, Nat.add_zero] at hx22_2); have hf22_2 := hfr22 2; (try simp only [show (k32).sz = 5 from rfl, Nat.mul_one, Nat.add_zero] at hf22_2); have hx22_3 := hcc22 3 _ rfl; (try simp only [show (k32).sz = 5 from rfl, Nat.mul_one, Nat.add_zero] at hx22_3); have hf22_3 := hfr22 3; (try simp only [show (k32).sz = 5 from rfl, Nat.mul_one, Nat.add_zero] at hf22_3); have hx22_4 := hcc22 4 _ rfl; (try simp only [show (k32).sz = 5 from rfl, Nat.mul_one, Nat.add_zero] at hx22_4); have hf22_4 := hfr22 4; (try simp only [show (k32).sz = 5 from rfl, Nat.mul_one, Nat.add_zero] at hf22_4); clear hcl22 hcc22 hfr22 hM22) | ((with_reducible refine gate_store (t := 32) (p := 53) rfl ?_); refine store_event (t := 32) (p := 53) (v := ?vo_w23) (w1 := (((((w21.setCell ⟨go18, (x36_2 : Int).toNat * 5, none⟩ (.int .i64 t473)).setCell ⟨go18, (x36_2 : Int).toNat * 5 + 1, none⟩ (.int .i64 t474)).setCell ⟨go18, (x36_2 : Int).toNat * 5 + 2, none⟩ (.bool t475)).setCell ⟨go18, (x36_2 : Int).toNat * 5 + 3, none⟩ (.bool t476)).setCell ⟨go18, (x36_2 : Int).toNat * 5 + 4, none⟩ (.bool t477))) ?hg ?ho ?hn ?hr ?_; (case ho => rfl); (case hg => rfl); (case hn => rfl); (case hr => first | (go_simp; done) | (go_simp; rfl)); intro w23 hw; have hg : w21.grownBy w23 (some go18) := (by rw [hw]; exact HP22.2); have hp_ : Kd.R k32 32 w23 w.heap.size (fun k_ => some k_ ≠ (v465 : Value).ownBlock ∧ some k_ ≠ (v469 : Value).ownBlock ∧ k_ ≠ gb472) (.slice (some ⟨go18, 0, none⟩) x11_2.length co13) y478 := (by rw [hw, Ny478.out]; exact HP22.1); clear HP22; have n0_ := Aside0.mk (Kd.R_after (v := (.slice (some ⟨go18, 0, none⟩) x11_2.length co13)) (v1 := (.slice (some ⟨go18, 0, none⟩) x11_2.length co13)) (ok := (fun k_ => some k_ ≠ (v469 : Value).ownBlock ∧ k_ ≠ gb472)) (by (with_reducible repeat (first | apply Kd.R_alloc | apply Kd.R_drewN | apply Kd.R_drew)); exact Kd.R_mono HO_10.out (fun _ hk => ⟨⟨hk.1.2, hk.2⟩, hk.1.1⟩)) hg (.inl rfl)); have n1_ := Aside0.mk (hp_); have n2_ := Aside0.mk (Kd.R_after (v := (.slice (some ⟨go18, 0, none⟩) x11_2.length co13)) (v1 := (.slice (some ⟨go18, 0, none⟩) x11_2.length co13)) (ok := (fun k_ => some k_ ≠ (v465 : Value).ownBlock ∧ k_ ≠ gb472)) (by (with_reducible repeat (first | apply Kd.R_alloc | apply Kd.R_drewN | apply Kd.R_drew)); exact Kd.R_mono HO_12.out (fun _ hk => ⟨⟨hk.1.1, hk.2⟩, hk.1.2⟩)) hg (.inl rfl)); have n3_ := Aside0.mk (blk_grown (g := gb472) (o := .cells #[.int .i64 ((rd_T32 x11_2 x36_2).f0), .int .i64 ((rd_T32 x11_2 x36_2).f1), .bool ((rd_T32 x11_2 x36_2).f2.f0), .bool ((rd_T32 x11_2 x36_2).f2.f1), .bool ((rd_T32 x11_2 x36_2).f3)] 32 (0, 0)) (by (with_reducible repeat (first | refine blk_drewN ?_ _ | refine blk_drew ?_ | refine blk_alloc ?_ _)); exact BK472.out) hg (Kd.R_away HO_11.out (fun _ hk => hk.2.2))); have n4_ := Aside0.mk ((by rw [hw]; exact below_set (below_set (below_set (below_set (below_set (HB.out) GB18.out) GB18.out) GB18.out) GB18.out) GB18.out : Below w.heap.size w w23)); clear HO_10; clear HO_11; clear HO_12; clear BK472; clear HB; have HO_10 := n0_; have HO_11 := n1_; have HO_12 := n2_; have BK472 := n3_; have HB := n4_; clear n0_ n1_ n2_ n3_ n4_; clear hg hw hp_))
                  (try simp only [← hl11_2])
                  go_roundg k2
                  case measure => have := HJ4.out; have := HK2.out; omega
                  case rel => exact ⟨(y478), (wrap64 (x13_2 + (wrap64 (((rd_T32 x11_2 x36_2).f1) - ((rd_T32 x11_2 x36_2).f0))))), (wrap64 (x36_2 + 1)), (by first | rfl | (simp; done) | (simp [*]; done)), (by first | rfl | (simp; done) | (simp [*]; done)), H', ⟨by have := HJ4.out; have := HK2.out; omega⟩, ⟨by (try simp only [hl11_2]); (with_reducible repeat (first | apply Kd.R_alloc | apply Kd.R_drewN | apply Kd.R_drew)); exact Kd.R_mono HO_10.out (fun _ hk => ⟨hk.2, hk.1.1⟩)⟩, ⟨by (try simp only [hl11_2]); (with_reducible repeat (first | apply Kd.R_alloc | apply Kd.R_drewN | apply Kd.R_drew)); exact Kd.R_mono HO_11.out (fun _ hk => ⟨hk.1, hk.2.1⟩)⟩, ⟨by (try simp only [hl11_2]); (with_reducible repeat (first | apply Kd.R_alloc | apply Kd.R_drewN | apply Kd.R_drew)); exact Kd.R_mono HO_12.out (fun _ hk => ⟨hk.1.1, hk.2⟩)⟩, ⟨by repeat (first | (with_reducible first | exact HB.out | apply below_alloc | apply pw_below_drewN | apply below_drew1 | refine below_set ?_ GE472.out) | exact HB.out)⟩⟩
                · rw [if_neg c16] at H
                  exact absurd H (by simp)
              · rw [if_neg c15] at H
                exact absurd H (by simp)
            · rw [if_neg c14] at H
              have c14b0 : decide (x36_2 < (t463.length : Int)) = false := decide_eq_false c14
              try rw [hl11_2] at c14b0
              clear c14
              by_cases c24 : x13_2 < (wrap64 (a2 - a1))
              · rw [if_pos c24] at H
                have c24b0 : decide (x13_2 < (wrap64 (a2 - a1))) = true := decide_eq_true c24
                clear c24
                simp only [Option.some.injEq, Prod.mk.injEq] at H
                obtain ⟨rfl, rfl⟩ := H
                go_wp2
                go_ret2
                exact ⟨_, by first | rfl | (simp [errW_none, errW_some] <;> rfl) | (simp [*, errW_none, errW_some] <;> rfl), by first | exact Kd.R_nil _ _ _ _ _ | exact Kd.N_nil _ _ _ _ _ | exact Kd.V_nil _ _ _ _ _ | exact Kd.Q_nil _ _ _ _ _ | exact Kd.S_nil _ _ _ _ _, by repeat (first | (with_reducible first | exact HB.out | apply below_alloc | apply pw_below_drewN | apply below_drew1) | exact HB.out)⟩
              · rw [if_neg c24] at H
                have c24b0 : decide (x13_2 < (wrap64 (a2 - a1))) = false := decide_eq_false c24
                clear c24
                obtain ⟨y479, hy479⟩ : ∃ y_ : List (List (S32)), y_ = (([t462, x11_2, t464] : List (List (S32)))) := ⟨_, rfl⟩
                replace H : ((area_joined.f k2 y479).bind fun bt482 => (some (bt482.1, bt482.2))) = some (r1, r2) := by first | (rw [hy479]; with_reducible exact H) | (have H2_ := (Option.bind_some _ _).symm.trans H; rw [hy479]; with_reducible exact H2_) | (have H2_ := (Option.bind_some _ _).symm.trans H; with_reducible exact H2_) | with_reducible exact H | (rw [hy479]; exact H) | exact H
                have Ny479 := Aside0.mk hy479
                clear hy479
                replace H := Option.bind_eq_some_iff.mp H
                obtain ⟨⟨t482, t483⟩, A250, H⟩ := H
                replace H : (some (t482, t483)) = some (r1, r2) := H
                have A25 := Aside0.mk A250
                clear A250
                simp only [Option.some.injEq, Prod.mk.injEq] at H
                obtain ⟨rfl, rfl⟩ := H
                obtain ⟨Ao26, co26, eo26⟩ := Kd.R_slice HO_10.out
                subst eo26
                obtain ⟨Ao27, co27, eo27⟩ := Kd.R_slice HO_12.out
                subst eo27
                go_wp2_with (first | ((with_reducible refine gate_dst (N := 64) rfl ?_); refine Kd.N_lit (Kd.slice 32 k32) _ 22 ?hg (N' := 64) ?hd (xs := ([t462, x11_2, t464] : List (List (S32)))) (inner := [.slice Ao26 t462.length co26, .slice Ao13 x11_2.length co13, .slice Ao27 t464.length co27]) (ok := (fun _ => True)) (okp := (fun _ => True)) ?hr ?hp (fun _ hk => hk) ((show ∀ k_, wr.heap.size ≤ k_ → (fun _ => True) k_ from fun k_ hk => trivial) _ (Nat.le_refl _)) (Below.refl _ _) (Nat.le_refl _) (by simp) ?_; (case hd => rfl); (case hg => rfl); (case hr => first | (go_simp; done) | (go_simp; rfl)); (case hp => exact (Reps.one (show Kd.FK (Kd.slice 32 k32) _ _ t462 [.slice Ao26 t462.length co26] from (Kd.FK_slice_mk (Kd.R_reads' (Kd.R_mono (ok' := (fun _ => True)) (HO_10.out) (fun k_ hk => trivial))).2.1 (Kd.R_F (Kd.R_mono (ok' := (fun _ => True)) (HO_10.out) (fun k_ hk => trivial))))) (Reps.one (show Kd.FK (Kd.slice 32 k32) _ _ x11_2 [.slice Ao13 x11_2.length co13] from (Kd.FK_slice_mk (Kd.R_reads' (Kd.R_mono (ok' := (fun _ => True)) (HO_11.out) (fun k_ hk => trivial))).2.1 (Kd.R_F (Kd.R_mono (ok' := (fun _ => True)) (HO_11.out) (fun k_ hk => trivial))))) (Reps.one (show Kd.FK (Kd.slice 32 k32) _ _ t464 [.slice Ao27 t464.length co27] from (Kd.FK_slice_mk (Kd.R_reads' (Kd.R_mono (ok' := (fun _ => True)) (HO_12.out) (fun k_ hk => trivial))).2.1 (Kd.R_F (Kd.R_mono (ok' := (fun _ => True)) (HO_12.out) (fun k_ hk => trivial))))) (Reps.none _ _))))); intro v480 w28 ho29 hb hg_ hnew_; clear hg_ hnew_; (first | rw [← Ny479.out] at ho29 | (simp only [Int.reduceToNat] at ho29; rw [← Ny479.out] at ho29)); have n0_ := Aside0.mk (Kd.N_lower ho29 (below_size (by repeat (first | (with_reducible first | exact HB.out | apply below_alloc | apply pw_below_drewN | apply below_drew1) | exact HB.out)))); have n1_ := Aside0.mk (below_step (by repeat (first | (with_reducible first | exact HB.out | apply below_alloc | apply pw_below_drewN | apply below_drew1) | exact HB.out)) hb); clear HB; clear HO_10; clear HO_11; clear HO_12; have HO481 := n0_; have HB := n1_; clear n0_ n1_; clear hb ho29; obtain ⟨Ao30, co30, eo30⟩ := Kd.N_slice HO481.out; subst eo30) | ((with_reducible refine gate_callee (f := 32) rfl ?_); refine goesL_ (some 65) rfl rfl Try.func32 (by kernel_rfl) rfl #[.slice Ao30 y479.length co30] rfl (by (try simp only [List.map_toArray, List.map_cons, List.map_nil]); first | done | rfl | (simp only [List.length_drop, List.length_take]; rfl)) ?_; (with_reducible refine (area_joined.calls k2 _ _ y479 t482 t483 _ ?side1 ?side2 A25.out).mono ?_); (case side1 => repeat (first | exact (Kd.N_reads' HO481.out).2.2 | (with_reducible refine Kd.C_alloc ?_ _) | (with_reducible refine Kd.C_drewN ?_ _) | (with_reducible refine Kd.C_drew ?_))); (case side2 => exact (Kd.N_reads' HO481.out).2.1); rintro e w31 ⟨v484, rfl, ho0, hb⟩; refine ⟨_, rfl, ?_⟩; have n0_ := Aside0.mk (Kd.N_elder' (by (with_reducible repeat (first | apply Kd.N_alloc | apply Kd.N_drewN | apply Kd.N_drew)); exact HO481.out) (Kd.R_base ho0) hb); have n1_ := Aside0.mk (Kd.R_lower ho0 (below_size (by repeat (first | (with_reducible first | exact HB.out | apply below_alloc | apply pw_below_drewN | apply below_drew1) | exact HB.out)))); have n2_ := Aside0.mk (below_step (by repeat (first | (with_reducible first | exact HB.out | apply below_alloc | apply pw_below_drewN | apply below_drew1) | exact HB.out)) hb); clear HO481; clear HB; have HO481 := n0_; have HO485 := n1_; have HB := n2_; clear n0_ n1_ n2_; (try clear hb); (try clear hb2); (try clear hk); (try clear hi); (try clear ho0); (try simp only [errW_none, errW_some])))
                go_ret2
                exact ⟨_, by first | rfl | (simp [errW_none, errW_some] <;> rfl) | (simp [*, errW_none, errW_some] <;> rfl), by (with_reducible repeat (first | apply Kd.R_alloc | apply Kd.R_drewN | apply Kd.R_drew)); exact HO485.out, by repeat (first | (with_reducible first | exact HB.out | apply below_alloc | apply pw_below_drewN | apply below_drew1) | exact HB.out)⟩

end Go.Proofs.Ytlmjjkggoemabab.Q
