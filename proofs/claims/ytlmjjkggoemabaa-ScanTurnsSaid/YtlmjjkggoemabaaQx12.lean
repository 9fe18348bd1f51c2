-- Written by this session's program wip/tools/xprint.py (the kit's printer, turned by it); not the kit's own print.
import Derived.Test.YtlmjjkggoemabaaQx0
import Derived.Test.YtlmjjkggoemabaaQx4
import Derived.Test.YtlmjjkggoemabaaQx9
namespace Go.Proofs.Ytlmjjkggoemabaa.Q
open Go.RowKit Go.Proofs.YtlmjjkggoemabaaW.PrintWords Go.Proofs.YtlmjjkggoemabaaW.PrintLast Go.Proofs.YtlmjjkggoemabaaW.PrintMore
attribute [local go_sem] max2_int min2_int max_two min_two max_three min_three max_four min_four   -- for this text's walks alone
set_option linter.unusedVariables false
set_option linter.unusedSimpArgs false

attribute [local go_sem high] eqErr_some neErr_some eqErr_left neErr_left
/-! ### paviorlaw19_ScanTurns: function 6 -/
mutual
def paviorlaw19_ScanTurns.j0 : Nat → Int → List (S41) → List Int → Int → Bool → Bool → Option (Bool)
  | 0, _, _, _, _, _, _ => none
  | k + 1, x0, x1, x2, x3, x9, x27 => if x27 = true then (some x9) else ((scan_Pairs.f k x0 x1 x2).bind fun bt252 => (if bt252.2.isNone = true then (paviorlaw19_ScanTurns.l0 k x0 x1 x3 x9 bt252.1 1) else (some x9)))
def paviorlaw19_ScanTurns.l0 : Nat → Int → List (S41) → Int → Bool → List (S35) → Int → Option (Bool)
  | 0, _, _, _, _, _, _ => none
  | k + 1, x0, x1, x3, x9, x10, x12 => if x12 < (x10.length : Int) then (if 0 ≤ x12 then (if 0 ≤ (wrap64 (x12 - 1)) then (if (wrap64 (x12 - 1)) < (x10.length : Int) then (if ((rd_T35 x10 x12).f0) ≤ ((rd_T35 x10 (wrap64 (x12 - 1))).f0) then (paviorlaw19_ScanTurns.j2 k x0 x1 x3 x9 x10 x12 true) else (paviorlaw19_ScanTurns.j2 k x0 x1 x3 x9 x10 x12 (decide (((rd_T35 x10 x12).f1) ≥ ((rd_T35 x10 (wrap64 (x12 - 1))).f1))))) else (none)) else (none)) else (none)) else ((scan_Broken.f k x0 x1 0).bind fun bt261 => ((scan_Broken.f k x0 x1 x3).bind fun bt263 => ((scan_Broken.f k x0 x1 (wrap64 (x3 + 1))).bind fun bt265 => (if bt261.2.isNone = true then (paviorlaw19_ScanTurns.j3 k x9 bt263.1 bt263.2 bt265.1 bt265.2 (bt261.1 != 0)) else (paviorlaw19_ScanTurns.j3 k x9 bt263.1 bt263.2 bt265.1 bt265.2 true)))))
def paviorlaw19_ScanTurns.j2 : Nat → Int → List (S41) → Int → Bool → List (S35) → Int → Bool → Option (Bool)
  | 0, _, _, _, _, _, _, _ => none
  | k + 1, x0, x1, x3, x9, x10, x12, x70 => if x70 = true then (some false) else (paviorlaw19_ScanTurns.l0 k x0 x1 x3 x9 x10 (wrap64 (x12 + 1)))
def paviorlaw19_ScanTurns.j3 : Nat → Bool → Int → Option Int → Int → Option Int → Bool → Option (Bool)
  | 0, _, _, _, _, _, _ => none
  | k + 1, x9, x15, x16, x17, x18, x97 => if x97 = true then (some false) else (if x9 = true then (if x16.isNone = true then (if x18.isNone = true then (some (decide (x15 ≤ x17))) else (some true)) else (some true)) else (some false))
end
def paviorlaw19_ScanTurns.f (k : Nat) (a0 : Int) (l1 : List (S41)) (l2 : List Int) (a3 : Int) : Option (Bool) := (paviorlaw19_up.f k).bind fun t251 => (if (l1.length : Int) > 200 then (paviorlaw19_ScanTurns.j0 k a0 l1 l2 a3 t251 true) else (paviorlaw19_ScanTurns.j0 k a0 l1 l2 a3 t251 (decide ((l2.length : Int) > 600))))
theorem paviorlaw19_ScanTurns.mono_l : ∀ k, (∀ y0 y1 y2 y3 y4 y5, LeO (paviorlaw19_ScanTurns.j0 k y0 y1 y2 y3 y4 y5) (paviorlaw19_ScanTurns.j0 (k + 1) y0 y1 y2 y3 y4 y5)) ∧ (∀ y0 y1 y2 y3 y4 y5, LeO (paviorlaw19_ScanTurns.l0 k y0 y1 y2 y3 y4 y5) (paviorlaw19_ScanTurns.l0 (k + 1) y0 y1 y2 y3 y4 y5)) ∧ (∀ y0 y1 y2 y3 y4 y5 y6, LeO (paviorlaw19_ScanTurns.j2 k y0 y1 y2 y3 y4 y5 y6) (paviorlaw19_ScanTurns.j2 (k + 1) y0 y1 y2 y3 y4 y5 y6)) ∧ (∀ y0 y1 y2 y3 y4 y5, LeO (paviorlaw19_ScanTurns.j3 k y0 y1 y2 y3 y4 y5) (paviorlaw19_ScanTurns.j3 (k + 1) y0 y1 y2 y3 y4 y5))
  | 0 => ⟨fun _ _ _ _ _ _ r h => by simp [paviorlaw19_ScanTurns.j0] at h, fun _ _ _ _ _ _ r h => by simp [paviorlaw19_ScanTurns.l0] at h, fun _ _ _ _ _ _ _ r h => by simp [paviorlaw19_ScanTurns.j2] at h, fun _ _ _ _ _ _ r h => by simp [paviorlaw19_ScanTurns.j3] at h⟩
  | k + 1 => by
    obtain ⟨ih0, ih1, ih2, ih3⟩ := paviorlaw19_ScanTurns.mono_l k
    refine ⟨?_, ?_, ?_, ?_⟩
    · intro y0 y1 y2 y3 y4 y5
      unfold paviorlaw19_ScanTurns.j0
      repeat' first
      | (with_reducible exact ih0 _ _ _ _ _ _)
      | (with_reducible exact ih1 _ _ _ _ _ _)
      | (with_reducible exact ih2 _ _ _ _ _ _ _)
      | (with_reducible exact ih3 _ _ _ _ _ _)
      | (with_reducible exact paviorlaw19_up.mono _)
      | (with_reducible exact scan_Broken.mono _ _ _ _)
      | (with_reducible exact scan_Pairs.mono _ _ _ _)
      | (with_reducible exact LeO.refl _)
      | (with_reducible exact LeO.none _)
      | (with_reducible refine LeO.ite ?_ ?_)
      | (with_reducible refine LeO.bind ?_ (fun _ => ?_))
      | exact ih0 _ _ _ _ _ _
      | exact ih1 _ _ _ _ _ _
      | exact ih2 _ _ _ _ _ _ _
      | exact ih3 _ _ _ _ _ _
      | exact paviorlaw19_up.mono _
      | exact scan_Broken.mono _ _ _ _
      | exact scan_Pairs.mono _ _ _ _
      | exact LeO.none _
      | refine LeO.ite ?_ ?_
      | refine LeO.bind ?_ (fun _ => ?_)
    · intro y0 y1 y2 y3 y4 y5
      unfold paviorlaw19_ScanTurns.l0
      repeat' first
      | (with_reducible exact ih0 _ _ _ _ _ _)
      | (with_reducible exact ih1 _ _ _ _ _ _)
      | (with_reducible exact ih2 _ _ _ _ _ _ _)
      | (with_reducible exact ih3 _ _ _ _ _ _)
      | (with_reducible exact paviorlaw19_up.mono _)
      | (with_reducible exact scan_Broken.mono _ _ _ _)
      | (with_reducible exact scan_Pairs.mono _ _ _ _)
      | (with_reducible exact LeO.refl _)
      | (with_reducible exact LeO.none _)
      | (with_reducible refine LeO.ite ?_ ?_)
      | (with_reducible refine LeO.bind ?_ (fun _ => ?_))
      | exact ih0 _ _ _ _ _ _
      | exact ih1 _ _ _ _ _ _
      | exact ih2 _ _ _ _ _ _ _
      | exact ih3 _ _ _ _ _ _
      | exact paviorlaw19_up.mono _
      | exact scan_Broken.mono _ _ _ _
      | exact scan_Pairs.mono _ _ _ _
      | exact LeO.none _
      | refine LeO.ite ?_ ?_
      | refine LeO.bind ?_ (fun _ => ?_)
    · intro y0 y1 y2 y3 y4 y5 y6
      unfold paviorlaw19_ScanTurns.j2
      repeat' first
      | (with_reducible exact ih0 _ _ _ _ _ _)
      | (with_reducible exact ih1 _ _ _ _ _ _)
      | (with_reducible exact ih2 _ _ _ _ _ _ _)
      | (with_reducible exact ih3 _ _ _ _ _ _)
      | (with_reducible exact paviorlaw19_up.mono _)
      | (with_reducible exact scan_Broken.mono _ _ _ _)
      | (with_reducible exact scan_Pairs.mono _ _ _ _)
      | (with_reducible exact LeO.refl _)
      | (with_reducible exact LeO.none _)
      | (with_reducible refine LeO.ite ?_ ?_)
      | (with_reducible refine LeO.bind ?_ (fun _ => ?_))
      | exact ih0 _ _ _ _ _ _
      | exact ih1 _ _ _ _ _ _
      | exact ih2 _ _ _ _ _ _ _
      | exact ih3 _ _ _ _ _ _
      | exact paviorlaw19_up.mono _
      | exact scan_Broken.mono _ _ _ _
      | exact scan_Pairs.mono _ _ _ _
      | exact LeO.none _
      | refine LeO.ite ?_ ?_
      | refine LeO.bind ?_ (fun _ => ?_)
    · intro y0 y1 y2 y3 y4 y5
      unfold paviorlaw19_ScanTurns.j3
      repeat' first
      | (with_reducible exact ih0 _ _ _ _ _ _)
      | (with_reducible exact ih1 _ _ _ _ _ _)
      | (with_reducible exact ih2 _ _ _ _ _ _ _)
      | (with_reducible exact ih3 _ _ _ _ _ _)
      | (with_reducible exact paviorlaw19_up.mono _)
      | (with_reducible exact scan_Broken.mono _ _ _ _)
      | (with_reducible exact scan_Pairs.mono _ _ _ _)
      | (with_reducible exact LeO.refl _)
      | (with_reducible exact LeO.none _)
      | (with_reducible refine LeO.ite ?_ ?_)
      | (with_reducible refine LeO.bind ?_ (fun _ => ?_))
      | exact ih0 _ _ _ _ _ _
      | exact ih1 _ _ _ _ _ _
      | exact ih2 _ _ _ _ _ _ _
      | exact ih3 _ _ _ _ _ _
      | exact paviorlaw19_up.mono _
      | exact scan_Broken.mono _ _ _ _
      | exact scan_Pairs.mono _ _ _ _
      | exact LeO.none _
      | refine LeO.ite ?_ ?_
      | refine LeO.bind ?_ (fun _ => ?_)
theorem paviorlaw19_ScanTurns.mono : ∀ a0 a1 a2 a3 k, LeO (paviorlaw19_ScanTurns.f k a0 a1 a2 a3) (paviorlaw19_ScanTurns.f (k + 1) a0 a1 a2 a3) := by
  intro a0 a1 a2 a3 k
  obtain ⟨ih0, ih1, ih2, ih3⟩ := paviorlaw19_ScanTurns.mono_l k
  unfold paviorlaw19_ScanTurns.f
  repeat' first
      | (with_reducible exact ih0 _ _ _ _ _ _)
      | (with_reducible exact ih1 _ _ _ _ _ _)
      | (with_reducible exact ih2 _ _ _ _ _ _ _)
      | (with_reducible exact ih3 _ _ _ _ _ _)
      | (with_reducible exact paviorlaw19_up.mono _)
      | (with_reducible exact scan_Broken.mono _ _ _ _)
      | (with_reducible exact scan_Pairs.mono _ _ _ _)
      | (with_reducible exact LeO.refl _)
      | (with_reducible exact LeO.none _)
      | (with_reducible refine LeO.ite ?_ ?_)
      | (with_reducible refine LeO.bind ?_ (fun _ => ?_))
      | exact ih0 _ _ _ _ _ _
      | exact ih1 _ _ _ _ _ _
      | exact ih2 _ _ _ _ _ _ _
      | exact ih3 _ _ _ _ _ _
      | exact paviorlaw19_up.mono _
      | exact scan_Broken.mono _ _ _ _
      | exact scan_Pairs.mono _ _ _ _
      | exact LeO.none _
      | refine LeO.ite ?_ ?_
      | refine LeO.bind ?_ (fun _ => ?_)
set_option maxHeartbeats 8000000 in
set_option maxRecDepth 100000 in
theorem paviorlaw19_ScanTurns.calls (k : Nat) (a0 : Int) (A1 : Option Addr) (c1 : Nat) (l1 : List (S41)) (A2 : Option Addr) (c2 : Nat) (l2 : List Int) (a3 : Int) (r : Bool) (w : World) (hr1 : Kd.C k41 w A1 l1.length l1) (hc1 : l1.length ≤ c1) (hr2 : Kd.C (Kd.int .i64) w A2 l2.length l2) (hc2 : l2.length ≤ c2) (h : paviorlaw19_ScanTurns.f k a0 l1 l2 a3 = some r) :
    Calls Try.prog 6 #[.int .i64 a0, .slice A1 l1.length c1, .slice A2 l2.length c2, .int .i64 a3] w fun e w' => e = .returned (.bool r) ∧ Below w.heap.size w w' := by
  have hu26 := Try.underlying26
  have hu33 := Try.underlying33
  have HR1 := Aside0.mk hr1
  have HC1 := Aside0.mk hc1
  clear hr1 hc1
  have HR2 := Aside0.mk hr2
  have HC2 := Aside0.mk hc2
  clear hr2 hc2
  have HB := Aside0.mk (Below.refl w.heap.size w)
  have H : ((paviorlaw19_up.f k).bind fun t251 => (if (l1.length : Int) > 200 then (paviorlaw19_ScanTurns.j0 k a0 l1 l2 a3 t251 true) else (paviorlaw19_ScanTurns.j0 k a0 l1 l2 a3 t251 (decide ((l2.length : Int) > 600))))) = some r := h
  clear h
  replace H := Option.bind_eq_some_iff.mp H
  obtain ⟨t251, A50, H⟩ := H
  replace H : (if (l1.length : Int) > 200 then (paviorlaw19_ScanTurns.j0 k a0 l1 l2 a3 t251 true) else (paviorlaw19_ScanTurns.j0 k a0 l1 l2 a3 t251 (decide ((l2.length : Int) > 600)))) = some r := H
  have A5 := Aside0.mk A50
  clear A50
  have HC6 := Aside0.mk H
  clear H
  go_enter Try.func6, Try.ntmps6
  go_upto_region 2 with (first | (go_at_call 12; (with_reducible refine (paviorlaw19_up.calls k  t251 _ A5.out).mono ?_); rintro e w7 ⟨rfl, hb⟩; have n0_ := Aside0.mk (below_step (by repeat (first | (with_reducible first | exact HB.out | apply below_alloc | apply pw_below_drewN | apply below_drew1) | exact HB.out)) hb); clear HB; have HB := n0_; clear n0_; (try clear hb); (try clear hb2); (try clear hk); (try clear hi)))
  repeat (go_quiet (first | (go_at_call 12; (with_reducible refine (paviorlaw19_up.calls k  t251 _ A5.out).mono ?_); rintro e w7 ⟨rfl, hb⟩; have n0_ := Aside0.mk (below_step (by repeat (first | (with_reducible first | exact HB.out | apply below_alloc | apply pw_below_drewN | apply below_drew1) | exact HB.out)) hb); clear HB; have HB := n0_; clear n0_; (try clear hb); (try clear hb2); (try clear hk); (try clear hi))); go_upto_region 2 with (first | (go_at_call 12; (with_reducible refine (paviorlaw19_up.calls k  t251 _ A5.out).mono ?_); rintro e w7 ⟨rfl, hb⟩; have n0_ := Aside0.mk (below_step (by repeat (first | (with_reducible first | exact HB.out | apply below_alloc | apply pw_below_drewN | apply below_drew1) | exact HB.out)) hb); clear HB; have HB := n0_; clear n0_; (try clear hb); (try clear hb2); (try clear hk); (try clear hi))))
  (try simp only [Act.put, List.setIfInBounds_toArray, List.set_cons_zero, List.set_cons_succ])
  go_cut [27] (fun v27 wc => ∃ (kq : Nat) (x27_5 : Bool), v27 = .bool x27_5 ∧ Aside0 (paviorlaw19_ScanTurns.j0 kq a0 l1 l2 a3 t251 x27_5 = some r) ∧ Aside0 (kq ≤ k) ∧ Aside0 (Below w.heap.size w wc))
  case first =>
    have H := HC6.out
    clear HC6
    by_cases c8 : (l1.length : Int) > 200
    · rw [if_pos c8] at H
      have c8b0 : decide (200 < (l1.length : Int)) = true := decide_eq_true c8
      have c8b1 : decide (200 < l1.length) = true := decide_eq_true (by omega)
      clear c8
      (first | rw [c8b0] | (simp only [i64_w, i32_w]; rw [c8b0]) | skip)
      have H' := Aside0.mk H
      clear H
      go_wp2
      repeat (go_quiet (fail); try go_wp2)
      go_meet
      case rel => exact ⟨_, (true), (by first | rfl | (simp; done) | (simp [*]; done)), H', ⟨by first | omega | exact Nat.le_refl _⟩, ⟨by repeat (first | (with_reducible first | exact HB.out | apply below_alloc | apply pw_below_drewN | apply below_drew1) | exact HB.out)⟩⟩
    · rw [if_neg c8] at H
      have c8b0 : decide (200 < (l1.length : Int)) = false := decide_eq_false c8
      have c8b1 : decide (200 < l1.length) = false := decide_eq_false (by omega)
      clear c8
      (first | rw [c8b0] | (simp only [i64_w, i32_w]; rw [c8b0]) | skip)
      have H' := Aside0.mk H
      clear H
      go_wp2
      repeat (go_quiet (fail); try go_wp2)
      go_meet
      case rel => exact ⟨_, (decide ((l2.length : Int) > 600)), (by first | rfl | (simp; done) | (simp [*]; done)), H', ⟨by first | omega | exact Nat.le_refl _⟩, ⟨by repeat (first | (with_reducible first | exact HB.out | apply below_alloc | apply pw_below_drewN | apply below_drew1) | exact HB.out)⟩⟩
  case rest =>
    clear HC6
    try clear c1
    try clear c2
    try clear p2
    try clear c6
    try clear c8
    try clear c8b0
    try clear c8b1
    obtain ⟨kq, x27_5, rfl, HA, HJ5, HB⟩ := hcut
    cases kq with
    | zero => exact absurd HA.out (by simp [paviorlaw19_ScanTurns.j0])
    | succ kj5 =>
      have H := HA.out
      clear HA
      simp only [paviorlaw19_ScanTurns.j0] at H
      by_cases c9 : x27_5 = true
      · subst c9
        have H1 : (some t251) = some r := by rw [if_pos rfl] at H; exact H
        clear H
        have H := H1
        clear H1
        obtain rfl := Option.some.inj H
        go_wp2
        repeat (go_quiet (fail); try go_wp2)
        go_ret
        exact ⟨by first | rfl | (simp [errW_none, errW_some] <;> rfl) | (simp [*, errW_none, errW_some] <;> rfl), by repeat (first | (with_reducible first | exact HB.out | apply below_alloc | apply pw_below_drewN | apply below_drew1) | exact HB.out)⟩
      · replace c9 := Bool.eq_false_iff.mpr c9
        subst c9
        have H1 : ((scan_Pairs.f kj5 a0 l1 l2).bind fun bt252 => (if bt252.2.isNone = true then (paviorlaw19_ScanTurns.l0 kj5 a0 l1 a3 t251 bt252.1 1) else (some t251))) = some r := by rw [if_neg (show ¬ (false = true) by decide)] at H; exact H
        clear H
        have H := H1
        clear H1
        replace H := Option.bind_eq_some_iff.mp H
        obtain ⟨⟨t252, t253⟩, A100, H⟩ := H
        replace H : (if t253.isNone = true then (paviorlaw19_ScanTurns.l0 kj5 a0 l1 a3 t251 t252 1) else (some t251)) = some r := H
        have A10 := Aside0.mk A100
        clear A100
        rcases t253 with _ | q256
        · have H1 : (paviorlaw19_ScanTurns.l0 kj5 a0 l1 a3 t251 t252 1) = some r := by rw [if_pos (show (none : Option Int).isNone = true by rfl)] at H; exact H
          clear H
          have H := H1
          clear H1
          try simp only [errW_none, errW_some]
          have H' := Aside0.mk H
          clear H
          go_wp2_with (first | (go_at_call 14; (with_reducible refine (scan_Pairs.calls kj5 a0 _ _ l1 _ _ l2 t252 none _ ?side1 ?side2 ?side3 ?side4 A10.out).mono ?_); (case side1 => repeat (first | exact (Kd.C_below HR1.out HB.out) | (with_reducible refine Kd.C_alloc ?_ _) | (with_reducible refine Kd.C_drewN ?_ _) | (with_reducible refine Kd.C_drew ?_))); (case side2 => exact HC1.out); (case side3 => repeat (first | exact (Kd.C_below HR2.out HB.out) | (with_reducible refine Kd.C_alloc ?_ _) | (with_reducible refine Kd.C_drewN ?_ _) | (with_reducible refine Kd.C_drew ?_))); (case side4 => exact HC2.out); rintro e w11 ⟨v254, rfl, ho0, hb⟩; have n0_ := Aside0.mk (Kd.R_lower ho0 (below_size (by repeat (first | (with_reducible first | exact HB.out | apply below_alloc | apply pw_below_drewN | apply below_drew1) | exact HB.out)))); have n1_ := Aside0.mk (below_step (by repeat (first | (with_reducible first | exact HB.out | apply below_alloc | apply pw_below_drewN | apply below_drew1) | exact HB.out)) hb); clear HB; have HO255 := n0_; have HB := n1_; clear n0_ n1_; (try clear hb); (try clear hb2); (try clear hk); (try clear hi); (try clear ho0); (try simp only [errW_none, errW_some])))
          repeat (go_quiet (first | (go_at_call 14; (with_reducible refine (scan_Pairs.calls kj5 a0 _ _ l1 _ _ l2 t252 none _ ?side1 ?side2 ?side3 ?side4 A10.out).mono ?_); (case side1 => repeat (first | exact (Kd.C_below HR1.out HB.out) | (with_reducible refine Kd.C_alloc ?_ _) | (with_reducible refine Kd.C_drewN ?_ _) | (with_reducible refine Kd.C_drew ?_))); (case side2 => exact HC1.out); (case side3 => repeat (first | exact (Kd.C_below HR2.out HB.out) | (with_reducible refine Kd.C_alloc ?_ _) | (with_reducible refine Kd.C_drewN ?_ _) | (with_reducible refine Kd.C_drew ?_))); (case side4 => exact HC2.out); rintro e w11 ⟨v254, rfl, ho0, hb⟩; have n0_ := Aside0.mk (Kd.R_lower ho0 (below_size (by repeat (first | (with_reducible first | exact HB.out | apply below_alloc | apply pw_below_drewN | apply below_drew1) | exact HB.out)))); have n1_ := Aside0.mk (below_step (by repeat (first | (with_reducible first | exact HB.out | apply below_alloc | apply pw_below_drewN | apply below_drew1) | exact HB.out)) hb); clear HB; have HO255 := n0_; have HB := n1_; clear n0_ n1_; (try clear hb); (try clear hb2); (try clear hk); (try clear hi); (try clear ho0); (try simp only [errW_none, errW_some]))); try go_wp2_with (first | (go_at_call 14; (with_reducible refine (scan_Pairs.calls kj5 a0 _ _ l1 _ _ l2 t252 none _ ?side1 ?side2 ?side3 ?side4 A10.out).mono ?_); (case side1 => repeat (first | exact (Kd.C_below HR1.out HB.out) | (with_reducible refine Kd.C_alloc ?_ _) | (with_reducible refine Kd.C_drewN ?_ _) | (with_reducible refine Kd.C_drew ?_))); (case side2 => exact HC1.out); (case side3 => repeat (first | exact (Kd.C_below HR2.out HB.out) | (with_reducible refine Kd.C_alloc ?_ _) | (with_reducible refine Kd.C_drewN ?_ _) | (with_reducible refine Kd.C_drew ?_))); (case side4 => exact HC2.out); rintro e w11 ⟨v254, rfl, ho0, hb⟩; have n0_ := Aside0.mk (Kd.R_lower ho0 (below_size (by repeat (first | (with_reducible first | exact HB.out | apply below_alloc | apply pw_below_drewN | apply below_drew1) | exact HB.out)))); have n1_ := Aside0.mk (below_step (by repeat (first | (with_reducible first | exact HB.out | apply below_alloc | apply pw_below_drewN | apply below_drew1) | exact HB.out)) hb); clear HB; have HO255 := n0_; have HB := n1_; clear n0_ n1_; (try clear hb); (try clear hb2); (try clear hk); (try clear hi); (try clear ho0); (try simp only [errW_none, errW_some]))))
          go_loopg [12] kj5 (fun kq v12 w' => ∃ (x12_2 : Int), v12 = .int .i64 x12_2 ∧ Aside0 (paviorlaw19_ScanTurns.l0 kq a0 l1 a3 t251 t252 x12_2 = some r) ∧ Aside0 (kq ≤ kj5) ∧ Aside0 (Kd.R k35 35 w' w.heap.size (fun _ => True) v254 t252) ∧ Aside0 (Below w.heap.size w w'))
          case atStart => exact ⟨(1), (by first | rfl | (simp; done) | (simp [*]; done)), H', ⟨Nat.le_refl _⟩, ⟨by (with_reducible repeat (first | apply Kd.R_alloc | apply Kd.R_drewN | apply Kd.R_drew)); exact HO255.out⟩, ⟨by repeat (first | (with_reducible first | exact HB.out | apply below_alloc | apply pw_below_drewN | apply below_drew1) | exact HB.out)⟩⟩
          case round =>
            clear H'
            try clear c1
            try clear c2
            try clear p2
            try clear q2
            try clear c6
            try clear c8
            try clear c8b0
            try clear c8b1
            try clear c9
            try clear p2
            try clear q256
            obtain ⟨x12_2, rfl, HA, HK2, HO_10, HB⟩ := hrel
            cases gk with
            | zero => exact absurd HA.out (by simp [paviorlaw19_ScanTurns.l0])
            | succ k2 =>
              have H := HA.out
              clear HA
              simp only [paviorlaw19_ScanTurns.l0] at H
              by_cases c12 : x12_2 < (t252.length : Int)
              · rw [if_pos c12] at H
                have c12b0 : decide (x12_2 < (t252.length : Int)) = true := decide_eq_true c12
                clear c12
                have HC13 := Aside0.mk H
                clear H
                obtain ⟨Ao14, co14, eo14⟩ := Kd.R_slice HO_10.out
                subst eo14
                go_upto_region 10 with (fail)
                repeat (go_quiet (fail); go_upto_region 10 with (fail))
                go_cut [70] (fun v70 wc => ∃ (kq : Nat) (x70_12 : Bool), v70 = .bool x70_12 ∧ Aside0 (paviorlaw19_ScanTurns.j2 kq a0 l1 a3 t251 t252 x12_2 x70_12 = some r) ∧ Aside0 (kq ≤ k2) ∧ Aside0 (Kd.R k35 35 wc w.heap.size (fun _ => True) (.slice Ao14 t252.length co14) t252) ∧ Aside0 (Below w.heap.size w wc))
                case first =>
                  have H := HC13.out
                  clear HC13
                  by_cases c15 : 0 ≤ x12_2
                  · rw [if_pos c15] at H
                    have c15b0 : decide (0 ≤ x12_2) = true := decide_eq_true c15
                    clear c15
                    (first | rw [c15b0] | (simp only [i64_w, i32_w]; rw [c15b0]) | skip)
                    obtain ⟨ji16, hji16⟩ : ∃ j_ : Int, (wrap64 (x12_2 - 1)) = j_ := ⟨_, rfl⟩
                    replace H : (if 0 ≤ (ji16) then (if (ji16) < (t252.length : Int) then (if ((rd_T35 t252 x12_2).f0) ≤ ((rd_T35 t252 (ji16)).f0) then (paviorlaw19_ScanTurns.j2 k2 a0 l1 a3 t251 t252 x12_2 true) else (paviorlaw19_ScanTurns.j2 k2 a0 l1 a3 t251 t252 x12_2 (decide (((rd_T35 t252 x12_2).f1) ≥ ((rd_T35 t252 (ji16)).f1))))) else (none)) else (none)) = some r := by first | (rw [hji16] at H; exact H) | (simp only [hji16] at H ⊢; exact H)
                    have hji16w : (IntKind.i64.wrap (x12_2 - 1)) = ji16 := (i64_w _).trans hji16
                    by_cases c17 : 0 ≤ (ji16)
                    · rw [if_pos c17] at H
                      have c17b0 : decide (0 ≤ (ji16)) = true := decide_eq_true c17
                      clear c17
                      by_cases c18 : (ji16) < (t252.length : Int)
                      · rw [if_pos c18] at H
                        have c18b0 : decide ((ji16) < (t252.length : Int)) = true := decide_eq_true c18
                        clear c18
                        by_cases c19 : ((rd_T35 t252 x12_2).f0) ≤ ((rd_T35 t252 (ji16)).f0)
                        · rw [if_pos c19] at H
                          have c19b0 : decide (((rd_T35 t252 x12_2).f0) ≤ ((rd_T35 t252 (ji16)).f0)) = true := decide_eq_true c19
                          clear c19
                          have H' := Aside0.mk H
                          clear H
                          have p257 : 0 ≤ (x12_2 : Int) := of_decide_eq_true (by first | (with_reducible assumption) | assumption)
                          have q257 : x12_2 < (t252.length : Int) := of_decide_eq_true (by first | (with_reducible assumption) | assumption)
                          obtain ⟨ad257, e257, hx257_0, hx257_1⟩ := at_T35 (Kd.R_reads' HO_10.out).2.2 x12_2 p257 q257
                          cases e257
                          replace p257 := eq_true p257
                          replace q257 := eq_true q257
                          have p258 : 0 ≤ ((ji16) : Int) := of_decide_eq_true (by first | (with_reducible assumption) | assumption)
                          have q258 : (ji16) < (t252.length : Int) := of_decide_eq_true (by first | (with_reducible assumption) | assumption)
                          obtain ⟨ad258, e258, hx258_0, hx258_1⟩ := at_T35 (Kd.R_reads' HO_10.out).2.2 (ji16) p258 q258
                          obtain rfl : ad257 = ad258 := (by injection e258)
                          replace p258 := eq_true p258
                          replace q258 := eq_true q258
                          go_wp2
                          repeat (go_quiet (fail); try go_wp2)
                          go_meet
                          case rel => exact ⟨_, (true), (by first | rfl | (simp; done) | (simp [*]; done)), H', ⟨by have := HJ5.out; have := HK2.out; first | omega | exact Nat.le_refl _⟩, ⟨by (with_reducible repeat (first | apply Kd.R_alloc | apply Kd.R_drewN | apply Kd.R_drew)); exact HO_10.out⟩, ⟨by repeat (first | (with_reducible first | exact HB.out | apply below_alloc | apply pw_below_drewN | apply below_drew1) | exact HB.out)⟩⟩
                        · rw [if_neg c19] at H
                          have c19b0 : decide (((rd_T35 t252 x12_2).f0) ≤ ((rd_T35 t252 (ji16)).f0)) = false := decide_eq_false c19
                          clear c19
                          have H' := Aside0.mk H
                          clear H
                          have p257 : 0 ≤ (x12_2 : Int) := of_decide_eq_true (by first | (with_reducible assumption) | assumption)
                          have q257 : x12_2 < (t252.length : Int) := of_decide_eq_true (by first | (with_reducible assumption) | assumption)
                          obtain ⟨ad257, e257, hx257_0, hx257_1⟩ := at_T35 (Kd.R_reads' HO_10.out).2.2 x12_2 p257 q257
                          cases e257
                          replace p257 := eq_true p257
                          replace q257 := eq_true q257
                          have p258 : 0 ≤ ((ji16) : Int) := of_decide_eq_true (by first | (with_reducible assumption) | assumption)
                          have q258 : (ji16) < (t252.length : Int) := of_decide_eq_true (by first | (with_reducible assumption) | assumption)
                          obtain ⟨ad258, e258, hx258_0, hx258_1⟩ := at_T35 (Kd.R_reads' HO_10.out).2.2 (ji16) p258 q258
                          obtain rfl : ad257 = ad258 := (by injection e258)
                          replace p258 := eq_true p258
                          replace q258 := eq_true q258
                          have p259 : 0 ≤ (x12_2 : Int) := of_decide_eq_true (by first | (with_reducible assumption) | assumption)
                          have q259 : x12_2 < (t252.length : Int) := of_decide_eq_true (by first | (with_reducible assumption) | assumption)
                          obtain ⟨ad259, e259, hx259_0, hx259_1⟩ := at_T35 (Kd.R_reads' HO_10.out).2.2 x12_2 p259 q259
                          obtain rfl : ad257 = ad259 := (by injection e259)
                          replace p259 := eq_true p259
                          replace q259 := eq_true q259
                          have p260 : 0 ≤ ((ji16) : Int) := of_decide_eq_true (by first | (with_reducible assumption) | assumption)
                          have q260 : (ji16) < (t252.length : Int) := of_decide_eq_true (by first | (with_reducible assumption) | assumption)
                          obtain ⟨ad260, e260, hx260_0, hx260_1⟩ := at_T35 (Kd.R_reads' HO_10.out).2.2 (ji16) p260 q260
                          obtain rfl : ad257 = ad260 := (by injection e260)
                          replace p260 := eq_true p260
                          replace q260 := eq_true q260
                          go_wp2
                          repeat (go_quiet (fail); try go_wp2)
                          go_meet
                          case rel => exact ⟨_, (decide (((rd_T35 t252 x12_2).f1) ≥ ((rd_T35 t252 (ji16)).f1))), (by first | rfl | (simp; done) | (simp only [← hji16] <;> (first | rfl | simp)) | (simp [*]; done)), H', ⟨by have := HJ5.out; have := HK2.out; first | omega | exact Nat.le_refl _⟩, ⟨by (with_reducible repeat (first | apply Kd.R_alloc | apply Kd.R_drewN | apply Kd.R_drew)); exact HO_10.out⟩, ⟨by repeat (first | (with_reducible first | exact HB.out | apply below_alloc | apply pw_below_drewN | apply below_drew1) | exact HB.out)⟩⟩
                      · rw [if_neg c18] at H
                        exact absurd H (by simp)
                    · rw [if_neg c17] at H
                      exact absurd H (by simp)
                  · rw [if_neg c15] at H
                    exact absurd H (by simp)
                case rest =>
                  clear HC13
                  try clear c1
                  try clear c2
                  try clear p2
                  try clear q2
                  try clear hx2
                  try clear c6
                  try clear p6
                  try clear c8
                  try clear c8b0
                  try clear c8b1
                  try clear c9
                  try clear c12
                  try clear c12b0
                  try clear c15
                  try clear c15b0
                  try clear c17
                  try clear c17b0
                  try clear c18
                  try clear c18b0
                  try clear c19
                  try clear c19b0
                  try clear hx257_0
                  try clear hx257_1
                  try clear hx258_0
                  try clear hx258_1
                  try clear hx259_0
                  try clear hx259_1
                  try clear hx260_0
                  try clear hx260_1
                  try clear p2
                  try clear p257
                  try clear p258
                  try clear p259
                  try clear p260
                  try clear q2
                  try clear q256
                  try clear q257
                  try clear q258
                  try clear q259
                  try clear q260
                  obtain ⟨kq, x70_12, rfl, HA, HJ12, HO_10, HB⟩ := hcut
                  cases kq with
                  | zero => exact absurd HA.out (by simp [paviorlaw19_ScanTurns.j2])
                  | succ kj12 =>
                    have H := HA.out
                    clear HA
                    simp only [paviorlaw19_ScanTurns.j2] at H
                    by_cases c20 : x70_12 = true
                    · subst c20
                      have H1 : (some false) = some r := by rw [if_pos rfl] at H; exact H
                      clear H
                      have H := H1
                      clear H1
                      obtain rfl := Option.some.inj H
                      go_wp2
                      repeat (go_quiet (fail); try go_wp2)
                      go_ret
                      exact ⟨by first | rfl | (simp [errW_none, errW_some] <;> rfl) | (simp [*, errW_none, errW_some] <;> rfl), by repeat (first | (with_reducible first | exact HB.out | apply below_alloc | apply pw_below_drewN | apply below_drew1) | exact HB.out)⟩
                    · replace c20 := Bool.eq_false_iff.mpr c20
                      subst c20
                      have H1 : (paviorlaw19_ScanTurns.l0 kj12 a0 l1 a3 t251 t252 (wrap64 (x12_2 + 1))) = some r := by rw [if_neg (show ¬ (false = true) by decide)] at H; exact H
                      clear H
                      have H := H1
                      clear H1
                      have H' := Aside0.mk H
                      clear H
                      go_wp2
                      repeat (go_quiet (fail); try go_wp2)
                      go_roundg kj12
                      case measure => have := HJ5.out; have := HK2.out; have := HJ12.out; omega
                      case rel => exact ⟨(wrap64 (x12_2 + 1)), (by first | rfl | (simp; done) | (simp [*]; done)), H', ⟨by have := HJ5.out; have := HK2.out; have := HJ12.out; omega⟩, ⟨by (with_reducible repeat (first | apply Kd.R_alloc | apply Kd.R_drewN | apply Kd.R_drew)); exact HO_10.out⟩, ⟨by repeat (first | (with_reducible first | exact HB.out | apply below_alloc | apply pw_below_drewN | apply below_drew1) | exact HB.out)⟩⟩
              · rw [if_neg c12] at H
                have c12b0 : decide (x12_2 < (t252.length : Int)) = false := decide_eq_false c12
                clear c12
                replace H := Option.bind_eq_some_iff.mp H
                obtain ⟨⟨t261, t262⟩, A210, H⟩ := H
                replace H : ((scan_Broken.f k2 a0 l1 a3).bind fun bt263 => ((scan_Broken.f k2 a0 l1 (wrap64 (a3 + 1))).bind fun bt265 => (if t262.isNone = true then (paviorlaw19_ScanTurns.j3 k2 t251 bt263.1 bt263.2 bt265.1 bt265.2 (t261 != 0)) else (paviorlaw19_ScanTurns.j3 k2 t251 bt263.1 bt263.2 bt265.1 bt265.2 true)))) = some r := H
                have A21 := Aside0.mk A210
                clear A210
                replace H := Option.bind_eq_some_iff.mp H
                obtain ⟨⟨t263, t264⟩, A220, H⟩ := H
                replace H : ((scan_Broken.f k2 a0 l1 (wrap64 (a3 + 1))).bind fun bt265 => (if t262.isNone = true then (paviorlaw19_ScanTurns.j3 k2 t251 t263 t264 bt265.1 bt265.2 (t261 != 0)) else (paviorlaw19_ScanTurns.j3 k2 t251 t263 t264 bt265.1 bt265.2 true))) = some r := H
                have A22 := Aside0.mk A220
                clear A220
                replace H := Option.bind_eq_some_iff.mp H
                obtain ⟨⟨t265, t266⟩, A230, H⟩ := H
                replace H : (if t262.isNone = true then (paviorlaw19_ScanTurns.j3 k2 t251 t263 t264 t265 t266 (t261 != 0)) else (paviorlaw19_ScanTurns.j3 k2 t251 t263 t264 t265 t266 true)) = some r := H
                have A23 := Aside0.mk A230
                clear A230
                have HC24 := Aside0.mk H
                clear H
                obtain ⟨Ao25, co25, eo25⟩ := Kd.R_slice HO_10.out
                subst eo25
                go_upto_region 15 with (first | (go_at_call 17; (with_reducible refine (scan_Broken.calls k2 a0 _ _ l1 0 t261 t262 _ ?side1 ?side2 A21.out).mono ?_); (case side1 => repeat (first | exact (Kd.C_below HR1.out HB.out) | (with_reducible refine Kd.C_alloc ?_ _) | (with_reducible refine Kd.C_drewN ?_ _) | (with_reducible refine Kd.C_drew ?_))); (case side2 => exact HC1.out); rintro e w26 ⟨rfl, hb⟩; have n0_ := Aside0.mk (Kd.R_below (by (with_reducible repeat (first | apply Kd.R_alloc | apply Kd.R_drewN | apply Kd.R_drew)); exact HO_10.out) hb); have n1_ := Aside0.mk (below_step (by repeat (first | (with_reducible first | exact HB.out | apply below_alloc | apply pw_below_drewN | apply below_drew1) | exact HB.out)) hb); clear HO_10; clear HB; have HO_10 := n0_; have HB := n1_; clear n0_ n1_; (try clear hb); (try clear hb2); (try clear hk); (try clear hi); (try simp only [errW_none, errW_some])) | (go_at_call 17; (with_reducible refine (scan_Broken.calls k2 a0 _ _ l1 a3 t263 t264 _ ?side1 ?side2 A22.out).mono ?_); (case side1 => repeat (first | exact (Kd.C_below HR1.out HB.out) | (with_reducible refine Kd.C_alloc ?_ _) | (with_reducible refine Kd.C_drewN ?_ _) | (with_reducible refine Kd.C_drew ?_))); (case side2 => exact HC1.out); rintro e w27 ⟨rfl, hb⟩; have n0_ := Aside0.mk (Kd.R_below (by (with_reducible repeat (first | apply Kd.R_alloc | apply Kd.R_drewN | apply Kd.R_drew)); exact HO_10.out) hb); have n1_ := Aside0.mk (below_step (by repeat (first | (with_reducible first | exact HB.out | apply below_alloc | apply pw_below_drewN | apply below_drew1) | exact HB.out)) hb); clear HO_10; clear HB; have HO_10 := n0_; have HB := n1_; clear n0_ n1_; (try clear hb); (try clear hb2); (try clear hk); (try clear hi); (try simp only [errW_none, errW_some])) | (go_at_call 17; (with_reducible refine (scan_Broken.calls k2 a0 _ _ l1 (wrap64 (a3 + 1)) t265 t266 _ ?side1 ?side2 A23.out).mono ?_); (case side1 => repeat (first | exact (Kd.C_below HR1.out HB.out) | (with_reducible refine Kd.C_alloc ?_ _) | (with_reducible refine Kd.C_drewN ?_ _) | (with_reducible refine Kd.C_drew ?_))); (case side2 => exact HC1.out); rintro e w28 ⟨rfl, hb⟩; have n0_ := Aside0.mk (Kd.R_below (by (with_reducible repeat (first | apply Kd.R_alloc | apply Kd.R_drewN | apply Kd.R_drew)); exact HO_10.out) hb); have n1_ := Aside0.mk (below_step (by repeat (first | (with_reducible first | exact HB.out | apply below_alloc | apply pw_below_drewN | apply below_drew1) | exact HB.out)) hb); clear HO_10; clear HB; have HO_10 := n0_; have HB := n1_; clear n0_ n1_; (try clear hb); (try clear hb2); (try clear hk); (try clear hi); (try simp only [errW_none, errW_some])))
                repeat (go_quiet (first | (go_at_call 17; (with_reducible refine (scan_Broken.calls k2 a0 _ _ l1 0 t261 t262 _ ?side1 ?side2 A21.out).mono ?_); (case side1 => repeat (first | exact (Kd.C_below HR1.out HB.out) | (with_reducible refine Kd.C_alloc ?_ _) | (with_reducible refine Kd.C_drewN ?_ _) | (with_reducible refine Kd.C_drew ?_))); (case side2 => exact HC1.out); rintro e w26 ⟨rfl, hb⟩; have n0_ := Aside0.mk (Kd.R_below (by (with_reducible repeat (first | apply Kd.R_alloc | apply Kd.R_drewN | apply Kd.R_drew)); exact HO_10.out) hb); have n1_ := Aside0.mk (below_step (by repeat (first | (with_reducible first | exact HB.out | apply below_alloc | apply pw_below_drewN | apply below_drew1) | exact HB.out)) hb); clear HO_10; clear HB; have HO_10 := n0_; have HB := n1_; clear n0_ n1_; (try clear hb); (try clear hb2); (try clear hk); (try clear hi); (try simp only [errW_none, errW_some])) | (go_at_call 17; (with_reducible refine (scan_Broken.calls k2 a0 _ _ l1 a3 t263 t264 _ ?side1 ?side2 A22.out).mono ?_); (case side1 => repeat (first | exact (Kd.C_below HR1.out HB.out) | (with_reducible refine Kd.C_alloc ?_ _) | (with_reducible refine Kd.C_drewN ?_ _) | (with_reducible refine Kd.C_drew ?_))); (case side2 => exact HC1.out); rintro e w27 ⟨rfl, hb⟩; have n0_ := Aside0.mk (Kd.R_below (by (with_reducible repeat (first | apply Kd.R_alloc | apply Kd.R_drewN | apply Kd.R_drew)); exact HO_10.out) hb); have n1_ := Aside0.mk (below_step (by repeat (first | (with_reducible first | exact HB.out | apply below_alloc | apply pw_below_drewN | apply below_drew1) | exact HB.out)) hb); clear HO_10; clear HB; have HO_10 := n0_; have HB := n1_; clear n0_ n1_; (try clear hb); (try clear hb2); (try clear hk); (try clear hi); (try simp only [errW_none, errW_some])) | (go_at_call 17; (with_reducible refine (scan_Broken.calls k2 a0 _ _ l1 (wrap64 (a3 + 1)) t265 t266 _ ?side1 ?side2 A23.out).mono ?_); (case side1 => repeat (first | exact (Kd.C_below HR1.out HB.out) | (with_reducible refine Kd.C_alloc ?_ _) | (with_reducible refine Kd.C_drewN ?_ _) | (with_reducible refine Kd.C_drew ?_))); (case side2 => exact HC1.out); rintro e w28 ⟨rfl, hb⟩; have n0_ := Aside0.mk (Kd.R_below (by (with_reducible repeat (first | apply Kd.R_alloc | apply Kd.R_drewN | apply Kd.R_drew)); exact HO_10.out) hb); have n1_ := Aside0.mk (below_step (by repeat (first | (with_reducible first | exact HB.out | apply below_alloc | apply pw_below_drewN | apply below_drew1) | exact HB.out)) hb); clear HO_10; clear HB; have HO_10 := n0_; have HB := n1_; clear n0_ n1_; (try clear hb); (try clear hb2); (try clear hk); (try clear hi); (try simp only [errW_none, errW_some]))); go_upto_region 15 with (first | (go_at_call 17; (with_reducible refine (scan_Broken.calls k2 a0 _ _ l1 0 t261 t262 _ ?side1 ?side2 A21.out).mono ?_); (case side1 => repeat (first | exact (Kd.C_below HR1.out HB.out) | (with_reducible refine Kd.C_alloc ?_ _) | (with_reducible refine Kd.C_drewN ?_ _) | (with_reducible refine Kd.C_drew ?_))); (case side2 => exact HC1.out); rintro e w26 ⟨rfl, hb⟩; have n0_ := Aside0.mk (Kd.R_below (by (with_reducible repeat (first | apply Kd.R_alloc | apply Kd.R_drewN | apply Kd.R_drew)); exact HO_10.out) hb); have n1_ := Aside0.mk (below_step (by repeat (first | (with_reducible first | exact HB.out | apply below_alloc | apply pw_below_drewN | apply below_drew1) | exact HB.out)) hb); clear HO_10; clear HB; have HO_10 := n0_; have HB := n1_; clear n0_ n1_; (try clear hb); (try clear hb2); (try clear hk); (try clear hi); (try simp only [errW_none, errW_some])) | (go_at_call 17; (with_reducible refine (scan_Broken.calls k2 a0 _ _ l1 a3 t263 t264 _ ?side1 ?side2 A22.out).mono ?_); (case side1 => repeat (first | exact (Kd.C_below HR1.out HB.out) | (with_reducible refine Kd.C_alloc ?_ _) | (with_reducible refine Kd.C_drewN ?_ _) | (with_reducible refine Kd.C_drew ?_))); (case side2 => exact HC1.out); rintro e w27 ⟨rfl, hb⟩; have n0_ := Aside0.mk (Kd.R_below (by (with_reducible repeat (first | apply Kd.R_alloc | apply Kd.R_drewN | apply Kd.R_drew)); exact HO_10.out) hb); have n1_ := Aside0.mk (below_step (by repeat (first | (with_reducible first | exact HB.out | apply below_alloc | apply pw_below_drewN | apply below_drew1) | exact HB.out)) hb); clear HO_10; clear HB; have HO_10 := n0_; have HB := n1_; clear n0_ n1_; (try clear hb); (try clear hb2); (try clear hk); (try clear hi); (try simp only [errW_none, errW_some])) | (go_at_call 17; (with_reducible refine (scan_Broken.calls k2 a0 _ _ l1 (wrap64 (a3 + 1)) t265 t266 _ ?side1 ?side2 A23.out).mono ?_); (case side1 => repeat (first | exact (Kd.C_below HR1.out HB.out) | (with_reducible refine Kd.C_alloc ?_ _) | (with_reducible refine Kd.C_drewN ?_ _) | (with_reducible refine Kd.C_drew ?_))); (case side2 => exact HC1.out); rintro e w28 ⟨rfl, hb⟩; have n0_ := Aside0.mk (Kd.R_below (by (with_reducible repeat (first | apply Kd.R_alloc | apply Kd.R_drewN | apply Kd.R_drew)); exact HO_10.out) hb); have n1_ := Aside0.mk (below_step (by repeat (first | (with_reducible first | exact HB.out | apply below_alloc | apply pw_below_drewN | apply below_drew1) | exact HB.out)) hb); clear HO_10; clear HB; have HO_10 := n0_; have HB := n1_; clear n0_ n1_; (try clear hb); (try clear hb2); (try clear hk); (try clear hi); (try simp only [errW_none, errW_some]))))
                (try simp only [Act.put, List.setIfInBounds_toArray, List.set_cons_zero, List.set_cons_succ])
                go_cut [97] (fun v97 wc => ∃ (kq : Nat) (x97_23 : Bool), v97 = .bool x97_23 ∧ Aside0 (paviorlaw19_ScanTurns.j3 kq t251 t263 t264 t265 t266 x97_23 = some r) ∧ Aside0 (kq ≤ k2) ∧ Aside0 (Below w.heap.size w wc))
                case first =>
                  have H := HC24.out
                  clear HC24
                  rcases t262 with _ | q267
                  · have H1 : (paviorlaw19_ScanTurns.j3 k2 t251 t263 t264 t265 t266 (t261 != 0)) = some r := by rw [if_pos (show (none : Option Int).isNone = true by rfl)] at H; exact H
                    clear H
                    have H := H1
                    clear H1
                    try simp only [errW_none, errW_some]
                    have H' := Aside0.mk H
                    clear H
                    go_wp2
                    repeat (go_quiet (fail); try go_wp2)
                    go_meet
                    case rel => exact ⟨_, ((t261 != 0)), (by first | rfl | (simp; done) | (simp [*]; done)), H', ⟨by have := HJ5.out; have := HK2.out; first | omega | exact Nat.le_refl _⟩, ⟨by repeat (first | (with_reducible first | exact HB.out | apply below_alloc | apply pw_below_drewN | apply below_drew1) | exact HB.out)⟩⟩
                  · have H1 : (paviorlaw19_ScanTurns.j3 k2 t251 t263 t264 t265 t266 true) = some r := by rw [if_neg (show ¬ (some q267).isNone = true by simp)] at H; exact H
                    clear H
                    have H := H1
                    clear H1
                    try simp only [errW_none, errW_some]
                    have H' := Aside0.mk H
                    clear H
                    go_wp2
                    repeat (go_quiet (fail); try go_wp2)
                    go_meet
                    case rel => exact ⟨_, (true), (by first | rfl | (simp; done) | (simp [*]; done)), H', ⟨by have := HJ5.out; have := HK2.out; first | omega | exact Nat.le_refl _⟩, ⟨by repeat (first | (with_reducible first | exact HB.out | apply below_alloc | apply pw_below_drewN | apply below_drew1) | exact HB.out)⟩⟩
                case rest =>
                  clear HC24
                  try clear c1
                  try clear c2
                  try clear p2
                  try clear q2
                  try clear hx2
                  try clear c6
                  try clear p6
                  try clear c8
                  try clear c8b0
                  try clear c8b1
                  try clear c9
                  try clear c12
                  try clear c12b0
                  try clear c15
                  try clear c15b0
                  try clear c17
                  try clear c17b0
                  try clear c18
                  try clear c18b0
                  try clear c19
                  try clear c19b0
                  try clear c20
                  try clear p25
                  try clear q25
                  try clear hx25
                  try clear p26
                  try clear q26
                  try clear hx26
                  try clear hx257_0
                  try clear hx257_1
                  try clear hx258_0
                  try clear hx258_1
                  try clear hx259_0
                  try clear hx259_1
                  try clear hx260_0
                  try clear hx260_1
                  try clear p2
                  try clear p257
                  try clear p258
                  try clear p259
                  try clear p260
                  try clear p6
                  try clear q2
                  try clear q256
                  try clear q257
                  try clear q258
                  try clear q259
                  try clear q260
                  try clear q267
                  obtain ⟨kq, x97_23, rfl, HA, HJ23, HB⟩ := hcut
                  cases kq with
                  | zero => exact absurd HA.out (by simp [paviorlaw19_ScanTurns.j3])
                  | succ kj23 =>
                    have H := HA.out
                    clear HA
                    simp only [paviorlaw19_ScanTurns.j3] at H
                    by_cases c29 : x97_23 = true
                    · subst c29
                      have H1 : (some false) = some r := by rw [if_pos rfl] at H; exact H
                      clear H
                      have H := H1
                      clear H1
                      obtain rfl := Option.some.inj H
                      go_wp2
                      repeat (go_quiet (fail); try go_wp2)
                      go_ret
                      exact ⟨by first | rfl | (simp [errW_none, errW_some] <;> rfl) | (simp [*, errW_none, errW_some] <;> rfl), by repeat (first | (with_reducible first | exact HB.out | apply below_alloc | apply pw_below_drewN | apply below_drew1) | exact HB.out)⟩
                    · replace c29 := Bool.eq_false_iff.mpr c29
                      subst c29
                      have H1 : (if t251 = true then (if t264.isNone = true then (if t266.isNone = true then (some (decide (t263 ≤ t265))) else (some true)) else (some true)) else (some false)) = some r := by rw [if_neg (show ¬ (false = true) by decide)] at H; exact H
                      clear H
                      have H := H1
                      clear H1
                      by_cases c30 : t251 = true
                      · subst c30
                        have H1 : (if t264.isNone = true then (if t266.isNone = true then (some (decide (t263 ≤ t265))) else (some true)) else (some true)) = some r := by rw [if_pos rfl] at H; exact H
                        clear H
                        have H := H1
                        clear H1
                        rcases t264 with _ | q268
                        · have H1 : (if t266.isNone = true then (some (decide (t263 ≤ t265))) else (some true)) = some r := by rw [if_pos (show (none : Option Int).isNone = true by rfl)] at H; exact H
                          clear H
                          have H := H1
                          clear H1
                          try simp only [errW_none, errW_some]
                          rcases t266 with _ | q269
                          · have H1 : (some (decide (t263 ≤ t265))) = some r := by rw [if_pos (show (none : Option Int).isNone = true by rfl)] at H; exact H
                            clear H
                            have H := H1
                            clear H1
                            try simp only [errW_none, errW_some]
                            obtain rfl := Option.some.inj H
                            go_wp2
                            repeat (go_quiet (fail); try go_wp2)
                            go_ret
                            exact ⟨by first | rfl | (simp [errW_none, errW_some] <;> rfl) | (simp [*, errW_none, errW_some] <;> rfl), by repeat (first | (with_reducible first | exact HB.out | apply below_alloc | apply pw_below_drewN | apply below_drew1) | exact HB.out)⟩
                          · have H1 : (some true) = some r := by rw [if_neg (show ¬ (some q269).isNone = true by simp)] at H; exact H
                            clear H
                            have H := H1
                            clear H1
                            try simp only [errW_none, errW_some]
                            obtain rfl := Option.some.inj H
                            go_wp2
                            repeat (go_quiet (fail); try go_wp2)
                            go_ret
                            exact ⟨by first | rfl | (simp [errW_none, errW_some] <;> rfl) | (simp [*, errW_none, errW_some] <;> rfl), by repeat (first | (with_reducible first | exact HB.out | apply below_alloc | apply pw_below_drewN | apply below_drew1) | exact HB.out)⟩
                        · have H1 : (some true) = some r := by rw [if_neg (show ¬ (some q268).isNone = true by simp)] at H; exact H
                          clear H
                          have H := H1
                          clear H1
                          try simp only [errW_none, errW_some]
                          obtain rfl := Option.some.inj H
                          go_wp2
                          repeat (go_quiet (fail); try go_wp2)
                          go_ret
                          exact ⟨by first | rfl | (simp [errW_none, errW_some] <;> rfl) | (simp [*, errW_none, errW_some] <;> rfl), by repeat (first | (with_reducible first | exact HB.out | apply below_alloc | apply pw_below_drewN | apply below_drew1) | exact HB.out)⟩
                      · replace c30 := Bool.eq_false_iff.mpr c30
                        subst c30
                        have H1 : (some false) = some r := by rw [if_neg (show ¬ (false = true) by decide)] at H; exact H
                        clear H
                        have H := H1
                        clear H1
                        obtain rfl := Option.some.inj H
                        go_wp2
                        repeat (go_quiet (fail); try go_wp2)
                        go_ret
                        exact ⟨by first | rfl | (simp [errW_none, errW_some] <;> rfl) | (simp [*, errW_none, errW_some] <;> rfl), by repeat (first | (with_reducible first | exact HB.out | apply below_alloc | apply pw_below_drewN | apply below_drew1) | exact HB.out)⟩
        · have H1 : (some t251) = some r := by rw [if_neg (show ¬ (some q256).isNone = true by simp)] at H; exact H
          clear H
          have H := H1
          clear H1
          try simp only [errW_none, errW_some]
          obtain rfl := Option.some.inj H
          go_wp2_with (first | (go_at_call 14; (with_reducible refine (scan_Pairs.calls kj5 a0 _ _ l1 _ _ l2 t252 (some q256) _ ?side1 ?side2 ?side3 ?side4 A10.out).mono ?_); (case side1 => repeat (first | exact (Kd.C_below HR1.out HB.out) | (with_reducible refine Kd.C_alloc ?_ _) | (with_reducible refine Kd.C_drewN ?_ _) | (with_reducible refine Kd.C_drew ?_))); (case side2 => exact HC1.out); (case side3 => repeat (first | exact (Kd.C_below HR2.out HB.out) | (with_reducible refine Kd.C_alloc ?_ _) | (with_reducible refine Kd.C_drewN ?_ _) | (with_reducible refine Kd.C_drew ?_))); (case side4 => exact HC2.out); rintro e w31 ⟨v254, rfl, ho0, hb⟩; have n0_ := Aside0.mk (Kd.R_lower ho0 (below_size (by repeat (first | (with_reducible first | exact HB.out | apply below_alloc | apply pw_below_drewN | apply below_drew1) | exact HB.out)))); have n1_ := Aside0.mk (below_step (by repeat (first | (with_reducible first | exact HB.out | apply below_alloc | apply pw_below_drewN | apply below_drew1) | exact HB.out)) hb); clear HB; have HO255 := n0_; have HB := n1_; clear n0_ n1_; (try clear hb); (try clear hb2); (try clear hk); (try clear hi); (try clear ho0); (try simp only [errW_none, errW_some])))
          repeat (go_quiet (first | (go_at_call 14; (with_reducible refine (scan_Pairs.calls kj5 a0 _ _ l1 _ _ l2 t252 (some q256) _ ?side1 ?side2 ?side3 ?side4 A10.out).mono ?_); (case side1 => repeat (first | exact (Kd.C_below HR1.out HB.out) | (with_reducible refine Kd.C_alloc ?_ _) | (with_reducible refine Kd.C_drewN ?_ _) | (with_reducible refine Kd.C_drew ?_))); (case side2 => exact HC1.out); (case side3 => repeat (first | exact (Kd.C_below HR2.out HB.out) | (with_reducible refine Kd.C_alloc ?_ _) | (with_reducible refine Kd.C_drewN ?_ _) | (with_reducible refine Kd.C_drew ?_))); (case side4 => exact HC2.out); rintro e w31 ⟨v254, rfl, ho0, hb⟩; have n0_ := Aside0.mk (Kd.R_lower ho0 (below_size (by repeat (first | (with_reducible first | exact HB.out | apply below_alloc | apply pw_below_drewN | apply below_drew1) | exact HB.out)))); have n1_ := Aside0.mk (below_step (by repeat (first | (with_reducible first | exact HB.out | apply below_alloc | apply pw_below_drewN | apply below_drew1) | exact HB.out)) hb); clear HB; have HO255 := n0_; have HB := n1_; clear n0_ n1_; (try clear hb); (try clear hb2); (try clear hk); (try clear hi); (try clear ho0); (try simp only [errW_none, errW_some]))); try go_wp2_with (first | (go_at_call 14; (with_reducible refine (scan_Pairs.calls kj5 a0 _ _ l1 _ _ l2 t252 (some q256) _ ?side1 ?side2 ?side3 ?side4 A10.out).mono ?_); (case side1 => repeat (first | exact (Kd.C_below HR1.out HB.out) | (with_reducible refine Kd.C_alloc ?_ _) | (with_reducible refine Kd.C_drewN ?_ _) | (with_reducible refine Kd.C_drew ?_))); (case side2 => exact HC1.out); (case side3 => repeat (first | exact (Kd.C_below HR2.out HB.out) | (with_reducible refine Kd.C_alloc ?_ _) | (with_reducible refine Kd.C_drewN ?_ _) | (with_reducible refine Kd.C_drew ?_))); (case side4 => exact HC2.out); rintro e w31 ⟨v254, rfl, ho0, hb⟩; have n0_ := Aside0.mk (Kd.R_lower ho0 (below_size (by repeat (first | (with_reducible first | exact HB.out | apply below_alloc | apply pw_below_drewN | apply below_drew1) | exact HB.out)))); have n1_ := Aside0.mk (below_step (by repeat (first | (with_reducible first | exact HB.out | apply below_alloc | apply pw_below_drewN | apply below_drew1) | exact HB.out)) hb); clear HB; have HO255 := n0_; have HB := n1_; clear n0_ n1_; (try clear hb); (try clear hb2); (try clear hk); (try clear hi); (try clear ho0); (try simp only [errW_none, errW_some]))))
          go_ret
          exact ⟨by first | rfl | (simp [errW_none, errW_some] <;> rfl) | (simp [*, errW_none, errW_some] <;> rfl), by repeat (first | (with_reducible first | exact HB.out | apply below_alloc | apply pw_below_drewN | apply below_drew1) | exact HB.out)⟩

/-- THE ONE PURE STATEMENT of paviorlaw19_ScanTurns. -/
def paviorlaw19_ScanTurns.Pure : Prop := ∀ (a0 : Int) (l1 : List (S41)) (l2 : List Int) (a3 : Int), (Lit.int .i64 a0).wf = true → l1.length ≤ maxLen → (∀ x ∈ l1, ((Lit.int .i64 x.f0).wf = true ∧ (Lit.int .i64 x.f1).wf = true)) → l2.length ≤ maxLen → (∀ x ∈ l2, (Lit.int .i64 x).wf = true) → (Lit.int .i64 a3).wf = true → ∃ k, paviorlaw19_ScanTurns.f k a0 l1 l2 a3 = some true

end Go.Proofs.Ytlmjjkggoemabaa.Q
