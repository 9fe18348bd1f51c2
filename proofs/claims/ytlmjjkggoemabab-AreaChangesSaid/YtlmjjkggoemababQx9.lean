-- Written by this session's program wip/tools/xprint.py (the kit's printer, turned by it); not the kit's own print.
import Derived.Test.YtlmjjkggoemababQx0
import Derived.Test.YtlmjjkggoemababQx1
import Derived.Test.YtlmjjkggoemababQx8
namespace Go.Proofs.Ytlmjjkggoemabab.Q
open Go.RowKit Go.Proofs.YtlmjjkggoemababW.PrintWords Go.Proofs.YtlmjjkggoemababW.PrintLast Go.Proofs.YtlmjjkggoemababW.PrintMore
attribute [local go_sem] max2_int min2_int max_two min_two max_three min_three max_four min_four   -- for this text's walks alone
set_option linter.unusedVariables false
set_option linter.unusedSimpArgs false

attribute [local go_sem high] eqA30
attribute [local go_sem high] eqErr_some neErr_some eqErr_left neErr_left
/-! ### paviorref09_May: function 14 -/
mutual
def paviorref09_May.l0 : Nat → List (S32) → Int → Option (Bool)
  | 0, _, _ => none
  | k + 1, x0, x3 => if x3 < (x0.length : Int) then (if 0 ≤ x3 then ((paviorref09_Span.f ((rd_T32 x0 x3).f0) ((rd_T32 x0 x3).f1)).bind fun t217 => (if t217 = true then (if x3 > 0 then (if 0 ≤ (wrap64 (x3 - 1)) then (if (wrap64 (x3 - 1)) < (x0.length : Int) then (if ((rd_T32 x0 (wrap64 (x3 - 1))).f1) > ((rd_T32 x0 x3).f0) then (paviorref09_May.j1 k x0 x3 true) else (if ((rd_T32 x0 (wrap64 (x3 - 1))).f1) = ((rd_T32 x0 x3).f0) then (if (((rd_T32 x0 (wrap64 (x3 - 1))).f2.f0) == ((rd_T32 x0 x3).f2.f0) && (((rd_T32 x0 (wrap64 (x3 - 1))).f2.f1) == ((rd_T32 x0 x3).f2.f1))) = true then (paviorref09_May.j1 k x0 x3 (((rd_T32 x0 (wrap64 (x3 - 1))).f3) == ((rd_T32 x0 x3).f3))) else (paviorref09_May.j1 k x0 x3 false)) else (paviorref09_May.j1 k x0 x3 false))) else (none)) else (none)) else (paviorref09_May.j1 k x0 x3 false)) else (some false))) else (none)) else (some true)
def paviorref09_May.j1 : Nat → List (S32) → Int → Bool → Option (Bool)
  | 0, _, _, _ => none
  | k + 1, x0, x3, x84 => if x84 = true then (some false) else (paviorref09_May.l0 k x0 (wrap64 (x3 + 1)))
end
def paviorref09_May.f (k : Nat) (l0 : List (S32)) : Option (Bool) := if (l0.length : Int) > 64 then (some false) else (paviorref09_May.l0 k l0 0)
theorem paviorref09_May.mono_l : ∀ k, (∀ y0 y1, LeO (paviorref09_May.l0 k y0 y1) (paviorref09_May.l0 (k + 1) y0 y1)) ∧ (∀ y0 y1 y2, LeO (paviorref09_May.j1 k y0 y1 y2) (paviorref09_May.j1 (k + 1) y0 y1 y2))
  | 0 => ⟨fun _ _ r h => by simp [paviorref09_May.l0] at h, fun _ _ _ r h => by simp [paviorref09_May.j1] at h⟩
  | k + 1 => by
    obtain ⟨ih0, ih1⟩ := paviorref09_May.mono_l k
    refine ⟨?_, ?_⟩
    · intro y0 y1
      unfold paviorref09_May.l0
      repeat' first
      | (with_reducible exact ih0 _ _)
      | (with_reducible exact ih1 _ _ _)
      | (with_reducible exact LeO.refl _)
      | (with_reducible exact LeO.none _)
      | (with_reducible refine LeO.ite ?_ ?_)
      | (with_reducible refine LeO.bind ?_ (fun _ => ?_))
      | exact ih0 _ _
      | exact ih1 _ _ _
      | exact LeO.none _
      | refine LeO.ite ?_ ?_
      | refine LeO.bind ?_ (fun _ => ?_)
    · intro y0 y1 y2
      unfold paviorref09_May.j1
      repeat' first
      | (with_reducible exact ih0 _ _)
      | (with_reducible exact ih1 _ _ _)
      | (with_reducible exact LeO.refl _)
      | (with_reducible exact LeO.none _)
      | (with_reducible refine LeO.ite ?_ ?_)
      | (with_reducible refine LeO.bind ?_ (fun _ => ?_))
      | exact ih0 _ _
      | exact ih1 _ _ _
      | exact LeO.none _
      | refine LeO.ite ?_ ?_
      | refine LeO.bind ?_ (fun _ => ?_)
theorem paviorref09_May.mono : ∀ a0 k, LeO (paviorref09_May.f k a0) (paviorref09_May.f (k + 1) a0) := by
  intro a0 k
  obtain ⟨ih0, ih1⟩ := paviorref09_May.mono_l k
  unfold paviorref09_May.f
  repeat' first
      | (with_reducible exact ih0 _ _)
      | (with_reducible exact ih1 _ _ _)
      | (with_reducible exact LeO.refl _)
      | (with_reducible exact LeO.none _)
      | (with_reducible refine LeO.ite ?_ ?_)
      | (with_reducible refine LeO.bind ?_ (fun _ => ?_))
      | exact ih0 _ _
      | exact ih1 _ _ _
      | exact LeO.none _
      | refine LeO.ite ?_ ?_
      | refine LeO.bind ?_ (fun _ => ?_)
set_option maxHeartbeats 8000000 in
set_option maxRecDepth 100000 in
theorem paviorref09_May.calls (k : Nat) (A0 : Option Addr) (c0 : Nat) (l0 : List (S32)) (r : Bool) (w : World) (hr0 : Kd.C k32 w A0 l0.length l0) (hc0 : l0.length ≤ c0) (h : paviorref09_May.f k l0 = some r) :
    Calls Try.prog 14 #[.slice A0 l0.length c0] w fun e w' => e = .returned (.bool r) ∧ Drawn0 w w' := by
  have hu30 := Try.underlying30
  have HR0 := Aside0.mk hr0
  have HC0 := Aside0.mk hc0
  clear hr0 hc0
  have H : (if (l0.length : Int) > 64 then (some false) else (paviorref09_May.l0 k l0 0)) = some r := h
  clear h
  by_cases c2 : (l0.length : Int) > 64
  · rw [if_pos c2] at H
    have c2b0 : decide (64 < (l0.length : Int)) = true := decide_eq_true c2
    have c2b1 : decide (64 < l0.length) = true := decide_eq_true (by omega)
    clear c2
    obtain rfl := Option.some.inj H
    go_enter Try.func14, Try.ntmps14
    go_wp2
    repeat (go_quiet (fail); try go_wp2)
    go_ret
    exact ⟨by first | rfl | (simp; done) | (simp [*]; done), by repeat (first | exact Drawn0.refl _ | apply Drawn0.step)⟩
  · rw [if_neg c2] at H
    have c2b0 : decide (64 < (l0.length : Int)) = false := decide_eq_false c2
    have c2b1 : decide (64 < l0.length) = false := decide_eq_false (by omega)
    clear c2
    have H' := Aside0.mk H
    clear H
    go_enter Try.func14, Try.ntmps14
    go_wp2
    repeat (go_quiet (fail); try go_wp2)
    go_loopg [3] k (fun kq v3 w' => ∃ (x3_1 : Int), v3 = .int .i64 x3_1 ∧ Aside0 (paviorref09_May.l0 kq l0 x3_1 = some r) ∧ Aside0 (kq ≤ k) ∧ Drawn0 w w')
    case atStart => exact ⟨(0), (by first | rfl | (simp; done) | (simp [*]; done)), H', ⟨Nat.le_refl _⟩, by repeat (first | exact Drawn0.refl _ | apply Drawn0.step)⟩
    case round =>
      clear H'
      try clear c1
      try clear c2
      try clear c2b0
      try clear c2b1
      try clear p2
      obtain ⟨x3_1, rfl, HA, HK1, ⟨m1, rfl⟩⟩ := hrel
      cases gk with
      | zero => exact absurd HA.out (by simp [paviorref09_May.l0])
      | succ k1 =>
        have H := HA.out
        clear HA
        simp only [paviorref09_May.l0] at H
        by_cases c3 : x3_1 < (l0.length : Int)
        · rw [if_pos c3] at H
          have c3b0 : decide (x3_1 < (l0.length : Int)) = true := decide_eq_true c3
          clear c3
          by_cases c4 : 0 ≤ x3_1
          · rw [if_pos c4] at H
            have c4b0 : decide (0 ≤ x3_1) = true := decide_eq_true c4
            clear c4
            replace H := Option.bind_eq_some_iff.mp H
            obtain ⟨t217, A50, H⟩ := H
            replace H : (if t217 = true then (if x3_1 > 0 then (if 0 ≤ (wrap64 (x3_1 - 1)) then (if (wrap64 (x3_1 - 1)) < (l0.length : Int) then (if ((rd_T32 l0 (wrap64 (x3_1 - 1))).f1) > ((rd_T32 l0 x3_1).f0) then (paviorref09_May.j1 k1 l0 x3_1 true) else (if ((rd_T32 l0 (wrap64 (x3_1 - 1))).f1) = ((rd_T32 l0 x3_1).f0) then (if (((rd_T32 l0 (wrap64 (x3_1 - 1))).f2.f0) == ((rd_T32 l0 x3_1).f2.f0) && (((rd_T32 l0 (wrap64 (x3_1 - 1))).f2.f1) == ((rd_T32 l0 x3_1).f2.f1))) = true then (paviorref09_May.j1 k1 l0 x3_1 (((rd_T32 l0 (wrap64 (x3_1 - 1))).f3) == ((rd_T32 l0 x3_1).f3))) else (paviorref09_May.j1 k1 l0 x3_1 false)) else (paviorref09_May.j1 k1 l0 x3_1 false))) else (none)) else (none)) else (paviorref09_May.j1 k1 l0 x3_1 false)) else (some false)) = some r := H
            have A5 := Aside0.mk A50
            clear A50
            by_cases c6 : t217 = true
            · subst c6
              have H1 : (if x3_1 > 0 then (if 0 ≤ (wrap64 (x3_1 - 1)) then (if (wrap64 (x3_1 - 1)) < (l0.length : Int) then (if ((rd_T32 l0 (wrap64 (x3_1 - 1))).f1) > ((rd_T32 l0 x3_1).f0) then (paviorref09_May.j1 k1 l0 x3_1 true) else (if ((rd_T32 l0 (wrap64 (x3_1 - 1))).f1) = ((rd_T32 l0 x3_1).f0) then (if (((rd_T32 l0 (wrap64 (x3_1 - 1))).f2.f0) == ((rd_T32 l0 x3_1).f2.f0) && (((rd_T32 l0 (wrap64 (x3_1 - 1))).f2.f1) == ((rd_T32 l0 x3_1).f2.f1))) = true then (paviorref09_May.j1 k1 l0 x3_1 (((rd_T32 l0 (wrap64 (x3_1 - 1))).f3) == ((rd_T32 l0 x3_1).f3))) else (paviorref09_May.j1 k1 l0 x3_1 false)) else (paviorref09_May.j1 k1 l0 x3_1 false))) else (none)) else (none)) else (paviorref09_May.j1 k1 l0 x3_1 false)) = some r := by rw [if_pos rfl] at H; exact H
              clear H
              have H := H1
              clear H1
              have HC7 := Aside0.mk H
              clear H
              have p215 : 0 ≤ (x3_1 : Int) := of_decide_eq_true (by first | (with_reducible assumption) | assumption)
              have q215 : x3_1 < (l0.length : Int) := of_decide_eq_true (by first | (with_reducible assumption) | assumption)
              obtain ⟨ad215, e215, hx215_0, hx215_1, hx215_2, hx215_3, hx215_4⟩ := at_T32 HR0.out x3_1 p215 q215
              cases e215
              replace p215 := eq_true p215
              replace q215 := eq_true q215
              have p216 : 0 ≤ (x3_1 : Int) := of_decide_eq_true (by first | (with_reducible assumption) | assumption)
              have q216 : x3_1 < (l0.length : Int) := of_decide_eq_true (by first | (with_reducible assumption) | assumption)
              obtain ⟨ad216, e216, hx216_0, hx216_1, hx216_2, hx216_3, hx216_4⟩ := at_T32 HR0.out x3_1 p216 q216
              obtain rfl : ad215 = ad216 := (by injection e216)
              replace p216 := eq_true p216
              replace q216 := eq_true q216
              go_upto_region 9 with (first | (go_at_call 17; (with_reducible refine (paviorref09_Span.calls ((rd_T32 l0 x3_1).f0) ((rd_T32 l0 x3_1).f1) true _ A5.out).mono ?_); rintro e w' ⟨rfl, ⟨nd, rfl⟩⟩; (try first | exact ⟨rfl, _, World.drewN_drewN _ _ _⟩ | exact ⟨rfl, _, Eq.trans (World.drewN_drewN _ _ _) (congrArg (World.drewN _) (Nat.add_assoc _ _ _))⟩)))
              repeat (go_quiet (first | (go_at_call 17; (with_reducible refine (paviorref09_Span.calls ((rd_T32 l0 x3_1).f0) ((rd_T32 l0 x3_1).f1) true _ A5.out).mono ?_); rintro e w' ⟨rfl, ⟨nd, rfl⟩⟩; (try first | exact ⟨rfl, _, World.drewN_drewN _ _ _⟩ | exact ⟨rfl, _, Eq.trans (World.drewN_drewN _ _ _) (congrArg (World.drewN _) (Nat.add_assoc _ _ _))⟩))); go_upto_region 9 with (first | (go_at_call 17; (with_reducible refine (paviorref09_Span.calls ((rd_T32 l0 x3_1).f0) ((rd_T32 l0 x3_1).f1) true _ A5.out).mono ?_); rintro e w' ⟨rfl, ⟨nd, rfl⟩⟩; (try first | exact ⟨rfl, _, World.drewN_drewN _ _ _⟩ | exact ⟨rfl, _, Eq.trans (World.drewN_drewN _ _ _) (congrArg (World.drewN _) (Nat.add_assoc _ _ _))⟩))))
              (try simp only [Act.put, List.setIfInBounds_toArray, List.set_cons_zero, List.set_cons_succ])
              go_cut [84] (fun v84 wc => ∃ (kq : Nat) (x84_6 : Bool), v84 = .bool x84_6 ∧ Aside0 (paviorref09_May.j1 kq l0 x3_1 x84_6 = some r) ∧ Aside0 (kq ≤ k1) ∧ Drawn0 w wc)
              case first =>
                have H := HC7.out
                clear HC7
                by_cases c8 : x3_1 > 0
                · rw [if_pos c8] at H
                  have c8b0 : decide (0 < x3_1) = true := decide_eq_true c8
                  clear c8
                  (first | rw [c8b0] | (simp only [i64_w, i32_w]; rw [c8b0]) | skip)
                  obtain ⟨ji9, hji9⟩ : ∃ j_ : Int, (wrap64 (x3_1 - 1)) = j_ := ⟨_, rfl⟩
                  replace H : (if 0 ≤ (ji9) then (if (ji9) < (l0.length : Int) then (if ((rd_T32 l0 (ji9)).f1) > ((rd_T32 l0 x3_1).f0) then (paviorref09_May.j1 k1 l0 x3_1 true) else (if ((rd_T32 l0 (ji9)).f1) = ((rd_T32 l0 x3_1).f0) then (if (((rd_T32 l0 (ji9)).f2.f0) == ((rd_T32 l0 x3_1).f2.f0) && (((rd_T32 l0 (ji9)).f2.f1) == ((rd_T32 l0 x3_1).f2.f1))) = true then (paviorref09_May.j1 k1 l0 x3_1 (((rd_T32 l0 (ji9)).f3) == ((rd_T32 l0 x3_1).f3))) else (paviorref09_May.j1 k1 l0 x3_1 false)) else (paviorref09_May.j1 k1 l0 x3_1 false))) else (none)) else (none)) = some r := by first | (rw [hji9] at H; exact H) | (simp only [hji9] at H ⊢; exact H)
                  have hji9w : (IntKind.i64.wrap (x3_1 - 1)) = ji9 := (i64_w _).trans hji9
                  by_cases c10 : 0 ≤ (ji9)
                  · rw [if_pos c10] at H
                    have c10b0 : decide (0 ≤ (ji9)) = true := decide_eq_true c10
                    clear c10
                    by_cases c11 : (ji9) < (l0.length : Int)
                    · rw [if_pos c11] at H
                      have c11b0 : decide ((ji9) < (l0.length : Int)) = true := decide_eq_true c11
                      clear c11
                      by_cases c12 : ((rd_T32 l0 (ji9)).f1) > ((rd_T32 l0 x3_1).f0)
                      · rw [if_pos c12] at H
                        have c12b0 : decide (((rd_T32 l0 x3_1).f0) < ((rd_T32 l0 (ji9)).f1)) = true := decide_eq_true c12
                        clear c12
                        have H' := Aside0.mk H
                        clear H
                        have p218 : 0 ≤ ((ji9) : Int) := of_decide_eq_true (by first | (with_reducible assumption) | assumption)
                        have q218 : (ji9) < (l0.length : Int) := of_decide_eq_true (by first | (with_reducible assumption) | assumption)
                        obtain ⟨ad218, e218, hx218_0, hx218_1, hx218_2, hx218_3, hx218_4⟩ := at_T32 HR0.out (ji9) p218 q218
                        obtain rfl : ad215 = ad218 := (by injection e218)
                        replace p218 := eq_true p218
                        replace q218 := eq_true q218
                        have p219 : 0 ≤ (x3_1 : Int) := of_decide_eq_true (by first | (with_reducible assumption) | assumption)
                        have q219 : x3_1 < (l0.length : Int) := of_decide_eq_true (by first | (with_reducible assumption) | assumption)
                        obtain ⟨ad219, e219, hx219_0, hx219_1, hx219_2, hx219_3, hx219_4⟩ := at_T32 HR0.out x3_1 p219 q219
                        obtain rfl : ad215 = ad219 := (by injection e219)
                        replace p219 := eq_true p219
                        replace q219 := eq_true q219
                        go_wp2
                        repeat (go_quiet (fail); try go_wp2)
                        go_meet
                        case rel => exact ⟨_, (true), (by first | rfl | (simp; done) | (simp [*]; done)), H', ⟨by have := HK1.out; first | omega | exact Nat.le_refl _⟩, by repeat (first | exact Drawn0.refl _ | apply Drawn0.step)⟩
                      · rw [if_neg c12] at H
                        have c12b0 : decide (((rd_T32 l0 x3_1).f0) < ((rd_T32 l0 (ji9)).f1)) = false := decide_eq_false c12
                        clear c12
                        by_cases c13 : ((rd_T32 l0 (ji9)).f1) = ((rd_T32 l0 x3_1).f0)
                        · rw [if_pos c13] at H
                          have c13b0 : (((rd_T32 l0 (ji9)).f1) == ((rd_T32 l0 x3_1).f0)) = true := beq_iff_eq.mpr c13
                          have c13b1 : (((rd_T32 l0 (ji9)).f1) != ((rd_T32 l0 x3_1).f0)) = false := bne_eq_false_iff_eq.mpr c13
                          clear c13
                          by_cases c14 : (((rd_T32 l0 (ji9)).f2.f0) == ((rd_T32 l0 x3_1).f2.f0) && (((rd_T32 l0 (ji9)).f2.f1) == ((rd_T32 l0 x3_1).f2.f1))) = true
                          · rw [if_pos c14] at H
                            have c14b0 : (((rd_T32 l0 (ji9)).f2.f0) == ((rd_T32 l0 x3_1).f2.f0) && (((rd_T32 l0 (ji9)).f2.f1) == ((rd_T32 l0 x3_1).f2.f1))) = true := c14
                            (try (have c14b1 : decide (((rd_T32 l0 (ji9)).f2.f0) = ((rd_T32 l0 x3_1).f2.f0) && (((rd_T32 l0 (ji9)).f2.f1) == ((rd_T32 l0 x3_1).f2.f1))) = true := by simpa using c14))
                            (try (have c14b2 : (((rd_T32 l0 (ji9)).f2.f0) == ((rd_T32 l0 x3_1).f2.f0) && (((rd_T32 l0 (ji9)).f2.f1) == ((rd_T32 l0 x3_1).f2.f1))) = true := by simpa using c14))
                            clear c14
                            have H' := Aside0.mk H
                            clear H
                            have p218 : 0 ≤ ((ji9) : Int) := of_decide_eq_true (by first | (with_reducible assumption) | assumption)
                            have q218 : (ji9) < (l0.length : Int) := of_decide_eq_true (by first | (with_reducible assumption) | assumption)
                            obtain ⟨ad218, e218, hx218_0, hx218_1, hx218_2, hx218_3, hx218_4⟩ := at_T32 HR0.out (ji9) p218 q218
                            obtain rfl : ad215 = ad218 := (by injection e218)
                            replace p218 := eq_true p218
                            replace q218 := eq_true q218
                            have p219 : 0 ≤ (x3_1 : Int) := of_decide_eq_true (by first | (with_reducible assumption) | assumption)
                            have q219 : x3_1 < (l0.length : Int) := of_decide_eq_true (by first | (with_reducible assumption) | assumption)
                            obtain ⟨ad219, e219, hx219_0, hx219_1, hx219_2, hx219_3, hx219_4⟩ := at_T32 HR0.out x3_1 p219 q219
                            obtain rfl : ad215 = ad219 := (by injection e219)
                            replace p219 := eq_true p219
                            replace q219 := eq_true q219
                            have p220 : 0 ≤ ((ji9) : Int) := of_decide_eq_true (by first | (with_reducible assumption) | assumption)
                            have q220 : (ji9) < (l0.length : Int) := of_decide_eq_true (by first | (with_reducible assumption) | assumption)
                            obtain ⟨ad220, e220, hx220_0, hx220_1, hx220_2, hx220_3, hx220_4⟩ := at_T32 HR0.out (ji9) p220 q220
                            obtain rfl : ad215 = ad220 := (by injection e220)
                            replace p220 := eq_true p220
                            replace q220 := eq_true q220
                            have p221 : 0 ≤ (x3_1 : Int) := of_decide_eq_true (by first | (with_reducible assumption) | assumption)
                            have q221 : x3_1 < (l0.length : Int) := of_decide_eq_true (by first | (with_reducible assumption) | assumption)
                            obtain ⟨ad221, e221, hx221_0, hx221_1, hx221_2, hx221_3, hx221_4⟩ := at_T32 HR0.out x3_1 p221 q221
                            obtain rfl : ad215 = ad221 := (by injection e221)
                            replace p221 := eq_true p221
                            replace q221 := eq_true q221
                            have p222 : 0 ≤ ((ji9) : Int) := of_decide_eq_true (by first | (with_reducible assumption) | assumption)
                            have q222 : (ji9) < (l0.length : Int) := of_decide_eq_true (by first | (with_reducible assumption) | assumption)
                            obtain ⟨ad222, e222, hx222_0, hx222_1, hx222_2, hx222_3, hx222_4⟩ := at_T32 HR0.out (ji9) p222 q222
                            obtain rfl : ad215 = ad222 := (by injection e222)
                            replace p222 := eq_true p222
                            replace q222 := eq_true q222
                            have p223 : 0 ≤ (x3_1 : Int) := of_decide_eq_true (by first | (with_reducible assumption) | assumption)
                            have q223 : x3_1 < (l0.length : Int) := of_decide_eq_true (by first | (with_reducible assumption) | assumption)
                            obtain ⟨ad223, e223, hx223_0, hx223_1, hx223_2, hx223_3, hx223_4⟩ := at_T32 HR0.out x3_1 p223 q223
                            obtain rfl : ad215 = ad223 := (by injection e223)
                            replace p223 := eq_true p223
                            replace q223 := eq_true q223
                            have p224 : 0 ≤ ((ji9) : Int) := of_decide_eq_true (by first | (with_reducible assumption) | assumption)
                            have q224 : (ji9) < (l0.length : Int) := of_decide_eq_true (by first | (with_reducible assumption) | assumption)
                            obtain ⟨ad224, e224, hx224_0, hx224_1, hx224_2, hx224_3, hx224_4⟩ := at_T32 HR0.out (ji9) p224 q224
                            obtain rfl : ad215 = ad224 := (by injection e224)
                            replace p224 := eq_true p224
                            replace q224 := eq_true q224
                            have p225 : 0 ≤ (x3_1 : Int) := of_decide_eq_true (by first | (with_reducible assumption) | assumption)
                            have q225 : x3_1 < (l0.length : Int) := of_decide_eq_true (by first | (with_reducible assumption) | assumption)
                            obtain ⟨ad225, e225, hx225_0, hx225_1, hx225_2, hx225_3, hx225_4⟩ := at_T32 HR0.out x3_1 p225 q225
                            obtain rfl : ad215 = ad225 := (by injection e225)
                            replace p225 := eq_true p225
                            replace q225 := eq_true q225
                            go_wp2
                            repeat (go_quiet (fail); try go_wp2)
                            go_meet
                            case rel => exact ⟨_, ((((rd_T32 l0 (ji9)).f3) == ((rd_T32 l0 x3_1).f3))), (by first | rfl | (simp; done) | (simp only [← hji9] <;> (first | rfl | simp)) | (simp [*]; done)), H', ⟨by have := HK1.out; first | omega | exact Nat.le_refl _⟩, by repeat (first | exact Drawn0.refl _ | apply Drawn0.step)⟩
                          · rw [if_neg c14] at H
                            have c14b0 : (((rd_T32 l0 (ji9)).f2.f0) == ((rd_T32 l0 x3_1).f2.f0) && (((rd_T32 l0 (ji9)).f2.f1) == ((rd_T32 l0 x3_1).f2.f1))) = false := by simpa using c14
                            (try (have c14b1 : decide (((rd_T32 l0 (ji9)).f2.f0) = ((rd_T32 l0 x3_1).f2.f0) && (((rd_T32 l0 (ji9)).f2.f1) == ((rd_T32 l0 x3_1).f2.f1))) = false := by simpa using c14))
                            (try (have c14b2 : (((rd_T32 l0 (ji9)).f2.f0) == ((rd_T32 l0 x3_1).f2.f0) && (((rd_T32 l0 (ji9)).f2.f1) == ((rd_T32 l0 x3_1).f2.f1))) = false := by simpa using c14))
                            (try (have c14b3 : ¬ (((rd_T32 l0 (ji9)).f2.f0) = ((rd_T32 l0 x3_1).f2.f0) && (((rd_T32 l0 (ji9)).f2.f1) == ((rd_T32 l0 x3_1).f2.f1))) := by simpa using c14))
                            clear c14
                            have H' := Aside0.mk H
                            clear H
                            have p218 : 0 ≤ ((ji9) : Int) := of_decide_eq_true (by first | (with_reducible assumption) | assumption)
                            have q218 : (ji9) < (l0.length : Int) := of_decide_eq_true (by first | (with_reducible assumption) | assumption)
                            obtain ⟨ad218, e218, hx218_0, hx218_1, hx218_2, hx218_3, hx218_4⟩ := at_T32 HR0.out (ji9) p218 q218
                            obtain rfl : ad215 = ad218 := (by injection e218)
                            replace p218 := eq_true p218
                            replace q218 := eq_true q218
                            have p219 : 0 ≤ (x3_1 : Int) := of_decide_eq_true (by first | (with_reducible assumption) | assumption)
                            have q219 : x3_1 < (l0.length : Int) := of_decide_eq_true (by first | (with_reducible assumption) | assumption)
                            obtain ⟨ad219, e219, hx219_0, hx219_1, hx219_2, hx219_3, hx219_4⟩ := at_T32 HR0.out x3_1 p219 q219
                            obtain rfl : ad215 = ad219 := (by injection e219)
                            replace p219 := eq_true p219
                            replace q219 := eq_true q219
                            have p220 : 0 ≤ ((ji9) : Int) := of_decide_eq_true (by first | (with_reducible assumption) | assumption)
                            have q220 : (ji9) < (l0.length : Int) := of_decide_eq_true (by first | (with_reducible assumption) | assumption)
                            obtain ⟨ad220, e220, hx220_0, hx220_1, hx220_2, hx220_3, hx220_4⟩ := at_T32 HR0.out (ji9) p220 q220
                            obtain rfl : ad215 = ad220 := (by injection e220)
                            replace p220 := eq_true p220
                            replace q220 := eq_true q220
                            have p221 : 0 ≤ (x3_1 : Int) := of_decide_eq_true (by first | (with_reducible assumption) | assumption)
                            have q221 : x3_1 < (l0.length : Int) := of_decide_eq_true (by first | (with_reducible assumption) | assumption)
                            obtain ⟨ad221, e221, hx221_0, hx221_1, hx221_2, hx221_3, hx221_4⟩ := at_T32 HR0.out x3_1 p221 q221
                            obtain rfl : ad215 = ad221 := (by injection e221)
                            replace p221 := eq_true p221
                            replace q221 := eq_true q221
                            have p222 : 0 ≤ ((ji9) : Int) := of_decide_eq_true (by first | (with_reducible assumption) | assumption)
                            have q222 : (ji9) < (l0.length : Int) := of_decide_eq_true (by first | (with_reducible assumption) | assumption)
                            obtain ⟨ad222, e222, hx222_0, hx222_1, hx222_2, hx222_3, hx222_4⟩ := at_T32 HR0.out (ji9) p222 q222
                            obtain rfl : ad215 = ad222 := (by injection e222)
                            replace p222 := eq_true p222
                            replace q222 := eq_true q222
                            have p223 : 0 ≤ (x3_1 : Int) := of_decide_eq_true (by first | (with_reducible assumption) | assumption)
                            have q223 : x3_1 < (l0.length : Int) := of_decide_eq_true (by first | (with_reducible assumption) | assumption)
                            obtain ⟨ad223, e223, hx223_0, hx223_1, hx223_2, hx223_3, hx223_4⟩ := at_T32 HR0.out x3_1 p223 q223
                            obtain rfl : ad215 = ad223 := (by injection e223)
                            replace p223 := eq_true p223
                            replace q223 := eq_true q223
                            go_wp2
                            repeat (go_quiet (fail); try go_wp2)
                            go_meet
                            case rel => exact ⟨_, (false), (by first | rfl | (simp; done) | (simp [*]; done)), H', ⟨by have := HK1.out; first | omega | exact Nat.le_refl _⟩, by repeat (first | exact Drawn0.refl _ | apply Drawn0.step)⟩
                        · rw [if_neg c13] at H
                          have c13b0 : (((rd_T32 l0 (ji9)).f1) == ((rd_T32 l0 x3_1).f0)) = false := beq_eq_false_iff_ne.mpr c13
                          have c13b1 : (((rd_T32 l0 (ji9)).f1) != ((rd_T32 l0 x3_1).f0)) = true := bne_iff_ne.mpr c13
                          have H' := Aside0.mk H
                          clear H
                          have p218 : 0 ≤ ((ji9) : Int) := of_decide_eq_true (by first | (with_reducible assumption) | assumption)
                          have q218 : (ji9) < (l0.length : Int) := of_decide_eq_true (by first | (with_reducible assumption) | assumption)
                          obtain ⟨ad218, e218, hx218_0, hx218_1, hx218_2, hx218_3, hx218_4⟩ := at_T32 HR0.out (ji9) p218 q218
                          obtain rfl : ad215 = ad218 := (by injection e218)
                          replace p218 := eq_true p218
                          replace q218 := eq_true q218
                          have p219 : 0 ≤ (x3_1 : Int) := of_decide_eq_true (by first | (with_reducible assumption) | assumption)
                          have q219 : x3_1 < (l0.length : Int) := of_decide_eq_true (by first | (with_reducible assumption) | assumption)
                          obtain ⟨ad219, e219, hx219_0, hx219_1, hx219_2, hx219_3, hx219_4⟩ := at_T32 HR0.out x3_1 p219 q219
                          obtain rfl : ad215 = ad219 := (by injection e219)
                          replace p219 := eq_true p219
                          replace q219 := eq_true q219
                          have p220 : 0 ≤ ((ji9) : Int) := of_decide_eq_true (by first | (with_reducible assumption) | assumption)
                          have q220 : (ji9) < (l0.length : Int) := of_decide_eq_true (by first | (with_reducible assumption) | assumption)
                          obtain ⟨ad220, e220, hx220_0, hx220_1, hx220_2, hx220_3, hx220_4⟩ := at_T32 HR0.out (ji9) p220 q220
                          obtain rfl : ad215 = ad220 := (by injection e220)
                          replace p220 := eq_true p220
                          replace q220 := eq_true q220
                          have p221 : 0 ≤ (x3_1 : Int) := of_decide_eq_true (by first | (with_reducible assumption) | assumption)
                          have q221 : x3_1 < (l0.length : Int) := of_decide_eq_true (by first | (with_reducible assumption) | assumption)
                          obtain ⟨ad221, e221, hx221_0, hx221_1, hx221_2, hx221_3, hx221_4⟩ := at_T32 HR0.out x3_1 p221 q221
                          obtain rfl : ad215 = ad221 := (by injection e221)
                          replace p221 := eq_true p221
                          replace q221 := eq_true q221
                          go_wp2
                          repeat (go_quiet (fail); try go_wp2)
                          go_meet
                          case rel => exact ⟨_, (false), (by first | rfl | (simp; done) | (simp [*]; done)), H', ⟨by have := HK1.out; first | omega | exact Nat.le_refl _⟩, by repeat (first | exact Drawn0.refl _ | apply Drawn0.step)⟩
                    · rw [if_neg c11] at H
                      exact absurd H (by simp)
                  · rw [if_neg c10] at H
                    exact absurd H (by simp)
                · rw [if_neg c8] at H
                  have c8b0 : decide (0 < x3_1) = false := decide_eq_false c8
                  clear c8
                  (first | rw [c8b0] | (simp only [i64_w, i32_w]; rw [c8b0]) | skip)
                  have H' := Aside0.mk H
                  clear H
                  go_wp2
                  repeat (go_quiet (fail); try go_wp2)
                  go_meet
                  case rel => exact ⟨_, (false), (by first | rfl | (simp; done) | (simp [*]; done)), H', ⟨by have := HK1.out; first | omega | exact Nat.le_refl _⟩, by repeat (first | exact Drawn0.refl _ | apply Drawn0.step)⟩
              case rest =>
                clear HC7
                try clear c1
                try clear c2
                try clear c2b0
                try clear c2b1
                try clear p2
                try clear q2
                try clear hx2
                try clear c3
                try clear c3b0
                try clear c4
                try clear c4b0
                try clear c6
                try clear p6
                try clear c8
                try clear c8b0
                try clear c10
                try clear c10b0
                try clear c11
                try clear c11b0
                try clear c12
                try clear c12b0
                try clear c13
                try clear c13b0
                try clear c13b1
                try clear c14
                try clear c14b0
                try clear c14b1
                try clear c14b2
                try clear hx215_0
                try clear hx215_1
                try clear hx215_2
                try clear hx215_3
                try clear hx215_4
                try clear hx216_0
                try clear hx216_1
                try clear hx216_2
                try clear hx216_3
                try clear hx216_4
                try clear hx218_0
                try clear hx218_1
                try clear hx218_2
                try clear hx218_3
                try clear hx218_4
                try clear hx219_0
                try clear hx219_1
                try clear hx219_2
                try clear hx219_3
                try clear hx219_4
                try clear hx220_0
                try clear hx220_1
                try clear hx220_2
                try clear hx220_3
                try clear hx220_4
                try clear hx221_0
                try clear hx221_1
                try clear hx221_2
                try clear hx221_3
                try clear hx221_4
                try clear hx222_0
                try clear hx222_1
                try clear hx222_2
                try clear hx222_3
                try clear hx222_4
                try clear hx223_0
                try clear hx223_1
                try clear hx223_2
                try clear hx223_3
                try clear hx223_4
                try clear hx224_0
                try clear hx224_1
                try clear hx224_2
                try clear hx224_3
                try clear hx224_4
                try clear hx225_0
                try clear hx225_1
                try clear hx225_2
                try clear hx225_3
                try clear hx225_4
                try clear p2
                try clear p215
                try clear p216
                try clear p218
                try clear p219
                try clear p220
                try clear p221
                try clear p222
                try clear p223
                try clear p224
                try clear p225
                try clear q215
                try clear q216
                try clear q218
                try clear q219
                try clear q220
                try clear q221
                try clear q222
                try clear q223
                try clear q224
                try clear q225
                obtain ⟨kq, x84_6, rfl, HA, HJ6, ⟨mc6, rfl⟩⟩ := hcut
                cases kq with
                | zero => exact absurd HA.out (by simp [paviorref09_May.j1])
                | succ kj6 =>
                  have H := HA.out
                  clear HA
                  simp only [paviorref09_May.j1] at H
                  by_cases c15 : x84_6 = true
                  · subst c15
                    have H1 : (some false) = some r := by rw [if_pos rfl] at H; exact H
                    clear H
                    have H := H1
                    clear H1
                    obtain rfl := Option.some.inj H
                    go_wp2
                    repeat (go_quiet (fail); try go_wp2)
                    go_ret
                    exact ⟨by first | rfl | (simp; done) | (simp [*]; done), by repeat (first | exact Drawn0.refl _ | apply Drawn0.step)⟩
                  · replace c15 := Bool.eq_false_iff.mpr c15
                    subst c15
                    have H1 : (paviorref09_May.l0 kj6 l0 (wrap64 (x3_1 + 1))) = some r := by rw [if_neg (show ¬ (false = true) by decide)] at H; exact H
                    clear H
                    have H := H1
                    clear H1
                    have H' := Aside0.mk H
                    clear H
                    go_wp2
                    repeat (go_quiet (fail); try go_wp2)
                    go_roundg kj6
                    case measure => have := HK1.out; have := HJ6.out; omega
                    case rel => exact ⟨(wrap64 (x3_1 + 1)), (by first | rfl | (simp; done) | (simp [*]; done)), H', ⟨by have := HK1.out; have := HJ6.out; omega⟩, by repeat (first | exact Drawn0.refl _ | apply Drawn0.step)⟩
            · replace c6 := Bool.eq_false_iff.mpr c6
              subst c6
              have H1 : (some false) = some r := by rw [if_neg (show ¬ (false = true) by decide)] at H; exact H
              clear H
              have H := H1
              clear H1
              obtain rfl := Option.some.inj H
              have p215 : 0 ≤ (x3_1 : Int) := of_decide_eq_true (by first | (with_reducible assumption) | assumption)
              have q215 : x3_1 < (l0.length : Int) := of_decide_eq_true (by first | (with_reducible assumption) | assumption)
              obtain ⟨ad215, e215, hx215_0, hx215_1, hx215_2, hx215_3, hx215_4⟩ := at_T32 HR0.out x3_1 p215 q215
              cases e215
              replace p215 := eq_true p215
              replace q215 := eq_true q215
              have p216 : 0 ≤ (x3_1 : Int) := of_decide_eq_true (by first | (with_reducible assumption) | assumption)
              have q216 : x3_1 < (l0.length : Int) := of_decide_eq_true (by first | (with_reducible assumption) | assumption)
              obtain ⟨ad216, e216, hx216_0, hx216_1, hx216_2, hx216_3, hx216_4⟩ := at_T32 HR0.out x3_1 p216 q216
              obtain rfl : ad215 = ad216 := (by injection e216)
              replace p216 := eq_true p216
              replace q216 := eq_true q216
              go_wp2_with (first | (go_at_call 17; (with_reducible refine (paviorref09_Span.calls ((rd_T32 l0 x3_1).f0) ((rd_T32 l0 x3_1).f1) false _ A5.out).mono ?_); rintro e w' ⟨rfl, ⟨nd, rfl⟩⟩; (try first | exact ⟨rfl, _, World.drewN_drewN _ _ _⟩ | exact ⟨rfl, _, Eq.trans (World.drewN_drewN _ _ _) (congrArg (World.drewN _) (Nat.add_assoc _ _ _))⟩)))
              repeat (go_quiet (first | (go_at_call 17; (with_reducible refine (paviorref09_Span.calls ((rd_T32 l0 x3_1).f0) ((rd_T32 l0 x3_1).f1) false _ A5.out).mono ?_); rintro e w' ⟨rfl, ⟨nd, rfl⟩⟩; (try first | exact ⟨rfl, _, World.drewN_drewN _ _ _⟩ | exact ⟨rfl, _, Eq.trans (World.drewN_drewN _ _ _) (congrArg (World.drewN _) (Nat.add_assoc _ _ _))⟩))); try go_wp2_with (first | (go_at_call 17; (with_reducible refine (paviorref09_Span.calls ((rd_T32 l0 x3_1).f0) ((rd_T32 l0 x3_1).f1) false _ A5.out).mono ?_); rintro e w' ⟨rfl, ⟨nd, rfl⟩⟩; (try first | exact ⟨rfl, _, World.drewN_drewN _ _ _⟩ | exact ⟨rfl, _, Eq.trans (World.drewN_drewN _ _ _) (congrArg (World.drewN _) (Nat.add_assoc _ _ _))⟩))))
              go_ret
              exact ⟨by first | rfl | (simp; done) | (simp [*]; done), by repeat (first | exact Drawn0.refl _ | apply Drawn0.step)⟩
          · rw [if_neg c4] at H
            exact absurd H (by simp)
        · rw [if_neg c3] at H
          have c3b0 : decide (x3_1 < (l0.length : Int)) = false := decide_eq_false c3
          clear c3
          obtain rfl := Option.some.inj H
          go_wp2
          repeat (go_quiet (fail); try go_wp2)
          go_ret
          exact ⟨by first | rfl | (simp; done) | (simp [*]; done), by repeat (first | exact Drawn0.refl _ | apply Drawn0.step)⟩

end Go.Proofs.Ytlmjjkggoemabab.Q
