-- Written by this session's program wip/tools/xprint.py (the kit's printer, turned by it); not the kit's own print.
import Derived.Test.YtlmjjkggoemabaaQx0
import Derived.Test.YtlmjjkggoemabaaQx6
namespace Go.Proofs.Ytlmjjkggoemabaa.Q
open Go.RowKit Go.Proofs.YtlmjjkggoemabaaW.PrintWords Go.Proofs.YtlmjjkggoemabaaW.PrintLast Go.Proofs.YtlmjjkggoemabaaW.PrintMore
attribute [local go_sem] max2_int min2_int max_two min_two max_three min_three max_four min_four   -- for this text's walks alone
set_option linter.unusedVariables false
set_option linter.unusedSimpArgs false

attribute [local go_sem high] eqErr_some neErr_some eqErr_left neErr_left
/-! ### paviorref19_Pairs: function 16 -/
mutual
def paviorref19_Pairs.l0 : Nat → Int → List Int → List Bool → List Bool → Int → Option ((List (S35)))
  | 0, _, _, _, _, _ => none
  | k + 1, x0, x2, x7, x8, x9 => if x9 < (x2.length : Int) then (if 0 ≤ x9 then (if 0 ≤ (rd x2 x9) then (if (rd x2 x9) < (x8.length : Int) then (paviorref19_Pairs.l0 k x0 x2 x7 (x8.set ((rd x2 x9) : Int).toNat true) (wrap64 (x9 + 1))) else (none)) else (none)) else (none)) else (paviorref19_Pairs.l1 k x0 x7 x8 ([] : List (S35)) 0)
def paviorref19_Pairs.l1 : Nat → Int → List Bool → List Bool → List (S35) → Int → Option ((List (S35)))
  | 0, _, _, _, _, _ => none
  | k + 1, x0, x7, x8, x10, x11 => if x11 ≤ x0 then (paviorref19_Pairs.l2 k x0 x7 x8 x10 x11 (-1) (-1) 0) else (some x10)
def paviorref19_Pairs.l2 : Nat → Int → List Bool → List Bool → List (S35) → Int → Int → Int → Int → Option ((List (S35)))
  | 0, _, _, _, _, _, _, _, _ => none
  | k + 1, x0, x7, x8, x10, x11, x12, x13, x14 => if x14 < x0 then (if 0 ≤ x14 then (if x14 < (x8.length : Int) then (if rdOf false x8 x14 = true then (paviorref19_Pairs.j3 k x0 x7 x8 x10 x11 x12 x13 x14 (decide (x12 < 0))) else (paviorref19_Pairs.j3 k x0 x7 x8 x10 x11 x12 x13 x14 false)) else (none)) else (none)) else (if x12 < 0 then (paviorref19_Pairs.j5 k x0 x7 x8 x10 x11 x12 x13 true) else (paviorref19_Pairs.j5 k x0 x7 x8 x10 x11 x12 x13 (decide (x12 ≥ x13))))
def paviorref19_Pairs.j3 : Nat → Int → List Bool → List Bool → List (S35) → Int → Int → Int → Int → Bool → Option ((List (S35)))
  | 0, _, _, _, _, _, _, _, _, _ => none
  | k + 1, x0, x7, x8, x10, x11, x12, x13, x14, x49 => if x49 = true then (paviorref19_Pairs.j4 k x0 x7 x8 x10 x11 x14 x13 x14) else (paviorref19_Pairs.j4 k x0 x7 x8 x10 x11 x12 x13 x14)
def paviorref19_Pairs.j4 : Nat → Int → List Bool → List Bool → List (S35) → Int → Int → Int → Int → Option ((List (S35)))
  | 0, _, _, _, _, _, _, _, _ => none
  | k + 1, x0, x7, x8, x10, x11, x12, x13, x14 => if 0 ≤ x14 then (if x14 < (x7.length : Int) then (if rdOf false x7 x14 = true then (paviorref19_Pairs.l2 k x0 x7 x8 x10 x11 x12 x14 (wrap64 (x14 + 1))) else (paviorref19_Pairs.l2 k x0 x7 x8 x10 x11 x12 x13 (wrap64 (x14 + 1)))) else (none)) else (none)
def paviorref19_Pairs.j5 : Nat → Int → List Bool → List Bool → List (S35) → Int → Int → Int → Bool → Option ((List (S35)))
  | 0, _, _, _, _, _, _, _, _ => none
  | k + 1, x0, x7, x8, x10, x11, x12, x13, x62 => if x62 = true then (some x10) else (if x10.length < 8796093022208 then (if 0 ≤ x12 then (if x12 < (x7.length : Int) then (if x12 < (x8.length : Int) then (if 0 ≤ x13 then (if x13 < (x7.length : Int) then (if x13 < (x8.length : Int) then (paviorref19_Pairs.l1 k x0 ((x7.set (x12 : Int).toNat true).set (x13 : Int).toNat false) ((x8.set (x12 : Int).toNat false).set (x13 : Int).toNat false) (x10 ++ [(⟨x12, x13⟩ : S35)]) (wrap64 (x11 + 1))) else (none)) else (none)) else (none)) else (none)) else (none)) else (none)) else (none))
end
def paviorref19_Pairs.f (k : Nat) (a0 : Int) (l1 : List (S41)) (l2 : List Int) : Option ((List (S35))) := (paviorref19_Free.f k a0 l1).bind fun t167 => (if 0 ≤ a0 then (if (a0 : Int).toNat ≤ 281474976710656 then (paviorref19_Pairs.l0 k a0 l2 t167 (List.replicate (a0 : Int).toNat false) 0) else (none)) else (none))
theorem paviorref19_Pairs.mono_l : ∀ k, (∀ y0 y1 y2 y3 y4, LeO (paviorref19_Pairs.l0 k y0 y1 y2 y3 y4) (paviorref19_Pairs.l0 (k + 1) y0 y1 y2 y3 y4)) ∧ (∀ y0 y1 y2 y3 y4, LeO (paviorref19_Pairs.l1 k y0 y1 y2 y3 y4) (paviorref19_Pairs.l1 (k + 1) y0 y1 y2 y3 y4)) ∧ (∀ y0 y1 y2 y3 y4 y5 y6 y7, LeO (paviorref19_Pairs.l2 k y0 y1 y2 y3 y4 y5 y6 y7) (paviorref19_Pairs.l2 (k + 1) y0 y1 y2 y3 y4 y5 y6 y7)) ∧ (∀ y0 y1 y2 y3 y4 y5 y6 y7 y8, LeO (paviorref19_Pairs.j3 k y0 y1 y2 y3 y4 y5 y6 y7 y8) (paviorref19_Pairs.j3 (k + 1) y0 y1 y2 y3 y4 y5 y6 y7 y8)) ∧ (∀ y0 y1 y2 y3 y4 y5 y6 y7, LeO (paviorref19_Pairs.j4 k y0 y1 y2 y3 y4 y5 y6 y7) (paviorref19_Pairs.j4 (k + 1) y0 y1 y2 y3 y4 y5 y6 y7)) ∧ (∀ y0 y1 y2 y3 y4 y5 y6 y7, LeO (paviorref19_Pairs.j5 k y0 y1 y2 y3 y4 y5 y6 y7) (paviorref19_Pairs.j5 (k + 1) y0 y1 y2 y3 y4 y5 y6 y7))
  | 0 => ⟨fun _ _ _ _ _ r h => by simp [paviorref19_Pairs.l0] at h, fun _ _ _ _ _ r h => by simp [paviorref19_Pairs.l1] at h, fun _ _ _ _ _ _ _ _ r h => by simp [paviorref19_Pairs.l2] at h, fun _ _ _ _ _ _ _ _ _ r h => by simp [paviorref19_Pairs.j3] at h, fun _ _ _ _ _ _ _ _ r h => by simp [paviorref19_Pairs.j4] at h, fun _ _ _ _ _ _ _ _ r h => by simp [paviorref19_Pairs.j5] at h⟩
  | k + 1 => by
    obtain ⟨ih0, ih1, ih2, ih3, ih4, ih5⟩ := paviorref19_Pairs.mono_l k
    refine ⟨?_, ?_, ?_, ?_, ?_, ?_⟩
    · intro y0 y1 y2 y3 y4
      unfold paviorref19_Pairs.l0
      repeat' first
      | (with_reducible exact ih0 _ _ _ _ _)
      | (with_reducible exact ih1 _ _ _ _ _)
      | (with_reducible exact ih2 _ _ _ _ _ _ _ _)
      | (with_reducible exact ih3 _ _ _ _ _ _ _ _ _)
      | (with_reducible exact ih4 _ _ _ _ _ _ _ _)
      | (with_reducible exact ih5 _ _ _ _ _ _ _ _)
      | (with_reducible exact paviorref19_Free.mono _ _ _)
      | (with_reducible exact LeO.refl _)
      | (with_reducible exact LeO.none _)
      | (with_reducible refine LeO.ite ?_ ?_)
      | (with_reducible refine LeO.bind ?_ (fun _ => ?_))
      | exact ih0 _ _ _ _ _
      | exact ih1 _ _ _ _ _
      | exact ih2 _ _ _ _ _ _ _ _
      | exact ih3 _ _ _ _ _ _ _ _ _
      | exact ih4 _ _ _ _ _ _ _ _
      | exact ih5 _ _ _ _ _ _ _ _
      | exact paviorref19_Free.mono _ _ _
      | exact LeO.none _
      | refine LeO.ite ?_ ?_
      | refine LeO.bind ?_ (fun _ => ?_)
    · intro y0 y1 y2 y3 y4
      unfold paviorref19_Pairs.l1
      repeat' first
      | (with_reducible exact ih0 _ _ _ _ _)
      | (with_reducible exact ih1 _ _ _ _ _)
      | (with_reducible exact ih2 _ _ _ _ _ _ _ _)
      | (with_reducible exact ih3 _ _ _ _ _ _ _ _ _)
      | (with_reducible exact ih4 _ _ _ _ _ _ _ _)
      | (with_reducible exact ih5 _ _ _ _ _ _ _ _)
      | (with_reducible exact paviorref19_Free.mono _ _ _)
      | (with_reducible exact LeO.refl _)
      | (with_reducible exact LeO.none _)
      | (with_reducible refine LeO.ite ?_ ?_)
      | (with_reducible refine LeO.bind ?_ (fun _ => ?_))
      | exact ih0 _ _ _ _ _
      | exact ih1 _ _ _ _ _
      | exact ih2 _ _ _ _ _ _ _ _
      | exact ih3 _ _ _ _ _ _ _ _ _
      | exact ih4 _ _ _ _ _ _ _ _
      | exact ih5 _ _ _ _ _ _ _ _
      | exact paviorref19_Free.mono _ _ _
      | exact LeO.none _
      | refine LeO.ite ?_ ?_
      | refine LeO.bind ?_ (fun _ => ?_)
    · intro y0 y1 y2 y3 y4 y5 y6 y7
      unfold paviorref19_Pairs.l2
      repeat' first
      | (with_reducible exact ih0 _ _ _ _ _)
      | (with_reducible exact ih1 _ _ _ _ _)
      | (with_reducible exact ih2 _ _ _ _ _ _ _ _)
      | (with_reducible exact ih3 _ _ _ _ _ _ _ _ _)
      | (with_reducible exact ih4 _ _ _ _ _ _ _ _)
      | (with_reducible exact ih5 _ _ _ _ _ _ _ _)
      | (with_reducible exact paviorref19_Free.mono _ _ _)
      | (with_reducible exact LeO.refl _)
      | (with_reducible exact LeO.none _)
      | (with_reducible refine LeO.ite ?_ ?_)
      | (with_reducible refine LeO.bind ?_ (fun _ => ?_))
      | exact ih0 _ _ _ _ _
      | exact ih1 _ _ _ _ _
      | exact ih2 _ _ _ _ _ _ _ _
      | exact ih3 _ _ _ _ _ _ _ _ _
      | exact ih4 _ _ _ _ _ _ _ _
      | exact ih5 _ _ _ _ _ _ _ _
      | exact paviorref19_Free.mono _ _ _
      | exact LeO.none _
      | refine LeO.ite ?_ ?_
      | refine LeO.bind ?_ (fun _ => ?_)
    · intro y0 y1 y2 y3 y4 y5 y6 y7 y8
      unfold paviorref19_Pairs.j3
      repeat' first
      | (with_reducible exact ih0 _ _ _ _ _)
      | (with_reducible exact ih1 _ _ _ _ _)
      | (with_reducible exact ih2 _ _ _ _ _ _ _ _)
      | (with_reducible exact ih3 _ _ _ _ _ _ _ _ _)
      | (with_reducible exact ih4 _ _ _ _ _ _ _ _)
      | (with_reducible exact ih5 _ _ _ _ _ _ _ _)
      | (with_reducible exact paviorref19_Free.mono _ _ _)
      | (with_reducible exact LeO.refl _)
      | (with_reducible exact LeO.none _)
      | (with_reducible refine LeO.ite ?_ ?_)
      | (with_reducible refine LeO.bind ?_ (fun _ => ?_))
      | exact ih0 _ _ _ _ _
      | exact ih1 _ _ _ _ _
      | exact ih2 _ _ _ _ _ _ _ _
      | exact ih3 _ _ _ _ _ _ _ _ _
      | exact ih4 _ _ _ _ _ _ _ _
      | exact ih5 _ _ _ _ _ _ _ _
      | exact paviorref19_Free.mono _ _ _
      | exact LeO.none _
      | refine LeO.ite ?_ ?_
      | refine LeO.bind ?_ (fun _ => ?_)
    · intro y0 y1 y2 y3 y4 y5 y6 y7
      unfold paviorref19_Pairs.j4
      repeat' first
      | (with_reducible exact ih0 _ _ _ _ _)
      | (with_reducible exact ih1 _ _ _ _ _)
      | (with_reducible exact ih2 _ _ _ _ _ _ _ _)
      | (with_reducible exact ih3 _ _ _ _ _ _ _ _ _)
      | (with_reducible exact ih4 _ _ _ _ _ _ _ _)
      | (with_reducible exact ih5 _ _ _ _ _ _ _ _)
      | (with_reducible exact paviorref19_Free.mono _ _ _)
      | (with_reducible exact LeO.refl _)
      | (with_reducible exact LeO.none _)
      | (with_reducible refine LeO.ite ?_ ?_)
      | (with_reducible refine LeO.bind ?_ (fun _ => ?_))
      | exact ih0 _ _ _ _ _
      | exact ih1 _ _ _ _ _
      | exact ih2 _ _ _ _ _ _ _ _
      | exact ih3 _ _ _ _ _ _ _ _ _
      | exact ih4 _ _ _ _ _ _ _ _
      | exact ih5 _ _ _ _ _ _ _ _
      | exact paviorref19_Free.mono _ _ _
      | exact LeO.none _
      | refine LeO.ite ?_ ?_
      | refine LeO.bind ?_ (fun _ => ?_)
    · intro y0 y1 y2 y3 y4 y5 y6 y7
      unfold paviorref19_Pairs.j5
      repeat' first
      | (with_reducible exact ih0 _ _ _ _ _)
      | (with_reducible exact ih1 _ _ _ _ _)
      | (with_reducible exact ih2 _ _ _ _ _ _ _ _)
      | (with_reducible exact ih3 _ _ _ _ _ _ _ _ _)
      | (with_reducible exact ih4 _ _ _ _ _ _ _ _)
      | (with_reducible exact ih5 _ _ _ _ _ _ _ _)
      | (with_reducible exact paviorref19_Free.mono _ _ _)
      | (with_reducible exact LeO.refl _)
      | (with_reducible exact LeO.none _)
      | (with_reducible refine LeO.ite ?_ ?_)
      | (with_reducible refine LeO.bind ?_ (fun _ => ?_))
      | exact ih0 _ _ _ _ _
      | exact ih1 _ _ _ _ _
      | exact ih2 _ _ _ _ _ _ _ _
      | exact ih3 _ _ _ _ _ _ _ _ _
      | exact ih4 _ _ _ _ _ _ _ _
      | exact ih5 _ _ _ _ _ _ _ _
      | exact paviorref19_Free.mono _ _ _
      | exact LeO.none _
      | refine LeO.ite ?_ ?_
      | refine LeO.bind ?_ (fun _ => ?_)
theorem paviorref19_Pairs.mono : ∀ a0 a1 a2 k, LeO (paviorref19_Pairs.f k a0 a1 a2) (paviorref19_Pairs.f (k + 1) a0 a1 a2) := by
  intro a0 a1 a2 k
  obtain ⟨ih0, ih1, ih2, ih3, ih4, ih5⟩ := paviorref19_Pairs.mono_l k
  unfold paviorref19_Pairs.f
  repeat' first
      | (with_reducible exact ih0 _ _ _ _ _)
      | (with_reducible exact ih1 _ _ _ _ _)
      | (with_reducible exact ih2 _ _ _ _ _ _ _ _)
      | (with_reducible exact ih3 _ _ _ _ _ _ _ _ _)
      | (with_reducible exact ih4 _ _ _ _ _ _ _ _)
      | (with_reducible exact ih5 _ _ _ _ _ _ _ _)
      | (with_reducible exact paviorref19_Free.mono _ _ _)
      | (with_reducible exact LeO.refl _)
      | (with_reducible exact LeO.none _)
      | (with_reducible refine LeO.ite ?_ ?_)
      | (with_reducible refine LeO.bind ?_ (fun _ => ?_))
      | exact ih0 _ _ _ _ _
      | exact ih1 _ _ _ _ _
      | exact ih2 _ _ _ _ _ _ _ _
      | exact ih3 _ _ _ _ _ _ _ _ _
      | exact ih4 _ _ _ _ _ _ _ _
      | exact ih5 _ _ _ _ _ _ _ _
      | exact paviorref19_Free.mono _ _ _
      | exact LeO.none _
      | refine LeO.ite ?_ ?_
      | refine LeO.bind ?_ (fun _ => ?_)
set_option maxHeartbeats 8000000 in
set_option maxRecDepth 100000 in
theorem paviorref19_Pairs.calls (k : Nat) (a0 : Int) (A1 : Option Addr) (c1 : Nat) (l1 : List (S41)) (A2 : Option Addr) (c2 : Nat) (l2 : List Int) (r : List (S35)) (w : World) (hr1 : Kd.C k41 w A1 l1.length l1) (hc1 : l1.length ≤ c1) (hr2 : Kd.C (Kd.int .i64) w A2 l2.length l2) (hc2 : l2.length ≤ c2) (h : paviorref19_Pairs.f k a0 l1 l2 = some r) :
    Calls Try.prog 16 #[.int .i64 a0, .slice A1 l1.length c1, .slice A2 l2.length c2] w fun e w' => ∃ v0_ : Value, e = .returned (v0_) ∧ Kd.R k35 35 w' w.heap.size (fun _ => True) v0_ r ∧ Below w.heap.size w w' := by
  have hu35 := Try.underlying35
  have HR1 := Aside0.mk hr1
  have HC1 := Aside0.mk hc1
  clear hr1 hc1
  have HR2 := Aside0.mk hr2
  have HC2 := Aside0.mk hc2
  clear hr2 hc2
  have HB := Aside0.mk (Below.refl w.heap.size w)
  have H : ((paviorref19_Free.f k a0 l1).bind fun t167 => (if 0 ≤ a0 then (if (a0 : Int).toNat ≤ 281474976710656 then (paviorref19_Pairs.l0 k a0 l2 t167 (List.replicate (a0 : Int).toNat false) 0) else (none)) else (none))) = some r := h
  clear h
  replace H := Option.bind_eq_some_iff.mp H
  obtain ⟨t167, A40, H⟩ := H
  replace H : (if 0 ≤ a0 then (if (a0 : Int).toNat ≤ 281474976710656 then (paviorref19_Pairs.l0 k a0 l2 t167 (List.replicate (a0 : Int).toNat false) 0) else (none)) else (none)) = some r := H
  have A4 := Aside0.mk A40
  clear A40
  by_cases c5 : 0 ≤ a0
  · rw [if_pos c5] at H
    have c5b0 := eq_true c5
    have c5b1 : decide (0 ≤ a0) = true := decide_eq_true c5
    clear c5
    by_cases c6 : (a0 : Int).toNat ≤ 281474976710656
    · rw [if_pos c6] at H
      have c6b0 := eq_true c6
      have c6b1 : decide ((a0 : Int).toNat ≤ 281474976710656) = true := decide_eq_true c6
      clear c6
      obtain ⟨y170, hy170⟩ : ∃ y_ : List Bool, y_ = (List.replicate (a0 : Int).toNat false) := ⟨_, rfl⟩
      replace H : (paviorref19_Pairs.l0 k a0 l2 t167 y170 0) = some r := by first | (rw [hy170]; with_reducible exact H) | (have H2_ := (Option.bind_some _ _).symm.trans H; rw [hy170]; with_reducible exact H2_) | (have H2_ := (Option.bind_some _ _).symm.trans H; with_reducible exact H2_) | with_reducible exact H | (rw [hy170]; exact H) | exact H
      have Ny170 := Aside0.mk hy170
      clear hy170
      have H' := Aside0.mk H
      clear H
      go_enter Try.func16, Try.ntmps16
      go_wp2_with (first | ((with_reducible refine gate_callee (f := 40) rfl ?_); refine goesL_ (some 17) rfl rfl Try.func40 (by kernel_rfl) rfl #[.int .i64 a0, .slice A1 l1.length c1] rfl (by (try simp only [List.map_toArray, List.map_cons, List.map_nil]); first | done | rfl | (simp only [List.length_drop, List.length_take]; rfl)) ?_; (with_reducible refine (paviorref19_Free.calls k a0 _ _ l1 t167 _ ?side1 ?side2 A4.out).mono ?_); (case side1 => repeat (first | exact HR1.out | (with_reducible refine Kd.C_alloc ?_ _) | (with_reducible refine Kd.C_drewN ?_ _) | (with_reducible refine Kd.C_drew ?_))); (case side2 => exact HC1.out); rintro e w7 ⟨v168, rfl, ho0, hb⟩; refine ⟨_, rfl, ?_⟩; have n0_ := Aside0.mk (Kd.R_lower ho0 (below_size (by repeat (first | (with_reducible first | exact HB.out | apply below_alloc | apply pw_below_drewN | apply below_drew1) | exact HB.out)))); have n1_ := Aside0.mk (below_step (by repeat (first | (with_reducible first | exact HB.out | apply below_alloc | apply pw_below_drewN | apply below_drew1) | exact HB.out)) hb); clear HB; have HO169 := n0_; have HB := n1_; clear n0_ n1_; (try clear hb); (try clear hb2); (try clear hk); (try clear hi); (try clear ho0)) | ((with_reducible refine gate_dst (N := 19) rfl ?_); refine Kd.R_make Kd.bool _ 4 rfl (N := 19) rfl 72 _ _ rfl a0 rfl rfl Try.underlying72 (.bool false) 1 info4 rfl (by decide) (by omega) false (ok := fun _ => True) (okp := fun _ => True) rfl (fun _ hk => hk) trivial (of_decide_eq_true (by first | (with_reducible assumption) | assumption)) (Nat.le_trans (Nat.mul_le_mul_right _ (of_decide_eq_true (by first | (with_reducible assumption) | assumption) : a0.toNat ≤ 281474976710656)) (by omega)) (Below.refl _ _) (Nat.le_refl _) ?_; intro v171 w8 ho9 hb hg_ hnew_; clear hg_ hnew_; (first | rw [← Ny170.out] at ho9 | (simp only [Int.reduceToNat] at ho9; rw [← Ny170.out] at ho9)); have n0_ := Aside0.mk (Kd.R_elder' (by (with_reducible repeat (first | apply Kd.R_alloc | apply Kd.R_drewN | apply Kd.R_drew)); exact HO169.out) (Kd.R_base ho9) hb); have n1_ := Aside0.mk (Kd.R_lower (Kd.R_new' ho9 (Kd.R_lt (by (with_reducible repeat (first | apply Kd.R_alloc | apply Kd.R_drewN | apply Kd.R_drew)); exact HO169.out))) (below_size (by repeat (first | (with_reducible first | exact HB.out | apply below_alloc | apply pw_below_drewN | apply below_drew1) | exact HB.out)))); have n2_ := Aside0.mk (below_step (by repeat (first | (with_reducible first | exact HB.out | apply below_alloc | apply pw_below_drewN | apply below_drew1) | exact HB.out)) hb); clear HO169; clear HB; have HO169 := n0_; have HO172 := n1_; have HB := n2_; clear n0_ n1_ n2_; clear hb ho9))
      go_loopg [9] k (fun kq v9 w' => ∃ (x8_1 : List Bool) (x9_1 : Int), v9 = .int .i64 x9_1 ∧ Aside0 (paviorref19_Pairs.l0 kq a0 l2 t167 x8_1 x9_1 = some r) ∧ Aside0 (kq ≤ k) ∧ Aside0 (Kd.R Kd.bool 4 w' w.heap.size (fun k_ => some k_ ≠ (v171 : Value).ownBlock) v168 t167) ∧ Aside0 (Kd.R Kd.bool 4 w' w.heap.size (fun k_ => some k_ ≠ (v168 : Value).ownBlock) v171 x8_1) ∧ Aside0 (Below w.heap.size w w'))
      case atStart => exact ⟨(y170), (0), (by first | rfl | (simp; done) | (simp [*]; done)), H', ⟨Nat.le_refl _⟩, ⟨by (with_reducible repeat (first | apply Kd.R_alloc | apply Kd.R_drewN | apply Kd.R_drew)); exact Kd.R_mono HO169.out (fun _ hk => hk.2)⟩, ⟨by (with_reducible repeat (first | apply Kd.R_alloc | apply Kd.R_drewN | apply Kd.R_drew)); exact Kd.R_mono HO172.out (fun _ hk => hk.2)⟩, ⟨by repeat (first | (with_reducible first | exact HB.out | apply below_alloc | apply pw_below_drewN | apply below_drew1) | exact HB.out)⟩⟩
      case round =>
        clear H'
        try clear c1
        try clear c2
        try clear p2
        try clear c4
        try clear c5
        try clear c5b0
        try clear c5b1
        try clear c6
        try clear c6b0
        try clear c6b1
        obtain ⟨x8_1, x9_1, rfl, HA, HK1, HO_7, HO_8, HB⟩ := hrel
        cases gk with
        | zero => exact absurd HA.out (by simp [paviorref19_Pairs.l0])
        | succ k1 =>
          have H := HA.out
          clear HA
          simp only [paviorref19_Pairs.l0] at H
          by_cases c10 : x9_1 < (l2.length : Int)
          · rw [if_pos c10] at H
            have c10b0 : decide (x9_1 < (l2.length : Int)) = true := decide_eq_true c10
            clear c10
            by_cases c11 : 0 ≤ x9_1
            · rw [if_pos c11] at H
              have c11b0 : decide (0 ≤ x9_1) = true := decide_eq_true c11
              clear c11
              by_cases c12 : 0 ≤ (rd l2 x9_1)
              · rw [if_pos c12] at H
                have c12b0 : decide (0 ≤ (rd l2 x9_1)) = true := decide_eq_true c12
                clear c12
                by_cases c13 : (rd l2 x9_1) < (x8_1.length : Int)
                · rw [if_pos c13] at H
                  have c13b0 : decide ((rd l2 x9_1) < (x8_1.length : Int)) = true := decide_eq_true c13
                  clear c13
                  obtain ⟨y174, hy174⟩ : ∃ y_ : List Bool, y_ = (x8_1.set ((rd l2 x9_1) : Int).toNat true) := ⟨_, rfl⟩
                  replace H : (paviorref19_Pairs.l0 k1 a0 l2 t167 y174 (wrap64 (x9_1 + 1))) = some r := by first | (rw [hy174]; with_reducible exact H) | (have H2_ := (Option.bind_some _ _).symm.trans H; rw [hy174]; with_reducible exact H2_) | (have H2_ := (Option.bind_some _ _).symm.trans H; with_reducible exact H2_) | with_reducible exact H | (rw [hy174]; exact H) | exact H
                  have Ny174 := Aside0.mk hy174
                  clear hy174
                  have H' := Aside0.mk H
                  clear H
                  have p173 : 0 ≤ (x9_1 : Int) := of_decide_eq_true (by first | (with_reducible assumption) | assumption)
                  have q173 : x9_1 < (l2.length : Int) := of_decide_eq_true (by first | (with_reducible assumption) | assumption)
                  obtain ⟨ad173, e173, hx173_0⟩ := Kd.at_int HR2.out x9_1 p173 q173
                  cases e173
                  replace hx173_0 := (HB.out.cell (World.block_lt_of_cell? w _ hx173_0)).trans hx173_0
                  replace p173 := eq_true p173
                  replace q173 := eq_true q173
                  have p14 : 0 ≤ ((rd l2 x9_1) : Int) := of_decide_eq_true (by first | (with_reducible assumption) | assumption)
                  have q14 : ((rd l2 x9_1) : Int) < ((x8_1.length : Int) : Int) := of_decide_eq_true (by first | (with_reducible assumption) | assumption)
                  obtain ⟨go14, co14, eo14, gb14, gl14, cl14, HG14⟩ := Kd.R_form HO_8.out (by omega)
                  (first | cases eo14 | (injection eo14 with ea_ en_ ec_; (first | subst ea_ | (injection ea_ with ea_; subst ea_)); subst ec_; clear en_))
                  have GB14 := Aside0.mk gb14
                  have GG14 := Aside0.mk HG14
                  clear gb14 gl14 HG14
                  obtain ⟨hx14_0, hf14_0⟩ := Kd.R_celln false HO_8.out ((rd l2 x9_1) : Int) p14 q14
                  replace p14 := eq_true p14
                  replace q14 := eq_true q14
                  have HP15 := Kd.R_putg HO_8.out ((rd l2 x9_1) : Int) true
                  go_wp2_with (first | ((with_reducible refine gate_store (t := 4) (p := 31) rfl ?_); refine store_event (t := 4) (p := 31) (v := ?vo_w16) (w1 := (wr.setCell ⟨go14, ((rd l2 x9_1) : Int).toNat, none⟩ (.bool true))) ?hg ?ho ?hn ?hr ?_; (case ho => rfl); (case hg => rfl); (case hn => rfl); (case hr => first | (go_simp; done) | (go_simp; rfl)); intro w16 hw; have hg : wr.grownBy w16 (some go14) := (by rw [hw]; exact HP15.2); have hp_ : Kd.R Kd.bool 4 w16 w.heap.size (fun k_ => some k_ ≠ (v168 : Value).ownBlock) (.slice (some ⟨go14, 0, none⟩) x8_1.length co14) y174 := (by rw [hw, Ny174.out]; exact HP15.1); clear HP15; have n0_ := Aside0.mk (Kd.R_after (v := (.slice (some ⟨go14, 0, none⟩) x8_1.length co14)) (v1 := (.slice (some ⟨go14, 0, none⟩) x8_1.length co14)) (ok := (fun _ => True)) (by (with_reducible repeat (first | apply Kd.R_alloc | apply Kd.R_drewN | apply Kd.R_drew)); exact Kd.R_mono HO_7.out (fun _ hk => ⟨trivial, hk⟩)) hg (.inl rfl)); have n1_ := Aside0.mk (hp_); have n2_ := Aside0.mk ((by rw [hw]; exact below_set (HB.out) GB14.out : Below w.heap.size w w16)); clear HO_7; clear HO_8; clear HB; have HO_7 := n0_; have HO_8 := n1_; have HB := n2_; clear n0_ n1_ n2_; clear hg hw hp_))
                  go_roundg k1
                  case measure => have := HK1.out; omega
                  case rel => exact ⟨(y174), (wrap64 (x9_1 + 1)), (by first | rfl | (simp; done) | (simp [*]; done)), H', ⟨by have := HK1.out; omega⟩, ⟨by (with_reducible repeat (first | apply Kd.R_alloc | apply Kd.R_drewN | apply Kd.R_drew)); exact Kd.R_mono HO_7.out (fun _ hk => hk.2)⟩, ⟨by (with_reducible repeat (first | apply Kd.R_alloc | apply Kd.R_drewN | apply Kd.R_drew)); exact HO_8.out⟩, ⟨by repeat (first | (with_reducible first | exact HB.out | apply below_alloc | apply pw_below_drewN | apply below_drew1) | exact HB.out)⟩⟩
                · rw [if_neg c13] at H
                  exact absurd H (by simp)
              · rw [if_neg c12] at H
                exact absurd H (by simp)
            · rw [if_neg c11] at H
              exact absurd H (by simp)
          · rw [if_neg c10] at H
            have c10b0 : decide (x9_1 < (l2.length : Int)) = false := decide_eq_false c10
            clear c10
            have H' := Aside0.mk H
            clear H
            go_wp2
            go_loopg [10, 11] k1 (fun kq v10 v11 w' => ∃ (x7_2 : List Bool) (x8_2 : List Bool) (x10_2 : List (S35)) (x11_2 : Int), v11 = .int .i64 x11_2 ∧ Aside0 (paviorref19_Pairs.l1 kq a0 x7_2 x8_2 x10_2 x11_2 = some r) ∧ Aside0 (kq ≤ k1) ∧ Aside0 (Kd.R Kd.bool 4 w' w.heap.size (fun k_ => some k_ ≠ (v171 : Value).ownBlock) v168 x7_2) ∧ Aside0 (Kd.R Kd.bool 4 w' w.heap.size (fun k_ => some k_ ≠ (v168 : Value).ownBlock) v171 x8_2) ∧ Aside0 (Kd.R k35 35 w' w.heap.size (fun _ => True) v10 x10_2) ∧ Aside0 (Below w.heap.size w w'))
            case atStart => exact ⟨(t167), (x8_1), (([] : List (S35))), (0), (by first | rfl | (simp; done) | (simp [*]; done)), H', ⟨Nat.le_refl _⟩, ⟨by (with_reducible repeat (first | apply Kd.R_alloc | apply Kd.R_drewN | apply Kd.R_drew)); exact HO_7.out⟩, ⟨by (with_reducible repeat (first | apply Kd.R_alloc | apply Kd.R_drewN | apply Kd.R_drew)); exact HO_8.out⟩, ⟨by first | exact Kd.R_nil _ _ _ _ _ | exact Kd.N_nil _ _ _ _ _ | exact Kd.V_nil _ _ _ _ _ | exact Kd.Q_nil _ _ _ _ _ | exact Kd.S_nil _ _ _ _ _⟩, ⟨by repeat (first | (with_reducible first | exact HB.out | apply below_alloc | apply pw_below_drewN | apply below_drew1) | exact HB.out)⟩⟩
            case round =>
              clear H'
              try clear c1
              try clear p1
              try clear q1
              try clear hx1
              try clear c2
              try clear p2
              try clear c4
              try clear c5
              try clear c5b0
              try clear c5b1
              try clear c6
              try clear c6b0
              try clear c6b1
              try clear p6
              try clear c10
              try clear c10b0
              try clear c11
              try clear c11b0
              try clear c12
              try clear c12b0
              try clear c13
              try clear c13b0
              try clear p14
              try clear q14
              try clear hx14
              try clear hf14
              try clear c16
              try clear hx14_0
              try clear hx173_0
              try clear p14
              try clear p173
              try clear p2
              try clear q14
              try clear q173
              obtain ⟨x7_2, x8_2, x10_2, x11_2, rfl, HA, HK2, HO_7, HO_8, HO_10, HB⟩ := hrel
              cases gk with
              | zero => exact absurd HA.out (by simp [paviorref19_Pairs.l1])
              | succ k2 =>
                have H := HA.out
                clear HA
                simp only [paviorref19_Pairs.l1] at H
                by_cases c17 : x11_2 ≤ a0
                · rw [if_pos c17] at H
                  have c17b0 : decide (x11_2 ≤ a0) = true := decide_eq_true c17
                  clear c17
                  have H' := Aside0.mk H
                  clear H
                  go_wp2
                  go_loopg [12, 13, 14] k2 (fun kq v12 v13 v14 w' => ∃ (x12_3 : Int) (x13_3 : Int) (x14_3 : Int), v12 = .int .i64 x12_3 ∧ v13 = .int .i64 x13_3 ∧ v14 = .int .i64 x14_3 ∧ Aside0 (paviorref19_Pairs.l2 kq a0 x7_2 x8_2 x10_2 x11_2 x12_3 x13_3 x14_3 = some r) ∧ Aside0 (kq ≤ k2) ∧ Aside0 (Kd.R Kd.bool 4 w' w.heap.size (fun k_ => some k_ ≠ (v171 : Value).ownBlock) v168 x7_2) ∧ Aside0 (Kd.R Kd.bool 4 w' w.heap.size (fun k_ => some k_ ≠ (v168 : Value).ownBlock) v171 x8_2) ∧ Aside0 (Kd.R k35 35 w' w.heap.size (fun _ => True) u10 x10_2) ∧ Aside0 (Below w.heap.size w w'))
                  case atStart => exact ⟨((-1)), ((-1)), (0), (by first | rfl | (simp; done) | (simp [*]; done)), (by first | rfl | (simp; done) | (simp [*]; done)), (by first | rfl | (simp; done) | (simp [*]; done)), H', ⟨Nat.le_refl _⟩, ⟨by (with_reducible repeat (first | apply Kd.R_alloc | apply Kd.R_drewN | apply Kd.R_drew)); exact HO_7.out⟩, ⟨by (with_reducible repeat (first | apply Kd.R_alloc | apply Kd.R_drewN | apply Kd.R_drew)); exact HO_8.out⟩, ⟨by (with_reducible repeat (first | apply Kd.R_alloc | apply Kd.R_drewN | apply Kd.R_drew)); exact HO_10.out⟩, ⟨by repeat (first | (with_reducible first | exact HB.out | apply below_alloc | apply pw_below_drewN | apply below_drew1) | exact HB.out)⟩⟩
                  case round =>
                    clear H'
                    try clear c1
                    try clear p1
                    try clear q1
                    try clear hx1
                    try clear c2
                    try clear p2
                    try clear c4
                    try clear c5
                    try clear c5b0
                    try clear c5b1
                    try clear c6
                    try clear c6b0
                    try clear c6b1
                    try clear p6
                    try clear c10
                    try clear c10b0
                    try clear c11
                    try clear c11b0
                    try clear c12
                    try clear c12b0
                    try clear c13
                    try clear c13b0
                    try clear p14
                    try clear q14
                    try clear hx14
                    try clear hf14
                    try clear c16
                    try clear c17
                    try clear c17b0
                    try clear p17
                    try clear q17
                    try clear hx17
                    try clear hx14_0
                    try clear hx173_0
                    try clear p1
                    try clear p14
                    try clear p173
                    try clear p2
                    try clear p6
                    try clear q1
                    try clear q14
                    try clear q173
                    obtain ⟨x12_3, x13_3, x14_3, rfl, rfl, rfl, HA, HK3, HO_7, HO_8, HO_10, HB⟩ := hrel
                    cases gk with
                    | zero => exact absurd HA.out (by simp [paviorref19_Pairs.l2])
                    | succ k3 =>
                      have H := HA.out
                      clear HA
                      simp only [paviorref19_Pairs.l2] at H
                      by_cases c18 : x14_3 < a0
                      · rw [if_pos c18] at H
                        have c18b0 : decide (x14_3 < a0) = true := decide_eq_true c18
                        clear c18
                        have HC19 := Aside0.mk H
                        clear H
                        go_upto_region 16 with (fail)
                        go_cut [49] (fun v49 wc => ∃ (kq : Nat) (x49_18 : Bool), v49 = .bool x49_18 ∧ Aside0 (paviorref19_Pairs.j3 kq a0 x7_2 x8_2 x10_2 x11_2 x12_3 x13_3 x14_3 x49_18 = some r) ∧ Aside0 (kq ≤ k3) ∧ Aside0 (Kd.R Kd.bool 4 wc w.heap.size (fun k_ => some k_ ≠ (v171 : Value).ownBlock) v168 x7_2) ∧ Aside0 (Kd.R Kd.bool 4 wc w.heap.size (fun k_ => some k_ ≠ (v168 : Value).ownBlock) v171 x8_2) ∧ Aside0 (Kd.R k35 35 wc w.heap.size (fun _ => True) u10 x10_2) ∧ Aside0 (Below w.heap.size w wc))
                        case first =>
                          have H := HC19.out
                          clear HC19
                          by_cases c20 : 0 ≤ x14_3
                          · rw [if_pos c20] at H
                            have c20b0 : decide (0 ≤ x14_3) = true := decide_eq_true c20
                            clear c20
                            (first | rw [c20b0] | (simp only [i64_w, i32_w]; rw [c20b0]) | skip)
                            by_cases c21 : x14_3 < (x8_2.length : Int)
                            · rw [if_pos c21] at H
                              have c21b0 : decide (x14_3 < (x8_2.length : Int)) = true := decide_eq_true c21
                              clear c21
                              obtain ⟨bq22, hbq22⟩ : ∃ b_ : Bool, b_ = (rdOf false x8_2 x14_3) := ⟨_, rfl⟩
                              replace H : (if bq22 = true then (paviorref19_Pairs.j3 k3 a0 x7_2 x8_2 x10_2 x11_2 x12_3 x13_3 x14_3 (decide (x12_3 < 0))) else (paviorref19_Pairs.j3 k3 a0 x7_2 x8_2 x10_2 x11_2 x12_3 x13_3 x14_3 false)) = some r := by rw [← hbq22] at H; exact H
                              have Nbq22 := Aside0.mk hbq22
                              clear hbq22
                              by_cases c23 : bq22 = true
                              · subst c23
                                have H1 : (paviorref19_Pairs.j3 k3 a0 x7_2 x8_2 x10_2 x11_2 x12_3 x13_3 x14_3 (decide (x12_3 < 0))) = some r := by rw [if_pos rfl] at H; exact H
                                clear H
                                have H := H1
                                clear H1
                                have H' := Aside0.mk H
                                clear H
                                obtain ⟨Ao24, co24, eo24⟩ := Kd.R_slice HO_8.out
                                subst eo24
                                have p175 : 0 ≤ (x14_3 : Int) := of_decide_eq_true (by first | (with_reducible assumption) | assumption)
                                have q175 : x14_3 < (x8_2.length : Int) := of_decide_eq_true (by first | (with_reducible assumption) | assumption)
                                obtain ⟨ad175, e175, hx175_0⟩ := Kd.at_bool (Kd.R_reads' HO_8.out).2.2 x14_3 p175 q175
                                (try rw [← Nbq22.out] at hx175_0)
                                cases e175
                                replace p175 := eq_true p175
                                replace q175 := eq_true q175
                                go_wp2
                                go_meet
                                case rel => exact ⟨_, (decide (x12_3 < 0)), (by first | rfl | (simp; done) | (simp [*]; done)), H', ⟨by have := HK1.out; have := HK2.out; have := HK3.out; first | omega | exact Nat.le_refl _⟩, ⟨by (with_reducible repeat (first | apply Kd.R_alloc | apply Kd.R_drewN | apply Kd.R_drew)); exact HO_7.out⟩, ⟨by (with_reducible repeat (first | apply Kd.R_alloc | apply Kd.R_drewN | apply Kd.R_drew)); exact HO_8.out⟩, ⟨by (with_reducible repeat (first | apply Kd.R_alloc | apply Kd.R_drewN | apply Kd.R_drew)); exact HO_10.out⟩, ⟨by repeat (first | (with_reducible first | exact HB.out | apply below_alloc | apply pw_below_drewN | apply below_drew1) | exact HB.out)⟩⟩
                              · replace c23 := Bool.eq_false_iff.mpr c23
                                subst c23
                                have H1 : (paviorref19_Pairs.j3 k3 a0 x7_2 x8_2 x10_2 x11_2 x12_3 x13_3 x14_3 false) = some r := by rw [if_neg (show ¬ (false = true) by decide)] at H; exact H
                                clear H
                                have H := H1
                                clear H1
                                have H' := Aside0.mk H
                                clear H
                                obtain ⟨Ao25, co25, eo25⟩ := Kd.R_slice HO_8.out
                                subst eo25
                                have p175 : 0 ≤ (x14_3 : Int) := of_decide_eq_true (by first | (with_reducible assumption) | assumption)
                                have q175 : x14_3 < (x8_2.length : Int) := of_decide_eq_true (by first | (with_reducible assumption) | assumption)
                                obtain ⟨ad175, e175, hx175_0⟩ := Kd.at_bool (Kd.R_reads' HO_8.out).2.2 x14_3 p175 q175
                                (try rw [← Nbq22.out] at hx175_0)
                                cases e175
                                replace p175 := eq_true p175
                                replace q175 := eq_true q175
                                go_wp2
                                go_meet
                                case rel => exact ⟨_, (false), (by first | rfl | (simp; done) | (simp [*]; done)), H', ⟨by have := HK1.out; have := HK2.out; have := HK3.out; first | omega | exact Nat.le_refl _⟩, ⟨by (with_reducible repeat (first | apply Kd.R_alloc | apply Kd.R_drewN | apply Kd.R_drew)); exact HO_7.out⟩, ⟨by (with_reducible repeat (first | apply Kd.R_alloc | apply Kd.R_drewN | apply Kd.R_drew)); exact HO_8.out⟩, ⟨by (with_reducible repeat (first | apply Kd.R_alloc | apply Kd.R_drewN | apply Kd.R_drew)); exact HO_10.out⟩, ⟨by repeat (first | (with_reducible first | exact HB.out | apply below_alloc | apply pw_below_drewN | apply below_drew1) | exact HB.out)⟩⟩
                            · rw [if_neg c21] at H
                              exact absurd H (by simp)
                          · rw [if_neg c20] at H
                            exact absurd H (by simp)
                        case rest =>
                          clear HC19
                          try clear c1
                          try clear p1
                          try clear q1
                          try clear hx1
                          try clear c2
                          try clear p2
                          try clear q2
                          try clear c4
                          try clear c5
                          try clear c5b0
                          try clear c5b1
                          try clear c6
                          try clear c6b0
                          try clear c6b1
                          try clear p6
                          try clear c10
                          try clear c10b0
                          try clear c11
                          try clear c11b0
                          try clear c12
                          try clear c12b0
                          try clear c13
                          try clear c13b0
                          try clear p14
                          try clear q14
                          try clear hx14
                          try clear hf14
                          try clear c16
                          try clear c17
                          try clear c17b0
                          try clear p17
                          try clear q17
                          try clear hx17
                          try clear c18
                          try clear c18b0
                          try clear c20
                          try clear c20b0
                          try clear c21
                          try clear c21b0
                          try clear q22
                          try clear c23
                          try clear hx14_0
                          try clear hx173_0
                          try clear hx175_0
                          try clear p1
                          try clear p14
                          try clear p17
                          try clear p173
                          try clear p175
                          try clear p2
                          try clear p6
                          try clear q1
                          try clear q14
                          try clear q17
                          try clear q173
                          try clear q175
                          obtain ⟨kq, x49_18, rfl, HA, HJ18, HO_7, HO_8, HO_10, HB⟩ := hcut
                          cases kq with
                          | zero => exact absurd HA.out (by simp [paviorref19_Pairs.j3])
                          | succ kj18 =>
                            have H := HA.out
                            clear HA
                            simp only [paviorref19_Pairs.j3] at H
                            have HC26 := Aside0.mk H
                            clear H
                            go_upto_if 49 with (fail)
                            go_cut [12] (fun v12 wc => ∃ (kq : Nat) (x12_25 : Int), v12 = .int .i64 x12_25 ∧ Aside0 (paviorref19_Pairs.j4 kq a0 x7_2 x8_2 x10_2 x11_2 x12_25 x13_3 x14_3 = some r) ∧ Aside0 (kq ≤ kj18) ∧ Aside0 (Kd.R Kd.bool 4 wc w.heap.size (fun k_ => some k_ ≠ (v171 : Value).ownBlock) v168 x7_2) ∧ Aside0 (Kd.R Kd.bool 4 wc w.heap.size (fun k_ => some k_ ≠ (v168 : Value).ownBlock) v171 x8_2) ∧ Aside0 (Kd.R k35 35 wc w.heap.size (fun _ => True) u10 x10_2) ∧ Aside0 (Below w.heap.size w wc))
                            case first =>
                              have H := HC26.out
                              clear HC26
                              by_cases c27 : x49_18 = true
                              · subst c27
                                have H1 : (paviorref19_Pairs.j4 kj18 a0 x7_2 x8_2 x10_2 x11_2 x14_3 x13_3 x14_3) = some r := by rw [if_pos rfl] at H; exact H
                                clear H
                                have H := H1
                                clear H1
                                have H' := Aside0.mk H
                                clear H
                                go_wp2
                                go_meet
                                case rel => exact ⟨_, (x14_3), (by first | rfl | (simp; done) | (simp [*]; done)), H', ⟨by have := HK1.out; have := HK2.out; have := HK3.out; have := HJ18.out; first | omega | exact Nat.le_refl _⟩, ⟨by (with_reducible repeat (first | apply Kd.R_alloc | apply Kd.R_drewN | apply Kd.R_drew)); exact HO_7.out⟩, ⟨by (with_reducible repeat (first | apply Kd.R_alloc | apply Kd.R_drewN | apply Kd.R_drew)); exact HO_8.out⟩, ⟨by (with_reducible repeat (first | apply Kd.R_alloc | apply Kd.R_drewN | apply Kd.R_drew)); exact HO_10.out⟩, ⟨by repeat (first | (with_reducible first | exact HB.out | apply below_alloc | apply pw_below_drewN | apply below_drew1) | exact HB.out)⟩⟩
                              · replace c27 := Bool.eq_false_iff.mpr c27
                                subst c27
                                have H1 : (paviorref19_Pairs.j4 kj18 a0 x7_2 x8_2 x10_2 x11_2 x12_3 x13_3 x14_3) = some r := by rw [if_neg (show ¬ (false = true) by decide)] at H; exact H
                                clear H
                                have H := H1
                                clear H1
                                have H' := Aside0.mk H
                                clear H
                                go_wp2
                                go_meet
                                case rel => exact ⟨_, (x12_3), (by first | rfl | (simp; done) | (simp [*]; done)), H', ⟨by have := HK1.out; have := HK2.out; have := HK3.out; have := HJ18.out; first | omega | exact Nat.le_refl _⟩, ⟨by (with_reducible repeat (first | apply Kd.R_alloc | apply Kd.R_drewN | apply Kd.R_drew)); exact HO_7.out⟩, ⟨by (with_reducible repeat (first | apply Kd.R_alloc | apply Kd.R_drewN | apply Kd.R_drew)); exact HO_8.out⟩, ⟨by (with_reducible repeat (first | apply Kd.R_alloc | apply Kd.R_drewN | apply Kd.R_drew)); exact HO_10.out⟩, ⟨by repeat (first | (with_reducible first | exact HB.out | apply below_alloc | apply pw_below_drewN | apply below_drew1) | exact HB.out)⟩⟩
                            case rest =>
                              clear HC26
                              try clear c1
                              try clear p1
                              try clear q1
                              try clear hx1
                              try clear c2
                              try clear p2
                              try clear q2
                              try clear c4
                              try clear c5
                              try clear c5b0
                              try clear c5b1
                              try clear c6
                              try clear c6b0
                              try clear c6b1
                              try clear p6
                              try clear c10
                              try clear c10b0
                              try clear c11
                              try clear c11b0
                              try clear c12
                              try clear c12b0
                              try clear c13
                              try clear c13b0
                              try clear p14
                              try clear q14
                              try clear hx14
                              try clear hf14
                              try clear c16
                              try clear c17
                              try clear c17b0
                              try clear p17
                              try clear q17
                              try clear hx17
                              try clear c18
                              try clear c18b0
                              try clear c20
                              try clear c20b0
                              try clear c21
                              try clear c21b0
                              try clear q22
                              try clear c23
                              try clear c27
                              try clear hx14_0
                              try clear hx173_0
                              try clear hx175_0
                              try clear p1
                              try clear p14
                              try clear p17
                              try clear p173
                              try clear p175
                              try clear p2
                              try clear p6
                              try clear q1
                              try clear q14
                              try clear q17
                              try clear q173
                              try clear q175
                              try clear q2
                              try clear q22
                              obtain ⟨kq, x12_25, rfl, HA, HJ25, HO_7, HO_8, HO_10, HB⟩ := hcut
                              cases kq with
                              | zero => exact absurd HA.out (by simp [paviorref19_Pairs.j4])
                              | succ kj25 =>
                                have H := HA.out
                                clear HA
                                simp only [paviorref19_Pairs.j4] at H
                                by_cases c28 : 0 ≤ x14_3
                                · rw [if_pos c28] at H
                                  have c28b0 : decide (0 ≤ x14_3) = true := decide_eq_true c28
                                  clear c28
                                  by_cases c29 : x14_3 < (x7_2.length : Int)
                                  · rw [if_pos c29] at H
                                    have c29b0 : decide (x14_3 < (x7_2.length : Int)) = true := decide_eq_true c29
                                    clear c29
                                    obtain ⟨bq30, hbq30⟩ : ∃ b_ : Bool, b_ = (rdOf false x7_2 x14_3) := ⟨_, rfl⟩
                                    replace H : (if bq30 = true then (paviorref19_Pairs.l2 kj25 a0 x7_2 x8_2 x10_2 x11_2 x12_25 x14_3 (wrap64 (x14_3 + 1))) else (paviorref19_Pairs.l2 kj25 a0 x7_2 x8_2 x10_2 x11_2 x12_25 x13_3 (wrap64 (x14_3 + 1)))) = some r := by rw [← hbq30] at H; exact H
                                    have Nbq30 := Aside0.mk hbq30
                                    clear hbq30
                                    by_cases c31 : bq30 = true
                                    · subst c31
                                      have H1 : (paviorref19_Pairs.l2 kj25 a0 x7_2 x8_2 x10_2 x11_2 x12_25 x14_3 (wrap64 (x14_3 + 1))) = some r := by rw [if_pos rfl] at H; exact H
                                      clear H
                                      have H := H1
                                      clear H1
                                      have H' := Aside0.mk H
                                      clear H
                                      obtain ⟨Ao32, co32, eo32⟩ := Kd.R_slice HO_7.out
                                      subst eo32
                                      have p176 : 0 ≤ (x14_3 : Int) := of_decide_eq_true (by first | (with_reducible assumption) | assumption)
                                      have q176 : x14_3 < (x7_2.length : Int) := of_decide_eq_true (by first | (with_reducible assumption) | assumption)
                                      obtain ⟨ad176, e176, hx176_0⟩ := Kd.at_bool (Kd.R_reads' HO_7.out).2.2 x14_3 p176 q176
                                      (try rw [← Nbq30.out] at hx176_0)
                                      cases e176
                                      replace p176 := eq_true p176
                                      replace q176 := eq_true q176
                                      go_wp2
                                      go_roundg kj25
                                      case measure => have := HK1.out; have := HK2.out; have := HK3.out; have := HJ18.out; have := HJ25.out; omega
                                      case rel => exact ⟨(x12_25), (x14_3), (wrap64 (x14_3 + 1)), (by first | rfl | (simp; done) | (simp [*]; done)), (by first | rfl | (simp; done) | (simp [*]; done)), (by first | rfl | (simp; done) | (simp [*]; done)), H', ⟨by have := HK1.out; have := HK2.out; have := HK3.out; have := HJ18.out; have := HJ25.out; omega⟩, ⟨by (with_reducible repeat (first | apply Kd.R_alloc | apply Kd.R_drewN | apply Kd.R_drew)); exact HO_7.out⟩, ⟨by (with_reducible repeat (first | apply Kd.R_alloc | apply Kd.R_drewN | apply Kd.R_drew)); exact HO_8.out⟩, ⟨by (with_reducible repeat (first | apply Kd.R_alloc | apply Kd.R_drewN | apply Kd.R_drew)); exact HO_10.out⟩, ⟨by repeat (first | (with_reducible first | exact HB.out | apply below_alloc | apply pw_below_drewN | apply below_drew1) | exact HB.out)⟩⟩
                                    · replace c31 := Bool.eq_false_iff.mpr c31
                                      subst c31
                                      have H1 : (paviorref19_Pairs.l2 kj25 a0 x7_2 x8_2 x10_2 x11_2 x12_25 x13_3 (wrap64 (x14_3 + 1))) = some r := by rw [if_neg (show ¬ (false = true) by decide)] at H; exact H
                                      clear H
                                      have H := H1
                                      clear H1
                                      have H' := Aside0.mk H
                                      clear H
                                      obtain ⟨Ao33, co33, eo33⟩ := Kd.R_slice HO_7.out
                                      subst eo33
                                      have p176 : 0 ≤ (x14_3 : Int) := of_decide_eq_true (by first | (with_reducible assumption) | assumption)
                                      have q176 : x14_3 < (x7_2.length : Int) := of_decide_eq_true (by first | (with_reducible assumption) | assumption)
                                      obtain ⟨ad176, e176, hx176_0⟩ := Kd.at_bool (Kd.R_reads' HO_7.out).2.2 x14_3 p176 q176
                                      (try rw [← Nbq30.out] at hx176_0)
                                      cases e176
                                      replace p176 := eq_true p176
                                      replace q176 := eq_true q176
                                      go_wp2
                                      go_roundg kj25
                                      case measure => have := HK1.out; have := HK2.out; have := HK3.out; have := HJ18.out; have := HJ25.out; omega
                                      case rel => exact ⟨(x12_25), (x13_3), (wrap64 (x14_3 + 1)), (by first | rfl | (simp; done) | (simp [*]; done)), (by first | rfl | (simp; done) | (simp [*]; done)), (by first | rfl | (simp; done) | (simp [*]; done)), H', ⟨by have := HK1.out; have := HK2.out; have := HK3.out; have := HJ18.out; have := HJ25.out; omega⟩, ⟨by (with_reducible repeat (first | apply Kd.R_alloc | apply Kd.R_drewN | apply Kd.R_drew)); exact HO_7.out⟩, ⟨by (with_reducible repeat (first | apply Kd.R_alloc | apply Kd.R_drewN | apply Kd.R_drew)); exact HO_8.out⟩, ⟨by (with_reducible repeat (first | apply Kd.R_alloc | apply Kd.R_drewN | apply Kd.R_drew)); exact HO_10.out⟩, ⟨by repeat (first | (with_reducible first | exact HB.out | apply below_alloc | apply pw_below_drewN | apply below_drew1) | exact HB.out)⟩⟩
                                  · rw [if_neg c29] at H
                                    exact absurd H (by simp)
                                · rw [if_neg c28] at H
                                  exact absurd H (by simp)
                      · rw [if_neg c18] at H
                        have c18b0 : decide (x14_3 < a0) = false := decide_eq_false c18
                        clear c18
                        have HC34 := Aside0.mk H
                        clear H
                        go_upto_region 20 with (fail)
                        go_cut [62] (fun v62 wc => ∃ (kq : Nat) (x62_33 : Bool), v62 = .bool x62_33 ∧ Aside0 (paviorref19_Pairs.j5 kq a0 x7_2 x8_2 x10_2 x11_2 x12_3 x13_3 x62_33 = some r) ∧ Aside0 (kq ≤ k3) ∧ Aside0 (Kd.R Kd.bool 4 wc w.heap.size (fun k_ => some k_ ≠ (v171 : Value).ownBlock) v168 x7_2) ∧ Aside0 (Kd.R Kd.bool 4 wc w.heap.size (fun k_ => some k_ ≠ (v168 : Value).ownBlock) v171 x8_2) ∧ Aside0 (Kd.R k35 35 wc w.heap.size (fun _ => True) u10 x10_2) ∧ Aside0 (Below w.heap.size w wc))
                        case first =>
                          have H := HC34.out
                          clear HC34
                          by_cases c35 : x12_3 < 0
                          · rw [if_pos c35] at H
                            have c35b0 : decide (x12_3 < 0) = true := decide_eq_true c35
                            clear c35
                            (first | rw [c35b0] | (simp only [i64_w, i32_w]; rw [c35b0]) | skip)
                            have H' := Aside0.mk H
                            clear H
                            go_wp2
                            go_meet
                            case rel => exact ⟨_, (true), (by first | rfl | (simp; done) | (simp [*]; done)), H', ⟨by have := HK1.out; have := HK2.out; have := HK3.out; first | omega | exact Nat.le_refl _⟩, ⟨by (with_reducible repeat (first | apply Kd.R_alloc | apply Kd.R_drewN | apply Kd.R_drew)); exact HO_7.out⟩, ⟨by (with_reducible repeat (first | apply Kd.R_alloc | apply Kd.R_drewN | apply Kd.R_drew)); exact HO_8.out⟩, ⟨by (with_reducible repeat (first | apply Kd.R_alloc | apply Kd.R_drewN | apply Kd.R_drew)); exact HO_10.out⟩, ⟨by repeat (first | (with_reducible first | exact HB.out | apply below_alloc | apply pw_below_drewN | apply below_drew1) | exact HB.out)⟩⟩
                          · rw [if_neg c35] at H
                            have c35b0 : decide (x12_3 < 0) = false := decide_eq_false c35
                            clear c35
                            (first | rw [c35b0] | (simp only [i64_w, i32_w]; rw [c35b0]) | skip)
                            have H' := Aside0.mk H
                            clear H
                            go_wp2
                            go_meet
                            case rel => exact ⟨_, (decide (x12_3 ≥ x13_3)), (by first | rfl | (simp; done) | (simp [*]; done)), H', ⟨by have := HK1.out; have := HK2.out; have := HK3.out; first | omega | exact Nat.le_refl _⟩, ⟨by (with_reducible repeat (first | apply Kd.R_alloc | apply Kd.R_drewN | apply Kd.R_drew)); exact HO_7.out⟩, ⟨by (with_reducible repeat (first | apply Kd.R_alloc | apply Kd.R_drewN | apply Kd.R_drew)); exact HO_8.out⟩, ⟨by (with_reducible repeat (first | apply Kd.R_alloc | apply Kd.R_drewN | apply Kd.R_drew)); exact HO_10.out⟩, ⟨by repeat (first | (with_reducible first | exact HB.out | apply below_alloc | apply pw_below_drewN | apply below_drew1) | exact HB.out)⟩⟩
                        case rest =>
                          clear HC34
                          try clear c1
                          try clear p1
                          try clear q1
                          try clear hx1
                          try clear c2
                          try clear p2
                          try clear q2
                          try clear c3
                          try clear q3
                          try clear c4
                          try clear c5
                          try clear c5b0
                          try clear c5b1
                          try clear c6
                          try clear c6b0
                          try clear c6b1
                          try clear p6
                          try clear c10
                          try clear c10b0
                          try clear c11
                          try clear c11b0
                          try clear c12
                          try clear c12b0
                          try clear c13
                          try clear c13b0
                          try clear p14
                          try clear q14
                          try clear hx14
                          try clear hf14
                          try clear c16
                          try clear c17
                          try clear c17b0
                          try clear p17
                          try clear q17
                          try clear hx17
                          try clear c18
                          try clear c18b0
                          try clear c20
                          try clear c20b0
                          try clear c21
                          try clear c21b0
                          try clear q22
                          try clear c23
                          try clear c27
                          try clear c28
                          try clear c28b0
                          try clear c29
                          try clear c29b0
                          try clear q30
                          try clear c31
                          try clear c35
                          try clear c35b0
                          try clear hx14_0
                          try clear hx173_0
                          try clear hx175_0
                          try clear hx176_0
                          try clear p1
                          try clear p14
                          try clear p17
                          try clear p173
                          try clear p175
                          try clear p176
                          try clear p2
                          try clear p6
                          try clear q1
                          try clear q14
                          try clear q17
                          try clear q173
                          try clear q175
                          try clear q176
                          try clear q2
                          try clear q22
                          obtain ⟨kq, x62_33, rfl, HA, HJ33, HO_7, HO_8, HO_10, HB⟩ := hcut
                          cases kq with
                          | zero => exact absurd HA.out (by simp [paviorref19_Pairs.j5])
                          | succ kj33 =>
                            have H := HA.out
                            clear HA
                            simp only [paviorref19_Pairs.j5] at H
                            by_cases c36 : x62_33 = true
                            · subst c36
                              have H1 : (some x10_2) = some r := by rw [if_pos rfl] at H; exact H
                              clear H
                              have H := H1
                              clear H1
                              obtain rfl := Option.some.inj H
                              go_wp2
                              go_ret
                              exact ⟨_, by first | rfl | (simp [errW_none, errW_some] <;> rfl) | (simp [*, errW_none, errW_some] <;> rfl), by (with_reducible repeat (first | apply Kd.R_alloc | apply Kd.R_drewN | apply Kd.R_drew)); exact HO_10.out, by repeat (first | (with_reducible first | exact HB.out | apply below_alloc | apply pw_below_drewN | apply below_drew1) | exact HB.out)⟩
                            · replace c36 := Bool.eq_false_iff.mpr c36
                              subst c36
                              have H1 : (if x10_2.length < 8796093022208 then (if 0 ≤ x12_3 then (if x12_3 < (x7_2.length : Int) then (if x12_3 < (x8_2.length : Int) then (if 0 ≤ x13_3 then (if x13_3 < (x7_2.length : Int) then (if x13_3 < (x8_2.length : Int) then (paviorref19_Pairs.l1 kj33 a0 ((x7_2.set (x12_3 : Int).toNat true).set (x13_3 : Int).toNat false) ((x8_2.set (x12_3 : Int).toNat false).set (x13_3 : Int).toNat false) (x10_2 ++ [(⟨x12_3, x13_3⟩ : S35)]) (wrap64 (x11_2 + 1))) else (none)) else (none)) else (none)) else (none)) else (none)) else (none)) else (none)) = some r := by rw [if_neg (show ¬ (false = true) by decide)] at H; exact H
                              clear H
                              have H := H1
                              clear H1
                              by_cases c37 : x10_2.length < 8796093022208
                              · rw [if_pos c37] at H
                                have LMc37 := Aside0.mk c37
                                clear c37
                                obtain ⟨y177, hy177⟩ : ∃ y_ : List (S35), y_ = (x10_2 ++ [(⟨x12_3, x13_3⟩ : S35)]) := ⟨_, rfl⟩
                                replace H : (if 0 ≤ x12_3 then (if x12_3 < (x7_2.length : Int) then (if x12_3 < (x8_2.length : Int) then (if 0 ≤ x13_3 then (if x13_3 < (x7_2.length : Int) then (if x13_3 < (x8_2.length : Int) then (paviorref19_Pairs.l1 kj33 a0 ((x7_2.set (x12_3 : Int).toNat true).set (x13_3 : Int).toNat false) ((x8_2.set (x12_3 : Int).toNat false).set (x13_3 : Int).toNat false) y177 (wrap64 (x11_2 + 1))) else (none)) else (none)) else (none)) else (none)) else (none)) else (none)) = some r := by first | (rw [hy177]; with_reducible exact H) | (have H2_ := (Option.bind_some _ _).symm.trans H; rw [hy177]; with_reducible exact H2_) | (have H2_ := (Option.bind_some _ _).symm.trans H; with_reducible exact H2_) | with_reducible exact H | (rw [hy177]; exact H) | exact H
                                have Ny177 := Aside0.mk hy177
                                clear hy177
                                by_cases c38 : 0 ≤ x12_3
                                · rw [if_pos c38] at H
                                  have c38b0 : decide (0 ≤ x12_3) = true := decide_eq_true c38
                                  clear c38
                                  by_cases c39 : x12_3 < (x7_2.length : Int)
                                  · rw [if_pos c39] at H
                                    have c39b0 : decide (x12_3 < (x7_2.length : Int)) = true := decide_eq_true c39
                                    clear c39
                                    obtain ⟨y180, hy180⟩ : ∃ y_ : List Bool, y_ = (x7_2.set (x12_3 : Int).toNat true) := ⟨_, rfl⟩
                                    replace H : (if x12_3 < (x8_2.length : Int) then (if 0 ≤ x13_3 then (if x13_3 < (x7_2.length : Int) then (if x13_3 < (x8_2.length : Int) then (paviorref19_Pairs.l1 kj33 a0 (y180.set (x13_3 : Int).toNat false) ((x8_2.set (x12_3 : Int).toNat false).set (x13_3 : Int).toNat false) y177 (wrap64 (x11_2 + 1))) else (none)) else (none)) else (none)) else (none)) = some r := by first | (rw [hy180]; with_reducible exact H) | (have H2_ := (Option.bind_some _ _).symm.trans H; rw [hy180]; with_reducible exact H2_) | (have H2_ := (Option.bind_some _ _).symm.trans H; with_reducible exact H2_) | with_reducible exact H | (rw [hy180]; exact H) | exact H
                                    have Ny180 := Aside0.mk hy180
                                    clear hy180
                                    by_cases c41 : x12_3 < (x8_2.length : Int)
                                    · rw [if_pos c41] at H
                                      have c41b0 : decide (x12_3 < (x8_2.length : Int)) = true := decide_eq_true c41
                                      clear c41
                                      obtain ⟨y181, hy181⟩ : ∃ y_ : List Bool, y_ = (x8_2.set (x12_3 : Int).toNat false) := ⟨_, rfl⟩
                                      replace H : (if 0 ≤ x13_3 then (if x13_3 < (x7_2.length : Int) then (if x13_3 < (x8_2.length : Int) then (paviorref19_Pairs.l1 kj33 a0 (y180.set (x13_3 : Int).toNat false) (y181.set (x13_3 : Int).toNat false) y177 (wrap64 (x11_2 + 1))) else (none)) else (none)) else (none)) = some r := by first | (rw [hy181]; with_reducible exact H) | (have H2_ := (Option.bind_some _ _).symm.trans H; rw [hy181]; with_reducible exact H2_) | (have H2_ := (Option.bind_some _ _).symm.trans H; with_reducible exact H2_) | with_reducible exact H | (rw [hy181]; exact H) | exact H
                                      have Ny181 := Aside0.mk hy181
                                      clear hy181
                                      by_cases c43 : 0 ≤ x13_3
                                      · rw [if_pos c43] at H
                                        have c43b0 : decide (0 ≤ x13_3) = true := decide_eq_true c43
                                        clear c43
                                        by_cases c44 : x13_3 < (x7_2.length : Int)
                                        · rw [if_pos c44] at H
                                          have c44b0 : decide (x13_3 < (x7_2.length : Int)) = true := decide_eq_true c44
                                          clear c44
                                          obtain ⟨y182, hy182⟩ : ∃ y_ : List Bool, y_ = (y180.set (x13_3 : Int).toNat false) := ⟨_, rfl⟩
                                          replace H : (if x13_3 < (x8_2.length : Int) then (paviorref19_Pairs.l1 kj33 a0 y182 (y181.set (x13_3 : Int).toNat false) y177 (wrap64 (x11_2 + 1))) else (none)) = some r := by first | (rw [hy182]; with_reducible exact H) | (have H2_ := (Option.bind_some _ _).symm.trans H; rw [hy182]; with_reducible exact H2_) | (have H2_ := (Option.bind_some _ _).symm.trans H; with_reducible exact H2_) | with_reducible exact H | (rw [hy182]; exact H) | exact H
                                          have Ny182 := Aside0.mk hy182
                                          clear hy182
                                          by_cases c46 : x13_3 < (x8_2.length : Int)
                                          · rw [if_pos c46] at H
                                            have c46b0 : decide (x13_3 < (x8_2.length : Int)) = true := decide_eq_true c46
                                            clear c46
                                            obtain ⟨y183, hy183⟩ : ∃ y_ : List Bool, y_ = (y181.set (x13_3 : Int).toNat false) := ⟨_, rfl⟩
                                            replace H : (paviorref19_Pairs.l1 kj33 a0 y182 y183 y177 (wrap64 (x11_2 + 1))) = some r := by first | (rw [hy183]; with_reducible exact H) | (have H2_ := (Option.bind_some _ _).symm.trans H; rw [hy183]; with_reducible exact H2_) | (have H2_ := (Option.bind_some _ _).symm.trans H; with_reducible exact H2_) | with_reducible exact H | (rw [hy183]; exact H) | exact H
                                            have Ny183 := Aside0.mk hy183
                                            clear hy183
                                            have H' := Aside0.mk H
                                            clear H
                                            go_wp2_with (first | ((with_reducible refine gate_builtin (b := .append) (xs := #[.tmp 64, .tmp 68]) rfl ?_); at_builtin; refine Kd.R_append k35 (w0 := w) w.heap.size rfl (.tmp 64) (.tmp 68) 29 35 (.agg #[(.int .i64 0), (.int .i64 0)]) 16 rfl Try.underlying29 info35 rfl (by decide) (by omega) u10 x10_2 (⟨x12_3, x13_3⟩ : S35) [.int .i64 x12_3, .int .i64 x13_3] (fun _ => True) (fun _ => False) rfl rfl ?aP (fun _ hk => hk.elim) ?aF ?aO ?aB ?aS ?aL ?_; (case aP => exact k35_mkM _ _ _ (⟨x12_3, x13_3⟩ : S35)); (case aB => exact (by repeat (first | (with_reducible first | exact HB.out | apply below_alloc | apply pw_below_drewN | apply below_drew1) | exact HB.out))); (case aF => exact (fun _ _ => trivial)); (case aO => exact (by (with_reducible repeat (first | apply Kd.R_alloc | apply Kd.R_drewN | apply Kd.R_drew)); exact HO_10.out)); (case aS => exact (below_size (by repeat (first | (with_reducible first | exact HB.out | apply below_alloc | apply pw_below_drewN | apply below_drew1) | exact HB.out)))); (case aL => have := LMc37.out; omega); intro v178 w48 ho hb hg hat; rw [← Ny177.out] at ho; have n0_ := Aside0.mk (Kd.R_over' (by (with_reducible repeat (first | apply Kd.R_alloc | apply Kd.R_drewN | apply Kd.R_drew)); exact HO_7.out) (Kd.R_typed (by (with_reducible repeat (first | apply Kd.R_alloc | apply Kd.R_drewN | apply Kd.R_drew)); exact HO_10.out)) (by decide) hg); have n1_ := Aside0.mk (Kd.R_over' (by (with_reducible repeat (first | apply Kd.R_alloc | apply Kd.R_drewN | apply Kd.R_drew)); exact HO_8.out) (Kd.R_typed (by (with_reducible repeat (first | apply Kd.R_alloc | apply Kd.R_drewN | apply Kd.R_drew)); exact HO_10.out)) (by decide) hg); have n2_ := Aside0.mk (hb); have n3_ := Aside0.mk (ho); clear HO_7; clear HO_8; clear HB; clear HO_10; have HO_7 := n0_; have HO_8 := n1_; have HB := n2_; have HO179 := n3_; clear n0_ n1_ n2_ n3_; clear ho hb hg hat; have p40 : 0 ≤ (x12_3 : Int) := of_decide_eq_true (by first | (with_reducible assumption) | assumption); have q40 : (x12_3 : Int) < ((x7_2.length : Int) : Int) := of_decide_eq_true (by first | (with_reducible assumption) | assumption); obtain ⟨go40, co40, eo40, gb40, gl40, cl40, HG40⟩ := Kd.R_form HO_7.out (by omega); (first | cases eo40 | (injection eo40 with ea_ en_ ec_; (first | subst ea_ | (injection ea_ with ea_; subst ea_)); subst ec_; clear en_)); have GB40 := Aside0.mk gb40; have GG40 := Aside0.mk HG40; clear gb40 gl40 HG40; obtain ⟨hx40_0, hf40_0⟩ := Kd.R_celln false HO_7.out (x12_3 : Int) p40 q40; replace p40 := eq_true p40; replace q40 := eq_true q40; obtain ⟨hy49_, hz49_⟩ := Kd.R_celln false HO_7.out (x12_3 : Int) (of_decide_eq_true (by first | (with_reducible assumption) | assumption)) (of_decide_eq_true (by first | (with_reducible assumption) | assumption)); have HP49 := Kd.R_putg HO_7.out (x12_3 : Int) true) | ((with_reducible refine gate_store (t := 4) (p := 72) rfl ?_); refine store_event (t := 4) (p := 72) (v := ?vo_w50) (w1 := (w48.setCell ⟨go40, (x12_3 : Int).toNat, none⟩ (.bool true))) ?hg ?ho ?hn ?hr ?_; (case ho => rfl); (case hg => rfl); (case hn => rfl); (case hr => first | (go_simp; done) | (go_simp; rfl)); intro w50 hw; have hg : w48.grownBy w50 (some go40) := (by rw [hw]; exact HP49.2); have hp_ : Kd.R Kd.bool 4 w50 w.heap.size (fun k_ => some k_ ≠ (v171 : Value).ownBlock) (.slice (some ⟨go40, 0, none⟩) x7_2.length co40) y180 := (by rw [hw, Ny180.out]; exact HP49.1); clear HP49; have n0_ := Aside0.mk (hp_); have n1_ := Aside0.mk (Kd.R_after (v := (.slice (some ⟨go40, 0, none⟩) x7_2.length co40)) (v1 := (.slice (some ⟨go40, 0, none⟩) x7_2.length co40)) (ok := (fun _ => True)) (by (with_reducible repeat (first | apply Kd.R_alloc | apply Kd.R_drewN | apply Kd.R_drew)); exact Kd.R_mono HO_8.out (fun _ hk => ⟨trivial, hk⟩)) hg (.inl rfl)); have n2_ := Aside0.mk (Kd.R_over' (v := (.slice (some ⟨go40, 0, none⟩) x7_2.length co40)) (by (with_reducible repeat (first | apply Kd.R_alloc | apply Kd.R_drewN | apply Kd.R_drew)); exact HO179.out) (Kd.R_typed HO_7.out) (by decide) hg); have n3_ := Aside0.mk ((by rw [hw]; exact below_set (HB.out) GB40.out : Below w.heap.size w w50)); clear HO_7; clear HO_8; clear HO179; clear HB; have HO_7 := n0_; have HO_8 := n1_; have HO179 := n2_; have HB := n3_; clear n0_ n1_ n2_ n3_; clear hg hw hp_; have p42 : 0 ≤ (x12_3 : Int) := of_decide_eq_true (by first | (with_reducible assumption) | assumption); have q42 : (x12_3 : Int) < ((x8_2.length : Int) : Int) := of_decide_eq_true (by first | (with_reducible assumption) | assumption); obtain ⟨go42, co42, eo42, gb42, gl42, cl42, HG42⟩ := Kd.R_form HO_8.out (by omega); (first | cases eo42 | (injection eo42 with ea_ en_ ec_; (first | subst ea_ | (injection ea_ with ea_; subst ea_)); subst ec_; clear en_)); have GB42 := Aside0.mk gb42; have GG42 := Aside0.mk HG42; clear gb42 gl42 HG42; obtain ⟨hx42_0, hf42_0⟩ := Kd.R_celln false HO_8.out (x12_3 : Int) p42 q42; replace p42 := eq_true p42; replace q42 := eq_true q42; have n_ := Aside0.mk (Kd.R_mono (ok' := (fun k_ => some k_ ≠ (.slice (some ⟨go40, 0, none⟩) x7_2.length co40 : Value).ownBlock)) HO_8.out (fun k_ hk => hk.2)); clear HO_8; have HO_8 := n_; clear n_; obtain ⟨hy51_, hz51_⟩ := Kd.R_celln false HO_8.out (x12_3 : Int) (of_decide_eq_true (by first | (with_reducible assumption) | assumption)) (of_decide_eq_true (by first | (with_reducible assumption) | assumption)); have HP51 := Kd.R_putg HO_8.out (x12_3 : Int) false) | ((with_reducible refine gate_store (t := 4) (p := 75) rfl ?_); refine store_event (t := 4) (p := 75) (v := ?vo_w52) (w1 := (w50.setCell ⟨go42, (x12_3 : Int).toNat, none⟩ (.bool false))) ?hg ?ho ?hn ?hr ?_; (case ho => rfl); (case hg => rfl); (case hn => rfl); (case hr => first | (go_simp; done) | (go_simp; rfl)); intro w52 hw; have hg : w50.grownBy w52 (some go42) := (by rw [hw]; exact HP51.2); have hp_ : Kd.R Kd.bool 4 w52 w.heap.size (fun k_ => some k_ ≠ (.slice (some ⟨go40, 0, none⟩) x7_2.length co40 : Value).ownBlock) (.slice (some ⟨go42, 0, none⟩) x8_2.length co42) y181 := (by rw [hw, Ny181.out]; exact HP51.1); clear HP51; have n0_ := Aside0.mk (Kd.R_after (v := (.slice (some ⟨go42, 0, none⟩) x8_2.length co42)) (v1 := (.slice (some ⟨go42, 0, none⟩) x8_2.length co42)) (ok := (fun _ => True)) (by (with_reducible repeat (first | apply Kd.R_alloc | apply Kd.R_drewN | apply Kd.R_drew)); exact Kd.R_mono HO_7.out (fun _ hk => ⟨trivial, hk⟩)) hg (.inl rfl)); have n1_ := Aside0.mk (hp_); have n2_ := Aside0.mk (Kd.R_over' (v := (.slice (some ⟨go42, 0, none⟩) x8_2.length co42)) (by (with_reducible repeat (first | apply Kd.R_alloc | apply Kd.R_drewN | apply Kd.R_drew)); exact HO179.out) (Kd.R_typed HO_8.out) (by decide) hg); have n3_ := Aside0.mk ((by rw [hw]; exact below_set (HB.out) GB42.out : Below w.heap.size w w52)); clear HO_7; clear HO_8; clear HO179; clear HB; have HO_7 := n0_; have HO_8 := n1_; have HO179 := n2_; have HB := n3_; clear n0_ n1_ n2_ n3_; clear hg hw hp_; have p45 : 0 ≤ (x13_3 : Int) := of_decide_eq_true (by first | (with_reducible assumption) | assumption); have q45 : (x13_3 : Int) < ((x7_2.length : Int) : Int) := of_decide_eq_true (by first | (with_reducible assumption) | assumption); obtain ⟨hx45_0, hf45_0⟩ := Kd.R_celln false HO_7.out (x13_3 : Int) p45 q45; replace p45 := eq_true p45; replace q45 := eq_true q45; have n_ := Aside0.mk (Kd.R_mono (ok' := (fun k_ => some k_ ≠ (.slice (some ⟨go42, 0, none⟩) x8_2.length co42 : Value).ownBlock)) HO_7.out (fun k_ hk => hk.2)); clear HO_7; have HO_7 := n_; clear n_; obtain ⟨hy53_, hz53_⟩ := Kd.R_celln false HO_7.out (x13_3 : Int) (of_decide_eq_true (by first | (with_reducible assumption) | assumption)) (of_decide_eq_true (by first | (with_reducible assumption) | assumption)); have HP53 := Kd.R_putg HO_7.out (x13_3 : Int) false) | ((with_reducible refine gate_store (t := 4) (p := 78) rfl ?_); refine store_event (t := 4) (p := 78) (v := ?vo_w54) (w1 := (w52.setCell ⟨go40, (x13_3 : Int).toNat, none⟩ (.bool false))) ?hg ?ho ?hn ?hr ?_; (case ho => rfl); (case hg => rfl); (case hn => rfl); (case hr => first | (go_simp; done) | (go_simp; rfl)); intro w54 hw; have hg : w52.grownBy w54 (some go40) := (by rw [hw]; exact HP53.2); have hp_ : Kd.R Kd.bool 4 w54 w.heap.size (fun k_ => some k_ ≠ (.slice (some ⟨go42, 0, none⟩) x8_2.length co42 : Value).ownBlock) (.slice (some ⟨go40, 0, none⟩) x7_2.length co40) y182 := (by rw [hw, Ny182.out]; exact HP53.1); clear HP53; have n0_ := Aside0.mk (hp_); have n1_ := Aside0.mk (Kd.R_after (v := (.slice (some ⟨go40, 0, none⟩) x7_2.length co40)) (v1 := (.slice (some ⟨go40, 0, none⟩) x7_2.length co40)) (ok := (fun _ => True)) (by (with_reducible repeat (first | apply Kd.R_alloc | apply Kd.R_drewN | apply Kd.R_drew)); exact Kd.R_mono HO_8.out (fun _ hk => ⟨trivial, hk⟩)) hg (.inl rfl)); have n2_ := Aside0.mk (Kd.R_over' (v := (.slice (some ⟨go40, 0, none⟩) x7_2.length co40)) (by (with_reducible repeat (first | apply Kd.R_alloc | apply Kd.R_drewN | apply Kd.R_drew)); exact HO179.out) (Kd.R_typed HO_7.out) (by decide) hg); have n3_ := Aside0.mk ((by rw [hw]; exact below_set (HB.out) GB40.out : Below w.heap.size w w54)); clear HO_7; clear HO_8; clear HO179; clear HB; have HO_7 := n0_; have HO_8 := n1_; have HO179 := n2_; have HB := n3_; clear n0_ n1_ n2_ n3_; clear hg hw hp_; have p47 : 0 ≤ (x13_3 : Int) := of_decide_eq_true (by first | (with_reducible assumption) | assumption); have q47 : (x13_3 : Int) < ((x8_2.length : Int) : Int) := of_decide_eq_true (by first | (with_reducible assumption) | assumption); obtain ⟨hx47_0, hf47_0⟩ := Kd.R_celln false HO_8.out (x13_3 : Int) p47 q47; replace p47 := eq_true p47; replace q47 := eq_true q47; have n_ := Aside0.mk (Kd.R_mono (ok' := (fun k_ => some k_ ≠ (.slice (some ⟨go40, 0, none⟩) x7_2.length co40 : Value).ownBlock)) HO_8.out (fun k_ hk => hk.2)); clear HO_8; have HO_8 := n_; clear n_; obtain ⟨hy55_, hz55_⟩ := Kd.R_celln false HO_8.out (x13_3 : Int) (of_decide_eq_true (by first | (with_reducible assumption) | assumption)) (of_decide_eq_true (by first | (with_reducible assumption) | assumption)); have HP55 := Kd.R_putg HO_8.out (x13_3 : Int) false) | ((with_reducible refine gate_store (t := 4) (p := 81) rfl ?_); refine store_event (t := 4) (p := 81) (v := ?vo_w56) (w1 := (w54.setCell ⟨go42, (x13_3 : Int).toNat, none⟩ (.bool false))) ?hg ?ho ?hn ?hr ?_; (case ho => rfl); (case hg => rfl); (case hn => rfl); (case hr => first | (go_simp; done) | (go_simp; rfl)); intro w56 hw; have hg : w54.grownBy w56 (some go42) := (by rw [hw]; exact HP55.2); have hp_ : Kd.R Kd.bool 4 w56 w.heap.size (fun k_ => some k_ ≠ (.slice (some ⟨go40, 0, none⟩) x7_2.length co40 : Value).ownBlock) (.slice (some ⟨go42, 0, none⟩) x8_2.length co42) y183 := (by rw [hw, Ny183.out]; exact HP55.1); clear HP55; have n0_ := Aside0.mk (Kd.R_after (v := (.slice (some ⟨go42, 0, none⟩) x8_2.length co42)) (v1 := (.slice (some ⟨go42, 0, none⟩) x8_2.length co42)) (ok := (fun _ => True)) (by (with_reducible repeat (first | apply Kd.R_alloc | apply Kd.R_drewN | apply Kd.R_drew)); exact Kd.R_mono HO_7.out (fun _ hk => ⟨trivial, hk⟩)) hg (.inl rfl)); have n1_ := Aside0.mk (hp_); have n2_ := Aside0.mk (Kd.R_over' (v := (.slice (some ⟨go42, 0, none⟩) x8_2.length co42)) (by (with_reducible repeat (first | apply Kd.R_alloc | apply Kd.R_drewN | apply Kd.R_drew)); exact HO179.out) (Kd.R_typed HO_8.out) (by decide) hg); have n3_ := Aside0.mk ((by rw [hw]; exact below_set (HB.out) GB42.out : Below w.heap.size w w56)); clear HO_7; clear HO_8; clear HO179; clear HB; have HO_7 := n0_; have HO_8 := n1_; have HO179 := n2_; have HB := n3_; clear n0_ n1_ n2_ n3_; clear hg hw hp_))
                                            go_roundg kj33
                                            case measure => have := HK1.out; have := HK2.out; have := HK3.out; have := HJ33.out; omega
                                            case rel => exact ⟨(y182), (y183), (y177), (wrap64 (x11_2 + 1)), (by first | rfl | (simp; done) | (simp [*]; done)), H', ⟨by have := HK1.out; have := HK2.out; have := HK3.out; have := HJ33.out; omega⟩, ⟨by (with_reducible repeat (first | apply Kd.R_alloc | apply Kd.R_drewN | apply Kd.R_drew)); exact Kd.R_mono HO_7.out (fun _ hk => hk.2)⟩, ⟨by (with_reducible repeat (first | apply Kd.R_alloc | apply Kd.R_drewN | apply Kd.R_drew)); exact HO_8.out⟩, ⟨by (with_reducible repeat (first | apply Kd.R_alloc | apply Kd.R_drewN | apply Kd.R_drew)); exact HO179.out⟩, ⟨by repeat (first | (with_reducible first | exact HB.out | apply below_alloc | apply pw_below_drewN | apply below_drew1) | exact HB.out)⟩⟩
                                          · rw [if_neg c46] at H
                                            exact absurd H (by simp)
                                        · rw [if_neg c44] at H
                                          exact absurd H (by simp)
                                      · rw [if_neg c43] at H
                                        exact absurd H (by simp)
                                    · rw [if_neg c41] at H
                                      exact absurd H (by simp)
                                  · rw [if_neg c39] at H
                                    exact absurd H (by simp)
                                · rw [if_neg c38] at H
                                  exact absurd H (by simp)
                              · rw [if_neg c37] at H
                                exact absurd H (by simp)
                · rw [if_neg c17] at H
                  have c17b0 : decide (x11_2 ≤ a0) = false := decide_eq_false c17
                  clear c17
                  obtain rfl := Option.some.inj H
                  go_wp2
                  go_ret
                  exact ⟨_, by first | rfl | (simp [errW_none, errW_some] <;> rfl) | (simp [*, errW_none, errW_some] <;> rfl), by (with_reducible repeat (first | apply Kd.R_alloc | apply Kd.R_drewN | apply Kd.R_drew)); exact HO_10.out, by repeat (first | (with_reducible first | exact HB.out | apply below_alloc | apply pw_below_drewN | apply below_drew1) | exact HB.out)⟩
    · rw [if_neg c6] at H
      exact absurd H (by simp)
  · rw [if_neg c5] at H
    exact absurd H (by simp)

end Go.Proofs.Ytlmjjkggoemabaa.Q
