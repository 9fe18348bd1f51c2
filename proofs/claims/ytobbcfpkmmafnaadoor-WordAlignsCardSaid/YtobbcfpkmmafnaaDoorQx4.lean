-- Written by this session's program wip/tools/xprint.py (the kit's printer, turned by it); not the kit's own print.
import Derived.Test.YtobbcfpkmmafnaaDoorQx0
import Derived.Test.YtobbcfpkmmafnaaDoorQx1
import Derived.Test.YtobbcfpkmmafnaaDoorQx2
import Derived.Test.YtobbcfpkmmafnaaDoorQx3
namespace Go.Proofs.YtobbcfpkmmafnaaDoor.Q
open Go.RowKit Go.Proofs.YtobbcfpkmmafnaaDoorW.PrintWords Go.Proofs.YtobbcfpkmmafnaaDoorW.PrintLast Go.Proofs.YtobbcfpkmmafnaaDoorW.PrintMore
attribute [local go_sem] max2_int min2_int max_two min_two max_three min_three max_four min_four   -- for this text's walks alone
set_option linter.unusedVariables false
set_option linter.unusedSimpArgs false

attribute [local go_sem high] eqA39
attribute [local go_sem high] eqErr_some neErr_some eqErr_left neErr_left
/-! ### paviorref01_Cut: function 19 -/
mutual
def paviorref01_Cut.l0 : Nat → Int → List (S39) → Int → Option ((List (S39)))
  | 0, _, _, _ => none
  | k + 1, x1, x5, x6 => if x6 < x1 then (paviorref01_Cut.l1 k x1 x5 x6 0) else (some x5)
def paviorref01_Cut.l1 : Nat → Int → List (S39) → Int → Int → Option ((List (S39)))
  | 0, _, _, _, _ => none
  | k + 1, x1, x5, x6, x7 => if x7 < 20 then ((paviorref01_Power.f k (wrap64 (x7 + 1))).bind fun t144 => (if t144 = 0 then (none) else (if (Int.tmod x6 t144) = 0 then (paviorref01_Cut.j2 k x1 x5 x6 x7 (decide ((wrap64 (x6 + t144)) ≤ x1))) else (paviorref01_Cut.j2 k x1 x5 x6 x7 false)))) else (paviorref01_Cut.j2 k x1 x5 x6 x7 false)
def paviorref01_Cut.j2 : Nat → Int → List (S39) → Int → Int → Bool → Option ((List (S39)))
  | 0, _, _, _, _, _ => none
  | k + 1, x1, x5, x6, x7, x30 => if x30 = true then (paviorref01_Cut.l1 k x1 x5 x6 (wrap64 (x7 + 1))) else (if x5.length < 8796093022208 then ((paviorref01_Power.f k x7).bind fun t148 => (paviorref01_Cut.l0 k x1 (x5 ++ [(⟨x6, x7⟩ : S39)]) (wrap64 (x6 + t148)))) else (none))
end
def paviorref01_Cut.f (k : Nat) (a0 : Int) (a1 : Int) : Option ((List (S39))) := paviorref01_Cut.l0 k a1 ([] : List (S39)) a0
theorem paviorref01_Cut.mono_l : ∀ k, (∀ y0 y1 y2, LeO (paviorref01_Cut.l0 k y0 y1 y2) (paviorref01_Cut.l0 (k + 1) y0 y1 y2)) ∧ (∀ y0 y1 y2 y3, LeO (paviorref01_Cut.l1 k y0 y1 y2 y3) (paviorref01_Cut.l1 (k + 1) y0 y1 y2 y3)) ∧ (∀ y0 y1 y2 y3 y4, LeO (paviorref01_Cut.j2 k y0 y1 y2 y3 y4) (paviorref01_Cut.j2 (k + 1) y0 y1 y2 y3 y4))
  | 0 => ⟨fun _ _ _ r h => by simp [paviorref01_Cut.l0] at h, fun _ _ _ _ r h => by simp [paviorref01_Cut.l1] at h, fun _ _ _ _ _ r h => by simp [paviorref01_Cut.j2] at h⟩
  | k + 1 => by
    obtain ⟨ih0, ih1, ih2⟩ := paviorref01_Cut.mono_l k
    refine ⟨?_, ?_, ?_⟩
    · intro y0 y1 y2
      unfold paviorref01_Cut.l0
      repeat' first
      | (with_reducible exact ih0 _ _ _)
      | (with_reducible exact ih1 _ _ _ _)
      | (with_reducible exact ih2 _ _ _ _ _)
      | (with_reducible exact paviorref01_Power.mono _ _)
      | (with_reducible exact LeO.refl _)
      | (with_reducible exact LeO.none _)
      | (with_reducible refine LeO.ite ?_ ?_)
      | (with_reducible refine LeO.bind ?_ (fun _ => ?_))
      | exact ih0 _ _ _
      | exact ih1 _ _ _ _
      | exact ih2 _ _ _ _ _
      | exact paviorref01_Power.mono _ _
      | exact LeO.none _
      | refine LeO.ite ?_ ?_
      | refine LeO.bind ?_ (fun _ => ?_)
    · intro y0 y1 y2 y3
      unfold paviorref01_Cut.l1
      repeat' first
      | (with_reducible exact ih0 _ _ _)
      | (with_reducible exact ih1 _ _ _ _)
      | (with_reducible exact ih2 _ _ _ _ _)
      | (with_reducible exact paviorref01_Power.mono _ _)
      | (with_reducible exact LeO.refl _)
      | (with_reducible exact LeO.none _)
      | (with_reducible refine LeO.ite ?_ ?_)
      | (with_reducible refine LeO.bind ?_ (fun _ => ?_))
      | exact ih0 _ _ _
      | exact ih1 _ _ _ _
      | exact ih2 _ _ _ _ _
      | exact paviorref01_Power.mono _ _
      | exact LeO.none _
      | refine LeO.ite ?_ ?_
      | refine LeO.bind ?_ (fun _ => ?_)
    · intro y0 y1 y2 y3 y4
      unfold paviorref01_Cut.j2
      repeat' first
      | (with_reducible exact ih0 _ _ _)
      | (with_reducible exact ih1 _ _ _ _)
      | (with_reducible exact ih2 _ _ _ _ _)
      | (with_reducible exact paviorref01_Power.mono _ _)
      | (with_reducible exact LeO.refl _)
      | (with_reducible exact LeO.none _)
      | (with_reducible refine LeO.ite ?_ ?_)
      | (with_reducible refine LeO.bind ?_ (fun _ => ?_))
      | exact ih0 _ _ _
      | exact ih1 _ _ _ _
      | exact ih2 _ _ _ _ _
      | exact paviorref01_Power.mono _ _
      | exact LeO.none _
      | refine LeO.ite ?_ ?_
      | refine LeO.bind ?_ (fun _ => ?_)
theorem paviorref01_Cut.mono : ∀ a0 a1 k, LeO (paviorref01_Cut.f k a0 a1) (paviorref01_Cut.f (k + 1) a0 a1) := by
  intro a0 a1 k
  obtain ⟨ih0, ih1, ih2⟩ := paviorref01_Cut.mono_l k
  unfold paviorref01_Cut.f
  repeat' first
      | (with_reducible exact ih0 _ _ _)
      | (with_reducible exact ih1 _ _ _ _)
      | (with_reducible exact ih2 _ _ _ _ _)
      | (with_reducible exact paviorref01_Power.mono _ _)
      | (with_reducible exact LeO.refl _)
      | (with_reducible exact LeO.none _)
      | (with_reducible refine LeO.ite ?_ ?_)
      | (with_reducible refine LeO.bind ?_ (fun _ => ?_))
      | exact ih0 _ _ _
      | exact ih1 _ _ _ _
      | exact ih2 _ _ _ _ _
      | exact paviorref01_Power.mono _ _
      | exact LeO.none _
      | refine LeO.ite ?_ ?_
      | refine LeO.bind ?_ (fun _ => ?_)
set_option maxHeartbeats 8000000 in
set_option maxRecDepth 100000 in
theorem paviorref01_Cut.calls (k : Nat) (a0 : Int) (a1 : Int) (r : List (S39)) (w : World) (h : paviorref01_Cut.f k a0 a1 = some r) :
    Calls Tryd.prog 19 #[.int .i64 a0, .int .i64 a1] w fun e w' => ∃ v0_ : Value, e = .returned (v0_) ∧ Kd.R k39 39 w' w.heap.size (fun _ => True) v0_ r ∧ Below w.heap.size w w' := by
  have hu39 := Tryd.underlying39
  have HB := Aside0.mk (Below.refl w.heap.size w)
  have H : (paviorref01_Cut.l0 k a1 ([] : List (S39)) a0) = some r := h
  clear h
  have H' := Aside0.mk H
  clear H
  go_enter Tryd.func19, Tryd.ntmps19
  go_wp2
  go_loopg [5, 6] k (fun kq v5 v6 w' => ∃ (x5_1 : List (S39)) (x6_1 : Int), v6 = .int .i64 x6_1 ∧ Aside0 (paviorref01_Cut.l0 kq a1 x5_1 x6_1 = some r) ∧ Aside0 (kq ≤ k) ∧ Aside0 (Kd.R k39 39 w' w.heap.size (fun _ => True) v5 x5_1) ∧ Aside0 (Below w.heap.size w w'))
  case atStart => exact ⟨(([] : List (S39))), (a0), (by first | rfl | (simp; done) | (simp [*]; done)), H', ⟨Nat.le_refl _⟩, ⟨by first | exact Kd.R_nil _ _ _ _ _ | exact Kd.N_nil _ _ _ _ _ | exact Kd.V_nil _ _ _ _ _ | exact Kd.Q_nil _ _ _ _ _ | exact Kd.S_nil _ _ _ _ _⟩, ⟨by repeat (first | (with_reducible first | exact HB.out | apply below_alloc | apply pw_below_drewN | apply below_drew1) | exact HB.out)⟩⟩
  case round =>
    clear H'
    try clear c1
    try clear p2
    obtain ⟨x5_1, x6_1, rfl, HA, HK1, HO_5, HB⟩ := hrel
    cases gk with
    | zero => exact absurd HA.out (by simp [paviorref01_Cut.l0])
    | succ k1 =>
      have H := HA.out
      clear HA
      simp only [paviorref01_Cut.l0] at H
      by_cases c3 : x6_1 < a1
      · rw [if_pos c3] at H
        have c3b0 : decide (x6_1 < a1) = true := decide_eq_true c3
        clear c3
        have H' := Aside0.mk H
        clear H
        go_wp2
        go_loopg [7] k1 (fun kq v7 w' => ∃ (x7_2 : Int), v7 = .int .i64 x7_2 ∧ Aside0 (paviorref01_Cut.l1 kq a1 x5_1 x6_1 x7_2 = some r) ∧ Aside0 (kq ≤ k1) ∧ Aside0 (Kd.R k39 39 w' w.heap.size (fun _ => True) u5 x5_1) ∧ Aside0 (Below w.heap.size w w'))
        case atStart => exact ⟨(0), (by first | rfl | (simp; done) | (simp [*]; done)), H', ⟨Nat.le_refl _⟩, ⟨by (with_reducible repeat (first | apply Kd.R_alloc | apply Kd.R_drewN | apply Kd.R_drew)); exact HO_5.out⟩, ⟨by repeat (first | (with_reducible first | exact HB.out | apply below_alloc | apply pw_below_drewN | apply below_drew1) | exact HB.out)⟩⟩
        case round =>
          clear H'
          try clear c1
          try clear p2
          try clear c3
          try clear c3b0
          try clear p2
          obtain ⟨x7_2, rfl, HA, HK2, HO_5, HB⟩ := hrel
          cases gk with
          | zero => exact absurd HA.out (by simp [paviorref01_Cut.l1])
          | succ k2 =>
            have H := HA.out
            clear HA
            simp only [paviorref01_Cut.l1] at H
            have HC4 := Aside0.mk H
            clear H
            go_upto_region 5 with (fail)
            go_cut [30] (fun v30 wc => ∃ (kq : Nat) (x30_3 : Bool), v30 = .bool x30_3 ∧ Aside0 (paviorref01_Cut.j2 kq a1 x5_1 x6_1 x7_2 x30_3 = some r) ∧ Aside0 (kq ≤ k2) ∧ Aside0 (Kd.R k39 39 wc w.heap.size (fun _ => True) u5 x5_1) ∧ Aside0 (Below w.heap.size w wc))
            case first =>
              have H := HC4.out
              clear HC4
              by_cases c5 : x7_2 < 20
              · rw [if_pos c5] at H
                have c5b0 : decide (x7_2 < 20) = true := decide_eq_true c5
                clear c5
                (first | rw [c5b0] | (simp only [i64_w, i32_w]; rw [c5b0]) | skip)
                replace H := Option.bind_eq_some_iff.mp H
                obtain ⟨t144, A60, H⟩ := H
                replace H : (if t144 = 0 then (none) else (if (Int.tmod x6_1 t144) = 0 then (paviorref01_Cut.j2 k2 a1 x5_1 x6_1 x7_2 (decide ((wrap64 (x6_1 + t144)) ≤ a1))) else (paviorref01_Cut.j2 k2 a1 x5_1 x6_1 x7_2 false))) = some r := H
                have A6 := Aside0.mk A60
                clear A60
                by_cases c7 : t144 = 0
                · rw [if_pos c7] at H
                  exact absurd H (by simp)
                · rw [if_neg c7] at H
                  have c7b0 : (t144 == 0) = false := beq_eq_false_iff_ne.mpr c7
                  have c7b1 : (t144 != 0) = true := bne_iff_ne.mpr c7
                  by_cases c8 : (Int.tmod x6_1 t144) = 0
                  · rw [if_pos c8] at H
                    have c8b0 : ((Int.tmod x6_1 t144) == 0) = true := beq_iff_eq.mpr c8
                    have c8b1 : ((Int.tmod x6_1 t144) != 0) = false := bne_eq_false_iff_eq.mpr c8
                    clear c8
                    have H' := Aside0.mk H
                    clear H
                    go_wp2_with (first | (go_at_call 20; (with_reducible refine (paviorref01_Power.calls k2 (wrap64 (x7_2 + 1)) t144 _ A6.out).mono ?_); rintro e w' ⟨rfl, ⟨nd, rfl⟩⟩))
                    go_meet
                    case rel => exact ⟨_, (decide ((wrap64 (x6_1 + t144)) ≤ a1)), (by first | rfl | (simp; done) | (simp [*]; done)), H', ⟨by have := HK1.out; have := HK2.out; first | omega | exact Nat.le_refl _⟩, ⟨by (with_reducible repeat (first | apply Kd.R_alloc | apply Kd.R_drewN | apply Kd.R_drew)); exact HO_5.out⟩, ⟨by repeat (first | (with_reducible first | exact HB.out | apply below_alloc | apply pw_below_drewN | apply below_drew1) | exact HB.out)⟩⟩
                  · rw [if_neg c8] at H
                    have c8b0 : ((Int.tmod x6_1 t144) == 0) = false := beq_eq_false_iff_ne.mpr c8
                    have c8b1 : ((Int.tmod x6_1 t144) != 0) = true := bne_iff_ne.mpr c8
                    have H' := Aside0.mk H
                    clear H
                    go_wp2_with (first | (go_at_call 20; (with_reducible refine (paviorref01_Power.calls k2 (wrap64 (x7_2 + 1)) t144 _ A6.out).mono ?_); rintro e w' ⟨rfl, ⟨nd, rfl⟩⟩))
                    go_meet
                    case rel => exact ⟨_, (false), (by first | rfl | (simp; done) | (simp [*]; done)), H', ⟨by have := HK1.out; have := HK2.out; first | omega | exact Nat.le_refl _⟩, ⟨by (with_reducible repeat (first | apply Kd.R_alloc | apply Kd.R_drewN | apply Kd.R_drew)); exact HO_5.out⟩, ⟨by repeat (first | (with_reducible first | exact HB.out | apply below_alloc | apply pw_below_drewN | apply below_drew1) | exact HB.out)⟩⟩
              · rw [if_neg c5] at H
                have c5b0 : decide (x7_2 < 20) = false := decide_eq_false c5
                clear c5
                (first | rw [c5b0] | (simp only [i64_w, i32_w]; rw [c5b0]) | skip)
                have H' := Aside0.mk H
                clear H
                go_wp2
                go_meet
                case rel => exact ⟨_, (false), (by first | rfl | (simp; done) | (simp [*]; done)), H', ⟨by have := HK1.out; have := HK2.out; first | omega | exact Nat.le_refl _⟩, ⟨by (with_reducible repeat (first | apply Kd.R_alloc | apply Kd.R_drewN | apply Kd.R_drew)); exact HO_5.out⟩, ⟨by repeat (first | (with_reducible first | exact HB.out | apply below_alloc | apply pw_below_drewN | apply below_drew1) | exact HB.out)⟩⟩
            case rest =>
              clear HC4
              try clear c1
              try clear p2
              try clear c3
              try clear c3b0
              try clear c5
              try clear c5b0
              try clear p6
              try clear c7
              try clear c7b0
              try clear c7b1
              try clear c8
              try clear c8b0
              try clear c8b1
              try clear p2
              obtain ⟨kq, x30_3, rfl, HA, HJ3, HO_5, HB⟩ := hcut
              cases kq with
              | zero => exact absurd HA.out (by simp [paviorref01_Cut.j2])
              | succ kj3 =>
                have H := HA.out
                clear HA
                simp only [paviorref01_Cut.j2] at H
                by_cases c9 : x30_3 = true
                · subst c9
                  have H1 : (paviorref01_Cut.l1 kj3 a1 x5_1 x6_1 (wrap64 (x7_2 + 1))) = some r := by rw [if_pos rfl] at H; exact H
                  clear H
                  have H := H1
                  clear H1
                  have H' := Aside0.mk H
                  clear H
                  go_wp2
                  go_roundg kj3
                  case measure => have := HK1.out; have := HK2.out; have := HJ3.out; omega
                  case rel => exact ⟨(wrap64 (x7_2 + 1)), (by first | rfl | (simp; done) | (simp [*]; done)), H', ⟨by have := HK1.out; have := HK2.out; have := HJ3.out; omega⟩, ⟨by (with_reducible repeat (first | apply Kd.R_alloc | apply Kd.R_drewN | apply Kd.R_drew)); exact HO_5.out⟩, ⟨by repeat (first | (with_reducible first | exact HB.out | apply below_alloc | apply pw_below_drewN | apply below_drew1) | exact HB.out)⟩⟩
                · replace c9 := Bool.eq_false_iff.mpr c9
                  subst c9
                  have H1 : (if x5_1.length < 8796093022208 then ((paviorref01_Power.f kj3 x7_2).bind fun t148 => (paviorref01_Cut.l0 kj3 a1 (x5_1 ++ [(⟨x6_1, x7_2⟩ : S39)]) (wrap64 (x6_1 + t148)))) else (none)) = some r := by rw [if_neg (show ¬ (false = true) by decide)] at H; exact H
                  clear H
                  have H := H1
                  clear H1
                  by_cases c10 : x5_1.length < 8796093022208
                  · rw [if_pos c10] at H
                    have LMc10 := Aside0.mk c10
                    clear c10
                    obtain ⟨y145, hy145⟩ : ∃ y_ : List (S39), y_ = (x5_1 ++ [(⟨x6_1, x7_2⟩ : S39)]) := ⟨_, rfl⟩
                    replace H : ((paviorref01_Power.f kj3 x7_2).bind fun t148 => (paviorref01_Cut.l0 kj3 a1 y145 (wrap64 (x6_1 + t148)))) = some r := by first | (rw [hy145]; with_reducible exact H) | (have H2_ := (Option.bind_some _ _).symm.trans H; rw [hy145]; with_reducible exact H2_) | (have H2_ := (Option.bind_some _ _).symm.trans H; with_reducible exact H2_) | with_reducible exact H | (rw [hy145]; exact H) | exact H
                    have Ny145 := Aside0.mk hy145
                    clear hy145
                    replace H := Option.bind_eq_some_iff.mp H
                    obtain ⟨t148, A110, H⟩ := H
                    replace H : (paviorref01_Cut.l0 kj3 a1 y145 (wrap64 (x6_1 + t148))) = some r := H
                    have A11 := Aside0.mk A110
                    clear A110
                    have H' := Aside0.mk H
                    clear H
                    go_wp2_with (first | ((with_reducible refine gate_builtin (b := .append) (xs := #[.tmp 33, .tmp 37]) rfl ?_); at_builtin; refine Kd.R_append k39 (w0 := w) w.heap.size rfl (.tmp 33) (.tmp 37) 35 39 (.agg #[(.int .i64 0), (.int .i64 0)]) 16 rfl Tryd.underlying35 info39 rfl (by decide) (by omega) u5 x5_1 (⟨x6_1, x7_2⟩ : S39) [.int .i64 x6_1, .int .i64 x7_2] (fun _ => True) (fun _ => False) rfl rfl ?aP (fun _ hk => hk.elim) ?aF ?aO ?aB ?aS ?aL ?_; (case aP => exact k39_mkM _ _ _ (⟨x6_1, x7_2⟩ : S39)); (case aB => exact (by repeat (first | (with_reducible first | exact HB.out | apply below_alloc | apply pw_below_drewN | apply below_drew1) | exact HB.out))); (case aF => exact (fun _ _ => trivial)); (case aO => exact (by (with_reducible repeat (first | apply Kd.R_alloc | apply Kd.R_drewN | apply Kd.R_drew)); exact HO_5.out)); (case aS => exact (below_size (by repeat (first | (with_reducible first | exact HB.out | apply below_alloc | apply pw_below_drewN | apply below_drew1) | exact HB.out)))); (case aL => have := LMc10.out; omega); intro v146 w12 ho hb hg hat; rw [← Ny145.out] at ho; have n0_ := Aside0.mk (hb); have n1_ := Aside0.mk (ho); clear HB; clear HO_5; have HB := n0_; have HO147 := n1_; clear n0_ n1_; clear ho hb hg hat) | ((with_reducible refine gate_callee (f := 20) rfl ?_); refine goesL_ (some 41) rfl rfl Tryd.func20 (by kernel_rfl) rfl #[.int .i64 x7_2] rfl (by (try simp only [List.map_toArray, List.map_cons, List.map_nil]); first | done | rfl | (simp only [List.length_drop, List.length_take]; rfl)) ?_; (with_reducible refine (paviorref01_Power.calls kj3 x7_2 t148 _ A11.out).mono ?_); rintro e w' ⟨rfl, ⟨nd, rfl⟩⟩; refine ⟨_, rfl, ?_⟩))
                    go_roundg kj3
                    case measure => have := HK1.out; have := HK2.out; have := HJ3.out; omega
                    case rel => exact ⟨(y145), (wrap64 (x6_1 + t148)), (by first | rfl | (simp; done) | (simp [*]; done)), H', ⟨by have := HK1.out; have := HK2.out; have := HJ3.out; omega⟩, ⟨by (with_reducible repeat (first | apply Kd.R_alloc | apply Kd.R_drewN | apply Kd.R_drew)); exact HO147.out⟩, ⟨by repeat (first | (with_reducible first | exact HB.out | apply below_alloc | apply pw_below_drewN | apply below_drew1) | exact HB.out)⟩⟩
                  · rw [if_neg c10] at H
                    exact absurd H (by simp)
      · rw [if_neg c3] at H
        have c3b0 : decide (x6_1 < a1) = false := decide_eq_false c3
        clear c3
        obtain rfl := Option.some.inj H
        go_wp2
        go_ret
        exact ⟨_, by first | rfl | (simp [errW_none, errW_some] <;> rfl) | (simp [*, errW_none, errW_some] <;> rfl), by (with_reducible repeat (first | apply Kd.R_alloc | apply Kd.R_drewN | apply Kd.R_drew)); exact HO_5.out, by repeat (first | (with_reducible first | exact HB.out | apply below_alloc | apply pw_below_drewN | apply below_drew1) | exact HB.out)⟩

/-! ### paviorlaw01_WordCuts: function 4 -/
mutual
def paviorlaw01_WordCuts.j0 : Nat → Int → Int → Bool → List (S39) → Option Int → Bool → Option (Bool)
  | 0, _, _, _, _, _, _ => none
  | k + 1, x0, x1, x5, x6, x7, x27 => if x27 = true then (if x5 = true then (if x7.isNone = true then (some false) else (if (x7.getD 0) = 1 then (some ((x6.length : Int) == 0)) else (some false))) else (some false)) else ((paviorref01_Cut.f k x0 x1).bind fun t155 => (if x7.isNone = true then (paviorlaw01_WordCuts.j1 k x5 x6 t155 ((x6.length : Int) != (t155.length : Int))) else (paviorlaw01_WordCuts.j1 k x5 x6 t155 true)))
def paviorlaw01_WordCuts.j1 : Nat → Bool → List (S39) → List (S39) → Bool → Option (Bool)
  | 0, _, _, _, _ => none
  | k + 1, x5, x6, x8, x50 => if x50 = true then (some false) else (paviorlaw01_WordCuts.l0 k x5 x6 x8 0)
def paviorlaw01_WordCuts.l0 : Nat → Bool → List (S39) → List (S39) → Int → Option (Bool)
  | 0, _, _, _, _ => none
  | k + 1, x5, x6, x8, x9 => if x9 < (x6.length : Int) then (if 0 ≤ x9 then (if x9 < (x8.length : Int) then (if (!(((rd_T39 x6 x9).f0) == ((rd_T39 x8 x9).f0)) || (!(((rd_T39 x6 x9).f1) == ((rd_T39 x8 x9).f1)))) = true then (some false) else (paviorlaw01_WordCuts.l0 k x5 x6 x8 (wrap64 (x9 + 1)))) else (none)) else (none)) else (some x5)
end
def paviorlaw01_WordCuts.f (k : Nat) (a0 : Int) (a1 : Int) : Option (Bool) := (paviorlaw01_up.f k).bind fun t149 => ((word_Cut.f k a0 a1).bind fun bt150 => (if a0 < 0 then (paviorlaw01_WordCuts.j0 k a0 a1 t149 bt150.1 bt150.2 true) else (if a1 < a0 then (paviorlaw01_WordCuts.j0 k a0 a1 t149 bt150.1 bt150.2 true) else (paviorlaw01_WordCuts.j0 k a0 a1 t149 bt150.1 bt150.2 (decide (a1 > 1048576))))))
theorem paviorlaw01_WordCuts.mono_l : ∀ k, (∀ y0 y1 y2 y3 y4 y5, LeO (paviorlaw01_WordCuts.j0 k y0 y1 y2 y3 y4 y5) (paviorlaw01_WordCuts.j0 (k + 1) y0 y1 y2 y3 y4 y5)) ∧ (∀ y0 y1 y2 y3, LeO (paviorlaw01_WordCuts.j1 k y0 y1 y2 y3) (paviorlaw01_WordCuts.j1 (k + 1) y0 y1 y2 y3)) ∧ (∀ y0 y1 y2 y3, LeO (paviorlaw01_WordCuts.l0 k y0 y1 y2 y3) (paviorlaw01_WordCuts.l0 (k + 1) y0 y1 y2 y3))
  | 0 => ⟨fun _ _ _ _ _ _ r h => by simp [paviorlaw01_WordCuts.j0] at h, fun _ _ _ _ r h => by simp [paviorlaw01_WordCuts.j1] at h, fun _ _ _ _ r h => by simp [paviorlaw01_WordCuts.l0] at h⟩
  | k + 1 => by
    obtain ⟨ih0, ih1, ih2⟩ := paviorlaw01_WordCuts.mono_l k
    refine ⟨?_, ?_, ?_⟩
    · intro y0 y1 y2 y3 y4 y5
      unfold paviorlaw01_WordCuts.j0
      repeat' first
      | (with_reducible exact ih0 _ _ _ _ _ _)
      | (with_reducible exact ih1 _ _ _ _)
      | (with_reducible exact ih2 _ _ _ _)
      | (with_reducible exact paviorlaw01_up.mono _)
      | (with_reducible exact paviorref01_Cut.mono _ _ _)
      | (with_reducible exact word_Cut.mono _ _ _)
      | (with_reducible exact LeO.refl _)
      | (with_reducible exact LeO.none _)
      | (with_reducible refine LeO.ite ?_ ?_)
      | (with_reducible refine LeO.bind ?_ (fun _ => ?_))
      | exact ih0 _ _ _ _ _ _
      | exact ih1 _ _ _ _
      | exact ih2 _ _ _ _
      | exact paviorlaw01_up.mono _
      | exact paviorref01_Cut.mono _ _ _
      | exact word_Cut.mono _ _ _
      | exact LeO.none _
      | refine LeO.ite ?_ ?_
      | refine LeO.bind ?_ (fun _ => ?_)
    · intro y0 y1 y2 y3
      unfold paviorlaw01_WordCuts.j1
      repeat' first
      | (with_reducible exact ih0 _ _ _ _ _ _)
      | (with_reducible exact ih1 _ _ _ _)
      | (with_reducible exact ih2 _ _ _ _)
      | (with_reducible exact paviorlaw01_up.mono _)
      | (with_reducible exact paviorref01_Cut.mono _ _ _)
      | (with_reducible exact word_Cut.mono _ _ _)
      | (with_reducible exact LeO.refl _)
      | (with_reducible exact LeO.none _)
      | (with_reducible refine LeO.ite ?_ ?_)
      | (with_reducible refine LeO.bind ?_ (fun _ => ?_))
      | exact ih0 _ _ _ _ _ _
      | exact ih1 _ _ _ _
      | exact ih2 _ _ _ _
      | exact paviorlaw01_up.mono _
      | exact paviorref01_Cut.mono _ _ _
      | exact word_Cut.mono _ _ _
      | exact LeO.none _
      | refine LeO.ite ?_ ?_
      | refine LeO.bind ?_ (fun _ => ?_)
    · intro y0 y1 y2 y3
      unfold paviorlaw01_WordCuts.l0
      repeat' first
      | (with_reducible exact ih0 _ _ _ _ _ _)
      | (with_reducible exact ih1 _ _ _ _)
      | (with_reducible exact ih2 _ _ _ _)
      | (with_reducible exact paviorlaw01_up.mono _)
      | (with_reducible exact paviorref01_Cut.mono _ _ _)
      | (with_reducible exact word_Cut.mono _ _ _)
      | (with_reducible exact LeO.refl _)
      | (with_reducible exact LeO.none _)
      | (with_reducible refine LeO.ite ?_ ?_)
      | (with_reducible refine LeO.bind ?_ (fun _ => ?_))
      | exact ih0 _ _ _ _ _ _
      | exact ih1 _ _ _ _
      | exact ih2 _ _ _ _
      | exact paviorlaw01_up.mono _
      | exact paviorref01_Cut.mono _ _ _
      | exact word_Cut.mono _ _ _
      | exact LeO.none _
      | refine LeO.ite ?_ ?_
      | refine LeO.bind ?_ (fun _ => ?_)
theorem paviorlaw01_WordCuts.mono : ∀ a0 a1 k, LeO (paviorlaw01_WordCuts.f k a0 a1) (paviorlaw01_WordCuts.f (k + 1) a0 a1) := by
  intro a0 a1 k
  obtain ⟨ih0, ih1, ih2⟩ := paviorlaw01_WordCuts.mono_l k
  unfold paviorlaw01_WordCuts.f
  repeat' first
      | (with_reducible exact ih0 _ _ _ _ _ _)
      | (with_reducible exact ih1 _ _ _ _)
      | (with_reducible exact ih2 _ _ _ _)
      | (with_reducible exact paviorlaw01_up.mono _)
      | (with_reducible exact paviorref01_Cut.mono _ _ _)
      | (with_reducible exact word_Cut.mono _ _ _)
      | (with_reducible exact LeO.refl _)
      | (with_reducible exact LeO.none _)
      | (with_reducible refine LeO.ite ?_ ?_)
      | (with_reducible refine LeO.bind ?_ (fun _ => ?_))
      | exact ih0 _ _ _ _ _ _
      | exact ih1 _ _ _ _
      | exact ih2 _ _ _ _
      | exact paviorlaw01_up.mono _
      | exact paviorref01_Cut.mono _ _ _
      | exact word_Cut.mono _ _ _
      | exact LeO.none _
      | refine LeO.ite ?_ ?_
      | refine LeO.bind ?_ (fun _ => ?_)
set_option maxHeartbeats 8000000 in
set_option maxRecDepth 100000 in
theorem paviorlaw01_WordCuts.calls (k : Nat) (a0 : Int) (a1 : Int) (r : Bool) (w : World) (hT : Tab w) (h : paviorlaw01_WordCuts.f k a0 a1 = some r) :
    Calls Tryd.prog 4 #[.int .i64 a0, .int .i64 a1] w fun e w' => e = .returned (.bool r) ∧ Below w.heap.size w w' := by
  have hu39 := Tryd.underlying39
  have hu25 := Tryd.underlying25
  have hu30 := Tryd.underlying30
  have HB := Aside0.mk (Below.refl w.heap.size w)
  have hTB := Aside0.mk hT
  clear hT
  have H : ((paviorlaw01_up.f k).bind fun t149 => ((word_Cut.f k a0 a1).bind fun bt150 => (if a0 < 0 then (paviorlaw01_WordCuts.j0 k a0 a1 t149 bt150.1 bt150.2 true) else (if a1 < a0 then (paviorlaw01_WordCuts.j0 k a0 a1 t149 bt150.1 bt150.2 true) else (paviorlaw01_WordCuts.j0 k a0 a1 t149 bt150.1 bt150.2 (decide (a1 > 1048576))))))) = some r := h
  clear h
  replace H := Option.bind_eq_some_iff.mp H
  obtain ⟨t149, A30, H⟩ := H
  replace H : ((word_Cut.f k a0 a1).bind fun bt150 => (if a0 < 0 then (paviorlaw01_WordCuts.j0 k a0 a1 t149 bt150.1 bt150.2 true) else (if a1 < a0 then (paviorlaw01_WordCuts.j0 k a0 a1 t149 bt150.1 bt150.2 true) else (paviorlaw01_WordCuts.j0 k a0 a1 t149 bt150.1 bt150.2 (decide (a1 > 1048576)))))) = some r := H
  have A3 := Aside0.mk A30
  clear A30
  replace H := Option.bind_eq_some_iff.mp H
  obtain ⟨⟨t150, t151⟩, A40, H⟩ := H
  replace H : (if a0 < 0 then (paviorlaw01_WordCuts.j0 k a0 a1 t149 t150 t151 true) else (if a1 < a0 then (paviorlaw01_WordCuts.j0 k a0 a1 t149 t150 t151 true) else (paviorlaw01_WordCuts.j0 k a0 a1 t149 t150 t151 (decide (a1 > 1048576))))) = some r := H
  have A4 := Aside0.mk A40
  clear A40
  have HC5 := Aside0.mk H
  clear H
  go_enter Tryd.func4, Tryd.ntmps4
  go_upto_region 3 with (first | (go_at_call 11; (with_reducible refine (paviorlaw01_up.calls k  t149 _ ?side1 A3.out).mono ?_); (case side1 => exact tab_below hTB.out (by repeat (first | (with_reducible first | exact HB.out | apply below_alloc | apply pw_below_drewN | apply below_drew1) | exact HB.out))); rintro e w6 ⟨rfl, hb⟩; have n0_ := Aside0.mk (below_step (by repeat (first | (with_reducible first | exact HB.out | apply below_alloc | apply pw_below_drewN | apply below_drew1) | exact HB.out)) hb); clear HB; have HB := n0_; clear n0_; (try clear hb); (try clear hb2); (try clear hk); (try clear hi)) | (go_at_call 18; (with_reducible refine (word_Cut.calls k a0 a1 t150 t151 _ ?side1 A4.out).mono ?_); (case side1 => exact tab_below hTB.out (by repeat (first | (with_reducible first | exact HB.out | apply below_alloc | apply pw_below_drewN | apply below_drew1) | exact HB.out))); rintro e w7 ⟨v152, rfl, ho0, hb⟩; have n0_ := Aside0.mk (Kd.R_lower ho0 (below_size (by repeat (first | (with_reducible first | exact HB.out | apply below_alloc | apply pw_below_drewN | apply below_drew1) | exact HB.out)))); have n1_ := Aside0.mk (below_step (by repeat (first | (with_reducible first | exact HB.out | apply below_alloc | apply pw_below_drewN | apply below_drew1) | exact HB.out)) hb); clear HB; have HO153 := n0_; have HB := n1_; clear n0_ n1_; (try clear hb); (try clear hb2); (try clear hk); (try clear hi); (try clear ho0); (try simp only [errW_none, errW_some])))
  repeat (go_quiet (first | (go_at_call 11; (with_reducible refine (paviorlaw01_up.calls k  t149 _ ?side1 A3.out).mono ?_); (case side1 => exact tab_below hTB.out (by repeat (first | (with_reducible first | exact HB.out | apply below_alloc | apply pw_below_drewN | apply below_drew1) | exact HB.out))); rintro e w6 ⟨rfl, hb⟩; have n0_ := Aside0.mk (below_step (by repeat (first | (with_reducible first | exact HB.out | apply below_alloc | apply pw_below_drewN | apply below_drew1) | exact HB.out)) hb); clear HB; have HB := n0_; clear n0_; (try clear hb); (try clear hb2); (try clear hk); (try clear hi)) | (go_at_call 18; (with_reducible refine (word_Cut.calls k a0 a1 t150 t151 _ ?side1 A4.out).mono ?_); (case side1 => exact tab_below hTB.out (by repeat (first | (with_reducible first | exact HB.out | apply below_alloc | apply pw_below_drewN | apply below_drew1) | exact HB.out))); rintro e w7 ⟨v152, rfl, ho0, hb⟩; have n0_ := Aside0.mk (Kd.R_lower ho0 (below_size (by repeat (first | (with_reducible first | exact HB.out | apply below_alloc | apply pw_below_drewN | apply below_drew1) | exact HB.out)))); have n1_ := Aside0.mk (below_step (by repeat (first | (with_reducible first | exact HB.out | apply below_alloc | apply pw_below_drewN | apply below_drew1) | exact HB.out)) hb); clear HB; have HO153 := n0_; have HB := n1_; clear n0_ n1_; (try clear hb); (try clear hb2); (try clear hk); (try clear hi); (try clear ho0); (try simp only [errW_none, errW_some]))); go_upto_region 3 with (first | (go_at_call 11; (with_reducible refine (paviorlaw01_up.calls k  t149 _ ?side1 A3.out).mono ?_); (case side1 => exact tab_below hTB.out (by repeat (first | (with_reducible first | exact HB.out | apply below_alloc | apply pw_below_drewN | apply below_drew1) | exact HB.out))); rintro e w6 ⟨rfl, hb⟩; have n0_ := Aside0.mk (below_step (by repeat (first | (with_reducible first | exact HB.out | apply below_alloc | apply pw_below_drewN | apply below_drew1) | exact HB.out)) hb); clear HB; have HB := n0_; clear n0_; (try clear hb); (try clear hb2); (try clear hk); (try clear hi)) | (go_at_call 18; (with_reducible refine (word_Cut.calls k a0 a1 t150 t151 _ ?side1 A4.out).mono ?_); (case side1 => exact tab_below hTB.out (by repeat (first | (with_reducible first | exact HB.out | apply below_alloc | apply pw_below_drewN | apply below_drew1) | exact HB.out))); rintro e w7 ⟨v152, rfl, ho0, hb⟩; have n0_ := Aside0.mk (Kd.R_lower ho0 (below_size (by repeat (first | (with_reducible first | exact HB.out | apply below_alloc | apply pw_below_drewN | apply below_drew1) | exact HB.out)))); have n1_ := Aside0.mk (below_step (by repeat (first | (with_reducible first | exact HB.out | apply below_alloc | apply pw_below_drewN | apply below_drew1) | exact HB.out)) hb); clear HB; have HO153 := n0_; have HB := n1_; clear n0_ n1_; (try clear hb); (try clear hb2); (try clear hk); (try clear hi); (try clear ho0); (try simp only [errW_none, errW_some]))))
  (try simp only [Act.put, List.setIfInBounds_toArray, List.set_cons_zero, List.set_cons_succ])
  go_cut [27] (fun v27 wc => ∃ (kq : Nat) (x27_4 : Bool), v27 = .bool x27_4 ∧ Aside0 (paviorlaw01_WordCuts.j0 kq a0 a1 t149 t150 t151 x27_4 = some r) ∧ Aside0 (kq ≤ k) ∧ Aside0 (Kd.R k39 39 wc w.heap.size (fun _ => True) v152 t150) ∧ Aside0 (Below w.heap.size w wc))
  case first =>
    have H := HC5.out
    clear HC5
    by_cases c8 : a0 < 0
    · rw [if_pos c8] at H
      have c8b0 : decide (a0 < 0) = true := decide_eq_true c8
      clear c8
      (first | rw [c8b0] | (simp only [i64_w, i32_w]; rw [c8b0]) | skip)
      have H' := Aside0.mk H
      clear H
      go_wp2
      repeat (go_quiet (fail); try go_wp2)
      go_meet
      case rel => exact ⟨_, (true), (by first | rfl | (simp; done) | (simp [*]; done)), H', ⟨by first | omega | exact Nat.le_refl _⟩, ⟨by (with_reducible repeat (first | apply Kd.R_alloc | apply Kd.R_drewN | apply Kd.R_drew)); exact HO153.out⟩, ⟨by repeat (first | (with_reducible first | exact HB.out | apply below_alloc | apply pw_below_drewN | apply below_drew1) | exact HB.out)⟩⟩
    · rw [if_neg c8] at H
      have c8b0 : decide (a0 < 0) = false := decide_eq_false c8
      clear c8
      (first | rw [c8b0] | (simp only [i64_w, i32_w]; rw [c8b0]) | skip)
      by_cases c9 : a1 < a0
      · rw [if_pos c9] at H
        have c9b0 : decide (a1 < a0) = true := decide_eq_true c9
        clear c9
        have H' := Aside0.mk H
        clear H
        go_wp2
        repeat (go_quiet (fail); try go_wp2)
        go_meet
        case rel => exact ⟨_, (true), (by first | rfl | (simp; done) | (simp [*]; done)), H', ⟨by first | omega | exact Nat.le_refl _⟩, ⟨by (with_reducible repeat (first | apply Kd.R_alloc | apply Kd.R_drewN | apply Kd.R_drew)); exact HO153.out⟩, ⟨by repeat (first | (with_reducible first | exact HB.out | apply below_alloc | apply pw_below_drewN | apply below_drew1) | exact HB.out)⟩⟩
      · rw [if_neg c9] at H
        have c9b0 : decide (a1 < a0) = false := decide_eq_false c9
        clear c9
        have H' := Aside0.mk H
        clear H
        go_wp2
        repeat (go_quiet (fail); try go_wp2)
        go_meet
        case rel => exact ⟨_, (decide (a1 > 1048576)), (by first | rfl | (simp; done) | (simp [*]; done)), H', ⟨by first | omega | exact Nat.le_refl _⟩, ⟨by (with_reducible repeat (first | apply Kd.R_alloc | apply Kd.R_drewN | apply Kd.R_drew)); exact HO153.out⟩, ⟨by repeat (first | (with_reducible first | exact HB.out | apply below_alloc | apply pw_below_drewN | apply below_drew1) | exact HB.out)⟩⟩
  case rest =>
    clear HC5
    try clear p2
    try clear c4
    try clear c8
    try clear c8b0
    try clear c9
    try clear c9b0
    obtain ⟨kq, x27_4, rfl, HA, HJ4, HO_6, HB⟩ := hcut
    cases kq with
    | zero => exact absurd HA.out (by simp [paviorlaw01_WordCuts.j0])
    | succ kj4 =>
      have H := HA.out
      clear HA
      simp only [paviorlaw01_WordCuts.j0] at H
      by_cases c10 : x27_4 = true
      · subst c10
        have H1 : (if t149 = true then (if t151.isNone = true then (some false) else (if (t151.getD 0) = 1 then (some ((t150.length : Int) == 0)) else (some false))) else (some false)) = some r := by rw [if_pos rfl] at H; exact H
        clear H
        have H := H1
        clear H1
        by_cases c11 : t149 = true
        · subst c11
          have H1 : (if t151.isNone = true then (some false) else (if (t151.getD 0) = 1 then (some ((t150.length : Int) == 0)) else (some false))) = some r := by rw [if_pos rfl] at H; exact H
          clear H
          have H := H1
          clear H1
          rcases t151 with _ | q154
          · have H1 : (some false) = some r := by rw [if_pos (show (none : Option Int).isNone = true by rfl)] at H; exact H
            clear H
            have H := H1
            clear H1
            try simp only [errW_none, errW_some]
            obtain rfl := Option.some.inj H
            go_wp2
            repeat (go_quiet (fail); try go_wp2)
            go_ret
            exact ⟨by first | rfl | (simp [errW_none, errW_some] <;> rfl) | (simp [*, errW_none, errW_some] <;> rfl), by repeat (first | (with_reducible first | exact HB.out | apply below_alloc | apply pw_below_drewN | apply below_drew1) | exact HB.out)⟩
          · have H1 : (if q154 = 1 then (some ((t150.length : Int) == 0)) else (some false)) = some r := by rw [if_neg (show ¬ (some q154).isNone = true by simp)] at H; exact H
            clear H
            have H := H1
            clear H1
            try simp only [errW_none, errW_some]
            by_cases c12 : q154 = 1
            · rw [if_pos c12] at H
              have c12b0 : (q154 == 1) = true := beq_iff_eq.mpr c12
              have c12b1 : (q154 != 1) = false := bne_eq_false_iff_eq.mpr c12
              clear c12
              obtain rfl := Option.some.inj H
              obtain ⟨Ao13, co13, eo13⟩ := Kd.R_slice HO_6.out
              subst eo13
              go_wp2
              repeat (go_quiet (fail); try go_wp2)
              go_ret
              exact ⟨by first | rfl | (simp [errW_none, errW_some] <;> rfl) | (simp [*, errW_none, errW_some] <;> rfl), by repeat (first | (with_reducible first | exact HB.out | apply below_alloc | apply pw_below_drewN | apply below_drew1) | exact HB.out)⟩
            · rw [if_neg c12] at H
              have c12b0 : (q154 == 1) = false := beq_eq_false_iff_ne.mpr c12
              have c12b1 : (q154 != 1) = true := bne_iff_ne.mpr c12
              obtain rfl := Option.some.inj H
              go_wp2
              repeat (go_quiet (fail); try go_wp2)
              go_ret
              exact ⟨by first | rfl | (simp [errW_none, errW_some] <;> rfl) | (simp [*, errW_none, errW_some] <;> rfl), by repeat (first | (with_reducible first | exact HB.out | apply below_alloc | apply pw_below_drewN | apply below_drew1) | exact HB.out)⟩
        · replace c11 := Bool.eq_false_iff.mpr c11
          subst c11
          have H1 : (some false) = some r := by rw [if_neg (show ¬ (false = true) by decide)] at H; exact H
          clear H
          have H := H1
          clear H1
          obtain rfl := Option.some.inj H
          go_wp2
          repeat (go_quiet (fail); try go_wp2)
          go_ret
          exact ⟨by first | rfl | (simp [errW_none, errW_some] <;> rfl) | (simp [*, errW_none, errW_some] <;> rfl), by repeat (first | (with_reducible first | exact HB.out | apply below_alloc | apply pw_below_drewN | apply below_drew1) | exact HB.out)⟩
      · replace c10 := Bool.eq_false_iff.mpr c10
        subst c10
        have H1 : ((paviorref01_Cut.f kj4 a0 a1).bind fun t155 => (if t151.isNone = true then (paviorlaw01_WordCuts.j1 kj4 t149 t150 t155 ((t150.length : Int) != (t155.length : Int))) else (paviorlaw01_WordCuts.j1 kj4 t149 t150 t155 true))) = some r := by rw [if_neg (show ¬ (false = true) by decide)] at H; exact H
        clear H
        have H := H1
        clear H1
        replace H := Option.bind_eq_some_iff.mp H
        obtain ⟨t155, A140, H⟩ := H
        replace H : (if t151.isNone = true then (paviorlaw01_WordCuts.j1 kj4 t149 t150 t155 ((t150.length : Int) != (t155.length : Int))) else (paviorlaw01_WordCuts.j1 kj4 t149 t150 t155 true)) = some r := H
        have A14 := Aside0.mk A140
        clear A140
        have HC15 := Aside0.mk H
        clear H
        go_upto_region 6 with (first | (go_at_call 19; (with_reducible refine (paviorref01_Cut.calls kj4 a0 a1 t155 _ A14.out).mono ?_); rintro e w16 ⟨v156, rfl, ho0, hb⟩; have n0_ := Aside0.mk (Kd.R_elder' (by (with_reducible repeat (first | apply Kd.R_alloc | apply Kd.R_drewN | apply Kd.R_drew)); exact HO_6.out) (Kd.R_base ho0) hb); have n1_ := Aside0.mk (Kd.R_lower (Kd.R_new' ho0 (Kd.R_lt (by (with_reducible repeat (first | apply Kd.R_alloc | apply Kd.R_drewN | apply Kd.R_drew)); exact HO_6.out))) (below_size (by repeat (first | (with_reducible first | exact HB.out | apply below_alloc | apply pw_below_drewN | apply below_drew1) | exact HB.out)))); have n2_ := Aside0.mk (below_step (by repeat (first | (with_reducible first | exact HB.out | apply below_alloc | apply pw_below_drewN | apply below_drew1) | exact HB.out)) hb); clear HO_6; clear HB; have HO_6 := n0_; have HO157 := n1_; have HB := n2_; clear n0_ n1_ n2_; (try clear hb); (try clear hb2); (try clear hk); (try clear hi); (try clear ho0)))
        repeat (go_quiet (first | (go_at_call 19; (with_reducible refine (paviorref01_Cut.calls kj4 a0 a1 t155 _ A14.out).mono ?_); rintro e w16 ⟨v156, rfl, ho0, hb⟩; have n0_ := Aside0.mk (Kd.R_elder' (by (with_reducible repeat (first | apply Kd.R_alloc | apply Kd.R_drewN | apply Kd.R_drew)); exact HO_6.out) (Kd.R_base ho0) hb); have n1_ := Aside0.mk (Kd.R_lower (Kd.R_new' ho0 (Kd.R_lt (by (with_reducible repeat (first | apply Kd.R_alloc | apply Kd.R_drewN | apply Kd.R_drew)); exact HO_6.out))) (below_size (by repeat (first | (with_reducible first | exact HB.out | apply below_alloc | apply pw_below_drewN | apply below_drew1) | exact HB.out)))); have n2_ := Aside0.mk (below_step (by repeat (first | (with_reducible first | exact HB.out | apply below_alloc | apply pw_below_drewN | apply below_drew1) | exact HB.out)) hb); clear HO_6; clear HB; have HO_6 := n0_; have HO157 := n1_; have HB := n2_; clear n0_ n1_ n2_; (try clear hb); (try clear hb2); (try clear hk); (try clear hi); (try clear ho0))); go_upto_region 6 with (first | (go_at_call 19; (with_reducible refine (paviorref01_Cut.calls kj4 a0 a1 t155 _ A14.out).mono ?_); rintro e w16 ⟨v156, rfl, ho0, hb⟩; have n0_ := Aside0.mk (Kd.R_elder' (by (with_reducible repeat (first | apply Kd.R_alloc | apply Kd.R_drewN | apply Kd.R_drew)); exact HO_6.out) (Kd.R_base ho0) hb); have n1_ := Aside0.mk (Kd.R_lower (Kd.R_new' ho0 (Kd.R_lt (by (with_reducible repeat (first | apply Kd.R_alloc | apply Kd.R_drewN | apply Kd.R_drew)); exact HO_6.out))) (below_size (by repeat (first | (with_reducible first | exact HB.out | apply below_alloc | apply pw_below_drewN | apply below_drew1) | exact HB.out)))); have n2_ := Aside0.mk (below_step (by repeat (first | (with_reducible first | exact HB.out | apply below_alloc | apply pw_below_drewN | apply below_drew1) | exact HB.out)) hb); clear HO_6; clear HB; have HO_6 := n0_; have HO157 := n1_; have HB := n2_; clear n0_ n1_ n2_; (try clear hb); (try clear hb2); (try clear hk); (try clear hi); (try clear ho0))))
        (try simp only [Act.put, List.setIfInBounds_toArray, List.set_cons_zero, List.set_cons_succ])
        go_cut [50] (fun v50 wc => ∃ (kq : Nat) (x50_14 : Bool), v50 = .bool x50_14 ∧ Aside0 (paviorlaw01_WordCuts.j1 kq t149 t150 t155 x50_14 = some r) ∧ Aside0 (kq ≤ kj4) ∧ Aside0 (Kd.R k39 39 wc w.heap.size (fun k_ => some k_ ≠ (v156 : Value).ownBlock) v152 t150) ∧ Aside0 (Kd.R k39 39 wc w.heap.size (fun k_ => some k_ ≠ (v152 : Value).ownBlock) v156 t155) ∧ Aside0 (Below w.heap.size w wc))
        case first =>
          have H := HC15.out
          clear HC15
          rcases t151 with _ | q158
          · have H1 : (paviorlaw01_WordCuts.j1 kj4 t149 t150 t155 ((t150.length : Int) != (t155.length : Int))) = some r := by rw [if_pos (show (none : Option Int).isNone = true by rfl)] at H; exact H
            clear H
            have H := H1
            clear H1
            try simp only [errW_none, errW_some]
            have H' := Aside0.mk H
            clear H
            obtain ⟨Ao17, co17, eo17⟩ := Kd.R_slice HO_6.out
            subst eo17
            obtain ⟨Ao18, co18, eo18⟩ := Kd.R_slice HO157.out
            subst eo18
            go_wp2
            repeat (go_quiet (fail); try go_wp2)
            go_meet
            case rel => exact ⟨_, (((t150.length : Int) != (t155.length : Int))), (by first | rfl | (simp; done) | (simp [*]; done)), H', ⟨by have := HJ4.out; first | omega | exact Nat.le_refl _⟩, ⟨by (with_reducible repeat (first | apply Kd.R_alloc | apply Kd.R_drewN | apply Kd.R_drew)); exact Kd.R_mono HO_6.out (fun _ hk => hk.2)⟩, ⟨by (with_reducible repeat (first | apply Kd.R_alloc | apply Kd.R_drewN | apply Kd.R_drew)); exact Kd.R_mono HO157.out (fun _ hk => hk.2)⟩, ⟨by repeat (first | (with_reducible first | exact HB.out | apply below_alloc | apply pw_below_drewN | apply below_drew1) | exact HB.out)⟩⟩
          · have H1 : (paviorlaw01_WordCuts.j1 kj4 t149 t150 t155 true) = some r := by rw [if_neg (show ¬ (some q158).isNone = true by simp)] at H; exact H
            clear H
            have H := H1
            clear H1
            try simp only [errW_none, errW_some]
            have H' := Aside0.mk H
            clear H
            go_wp2
            repeat (go_quiet (fail); try go_wp2)
            go_meet
            case rel => exact ⟨_, (true), (by first | rfl | (simp; done) | (simp [*]; done)), H', ⟨by have := HJ4.out; first | omega | exact Nat.le_refl _⟩, ⟨by (with_reducible repeat (first | apply Kd.R_alloc | apply Kd.R_drewN | apply Kd.R_drew)); exact Kd.R_mono HO_6.out (fun _ hk => hk.2)⟩, ⟨by (with_reducible repeat (first | apply Kd.R_alloc | apply Kd.R_drewN | apply Kd.R_drew)); exact Kd.R_mono HO157.out (fun _ hk => hk.2)⟩, ⟨by repeat (first | (with_reducible first | exact HB.out | apply below_alloc | apply pw_below_drewN | apply below_drew1) | exact HB.out)⟩⟩
        case rest =>
          clear HC15
          try clear c1
          try clear q1
          try clear p2
          try clear c4
          try clear c8
          try clear c8b0
          try clear c9
          try clear c9b0
          try clear c10
          try clear c11
          try clear c12
          try clear c12b0
          try clear c12b1
          try clear q15
          try clear p2
          try clear q154
          try clear q158
          obtain ⟨kq, x50_14, rfl, HA, HJ14, HO_6, HO_8, HB⟩ := hcut
          cases kq with
          | zero => exact absurd HA.out (by simp [paviorlaw01_WordCuts.j1])
          | succ kj14 =>
            have H := HA.out
            clear HA
            simp only [paviorlaw01_WordCuts.j1] at H
            by_cases c19 : x50_14 = true
            · subst c19
              have H1 : (some false) = some r := by rw [if_pos rfl] at H; exact H
              clear H
              have H := H1
              clear H1
              obtain rfl := Option.some.inj H
              go_wp2
              repeat (go_quiet (fail); try go_wp2)
              go_ret
              exact ⟨by first | rfl | (simp [errW_none, errW_some] <;> rfl) | (simp [*, errW_none, errW_some] <;> rfl), by repeat (first | (with_reducible first | exact HB.out | apply below_alloc | apply pw_below_drewN | apply below_drew1) | exact HB.out)⟩
            · replace c19 := Bool.eq_false_iff.mpr c19
              subst c19
              have H1 : (paviorlaw01_WordCuts.l0 kj14 t149 t150 t155 0) = some r := by rw [if_neg (show ¬ (false = true) by decide)] at H; exact H
              clear H
              have H := H1
              clear H1
              have H' := Aside0.mk H
              clear H
              go_wp2
              repeat (go_quiet (fail); try go_wp2)
              go_loopg [9] kj14 (fun kq v9 w' => ∃ (x9_3 : Int), v9 = .int .i64 x9_3 ∧ Aside0 (paviorlaw01_WordCuts.l0 kq t149 t150 t155 x9_3 = some r) ∧ Aside0 (kq ≤ kj14) ∧ Aside0 (Kd.R k39 39 w' w.heap.size (fun k_ => some k_ ≠ (v156 : Value).ownBlock) v152 t150) ∧ Aside0 (Kd.R k39 39 w' w.heap.size (fun k_ => some k_ ≠ (v152 : Value).ownBlock) v156 t155) ∧ Aside0 (Below w.heap.size w w'))
              case atStart => exact ⟨(0), (by first | rfl | (simp; done) | (simp [*]; done)), H', ⟨Nat.le_refl _⟩, ⟨by (with_reducible repeat (first | apply Kd.R_alloc | apply Kd.R_drewN | apply Kd.R_drew)); exact HO_6.out⟩, ⟨by (with_reducible repeat (first | apply Kd.R_alloc | apply Kd.R_drewN | apply Kd.R_drew)); exact HO_8.out⟩, ⟨by repeat (first | (with_reducible first | exact HB.out | apply below_alloc | apply pw_below_drewN | apply below_drew1) | exact HB.out)⟩⟩
              case round =>
                clear H'
                try clear c1
                try clear q1
                try clear p2
                try clear c4
                try clear c8
                try clear c8b0
                try clear c9
                try clear c9b0
                try clear c10
                try clear c11
                try clear c12
                try clear c12b0
                try clear c12b1
                try clear q15
                try clear c19
                try clear p2
                try clear q1
                try clear q15
                try clear q154
                try clear q158
                obtain ⟨x9_3, rfl, HA, HK3, HO_6, HO_8, HB⟩ := hrel
                cases gk with
                | zero => exact absurd HA.out (by simp [paviorlaw01_WordCuts.l0])
                | succ k3 =>
                  have H := HA.out
                  clear HA
                  simp only [paviorlaw01_WordCuts.l0] at H
                  by_cases c20 : x9_3 < (t150.length : Int)
                  · rw [if_pos c20] at H
                    have c20b0 : decide (x9_3 < (t150.length : Int)) = true := decide_eq_true c20
                    clear c20
                    by_cases c21 : 0 ≤ x9_3
                    · rw [if_pos c21] at H
                      have c21b0 : decide (0 ≤ x9_3) = true := decide_eq_true c21
                      clear c21
                      by_cases c22 : x9_3 < (t155.length : Int)
                      · rw [if_pos c22] at H
                        have c22b0 : decide (x9_3 < (t155.length : Int)) = true := decide_eq_true c22
                        clear c22
                        by_cases c23 : (!(((rd_T39 t150 x9_3).f0) == ((rd_T39 t155 x9_3).f0)) || (!(((rd_T39 t150 x9_3).f1) == ((rd_T39 t155 x9_3).f1)))) = true
                        · rw [if_pos c23] at H
                          have c23b0 : (!(((rd_T39 t150 x9_3).f0) == ((rd_T39 t155 x9_3).f0)) || (!(((rd_T39 t150 x9_3).f1) == ((rd_T39 t155 x9_3).f1)))) = true := c23
                          clear c23
                          obtain rfl := Option.some.inj H
                          obtain ⟨Ao24, co24, eo24⟩ := Kd.R_slice HO_6.out
                          subst eo24
                          have p159 : 0 ≤ (x9_3 : Int) := of_decide_eq_true (by first | (with_reducible assumption) | assumption)
                          have q159 : x9_3 < (t150.length : Int) := of_decide_eq_true (by first | (with_reducible assumption) | assumption)
                          obtain ⟨ad159, e159, hx159_0, hx159_1⟩ := at_T39 (Kd.R_reads' HO_6.out).2.2 x9_3 p159 q159
                          cases e159
                          replace p159 := eq_true p159
                          replace q159 := eq_true q159
                          obtain ⟨Ao25, co25, eo25⟩ := Kd.R_slice HO_8.out
                          subst eo25
                          have p160 : 0 ≤ (x9_3 : Int) := of_decide_eq_true (by first | (with_reducible assumption) | assumption)
                          have q160 : x9_3 < (t155.length : Int) := of_decide_eq_true (by first | (with_reducible assumption) | assumption)
                          obtain ⟨ad160, e160, hx160_0, hx160_1⟩ := at_T39 (Kd.R_reads' HO_8.out).2.2 x9_3 p160 q160
                          cases e160
                          replace p160 := eq_true p160
                          replace q160 := eq_true q160
                          go_wp2
                          repeat (go_quiet (fail); try go_wp2)
                          go_ret
                          exact ⟨by first | rfl | (simp [errW_none, errW_some] <;> rfl) | (simp [*, errW_none, errW_some] <;> rfl), by repeat (first | (with_reducible first | exact HB.out | apply below_alloc | apply pw_below_drewN | apply below_drew1) | exact HB.out)⟩
                        · rw [if_neg c23] at H
                          have c23b0 : (!(((rd_T39 t150 x9_3).f0) == ((rd_T39 t155 x9_3).f0)) || (!(((rd_T39 t150 x9_3).f1) == ((rd_T39 t155 x9_3).f1)))) = false := by simpa using c23
                          clear c23
                          have H' := Aside0.mk H
                          clear H
                          obtain ⟨Ao26, co26, eo26⟩ := Kd.R_slice HO_6.out
                          subst eo26
                          have p159 : 0 ≤ (x9_3 : Int) := of_decide_eq_true (by first | (with_reducible assumption) | assumption)
                          have q159 : x9_3 < (t150.length : Int) := of_decide_eq_true (by first | (with_reducible assumption) | assumption)
                          obtain ⟨ad159, e159, hx159_0, hx159_1⟩ := at_T39 (Kd.R_reads' HO_6.out).2.2 x9_3 p159 q159
                          cases e159
                          replace p159 := eq_true p159
                          replace q159 := eq_true q159
                          obtain ⟨Ao27, co27, eo27⟩ := Kd.R_slice HO_8.out
                          subst eo27
                          have p160 : 0 ≤ (x9_3 : Int) := of_decide_eq_true (by first | (with_reducible assumption) | assumption)
                          have q160 : x9_3 < (t155.length : Int) := of_decide_eq_true (by first | (with_reducible assumption) | assumption)
                          obtain ⟨ad160, e160, hx160_0, hx160_1⟩ := at_T39 (Kd.R_reads' HO_8.out).2.2 x9_3 p160 q160
                          cases e160
                          replace p160 := eq_true p160
                          replace q160 := eq_true q160
                          go_wp2
                          repeat (go_quiet (fail); try go_wp2)
                          go_roundg k3
                          case measure => have := HJ4.out; have := HJ14.out; have := HK3.out; omega
                          case rel => exact ⟨(wrap64 (x9_3 + 1)), (by first | rfl | (simp; done) | (simp [*]; done)), H', ⟨by have := HJ4.out; have := HJ14.out; have := HK3.out; omega⟩, ⟨by (with_reducible repeat (first | apply Kd.R_alloc | apply Kd.R_drewN | apply Kd.R_drew)); exact HO_6.out⟩, ⟨by (with_reducible repeat (first | apply Kd.R_alloc | apply Kd.R_drewN | apply Kd.R_drew)); exact HO_8.out⟩, ⟨by repeat (first | (with_reducible first | exact HB.out | apply below_alloc | apply pw_below_drewN | apply below_drew1) | exact HB.out)⟩⟩
                      · rw [if_neg c22] at H
                        exact absurd H (by simp)
                    · rw [if_neg c21] at H
                      exact absurd H (by simp)
                  · rw [if_neg c20] at H
                    have c20b0 : decide (x9_3 < (t150.length : Int)) = false := decide_eq_false c20
                    clear c20
                    obtain rfl := Option.some.inj H
                    obtain ⟨Ao28, co28, eo28⟩ := Kd.R_slice HO_6.out
                    subst eo28
                    go_wp2
                    repeat (go_quiet (fail); try go_wp2)
                    go_ret
                    exact ⟨by first | rfl | (simp [errW_none, errW_some] <;> rfl) | (simp [*, errW_none, errW_some] <;> rfl), by repeat (first | (with_reducible first | exact HB.out | apply below_alloc | apply pw_below_drewN | apply below_drew1) | exact HB.out)⟩

/-- THE ONE PURE STATEMENT of paviorlaw01_WordCuts. -/
def paviorlaw01_WordCuts.Pure : Prop := ∀ (a0 : Int) (a1 : Int), (Lit.int .i64 a0).wf = true → (Lit.int .i64 a1).wf = true → ∃ k, paviorlaw01_WordCuts.f k a0 a1 = some true

end Go.Proofs.YtobbcfpkmmafnaaDoor.Q
