-- Written by this session's program wip/tools/xprint.py (the kit's printer, turned by it); not the kit's own print.
import Derived.Test.YtlmjjkggoemababQx0
namespace Go.Proofs.Ytlmjjkggoemabab.Q
open Go.RowKit Go.Proofs.YtlmjjkggoemababW.PrintWords Go.Proofs.YtlmjjkggoemababW.PrintLast Go.Proofs.YtlmjjkggoemababW.PrintMore
attribute [local go_sem] max2_int min2_int max_two min_two max_three min_three max_four min_four   -- for this text's walks alone
set_option linter.unusedVariables false
set_option linter.unusedSimpArgs false

attribute [local go_sem high] eqErr_some neErr_some eqErr_left neErr_left
/-! ### paviorref09_Change: function 28 -/
mutual
def paviorref09_Change.l0 : Nat → List (S40) → Int → Int → Bool → Bool → Int → Bool → Bool → Option (Bool × (List (S40)))
  | 0, _, _, _, _, _, _, _, _ => none
  | k + 1, x0, x1, x2, x3, x5, x13, x487000, x487001 => if x13 < x2 then (if 0 ≤ x13 then (if x13 < (x0.length : Int) then (if ((rd_T40 x0 x13).f0 = true) then (paviorref09_Change.l0 k x0 x1 x2 x3 x5 (wrap64 (x13 + 1)) x487000 x487001) else (some (false, x0))) else (none)) else (none)) else (paviorref09_Change.l1 k x0 x2 x3 x5 x1 x487000 x487001)
def paviorref09_Change.l1 : Nat → List (S40) → Int → Bool → Bool → Int → Bool → Bool → Option (Bool × (List (S40)))
  | 0, _, _, _, _, _, _, _ => none
  | k + 1, x0, x2, x3, x5, x14, x487000, x487001 => if x14 < x2 then (if x3 = true then (if 0 ≤ x14 then (if x14 < (x0.length : Int) then ((some (x0.set (x14 : Int).toNat (⟨(rd_T40 x0 x14).f0, x487000, (rd_T40 x0 x14).f2, (rd_T40 x0 x14).f3⟩ : S40) : List (S40))).bind fun y488 => (paviorref09_Change.l1 k (y488.set (x14 : Int).toNat (⟨(rd_T40 y488 x14).f0, (rd_T40 y488 x14).f1, x487001, (rd_T40 y488 x14).f3⟩ : S40)) x2 x3 x5 (wrap64 (x14 + 1)) x487000 x487001)) else (none)) else (none)) else (if 0 ≤ x14 then (if x14 < (x0.length : Int) then (paviorref09_Change.l1 k (x0.set (x14 : Int).toNat (⟨(rd_T40 x0 x14).f0, (rd_T40 x0 x14).f1, (rd_T40 x0 x14).f2, x5⟩ : S40)) x2 x3 x5 (wrap64 (x14 + 1)) x487000 x487001) else (none)) else (none))) else (some (true, x0))
end
def paviorref09_Change.f (k : Nat) (l0 : List (S40)) (a1 : Int) (a2 : Int) (a3 : Bool) (a4_0 : Bool) (a4_1 : Bool) (a5 : Bool) : Option (Bool × (List (S40))) := paviorref09_Change.l0 k l0 a1 a2 a3 a5 a1 a4_0 a4_1
theorem paviorref09_Change.mono_l : ∀ k, (∀ y0 y1 y2 y3 y4 y5 y6 y7, LeO (paviorref09_Change.l0 k y0 y1 y2 y3 y4 y5 y6 y7) (paviorref09_Change.l0 (k + 1) y0 y1 y2 y3 y4 y5 y6 y7)) ∧ (∀ y0 y1 y2 y3 y4 y5 y6, LeO (paviorref09_Change.l1 k y0 y1 y2 y3 y4 y5 y6) (paviorref09_Change.l1 (k + 1) y0 y1 y2 y3 y4 y5 y6))
  | 0 => ⟨fun _ _ _ _ _ _ _ _ r h => by simp [paviorref09_Change.l0] at h, fun _ _ _ _ _ _ _ r h => by simp [paviorref09_Change.l1] at h⟩
  | k + 1 => by
    obtain ⟨ih0, ih1⟩ := paviorref09_Change.mono_l k
    refine ⟨?_, ?_⟩
    · intro y0 y1 y2 y3 y4 y5 y6 y7
      unfold paviorref09_Change.l0
      repeat' first
      | (with_reducible exact ih0 _ _ _ _ _ _ _ _)
      | (with_reducible exact ih1 _ _ _ _ _ _ _)
      | (with_reducible exact LeO.refl _)
      | (with_reducible exact LeO.none _)
      | (with_reducible refine LeO.ite ?_ ?_)
      | (with_reducible refine LeO.bind ?_ (fun _ => ?_))
      | exact ih0 _ _ _ _ _ _ _ _
      | exact ih1 _ _ _ _ _ _ _
      | exact LeO.none _
      | refine LeO.ite ?_ ?_
      | refine LeO.bind ?_ (fun _ => ?_)
    · intro y0 y1 y2 y3 y4 y5 y6
      unfold paviorref09_Change.l1
      repeat' first
      | (with_reducible exact ih0 _ _ _ _ _ _ _ _)
      | (with_reducible exact ih1 _ _ _ _ _ _ _)
      | (with_reducible exact LeO.refl _)
      | (with_reducible exact LeO.none _)
      | (with_reducible refine LeO.ite ?_ ?_)
      | (with_reducible refine LeO.bind ?_ (fun _ => ?_))
      | exact ih0 _ _ _ _ _ _ _ _
      | exact ih1 _ _ _ _ _ _ _
      | exact LeO.none _
      | refine LeO.ite ?_ ?_
      | refine LeO.bind ?_ (fun _ => ?_)
theorem paviorref09_Change.mono : ∀ a0 a1 a2 a3 a4 a5 a6 k, LeO (paviorref09_Change.f k a0 a1 a2 a3 a4 a5 a6) (paviorref09_Change.f (k + 1) a0 a1 a2 a3 a4 a5 a6) := by
  intro a0 a1 a2 a3 a4 a5 a6 k
  obtain ⟨ih0, ih1⟩ := paviorref09_Change.mono_l k
  unfold paviorref09_Change.f
  repeat' first
      | (with_reducible exact ih0 _ _ _ _ _ _ _ _)
      | (with_reducible exact ih1 _ _ _ _ _ _ _)
      | (with_reducible exact LeO.refl _)
      | (with_reducible exact LeO.none _)
      | (with_reducible refine LeO.ite ?_ ?_)
      | (with_reducible refine LeO.bind ?_ (fun _ => ?_))
      | exact ih0 _ _ _ _ _ _ _ _
      | exact ih1 _ _ _ _ _ _ _
      | exact LeO.none _
      | refine LeO.ite ?_ ?_
      | refine LeO.bind ?_ (fun _ => ?_)
set_option maxHeartbeats 8000000 in
set_option maxRecDepth 100000 in
theorem paviorref09_Change.calls (k : Nat) (P0_ : Nat → Prop) (u9000_ : Value) (l0 : List (S40)) (a1 : Int) (a2 : Int) (a3 : Bool) (a4_0 : Bool) (a4_1 : Bool) (a5 : Bool) (r1 : Bool) (r2 : List (S40)) (w0 w : World) (hB : Below w0.heap.size w0 w) (ho0 : Kd.R k40 40 w w0.heap.size P0_ u9000_ l0) (h : paviorref09_Change.f k l0 a1 a2 a3 a4_0 a4_1 a5 = some (r1, r2)) :
    Calls Try.prog 28 #[u9000_, .int .i64 a1, .int .i64 a2, .bool a3, .agg #[.bool a4_0, .bool a4_1], .bool a5] w fun e w' => e = .returned (.bool r1) ∧ Kd.R k40 40 w' w0.heap.size (fun k_ => (P0_ k_ ∨ w.heap.size ≤ k_)) u9000_ r2 ∧ Below w0.heap.size w0 w' ∧ Kept w w' (fun k_ => P0_ k_) := by
  have hu30 := Try.underlying30
  have HO0 := Aside0.mk (show Kd.R k40 40 w w0.heap.size (fun k_ => (P0_ k_ ∨ w.heap.size ≤ k_)) u9000_ l0 from Kd.R_mono ho0 (fun k_ hk => (.inl hk)))
  have HK := Aside0.mk (Kept.refl w (fun k_ => P0_ k_))
  have HW0 := Aside0.mk hB.size
  have HB := Aside0.mk hB
  clear hB
  have H : (paviorref09_Change.l0 k l0 a1 a2 a3 a5 a1 a4_0 a4_1) = some (r1, r2) := h
  clear h
  have H' := Aside0.mk H
  clear H
  go_enter Try.func28, Try.ntmps28
  go_wp2_with (first | ((with_reducible refine gate_dst (N := 10) rfl ?_); refine box_event ?hg (N := 10) ?hd (cs := #[.bool a4_0, .bool a4_1]) (t := 30) ?hr ?_; (case hd => rfl); (case hg => rfl); (case hr => first | (go_simp; done) | (go_simp; rfl)); intro gb486 hg w7 hbox hb; have n0_ := Aside0.mk (Kd.R_below (by (with_reducible repeat (first | apply Kd.R_alloc | apply Kd.R_drewN | apply Kd.R_drew)); exact HO0.out) hb); have n1_ := Aside0.mk (Kept.below (S := (fun k_ => P0_ k_)) (by repeat (first | (with_reducible first | exact HK.out | apply Kept.alloc | apply Kept.drewN | apply Kept.drew) | exact HK.out)) hb); have n2_ := Aside0.mk (below_step (by repeat (first | (with_reducible first | exact HB.out | apply below_alloc | apply pw_below_drewN | apply below_drew1) | exact HB.out)) hb); have n3_ := Aside0.mk (hbox); have n4_ := Aside0.mk ((by rw [hg]; exact (by first | exact HK.out.1 | exact (show Kept w _ (fun k_ => P0_ k_) from by repeat (first | (with_reducible first | exact HK.out | apply Kept.alloc | apply Kept.drewN | apply Kept.drew) | exact HK.out)).1) : w.heap.size ≤ gb486)); have n5_ := Aside0.mk ((by rw [hg]; exact (below_size (by repeat (first | (with_reducible first | exact HB.out | apply below_alloc | apply pw_below_drewN | apply below_drew1) | exact HB.out))) : w0.heap.size ≤ gb486)); clear HO0; clear HK; clear HB; have HO0 := n0_; have HK := n1_; have HB := n2_; have BK486 := n3_; have GW486 := n4_; have GE486 := n5_; clear n0_ n1_ n2_ n3_ n4_ n5_; clear hb hbox hg))
  go_loopg [13] k (fun kq v13 w' => ∃ (x13_1 : Int), v13 = .int .i64 x13_1 ∧ Aside0 (paviorref09_Change.l0 kq l0 a1 a2 a3 a5 x13_1 a4_0 a4_1 = some (r1, r2)) ∧ Aside0 (kq ≤ k) ∧ Aside0 (Kd.R k40 40 w' w0.heap.size (fun k_ => (P0_ k_ ∨ w.heap.size ≤ k_)) u9000_ l0) ∧ Aside0 (w'.heap[gb486]? = some (.cells #[.bool a4_0, .bool a4_1] 30 (0, 0))) ∧ Aside0 (Kept w w' (fun k_ => P0_ k_)) ∧ Aside0 (Below w0.heap.size w0 w'))
  case atStart => exact ⟨(a1), (by first | rfl | (simp; done) | (simp [*]; done)), H', ⟨Nat.le_refl _⟩, ⟨by (with_reducible repeat (first | apply Kd.R_alloc | apply Kd.R_drewN | apply Kd.R_drew)); exact HO0.out⟩, ⟨by (with_reducible repeat (first | refine blk_drewN ?_ _ | refine blk_drew ?_ | refine blk_alloc ?_ _)); exact BK486.out⟩, ⟨by repeat (first | (with_reducible first | exact HK.out | apply Kept.alloc | apply Kept.drewN | apply Kept.drew | refine Kept.setCell ?_ (.inr GW486.out) _) | exact HK.out)⟩, ⟨by repeat (first | (with_reducible first | exact HB.out | apply below_alloc | apply pw_below_drewN | apply below_drew1 | refine below_set ?_ GE486.out) | exact HB.out)⟩⟩
  case round =>
    clear H'
    try clear c2
    try clear p2
    obtain ⟨x13_1, rfl, HA, HK1, HO_0, BK486, HK, HB⟩ := hrel
    cases gk with
    | zero => exact absurd HA.out (by simp [paviorref09_Change.l0])
    | succ k1 =>
      have H := HA.out
      clear HA
      simp only [paviorref09_Change.l0] at H
      by_cases c8 : x13_1 < a2
      · rw [if_pos c8] at H
        have c8b0 : decide (x13_1 < a2) = true := decide_eq_true c8
        clear c8
        by_cases c9 : 0 ≤ x13_1
        · rw [if_pos c9] at H
          have c9b0 : decide (0 ≤ x13_1) = true := decide_eq_true c9
          clear c9
          by_cases c10 : x13_1 < (l0.length : Int)
          · rw [if_pos c10] at H
            have c10b0 : decide (x13_1 < (l0.length : Int)) = true := decide_eq_true c10
            clear c10
            obtain ⟨bq11, hbq11⟩ : ∃ b_ : Bool, b_ = ((rd_T40 l0 x13_1).f0) := ⟨_, rfl⟩
            replace H : (if (bq11 = true) then (paviorref09_Change.l0 k1 l0 a1 a2 a3 a5 (wrap64 (x13_1 + 1)) a4_0 a4_1) else (some (false, l0))) = some (r1, r2) := by rw [← hbq11] at H; exact H
            have Nbq11 := Aside0.mk hbq11
            clear hbq11
            by_cases c12 : (bq11 = true)
            · subst c12
              have H1 : (paviorref09_Change.l0 k1 l0 a1 a2 a3 a5 (wrap64 (x13_1 + 1)) a4_0 a4_1) = some (r1, r2) := by rw [if_pos rfl] at H; exact H
              clear H
              have H := H1
              clear H1
              have H' := Aside0.mk H
              clear H
              obtain ⟨Ao13, co13, eo13⟩ := Kd.R_slice HO_0.out
              subst eo13
              have p487 : 0 ≤ (x13_1 : Int) := of_decide_eq_true (by first | (with_reducible assumption) | assumption)
              have q487 : x13_1 < (l0.length : Int) := of_decide_eq_true (by first | (with_reducible assumption) | assumption)
              obtain ⟨ad487, e487, hx487_0, hx487_1, hx487_2, hx487_3⟩ := at_T40 (Kd.R_reads' HO_0.out).2.2 x13_1 p487 q487
              (try rw [← Nbq11.out] at hx487_0)
              (try rw [← Nbq11.out] at hx487_1)
              (try rw [← Nbq11.out] at hx487_2)
              (try rw [← Nbq11.out] at hx487_3)
              cases e487
              replace p487 := eq_true p487
              replace q487 := eq_true q487
              go_wp2
              go_roundg k1
              case measure => have := HK1.out; omega
              case rel => exact ⟨(wrap64 (x13_1 + 1)), (by first | rfl | (simp; done) | (simp [*]; done)), H', ⟨by have := HK1.out; omega⟩, ⟨by (with_reducible repeat (first | apply Kd.R_alloc | apply Kd.R_drewN | apply Kd.R_drew)); exact HO_0.out⟩, ⟨by (with_reducible repeat (first | refine blk_drewN ?_ _ | refine blk_drew ?_ | refine blk_alloc ?_ _)); exact BK486.out⟩, ⟨by repeat (first | (with_reducible first | exact HK.out | apply Kept.alloc | apply Kept.drewN | apply Kept.drew | refine Kept.setCell ?_ (.inr GW486.out) _) | exact HK.out)⟩, ⟨by repeat (first | (with_reducible first | exact HB.out | apply below_alloc | apply pw_below_drewN | apply below_drew1 | refine below_set ?_ GE486.out) | exact HB.out)⟩⟩
            · replace c12 := Bool.eq_false_iff.mpr c12
              subst c12
              have H1 : (some (false, l0)) = some (r1, r2) := by rw [if_neg (show ¬ (false = true) by decide)] at H; exact H
              clear H
              have H := H1
              clear H1
              simp only [Option.some.injEq, Prod.mk.injEq] at H
              obtain ⟨rfl, rfl⟩ := H
              obtain ⟨Ao14, co14, eo14⟩ := Kd.R_slice HO_0.out
              subst eo14
              have p487 : 0 ≤ (x13_1 : Int) := of_decide_eq_true (by first | (with_reducible assumption) | assumption)
              have q487 : x13_1 < (l0.length : Int) := of_decide_eq_true (by first | (with_reducible assumption) | assumption)
              obtain ⟨ad487, e487, hx487_0, hx487_1, hx487_2, hx487_3⟩ := at_T40 (Kd.R_reads' HO_0.out).2.2 x13_1 p487 q487
              (try rw [← Nbq11.out] at hx487_0)
              (try rw [← Nbq11.out] at hx487_1)
              (try rw [← Nbq11.out] at hx487_2)
              (try rw [← Nbq11.out] at hx487_3)
              cases e487
              replace p487 := eq_true p487
              replace q487 := eq_true q487
              go_wp2
              go_ret
              exact ⟨by first | rfl | (simp [errW_none, errW_some] <;> rfl) | (simp [*, errW_none, errW_some] <;> rfl), by (with_reducible repeat (first | apply Kd.R_alloc | apply Kd.R_drewN | apply Kd.R_drew)); exact HO_0.out, by repeat (first | (with_reducible first | exact HB.out | apply below_alloc | apply pw_below_drewN | apply below_drew1 | refine below_set ?_ GE486.out) | exact HB.out), by repeat (first | (with_reducible first | exact HK.out | apply Kept.alloc | apply Kept.drewN | apply Kept.drew | refine Kept.setCell ?_ (.inr GW486.out) _) | exact HK.out)⟩
          · rw [if_neg c10] at H
            exact absurd H (by simp)
        · rw [if_neg c9] at H
          exact absurd H (by simp)
      · rw [if_neg c8] at H
        have c8b0 : decide (x13_1 < a2) = false := decide_eq_false c8
        clear c8
        have H' := Aside0.mk H
        clear H
        go_wp2
        go_loopg [14] k1 (fun kq v14 w' => ∃ (x0_2 : List (S40)) (x14_2 : Int), v14 = .int .i64 x14_2 ∧ Aside0 (paviorref09_Change.l1 kq x0_2 a2 a3 a5 x14_2 a4_0 a4_1 = some (r1, r2)) ∧ Aside0 (kq ≤ k1) ∧ Aside0 (Kd.R k40 40 w' w0.heap.size (fun k_ => (P0_ k_ ∨ w.heap.size ≤ k_)) u9000_ x0_2) ∧ Aside0 (w'.heap[gb486]? = some (.cells #[.bool a4_0, .bool a4_1] 30 (0, 0))) ∧ Aside0 (Kept w w' (fun k_ => P0_ k_)) ∧ Aside0 (Below w0.heap.size w0 w'))
        case atStart => exact ⟨(l0), (a1), (by first | rfl | (simp; done) | (simp [*]; done)), H', ⟨Nat.le_refl _⟩, ⟨by (with_reducible repeat (first | apply Kd.R_alloc | apply Kd.R_drewN | apply Kd.R_drew)); exact HO_0.out⟩, ⟨by (with_reducible repeat (first | refine blk_drewN ?_ _ | refine blk_drew ?_ | refine blk_alloc ?_ _)); exact BK486.out⟩, ⟨by repeat (first | (with_reducible first | exact HK.out | apply Kept.alloc | apply Kept.drewN | apply Kept.drew | refine Kept.setCell ?_ (.inr GW486.out) _) | exact HK.out)⟩, ⟨by repeat (first | (with_reducible first | exact HB.out | apply below_alloc | apply pw_below_drewN | apply below_drew1 | refine below_set ?_ GE486.out) | exact HB.out)⟩⟩
        case round =>
          clear H'
          try clear c1
          try clear q1
          try clear c2
          try clear p2
          try clear p4
          try clear q4
          try clear hx4
          try clear p6
          try clear c8
          try clear c8b0
          try clear c9
          try clear c9b0
          try clear c10
          try clear c10b0
          try clear q11
          try clear c12
          try clear hx487_0
          try clear hx487_1
          try clear hx487_2
          try clear hx487_3
          try clear p2
          try clear p487
          try clear q487
          obtain ⟨x0_2, x14_2, rfl, HA, HK2, HO_0, BK486, HK, HB⟩ := hrel
          cases gk with
          | zero => exact absurd HA.out (by simp [paviorref09_Change.l1])
          | succ k2 =>
            have H := HA.out
            clear HA
            simp only [paviorref09_Change.l1] at H
            by_cases c15 : x14_2 < a2
            · rw [if_pos c15] at H
              have c15b0 : decide (x14_2 < a2) = true := decide_eq_true c15
              clear c15
              by_cases c16 : a3 = true
              · subst c16
                have H1 : (if 0 ≤ x14_2 then (if x14_2 < (x0_2.length : Int) then ((some (x0_2.set (x14_2 : Int).toNat (⟨(rd_T40 x0_2 x14_2).f0, a4_0, (rd_T40 x0_2 x14_2).f2, (rd_T40 x0_2 x14_2).f3⟩ : S40) : List (S40))).bind fun y488 => (paviorref09_Change.l1 k2 (y488.set (x14_2 : Int).toNat (⟨(rd_T40 y488 x14_2).f0, (rd_T40 y488 x14_2).f1, a4_1, (rd_T40 y488 x14_2).f3⟩ : S40)) a2 true a5 (wrap64 (x14_2 + 1)) a4_0 a4_1)) else (none)) else (none)) = some (r1, r2) := by rw [if_pos rfl] at H; exact H
                clear H
                have H := H1
                clear H1
                by_cases c17 : 0 ≤ x14_2
                · rw [if_pos c17] at H
                  have c17b0 : decide (0 ≤ x14_2) = true := decide_eq_true c17
                  clear c17
                  by_cases c18 : x14_2 < (x0_2.length : Int)
                  · rw [if_pos c18] at H
                    have c18b0 : decide (x14_2 < (x0_2.length : Int)) = true := decide_eq_true c18
                    clear c18
                    obtain ⟨y488, hy488⟩ : ∃ y_ : List (S40), y_ = (x0_2.set (x14_2 : Int).toNat (⟨(rd_T40 x0_2 x14_2).f0, a4_0, (rd_T40 x0_2 x14_2).f2, (rd_T40 x0_2 x14_2).f3⟩ : S40)) := ⟨_, rfl⟩
                    replace H : (paviorref09_Change.l1 k2 (y488.set (x14_2 : Int).toNat (⟨(rd_T40 y488 x14_2).f0, (rd_T40 y488 x14_2).f1, a4_1, (rd_T40 y488 x14_2).f3⟩ : S40)) a2 true a5 (wrap64 (x14_2 + 1)) a4_0 a4_1) = some (r1, r2) := by first | (rw [hy488]; with_reducible exact H) | (have H2_ := (Option.bind_some _ _).symm.trans H; rw [hy488]; with_reducible exact H2_) | (have H2_ := (Option.bind_some _ _).symm.trans H; with_reducible exact H2_) | with_reducible exact H | (rw [hy488]; exact H) | exact H
                    have Ny488 := Aside0.mk hy488
                    clear hy488
                    obtain ⟨y489, hy489⟩ : ∃ y_ : List (S40), y_ = (y488.set (x14_2 : Int).toNat (⟨(rd_T40 y488 x14_2).f0, (rd_T40 y488 x14_2).f1, a4_1, (rd_T40 y488 x14_2).f3⟩ : S40)) := ⟨_, rfl⟩
                    replace H : (paviorref09_Change.l1 k2 y489 a2 true a5 (wrap64 (x14_2 + 1)) a4_0 a4_1) = some (r1, r2) := by first | (rw [hy489]; with_reducible exact H) | (have H2_ := (Option.bind_some _ _).symm.trans H; rw [hy489]; with_reducible exact H2_) | (have H2_ := (Option.bind_some _ _).symm.trans H; with_reducible exact H2_) | with_reducible exact H | (rw [hy489]; exact H) | exact H
                    have Ny489 := Aside0.mk hy489
                    clear hy489
                    have H' := Aside0.mk H
                    clear H
                    have hcz21_0 : wr.cell? ⟨gb486, 0, none⟩ = some (.bool a4_0) := (blk_cell BK486.out 0).trans rfl
                    have hcz21_1 : wr.cell? ⟨gb486, 1, none⟩ = some (.bool a4_1) := (blk_cell BK486.out 1).trans rfl
                    have hfz21_0 := blk_frozen BK486.out 0
                    have hfz21_1 := blk_frozen BK486.out 1
                    have p19 : 0 ≤ (x14_2 : Int) := of_decide_eq_true (by first | (with_reducible assumption) | assumption)
                    have q19 : (x14_2 : Int) < ((x0_2.length : Int) : Int) := of_decide_eq_true (by first | (with_reducible assumption) | assumption)
                    obtain ⟨go19, co19, eo19, gb19, gl19, cl19, HG19⟩ := Kd.R_form HO_0.out (by omega)
                    (first | cases eo19 | (injection eo19 with ea_ en_ ec_; (first | subst ea_ | (injection ea_ with ea_; subst ea_)); subst ec_; clear en_))
                    have GB19 := Aside0.mk gb19
                    have GG19 := Aside0.mk HG19
                    clear gb19 gl19 HG19
                    have HMgo19 := Aside0.mk (show (P0_ go19 ∨ w.heap.size ≤ go19) from (HO_0.out.1 _ rfl))
                    obtain ⟨ce19, hcl19, hM19, hcc19, hfr19⟩ := Kd.R_elem HO_0.out z40 (x14_2 : Int) p19 q19
                    obtain rfl := k40_openM hM19
                    have hx19_0 : wr.cell? ⟨go19, (x14_2 : Int).toNat * 4, none⟩ = some (.bool ((rd_T40 x0_2 x14_2).f0)) := hcc19 0 _ rfl
                    have hx19_1 : wr.cell? ⟨go19, (x14_2 : Int).toNat * 4 + 1, none⟩ = some (.bool ((rd_T40 x0_2 x14_2).f1)) := hcc19 1 _ rfl
                    have hx19_2 : wr.cell? ⟨go19, (x14_2 : Int).toNat * 4 + 2, none⟩ = some (.bool ((rd_T40 x0_2 x14_2).f2)) := hcc19 2 _ rfl
                    have hx19_3 : wr.cell? ⟨go19, (x14_2 : Int).toNat * 4 + 3, none⟩ = some (.bool ((rd_T40 x0_2 x14_2).f3)) := hcc19 3 _ rfl
                    have hf19_0 : wr.frozen? ⟨go19, (x14_2 : Int).toNat * 4, none⟩ = false := hfr19 0
                    have hf19_1 : wr.frozen? ⟨go19, (x14_2 : Int).toNat * 4 + 1, none⟩ = false := hfr19 1
                    have hf19_2 : wr.frozen? ⟨go19, (x14_2 : Int).toNat * 4 + 2, none⟩ = false := hfr19 2
                    have hf19_3 : wr.frozen? ⟨go19, (x14_2 : Int).toNat * 4 + 3, none⟩ = false := hfr19 3
                    clear hcl19 hcc19 hfr19 hM19
                    replace p19 := eq_true p19
                    replace q19 := eq_true q19
                    have HX22 := Aside0.mk (show Kd.R k40 40 wr w0.heap.size (fun k_ => (P0_ k_ ∨ w.heap.size ≤ k_)) (.slice (some ⟨go19, 0, none⟩) x0_2.length co19) x0_2 from (by (with_reducible repeat (first | apply Kd.R_alloc | apply Kd.R_drewN | apply Kd.R_drew)); exact HO_0.out))
                    obtain ⟨ce22, hcl22, hM22, hcc22, hfr22⟩ := Kd.R_elem HX22.out z40 (x14_2 : Int) (of_decide_eq_true (by first | (with_reducible assumption) | assumption)) (by have h_ : (x14_2 : Int) < ((x0_2.length : Int) : Int) := of_decide_eq_true (by first | (with_reducible assumption) | assumption); first | exact h_ | (have e_ := (Kd.R_reads' HO_0.out).1; omega) | simpa using h_)
                    obtain rfl := k40_openM hM22
                    have HP22 := Kd.R_seg HX22.out (x14_2 : Int) (of_decide_eq_true (by first | (with_reducible assumption) | assumption)) (by have h_ : (x14_2 : Int) < ((x0_2.length : Int) : Int) := of_decide_eq_true (by first | (with_reducible assumption) | assumption); first | exact h_ | (have e_ := (Kd.R_reads' HO_0.out).1; omega) | simpa using h_) (seg := [.bool a4_0]) (j := 1) hcl22 hcc22 (show 2 ≤ 4 from by decide) (x' := (⟨(rd_T40 x0_2 x14_2).f0, a4_0, (rd_T40 x0_2 x14_2).f2, (rd_T40 x0_2 x14_2).f3⟩ : S40)) (k40_mkM _ _ _ (⟨(rd_T40 x0_2 x14_2).f0, a4_0, (rd_T40 x0_2 x14_2).f2, (rd_T40 x0_2 x14_2).f3⟩ : S40) ) (fun _ hk => hk)
                    have hx22_1 := hcc22 1 _ rfl
                    (try simp only [show (k40).sz = 4 from rfl, Nat.mul_one, Nat.add_zero] at hx22_1)
                    have hf22_1 := hfr22 1
                    (try simp only [show (k40).sz = 4 from rfl, Nat.mul_one, Nat.add_zero] at hf22_1)
                    clear hcl22 hcc22 hfr22 hM22
                    go_wp2_with (first | ((with_reducible refine gate_store (t := 4) (p := 39) rfl ?_); refine store_event (t := 4) (p := 39) (v := ?vo_w23) (w1 := (wr.setCell ⟨go19, (x14_2 : Int).toNat * 4 + 1, none⟩ (.bool a4_0))) ?hg ?ho ?hn ?hr ?_; (case ho => rfl); (case hg => rfl); (case hn => rfl); (case hr => first | (go_simp; done) | (go_simp; rfl)); intro w23 hw; have hg : wr.grownBy w23 (some go19) := (by rw [hw]; exact HP22.2); have hp_ : Kd.R k40 40 w23 w0.heap.size (fun k_ => (P0_ k_ ∨ w.heap.size ≤ k_)) (.slice (some ⟨go19, 0, none⟩) x0_2.length co19) y488 := (by rw [hw, Ny488.out]; exact HP22.1); clear HP22; have n0_ := Aside0.mk (hp_); have n1_ := Aside0.mk (blk_grown (g := gb486) (o := .cells #[.bool a4_0, .bool a4_1] 30 (0, 0)) (by (with_reducible repeat (first | refine blk_drewN ?_ _ | refine blk_drew ?_ | refine blk_alloc ?_ _)); exact BK486.out) hg (Kd.R_ne HO_0.out BK486.out (by decide))); have n2_ := Aside0.mk ((by rw [hw]; exact below_set (HB.out) GB19.out : Below w0.heap.size w0 w23)); have n3_ := Aside0.mk (Kept.of_grown (S := (fun k_ => P0_ k_)) hg (by repeat (first | (with_reducible first | exact HK.out | apply Kept.alloc | apply Kept.drewN | apply Kept.drew | refine Kept.setCell ?_ (.inr GW486.out) _) | exact HK.out)) (fun k_ e_ => (HO_0.out.1 k_ e_))); clear HO_0; clear BK486; clear HB; clear HK; have HO_0 := n0_; have BK486 := n1_; have HB := n2_; have HK := n3_; clear n0_ n1_ n2_ n3_; clear hg hw hp_; have hcz24_0 : w23.cell? ⟨gb486, 0, none⟩ = some (.bool a4_0) := (blk_cell BK486.out 0).trans rfl; have hcz24_1 : w23.cell? ⟨gb486, 1, none⟩ = some (.bool a4_1) := (blk_cell BK486.out 1).trans rfl; have hfz24_0 := blk_frozen BK486.out 0; have hfz24_1 := blk_frozen BK486.out 1; have p20 : 0 ≤ (x14_2 : Int) := of_decide_eq_true (by first | (with_reducible assumption) | assumption); have q20 : (x14_2 : Int) < ((x0_2.length : Int) : Int) := of_decide_eq_true (by first | (with_reducible assumption) | assumption); obtain ⟨ce20, hcl20, hM20, hcc20, hfr20⟩ := Kd.R_elem HO_0.out z40 (x14_2 : Int) p20 q20; obtain rfl := k40_openM hM20; have hx20_0 : w23.cell? ⟨go19, (x14_2 : Int).toNat * 4, none⟩ = some (.bool ((rd_T40 y488 x14_2).f0)) := hcc20 0 _ rfl; have hx20_1 : w23.cell? ⟨go19, (x14_2 : Int).toNat * 4 + 1, none⟩ = some (.bool ((rd_T40 y488 x14_2).f1)) := hcc20 1 _ rfl; have hx20_2 : w23.cell? ⟨go19, (x14_2 : Int).toNat * 4 + 2, none⟩ = some (.bool ((rd_T40 y488 x14_2).f2)) := hcc20 2 _ rfl; have hx20_3 : w23.cell? ⟨go19, (x14_2 : Int).toNat * 4 + 3, none⟩ = some (.bool ((rd_T40 y488 x14_2).f3)) := hcc20 3 _ rfl; have hf20_0 : w23.frozen? ⟨go19, (x14_2 : Int).toNat * 4, none⟩ = false := hfr20 0; have hf20_1 : w23.frozen? ⟨go19, (x14_2 : Int).toNat * 4 + 1, none⟩ = false := hfr20 1; have hf20_2 : w23.frozen? ⟨go19, (x14_2 : Int).toNat * 4 + 2, none⟩ = false := hfr20 2; have hf20_3 : w23.frozen? ⟨go19, (x14_2 : Int).toNat * 4 + 3, none⟩ = false := hfr20 3; clear hcl20 hcc20 hfr20 hM20; replace p20 := eq_true p20; replace q20 := eq_true q20; have HX25 := Aside0.mk (show Kd.R k40 40 w23 w0.heap.size (fun k_ => (P0_ k_ ∨ w.heap.size ≤ k_)) (.slice (some ⟨go19, 0, none⟩) x0_2.length co19) y488 from (by (with_reducible repeat (first | apply Kd.R_alloc | apply Kd.R_drewN | apply Kd.R_drew)); exact HO_0.out)); obtain ⟨ce25, hcl25, hM25, hcc25, hfr25⟩ := Kd.R_elem HX25.out z40 (x14_2 : Int) (of_decide_eq_true (by first | (with_reducible assumption) | assumption)) (by have h_ : (x14_2 : Int) < ((x0_2.length : Int) : Int) := of_decide_eq_true (by first | (with_reducible assumption) | assumption); first | exact h_ | (have e_ := (Kd.R_reads' HO_0.out).1; omega) | simpa using h_); obtain rfl := k40_openM hM25; have HP25 := Kd.R_seg HX25.out (x14_2 : Int) (of_decide_eq_true (by first | (with_reducible assumption) | assumption)) (by have h_ : (x14_2 : Int) < ((x0_2.length : Int) : Int) := of_decide_eq_true (by first | (with_reducible assumption) | assumption); first | exact h_ | (have e_ := (Kd.R_reads' HO_0.out).1; omega) | simpa using h_) (seg := [.bool a4_1]) (j := 2) hcl25 hcc25 (show 3 ≤ 4 from by decide) (x' := (⟨(rd_T40 y488 x14_2).f0, (rd_T40 y488 x14_2).f1, a4_1, (rd_T40 y488 x14_2).f3⟩ : S40)) (k40_mkM _ _ _ (⟨(rd_T40 y488 x14_2).f0, (rd_T40 y488 x14_2).f1, a4_1, (rd_T40 y488 x14_2).f3⟩ : S40) ) (fun _ hk => hk); have hx25_2 := hcc25 2 _ rfl; (try simp only [show (k40).sz = 4 from rfl, Nat.mul_one, Nat.add_zero] at hx25_2); have hf25_2 := hfr25 2; (try simp only [show (k40).sz = 4 from rfl, Nat.mul_one, Nat.add_zero] at hf25_2); clear hcl25 hcc25 hfr25 hM25) | ((with_reducible refine gate_store (t := 4) (p := 45) rfl ?_); refine store_event (t := 4) (p := 45) (v := ?vo_w26) (w1 := (w23.setCell ⟨go19, (x14_2 : Int).toNat * 4 + 2, none⟩ (.bool a4_1))) ?hg ?ho ?hn ?hr ?_; (case ho => rfl); (case hg => rfl); (case hn => rfl); (case hr => first | (go_simp; done) | (go_simp; rfl)); intro w26 hw; have hg : w23.grownBy w26 (some go19) := (by rw [hw]; exact HP25.2); have hp_ : Kd.R k40 40 w26 w0.heap.size (fun k_ => (P0_ k_ ∨ w.heap.size ≤ k_)) (.slice (some ⟨go19, 0, none⟩) x0_2.length co19) y489 := (by rw [hw, Ny489.out]; exact HP25.1); clear HP25; have n0_ := Aside0.mk (hp_); have n1_ := Aside0.mk (blk_grown (g := gb486) (o := .cells #[.bool a4_0, .bool a4_1] 30 (0, 0)) (by (with_reducible repeat (first | refine blk_drewN ?_ _ | refine blk_drew ?_ | refine blk_alloc ?_ _)); exact BK486.out) hg (Kd.R_ne HO_0.out BK486.out (by decide))); have n2_ := Aside0.mk ((by rw [hw]; exact below_set (HB.out) GB19.out : Below w0.heap.size w0 w26)); have n3_ := Aside0.mk (Kept.of_grown (S := (fun k_ => P0_ k_)) hg (by repeat (first | (with_reducible first | exact HK.out | apply Kept.alloc | apply Kept.drewN | apply Kept.drew | refine Kept.setCell ?_ (.inr GW486.out) _) | exact HK.out)) (fun k_ e_ => (HO_0.out.1 k_ e_))); clear HO_0; clear BK486; clear HB; clear HK; have HO_0 := n0_; have BK486 := n1_; have HB := n2_; have HK := n3_; clear n0_ n1_ n2_ n3_; clear hg hw hp_))
                    go_roundg k2
                    case measure => have := HK1.out; have := HK2.out; omega
                    case rel => exact ⟨(y489), (wrap64 (x14_2 + 1)), (by first | rfl | (simp; done) | (simp [*]; done)), H', ⟨by have := HK1.out; have := HK2.out; omega⟩, ⟨by (with_reducible repeat (first | apply Kd.R_alloc | apply Kd.R_drewN | apply Kd.R_drew)); exact HO_0.out⟩, ⟨by (with_reducible repeat (first | refine blk_drewN ?_ _ | refine blk_drew ?_ | refine blk_alloc ?_ _)); exact BK486.out⟩, ⟨by repeat (first | (with_reducible first | exact HK.out | apply Kept.alloc | apply Kept.drewN | apply Kept.drew | refine Kept.setCell ?_ (.inr GW486.out) _) | exact HK.out)⟩, ⟨by repeat (first | (with_reducible first | exact HB.out | apply below_alloc | apply pw_below_drewN | apply below_drew1 | refine below_set ?_ GE486.out) | exact HB.out)⟩⟩
                  · rw [if_neg c18] at H
                    exact absurd H (by simp)
                · rw [if_neg c17] at H
                  exact absurd H (by simp)
              · replace c16 := Bool.eq_false_iff.mpr c16
                subst c16
                have H1 : (if 0 ≤ x14_2 then (if x14_2 < (x0_2.length : Int) then (paviorref09_Change.l1 k2 (x0_2.set (x14_2 : Int).toNat (⟨(rd_T40 x0_2 x14_2).f0, (rd_T40 x0_2 x14_2).f1, (rd_T40 x0_2 x14_2).f2, a5⟩ : S40)) a2 false a5 (wrap64 (x14_2 + 1)) a4_0 a4_1) else (none)) else (none)) = some (r1, r2) := by rw [if_neg (show ¬ (false = true) by decide)] at H; exact H
                clear H
                have H := H1
                clear H1
                by_cases c27 : 0 ≤ x14_2
                · rw [if_pos c27] at H
                  have c27b0 : decide (0 ≤ x14_2) = true := decide_eq_true c27
                  clear c27
                  by_cases c28 : x14_2 < (x0_2.length : Int)
                  · rw [if_pos c28] at H
                    have c28b0 : decide (x14_2 < (x0_2.length : Int)) = true := decide_eq_true c28
                    clear c28
                    obtain ⟨y490, hy490⟩ : ∃ y_ : List (S40), y_ = (x0_2.set (x14_2 : Int).toNat (⟨(rd_T40 x0_2 x14_2).f0, (rd_T40 x0_2 x14_2).f1, (rd_T40 x0_2 x14_2).f2, a5⟩ : S40)) := ⟨_, rfl⟩
                    replace H : (paviorref09_Change.l1 k2 y490 a2 false a5 (wrap64 (x14_2 + 1)) a4_0 a4_1) = some (r1, r2) := by first | (rw [hy490]; with_reducible exact H) | (have H2_ := (Option.bind_some _ _).symm.trans H; rw [hy490]; with_reducible exact H2_) | (have H2_ := (Option.bind_some _ _).symm.trans H; with_reducible exact H2_) | with_reducible exact H | (rw [hy490]; exact H) | exact H
                    have Ny490 := Aside0.mk hy490
                    clear hy490
                    have H' := Aside0.mk H
                    clear H
                    have p29 : 0 ≤ (x14_2 : Int) := of_decide_eq_true (by first | (with_reducible assumption) | assumption)
                    have q29 : (x14_2 : Int) < ((x0_2.length : Int) : Int) := of_decide_eq_true (by first | (with_reducible assumption) | assumption)
                    obtain ⟨go29, co29, eo29, gb29, gl29, cl29, HG29⟩ := Kd.R_form HO_0.out (by omega)
                    (first | cases eo29 | (injection eo29 with ea_ en_ ec_; (first | subst ea_ | (injection ea_ with ea_; subst ea_)); subst ec_; clear en_))
                    have GB29 := Aside0.mk gb29
                    have GG29 := Aside0.mk HG29
                    clear gb29 gl29 HG29
                    have HMgo29 := Aside0.mk (show (P0_ go29 ∨ w.heap.size ≤ go29) from (HO_0.out.1 _ rfl))
                    obtain ⟨ce29, hcl29, hM29, hcc29, hfr29⟩ := Kd.R_elem HO_0.out z40 (x14_2 : Int) p29 q29
                    obtain rfl := k40_openM hM29
                    have hx29_0 : wr.cell? ⟨go29, (x14_2 : Int).toNat * 4, none⟩ = some (.bool ((rd_T40 x0_2 x14_2).f0)) := hcc29 0 _ rfl
                    have hx29_1 : wr.cell? ⟨go29, (x14_2 : Int).toNat * 4 + 1, none⟩ = some (.bool ((rd_T40 x0_2 x14_2).f1)) := hcc29 1 _ rfl
                    have hx29_2 : wr.cell? ⟨go29, (x14_2 : Int).toNat * 4 + 2, none⟩ = some (.bool ((rd_T40 x0_2 x14_2).f2)) := hcc29 2 _ rfl
                    have hx29_3 : wr.cell? ⟨go29, (x14_2 : Int).toNat * 4 + 3, none⟩ = some (.bool ((rd_T40 x0_2 x14_2).f3)) := hcc29 3 _ rfl
                    have hf29_0 : wr.frozen? ⟨go29, (x14_2 : Int).toNat * 4, none⟩ = false := hfr29 0
                    have hf29_1 : wr.frozen? ⟨go29, (x14_2 : Int).toNat * 4 + 1, none⟩ = false := hfr29 1
                    have hf29_2 : wr.frozen? ⟨go29, (x14_2 : Int).toNat * 4 + 2, none⟩ = false := hfr29 2
                    have hf29_3 : wr.frozen? ⟨go29, (x14_2 : Int).toNat * 4 + 3, none⟩ = false := hfr29 3
                    clear hcl29 hcc29 hfr29 hM29
                    replace p29 := eq_true p29
                    replace q29 := eq_true q29
                    have HX30 := Aside0.mk (show Kd.R k40 40 wr w0.heap.size (fun k_ => (P0_ k_ ∨ w.heap.size ≤ k_)) (.slice (some ⟨go29, 0, none⟩) x0_2.length co29) x0_2 from (by (with_reducible repeat (first | apply Kd.R_alloc | apply Kd.R_drewN | apply Kd.R_drew)); exact HO_0.out))
                    obtain ⟨ce30, hcl30, hM30, hcc30, hfr30⟩ := Kd.R_elem HX30.out z40 (x14_2 : Int) (of_decide_eq_true (by first | (with_reducible assumption) | assumption)) (by have h_ : (x14_2 : Int) < ((x0_2.length : Int) : Int) := of_decide_eq_true (by first | (with_reducible assumption) | assumption); first | exact h_ | (have e_ := (Kd.R_reads' HO_0.out).1; omega) | simpa using h_)
                    obtain rfl := k40_openM hM30
                    have HP30 := Kd.R_seg HX30.out (x14_2 : Int) (of_decide_eq_true (by first | (with_reducible assumption) | assumption)) (by have h_ : (x14_2 : Int) < ((x0_2.length : Int) : Int) := of_decide_eq_true (by first | (with_reducible assumption) | assumption); first | exact h_ | (have e_ := (Kd.R_reads' HO_0.out).1; omega) | simpa using h_) (seg := [.bool a5]) (j := 3) hcl30 hcc30 (show 4 ≤ 4 from by decide) (x' := (⟨(rd_T40 x0_2 x14_2).f0, (rd_T40 x0_2 x14_2).f1, (rd_T40 x0_2 x14_2).f2, a5⟩ : S40)) (k40_mkM _ _ _ (⟨(rd_T40 x0_2 x14_2).f0, (rd_T40 x0_2 x14_2).f1, (rd_T40 x0_2 x14_2).f2, a5⟩ : S40) ) (fun _ hk => hk)
                    have hx30_3 := hcc30 3 _ rfl
                    (try simp only [show (k40).sz = 4 from rfl, Nat.mul_one, Nat.add_zero] at hx30_3)
                    have hf30_3 := hfr30 3
                    (try simp only [show (k40).sz = 4 from rfl, Nat.mul_one, Nat.add_zero] at hf30_3)
                    clear hcl30 hcc30 hfr30 hM30
                    go_wp2_with (first | ((with_reducible refine gate_store (t := 4) (p := 50) rfl ?_); refine store_event (t := 4) (p := 50) (v := ?vo_w31) (w1 := (wr.setCell ⟨go29, (x14_2 : Int).toNat * 4 + 3, none⟩ (.bool a5))) ?hg ?ho ?hn ?hr ?_; (case ho => rfl); (case hg => rfl); (case hn => rfl); (case hr => first | (go_simp; done) | (go_simp; rfl)); intro w31 hw; have hg : wr.grownBy w31 (some go29) := (by rw [hw]; exact HP30.2); have hp_ : Kd.R k40 40 w31 w0.heap.size (fun k_ => (P0_ k_ ∨ w.heap.size ≤ k_)) (.slice (some ⟨go29, 0, none⟩) x0_2.length co29) y490 := (by rw [hw, Ny490.out]; exact HP30.1); clear HP30; have n0_ := Aside0.mk (hp_); have n1_ := Aside0.mk (blk_grown (g := gb486) (o := .cells #[.bool a4_0, .bool a4_1] 30 (0, 0)) (by (with_reducible repeat (first | refine blk_drewN ?_ _ | refine blk_drew ?_ | refine blk_alloc ?_ _)); exact BK486.out) hg (Kd.R_ne HO_0.out BK486.out (by decide))); have n2_ := Aside0.mk ((by rw [hw]; exact below_set (HB.out) GB29.out : Below w0.heap.size w0 w31)); have n3_ := Aside0.mk (Kept.of_grown (S := (fun k_ => P0_ k_)) hg (by repeat (first | (with_reducible first | exact HK.out | apply Kept.alloc | apply Kept.drewN | apply Kept.drew | refine Kept.setCell ?_ (.inr GW486.out) _) | exact HK.out)) (fun k_ e_ => (HO_0.out.1 k_ e_))); clear HO_0; clear BK486; clear HB; clear HK; have HO_0 := n0_; have BK486 := n1_; have HB := n2_; have HK := n3_; clear n0_ n1_ n2_ n3_; clear hg hw hp_))
                    go_roundg k2
                    case measure => have := HK1.out; have := HK2.out; omega
                    case rel => exact ⟨(y490), (wrap64 (x14_2 + 1)), (by first | rfl | (simp; done) | (simp [*]; done)), H', ⟨by have := HK1.out; have := HK2.out; omega⟩, ⟨by (with_reducible repeat (first | apply Kd.R_alloc | apply Kd.R_drewN | apply Kd.R_drew)); exact HO_0.out⟩, ⟨by (with_reducible repeat (first | refine blk_drewN ?_ _ | refine blk_drew ?_ | refine blk_alloc ?_ _)); exact BK486.out⟩, ⟨by repeat (first | (with_reducible first | exact HK.out | apply Kept.alloc | apply Kept.drewN | apply Kept.drew | refine Kept.setCell ?_ (.inr GW486.out) _) | exact HK.out)⟩, ⟨by repeat (first | (with_reducible first | exact HB.out | apply below_alloc | apply pw_below_drewN | apply below_drew1 | refine below_set ?_ GE486.out) | exact HB.out)⟩⟩
                  · rw [if_neg c28] at H
                    exact absurd H (by simp)
                · rw [if_neg c27] at H
                  exact absurd H (by simp)
            · rw [if_neg c15] at H
              have c15b0 : decide (x14_2 < a2) = false := decide_eq_false c15
              clear c15
              simp only [Option.some.injEq, Prod.mk.injEq] at H
              obtain ⟨rfl, rfl⟩ := H
              go_wp2
              go_ret
              exact ⟨by first | rfl | (simp [errW_none, errW_some] <;> rfl) | (simp [*, errW_none, errW_some] <;> rfl), by (with_reducible repeat (first | apply Kd.R_alloc | apply Kd.R_drewN | apply Kd.R_drew)); exact HO_0.out, by repeat (first | (with_reducible first | exact HB.out | apply below_alloc | apply pw_below_drewN | apply below_drew1 | refine below_set ?_ GE486.out) | exact HB.out), by repeat (first | (with_reducible first | exact HK.out | apply Kept.alloc | apply Kept.drewN | apply Kept.drew | refine Kept.setCell ?_ (.inr GW486.out) _) | exact HK.out)⟩

end Go.Proofs.Ytlmjjkggoemabab.Q
