-- Written by this session's program wip/tools/xprint.py (the kit's printer, turned by it); not the kit's own print.
import Derived.Test.YtehbhpkmlmeblaaQx0
import Derived.Test.YtehbhpkmlmeblaaQx2
namespace Go.Proofs.Ytehbhpkmlmeblaa.Q
open Go.RowKit Go.Proofs.YtehbhpkmlmeblaaW.PrintWords Go.Proofs.YtehbhpkmlmeblaaW.PrintLast Go.Proofs.YtehbhpkmlmeblaaW.PrintMore
attribute [local go_sem] max2_int min2_int max_two min_two max_three min_three max_four min_four   -- for this text's walks alone
set_option linter.unusedVariables false
set_option linter.unusedSimpArgs false

attribute [local go_sem high] eqErr_some neErr_some eqErr_left neErr_left
/-! ### pte_with: function 36 -/
def pte_with.f (a0 : Int) (a1 : Int) (a2 : Bool) : Option (Int) := if a2 = true then (some (Go.bits .or .u64 a0 a1)) else (some a0)
set_option maxHeartbeats 8000000 in
set_option maxRecDepth 100000 in
theorem pte_with.calls (a0 : Int) (a1 : Int) (a2 : Bool) (r : Int) (w : World) (h : pte_with.f a0 a1 a2 = some r) :
    Calls Try.prog 36 #[.int .u64 a0, .int .u64 a1, .bool a2] w fun e w' => e = .returned (.int .u64 r) ∧ Drawn0 w w' := by
  have H : (if a2 = true then (some (Go.bits .or .u64 a0 a1)) else (some a0)) = some r := h
  clear h
  by_cases c4 : a2 = true
  · subst c4
    have H1 : (some (Go.bits .or .u64 a0 a1)) = some r := by rw [if_pos rfl] at H; exact H
    clear H
    have H := H1
    clear H1
    obtain rfl := Option.some.inj H
    go_enter Try.func36, Try.ntmps36
    go_wp2
    go_ret
    exact ⟨by first | rfl | (simp; done) | (simp [*]; done), by repeat (first | exact Drawn0.refl _ | apply Drawn0.step)⟩
  · replace c4 := Bool.eq_false_iff.mpr c4
    subst c4
    have H1 : (some a0) = some r := by rw [if_neg (show ¬ (false = true) by decide)] at H; exact H
    clear H
    have H := H1
    clear H1
    obtain rfl := Option.some.inj H
    go_enter Try.func36, Try.ntmps36
    go_wp2
    go_ret
    exact ⟨by first | rfl | (simp; done) | (simp [*]; done), by repeat (first | exact Drawn0.refl _ | apply Drawn0.step)⟩

/-! ### pte_Encode: function 32 -/
mutual
def pte_Encode.j0 : Nat → Bool → Int → Int → Bool → Bool → Bool → Bool → Int → Option (Int × Option Int)
  | 0, _, _, _, _, _, _, _, _ => none
  | k + 1, x38, x139000, x139001, x139002, x139003, x139004, x139005, x139006 => if x38 = true then (some (0, some 1)) else (if x139000 = 0 then (some (0, none)) else (if x139000 = 1 then (some (Go.bits .or .u64 (Go.bits .or .u64 (IntKind.u64.wrap ((IntKind.u64.wrap (x139001)) * 4096)) 1) 2, none)) else (if x139000 = 3 then (pte_Encode.j1 k (Go.bits .or .u64 (IntKind.u64.wrap ((IntKind.u64.wrap (x139001)) * 4096)) 67) x139000 x139001 x139002 x139003 x139004 x139005 x139006) else (if x139000 = 2 then (pte_Encode.j1 k (Go.bits .or .u64 (IntKind.u64.wrap ((IntKind.u64.wrap (x139001)) * 4096)) 65) x139000 x139001 x139002 x139003 x139004 x139005 x139006) else (pte_Encode.j1 k (Go.bits .or .u64 (IntKind.u64.wrap ((IntKind.u64.wrap (x139001)) * 4096)) 10) x139000 x139001 x139002 x139003 x139004 x139005 x139006)))))
def pte_Encode.j1 : Nat → Int → Int → Int → Bool → Bool → Bool → Bool → Int → Option (Int × Option Int)
  | 0, _, _, _, _, _, _, _, _ => none
  | k + 1, x6, x139000, x139001, x139002, x139003, x139004, x139005, x139006 => (pte_with.f (Go.bits .or .u64 x6 (IntKind.u64.wrap ((IntKind.u64.wrap (x139006)) * 36028797018963968))) 128 (!x139002)).bind fun t140 => ((pte_with.f t140 18014398509481984 (!x139003)).bind fun t141 => ((pte_with.f t141 1024 x139004).bind fun t142 => ((pte_with.f t142 4503599627370496 x139005).bind fun t143 => (some (t143, none)))))
end
def pte_Encode.f (k : Nat) (a0 : Int) (a1_0 : Int) (a1_1 : Int) (a1_2 : Bool) (a1_3 : Bool) (a1_4 : Bool) (a1_5 : Bool) (a1_6 : Int) : Option (Int × Option Int) := if a0 < 0 then (pte_Encode.j0 k true a1_0 a1_1 a1_2 a1_3 a1_4 a1_5 a1_6) else (if a0 > 3 then (pte_Encode.j0 k true a1_0 a1_1 a1_2 a1_3 a1_4 a1_5 a1_6) else (if a1_1 < 0 then (pte_Encode.j0 k true a1_0 a1_1 a1_2 a1_3 a1_4 a1_5 a1_6) else (if a1_1 ≥ 512 then (pte_Encode.j0 k true a1_0 a1_1 a1_2 a1_3 a1_4 a1_5 a1_6) else (if a1_6 < 0 then (pte_Encode.j0 k true a1_0 a1_1 a1_2 a1_3 a1_4 a1_5 a1_6) else (if a1_6 > 7 then (pte_Encode.j0 k true a1_0 a1_1 a1_2 a1_3 a1_4 a1_5 a1_6) else ((pte_may.f a0 a1_0 a1_1 a1_2 a1_3 a1_4 a1_5 a1_6).bind fun t139 => (pte_Encode.j0 k (!t139) a1_0 a1_1 a1_2 a1_3 a1_4 a1_5 a1_6)))))))
set_option maxHeartbeats 8000000 in
set_option maxRecDepth 100000 in
theorem pte_Encode.calls (k : Nat) (a0 : Int) (a1_0 : Int) (a1_1 : Int) (a1_2 : Bool) (a1_3 : Bool) (a1_4 : Bool) (a1_5 : Bool) (a1_6 : Int) (r1 : Int) (r2 : Option Int) (w : World) (h : pte_Encode.f k a0 a1_0 a1_1 a1_2 a1_3 a1_4 a1_5 a1_6 = some (r1, r2)) :
    Calls Try.prog 32 #[.int .i64 a0, .agg #[.int .i64 a1_0, .int .i64 a1_1, .bool a1_2, .bool a1_3, .bool a1_4, .bool a1_5, .int .i64 a1_6]] w fun e w' => e = .returned (.tuple #[.int .u64 r1, errW r2]) ∧ Below w.heap.size w w' := by
  have hu37 := Try.underlying37
  have hu29 := Try.underlying29
  have hu47 := Try.underlying47
  have HB := Aside0.mk (Below.refl w.heap.size w)
  have H : (if a0 < 0 then (pte_Encode.j0 k true a1_0 a1_1 a1_2 a1_3 a1_4 a1_5 a1_6) else (if a0 > 3 then (pte_Encode.j0 k true a1_0 a1_1 a1_2 a1_3 a1_4 a1_5 a1_6) else (if a1_1 < 0 then (pte_Encode.j0 k true a1_0 a1_1 a1_2 a1_3 a1_4 a1_5 a1_6) else (if a1_1 ≥ 512 then (pte_Encode.j0 k true a1_0 a1_1 a1_2 a1_3 a1_4 a1_5 a1_6) else (if a1_6 < 0 then (pte_Encode.j0 k true a1_0 a1_1 a1_2 a1_3 a1_4 a1_5 a1_6) else (if a1_6 > 7 then (pte_Encode.j0 k true a1_0 a1_1 a1_2 a1_3 a1_4 a1_5 a1_6) else ((pte_may.f a0 a1_0 a1_1 a1_2 a1_3 a1_4 a1_5 a1_6).bind fun t139 => (pte_Encode.j0 k (!t139) a1_0 a1_1 a1_2 a1_3 a1_4 a1_5 a1_6)))))))) = some (r1, r2) := h
  clear h
  have HC3 := Aside0.mk H
  clear H
  go_enter Try.func32, Try.ntmps32
  go_upto_region 1 with (first | ((with_reducible refine gate_dst (N := 3) rfl ?_); refine box_event ?hg (N := 3) ?hd (cs := #[.int .i64 a1_0, .int .i64 a1_1, .bool a1_2, .bool a1_3, .bool a1_4, .bool a1_5, .int .i64 a1_6]) (t := 37) ?hr ?_; (case hd => rfl); (case hg => rfl); (case hr => first | (go_simp; done) | (go_simp; rfl)); intro gb138 hg w4 hbox hb; have n0_ := Aside0.mk (below_step (by repeat (first | (with_reducible first | exact HB.out | apply below_alloc | apply pw_below_drewN | apply below_drew1) | exact HB.out)) hb); have n1_ := Aside0.mk (hbox); have n2_ := Aside0.mk ((by rw [hg]; exact (below_size (by repeat (first | (with_reducible first | exact HB.out | apply below_alloc | apply pw_below_drewN | apply below_drew1) | exact HB.out))) : w.heap.size ≤ gb138)); have n3_ := Aside0.mk ((by rw [hg]; exact (below_size (by repeat (first | (with_reducible first | exact HB.out | apply below_alloc | apply pw_below_drewN | apply below_drew1) | exact HB.out))) : w.heap.size ≤ gb138)); clear HB; have HB := n0_; have BK138 := n1_; have GW138 := n2_; have GE138 := n3_; clear n0_ n1_ n2_ n3_; clear hb hbox hg))
  repeat (go_quiet (first | ((with_reducible refine gate_dst (N := 3) rfl ?_); refine box_event ?hg (N := 3) ?hd (cs := #[.int .i64 a1_0, .int .i64 a1_1, .bool a1_2, .bool a1_3, .bool a1_4, .bool a1_5, .int .i64 a1_6]) (t := 37) ?hr ?_; (case hd => rfl); (case hg => rfl); (case hr => first | (go_simp; done) | (go_simp; rfl)); intro gb138 hg w4 hbox hb; have n0_ := Aside0.mk (below_step (by repeat (first | (with_reducible first | exact HB.out | apply below_alloc | apply pw_below_drewN | apply below_drew1) | exact HB.out)) hb); have n1_ := Aside0.mk (hbox); have n2_ := Aside0.mk ((by rw [hg]; exact (below_size (by repeat (first | (with_reducible first | exact HB.out | apply below_alloc | apply pw_below_drewN | apply below_drew1) | exact HB.out))) : w.heap.size ≤ gb138)); have n3_ := Aside0.mk ((by rw [hg]; exact (below_size (by repeat (first | (with_reducible first | exact HB.out | apply below_alloc | apply pw_below_drewN | apply below_drew1) | exact HB.out))) : w.heap.size ≤ gb138)); clear HB; have HB := n0_; have BK138 := n1_; have GW138 := n2_; have GE138 := n3_; clear n0_ n1_ n2_ n3_; clear hb hbox hg)); go_upto_region 1 with (first | ((with_reducible refine gate_dst (N := 3) rfl ?_); refine box_event ?hg (N := 3) ?hd (cs := #[.int .i64 a1_0, .int .i64 a1_1, .bool a1_2, .bool a1_3, .bool a1_4, .bool a1_5, .int .i64 a1_6]) (t := 37) ?hr ?_; (case hd => rfl); (case hg => rfl); (case hr => first | (go_simp; done) | (go_simp; rfl)); intro gb138 hg w4 hbox hb; have n0_ := Aside0.mk (below_step (by repeat (first | (with_reducible first | exact HB.out | apply below_alloc | apply pw_below_drewN | apply below_drew1) | exact HB.out)) hb); have n1_ := Aside0.mk (hbox); have n2_ := Aside0.mk ((by rw [hg]; exact (below_size (by repeat (first | (with_reducible first | exact HB.out | apply below_alloc | apply pw_below_drewN | apply below_drew1) | exact HB.out))) : w.heap.size ≤ gb138)); have n3_ := Aside0.mk ((by rw [hg]; exact (below_size (by repeat (first | (with_reducible first | exact HB.out | apply below_alloc | apply pw_below_drewN | apply below_drew1) | exact HB.out))) : w.heap.size ≤ gb138)); clear HB; have HB := n0_; have BK138 := n1_; have GW138 := n2_; have GE138 := n3_; clear n0_ n1_ n2_ n3_; clear hb hbox hg)))
  (try simp only [Act.put, List.setIfInBounds_toArray, List.set_cons_zero, List.set_cons_succ])
  go_cut [38] (fun v38 wc => ∃ (kq : Nat) (x38_2 : Bool), v38 = .bool x38_2 ∧ Aside0 (pte_Encode.j0 kq x38_2 a1_0 a1_1 a1_2 a1_3 a1_4 a1_5 a1_6 = some (r1, r2)) ∧ Aside0 (kq ≤ k) ∧ Aside0 (wc.heap[gb138]? = some (.cells #[.int .i64 a1_0, .int .i64 a1_1, .bool a1_2, .bool a1_3, .bool a1_4, .bool a1_5, .int .i64 a1_6] 37 (0, 0))) ∧ Aside0 (Below w.heap.size w wc))
  case first =>
    have H := HC3.out
    clear HC3
    by_cases c5 : a0 < 0
    · rw [if_pos c5] at H
      have c5b0 : decide (a0 < 0) = true := decide_eq_true c5
      clear c5
      (first | rw [c5b0] | (simp only [i64_w, i32_w]; rw [c5b0]) | skip)
      have H' := Aside0.mk H
      clear H
      go_wp2
      repeat (go_quiet (fail); try go_wp2)
      go_meet
      case rel => exact ⟨_, (true), (by first | rfl | (simp; done) | (simp [*]; done)), H', ⟨by first | omega | exact Nat.le_refl _⟩, ⟨by (with_reducible repeat (first | refine blk_drewN ?_ _ | refine blk_drew ?_ | refine blk_alloc ?_ _)); exact BK138.out⟩, ⟨by repeat (first | (with_reducible first | exact HB.out | apply below_alloc | apply pw_below_drewN | apply below_drew1 | refine below_set ?_ GE138.out) | exact HB.out)⟩⟩
    · rw [if_neg c5] at H
      have c5b0 : decide (a0 < 0) = false := decide_eq_false c5
      clear c5
      (first | rw [c5b0] | (simp only [i64_w, i32_w]; rw [c5b0]) | skip)
      by_cases c6 : a0 > 3
      · rw [if_pos c6] at H
        have c6b0 : decide (3 < a0) = true := decide_eq_true c6
        clear c6
        have H' := Aside0.mk H
        clear H
        go_wp2
        repeat (go_quiet (fail); try go_wp2)
        go_meet
        case rel => exact ⟨_, (true), (by first | rfl | (simp; done) | (simp [*]; done)), H', ⟨by first | omega | exact Nat.le_refl _⟩, ⟨by (with_reducible repeat (first | refine blk_drewN ?_ _ | refine blk_drew ?_ | refine blk_alloc ?_ _)); exact BK138.out⟩, ⟨by repeat (first | (with_reducible first | exact HB.out | apply below_alloc | apply pw_below_drewN | apply below_drew1 | refine below_set ?_ GE138.out) | exact HB.out)⟩⟩
      · rw [if_neg c6] at H
        have c6b0 : decide (3 < a0) = false := decide_eq_false c6
        clear c6
        by_cases c7 : a1_1 < 0
        · rw [if_pos c7] at H
          have c7b0 : decide (a1_1 < 0) = true := decide_eq_true c7
          clear c7
          have H' := Aside0.mk H
          clear H
          have hcz8_0 : w4.cell? ⟨gb138, 0, none⟩ = some (.int .i64 a1_0) := (blk_cell BK138.out 0).trans rfl
          have hcz8_1 : w4.cell? ⟨gb138, 1, none⟩ = some (.int .i64 a1_1) := (blk_cell BK138.out 1).trans rfl
          have hcz8_2 : w4.cell? ⟨gb138, 2, none⟩ = some (.bool a1_2) := (blk_cell BK138.out 2).trans rfl
          have hcz8_3 : w4.cell? ⟨gb138, 3, none⟩ = some (.bool a1_3) := (blk_cell BK138.out 3).trans rfl
          have hcz8_4 : w4.cell? ⟨gb138, 4, none⟩ = some (.bool a1_4) := (blk_cell BK138.out 4).trans rfl
          have hcz8_5 : w4.cell? ⟨gb138, 5, none⟩ = some (.bool a1_5) := (blk_cell BK138.out 5).trans rfl
          have hcz8_6 : w4.cell? ⟨gb138, 6, none⟩ = some (.int .i64 a1_6) := (blk_cell BK138.out 6).trans rfl
          have hfz8_0 := blk_frozen BK138.out 0
          have hfz8_1 := blk_frozen BK138.out 1
          have hfz8_2 := blk_frozen BK138.out 2
          have hfz8_3 := blk_frozen BK138.out 3
          have hfz8_4 := blk_frozen BK138.out 4
          have hfz8_5 := blk_frozen BK138.out 5
          have hfz8_6 := blk_frozen BK138.out 6
          go_wp2
          repeat (go_quiet (fail); try go_wp2)
          go_meet
          case rel => exact ⟨_, (true), (by first | rfl | (simp; done) | (simp [*]; done)), H', ⟨by first | omega | exact Nat.le_refl _⟩, ⟨by (with_reducible repeat (first | refine blk_drewN ?_ _ | refine blk_drew ?_ | refine blk_alloc ?_ _)); exact BK138.out⟩, ⟨by repeat (first | (with_reducible first | exact HB.out | apply below_alloc | apply pw_below_drewN | apply below_drew1 | refine below_set ?_ GE138.out) | exact HB.out)⟩⟩
        · rw [if_neg c7] at H
          have c7b0 : decide (a1_1 < 0) = false := decide_eq_false c7
          clear c7
          by_cases c9 : a1_1 ≥ 512
          · rw [if_pos c9] at H
            have c9b0 : decide (512 ≤ a1_1) = true := decide_eq_true c9
            clear c9
            have H' := Aside0.mk H
            clear H
            have hcz10_0 : w4.cell? ⟨gb138, 0, none⟩ = some (.int .i64 a1_0) := (blk_cell BK138.out 0).trans rfl
            have hcz10_1 : w4.cell? ⟨gb138, 1, none⟩ = some (.int .i64 a1_1) := (blk_cell BK138.out 1).trans rfl
            have hcz10_2 : w4.cell? ⟨gb138, 2, none⟩ = some (.bool a1_2) := (blk_cell BK138.out 2).trans rfl
            have hcz10_3 : w4.cell? ⟨gb138, 3, none⟩ = some (.bool a1_3) := (blk_cell BK138.out 3).trans rfl
            have hcz10_4 : w4.cell? ⟨gb138, 4, none⟩ = some (.bool a1_4) := (blk_cell BK138.out 4).trans rfl
            have hcz10_5 : w4.cell? ⟨gb138, 5, none⟩ = some (.bool a1_5) := (blk_cell BK138.out 5).trans rfl
            have hcz10_6 : w4.cell? ⟨gb138, 6, none⟩ = some (.int .i64 a1_6) := (blk_cell BK138.out 6).trans rfl
            have hfz10_0 := blk_frozen BK138.out 0
            have hfz10_1 := blk_frozen BK138.out 1
            have hfz10_2 := blk_frozen BK138.out 2
            have hfz10_3 := blk_frozen BK138.out 3
            have hfz10_4 := blk_frozen BK138.out 4
            have hfz10_5 := blk_frozen BK138.out 5
            have hfz10_6 := blk_frozen BK138.out 6
            go_wp2
            repeat (go_quiet (fail); try go_wp2)
            go_meet
            case rel => exact ⟨_, (true), (by first | rfl | (simp; done) | (simp [*]; done)), H', ⟨by first | omega | exact Nat.le_refl _⟩, ⟨by (with_reducible repeat (first | refine blk_drewN ?_ _ | refine blk_drew ?_ | refine blk_alloc ?_ _)); exact BK138.out⟩, ⟨by repeat (first | (with_reducible first | exact HB.out | apply below_alloc | apply pw_below_drewN | apply below_drew1 | refine below_set ?_ GE138.out) | exact HB.out)⟩⟩
          · rw [if_neg c9] at H
            have c9b0 : decide (512 ≤ a1_1) = false := decide_eq_false c9
            clear c9
            by_cases c11 : a1_6 < 0
            · rw [if_pos c11] at H
              have c11b0 : decide (a1_6 < 0) = true := decide_eq_true c11
              clear c11
              have H' := Aside0.mk H
              clear H
              have hcz12_0 : w4.cell? ⟨gb138, 0, none⟩ = some (.int .i64 a1_0) := (blk_cell BK138.out 0).trans rfl
              have hcz12_1 : w4.cell? ⟨gb138, 1, none⟩ = some (.int .i64 a1_1) := (blk_cell BK138.out 1).trans rfl
              have hcz12_2 : w4.cell? ⟨gb138, 2, none⟩ = some (.bool a1_2) := (blk_cell BK138.out 2).trans rfl
              have hcz12_3 : w4.cell? ⟨gb138, 3, none⟩ = some (.bool a1_3) := (blk_cell BK138.out 3).trans rfl
              have hcz12_4 : w4.cell? ⟨gb138, 4, none⟩ = some (.bool a1_4) := (blk_cell BK138.out 4).trans rfl
              have hcz12_5 : w4.cell? ⟨gb138, 5, none⟩ = some (.bool a1_5) := (blk_cell BK138.out 5).trans rfl
              have hcz12_6 : w4.cell? ⟨gb138, 6, none⟩ = some (.int .i64 a1_6) := (blk_cell BK138.out 6).trans rfl
              have hfz12_0 := blk_frozen BK138.out 0
              have hfz12_1 := blk_frozen BK138.out 1
              have hfz12_2 := blk_frozen BK138.out 2
              have hfz12_3 := blk_frozen BK138.out 3
              have hfz12_4 := blk_frozen BK138.out 4
              have hfz12_5 := blk_frozen BK138.out 5
              have hfz12_6 := blk_frozen BK138.out 6
              go_wp2
              repeat (go_quiet (fail); try go_wp2)
              go_meet
              case rel => exact ⟨_, (true), (by first | rfl | (simp; done) | (simp [*]; done)), H', ⟨by first | omega | exact Nat.le_refl _⟩, ⟨by (with_reducible repeat (first | refine blk_drewN ?_ _ | refine blk_drew ?_ | refine blk_alloc ?_ _)); exact BK138.out⟩, ⟨by repeat (first | (with_reducible first | exact HB.out | apply below_alloc | apply pw_below_drewN | apply below_drew1 | refine below_set ?_ GE138.out) | exact HB.out)⟩⟩
            · rw [if_neg c11] at H
              have c11b0 : decide (a1_6 < 0) = false := decide_eq_false c11
              clear c11
              by_cases c13 : a1_6 > 7
              · rw [if_pos c13] at H
                have c13b0 : decide (7 < a1_6) = true := decide_eq_true c13
                clear c13
                have H' := Aside0.mk H
                clear H
                have hcz14_0 : w4.cell? ⟨gb138, 0, none⟩ = some (.int .i64 a1_0) := (blk_cell BK138.out 0).trans rfl
                have hcz14_1 : w4.cell? ⟨gb138, 1, none⟩ = some (.int .i64 a1_1) := (blk_cell BK138.out 1).trans rfl
                have hcz14_2 : w4.cell? ⟨gb138, 2, none⟩ = some (.bool a1_2) := (blk_cell BK138.out 2).trans rfl
                have hcz14_3 : w4.cell? ⟨gb138, 3, none⟩ = some (.bool a1_3) := (blk_cell BK138.out 3).trans rfl
                have hcz14_4 : w4.cell? ⟨gb138, 4, none⟩ = some (.bool a1_4) := (blk_cell BK138.out 4).trans rfl
                have hcz14_5 : w4.cell? ⟨gb138, 5, none⟩ = some (.bool a1_5) := (blk_cell BK138.out 5).trans rfl
                have hcz14_6 : w4.cell? ⟨gb138, 6, none⟩ = some (.int .i64 a1_6) := (blk_cell BK138.out 6).trans rfl
                have hfz14_0 := blk_frozen BK138.out 0
                have hfz14_1 := blk_frozen BK138.out 1
                have hfz14_2 := blk_frozen BK138.out 2
                have hfz14_3 := blk_frozen BK138.out 3
                have hfz14_4 := blk_frozen BK138.out 4
                have hfz14_5 := blk_frozen BK138.out 5
                have hfz14_6 := blk_frozen BK138.out 6
                go_wp2
                repeat (go_quiet (fail); try go_wp2)
                go_meet
                case rel => exact ⟨_, (true), (by first | rfl | (simp; done) | (simp [*]; done)), H', ⟨by first | omega | exact Nat.le_refl _⟩, ⟨by (with_reducible repeat (first | refine blk_drewN ?_ _ | refine blk_drew ?_ | refine blk_alloc ?_ _)); exact BK138.out⟩, ⟨by repeat (first | (with_reducible first | exact HB.out | apply below_alloc | apply pw_below_drewN | apply below_drew1 | refine below_set ?_ GE138.out) | exact HB.out)⟩⟩
              · rw [if_neg c13] at H
                have c13b0 : decide (7 < a1_6) = false := decide_eq_false c13
                clear c13
                replace H := Option.bind_eq_some_iff.mp H
                obtain ⟨t139, A150, H⟩ := H
                replace H : (pte_Encode.j0 k (!t139) a1_0 a1_1 a1_2 a1_3 a1_4 a1_5 a1_6) = some (r1, r2) := H
                have A15 := Aside0.mk A150
                clear A150
                have H' := Aside0.mk H
                clear H
                have hcz16_0 : w4.cell? ⟨gb138, 0, none⟩ = some (.int .i64 a1_0) := (blk_cell BK138.out 0).trans rfl
                have hcz16_1 : w4.cell? ⟨gb138, 1, none⟩ = some (.int .i64 a1_1) := (blk_cell BK138.out 1).trans rfl
                have hcz16_2 : w4.cell? ⟨gb138, 2, none⟩ = some (.bool a1_2) := (blk_cell BK138.out 2).trans rfl
                have hcz16_3 : w4.cell? ⟨gb138, 3, none⟩ = some (.bool a1_3) := (blk_cell BK138.out 3).trans rfl
                have hcz16_4 : w4.cell? ⟨gb138, 4, none⟩ = some (.bool a1_4) := (blk_cell BK138.out 4).trans rfl
                have hcz16_5 : w4.cell? ⟨gb138, 5, none⟩ = some (.bool a1_5) := (blk_cell BK138.out 5).trans rfl
                have hcz16_6 : w4.cell? ⟨gb138, 6, none⟩ = some (.int .i64 a1_6) := (blk_cell BK138.out 6).trans rfl
                have hfz16_0 := blk_frozen BK138.out 0
                have hfz16_1 := blk_frozen BK138.out 1
                have hfz16_2 := blk_frozen BK138.out 2
                have hfz16_3 := blk_frozen BK138.out 3
                have hfz16_4 := blk_frozen BK138.out 4
                have hfz16_5 := blk_frozen BK138.out 5
                have hfz16_6 := blk_frozen BK138.out 6
                go_wp2_with (first | (go_at_call 35; (with_reducible refine (pte_may.calls a0 a1_0 a1_1 a1_2 a1_3 a1_4 a1_5 a1_6 t139 _ A15.out).mono ?_); rintro e w17 ⟨rfl, hb⟩; have n0_ := Aside0.mk (blk_below (g := gb138) (o := .cells #[.int .i64 a1_0, .int .i64 a1_1, .bool a1_2, .bool a1_3, .bool a1_4, .bool a1_5, .int .i64 a1_6] 37 (0, 0)) (by (with_reducible repeat (first | refine blk_drewN ?_ _ | refine blk_drew ?_ | refine blk_alloc ?_ _)); exact BK138.out) hb); have n1_ := Aside0.mk (below_step (by repeat (first | (with_reducible first | exact HB.out | apply below_alloc | apply pw_below_drewN | apply below_drew1 | refine below_set ?_ GE138.out) | exact HB.out)) hb); clear BK138; clear HB; have BK138 := n0_; have HB := n1_; clear n0_ n1_; (try clear hb); (try clear hb2); (try clear hk); (try clear hi)))
                repeat (go_quiet (first | (go_at_call 35; (with_reducible refine (pte_may.calls a0 a1_0 a1_1 a1_2 a1_3 a1_4 a1_5 a1_6 t139 _ A15.out).mono ?_); rintro e w17 ⟨rfl, hb⟩; have n0_ := Aside0.mk (blk_below (g := gb138) (o := .cells #[.int .i64 a1_0, .int .i64 a1_1, .bool a1_2, .bool a1_3, .bool a1_4, .bool a1_5, .int .i64 a1_6] 37 (0, 0)) (by (with_reducible repeat (first | refine blk_drewN ?_ _ | refine blk_drew ?_ | refine blk_alloc ?_ _)); exact BK138.out) hb); have n1_ := Aside0.mk (below_step (by repeat (first | (with_reducible first | exact HB.out | apply below_alloc | apply pw_below_drewN | apply below_drew1 | refine below_set ?_ GE138.out) | exact HB.out)) hb); clear BK138; clear HB; have BK138 := n0_; have HB := n1_; clear n0_ n1_; (try clear hb); (try clear hb2); (try clear hk); (try clear hi))); try go_wp2_with (first | (go_at_call 35; (with_reducible refine (pte_may.calls a0 a1_0 a1_1 a1_2 a1_3 a1_4 a1_5 a1_6 t139 _ A15.out).mono ?_); rintro e w17 ⟨rfl, hb⟩; have n0_ := Aside0.mk (blk_below (g := gb138) (o := .cells #[.int .i64 a1_0, .int .i64 a1_1, .bool a1_2, .bool a1_3, .bool a1_4, .bool a1_5, .int .i64 a1_6] 37 (0, 0)) (by (with_reducible repeat (first | refine blk_drewN ?_ _ | refine blk_drew ?_ | refine blk_alloc ?_ _)); exact BK138.out) hb); have n1_ := Aside0.mk (below_step (by repeat (first | (with_reducible first | exact HB.out | apply below_alloc | apply pw_below_drewN | apply below_drew1 | refine below_set ?_ GE138.out) | exact HB.out)) hb); clear BK138; clear HB; have BK138 := n0_; have HB := n1_; clear n0_ n1_; (try clear hb); (try clear hb2); (try clear hk); (try clear hi))))
                go_meet
                case rel => exact ⟨_, (!t139), (by first | rfl | (simp; done) | (simp [*]; done)), H', ⟨by first | omega | exact Nat.le_refl _⟩, ⟨by (with_reducible repeat (first | refine blk_drewN ?_ _ | refine blk_drew ?_ | refine blk_alloc ?_ _)); exact BK138.out⟩, ⟨by repeat (first | (with_reducible first | exact HB.out | apply below_alloc | apply pw_below_drewN | apply below_drew1 | refine below_set ?_ GE138.out) | exact HB.out)⟩⟩
  case rest =>
    clear HC3
    try clear c1
    try clear p2
    try clear c3
    try clear c5
    try clear c5b0
    try clear c6
    try clear c6b0
    try clear c7
    try clear c7b0
    try clear c9
    try clear c9b0
    try clear c11
    try clear c11b0
    try clear c13
    try clear c13b0
    try clear hcz10_0
    try clear hcz10_1
    try clear hcz10_2
    try clear hcz10_3
    try clear hcz10_4
    try clear hcz10_5
    try clear hcz10_6
    try clear hcz12_0
    try clear hcz12_1
    try clear hcz12_2
    try clear hcz12_3
    try clear hcz12_4
    try clear hcz12_5
    try clear hcz12_6
    try clear hcz14_0
    try clear hcz14_1
    try clear hcz14_2
    try clear hcz14_3
    try clear hcz14_4
    try clear hcz14_5
    try clear hcz14_6
    try clear hcz16_0
    try clear hcz16_1
    try clear hcz16_2
    try clear hcz16_3
    try clear hcz16_4
    try clear hcz16_5
    try clear hcz16_6
    try clear hcz8_0
    try clear hcz8_1
    try clear hcz8_2
    try clear hcz8_3
    try clear hcz8_4
    try clear hcz8_5
    try clear hcz8_6
    try clear hfz10_0
    try clear hfz10_1
    try clear hfz10_2
    try clear hfz10_3
    try clear hfz10_4
    try clear hfz10_5
    try clear hfz10_6
    try clear hfz12_0
    try clear hfz12_1
    try clear hfz12_2
    try clear hfz12_3
    try clear hfz12_4
    try clear hfz12_5
    try clear hfz12_6
    try clear hfz14_0
    try clear hfz14_1
    try clear hfz14_2
    try clear hfz14_3
    try clear hfz14_4
    try clear hfz14_5
    try clear hfz14_6
    try clear hfz16_0
    try clear hfz16_1
    try clear hfz16_2
    try clear hfz16_3
    try clear hfz16_4
    try clear hfz16_5
    try clear hfz16_6
    try clear hfz8_0
    try clear hfz8_1
    try clear hfz8_2
    try clear hfz8_3
    try clear hfz8_4
    try clear hfz8_5
    try clear hfz8_6
    obtain ⟨kq, x38_2, rfl, HA, HJ2, BK138, HB⟩ := hcut
    cases kq with
    | zero => exact absurd HA.out (by simp [pte_Encode.j0])
    | succ kj2 =>
      have H := HA.out
      clear HA
      simp only [pte_Encode.j0] at H
      by_cases c18 : x38_2 = true
      · subst c18
        have H1 : (some (0, some 1)) = some (r1, r2) := by rw [if_pos rfl] at H; exact H
        clear H
        have H := H1
        clear H1
        simp only [Option.some.injEq, Prod.mk.injEq] at H
        obtain ⟨rfl, rfl⟩ := H
        go_wp2
        repeat (go_quiet (fail); try go_wp2)
        go_ret2
        exact ⟨by first | rfl | (simp [errW_none, errW_some] <;> rfl) | (simp [*, errW_none, errW_some] <;> rfl), by repeat (first | (with_reducible first | exact HB.out | apply below_alloc | apply pw_below_drewN | apply below_drew1 | refine below_set ?_ GE138.out) | exact HB.out)⟩
      · replace c18 := Bool.eq_false_iff.mpr c18
        subst c18
        have H1 : (if a1_0 = 0 then (some (0, none)) else (if a1_0 = 1 then (some (Go.bits .or .u64 (Go.bits .or .u64 (IntKind.u64.wrap ((IntKind.u64.wrap (a1_1)) * 4096)) 1) 2, none)) else (if a1_0 = 3 then (pte_Encode.j1 kj2 (Go.bits .or .u64 (IntKind.u64.wrap ((IntKind.u64.wrap (a1_1)) * 4096)) 67) a1_0 a1_1 a1_2 a1_3 a1_4 a1_5 a1_6) else (if a1_0 = 2 then (pte_Encode.j1 kj2 (Go.bits .or .u64 (IntKind.u64.wrap ((IntKind.u64.wrap (a1_1)) * 4096)) 65) a1_0 a1_1 a1_2 a1_3 a1_4 a1_5 a1_6) else (pte_Encode.j1 kj2 (Go.bits .or .u64 (IntKind.u64.wrap ((IntKind.u64.wrap (a1_1)) * 4096)) 10) a1_0 a1_1 a1_2 a1_3 a1_4 a1_5 a1_6))))) = some (r1, r2) := by rw [if_neg (show ¬ (false = true) by decide)] at H; exact H
        clear H
        have H := H1
        clear H1
        have HC19 := Aside0.mk H
        clear H
        have hcz20_0 : wc.cell? ⟨gb138, 0, none⟩ = some (.int .i64 a1_0) := (blk_cell BK138.out 0).trans rfl
        have hcz20_1 : wc.cell? ⟨gb138, 1, none⟩ = some (.int .i64 a1_1) := (blk_cell BK138.out 1).trans rfl
        have hcz20_2 : wc.cell? ⟨gb138, 2, none⟩ = some (.bool a1_2) := (blk_cell BK138.out 2).trans rfl
        have hcz20_3 : wc.cell? ⟨gb138, 3, none⟩ = some (.bool a1_3) := (blk_cell BK138.out 3).trans rfl
        have hcz20_4 : wc.cell? ⟨gb138, 4, none⟩ = some (.bool a1_4) := (blk_cell BK138.out 4).trans rfl
        have hcz20_5 : wc.cell? ⟨gb138, 5, none⟩ = some (.bool a1_5) := (blk_cell BK138.out 5).trans rfl
        have hcz20_6 : wc.cell? ⟨gb138, 6, none⟩ = some (.int .i64 a1_6) := (blk_cell BK138.out 6).trans rfl
        have hfz20_0 := blk_frozen BK138.out 0
        have hfz20_1 := blk_frozen BK138.out 1
        have hfz20_2 := blk_frozen BK138.out 2
        have hfz20_3 := blk_frozen BK138.out 3
        have hfz20_4 := blk_frozen BK138.out 4
        have hfz20_5 := blk_frozen BK138.out 5
        have hfz20_6 := blk_frozen BK138.out 6
        go_upto_block 0 with (fail)
        repeat (go_quiet (fail); go_upto_block 0 with (fail))
        go_cut [6] (fun v6 wc => ∃ (kq : Nat) (x6_18 : Int), v6 = .int .u64 x6_18 ∧ Aside0 (pte_Encode.j1 kq x6_18 a1_0 a1_1 a1_2 a1_3 a1_4 a1_5 a1_6 = some (r1, r2)) ∧ Aside0 (kq ≤ kj2) ∧ Aside0 (wc.heap[gb138]? = some (.cells #[.int .i64 a1_0, .int .i64 a1_1, .bool a1_2, .bool a1_3, .bool a1_4, .bool a1_5, .int .i64 a1_6] 37 (0, 0))) ∧ Aside0 (Below w.heap.size w wc))
        case first =>
          have H := HC19.out
          clear HC19
          by_cases c21 : a1_0 = 0
          · rw [if_pos c21] at H
            have c21b0 : (a1_0 == 0) = true := beq_iff_eq.mpr c21
            have c21b1 : (a1_0 != 0) = false := bne_eq_false_iff_eq.mpr c21
            clear c21
            (first | rw [c21b0] | (simp only [i64_w, i32_w]; rw [c21b0]) | skip)
            simp only [Option.some.injEq, Prod.mk.injEq] at H
            obtain ⟨rfl, rfl⟩ := H
            go_wp2
            repeat (go_quiet (fail); try go_wp2)
            go_ret2
            exact ⟨by first | rfl | (simp [errW_none, errW_some] <;> rfl) | (simp [*, errW_none, errW_some] <;> rfl), by repeat (first | (with_reducible first | exact HB.out | apply below_alloc | apply pw_below_drewN | apply below_drew1 | refine below_set ?_ GE138.out) | exact HB.out)⟩
          · rw [if_neg c21] at H
            have c21b0 : (a1_0 == 0) = false := beq_eq_false_iff_ne.mpr c21
            have c21b1 : (a1_0 != 0) = true := bne_iff_ne.mpr c21
            (first | rw [c21b0] | (simp only [i64_w, i32_w]; rw [c21b0]) | skip)
            by_cases c22 : a1_0 = 1
            · rw [if_pos c22] at H
              have c22b0 : (a1_0 == 1) = true := beq_iff_eq.mpr c22
              have c22b1 : (a1_0 != 1) = false := bne_eq_false_iff_eq.mpr c22
              clear c22
              simp only [Option.some.injEq, Prod.mk.injEq] at H
              obtain ⟨rfl, rfl⟩ := H
              go_wp2
              repeat (go_quiet (fail); try go_wp2)
              go_ret2
              exact ⟨by first | rfl | (simp [errW_none, errW_some] <;> rfl) | (simp [*, errW_none, errW_some] <;> rfl), by repeat (first | (with_reducible first | exact HB.out | apply below_alloc | apply pw_below_drewN | apply below_drew1 | refine below_set ?_ GE138.out) | exact HB.out)⟩
            · rw [if_neg c22] at H
              have c22b0 : (a1_0 == 1) = false := beq_eq_false_iff_ne.mpr c22
              have c22b1 : (a1_0 != 1) = true := bne_iff_ne.mpr c22
              by_cases c23 : a1_0 = 3
              · rw [if_pos c23] at H
                have c23b0 : (a1_0 == 3) = true := beq_iff_eq.mpr c23
                have c23b1 : (a1_0 != 3) = false := bne_eq_false_iff_eq.mpr c23
                clear c23
                have H' := Aside0.mk H
                clear H
                go_wp2
                repeat (go_quiet (fail); try go_wp2)
                go_meet
                case rel => exact ⟨_, (Go.bits .or .u64 (IntKind.u64.wrap ((IntKind.u64.wrap (a1_1)) * 4096)) 67), (by first | rfl | (simp; done) | (simp [*]; done)), H', ⟨by have := HJ2.out; first | omega | exact Nat.le_refl _⟩, ⟨by (with_reducible repeat (first | refine blk_drewN ?_ _ | refine blk_drew ?_ | refine blk_alloc ?_ _)); exact BK138.out⟩, ⟨by repeat (first | (with_reducible first | exact HB.out | apply below_alloc | apply pw_below_drewN | apply below_drew1 | refine below_set ?_ GE138.out) | exact HB.out)⟩⟩
              · rw [if_neg c23] at H
                have c23b0 : (a1_0 == 3) = false := beq_eq_false_iff_ne.mpr c23
                have c23b1 : (a1_0 != 3) = true := bne_iff_ne.mpr c23
                by_cases c24 : a1_0 = 2
                · rw [if_pos c24] at H
                  have c24b0 : (a1_0 == 2) = true := beq_iff_eq.mpr c24
                  have c24b1 : (a1_0 != 2) = false := bne_eq_false_iff_eq.mpr c24
                  clear c24
                  have H' := Aside0.mk H
                  clear H
                  go_wp2
                  repeat (go_quiet (fail); try go_wp2)
                  go_meet
                  case rel => exact ⟨_, (Go.bits .or .u64 (IntKind.u64.wrap ((IntKind.u64.wrap (a1_1)) * 4096)) 65), (by first | rfl | (simp; done) | (simp [*]; done)), H', ⟨by have := HJ2.out; first | omega | exact Nat.le_refl _⟩, ⟨by (with_reducible repeat (first | refine blk_drewN ?_ _ | refine blk_drew ?_ | refine blk_alloc ?_ _)); exact BK138.out⟩, ⟨by repeat (first | (with_reducible first | exact HB.out | apply below_alloc | apply pw_below_drewN | apply below_drew1 | refine below_set ?_ GE138.out) | exact HB.out)⟩⟩
                · rw [if_neg c24] at H
                  have c24b0 : (a1_0 == 2) = false := beq_eq_false_iff_ne.mpr c24
                  have c24b1 : (a1_0 != 2) = true := bne_iff_ne.mpr c24
                  have H' := Aside0.mk H
                  clear H
                  go_wp2
                  repeat (go_quiet (fail); try go_wp2)
                  go_meet
                  case rel => exact ⟨_, (Go.bits .or .u64 (IntKind.u64.wrap ((IntKind.u64.wrap (a1_1)) * 4096)) 10), (by first | rfl | (simp; done) | (simp [*]; done)), H', ⟨by have := HJ2.out; first | omega | exact Nat.le_refl _⟩, ⟨by (with_reducible repeat (first | refine blk_drewN ?_ _ | refine blk_drew ?_ | refine blk_alloc ?_ _)); exact BK138.out⟩, ⟨by repeat (first | (with_reducible first | exact HB.out | apply below_alloc | apply pw_below_drewN | apply below_drew1 | refine below_set ?_ GE138.out) | exact HB.out)⟩⟩
        case rest =>
          clear HC19
          try clear c1
          try clear c2
          try clear p2
          try clear c3
          try clear c5
          try clear c5b0
          try clear c6
          try clear c6b0
          try clear c7
          try clear c7b0
          try clear c9
          try clear c9b0
          try clear c11
          try clear c11b0
          try clear c13
          try clear c13b0
          try clear c18
          try clear c21
          try clear c21b0
          try clear c21b1
          try clear c22
          try clear c22b0
          try clear c22b1
          try clear c23
          try clear c23b0
          try clear c23b1
          try clear c24
          try clear c24b0
          try clear c24b1
          try clear hcz10_0
          try clear hcz10_1
          try clear hcz10_2
          try clear hcz10_3
          try clear hcz10_4
          try clear hcz10_5
          try clear hcz10_6
          try clear hcz12_0
          try clear hcz12_1
          try clear hcz12_2
          try clear hcz12_3
          try clear hcz12_4
          try clear hcz12_5
          try clear hcz12_6
          try clear hcz14_0
          try clear hcz14_1
          try clear hcz14_2
          try clear hcz14_3
          try clear hcz14_4
          try clear hcz14_5
          try clear hcz14_6
          try clear hcz16_0
          try clear hcz16_1
          try clear hcz16_2
          try clear hcz16_3
          try clear hcz16_4
          try clear hcz16_5
          try clear hcz16_6
          try clear hcz20_0
          try clear hcz20_1
          try clear hcz20_2
          try clear hcz20_3
          try clear hcz20_4
          try clear hcz20_5
          try clear hcz20_6
          try clear hcz8_0
          try clear hcz8_1
          try clear hcz8_2
          try clear hcz8_3
          try clear hcz8_4
          try clear hcz8_5
          try clear hcz8_6
          try clear hfz10_0
          try clear hfz10_1
          try clear hfz10_2
          try clear hfz10_3
          try clear hfz10_4
          try clear hfz10_5
          try clear hfz10_6
          try clear hfz12_0
          try clear hfz12_1
          try clear hfz12_2
          try clear hfz12_3
          try clear hfz12_4
          try clear hfz12_5
          try clear hfz12_6
          try clear hfz14_0
          try clear hfz14_1
          try clear hfz14_2
          try clear hfz14_3
          try clear hfz14_4
          try clear hfz14_5
          try clear hfz14_6
          try clear hfz16_0
          try clear hfz16_1
          try clear hfz16_2
          try clear hfz16_3
          try clear hfz16_4
          try clear hfz16_5
          try clear hfz16_6
          try clear hfz20_0
          try clear hfz20_1
          try clear hfz20_2
          try clear hfz20_3
          try clear hfz20_4
          try clear hfz20_5
          try clear hfz20_6
          try clear hfz8_0
          try clear hfz8_1
          try clear hfz8_2
          try clear hfz8_3
          try clear hfz8_4
          try clear hfz8_5
          try clear hfz8_6
          try clear p2
          obtain ⟨kq, x6_18, rfl, HA, HJ18, BK138, HB⟩ := hcut
          cases kq with
          | zero => exact absurd HA.out (by simp [pte_Encode.j1])
          | succ kj18 =>
            have H := HA.out
            clear HA
            simp only [pte_Encode.j1] at H
            replace H := Option.bind_eq_some_iff.mp H
            obtain ⟨t140, A250, H⟩ := H
            replace H : ((pte_with.f t140 18014398509481984 (!a1_3)).bind fun t141 => ((pte_with.f t141 1024 a1_4).bind fun t142 => ((pte_with.f t142 4503599627370496 a1_5).bind fun t143 => (some (t143, none))))) = some (r1, r2) := H
            have A25 := Aside0.mk A250
            clear A250
            replace H := Option.bind_eq_some_iff.mp H
            obtain ⟨t141, A260, H⟩ := H
            replace H : ((pte_with.f t141 1024 a1_4).bind fun t142 => ((pte_with.f t142 4503599627370496 a1_5).bind fun t143 => (some (t143, none)))) = some (r1, r2) := H
            have A26 := Aside0.mk A260
            clear A260
            replace H := Option.bind_eq_some_iff.mp H
            obtain ⟨t142, A270, H⟩ := H
            replace H : ((pte_with.f t142 4503599627370496 a1_5).bind fun t143 => (some (t143, none))) = some (r1, r2) := H
            have A27 := Aside0.mk A270
            clear A270
            replace H := Option.bind_eq_some_iff.mp H
            obtain ⟨t143, A280, H⟩ := H
            replace H : (some (t143, none)) = some (r1, r2) := H
            have A28 := Aside0.mk A280
            clear A280
            simp only [Option.some.injEq, Prod.mk.injEq] at H
            obtain ⟨rfl, rfl⟩ := H
            have hcz29_0 : wc.cell? ⟨gb138, 0, none⟩ = some (.int .i64 a1_0) := (blk_cell BK138.out 0).trans rfl
            have hcz29_1 : wc.cell? ⟨gb138, 1, none⟩ = some (.int .i64 a1_1) := (blk_cell BK138.out 1).trans rfl
            have hcz29_2 : wc.cell? ⟨gb138, 2, none⟩ = some (.bool a1_2) := (blk_cell BK138.out 2).trans rfl
            have hcz29_3 : wc.cell? ⟨gb138, 3, none⟩ = some (.bool a1_3) := (blk_cell BK138.out 3).trans rfl
            have hcz29_4 : wc.cell? ⟨gb138, 4, none⟩ = some (.bool a1_4) := (blk_cell BK138.out 4).trans rfl
            have hcz29_5 : wc.cell? ⟨gb138, 5, none⟩ = some (.bool a1_5) := (blk_cell BK138.out 5).trans rfl
            have hcz29_6 : wc.cell? ⟨gb138, 6, none⟩ = some (.int .i64 a1_6) := (blk_cell BK138.out 6).trans rfl
            have hfz29_0 := blk_frozen BK138.out 0
            have hfz29_1 := blk_frozen BK138.out 1
            have hfz29_2 := blk_frozen BK138.out 2
            have hfz29_3 := blk_frozen BK138.out 3
            have hfz29_4 := blk_frozen BK138.out 4
            have hfz29_5 := blk_frozen BK138.out 5
            have hfz29_6 := blk_frozen BK138.out 6
            go_wp2_with (first | (go_at_call 36; (with_reducible refine (pte_with.calls (Go.bits .or .u64 x6_18 (IntKind.u64.wrap ((IntKind.u64.wrap (a1_6)) * 36028797018963968))) 128 (!a1_2) t140 _ A25.out).mono ?_); rintro e w' ⟨rfl, ⟨nd, rfl⟩⟩; (try first | exact ⟨rfl, _, World.drewN_drewN _ _ _⟩ | exact ⟨rfl, _, Eq.trans (World.drewN_drewN _ _ _) (congrArg (World.drewN _) (Nat.add_assoc _ _ _))⟩)) | (go_at_call 36; (with_reducible refine (pte_with.calls t140 18014398509481984 (!a1_3) t141 _ A26.out).mono ?_); rintro e w' ⟨rfl, ⟨nd, rfl⟩⟩; (try first | exact ⟨rfl, _, World.drewN_drewN _ _ _⟩ | exact ⟨rfl, _, Eq.trans (World.drewN_drewN _ _ _) (congrArg (World.drewN _) (Nat.add_assoc _ _ _))⟩)) | (go_at_call 36; (with_reducible refine (pte_with.calls t141 1024 a1_4 t142 _ A27.out).mono ?_); rintro e w' ⟨rfl, ⟨nd, rfl⟩⟩; (try first | exact ⟨rfl, _, World.drewN_drewN _ _ _⟩ | exact ⟨rfl, _, Eq.trans (World.drewN_drewN _ _ _) (congrArg (World.drewN _) (Nat.add_assoc _ _ _))⟩)) | (go_at_call 36; (with_reducible refine (pte_with.calls t142 4503599627370496 a1_5 t143 _ A28.out).mono ?_); rintro e w' ⟨rfl, ⟨nd, rfl⟩⟩; (try first | exact ⟨rfl, _, World.drewN_drewN _ _ _⟩ | exact ⟨rfl, _, Eq.trans (World.drewN_drewN _ _ _) (congrArg (World.drewN _) (Nat.add_assoc _ _ _))⟩)))
            repeat (go_quiet (first | (go_at_call 36; (with_reducible refine (pte_with.calls (Go.bits .or .u64 x6_18 (IntKind.u64.wrap ((IntKind.u64.wrap (a1_6)) * 36028797018963968))) 128 (!a1_2) t140 _ A25.out).mono ?_); rintro e w' ⟨rfl, ⟨nd, rfl⟩⟩; (try first | exact ⟨rfl, _, World.drewN_drewN _ _ _⟩ | exact ⟨rfl, _, Eq.trans (World.drewN_drewN _ _ _) (congrArg (World.drewN _) (Nat.add_assoc _ _ _))⟩)) | (go_at_call 36; (with_reducible refine (pte_with.calls t140 18014398509481984 (!a1_3) t141 _ A26.out).mono ?_); rintro e w' ⟨rfl, ⟨nd, rfl⟩⟩; (try first | exact ⟨rfl, _, World.drewN_drewN _ _ _⟩ | exact ⟨rfl, _, Eq.trans (World.drewN_drewN _ _ _) (congrArg (World.drewN _) (Nat.add_assoc _ _ _))⟩)) | (go_at_call 36; (with_reducible refine (pte_with.calls t141 1024 a1_4 t142 _ A27.out).mono ?_); rintro e w' ⟨rfl, ⟨nd, rfl⟩⟩; (try first | exact ⟨rfl, _, World.drewN_drewN _ _ _⟩ | exact ⟨rfl, _, Eq.trans (World.drewN_drewN _ _ _) (congrArg (World.drewN _) (Nat.add_assoc _ _ _))⟩)) | (go_at_call 36; (with_reducible refine (pte_with.calls t142 4503599627370496 a1_5 t143 _ A28.out).mono ?_); rintro e w' ⟨rfl, ⟨nd, rfl⟩⟩; (try first | exact ⟨rfl, _, World.drewN_drewN _ _ _⟩ | exact ⟨rfl, _, Eq.trans (World.drewN_drewN _ _ _) (congrArg (World.drewN _) (Nat.add_assoc _ _ _))⟩))); try go_wp2_with (first | (go_at_call 36; (with_reducible refine (pte_with.calls (Go.bits .or .u64 x6_18 (IntKind.u64.wrap ((IntKind.u64.wrap (a1_6)) * 36028797018963968))) 128 (!a1_2) t140 _ A25.out).mono ?_); rintro e w' ⟨rfl, ⟨nd, rfl⟩⟩; (try first | exact ⟨rfl, _, World.drewN_drewN _ _ _⟩ | exact ⟨rfl, _, Eq.trans (World.drewN_drewN _ _ _) (congrArg (World.drewN _) (Nat.add_assoc _ _ _))⟩)) | (go_at_call 36; (with_reducible refine (pte_with.calls t140 18014398509481984 (!a1_3) t141 _ A26.out).mono ?_); rintro e w' ⟨rfl, ⟨nd, rfl⟩⟩; (try first | exact ⟨rfl, _, World.drewN_drewN _ _ _⟩ | exact ⟨rfl, _, Eq.trans (World.drewN_drewN _ _ _) (congrArg (World.drewN _) (Nat.add_assoc _ _ _))⟩)) | (go_at_call 36; (with_reducible refine (pte_with.calls t141 1024 a1_4 t142 _ A27.out).mono ?_); rintro e w' ⟨rfl, ⟨nd, rfl⟩⟩; (try first | exact ⟨rfl, _, World.drewN_drewN _ _ _⟩ | exact ⟨rfl, _, Eq.trans (World.drewN_drewN _ _ _) (congrArg (World.drewN _) (Nat.add_assoc _ _ _))⟩)) | (go_at_call 36; (with_reducible refine (pte_with.calls t142 4503599627370496 a1_5 t143 _ A28.out).mono ?_); rintro e w' ⟨rfl, ⟨nd, rfl⟩⟩; (try first | exact ⟨rfl, _, World.drewN_drewN _ _ _⟩ | exact ⟨rfl, _, Eq.trans (World.drewN_drewN _ _ _) (congrArg (World.drewN _) (Nat.add_assoc _ _ _))⟩))))
            go_ret2
            exact ⟨by first | rfl | (simp [errW_none, errW_some] <;> rfl) | (simp [*, errW_none, errW_some] <;> rfl), by repeat (first | (with_reducible first | exact HB.out | apply below_alloc | apply pw_below_drewN | apply below_drew1 | refine below_set ?_ GE138.out) | exact HB.out)⟩

end Go.Proofs.Ytehbhpkmlmeblaa.Q
