-- Written by this session's program wip/tools/xprint.py (the kit's printer, turned by it); not the kit's own print.
import Derived.Test.YtehbhpkmlmeblaaQx0
namespace Go.Proofs.Ytehbhpkmlmeblaa.Q
open Go.RowKit Go.Proofs.YtehbhpkmlmeblaaW.PrintWords Go.Proofs.YtehbhpkmlmeblaaW.PrintLast Go.Proofs.YtehbhpkmlmeblaaW.PrintMore
attribute [local go_sem] max2_int min2_int max_two min_two max_three min_three max_four min_four   -- for this text's walks alone
set_option linter.unusedVariables false
set_option linter.unusedSimpArgs false

attribute [local go_sem high] eqErr_some neErr_some eqErr_left neErr_left
/-! ### paviorref02_May: function 15 -/
def paviorref02_May.j0 : Nat → Int → Bool → Int → Int → Bool → Bool → Bool → Bool → Int → Option (Bool)
  | 0, _, _, _, _, _, _, _, _, _ => none
  | k + 1, x0, x30, x207000, x207001, x207002, x207003, x207004, x207005, x207006 => if x30 = true then (some false) else (if x207000 = 0 then (if x207001 = 0 then (if x207002 = true then (some false) else (if x207003 = true then (some false) else (if x207004 = true then (some false) else (if x207005 = true then (some false) else (some (x207006 == 0)))))) else (some false)) else (if x207000 = 1 then (if x0 ≤ 2 then (if x207002 = true then (some false) else (if x207003 = true then (some false) else (if x207004 = true then (some false) else (if x207005 = true then (some false) else (some (x207006 == 0)))))) else (some false)) else (if x207000 = 2 then (if x0 = 2 then (if x207005 = true then (some false) else (some ((Int.tmod x207001 8) == 0))) else (some false)) else (if x207000 = 3 then (some (x0 == 3)) else (if x207000 = 4 then (if x207004 = true then (some false) else (some (!x207005))) else (some false))))))
def paviorref02_May.f (k : Nat) (a0 : Int) (a1_0 : Int) (a1_1 : Int) (a1_2 : Bool) (a1_3 : Bool) (a1_4 : Bool) (a1_5 : Bool) (a1_6 : Int) : Option (Bool) := if a0 < 0 then (paviorref02_May.j0 k a0 true a1_0 a1_1 a1_2 a1_3 a1_4 a1_5 a1_6) else (if a0 > 3 then (paviorref02_May.j0 k a0 true a1_0 a1_1 a1_2 a1_3 a1_4 a1_5 a1_6) else (if a1_1 < 0 then (paviorref02_May.j0 k a0 true a1_0 a1_1 a1_2 a1_3 a1_4 a1_5 a1_6) else (if a1_1 ≥ 512 then (paviorref02_May.j0 k a0 true a1_0 a1_1 a1_2 a1_3 a1_4 a1_5 a1_6) else (if a1_6 < 0 then (paviorref02_May.j0 k a0 true a1_0 a1_1 a1_2 a1_3 a1_4 a1_5 a1_6) else (paviorref02_May.j0 k a0 (decide (a1_6 > 7)) a1_0 a1_1 a1_2 a1_3 a1_4 a1_5 a1_6)))))
set_option maxHeartbeats 8000000 in
set_option maxRecDepth 100000 in
theorem paviorref02_May.calls (k : Nat) (a0 : Int) (a1_0 : Int) (a1_1 : Int) (a1_2 : Bool) (a1_3 : Bool) (a1_4 : Bool) (a1_5 : Bool) (a1_6 : Int) (r : Bool) (w : World) (h : paviorref02_May.f k a0 a1_0 a1_1 a1_2 a1_3 a1_4 a1_5 a1_6 = some r) :
    Calls Try.prog 15 #[.int .i64 a0, .agg #[.int .i64 a1_0, .int .i64 a1_1, .bool a1_2, .bool a1_3, .bool a1_4, .bool a1_5, .int .i64 a1_6]] w fun e w' => e = .returned (.bool r) ∧ Below w.heap.size w w' := by
  have hu37 := Try.underlying37
  have HB := Aside0.mk (Below.refl w.heap.size w)
  have H : (if a0 < 0 then (paviorref02_May.j0 k a0 true a1_0 a1_1 a1_2 a1_3 a1_4 a1_5 a1_6) else (if a0 > 3 then (paviorref02_May.j0 k a0 true a1_0 a1_1 a1_2 a1_3 a1_4 a1_5 a1_6) else (if a1_1 < 0 then (paviorref02_May.j0 k a0 true a1_0 a1_1 a1_2 a1_3 a1_4 a1_5 a1_6) else (if a1_1 ≥ 512 then (paviorref02_May.j0 k a0 true a1_0 a1_1 a1_2 a1_3 a1_4 a1_5 a1_6) else (if a1_6 < 0 then (paviorref02_May.j0 k a0 true a1_0 a1_1 a1_2 a1_3 a1_4 a1_5 a1_6) else (paviorref02_May.j0 k a0 (decide (a1_6 > 7)) a1_0 a1_1 a1_2 a1_3 a1_4 a1_5 a1_6)))))) = some r := h
  clear h
  have HC3 := Aside0.mk H
  clear H
  go_enter Try.func15, Try.ntmps15
  go_upto_region 1 with (first | ((with_reducible refine gate_dst (N := 3) rfl ?_); refine box_event ?hg (N := 3) ?hd (cs := #[.int .i64 a1_0, .int .i64 a1_1, .bool a1_2, .bool a1_3, .bool a1_4, .bool a1_5, .int .i64 a1_6]) (t := 37) ?hr ?_; (case hd => rfl); (case hg => rfl); (case hr => first | (go_simp; done) | (go_simp; rfl)); intro gb206 hg w4 hbox hb; have n0_ := Aside0.mk (below_step (by repeat (first | (with_reducible first | exact HB.out | apply below_alloc | apply pw_below_drewN | apply below_drew1) | exact HB.out)) hb); have n1_ := Aside0.mk (hbox); have n2_ := Aside0.mk ((by rw [hg]; exact (below_size (by repeat (first | (with_reducible first | exact HB.out | apply below_alloc | apply pw_below_drewN | apply below_drew1) | exact HB.out))) : w.heap.size ≤ gb206)); have n3_ := Aside0.mk ((by rw [hg]; exact (below_size (by repeat (first | (with_reducible first | exact HB.out | apply below_alloc | apply pw_below_drewN | apply below_drew1) | exact HB.out))) : w.heap.size ≤ gb206)); clear HB; have HB := n0_; have BK206 := n1_; have GW206 := n2_; have GE206 := n3_; clear n0_ n1_ n2_ n3_; clear hb hbox hg))
  (try simp only [Act.put, List.setIfInBounds_toArray, List.set_cons_zero, List.set_cons_succ])
  go_cut [30] (fun v30 wc => ∃ (kq : Nat) (x30_2 : Bool), v30 = .bool x30_2 ∧ Aside0 (paviorref02_May.j0 kq a0 x30_2 a1_0 a1_1 a1_2 a1_3 a1_4 a1_5 a1_6 = some r) ∧ Aside0 (kq ≤ k) ∧ Aside0 (wc.heap[gb206]? = some (.cells #[.int .i64 a1_0, .int .i64 a1_1, .bool a1_2, .bool a1_3, .bool a1_4, .bool a1_5, .int .i64 a1_6] 37 (0, 0))) ∧ Aside0 (Below w.heap.size w wc))
  case first =>
    have H := HC3.out
    clear HC3
    by_cases c5 : a0 < 0
    · rw [if_pos c5] at H
      have c5b0 : decide (a0 < 0) = true := decide_eq_true c5
      clear c5
      (first | rw [c5b0] | (simp only [i64_w, i32_w]; rw [c5b0]) | skip)
      have H' := Aside0.mk H
      clear H
      go_wp2
      go_meet
      case rel => exact ⟨_, (true), (by first | rfl | (simp; done) | (simp [*]; done)), H', ⟨by first | omega | exact Nat.le_refl _⟩, ⟨by (with_reducible repeat (first | refine blk_drewN ?_ _ | refine blk_drew ?_ | refine blk_alloc ?_ _)); exact BK206.out⟩, ⟨by repeat (first | (with_reducible first | exact HB.out | apply below_alloc | apply pw_below_drewN | apply below_drew1 | refine below_set ?_ GE206.out) | exact HB.out)⟩⟩
    · rw [if_neg c5] at H
      have c5b0 : decide (a0 < 0) = false := decide_eq_false c5
      clear c5
      (first | rw [c5b0] | (simp only [i64_w, i32_w]; rw [c5b0]) | skip)
      by_cases c6 : a0 > 3
      · rw [if_pos c6] at H
        have c6b0 : decide (3 < a0) = true := decide_eq_true c6
        clear c6
        have H' := Aside0.mk H
        clear H
        go_wp2
        go_meet
        case rel => exact ⟨_, (true), (by first | rfl | (simp; done) | (simp [*]; done)), H', ⟨by first | omega | exact Nat.le_refl _⟩, ⟨by (with_reducible repeat (first | refine blk_drewN ?_ _ | refine blk_drew ?_ | refine blk_alloc ?_ _)); exact BK206.out⟩, ⟨by repeat (first | (with_reducible first | exact HB.out | apply below_alloc | apply pw_below_drewN | apply below_drew1 | refine below_set ?_ GE206.out) | exact HB.out)⟩⟩
      · rw [if_neg c6] at H
        have c6b0 : decide (3 < a0) = false := decide_eq_false c6
        clear c6
        by_cases c7 : a1_1 < 0
        · rw [if_pos c7] at H
          have c7b0 : decide (a1_1 < 0) = true := decide_eq_true c7
          clear c7
          have H' := Aside0.mk H
          clear H
          have hcz8_0 : w4.cell? ⟨gb206, 0, none⟩ = some (.int .i64 a1_0) := (blk_cell BK206.out 0).trans rfl
          have hcz8_1 : w4.cell? ⟨gb206, 1, none⟩ = some (.int .i64 a1_1) := (blk_cell BK206.out 1).trans rfl
          have hcz8_2 : w4.cell? ⟨gb206, 2, none⟩ = some (.bool a1_2) := (blk_cell BK206.out 2).trans rfl
          have hcz8_3 : w4.cell? ⟨gb206, 3, none⟩ = some (.bool a1_3) := (blk_cell BK206.out 3).trans rfl
          have hcz8_4 : w4.cell? ⟨gb206, 4, none⟩ = some (.bool a1_4) := (blk_cell BK206.out 4).trans rfl
          have hcz8_5 : w4.cell? ⟨gb206, 5, none⟩ = some (.bool a1_5) := (blk_cell BK206.out 5).trans rfl
          have hcz8_6 : w4.cell? ⟨gb206, 6, none⟩ = some (.int .i64 a1_6) := (blk_cell BK206.out 6).trans rfl
          have hfz8_0 := blk_frozen BK206.out 0
          have hfz8_1 := blk_frozen BK206.out 1
          have hfz8_2 := blk_frozen BK206.out 2
          have hfz8_3 := blk_frozen BK206.out 3
          have hfz8_4 := blk_frozen BK206.out 4
          have hfz8_5 := blk_frozen BK206.out 5
          have hfz8_6 := blk_frozen BK206.out 6
          go_wp2
          go_meet
          case rel => exact ⟨_, (true), (by first | rfl | (simp; done) | (simp [*]; done)), H', ⟨by first | omega | exact Nat.le_refl _⟩, ⟨by (with_reducible repeat (first | refine blk_drewN ?_ _ | refine blk_drew ?_ | refine blk_alloc ?_ _)); exact BK206.out⟩, ⟨by repeat (first | (with_reducible first | exact HB.out | apply below_alloc | apply pw_below_drewN | apply below_drew1 | refine below_set ?_ GE206.out) | exact HB.out)⟩⟩
        · rw [if_neg c7] at H
          have c7b0 : decide (a1_1 < 0) = false := decide_eq_false c7
          clear c7
          by_cases c9 : a1_1 ≥ 512
          · rw [if_pos c9] at H
            have c9b0 : decide (512 ≤ a1_1) = true := decide_eq_true c9
            clear c9
            have H' := Aside0.mk H
            clear H
            have hcz10_0 : w4.cell? ⟨gb206, 0, none⟩ = some (.int .i64 a1_0) := (blk_cell BK206.out 0).trans rfl
            have hcz10_1 : w4.cell? ⟨gb206, 1, none⟩ = some (.int .i64 a1_1) := (blk_cell BK206.out 1).trans rfl
            have hcz10_2 : w4.cell? ⟨gb206, 2, none⟩ = some (.bool a1_2) := (blk_cell BK206.out 2).trans rfl
            have hcz10_3 : w4.cell? ⟨gb206, 3, none⟩ = some (.bool a1_3) := (blk_cell BK206.out 3).trans rfl
            have hcz10_4 : w4.cell? ⟨gb206, 4, none⟩ = some (.bool a1_4) := (blk_cell BK206.out 4).trans rfl
            have hcz10_5 : w4.cell? ⟨gb206, 5, none⟩ = some (.bool a1_5) := (blk_cell BK206.out 5).trans rfl
            have hcz10_6 : w4.cell? ⟨gb206, 6, none⟩ = some (.int .i64 a1_6) := (blk_cell BK206.out 6).trans rfl
            have hfz10_0 := blk_frozen BK206.out 0
            have hfz10_1 := blk_frozen BK206.out 1
            have hfz10_2 := blk_frozen BK206.out 2
            have hfz10_3 := blk_frozen BK206.out 3
            have hfz10_4 := blk_frozen BK206.out 4
            have hfz10_5 := blk_frozen BK206.out 5
            have hfz10_6 := blk_frozen BK206.out 6
            go_wp2
            go_meet
            case rel => exact ⟨_, (true), (by first | rfl | (simp; done) | (simp [*]; done)), H', ⟨by first | omega | exact Nat.le_refl _⟩, ⟨by (with_reducible repeat (first | refine blk_drewN ?_ _ | refine blk_drew ?_ | refine blk_alloc ?_ _)); exact BK206.out⟩, ⟨by repeat (first | (with_reducible first | exact HB.out | apply below_alloc | apply pw_below_drewN | apply below_drew1 | refine below_set ?_ GE206.out) | exact HB.out)⟩⟩
          · rw [if_neg c9] at H
            have c9b0 : decide (512 ≤ a1_1) = false := decide_eq_false c9
            clear c9
            by_cases c11 : a1_6 < 0
            · rw [if_pos c11] at H
              have c11b0 : decide (a1_6 < 0) = true := decide_eq_true c11
              clear c11
              have H' := Aside0.mk H
              clear H
              have hcz12_0 : w4.cell? ⟨gb206, 0, none⟩ = some (.int .i64 a1_0) := (blk_cell BK206.out 0).trans rfl
              have hcz12_1 : w4.cell? ⟨gb206, 1, none⟩ = some (.int .i64 a1_1) := (blk_cell BK206.out 1).trans rfl
              have hcz12_2 : w4.cell? ⟨gb206, 2, none⟩ = some (.bool a1_2) := (blk_cell BK206.out 2).trans rfl
              have hcz12_3 : w4.cell? ⟨gb206, 3, none⟩ = some (.bool a1_3) := (blk_cell BK206.out 3).trans rfl
              have hcz12_4 : w4.cell? ⟨gb206, 4, none⟩ = some (.bool a1_4) := (blk_cell BK206.out 4).trans rfl
              have hcz12_5 : w4.cell? ⟨gb206, 5, none⟩ = some (.bool a1_5) := (blk_cell BK206.out 5).trans rfl
              have hcz12_6 : w4.cell? ⟨gb206, 6, none⟩ = some (.int .i64 a1_6) := (blk_cell BK206.out 6).trans rfl
              have hfz12_0 := blk_frozen BK206.out 0
              have hfz12_1 := blk_frozen BK206.out 1
              have hfz12_2 := blk_frozen BK206.out 2
              have hfz12_3 := blk_frozen BK206.out 3
              have hfz12_4 := blk_frozen BK206.out 4
              have hfz12_5 := blk_frozen BK206.out 5
              have hfz12_6 := blk_frozen BK206.out 6
              go_wp2
              go_meet
              case rel => exact ⟨_, (true), (by first | rfl | (simp; done) | (simp [*]; done)), H', ⟨by first | omega | exact Nat.le_refl _⟩, ⟨by (with_reducible repeat (first | refine blk_drewN ?_ _ | refine blk_drew ?_ | refine blk_alloc ?_ _)); exact BK206.out⟩, ⟨by repeat (first | (with_reducible first | exact HB.out | apply below_alloc | apply pw_below_drewN | apply below_drew1 | refine below_set ?_ GE206.out) | exact HB.out)⟩⟩
            · rw [if_neg c11] at H
              have c11b0 : decide (a1_6 < 0) = false := decide_eq_false c11
              clear c11
              have H' := Aside0.mk H
              clear H
              have hcz13_0 : w4.cell? ⟨gb206, 0, none⟩ = some (.int .i64 a1_0) := (blk_cell BK206.out 0).trans rfl
              have hcz13_1 : w4.cell? ⟨gb206, 1, none⟩ = some (.int .i64 a1_1) := (blk_cell BK206.out 1).trans rfl
              have hcz13_2 : w4.cell? ⟨gb206, 2, none⟩ = some (.bool a1_2) := (blk_cell BK206.out 2).trans rfl
              have hcz13_3 : w4.cell? ⟨gb206, 3, none⟩ = some (.bool a1_3) := (blk_cell BK206.out 3).trans rfl
              have hcz13_4 : w4.cell? ⟨gb206, 4, none⟩ = some (.bool a1_4) := (blk_cell BK206.out 4).trans rfl
              have hcz13_5 : w4.cell? ⟨gb206, 5, none⟩ = some (.bool a1_5) := (blk_cell BK206.out 5).trans rfl
              have hcz13_6 : w4.cell? ⟨gb206, 6, none⟩ = some (.int .i64 a1_6) := (blk_cell BK206.out 6).trans rfl
              have hfz13_0 := blk_frozen BK206.out 0
              have hfz13_1 := blk_frozen BK206.out 1
              have hfz13_2 := blk_frozen BK206.out 2
              have hfz13_3 := blk_frozen BK206.out 3
              have hfz13_4 := blk_frozen BK206.out 4
              have hfz13_5 := blk_frozen BK206.out 5
              have hfz13_6 := blk_frozen BK206.out 6
              go_wp2
              go_meet
              case rel => exact ⟨_, (decide (a1_6 > 7)), (by first | rfl | (simp; done) | (simp [*]; done)), H', ⟨by first | omega | exact Nat.le_refl _⟩, ⟨by (with_reducible repeat (first | refine blk_drewN ?_ _ | refine blk_drew ?_ | refine blk_alloc ?_ _)); exact BK206.out⟩, ⟨by repeat (first | (with_reducible first | exact HB.out | apply below_alloc | apply pw_below_drewN | apply below_drew1 | refine below_set ?_ GE206.out) | exact HB.out)⟩⟩
  case rest =>
    clear HC3
    try clear c1
    try clear p2
    try clear c5
    try clear c5b0
    try clear c6
    try clear c6b0
    try clear c7
    try clear c7b0
    try clear c9
    try clear c9b0
    try clear c11
    try clear c11b0
    try clear hcz10_0
    try clear hcz10_1
    try clear hcz10_2
    try clear hcz10_3
    try clear hcz10_4
    try clear hcz10_5
    try clear hcz10_6
    try clear hcz12_0
    try clear hcz12_1
    try clear hcz12_2
    try clear hcz12_3
    try clear hcz12_4
    try clear hcz12_5
    try clear hcz12_6
    try clear hcz13_0
    try clear hcz13_1
    try clear hcz13_2
    try clear hcz13_3
    try clear hcz13_4
    try clear hcz13_5
    try clear hcz13_6
    try clear hcz8_0
    try clear hcz8_1
    try clear hcz8_2
    try clear hcz8_3
    try clear hcz8_4
    try clear hcz8_5
    try clear hcz8_6
    try clear hfz10_0
    try clear hfz10_1
    try clear hfz10_2
    try clear hfz10_3
    try clear hfz10_4
    try clear hfz10_5
    try clear hfz10_6
    try clear hfz12_0
    try clear hfz12_1
    try clear hfz12_2
    try clear hfz12_3
    try clear hfz12_4
    try clear hfz12_5
    try clear hfz12_6
    try clear hfz13_0
    try clear hfz13_1
    try clear hfz13_2
    try clear hfz13_3
    try clear hfz13_4
    try clear hfz13_5
    try clear hfz13_6
    try clear hfz8_0
    try clear hfz8_1
    try clear hfz8_2
    try clear hfz8_3
    try clear hfz8_4
    try clear hfz8_5
    try clear hfz8_6
    obtain ⟨kq, x30_2, rfl, HA, HJ2, BK206, HB⟩ := hcut
    cases kq with
    | zero => exact absurd HA.out (by simp [paviorref02_May.j0])
    | succ kj2 =>
      have H := HA.out
      clear HA
      simp only [paviorref02_May.j0] at H
      by_cases c14 : x30_2 = true
      · subst c14
        have H1 : (some false) = some r := by rw [if_pos rfl] at H; exact H
        clear H
        have H := H1
        clear H1
        obtain rfl := Option.some.inj H
        go_wp2
        go_ret
        exact ⟨by first | rfl | (simp [errW_none, errW_some] <;> rfl) | (simp [*, errW_none, errW_some] <;> rfl), by repeat (first | (with_reducible first | exact HB.out | apply below_alloc | apply pw_below_drewN | apply below_drew1 | refine below_set ?_ GE206.out) | exact HB.out)⟩
      · replace c14 := Bool.eq_false_iff.mpr c14
        subst c14
        have H1 : (if a1_0 = 0 then (if a1_1 = 0 then (if a1_2 = true then (some false) else (if a1_3 = true then (some false) else (if a1_4 = true then (some false) else (if a1_5 = true then (some false) else (some (a1_6 == 0)))))) else (some false)) else (if a1_0 = 1 then (if a0 ≤ 2 then (if a1_2 = true then (some false) else (if a1_3 = true then (some false) else (if a1_4 = true then (some false) else (if a1_5 = true then (some false) else (some (a1_6 == 0)))))) else (some false)) else (if a1_0 = 2 then (if a0 = 2 then (if a1_5 = true then (some false) else (some ((Int.tmod a1_1 8) == 0))) else (some false)) else (if a1_0 = 3 then (some (a0 == 3)) else (if a1_0 = 4 then (if a1_4 = true then (some false) else (some (!a1_5))) else (some false)))))) = some r := by rw [if_neg (show ¬ (false = true) by decide)] at H; exact H
        clear H
        have H := H1
        clear H1
        by_cases c15 : a1_0 = 0
        · rw [if_pos c15] at H
          have c15b0 : (a1_0 == 0) = true := beq_iff_eq.mpr c15
          have c15b1 : (a1_0 != 0) = false := bne_eq_false_iff_eq.mpr c15
          clear c15
          by_cases c16 : a1_1 = 0
          · rw [if_pos c16] at H
            have c16b0 : (a1_1 == 0) = true := beq_iff_eq.mpr c16
            have c16b1 : (a1_1 != 0) = false := bne_eq_false_iff_eq.mpr c16
            clear c16
            by_cases c17 : a1_2 = true
            · subst c17
              have H1 : (some false) = some r := by rw [if_pos rfl] at H; exact H
              clear H
              have H := H1
              clear H1
              obtain rfl := Option.some.inj H
              have hcz18_0 : wc.cell? ⟨gb206, 0, none⟩ = some (.int .i64 a1_0) := (blk_cell BK206.out 0).trans rfl
              have hcz18_1 : wc.cell? ⟨gb206, 1, none⟩ = some (.int .i64 a1_1) := (blk_cell BK206.out 1).trans rfl
              have hcz18_2 : wc.cell? ⟨gb206, 2, none⟩ = some (.bool true) := (blk_cell BK206.out 2).trans rfl
              have hcz18_3 : wc.cell? ⟨gb206, 3, none⟩ = some (.bool a1_3) := (blk_cell BK206.out 3).trans rfl
              have hcz18_4 : wc.cell? ⟨gb206, 4, none⟩ = some (.bool a1_4) := (blk_cell BK206.out 4).trans rfl
              have hcz18_5 : wc.cell? ⟨gb206, 5, none⟩ = some (.bool a1_5) := (blk_cell BK206.out 5).trans rfl
              have hcz18_6 : wc.cell? ⟨gb206, 6, none⟩ = some (.int .i64 a1_6) := (blk_cell BK206.out 6).trans rfl
              have hfz18_0 := blk_frozen BK206.out 0
              have hfz18_1 := blk_frozen BK206.out 1
              have hfz18_2 := blk_frozen BK206.out 2
              have hfz18_3 := blk_frozen BK206.out 3
              have hfz18_4 := blk_frozen BK206.out 4
              have hfz18_5 := blk_frozen BK206.out 5
              have hfz18_6 := blk_frozen BK206.out 6
              go_wp2
              go_ret
              exact ⟨by first | rfl | (simp [errW_none, errW_some] <;> rfl) | (simp [*, errW_none, errW_some] <;> rfl), by repeat (first | (with_reducible first | exact HB.out | apply below_alloc | apply pw_below_drewN | apply below_drew1 | refine below_set ?_ GE206.out) | exact HB.out)⟩
            · replace c17 := Bool.eq_false_iff.mpr c17
              subst c17
              have H1 : (if a1_3 = true then (some false) else (if a1_4 = true then (some false) else (if a1_5 = true then (some false) else (some (a1_6 == 0))))) = some r := by rw [if_neg (show ¬ (false = true) by decide)] at H; exact H
              clear H
              have H := H1
              clear H1
              by_cases c19 : a1_3 = true
              · subst c19
                have H1 : (some false) = some r := by rw [if_pos rfl] at H; exact H
                clear H
                have H := H1
                clear H1
                obtain rfl := Option.some.inj H
                have hcz20_0 : wc.cell? ⟨gb206, 0, none⟩ = some (.int .i64 a1_0) := (blk_cell BK206.out 0).trans rfl
                have hcz20_1 : wc.cell? ⟨gb206, 1, none⟩ = some (.int .i64 a1_1) := (blk_cell BK206.out 1).trans rfl
                have hcz20_2 : wc.cell? ⟨gb206, 2, none⟩ = some (.bool false) := (blk_cell BK206.out 2).trans rfl
                have hcz20_3 : wc.cell? ⟨gb206, 3, none⟩ = some (.bool true) := (blk_cell BK206.out 3).trans rfl
                have hcz20_4 : wc.cell? ⟨gb206, 4, none⟩ = some (.bool a1_4) := (blk_cell BK206.out 4).trans rfl
                have hcz20_5 : wc.cell? ⟨gb206, 5, none⟩ = some (.bool a1_5) := (blk_cell BK206.out 5).trans rfl
                have hcz20_6 : wc.cell? ⟨gb206, 6, none⟩ = some (.int .i64 a1_6) := (blk_cell BK206.out 6).trans rfl
                have hfz20_0 := blk_frozen BK206.out 0
                have hfz20_1 := blk_frozen BK206.out 1
                have hfz20_2 := blk_frozen BK206.out 2
                have hfz20_3 := blk_frozen BK206.out 3
                have hfz20_4 := blk_frozen BK206.out 4
                have hfz20_5 := blk_frozen BK206.out 5
                have hfz20_6 := blk_frozen BK206.out 6
                go_wp2
                go_ret
                exact ⟨by first | rfl | (simp [errW_none, errW_some] <;> rfl) | (simp [*, errW_none, errW_some] <;> rfl), by repeat (first | (with_reducible first | exact HB.out | apply below_alloc | apply pw_below_drewN | apply below_drew1 | refine below_set ?_ GE206.out) | exact HB.out)⟩
              · replace c19 := Bool.eq_false_iff.mpr c19
                subst c19
                have H1 : (if a1_4 = true then (some false) else (if a1_5 = true then (some false) else (some (a1_6 == 0)))) = some r := by rw [if_neg (show ¬ (false = true) by decide)] at H; exact H
                clear H
                have H := H1
                clear H1
                by_cases c21 : a1_4 = true
                · subst c21
                  have H1 : (some false) = some r := by rw [if_pos rfl] at H; exact H
                  clear H
                  have H := H1
                  clear H1
                  obtain rfl := Option.some.inj H
                  have hcz22_0 : wc.cell? ⟨gb206, 0, none⟩ = some (.int .i64 a1_0) := (blk_cell BK206.out 0).trans rfl
                  have hcz22_1 : wc.cell? ⟨gb206, 1, none⟩ = some (.int .i64 a1_1) := (blk_cell BK206.out 1).trans rfl
                  have hcz22_2 : wc.cell? ⟨gb206, 2, none⟩ = some (.bool false) := (blk_cell BK206.out 2).trans rfl
                  have hcz22_3 : wc.cell? ⟨gb206, 3, none⟩ = some (.bool false) := (blk_cell BK206.out 3).trans rfl
                  have hcz22_4 : wc.cell? ⟨gb206, 4, none⟩ = some (.bool true) := (blk_cell BK206.out 4).trans rfl
                  have hcz22_5 : wc.cell? ⟨gb206, 5, none⟩ = some (.bool a1_5) := (blk_cell BK206.out 5).trans rfl
                  have hcz22_6 : wc.cell? ⟨gb206, 6, none⟩ = some (.int .i64 a1_6) := (blk_cell BK206.out 6).trans rfl
                  have hfz22_0 := blk_frozen BK206.out 0
                  have hfz22_1 := blk_frozen BK206.out 1
                  have hfz22_2 := blk_frozen BK206.out 2
                  have hfz22_3 := blk_frozen BK206.out 3
                  have hfz22_4 := blk_frozen BK206.out 4
                  have hfz22_5 := blk_frozen BK206.out 5
                  have hfz22_6 := blk_frozen BK206.out 6
                  go_wp2
                  go_ret
                  exact ⟨by first | rfl | (simp [errW_none, errW_some] <;> rfl) | (simp [*, errW_none, errW_some] <;> rfl), by repeat (first | (with_reducible first | exact HB.out | apply below_alloc | apply pw_below_drewN | apply below_drew1 | refine below_set ?_ GE206.out) | exact HB.out)⟩
                · replace c21 := Bool.eq_false_iff.mpr c21
                  subst c21
                  have H1 : (if a1_5 = true then (some false) else (some (a1_6 == 0))) = some r := by rw [if_neg (show ¬ (false = true) by decide)] at H; exact H
                  clear H
                  have H := H1
                  clear H1
                  by_cases c23 : a1_5 = true
                  · subst c23
                    have H1 : (some false) = some r := by rw [if_pos rfl] at H; exact H
                    clear H
                    have H := H1
                    clear H1
                    obtain rfl := Option.some.inj H
                    have hcz24_0 : wc.cell? ⟨gb206, 0, none⟩ = some (.int .i64 a1_0) := (blk_cell BK206.out 0).trans rfl
                    have hcz24_1 : wc.cell? ⟨gb206, 1, none⟩ = some (.int .i64 a1_1) := (blk_cell BK206.out 1).trans rfl
                    have hcz24_2 : wc.cell? ⟨gb206, 2, none⟩ = some (.bool false) := (blk_cell BK206.out 2).trans rfl
                    have hcz24_3 : wc.cell? ⟨gb206, 3, none⟩ = some (.bool false) := (blk_cell BK206.out 3).trans rfl
                    have hcz24_4 : wc.cell? ⟨gb206, 4, none⟩ = some (.bool false) := (blk_cell BK206.out 4).trans rfl
                    have hcz24_5 : wc.cell? ⟨gb206, 5, none⟩ = some (.bool true) := (blk_cell BK206.out 5).trans rfl
                    have hcz24_6 : wc.cell? ⟨gb206, 6, none⟩ = some (.int .i64 a1_6) := (blk_cell BK206.out 6).trans rfl
                    have hfz24_0 := blk_frozen BK206.out 0
                    have hfz24_1 := blk_frozen BK206.out 1
                    have hfz24_2 := blk_frozen BK206.out 2
                    have hfz24_3 := blk_frozen BK206.out 3
                    have hfz24_4 := blk_frozen BK206.out 4
                    have hfz24_5 := blk_frozen BK206.out 5
                    have hfz24_6 := blk_frozen BK206.out 6
                    go_wp2
                    go_ret
                    exact ⟨by first | rfl | (simp [errW_none, errW_some] <;> rfl) | (simp [*, errW_none, errW_some] <;> rfl), by repeat (first | (with_reducible first | exact HB.out | apply below_alloc | apply pw_below_drewN | apply below_drew1 | refine below_set ?_ GE206.out) | exact HB.out)⟩
                  · replace c23 := Bool.eq_false_iff.mpr c23
                    subst c23
                    have H1 : (some (a1_6 == 0)) = some r := by rw [if_neg (show ¬ (false = true) by decide)] at H; exact H
                    clear H
                    have H := H1
                    clear H1
                    obtain rfl := Option.some.inj H
                    have hcz25_0 : wc.cell? ⟨gb206, 0, none⟩ = some (.int .i64 a1_0) := (blk_cell BK206.out 0).trans rfl
                    have hcz25_1 : wc.cell? ⟨gb206, 1, none⟩ = some (.int .i64 a1_1) := (blk_cell BK206.out 1).trans rfl
                    have hcz25_2 : wc.cell? ⟨gb206, 2, none⟩ = some (.bool false) := (blk_cell BK206.out 2).trans rfl
                    have hcz25_3 : wc.cell? ⟨gb206, 3, none⟩ = some (.bool false) := (blk_cell BK206.out 3).trans rfl
                    have hcz25_4 : wc.cell? ⟨gb206, 4, none⟩ = some (.bool false) := (blk_cell BK206.out 4).trans rfl
                    have hcz25_5 : wc.cell? ⟨gb206, 5, none⟩ = some (.bool false) := (blk_cell BK206.out 5).trans rfl
                    have hcz25_6 : wc.cell? ⟨gb206, 6, none⟩ = some (.int .i64 a1_6) := (blk_cell BK206.out 6).trans rfl
                    have hfz25_0 := blk_frozen BK206.out 0
                    have hfz25_1 := blk_frozen BK206.out 1
                    have hfz25_2 := blk_frozen BK206.out 2
                    have hfz25_3 := blk_frozen BK206.out 3
                    have hfz25_4 := blk_frozen BK206.out 4
                    have hfz25_5 := blk_frozen BK206.out 5
                    have hfz25_6 := blk_frozen BK206.out 6
                    go_wp2
                    go_ret
                    exact ⟨by first | rfl | (simp [errW_none, errW_some] <;> rfl) | (simp [*, errW_none, errW_some] <;> rfl), by repeat (first | (with_reducible first | exact HB.out | apply below_alloc | apply pw_below_drewN | apply below_drew1 | refine below_set ?_ GE206.out) | exact HB.out)⟩
          · rw [if_neg c16] at H
            have c16b0 : (a1_1 == 0) = false := beq_eq_false_iff_ne.mpr c16
            have c16b1 : (a1_1 != 0) = true := bne_iff_ne.mpr c16
            obtain rfl := Option.some.inj H
            have hcz26_0 : wc.cell? ⟨gb206, 0, none⟩ = some (.int .i64 a1_0) := (blk_cell BK206.out 0).trans rfl
            have hcz26_1 : wc.cell? ⟨gb206, 1, none⟩ = some (.int .i64 a1_1) := (blk_cell BK206.out 1).trans rfl
            have hcz26_2 : wc.cell? ⟨gb206, 2, none⟩ = some (.bool a1_2) := (blk_cell BK206.out 2).trans rfl
            have hcz26_3 : wc.cell? ⟨gb206, 3, none⟩ = some (.bool a1_3) := (blk_cell BK206.out 3).trans rfl
            have hcz26_4 : wc.cell? ⟨gb206, 4, none⟩ = some (.bool a1_4) := (blk_cell BK206.out 4).trans rfl
            have hcz26_5 : wc.cell? ⟨gb206, 5, none⟩ = some (.bool a1_5) := (blk_cell BK206.out 5).trans rfl
            have hcz26_6 : wc.cell? ⟨gb206, 6, none⟩ = some (.int .i64 a1_6) := (blk_cell BK206.out 6).trans rfl
            have hfz26_0 := blk_frozen BK206.out 0
            have hfz26_1 := blk_frozen BK206.out 1
            have hfz26_2 := blk_frozen BK206.out 2
            have hfz26_3 := blk_frozen BK206.out 3
            have hfz26_4 := blk_frozen BK206.out 4
            have hfz26_5 := blk_frozen BK206.out 5
            have hfz26_6 := blk_frozen BK206.out 6
            go_wp2
            go_ret
            exact ⟨by first | rfl | (simp [errW_none, errW_some] <;> rfl) | (simp [*, errW_none, errW_some] <;> rfl), by repeat (first | (with_reducible first | exact HB.out | apply below_alloc | apply pw_below_drewN | apply below_drew1 | refine below_set ?_ GE206.out) | exact HB.out)⟩
        · rw [if_neg c15] at H
          have c15b0 : (a1_0 == 0) = false := beq_eq_false_iff_ne.mpr c15
          have c15b1 : (a1_0 != 0) = true := bne_iff_ne.mpr c15
          by_cases c27 : a1_0 = 1
          · rw [if_pos c27] at H
            have c27b0 : (a1_0 == 1) = true := beq_iff_eq.mpr c27
            have c27b1 : (a1_0 != 1) = false := bne_eq_false_iff_eq.mpr c27
            clear c27
            by_cases c28 : a0 ≤ 2
            · rw [if_pos c28] at H
              have c28b0 : decide (a0 ≤ 2) = true := decide_eq_true c28
              clear c28
              by_cases c29 : a1_2 = true
              · subst c29
                have H1 : (some false) = some r := by rw [if_pos rfl] at H; exact H
                clear H
                have H := H1
                clear H1
                obtain rfl := Option.some.inj H
                have hcz30_0 : wc.cell? ⟨gb206, 0, none⟩ = some (.int .i64 a1_0) := (blk_cell BK206.out 0).trans rfl
                have hcz30_1 : wc.cell? ⟨gb206, 1, none⟩ = some (.int .i64 a1_1) := (blk_cell BK206.out 1).trans rfl
                have hcz30_2 : wc.cell? ⟨gb206, 2, none⟩ = some (.bool true) := (blk_cell BK206.out 2).trans rfl
                have hcz30_3 : wc.cell? ⟨gb206, 3, none⟩ = some (.bool a1_3) := (blk_cell BK206.out 3).trans rfl
                have hcz30_4 : wc.cell? ⟨gb206, 4, none⟩ = some (.bool a1_4) := (blk_cell BK206.out 4).trans rfl
                have hcz30_5 : wc.cell? ⟨gb206, 5, none⟩ = some (.bool a1_5) := (blk_cell BK206.out 5).trans rfl
                have hcz30_6 : wc.cell? ⟨gb206, 6, none⟩ = some (.int .i64 a1_6) := (blk_cell BK206.out 6).trans rfl
                have hfz30_0 := blk_frozen BK206.out 0
                have hfz30_1 := blk_frozen BK206.out 1
                have hfz30_2 := blk_frozen BK206.out 2
                have hfz30_3 := blk_frozen BK206.out 3
                have hfz30_4 := blk_frozen BK206.out 4
                have hfz30_5 := blk_frozen BK206.out 5
                have hfz30_6 := blk_frozen BK206.out 6
                go_wp2
                go_ret
                exact ⟨by first | rfl | (simp [errW_none, errW_some] <;> rfl) | (simp [*, errW_none, errW_some] <;> rfl), by repeat (first | (with_reducible first | exact HB.out | apply below_alloc | apply pw_below_drewN | apply below_drew1 | refine below_set ?_ GE206.out) | exact HB.out)⟩
              · replace c29 := Bool.eq_false_iff.mpr c29
                subst c29
                have H1 : (if a1_3 = true then (some false) else (if a1_4 = true then (some false) else (if a1_5 = true then (some false) else (some (a1_6 == 0))))) = some r := by rw [if_neg (show ¬ (false = true) by decide)] at H; exact H
                clear H
                have H := H1
                clear H1
                by_cases c31 : a1_3 = true
                · subst c31
                  have H1 : (some false) = some r := by rw [if_pos rfl] at H; exact H
                  clear H
                  have H := H1
                  clear H1
                  obtain rfl := Option.some.inj H
                  have hcz32_0 : wc.cell? ⟨gb206, 0, none⟩ = some (.int .i64 a1_0) := (blk_cell BK206.out 0).trans rfl
                  have hcz32_1 : wc.cell? ⟨gb206, 1, none⟩ = some (.int .i64 a1_1) := (blk_cell BK206.out 1).trans rfl
                  have hcz32_2 : wc.cell? ⟨gb206, 2, none⟩ = some (.bool false) := (blk_cell BK206.out 2).trans rfl
                  have hcz32_3 : wc.cell? ⟨gb206, 3, none⟩ = some (.bool true) := (blk_cell BK206.out 3).trans rfl
                  have hcz32_4 : wc.cell? ⟨gb206, 4, none⟩ = some (.bool a1_4) := (blk_cell BK206.out 4).trans rfl
                  have hcz32_5 : wc.cell? ⟨gb206, 5, none⟩ = some (.bool a1_5) := (blk_cell BK206.out 5).trans rfl
                  have hcz32_6 : wc.cell? ⟨gb206, 6, none⟩ = some (.int .i64 a1_6) := (blk_cell BK206.out 6).trans rfl
                  have hfz32_0 := blk_frozen BK206.out 0
                  have hfz32_1 := blk_frozen BK206.out 1
                  have hfz32_2 := blk_frozen BK206.out 2
                  have hfz32_3 := blk_frozen BK206.out 3
                  have hfz32_4 := blk_frozen BK206.out 4
                  have hfz32_5 := blk_frozen BK206.out 5
                  have hfz32_6 := blk_frozen BK206.out 6
                  go_wp2
                  go_ret
                  exact ⟨by first | rfl | (simp [errW_none, errW_some] <;> rfl) | (simp [*, errW_none, errW_some] <;> rfl), by repeat (first | (with_reducible first | exact HB.out | apply below_alloc | apply pw_below_drewN | apply below_drew1 | refine below_set ?_ GE206.out) | exact HB.out)⟩
                · replace c31 := Bool.eq_false_iff.mpr c31
                  subst c31
                  have H1 : (if a1_4 = true then (some false) else (if a1_5 = true then (some false) else (some (a1_6 == 0)))) = some r := by rw [if_neg (show ¬ (false = true) by decide)] at H; exact H
                  clear H
                  have H := H1
                  clear H1
                  by_cases c33 : a1_4 = true
                  · subst c33
                    have H1 : (some false) = some r := by rw [if_pos rfl] at H; exact H
                    clear H
                    have H := H1
                    clear H1
                    obtain rfl := Option.some.inj H
                    have hcz34_0 : wc.cell? ⟨gb206, 0, none⟩ = some (.int .i64 a1_0) := (blk_cell BK206.out 0).trans rfl
                    have hcz34_1 : wc.cell? ⟨gb206, 1, none⟩ = some (.int .i64 a1_1) := (blk_cell BK206.out 1).trans rfl
                    have hcz34_2 : wc.cell? ⟨gb206, 2, none⟩ = some (.bool false) := (blk_cell BK206.out 2).trans rfl
                    have hcz34_3 : wc.cell? ⟨gb206, 3, none⟩ = some (.bool false) := (blk_cell BK206.out 3).trans rfl
                    have hcz34_4 : wc.cell? ⟨gb206, 4, none⟩ = some (.bool true) := (blk_cell BK206.out 4).trans rfl
                    have hcz34_5 : wc.cell? ⟨gb206, 5, none⟩ = some (.bool a1_5) := (blk_cell BK206.out 5).trans rfl
                    have hcz34_6 : wc.cell? ⟨gb206, 6, none⟩ = some (.int .i64 a1_6) := (blk_cell BK206.out 6).trans rfl
                    have hfz34_0 := blk_frozen BK206.out 0
                    have hfz34_1 := blk_frozen BK206.out 1
                    have hfz34_2 := blk_frozen BK206.out 2
                    have hfz34_3 := blk_frozen BK206.out 3
                    have hfz34_4 := blk_frozen BK206.out 4
                    have hfz34_5 := blk_frozen BK206.out 5
                    have hfz34_6 := blk_frozen BK206.out 6
                    go_wp2
                    go_ret
                    exact ⟨by first | rfl | (simp [errW_none, errW_some] <;> rfl) | (simp [*, errW_none, errW_some] <;> rfl), by repeat (first | (with_reducible first | exact HB.out | apply below_alloc | apply pw_below_drewN | apply below_drew1 | refine below_set ?_ GE206.out) | exact HB.out)⟩
                  · replace c33 := Bool.eq_false_iff.mpr c33
                    subst c33
                    have H1 : (if a1_5 = true then (some false) else (some (a1_6 == 0))) = some r := by rw [if_neg (show ¬ (false = true) by decide)] at H; exact H
                    clear H
                    have H := H1
                    clear H1
                    by_cases c35 : a1_5 = true
                    · subst c35
                      have H1 : (some false) = some r := by rw [if_pos rfl] at H; exact H
                      clear H
                      have H := H1
                      clear H1
                      obtain rfl := Option.some.inj H
                      have hcz36_0 : wc.cell? ⟨gb206, 0, none⟩ = some (.int .i64 a1_0) := (blk_cell BK206.out 0).trans rfl
                      have hcz36_1 : wc.cell? ⟨gb206, 1, none⟩ = some (.int .i64 a1_1) := (blk_cell BK206.out 1).trans rfl
                      have hcz36_2 : wc.cell? ⟨gb206, 2, none⟩ = some (.bool false) := (blk_cell BK206.out 2).trans rfl
                      have hcz36_3 : wc.cell? ⟨gb206, 3, none⟩ = some (.bool false) := (blk_cell BK206.out 3).trans rfl
                      have hcz36_4 : wc.cell? ⟨gb206, 4, none⟩ = some (.bool false) := (blk_cell BK206.out 4).trans rfl
                      have hcz36_5 : wc.cell? ⟨gb206, 5, none⟩ = some (.bool true) := (blk_cell BK206.out 5).trans rfl
                      have hcz36_6 : wc.cell? ⟨gb206, 6, none⟩ = some (.int .i64 a1_6) := (blk_cell BK206.out 6).trans rfl
                      have hfz36_0 := blk_frozen BK206.out 0
                      have hfz36_1 := blk_frozen BK206.out 1
                      have hfz36_2 := blk_frozen BK206.out 2
                      have hfz36_3 := blk_frozen BK206.out 3
                      have hfz36_4 := blk_frozen BK206.out 4
                      have hfz36_5 := blk_frozen BK206.out 5
                      have hfz36_6 := blk_frozen BK206.out 6
                      go_wp2
                      go_ret
                      exact ⟨by first | rfl | (simp [errW_none, errW_some] <;> rfl) | (simp [*, errW_none, errW_some] <;> rfl), by repeat (first | (with_reducible first | exact HB.out | apply below_alloc | apply pw_below_drewN | apply below_drew1 | refine below_set ?_ GE206.out) | exact HB.out)⟩
                    · replace c35 := Bool.eq_false_iff.mpr c35
                      subst c35
                      have H1 : (some (a1_6 == 0)) = some r := by rw [if_neg (show ¬ (false = true) by decide)] at H; exact H
                      clear H
                      have H := H1
                      clear H1
                      obtain rfl := Option.some.inj H
                      have hcz37_0 : wc.cell? ⟨gb206, 0, none⟩ = some (.int .i64 a1_0) := (blk_cell BK206.out 0).trans rfl
                      have hcz37_1 : wc.cell? ⟨gb206, 1, none⟩ = some (.int .i64 a1_1) := (blk_cell BK206.out 1).trans rfl
                      have hcz37_2 : wc.cell? ⟨gb206, 2, none⟩ = some (.bool false) := (blk_cell BK206.out 2).trans rfl
                      have hcz37_3 : wc.cell? ⟨gb206, 3, none⟩ = some (.bool false) := (blk_cell BK206.out 3).trans rfl
                      have hcz37_4 : wc.cell? ⟨gb206, 4, none⟩ = some (.bool false) := (blk_cell BK206.out 4).trans rfl
                      have hcz37_5 : wc.cell? ⟨gb206, 5, none⟩ = some (.bool false) := (blk_cell BK206.out 5).trans rfl
                      have hcz37_6 : wc.cell? ⟨gb206, 6, none⟩ = some (.int .i64 a1_6) := (blk_cell BK206.out 6).trans rfl
                      have hfz37_0 := blk_frozen BK206.out 0
                      have hfz37_1 := blk_frozen BK206.out 1
                      have hfz37_2 := blk_frozen BK206.out 2
                      have hfz37_3 := blk_frozen BK206.out 3
                      have hfz37_4 := blk_frozen BK206.out 4
                      have hfz37_5 := blk_frozen BK206.out 5
                      have hfz37_6 := blk_frozen BK206.out 6
                      go_wp2
                      go_ret
                      exact ⟨by first | rfl | (simp [errW_none, errW_some] <;> rfl) | (simp [*, errW_none, errW_some] <;> rfl), by repeat (first | (with_reducible first | exact HB.out | apply below_alloc | apply pw_below_drewN | apply below_drew1 | refine below_set ?_ GE206.out) | exact HB.out)⟩
            · rw [if_neg c28] at H
              have c28b0 : decide (a0 ≤ 2) = false := decide_eq_false c28
              clear c28
              obtain rfl := Option.some.inj H
              have hcz38_0 : wc.cell? ⟨gb206, 0, none⟩ = some (.int .i64 a1_0) := (blk_cell BK206.out 0).trans rfl
              have hcz38_1 : wc.cell? ⟨gb206, 1, none⟩ = some (.int .i64 a1_1) := (blk_cell BK206.out 1).trans rfl
              have hcz38_2 : wc.cell? ⟨gb206, 2, none⟩ = some (.bool a1_2) := (blk_cell BK206.out 2).trans rfl
              have hcz38_3 : wc.cell? ⟨gb206, 3, none⟩ = some (.bool a1_3) := (blk_cell BK206.out 3).trans rfl
              have hcz38_4 : wc.cell? ⟨gb206, 4, none⟩ = some (.bool a1_4) := (blk_cell BK206.out 4).trans rfl
              have hcz38_5 : wc.cell? ⟨gb206, 5, none⟩ = some (.bool a1_5) := (blk_cell BK206.out 5).trans rfl
              have hcz38_6 : wc.cell? ⟨gb206, 6, none⟩ = some (.int .i64 a1_6) := (blk_cell BK206.out 6).trans rfl
              have hfz38_0 := blk_frozen BK206.out 0
              have hfz38_1 := blk_frozen BK206.out 1
              have hfz38_2 := blk_frozen BK206.out 2
              have hfz38_3 := blk_frozen BK206.out 3
              have hfz38_4 := blk_frozen BK206.out 4
              have hfz38_5 := blk_frozen BK206.out 5
              have hfz38_6 := blk_frozen BK206.out 6
              go_wp2
              go_ret
              exact ⟨by first | rfl | (simp [errW_none, errW_some] <;> rfl) | (simp [*, errW_none, errW_some] <;> rfl), by repeat (first | (with_reducible first | exact HB.out | apply below_alloc | apply pw_below_drewN | apply below_drew1 | refine below_set ?_ GE206.out) | exact HB.out)⟩
          · rw [if_neg c27] at H
            have c27b0 : (a1_0 == 1) = false := beq_eq_false_iff_ne.mpr c27
            have c27b1 : (a1_0 != 1) = true := bne_iff_ne.mpr c27
            by_cases c39 : a1_0 = 2
            · rw [if_pos c39] at H
              have c39b0 : (a1_0 == 2) = true := beq_iff_eq.mpr c39
              have c39b1 : (a1_0 != 2) = false := bne_eq_false_iff_eq.mpr c39
              clear c39
              by_cases c40 : a0 = 2
              · rw [if_pos c40] at H
                have c40b0 : (a0 == 2) = true := beq_iff_eq.mpr c40
                have c40b1 : (a0 != 2) = false := bne_eq_false_iff_eq.mpr c40
                clear c40
                by_cases c41 : a1_5 = true
                · subst c41
                  have H1 : (some false) = some r := by rw [if_pos rfl] at H; exact H
                  clear H
                  have H := H1
                  clear H1
                  obtain rfl := Option.some.inj H
                  have hcz42_0 : wc.cell? ⟨gb206, 0, none⟩ = some (.int .i64 a1_0) := (blk_cell BK206.out 0).trans rfl
                  have hcz42_1 : wc.cell? ⟨gb206, 1, none⟩ = some (.int .i64 a1_1) := (blk_cell BK206.out 1).trans rfl
                  have hcz42_2 : wc.cell? ⟨gb206, 2, none⟩ = some (.bool a1_2) := (blk_cell BK206.out 2).trans rfl
                  have hcz42_3 : wc.cell? ⟨gb206, 3, none⟩ = some (.bool a1_3) := (blk_cell BK206.out 3).trans rfl
                  have hcz42_4 : wc.cell? ⟨gb206, 4, none⟩ = some (.bool a1_4) := (blk_cell BK206.out 4).trans rfl
                  have hcz42_5 : wc.cell? ⟨gb206, 5, none⟩ = some (.bool true) := (blk_cell BK206.out 5).trans rfl
                  have hcz42_6 : wc.cell? ⟨gb206, 6, none⟩ = some (.int .i64 a1_6) := (blk_cell BK206.out 6).trans rfl
                  have hfz42_0 := blk_frozen BK206.out 0
                  have hfz42_1 := blk_frozen BK206.out 1
                  have hfz42_2 := blk_frozen BK206.out 2
                  have hfz42_3 := blk_frozen BK206.out 3
                  have hfz42_4 := blk_frozen BK206.out 4
                  have hfz42_5 := blk_frozen BK206.out 5
                  have hfz42_6 := blk_frozen BK206.out 6
                  go_wp2
                  go_ret
                  exact ⟨by first | rfl | (simp [errW_none, errW_some] <;> rfl) | (simp [*, errW_none, errW_some] <;> rfl), by repeat (first | (with_reducible first | exact HB.out | apply below_alloc | apply pw_below_drewN | apply below_drew1 | refine below_set ?_ GE206.out) | exact HB.out)⟩
                · replace c41 := Bool.eq_false_iff.mpr c41
                  subst c41
                  have H1 : (some ((Int.tmod a1_1 8) == 0)) = some r := by rw [if_neg (show ¬ (false = true) by decide)] at H; exact H
                  clear H
                  have H := H1
                  clear H1
                  obtain rfl := Option.some.inj H
                  have hcz43_0 : wc.cell? ⟨gb206, 0, none⟩ = some (.int .i64 a1_0) := (blk_cell BK206.out 0).trans rfl
                  have hcz43_1 : wc.cell? ⟨gb206, 1, none⟩ = some (.int .i64 a1_1) := (blk_cell BK206.out 1).trans rfl
                  have hcz43_2 : wc.cell? ⟨gb206, 2, none⟩ = some (.bool a1_2) := (blk_cell BK206.out 2).trans rfl
                  have hcz43_3 : wc.cell? ⟨gb206, 3, none⟩ = some (.bool a1_3) := (blk_cell BK206.out 3).trans rfl
                  have hcz43_4 : wc.cell? ⟨gb206, 4, none⟩ = some (.bool a1_4) := (blk_cell BK206.out 4).trans rfl
                  have hcz43_5 : wc.cell? ⟨gb206, 5, none⟩ = some (.bool false) := (blk_cell BK206.out 5).trans rfl
                  have hcz43_6 : wc.cell? ⟨gb206, 6, none⟩ = some (.int .i64 a1_6) := (blk_cell BK206.out 6).trans rfl
                  have hfz43_0 := blk_frozen BK206.out 0
                  have hfz43_1 := blk_frozen BK206.out 1
                  have hfz43_2 := blk_frozen BK206.out 2
                  have hfz43_3 := blk_frozen BK206.out 3
                  have hfz43_4 := blk_frozen BK206.out 4
                  have hfz43_5 := blk_frozen BK206.out 5
                  have hfz43_6 := blk_frozen BK206.out 6
                  go_wp2
                  go_ret
                  exact ⟨by first | rfl | (simp [errW_none, errW_some] <;> rfl) | (simp [*, errW_none, errW_some] <;> rfl), by repeat (first | (with_reducible first | exact HB.out | apply below_alloc | apply pw_below_drewN | apply below_drew1 | refine below_set ?_ GE206.out) | exact HB.out)⟩
              · rw [if_neg c40] at H
                have c40b0 : (a0 == 2) = false := beq_eq_false_iff_ne.mpr c40
                have c40b1 : (a0 != 2) = true := bne_iff_ne.mpr c40
                obtain rfl := Option.some.inj H
                have hcz44_0 : wc.cell? ⟨gb206, 0, none⟩ = some (.int .i64 a1_0) := (blk_cell BK206.out 0).trans rfl
                have hcz44_1 : wc.cell? ⟨gb206, 1, none⟩ = some (.int .i64 a1_1) := (blk_cell BK206.out 1).trans rfl
                have hcz44_2 : wc.cell? ⟨gb206, 2, none⟩ = some (.bool a1_2) := (blk_cell BK206.out 2).trans rfl
                have hcz44_3 : wc.cell? ⟨gb206, 3, none⟩ = some (.bool a1_3) := (blk_cell BK206.out 3).trans rfl
                have hcz44_4 : wc.cell? ⟨gb206, 4, none⟩ = some (.bool a1_4) := (blk_cell BK206.out 4).trans rfl
                have hcz44_5 : wc.cell? ⟨gb206, 5, none⟩ = some (.bool a1_5) := (blk_cell BK206.out 5).trans rfl
                have hcz44_6 : wc.cell? ⟨gb206, 6, none⟩ = some (.int .i64 a1_6) := (blk_cell BK206.out 6).trans rfl
                have hfz44_0 := blk_frozen BK206.out 0
                have hfz44_1 := blk_frozen BK206.out 1
                have hfz44_2 := blk_frozen BK206.out 2
                have hfz44_3 := blk_frozen BK206.out 3
                have hfz44_4 := blk_frozen BK206.out 4
                have hfz44_5 := blk_frozen BK206.out 5
                have hfz44_6 := blk_frozen BK206.out 6
                go_wp2
                go_ret
                exact ⟨by first | rfl | (simp [errW_none, errW_some] <;> rfl) | (simp [*, errW_none, errW_some] <;> rfl), by repeat (first | (with_reducible first | exact HB.out | apply below_alloc | apply pw_below_drewN | apply below_drew1 | refine below_set ?_ GE206.out) | exact HB.out)⟩
            · rw [if_neg c39] at H
              have c39b0 : (a1_0 == 2) = false := beq_eq_false_iff_ne.mpr c39
              have c39b1 : (a1_0 != 2) = true := bne_iff_ne.mpr c39
              by_cases c45 : a1_0 = 3
              · rw [if_pos c45] at H
                have c45b0 : (a1_0 == 3) = true := beq_iff_eq.mpr c45
                have c45b1 : (a1_0 != 3) = false := bne_eq_false_iff_eq.mpr c45
                clear c45
                obtain rfl := Option.some.inj H
                have hcz46_0 : wc.cell? ⟨gb206, 0, none⟩ = some (.int .i64 a1_0) := (blk_cell BK206.out 0).trans rfl
                have hcz46_1 : wc.cell? ⟨gb206, 1, none⟩ = some (.int .i64 a1_1) := (blk_cell BK206.out 1).trans rfl
                have hcz46_2 : wc.cell? ⟨gb206, 2, none⟩ = some (.bool a1_2) := (blk_cell BK206.out 2).trans rfl
                have hcz46_3 : wc.cell? ⟨gb206, 3, none⟩ = some (.bool a1_3) := (blk_cell BK206.out 3).trans rfl
                have hcz46_4 : wc.cell? ⟨gb206, 4, none⟩ = some (.bool a1_4) := (blk_cell BK206.out 4).trans rfl
                have hcz46_5 : wc.cell? ⟨gb206, 5, none⟩ = some (.bool a1_5) := (blk_cell BK206.out 5).trans rfl
                have hcz46_6 : wc.cell? ⟨gb206, 6, none⟩ = some (.int .i64 a1_6) := (blk_cell BK206.out 6).trans rfl
                have hfz46_0 := blk_frozen BK206.out 0
                have hfz46_1 := blk_frozen BK206.out 1
                have hfz46_2 := blk_frozen BK206.out 2
                have hfz46_3 := blk_frozen BK206.out 3
                have hfz46_4 := blk_frozen BK206.out 4
                have hfz46_5 := blk_frozen BK206.out 5
                have hfz46_6 := blk_frozen BK206.out 6
                go_wp2
                go_ret
                exact ⟨by first | rfl | (simp [errW_none, errW_some] <;> rfl) | (simp [*, errW_none, errW_some] <;> rfl), by repeat (first | (with_reducible first | exact HB.out | apply below_alloc | apply pw_below_drewN | apply below_drew1 | refine below_set ?_ GE206.out) | exact HB.out)⟩
              · rw [if_neg c45] at H
                have c45b0 : (a1_0 == 3) = false := beq_eq_false_iff_ne.mpr c45
                have c45b1 : (a1_0 != 3) = true := bne_iff_ne.mpr c45
                by_cases c47 : a1_0 = 4
                · rw [if_pos c47] at H
                  have c47b0 : (a1_0 == 4) = true := beq_iff_eq.mpr c47
                  have c47b1 : (a1_0 != 4) = false := bne_eq_false_iff_eq.mpr c47
                  clear c47
                  by_cases c48 : a1_4 = true
                  · subst c48
                    have H1 : (some false) = some r := by rw [if_pos rfl] at H; exact H
                    clear H
                    have H := H1
                    clear H1
                    obtain rfl := Option.some.inj H
                    have hcz49_0 : wc.cell? ⟨gb206, 0, none⟩ = some (.int .i64 a1_0) := (blk_cell BK206.out 0).trans rfl
                    have hcz49_1 : wc.cell? ⟨gb206, 1, none⟩ = some (.int .i64 a1_1) := (blk_cell BK206.out 1).trans rfl
                    have hcz49_2 : wc.cell? ⟨gb206, 2, none⟩ = some (.bool a1_2) := (blk_cell BK206.out 2).trans rfl
                    have hcz49_3 : wc.cell? ⟨gb206, 3, none⟩ = some (.bool a1_3) := (blk_cell BK206.out 3).trans rfl
                    have hcz49_4 : wc.cell? ⟨gb206, 4, none⟩ = some (.bool true) := (blk_cell BK206.out 4).trans rfl
                    have hcz49_5 : wc.cell? ⟨gb206, 5, none⟩ = some (.bool a1_5) := (blk_cell BK206.out 5).trans rfl
                    have hcz49_6 : wc.cell? ⟨gb206, 6, none⟩ = some (.int .i64 a1_6) := (blk_cell BK206.out 6).trans rfl
                    have hfz49_0 := blk_frozen BK206.out 0
                    have hfz49_1 := blk_frozen BK206.out 1
                    have hfz49_2 := blk_frozen BK206.out 2
                    have hfz49_3 := blk_frozen BK206.out 3
                    have hfz49_4 := blk_frozen BK206.out 4
                    have hfz49_5 := blk_frozen BK206.out 5
                    have hfz49_6 := blk_frozen BK206.out 6
                    go_wp2
                    go_ret
                    exact ⟨by first | rfl | (simp [errW_none, errW_some] <;> rfl) | (simp [*, errW_none, errW_some] <;> rfl), by repeat (first | (with_reducible first | exact HB.out | apply below_alloc | apply pw_below_drewN | apply below_drew1 | refine below_set ?_ GE206.out) | exact HB.out)⟩
                  · replace c48 := Bool.eq_false_iff.mpr c48
                    subst c48
                    have H1 : (some (!a1_5)) = some r := by rw [if_neg (show ¬ (false = true) by decide)] at H; exact H
                    clear H
                    have H := H1
                    clear H1
                    obtain rfl := Option.some.inj H
                    have hcz50_0 : wc.cell? ⟨gb206, 0, none⟩ = some (.int .i64 a1_0) := (blk_cell BK206.out 0).trans rfl
                    have hcz50_1 : wc.cell? ⟨gb206, 1, none⟩ = some (.int .i64 a1_1) := (blk_cell BK206.out 1).trans rfl
                    have hcz50_2 : wc.cell? ⟨gb206, 2, none⟩ = some (.bool a1_2) := (blk_cell BK206.out 2).trans rfl
                    have hcz50_3 : wc.cell? ⟨gb206, 3, none⟩ = some (.bool a1_3) := (blk_cell BK206.out 3).trans rfl
                    have hcz50_4 : wc.cell? ⟨gb206, 4, none⟩ = some (.bool false) := (blk_cell BK206.out 4).trans rfl
                    have hcz50_5 : wc.cell? ⟨gb206, 5, none⟩ = some (.bool a1_5) := (blk_cell BK206.out 5).trans rfl
                    have hcz50_6 : wc.cell? ⟨gb206, 6, none⟩ = some (.int .i64 a1_6) := (blk_cell BK206.out 6).trans rfl
                    have hfz50_0 := blk_frozen BK206.out 0
                    have hfz50_1 := blk_frozen BK206.out 1
                    have hfz50_2 := blk_frozen BK206.out 2
                    have hfz50_3 := blk_frozen BK206.out 3
                    have hfz50_4 := blk_frozen BK206.out 4
                    have hfz50_5 := blk_frozen BK206.out 5
                    have hfz50_6 := blk_frozen BK206.out 6
                    go_wp2
                    go_ret
                    exact ⟨by first | rfl | (simp [errW_none, errW_some] <;> rfl) | (simp [*, errW_none, errW_some] <;> rfl), by repeat (first | (with_reducible first | exact HB.out | apply below_alloc | apply pw_below_drewN | apply below_drew1 | refine below_set ?_ GE206.out) | exact HB.out)⟩
                · rw [if_neg c47] at H
                  have c47b0 : (a1_0 == 4) = false := beq_eq_false_iff_ne.mpr c47
                  have c47b1 : (a1_0 != 4) = true := bne_iff_ne.mpr c47
                  obtain rfl := Option.some.inj H
                  have hcz51_0 : wc.cell? ⟨gb206, 0, none⟩ = some (.int .i64 a1_0) := (blk_cell BK206.out 0).trans rfl
                  have hcz51_1 : wc.cell? ⟨gb206, 1, none⟩ = some (.int .i64 a1_1) := (blk_cell BK206.out 1).trans rfl
                  have hcz51_2 : wc.cell? ⟨gb206, 2, none⟩ = some (.bool a1_2) := (blk_cell BK206.out 2).trans rfl
                  have hcz51_3 : wc.cell? ⟨gb206, 3, none⟩ = some (.bool a1_3) := (blk_cell BK206.out 3).trans rfl
                  have hcz51_4 : wc.cell? ⟨gb206, 4, none⟩ = some (.bool a1_4) := (blk_cell BK206.out 4).trans rfl
                  have hcz51_5 : wc.cell? ⟨gb206, 5, none⟩ = some (.bool a1_5) := (blk_cell BK206.out 5).trans rfl
                  have hcz51_6 : wc.cell? ⟨gb206, 6, none⟩ = some (.int .i64 a1_6) := (blk_cell BK206.out 6).trans rfl
                  have hfz51_0 := blk_frozen BK206.out 0
                  have hfz51_1 := blk_frozen BK206.out 1
                  have hfz51_2 := blk_frozen BK206.out 2
                  have hfz51_3 := blk_frozen BK206.out 3
                  have hfz51_4 := blk_frozen BK206.out 4
                  have hfz51_5 := blk_frozen BK206.out 5
                  have hfz51_6 := blk_frozen BK206.out 6
                  go_wp2
                  go_ret
                  exact ⟨by first | rfl | (simp [errW_none, errW_some] <;> rfl) | (simp [*, errW_none, errW_some] <;> rfl), by repeat (first | (with_reducible first | exact HB.out | apply below_alloc | apply pw_below_drewN | apply below_drew1 | refine below_set ?_ GE206.out) | exact HB.out)⟩

/-! ### paviorref06_Many: function 11 -/
def paviorref06_Many.l0 : Nat → Int → Int → Option (Int)
  | 0, _, _ => none
  | k + 1, x3, x4 => if x4 < 3 then (paviorref06_Many.l0 k (wrap64 (x3 * 8)) (wrap64 (x4 + 1))) else (some x3)
def paviorref06_Many.f (k : Nat) (a0 : Int) : Option (Int) := paviorref06_Many.l0 k 1 a0
set_option maxHeartbeats 8000000 in
set_option maxRecDepth 100000 in
theorem paviorref06_Many.calls (k : Nat) (a0 : Int) (r : Int) (w : World) (h : paviorref06_Many.f k a0 = some r) :
    Calls Try.prog 11 #[.int .i64 a0] w fun e w' => e = .returned (.int .i64 r) ∧ Drawn0 w w' := by
  have H : (paviorref06_Many.l0 k 1 a0) = some r := h
  clear h
  have H' := Aside0.mk H
  clear H
  go_enter Try.func11, Try.ntmps11
  go_wp2
  go_loopg [3, 4] k (fun kq v3 v4 w' => ∃ (x3_1 : Int) (x4_1 : Int), v3 = .int .i64 x3_1 ∧ v4 = .int .i64 x4_1 ∧ Aside0 (paviorref06_Many.l0 kq x3_1 x4_1 = some r) ∧ Aside0 (kq ≤ k) ∧ Drawn0 w w')
  case atStart => exact ⟨(1), (a0), (by first | rfl | (simp; done) | (simp [*]; done)), (by first | rfl | (simp; done) | (simp [*]; done)), H', ⟨Nat.le_refl _⟩, by repeat (first | exact Drawn0.refl _ | apply Drawn0.step)⟩
  case round =>
    clear H'
    try clear c1
    obtain ⟨x3_1, x4_1, rfl, rfl, HA, HK1, ⟨m1, rfl⟩⟩ := hrel
    cases gk with
    | zero => exact absurd HA.out (by simp [paviorref06_Many.l0])
    | succ k1 =>
      have H := HA.out
      clear HA
      simp only [paviorref06_Many.l0] at H
      by_cases c2 : x4_1 < 3
      · rw [if_pos c2] at H
        have c2b0 : decide (x4_1 < 3) = true := decide_eq_true c2
        clear c2
        have H' := Aside0.mk H
        clear H
        go_wp2
        go_roundg k1
        case measure => have := HK1.out; omega
        case rel => exact ⟨(wrap64 (x3_1 * 8)), (wrap64 (x4_1 + 1)), (by first | rfl | (simp; done) | (simp [*]; done)), (by first | rfl | (simp; done) | (simp [*]; done)), H', ⟨by have := HK1.out; omega⟩, by repeat (first | exact Drawn0.refl _ | apply Drawn0.step)⟩
      · rw [if_neg c2] at H
        have c2b0 : decide (x4_1 < 3) = false := decide_eq_false c2
        clear c2
        obtain rfl := Option.some.inj H
        go_wp2
        go_ret
        exact ⟨by first | rfl | (simp; done) | (simp [*]; done), by repeat (first | exact Drawn0.refl _ | apply Drawn0.step)⟩

end Go.Proofs.Ytehbhpkmlmeblaa.Q
