-- Written by this session's program wip/tools/xprint.py (the kit's printer, turned by it); not the kit's own print.
import Derived.Test.YtobbcfpkmmafnabQx0
import Derived.Test.YtobbcfpkmmafnabQx1
import Derived.Test.YtobbcfpkmmafnabQx2
import Derived.Test.YtobbcfpkmmafnabQx3
namespace Go.Proofs.Ytobbcfpkmmafnab.Q
open Go.RowKit Go.Proofs.YtobbcfpkmmafnabW.PrintWords Go.Proofs.YtobbcfpkmmafnabW.PrintLast Go.Proofs.YtobbcfpkmmafnabW.PrintMore
attribute [local go_sem] max2_int min2_int max_two min_two max_three min_three max_four min_four   -- for this text's walks alone
set_option linter.unusedVariables false
set_option linter.unusedSimpArgs false

attribute [local go_sem high] eqA25
attribute [local go_sem high] eqErr_some neErr_some eqErr_left neErr_left
/-! ### paviorlaw02_PteLevels: function 7 -/
mutual
def paviorlaw02_PteLevels.j0 : Nat → Int → Int → Bool → Int → Int → Bool → Bool → Bool → Bool → Int → Option (Bool)
  | 0, _, _, _, _, _, _, _, _, _, _ => none
  | k + 1, x0, x2, x7, x281000, x281001, x281002, x281003, x281004, x281005, x281006 => (pte_Encode.f k x0 x281000 x281001 x281002 x281003 x281004 x281005 x281006).bind fun bt282 => (if bt282.2.isNone = true then ((pte_Decode.f k (Int.tmod x2 4) bt282.1).bind fun bt285 => (if x281000 = 1 then (if (Int.tmod x2 4) = 3 then (paviorlaw02_PteLevels.j1 k x7 bt285.2.2.2.2.2.2.2 true x281000 x281001 x281002 x281003 x281004 x281005 x281006 bt285.1 bt285.2.1 bt285.2.2.1 bt285.2.2.2.1 bt285.2.2.2.2.1 bt285.2.2.2.2.2.1 bt285.2.2.2.2.2.2.1) else (if x281000 = 2 then (paviorlaw02_PteLevels.j1 k x7 bt285.2.2.2.2.2.2.2 ((Int.tmod x2 4) != x0) x281000 x281001 x281002 x281003 x281004 x281005 x281006 bt285.1 bt285.2.1 bt285.2.2.1 bt285.2.2.2.1 bt285.2.2.2.2.1 bt285.2.2.2.2.2.1 bt285.2.2.2.2.2.2.1) else (if x281000 = 3 then (paviorlaw02_PteLevels.j1 k x7 bt285.2.2.2.2.2.2.2 ((Int.tmod x2 4) != x0) x281000 x281001 x281002 x281003 x281004 x281005 x281006 bt285.1 bt285.2.1 bt285.2.2.1 bt285.2.2.2.1 bt285.2.2.2.2.1 bt285.2.2.2.2.2.1 bt285.2.2.2.2.2.2.1) else (paviorlaw02_PteLevels.j1 k x7 bt285.2.2.2.2.2.2.2 false x281000 x281001 x281002 x281003 x281004 x281005 x281006 bt285.1 bt285.2.1 bt285.2.2.1 bt285.2.2.2.1 bt285.2.2.2.2.1 bt285.2.2.2.2.2.1 bt285.2.2.2.2.2.2.1)))) else (if x281000 = 2 then (paviorlaw02_PteLevels.j1 k x7 bt285.2.2.2.2.2.2.2 ((Int.tmod x2 4) != x0) x281000 x281001 x281002 x281003 x281004 x281005 x281006 bt285.1 bt285.2.1 bt285.2.2.1 bt285.2.2.2.1 bt285.2.2.2.2.1 bt285.2.2.2.2.2.1 bt285.2.2.2.2.2.2.1) else (if x281000 = 3 then (paviorlaw02_PteLevels.j1 k x7 bt285.2.2.2.2.2.2.2 ((Int.tmod x2 4) != x0) x281000 x281001 x281002 x281003 x281004 x281005 x281006 bt285.1 bt285.2.1 bt285.2.2.1 bt285.2.2.2.1 bt285.2.2.2.2.1 bt285.2.2.2.2.2.1 bt285.2.2.2.2.2.2.1) else (paviorlaw02_PteLevels.j1 k x7 bt285.2.2.2.2.2.2.2 false x281000 x281001 x281002 x281003 x281004 x281005 x281006 bt285.1 bt285.2.1 bt285.2.2.1 bt285.2.2.2.1 bt285.2.2.2.2.1 bt285.2.2.2.2.2.1 bt285.2.2.2.2.2.2.1))))) else (some x7))
def paviorlaw02_PteLevels.j1 : Nat → Bool → Option Int → Bool → Int → Int → Bool → Bool → Bool → Bool → Int → Int → Int → Bool → Bool → Bool → Bool → Int → Option (Bool)
  | 0, _, _, _, _, _, _, _, _, _, _, _, _, _, _, _, _, _ => none
  | k + 1, x7, x11, x12, x281000, x281001, x281002, x281003, x281004, x281005, x281006, x294000, x294001, x294002, x294003, x294004, x294005, x294006 => if x12 = true then (if x7 = true then (if x11.isNone = true then (some (x294000 == 5 && (x294001 == 0 && (!x294002 && (!x294003 && (!x294004 && (!x294005 && (x294006 == 0)))))))) else (some false)) else (some false)) else (if x7 = true then (if x11.isNone = true then (some (x294000 == x281000 && (x294001 == x281001 && (x294002 == x281002 && (x294003 == x281003 && (x294004 == x281004 && (x294005 == x281005 && (x294006 == x281006)))))))) else (some false)) else (some false))
end
def paviorlaw02_PteLevels.f (k : Nat) (a0 : Int) (a1_0 : Int) (a1_1 : Int) (a1_2 : Bool) (a1_3 : Bool) (a1_4 : Bool) (a1_5 : Bool) (a1_6 : Int) (a2 : Int) : Option (Bool) := (paviorlaw02_up.f k).bind fun t281 => (if a2 < 0 then (paviorlaw02_PteLevels.j0 k a0 (wrap64 (-(wrap64 (a2 + 1)))) t281 a1_0 a1_1 a1_2 a1_3 a1_4 a1_5 a1_6) else (paviorlaw02_PteLevels.j0 k a0 a2 t281 a1_0 a1_1 a1_2 a1_3 a1_4 a1_5 a1_6))
theorem paviorlaw02_PteLevels.mono_l : ∀ k, (∀ y0 y1 y2 y3 y4 y5 y6 y7 y8 y9, LeO (paviorlaw02_PteLevels.j0 k y0 y1 y2 y3 y4 y5 y6 y7 y8 y9) (paviorlaw02_PteLevels.j0 (k + 1) y0 y1 y2 y3 y4 y5 y6 y7 y8 y9)) ∧ (∀ y0 y1 y2 y3 y4 y5 y6 y7 y8 y9 y10 y11 y12 y13 y14 y15 y16, LeO (paviorlaw02_PteLevels.j1 k y0 y1 y2 y3 y4 y5 y6 y7 y8 y9 y10 y11 y12 y13 y14 y15 y16) (paviorlaw02_PteLevels.j1 (k + 1) y0 y1 y2 y3 y4 y5 y6 y7 y8 y9 y10 y11 y12 y13 y14 y15 y16))
  | 0 => ⟨fun _ _ _ _ _ _ _ _ _ _ r h => by simp [paviorlaw02_PteLevels.j0] at h, fun _ _ _ _ _ _ _ _ _ _ _ _ _ _ _ _ _ r h => by simp [paviorlaw02_PteLevels.j1] at h⟩
  | k + 1 => by
    obtain ⟨ih0, ih1⟩ := paviorlaw02_PteLevels.mono_l k
    refine ⟨?_, ?_⟩
    · intro y0 y1 y2 y3 y4 y5 y6 y7 y8 y9
      unfold paviorlaw02_PteLevels.j0
      repeat' first
      | (with_reducible exact ih0 _ _ _ _ _ _ _ _ _ _)
      | (with_reducible exact ih1 _ _ _ _ _ _ _ _ _ _ _ _ _ _ _ _ _)
      | (with_reducible exact paviorlaw02_up.mono _)
      | (with_reducible exact pte_Decode.mono _ _ _)
      | (with_reducible exact pte_Encode.mono _ _ _ _ _ _ _ _ _)
      | (with_reducible exact LeO.refl _)
      | (with_reducible exact LeO.none _)
      | (with_reducible refine LeO.ite ?_ ?_)
      | (with_reducible refine LeO.bind ?_ (fun _ => ?_))
      | exact ih0 _ _ _ _ _ _ _ _ _ _
      | exact ih1 _ _ _ _ _ _ _ _ _ _ _ _ _ _ _ _ _
      | exact paviorlaw02_up.mono _
      | exact pte_Decode.mono _ _ _
      | exact pte_Encode.mono _ _ _ _ _ _ _ _ _
      | exact LeO.none _
      | refine LeO.ite ?_ ?_
      | refine LeO.bind ?_ (fun _ => ?_)
    · intro y0 y1 y2 y3 y4 y5 y6 y7 y8 y9 y10 y11 y12 y13 y14 y15 y16
      unfold paviorlaw02_PteLevels.j1
      repeat' first
      | (with_reducible exact ih0 _ _ _ _ _ _ _ _ _ _)
      | (with_reducible exact ih1 _ _ _ _ _ _ _ _ _ _ _ _ _ _ _ _ _)
      | (with_reducible exact paviorlaw02_up.mono _)
      | (with_reducible exact pte_Decode.mono _ _ _)
      | (with_reducible exact pte_Encode.mono _ _ _ _ _ _ _ _ _)
      | (with_reducible exact LeO.refl _)
      | (with_reducible exact LeO.none _)
      | (with_reducible refine LeO.ite ?_ ?_)
      | (with_reducible refine LeO.bind ?_ (fun _ => ?_))
      | exact ih0 _ _ _ _ _ _ _ _ _ _
      | exact ih1 _ _ _ _ _ _ _ _ _ _ _ _ _ _ _ _ _
      | exact paviorlaw02_up.mono _
      | exact pte_Decode.mono _ _ _
      | exact pte_Encode.mono _ _ _ _ _ _ _ _ _
      | exact LeO.none _
      | refine LeO.ite ?_ ?_
      | refine LeO.bind ?_ (fun _ => ?_)
theorem paviorlaw02_PteLevels.mono : ∀ a0 a1 a2 a3 a4 a5 a6 a7 a8 k, LeO (paviorlaw02_PteLevels.f k a0 a1 a2 a3 a4 a5 a6 a7 a8) (paviorlaw02_PteLevels.f (k + 1) a0 a1 a2 a3 a4 a5 a6 a7 a8) := by
  intro a0 a1 a2 a3 a4 a5 a6 a7 a8 k
  obtain ⟨ih0, ih1⟩ := paviorlaw02_PteLevels.mono_l k
  unfold paviorlaw02_PteLevels.f
  repeat' first
      | (with_reducible exact ih0 _ _ _ _ _ _ _ _ _ _)
      | (with_reducible exact ih1 _ _ _ _ _ _ _ _ _ _ _ _ _ _ _ _ _)
      | (with_reducible exact paviorlaw02_up.mono _)
      | (with_reducible exact pte_Decode.mono _ _ _)
      | (with_reducible exact pte_Encode.mono _ _ _ _ _ _ _ _ _)
      | (with_reducible exact LeO.refl _)
      | (with_reducible exact LeO.none _)
      | (with_reducible refine LeO.ite ?_ ?_)
      | (with_reducible refine LeO.bind ?_ (fun _ => ?_))
      | exact ih0 _ _ _ _ _ _ _ _ _ _
      | exact ih1 _ _ _ _ _ _ _ _ _ _ _ _ _ _ _ _ _
      | exact paviorlaw02_up.mono _
      | exact pte_Decode.mono _ _ _
      | exact pte_Encode.mono _ _ _ _ _ _ _ _ _
      | exact LeO.none _
      | refine LeO.ite ?_ ?_
      | refine LeO.bind ?_ (fun _ => ?_)
set_option maxHeartbeats 8000000 in
set_option maxRecDepth 100000 in
theorem paviorlaw02_PteLevels.calls (k : Nat) (a0 : Int) (a1_0 : Int) (a1_1 : Int) (a1_2 : Bool) (a1_3 : Bool) (a1_4 : Bool) (a1_5 : Bool) (a1_6 : Int) (a2 : Int) (r : Bool) (w : World) (h : paviorlaw02_PteLevels.f k a0 a1_0 a1_1 a1_2 a1_3 a1_4 a1_5 a1_6 a2 = some r) :
    Calls Try.prog 7 #[.int .i64 a0, .agg #[.int .i64 a1_0, .int .i64 a1_1, .bool a1_2, .bool a1_3, .bool a1_4, .bool a1_5, .int .i64 a1_6], .int .i64 a2] w fun e w' => e = .returned (.bool r) ∧ Below w.heap.size w w' := by
  have hu25 := Try.underlying25
  have hu27 := Try.underlying27
  have hu30 := Try.underlying30
  have HB := Aside0.mk (Below.refl w.heap.size w)
  have H : ((paviorlaw02_up.f k).bind fun t281 => (if a2 < 0 then (paviorlaw02_PteLevels.j0 k a0 (wrap64 (-(wrap64 (a2 + 1)))) t281 a1_0 a1_1 a1_2 a1_3 a1_4 a1_5 a1_6) else (paviorlaw02_PteLevels.j0 k a0 a2 t281 a1_0 a1_1 a1_2 a1_3 a1_4 a1_5 a1_6))) = some r := h
  clear h
  replace H := Option.bind_eq_some_iff.mp H
  obtain ⟨t281, A40, H⟩ := H
  replace H : (if a2 < 0 then (paviorlaw02_PteLevels.j0 k a0 (wrap64 (-(wrap64 (a2 + 1)))) t281 a1_0 a1_1 a1_2 a1_3 a1_4 a1_5 a1_6) else (paviorlaw02_PteLevels.j0 k a0 a2 t281 a1_0 a1_1 a1_2 a1_3 a1_4 a1_5 a1_6)) = some r := H
  have A4 := Aside0.mk A40
  clear A40
  have HC5 := Aside0.mk H
  clear H
  go_enter Try.func7, Try.ntmps7
  go_upto_if 15 with (first | ((with_reducible refine gate_dst (N := 4) rfl ?_); refine box_event ?hg (N := 4) ?hd (cs := #[.int .i64 a1_0, .int .i64 a1_1, .bool a1_2, .bool a1_3, .bool a1_4, .bool a1_5, .int .i64 a1_6]) (t := 25) ?hr ?_; (case hd => rfl); (case hg => rfl); (case hr => first | (go_simp; done) | (go_simp; rfl)); intro gb280 hg w6 hbox hb; have n0_ := Aside0.mk (below_step (by repeat (first | (with_reducible first | exact HB.out | apply below_alloc | apply pw_below_drewN | apply below_drew1) | exact HB.out)) hb); have n1_ := Aside0.mk (hbox); have n2_ := Aside0.mk ((by rw [hg]; exact (below_size (by repeat (first | (with_reducible first | exact HB.out | apply below_alloc | apply pw_below_drewN | apply below_drew1) | exact HB.out))) : w.heap.size ≤ gb280)); have n3_ := Aside0.mk ((by rw [hg]; exact (below_size (by repeat (first | (with_reducible first | exact HB.out | apply below_alloc | apply pw_below_drewN | apply below_drew1) | exact HB.out))) : w.heap.size ≤ gb280)); clear HB; have HB := n0_; have BK280 := n1_; have GW280 := n2_; have GE280 := n3_; clear n0_ n1_ n2_ n3_; clear hb hbox hg) | ((with_reducible refine gate_callee (f := 10) rfl ?_); refine goesL_ (some 13) rfl rfl Try.func10 (by kernel_rfl) rfl #[] rfl (by (try simp only [List.map_toArray, List.map_cons, List.map_nil]); first | done | rfl | (simp only [List.length_drop, List.length_take]; rfl)) ?_; (with_reducible refine (paviorlaw02_up.calls k  t281 _ A4.out).mono ?_); rintro e w7 ⟨rfl, hb⟩; refine ⟨_, rfl, ?_⟩; have n0_ := Aside0.mk (blk_below (g := gb280) (o := .cells #[.int .i64 a1_0, .int .i64 a1_1, .bool a1_2, .bool a1_3, .bool a1_4, .bool a1_5, .int .i64 a1_6] 25 (0, 0)) (by (with_reducible repeat (first | refine blk_drewN ?_ _ | refine blk_drew ?_ | refine blk_alloc ?_ _)); exact BK280.out) hb); have n1_ := Aside0.mk (below_step (by repeat (first | (with_reducible first | exact HB.out | apply below_alloc | apply pw_below_drewN | apply below_drew1 | refine below_set ?_ GE280.out) | exact HB.out)) hb); clear BK280; clear HB; have BK280 := n0_; have HB := n1_; clear n0_ n1_; (try clear hb); (try clear hb2); (try clear hk); (try clear hi)))
  (try simp only [Act.put, List.setIfInBounds_toArray, List.set_cons_zero, List.set_cons_succ])
  go_cut [2] (fun v2 wc => ∃ (kq : Nat) (x2_4 : Int), v2 = .int .i64 x2_4 ∧ Aside0 (paviorlaw02_PteLevels.j0 kq a0 x2_4 t281 a1_0 a1_1 a1_2 a1_3 a1_4 a1_5 a1_6 = some r) ∧ Aside0 (kq ≤ k) ∧ Aside0 (wc.heap[gb280]? = some (.cells #[.int .i64 a1_0, .int .i64 a1_1, .bool a1_2, .bool a1_3, .bool a1_4, .bool a1_5, .int .i64 a1_6] 25 (0, 0))) ∧ Aside0 (Below w.heap.size w wc))
  case first =>
    have H := HC5.out
    clear HC5
    by_cases c8 : a2 < 0
    · rw [if_pos c8] at H
      have c8b0 : decide (a2 < 0) = true := decide_eq_true c8
      clear c8
      (first | rw [c8b0] | (simp only [i64_w, i32_w]; rw [c8b0]) | skip)
      have H' := Aside0.mk H
      clear H
      go_wp2
      go_meet
      case rel => exact ⟨_, (wrap64 (-(wrap64 (a2 + 1)))), (by first | rfl | (simp; done) | (simp [*]; done)), H', ⟨by first | omega | exact Nat.le_refl _⟩, ⟨by (with_reducible repeat (first | refine blk_drewN ?_ _ | refine blk_drew ?_ | refine blk_alloc ?_ _)); exact BK280.out⟩, ⟨by repeat (first | (with_reducible first | exact HB.out | apply below_alloc | apply pw_below_drewN | apply below_drew1 | refine below_set ?_ GE280.out) | exact HB.out)⟩⟩
    · rw [if_neg c8] at H
      have c8b0 : decide (a2 < 0) = false := decide_eq_false c8
      clear c8
      (first | rw [c8b0] | (simp only [i64_w, i32_w]; rw [c8b0]) | skip)
      have H' := Aside0.mk H
      clear H
      go_wp2
      go_meet
      case rel => exact ⟨_, (a2), (by first | rfl | (simp; done) | (simp [*]; done)), H', ⟨by first | omega | exact Nat.le_refl _⟩, ⟨by (with_reducible repeat (first | refine blk_drewN ?_ _ | refine blk_drew ?_ | refine blk_alloc ?_ _)); exact BK280.out⟩, ⟨by repeat (first | (with_reducible first | exact HB.out | apply below_alloc | apply pw_below_drewN | apply below_drew1 | refine below_set ?_ GE280.out) | exact HB.out)⟩⟩
  case rest =>
    clear HC5
    try clear c1
    try clear p2
    try clear p6
    try clear c7
    try clear c8
    try clear c8b0
    obtain ⟨kq, x2_4, rfl, HA, HJ4, BK280, HB⟩ := hcut
    cases kq with
    | zero => exact absurd HA.out (by simp [paviorlaw02_PteLevels.j0])
    | succ kj4 =>
      have H := HA.out
      clear HA
      simp only [paviorlaw02_PteLevels.j0] at H
      replace H := Option.bind_eq_some_iff.mp H
      obtain ⟨⟨t282, t283⟩, A90, H⟩ := H
      replace H : (if t283.isNone = true then ((pte_Decode.f kj4 (Int.tmod x2_4 4) t282).bind fun bt285 => (if a1_0 = 1 then (if (Int.tmod x2_4 4) = 3 then (paviorlaw02_PteLevels.j1 kj4 t281 bt285.2.2.2.2.2.2.2 true a1_0 a1_1 a1_2 a1_3 a1_4 a1_5 a1_6 bt285.1 bt285.2.1 bt285.2.2.1 bt285.2.2.2.1 bt285.2.2.2.2.1 bt285.2.2.2.2.2.1 bt285.2.2.2.2.2.2.1) else (if a1_0 = 2 then (paviorlaw02_PteLevels.j1 kj4 t281 bt285.2.2.2.2.2.2.2 ((Int.tmod x2_4 4) != a0) a1_0 a1_1 a1_2 a1_3 a1_4 a1_5 a1_6 bt285.1 bt285.2.1 bt285.2.2.1 bt285.2.2.2.1 bt285.2.2.2.2.1 bt285.2.2.2.2.2.1 bt285.2.2.2.2.2.2.1) else (if a1_0 = 3 then (paviorlaw02_PteLevels.j1 kj4 t281 bt285.2.2.2.2.2.2.2 ((Int.tmod x2_4 4) != a0) a1_0 a1_1 a1_2 a1_3 a1_4 a1_5 a1_6 bt285.1 bt285.2.1 bt285.2.2.1 bt285.2.2.2.1 bt285.2.2.2.2.1 bt285.2.2.2.2.2.1 bt285.2.2.2.2.2.2.1) else (paviorlaw02_PteLevels.j1 kj4 t281 bt285.2.2.2.2.2.2.2 false a1_0 a1_1 a1_2 a1_3 a1_4 a1_5 a1_6 bt285.1 bt285.2.1 bt285.2.2.1 bt285.2.2.2.1 bt285.2.2.2.2.1 bt285.2.2.2.2.2.1 bt285.2.2.2.2.2.2.1)))) else (if a1_0 = 2 then (paviorlaw02_PteLevels.j1 kj4 t281 bt285.2.2.2.2.2.2.2 ((Int.tmod x2_4 4) != a0) a1_0 a1_1 a1_2 a1_3 a1_4 a1_5 a1_6 bt285.1 bt285.2.1 bt285.2.2.1 bt285.2.2.2.1 bt285.2.2.2.2.1 bt285.2.2.2.2.2.1 bt285.2.2.2.2.2.2.1) else (if a1_0 = 3 then (paviorlaw02_PteLevels.j1 kj4 t281 bt285.2.2.2.2.2.2.2 ((Int.tmod x2_4 4) != a0) a1_0 a1_1 a1_2 a1_3 a1_4 a1_5 a1_6 bt285.1 bt285.2.1 bt285.2.2.1 bt285.2.2.2.1 bt285.2.2.2.2.1 bt285.2.2.2.2.2.1 bt285.2.2.2.2.2.2.1) else (paviorlaw02_PteLevels.j1 kj4 t281 bt285.2.2.2.2.2.2.2 false a1_0 a1_1 a1_2 a1_3 a1_4 a1_5 a1_6 bt285.1 bt285.2.1 bt285.2.2.1 bt285.2.2.2.1 bt285.2.2.2.2.1 bt285.2.2.2.2.2.1 bt285.2.2.2.2.2.2.1))))) else (some t281)) = some r := H
      have A9 := Aside0.mk A90
      clear A90
      rcases t283 with _ | q284
      · have H1 : ((pte_Decode.f kj4 (Int.tmod x2_4 4) t282).bind fun bt285 => (if a1_0 = 1 then (if (Int.tmod x2_4 4) = 3 then (paviorlaw02_PteLevels.j1 kj4 t281 bt285.2.2.2.2.2.2.2 true a1_0 a1_1 a1_2 a1_3 a1_4 a1_5 a1_6 bt285.1 bt285.2.1 bt285.2.2.1 bt285.2.2.2.1 bt285.2.2.2.2.1 bt285.2.2.2.2.2.1 bt285.2.2.2.2.2.2.1) else (if a1_0 = 2 then (paviorlaw02_PteLevels.j1 kj4 t281 bt285.2.2.2.2.2.2.2 ((Int.tmod x2_4 4) != a0) a1_0 a1_1 a1_2 a1_3 a1_4 a1_5 a1_6 bt285.1 bt285.2.1 bt285.2.2.1 bt285.2.2.2.1 bt285.2.2.2.2.1 bt285.2.2.2.2.2.1 bt285.2.2.2.2.2.2.1) else (if a1_0 = 3 then (paviorlaw02_PteLevels.j1 kj4 t281 bt285.2.2.2.2.2.2.2 ((Int.tmod x2_4 4) != a0) a1_0 a1_1 a1_2 a1_3 a1_4 a1_5 a1_6 bt285.1 bt285.2.1 bt285.2.2.1 bt285.2.2.2.1 bt285.2.2.2.2.1 bt285.2.2.2.2.2.1 bt285.2.2.2.2.2.2.1) else (paviorlaw02_PteLevels.j1 kj4 t281 bt285.2.2.2.2.2.2.2 false a1_0 a1_1 a1_2 a1_3 a1_4 a1_5 a1_6 bt285.1 bt285.2.1 bt285.2.2.1 bt285.2.2.2.1 bt285.2.2.2.2.1 bt285.2.2.2.2.2.1 bt285.2.2.2.2.2.2.1)))) else (if a1_0 = 2 then (paviorlaw02_PteLevels.j1 kj4 t281 bt285.2.2.2.2.2.2.2 ((Int.tmod x2_4 4) != a0) a1_0 a1_1 a1_2 a1_3 a1_4 a1_5 a1_6 bt285.1 bt285.2.1 bt285.2.2.1 bt285.2.2.2.1 bt285.2.2.2.2.1 bt285.2.2.2.2.2.1 bt285.2.2.2.2.2.2.1) else (if a1_0 = 3 then (paviorlaw02_PteLevels.j1 kj4 t281 bt285.2.2.2.2.2.2.2 ((Int.tmod x2_4 4) != a0) a1_0 a1_1 a1_2 a1_3 a1_4 a1_5 a1_6 bt285.1 bt285.2.1 bt285.2.2.1 bt285.2.2.2.1 bt285.2.2.2.2.1 bt285.2.2.2.2.2.1 bt285.2.2.2.2.2.2.1) else (paviorlaw02_PteLevels.j1 kj4 t281 bt285.2.2.2.2.2.2.2 false a1_0 a1_1 a1_2 a1_3 a1_4 a1_5 a1_6 bt285.1 bt285.2.1 bt285.2.2.1 bt285.2.2.2.1 bt285.2.2.2.2.1 bt285.2.2.2.2.2.1 bt285.2.2.2.2.2.2.1))))) = some r := by rw [if_pos (show (none : Option Int).isNone = true by rfl)] at H; exact H
        clear H
        have H := H1
        clear H1
        try simp only [errW_none, errW_some]
        replace H := Option.bind_eq_some_iff.mp H
        obtain ⟨⟨t285, t286, t287, t288, t289, t290, t291, t292⟩, A100, H⟩ := H
        replace H : (if a1_0 = 1 then (if (Int.tmod x2_4 4) = 3 then (paviorlaw02_PteLevels.j1 kj4 t281 t292 true a1_0 a1_1 a1_2 a1_3 a1_4 a1_5 a1_6 t285 t286 t287 t288 t289 t290 t291) else (if a1_0 = 2 then (paviorlaw02_PteLevels.j1 kj4 t281 t292 ((Int.tmod x2_4 4) != a0) a1_0 a1_1 a1_2 a1_3 a1_4 a1_5 a1_6 t285 t286 t287 t288 t289 t290 t291) else (if a1_0 = 3 then (paviorlaw02_PteLevels.j1 kj4 t281 t292 ((Int.tmod x2_4 4) != a0) a1_0 a1_1 a1_2 a1_3 a1_4 a1_5 a1_6 t285 t286 t287 t288 t289 t290 t291) else (paviorlaw02_PteLevels.j1 kj4 t281 t292 false a1_0 a1_1 a1_2 a1_3 a1_4 a1_5 a1_6 t285 t286 t287 t288 t289 t290 t291)))) else (if a1_0 = 2 then (paviorlaw02_PteLevels.j1 kj4 t281 t292 ((Int.tmod x2_4 4) != a0) a1_0 a1_1 a1_2 a1_3 a1_4 a1_5 a1_6 t285 t286 t287 t288 t289 t290 t291) else (if a1_0 = 3 then (paviorlaw02_PteLevels.j1 kj4 t281 t292 ((Int.tmod x2_4 4) != a0) a1_0 a1_1 a1_2 a1_3 a1_4 a1_5 a1_6 t285 t286 t287 t288 t289 t290 t291) else (paviorlaw02_PteLevels.j1 kj4 t281 t292 false a1_0 a1_1 a1_2 a1_3 a1_4 a1_5 a1_6 t285 t286 t287 t288 t289 t290 t291)))) = some r := H
        have A10 := Aside0.mk A100
        clear A100
        have HC11 := Aside0.mk H
        clear H
        have hcz12_0 : wc.cell? ⟨gb280, 0, none⟩ = some (.int .i64 a1_0) := (blk_cell BK280.out 0).trans rfl
        have hcz12_1 : wc.cell? ⟨gb280, 1, none⟩ = some (.int .i64 a1_1) := (blk_cell BK280.out 1).trans rfl
        have hcz12_2 : wc.cell? ⟨gb280, 2, none⟩ = some (.bool a1_2) := (blk_cell BK280.out 2).trans rfl
        have hcz12_3 : wc.cell? ⟨gb280, 3, none⟩ = some (.bool a1_3) := (blk_cell BK280.out 3).trans rfl
        have hcz12_4 : wc.cell? ⟨gb280, 4, none⟩ = some (.bool a1_4) := (blk_cell BK280.out 4).trans rfl
        have hcz12_5 : wc.cell? ⟨gb280, 5, none⟩ = some (.bool a1_5) := (blk_cell BK280.out 5).trans rfl
        have hcz12_6 : wc.cell? ⟨gb280, 6, none⟩ = some (.int .i64 a1_6) := (blk_cell BK280.out 6).trans rfl
        have hfz12_0 := blk_frozen BK280.out 0
        have hfz12_1 := blk_frozen BK280.out 1
        have hfz12_2 := blk_frozen BK280.out 2
        have hfz12_3 := blk_frozen BK280.out 3
        have hfz12_4 := blk_frozen BK280.out 4
        have hfz12_5 := blk_frozen BK280.out 5
        have hfz12_6 := blk_frozen BK280.out 6
        go_upto_region 9 with (first | ((with_reducible refine gate_callee (f := 13) rfl ?_); refine goesL_ (some 24) rfl rfl Try.func13 (by kernel_rfl) rfl #[.int .i64 a0, .agg #[.int .i64 a1_0, .int .i64 a1_1, .bool a1_2, .bool a1_3, .bool a1_4, .bool a1_5, .int .i64 a1_6]] rfl (by (try simp only [List.map_toArray, List.map_cons, List.map_nil]); first | done | rfl | (simp only [List.length_drop, List.length_take]; rfl)) ?_; (with_reducible refine (pte_Encode.calls kj4 a0 a1_0 a1_1 a1_2 a1_3 a1_4 a1_5 a1_6 t282 none _ A9.out).mono ?_); rintro e w13 ⟨rfl, hb⟩; refine ⟨_, rfl, ?_⟩; have n0_ := Aside0.mk (blk_below (g := gb280) (o := .cells #[.int .i64 a1_0, .int .i64 a1_1, .bool a1_2, .bool a1_3, .bool a1_4, .bool a1_5, .int .i64 a1_6] 25 (0, 0)) (by (with_reducible repeat (first | refine blk_drewN ?_ _ | refine blk_drew ?_ | refine blk_alloc ?_ _)); exact BK280.out) hb); have n1_ := Aside0.mk (below_step (by repeat (first | (with_reducible first | exact HB.out | apply below_alloc | apply pw_below_drewN | apply below_drew1 | refine below_set ?_ GE280.out) | exact HB.out)) hb); clear BK280; clear HB; have BK280 := n0_; have HB := n1_; clear n0_ n1_; (try clear hb); (try clear hb2); (try clear hk); (try clear hi); (try simp only [errW_none, errW_some])) | ((with_reducible refine gate_callee (f := 11) rfl ?_); refine goesL_ (some 33) rfl rfl Try.func11 (by kernel_rfl) rfl #[.int .i64 (Int.tmod x2_4 4), .int .u64 t282] rfl (by (try simp only [List.map_toArray, List.map_cons, List.map_nil]); first | done | rfl | (simp only [List.length_drop, List.length_take]; rfl)) ?_; (with_reducible refine (pte_Decode.calls kj4 (Int.tmod x2_4 4) t282 t285 t286 t287 t288 t289 t290 t291 t292 _ A10.out).mono ?_); rintro e w14 ⟨rfl, hb⟩; refine ⟨_, rfl, ?_⟩; have n0_ := Aside0.mk (blk_below (g := gb280) (o := .cells #[.int .i64 a1_0, .int .i64 a1_1, .bool a1_2, .bool a1_3, .bool a1_4, .bool a1_5, .int .i64 a1_6] 25 (0, 0)) (by (with_reducible repeat (first | refine blk_drewN ?_ _ | refine blk_drew ?_ | refine blk_alloc ?_ _)); exact BK280.out) hb); have n1_ := Aside0.mk (below_step (by repeat (first | (with_reducible first | exact HB.out | apply below_alloc | apply pw_below_drewN | apply below_drew1 | refine below_set ?_ GE280.out) | exact HB.out)) hb); clear BK280; clear HB; have BK280 := n0_; have HB := n1_; clear n0_ n1_; (try clear hb); (try clear hb2); (try clear hk); (try clear hi); (try simp only [errW_none, errW_some])) | ((with_reducible refine gate_dst (N := 10) rfl ?_); refine box_event ?hg (N := 10) ?hd (cs := #[.int .i64 0, .int .i64 0, .bool false, .bool false, .bool false, .bool false, .int .i64 0]) (t := 25) ?hr ?_; (case hd => rfl); (case hg => rfl); (case hr => first | (go_simp; done) | (go_simp; rfl)); intro gb293 hg w15 hbox hb; have n0_ := Aside0.mk (blk_below (g := gb280) (o := .cells #[.int .i64 a1_0, .int .i64 a1_1, .bool a1_2, .bool a1_3, .bool a1_4, .bool a1_5, .int .i64 a1_6] 25 (0, 0)) (by (with_reducible repeat (first | refine blk_drewN ?_ _ | refine blk_drew ?_ | refine blk_alloc ?_ _)); exact BK280.out) hb); have n1_ := Aside0.mk (below_step (by repeat (first | (with_reducible first | exact HB.out | apply below_alloc | apply pw_below_drewN | apply below_drew1 | refine below_set ?_ GE280.out) | exact HB.out)) hb); have n2_ := Aside0.mk (hbox); have n3_ := Aside0.mk ((by rw [hg]; exact (below_size (by repeat (first | (with_reducible first | exact HB.out | apply below_alloc | apply pw_below_drewN | apply below_drew1 | refine below_set ?_ GE280.out) | exact HB.out))) : w.heap.size ≤ gb293)); have n4_ := Aside0.mk ((by rw [hg]; exact (below_size (by repeat (first | (with_reducible first | exact HB.out | apply below_alloc | apply pw_below_drewN | apply below_drew1 | refine below_set ?_ GE280.out) | exact HB.out))) : w.heap.size ≤ gb293)); have n5_ := Aside0.mk ((by rw [hg]; exact Nat.ne_of_lt (blk_lt (g := gb280) (o := .cells #[.int .i64 a1_0, .int .i64 a1_1, .bool a1_2, .bool a1_3, .bool a1_4, .bool a1_5, .int .i64 a1_6] 25 (0, 0)) (by (with_reducible repeat (first | refine blk_drewN ?_ _ | refine blk_drew ?_ | refine blk_alloc ?_ _)); exact BK280.out)) : gb280 ≠ gb293)); have n6_ := Aside0.mk ((by rw [hg]; exact Nat.ne_of_gt (blk_lt (g := gb280) (o := .cells #[.int .i64 a1_0, .int .i64 a1_1, .bool a1_2, .bool a1_3, .bool a1_4, .bool a1_5, .int .i64 a1_6] 25 (0, 0)) (by (with_reducible repeat (first | refine blk_drewN ?_ _ | refine blk_drew ?_ | refine blk_alloc ?_ _)); exact BK280.out)) : gb293 ≠ gb280)); clear BK280; clear HB; have BK280 := n0_; have HB := n1_; have BK293 := n2_; have GW293 := n3_; have GE293 := n4_; have NB280_293 := n5_; have NB293_280 := n6_; clear n0_ n1_ n2_ n3_ n4_ n5_ n6_; clear hb hbox hg; have hnb16 := NB293_280.out; have hnc16 := NB280_293.out; have hcz17_0 : w15.cell? ⟨gb293, 0, none⟩ = some (.int .i64 0) := (blk_cell BK293.out 0).trans rfl; have hcz17_1 : w15.cell? ⟨gb293, 1, none⟩ = some (.int .i64 0) := (blk_cell BK293.out 1).trans rfl; have hcz17_2 : w15.cell? ⟨gb293, 2, none⟩ = some (.bool false) := (blk_cell BK293.out 2).trans rfl; have hcz17_3 : w15.cell? ⟨gb293, 3, none⟩ = some (.bool false) := (blk_cell BK293.out 3).trans rfl; have hcz17_4 : w15.cell? ⟨gb293, 4, none⟩ = some (.bool false) := (blk_cell BK293.out 4).trans rfl; have hcz17_5 : w15.cell? ⟨gb293, 5, none⟩ = some (.bool false) := (blk_cell BK293.out 5).trans rfl; have hcz17_6 : w15.cell? ⟨gb293, 6, none⟩ = some (.int .i64 0) := (blk_cell BK293.out 6).trans rfl; have hfz17_0 := blk_frozen BK293.out 0; have hfz17_1 := blk_frozen BK293.out 1; have hfz17_2 := blk_frozen BK293.out 2; have hfz17_3 := blk_frozen BK293.out 3; have hfz17_4 := blk_frozen BK293.out 4; have hfz17_5 := blk_frozen BK293.out 5; have hfz17_6 := blk_frozen BK293.out 6))
        (try simp only [Act.put, List.setIfInBounds_toArray, List.set_cons_zero, List.set_cons_succ])
        go_cut [12] (fun v12 wc => ∃ (kq : Nat) (x12_10 : Bool), v12 = .bool x12_10 ∧ Aside0 (paviorlaw02_PteLevels.j1 kq t281 t292 x12_10 a1_0 a1_1 a1_2 a1_3 a1_4 a1_5 a1_6 t285 t286 t287 t288 t289 t290 t291 = some r) ∧ Aside0 (kq ≤ kj4) ∧ Aside0 (wc.heap[gb280]? = some (.cells #[.int .i64 a1_0, .int .i64 a1_1, .bool a1_2, .bool a1_3, .bool a1_4, .bool a1_5, .int .i64 a1_6] 25 (0, 0))) ∧ Aside0 (wc.heap[gb293]? = some (.cells #[.int .i64 t285, .int .i64 t286, .bool t287, .bool t288, .bool t289, .bool t290, .int .i64 t291] 25 (0, 0))) ∧ Aside0 (Below w.heap.size w wc))
        case first =>
          have H := HC11.out
          clear HC11
          by_cases c18 : a1_0 = 1
          · rw [if_pos c18] at H
            have c18b0 : (a1_0 == 1) = true := beq_iff_eq.mpr c18
            have c18b1 : (a1_0 != 1) = false := bne_eq_false_iff_eq.mpr c18
            clear c18
            (first | rw [c18b0] | (simp only [i64_w, i32_w]; rw [c18b0]) | skip)
            by_cases c19 : (Int.tmod x2_4 4) = 3
            · rw [if_pos c19] at H
              have c19b0 : ((Int.tmod x2_4 4) == 3) = true := beq_iff_eq.mpr c19
              have c19b1 : ((Int.tmod x2_4 4) != 3) = false := bne_eq_false_iff_eq.mpr c19
              clear c19
              have H' := Aside0.mk H
              clear H
              have hnb20 := NB280_293.out
              have hnc20 := NB293_280.out
              have hcz21_0 : w15.cell? ⟨gb280, 0, none⟩ = some (.int .i64 a1_0) := (blk_cell BK280.out 0).trans rfl
              have hcz21_1 : w15.cell? ⟨gb280, 1, none⟩ = some (.int .i64 a1_1) := (blk_cell BK280.out 1).trans rfl
              have hcz21_2 : w15.cell? ⟨gb280, 2, none⟩ = some (.bool a1_2) := (blk_cell BK280.out 2).trans rfl
              have hcz21_3 : w15.cell? ⟨gb280, 3, none⟩ = some (.bool a1_3) := (blk_cell BK280.out 3).trans rfl
              have hcz21_4 : w15.cell? ⟨gb280, 4, none⟩ = some (.bool a1_4) := (blk_cell BK280.out 4).trans rfl
              have hcz21_5 : w15.cell? ⟨gb280, 5, none⟩ = some (.bool a1_5) := (blk_cell BK280.out 5).trans rfl
              have hcz21_6 : w15.cell? ⟨gb280, 6, none⟩ = some (.int .i64 a1_6) := (blk_cell BK280.out 6).trans rfl
              have hfz21_0 := blk_frozen BK280.out 0
              have hfz21_1 := blk_frozen BK280.out 1
              have hfz21_2 := blk_frozen BK280.out 2
              have hfz21_3 := blk_frozen BK280.out 3
              have hfz21_4 := blk_frozen BK280.out 4
              have hfz21_5 := blk_frozen BK280.out 5
              have hfz21_6 := blk_frozen BK280.out 6
              go_wp2
              go_meet
              case rel => exact ⟨_, (true), (by first | rfl | (simp; done) | (simp [*]; done)), H', ⟨by have := HJ4.out; first | omega | exact Nat.le_refl _⟩, ⟨by (with_reducible repeat (first | refine blk_drewN ?_ _ | refine blk_drew ?_ | refine blk_alloc ?_ _)); refine blk_far ?_ NB280_293.out _; (with_reducible repeat (first | refine blk_drewN ?_ _ | refine blk_drew ?_ | refine blk_alloc ?_ _)); refine blk_far ?_ NB280_293.out _; (with_reducible repeat (first | refine blk_drewN ?_ _ | refine blk_drew ?_ | refine blk_alloc ?_ _)); refine blk_far ?_ NB280_293.out _; (with_reducible repeat (first | refine blk_drewN ?_ _ | refine blk_drew ?_ | refine blk_alloc ?_ _)); refine blk_far ?_ NB280_293.out _; (with_reducible repeat (first | refine blk_drewN ?_ _ | refine blk_drew ?_ | refine blk_alloc ?_ _)); refine blk_far ?_ NB280_293.out _; (with_reducible repeat (first | refine blk_drewN ?_ _ | refine blk_drew ?_ | refine blk_alloc ?_ _)); refine blk_far ?_ NB280_293.out _; (with_reducible repeat (first | refine blk_drewN ?_ _ | refine blk_drew ?_ | refine blk_alloc ?_ _)); refine blk_far ?_ NB280_293.out _; (with_reducible repeat (first | refine blk_drewN ?_ _ | refine blk_drew ?_ | refine blk_alloc ?_ _)); exact BK280.out⟩, ⟨by (with_reducible repeat (first | refine blk_drewN ?_ _ | refine blk_drew ?_ | refine blk_alloc ?_ _)); refine blk_put (cs := #[.int .i64 t285, .int .i64 t286, .bool t287, .bool t288, .bool t289, .bool t290, .int .i64 0]) ?_ 6 _ rfl; (with_reducible repeat (first | refine blk_drewN ?_ _ | refine blk_drew ?_ | refine blk_alloc ?_ _)); refine blk_put (cs := #[.int .i64 t285, .int .i64 t286, .bool t287, .bool t288, .bool t289, .bool false, .int .i64 0]) ?_ 5 _ rfl; (with_reducible repeat (first | refine blk_drewN ?_ _ | refine blk_drew ?_ | refine blk_alloc ?_ _)); refine blk_put (cs := #[.int .i64 t285, .int .i64 t286, .bool t287, .bool t288, .bool false, .bool false, .int .i64 0]) ?_ 4 _ rfl; (with_reducible repeat (first | refine blk_drewN ?_ _ | refine blk_drew ?_ | refine blk_alloc ?_ _)); refine blk_put (cs := #[.int .i64 t285, .int .i64 t286, .bool t287, .bool false, .bool false, .bool false, .int .i64 0]) ?_ 3 _ rfl; (with_reducible repeat (first | refine blk_drewN ?_ _ | refine blk_drew ?_ | refine blk_alloc ?_ _)); refine blk_put (cs := #[.int .i64 t285, .int .i64 t286, .bool false, .bool false, .bool false, .bool false, .int .i64 0]) ?_ 2 _ rfl; (with_reducible repeat (first | refine blk_drewN ?_ _ | refine blk_drew ?_ | refine blk_alloc ?_ _)); refine blk_put (cs := #[.int .i64 t285, .int .i64 0, .bool false, .bool false, .bool false, .bool false, .int .i64 0]) ?_ 1 _ rfl; (with_reducible repeat (first | refine blk_drewN ?_ _ | refine blk_drew ?_ | refine blk_alloc ?_ _)); refine blk_put (cs := #[.int .i64 0, .int .i64 0, .bool false, .bool false, .bool false, .bool false, .int .i64 0]) ?_ 0 _ rfl; (with_reducible repeat (first | refine blk_drewN ?_ _ | refine blk_drew ?_ | refine blk_alloc ?_ _)); exact BK293.out⟩, ⟨by repeat (first | (with_reducible first | exact HB.out | apply below_alloc | apply pw_below_drewN | apply below_drew1 | refine below_set ?_ GE280.out | refine below_set ?_ GE293.out) | exact HB.out)⟩⟩
            · rw [if_neg c19] at H
              have c19b0 : ((Int.tmod x2_4 4) == 3) = false := beq_eq_false_iff_ne.mpr c19
              have c19b1 : ((Int.tmod x2_4 4) != 3) = true := bne_iff_ne.mpr c19
              by_cases c22 : a1_0 = 2
              · rw [if_pos c22] at H
                have c22b0 : (a1_0 == 2) = true := beq_iff_eq.mpr c22
                have c22b1 : (a1_0 != 2) = false := bne_eq_false_iff_eq.mpr c22
                clear c22
                have H' := Aside0.mk H
                clear H
                have hnb23 := NB280_293.out
                have hnc23 := NB293_280.out
                have hcz24_0 : w15.cell? ⟨gb280, 0, none⟩ = some (.int .i64 a1_0) := (blk_cell BK280.out 0).trans rfl
                have hcz24_1 : w15.cell? ⟨gb280, 1, none⟩ = some (.int .i64 a1_1) := (blk_cell BK280.out 1).trans rfl
                have hcz24_2 : w15.cell? ⟨gb280, 2, none⟩ = some (.bool a1_2) := (blk_cell BK280.out 2).trans rfl
                have hcz24_3 : w15.cell? ⟨gb280, 3, none⟩ = some (.bool a1_3) := (blk_cell BK280.out 3).trans rfl
                have hcz24_4 : w15.cell? ⟨gb280, 4, none⟩ = some (.bool a1_4) := (blk_cell BK280.out 4).trans rfl
                have hcz24_5 : w15.cell? ⟨gb280, 5, none⟩ = some (.bool a1_5) := (blk_cell BK280.out 5).trans rfl
                have hcz24_6 : w15.cell? ⟨gb280, 6, none⟩ = some (.int .i64 a1_6) := (blk_cell BK280.out 6).trans rfl
                have hfz24_0 := blk_frozen BK280.out 0
                have hfz24_1 := blk_frozen BK280.out 1
                have hfz24_2 := blk_frozen BK280.out 2
                have hfz24_3 := blk_frozen BK280.out 3
                have hfz24_4 := blk_frozen BK280.out 4
                have hfz24_5 := blk_frozen BK280.out 5
                have hfz24_6 := blk_frozen BK280.out 6
                go_wp2
                go_meet
                case rel => exact ⟨_, (((Int.tmod x2_4 4) != a0)), (by first | rfl | (simp; done) | (simp [*]; done)), H', ⟨by have := HJ4.out; first | omega | exact Nat.le_refl _⟩, ⟨by (with_reducible repeat (first | refine blk_drewN ?_ _ | refine blk_drew ?_ | refine blk_alloc ?_ _)); refine blk_far ?_ NB280_293.out _; (with_reducible repeat (first | refine blk_drewN ?_ _ | refine blk_drew ?_ | refine blk_alloc ?_ _)); refine blk_far ?_ NB280_293.out _; (with_reducible repeat (first | refine blk_drewN ?_ _ | refine blk_drew ?_ | refine blk_alloc ?_ _)); refine blk_far ?_ NB280_293.out _; (with_reducible repeat (first | refine blk_drewN ?_ _ | refine blk_drew ?_ | refine blk_alloc ?_ _)); refine blk_far ?_ NB280_293.out _; (with_reducible repeat (first | refine blk_drewN ?_ _ | refine blk_drew ?_ | refine blk_alloc ?_ _)); refine blk_far ?_ NB280_293.out _; (with_reducible repeat (first | refine blk_drewN ?_ _ | refine blk_drew ?_ | refine blk_alloc ?_ _)); refine blk_far ?_ NB280_293.out _; (with_reducible repeat (first | refine blk_drewN ?_ _ | refine blk_drew ?_ | refine blk_alloc ?_ _)); refine blk_far ?_ NB280_293.out _; (with_reducible repeat (first | refine blk_drewN ?_ _ | refine blk_drew ?_ | refine blk_alloc ?_ _)); exact BK280.out⟩, ⟨by (with_reducible repeat (first | refine blk_drewN ?_ _ | refine blk_drew ?_ | refine blk_alloc ?_ _)); refine blk_put (cs := #[.int .i64 t285, .int .i64 t286, .bool t287, .bool t288, .bool t289, .bool t290, .int .i64 0]) ?_ 6 _ rfl; (with_reducible repeat (first | refine blk_drewN ?_ _ | refine blk_drew ?_ | refine blk_alloc ?_ _)); refine blk_put (cs := #[.int .i64 t285, .int .i64 t286, .bool t287, .bool t288, .bool t289, .bool false, .int .i64 0]) ?_ 5 _ rfl; (with_reducible repeat (first | refine blk_drewN ?_ _ | refine blk_drew ?_ | refine blk_alloc ?_ _)); refine blk_put (cs := #[.int .i64 t285, .int .i64 t286, .bool t287, .bool t288, .bool false, .bool false, .int .i64 0]) ?_ 4 _ rfl; (with_reducible repeat (first | refine blk_drewN ?_ _ | refine blk_drew ?_ | refine blk_alloc ?_ _)); refine blk_put (cs := #[.int .i64 t285, .int .i64 t286, .bool t287, .bool false, .bool false, .bool false, .int .i64 0]) ?_ 3 _ rfl; (with_reducible repeat (first | refine blk_drewN ?_ _ | refine blk_drew ?_ | refine blk_alloc ?_ _)); refine blk_put (cs := #[.int .i64 t285, .int .i64 t286, .bool false, .bool false, .bool false, .bool false, .int .i64 0]) ?_ 2 _ rfl; (with_reducible repeat (first | refine blk_drewN ?_ _ | refine blk_drew ?_ | refine blk_alloc ?_ _)); refine blk_put (cs := #[.int .i64 t285, .int .i64 0, .bool false, .bool false, .bool false, .bool false, .int .i64 0]) ?_ 1 _ rfl; (with_reducible repeat (first | refine blk_drewN ?_ _ | refine blk_drew ?_ | refine blk_alloc ?_ _)); refine blk_put (cs := #[.int .i64 0, .int .i64 0, .bool false, .bool false, .bool false, .bool false, .int .i64 0]) ?_ 0 _ rfl; (with_reducible repeat (first | refine blk_drewN ?_ _ | refine blk_drew ?_ | refine blk_alloc ?_ _)); exact BK293.out⟩, ⟨by repeat (first | (with_reducible first | exact HB.out | apply below_alloc | apply pw_below_drewN | apply below_drew1 | refine below_set ?_ GE280.out | refine below_set ?_ GE293.out) | exact HB.out)⟩⟩
              · rw [if_neg c22] at H
                have c22b0 : (a1_0 == 2) = false := beq_eq_false_iff_ne.mpr c22
                have c22b1 : (a1_0 != 2) = true := bne_iff_ne.mpr c22
                by_cases c25 : a1_0 = 3
                · rw [if_pos c25] at H
                  have c25b0 : (a1_0 == 3) = true := beq_iff_eq.mpr c25
                  have c25b1 : (a1_0 != 3) = false := bne_eq_false_iff_eq.mpr c25
                  clear c25
                  have H' := Aside0.mk H
                  clear H
                  have hnb26 := NB280_293.out
                  have hnc26 := NB293_280.out
                  have hcz27_0 : w15.cell? ⟨gb280, 0, none⟩ = some (.int .i64 a1_0) := (blk_cell BK280.out 0).trans rfl
                  have hcz27_1 : w15.cell? ⟨gb280, 1, none⟩ = some (.int .i64 a1_1) := (blk_cell BK280.out 1).trans rfl
                  have hcz27_2 : w15.cell? ⟨gb280, 2, none⟩ = some (.bool a1_2) := (blk_cell BK280.out 2).trans rfl
                  have hcz27_3 : w15.cell? ⟨gb280, 3, none⟩ = some (.bool a1_3) := (blk_cell BK280.out 3).trans rfl
                  have hcz27_4 : w15.cell? ⟨gb280, 4, none⟩ = some (.bool a1_4) := (blk_cell BK280.out 4).trans rfl
                  have hcz27_5 : w15.cell? ⟨gb280, 5, none⟩ = some (.bool a1_5) := (blk_cell BK280.out 5).trans rfl
                  have hcz27_6 : w15.cell? ⟨gb280, 6, none⟩ = some (.int .i64 a1_6) := (blk_cell BK280.out 6).trans rfl
                  have hfz27_0 := blk_frozen BK280.out 0
                  have hfz27_1 := blk_frozen BK280.out 1
                  have hfz27_2 := blk_frozen BK280.out 2
                  have hfz27_3 := blk_frozen BK280.out 3
                  have hfz27_4 := blk_frozen BK280.out 4
                  have hfz27_5 := blk_frozen BK280.out 5
                  have hfz27_6 := blk_frozen BK280.out 6
                  go_wp2
                  go_meet
                  case rel => exact ⟨_, (((Int.tmod x2_4 4) != a0)), (by first | rfl | (simp; done) | (simp [*]; done)), H', ⟨by have := HJ4.out; first | omega | exact Nat.le_refl _⟩, ⟨by (with_reducible repeat (first | refine blk_drewN ?_ _ | refine blk_drew ?_ | refine blk_alloc ?_ _)); refine blk_far ?_ NB280_293.out _; (with_reducible repeat (first | refine blk_drewN ?_ _ | refine blk_drew ?_ | refine blk_alloc ?_ _)); refine blk_far ?_ NB280_293.out _; (with_reducible repeat (first | refine blk_drewN ?_ _ | refine blk_drew ?_ | refine blk_alloc ?_ _)); refine blk_far ?_ NB280_293.out _; (with_reducible repeat (first | refine blk_drewN ?_ _ | refine blk_drew ?_ | refine blk_alloc ?_ _)); refine blk_far ?_ NB280_293.out _; (with_reducible repeat (first | refine blk_drewN ?_ _ | refine blk_drew ?_ | refine blk_alloc ?_ _)); refine blk_far ?_ NB280_293.out _; (with_reducible repeat (first | refine blk_drewN ?_ _ | refine blk_drew ?_ | refine blk_alloc ?_ _)); refine blk_far ?_ NB280_293.out _; (with_reducible repeat (first | refine blk_drewN ?_ _ | refine blk_drew ?_ | refine blk_alloc ?_ _)); refine blk_far ?_ NB280_293.out _; (with_reducible repeat (first | refine blk_drewN ?_ _ | refine blk_drew ?_ | refine blk_alloc ?_ _)); exact BK280.out⟩, ⟨by (with_reducible repeat (first | refine blk_drewN ?_ _ | refine blk_drew ?_ | refine blk_alloc ?_ _)); refine blk_put (cs := #[.int .i64 t285, .int .i64 t286, .bool t287, .bool t288, .bool t289, .bool t290, .int .i64 0]) ?_ 6 _ rfl; (with_reducible repeat (first | refine blk_drewN ?_ _ | refine blk_drew ?_ | refine blk_alloc ?_ _)); refine blk_put (cs := #[.int .i64 t285, .int .i64 t286, .bool t287, .bool t288, .bool t289, .bool false, .int .i64 0]) ?_ 5 _ rfl; (with_reducible repeat (first | refine blk_drewN ?_ _ | refine blk_drew ?_ | refine blk_alloc ?_ _)); refine blk_put (cs := #[.int .i64 t285, .int .i64 t286, .bool t287, .bool t288, .bool false, .bool false, .int .i64 0]) ?_ 4 _ rfl; (with_reducible repeat (first | refine blk_drewN ?_ _ | refine blk_drew ?_ | refine blk_alloc ?_ _)); refine blk_put (cs := #[.int .i64 t285, .int .i64 t286, .bool t287, .bool false, .bool false, .bool false, .int .i64 0]) ?_ 3 _ rfl; (with_reducible repeat (first | refine blk_drewN ?_ _ | refine blk_drew ?_ | refine blk_alloc ?_ _)); refine blk_put (cs := #[.int .i64 t285, .int .i64 t286, .bool false, .bool false, .bool false, .bool false, .int .i64 0]) ?_ 2 _ rfl; (with_reducible repeat (first | refine blk_drewN ?_ _ | refine blk_drew ?_ | refine blk_alloc ?_ _)); refine blk_put (cs := #[.int .i64 t285, .int .i64 0, .bool false, .bool false, .bool false, .bool false, .int .i64 0]) ?_ 1 _ rfl; (with_reducible repeat (first | refine blk_drewN ?_ _ | refine blk_drew ?_ | refine blk_alloc ?_ _)); refine blk_put (cs := #[.int .i64 0, .int .i64 0, .bool false, .bool false, .bool false, .bool false, .int .i64 0]) ?_ 0 _ rfl; (with_reducible repeat (first | refine blk_drewN ?_ _ | refine blk_drew ?_ | refine blk_alloc ?_ _)); exact BK293.out⟩, ⟨by repeat (first | (with_reducible first | exact HB.out | apply below_alloc | apply pw_below_drewN | apply below_drew1 | refine below_set ?_ GE280.out | refine below_set ?_ GE293.out) | exact HB.out)⟩⟩
                · rw [if_neg c25] at H
                  have c25b0 : (a1_0 == 3) = false := beq_eq_false_iff_ne.mpr c25
                  have c25b1 : (a1_0 != 3) = true := bne_iff_ne.mpr c25
                  have H' := Aside0.mk H
                  clear H
                  have hnb28 := NB280_293.out
                  have hnc28 := NB293_280.out
                  have hcz29_0 : w15.cell? ⟨gb280, 0, none⟩ = some (.int .i64 a1_0) := (blk_cell BK280.out 0).trans rfl
                  have hcz29_1 : w15.cell? ⟨gb280, 1, none⟩ = some (.int .i64 a1_1) := (blk_cell BK280.out 1).trans rfl
                  have hcz29_2 : w15.cell? ⟨gb280, 2, none⟩ = some (.bool a1_2) := (blk_cell BK280.out 2).trans rfl
                  have hcz29_3 : w15.cell? ⟨gb280, 3, none⟩ = some (.bool a1_3) := (blk_cell BK280.out 3).trans rfl
                  have hcz29_4 : w15.cell? ⟨gb280, 4, none⟩ = some (.bool a1_4) := (blk_cell BK280.out 4).trans rfl
                  have hcz29_5 : w15.cell? ⟨gb280, 5, none⟩ = some (.bool a1_5) := (blk_cell BK280.out 5).trans rfl
                  have hcz29_6 : w15.cell? ⟨gb280, 6, none⟩ = some (.int .i64 a1_6) := (blk_cell BK280.out 6).trans rfl
                  have hfz29_0 := blk_frozen BK280.out 0
                  have hfz29_1 := blk_frozen BK280.out 1
                  have hfz29_2 := blk_frozen BK280.out 2
                  have hfz29_3 := blk_frozen BK280.out 3
                  have hfz29_4 := blk_frozen BK280.out 4
                  have hfz29_5 := blk_frozen BK280.out 5
                  have hfz29_6 := blk_frozen BK280.out 6
                  go_wp2
                  go_meet
                  case rel => exact ⟨_, (false), (by first | rfl | (simp; done) | (simp [*]; done)), H', ⟨by have := HJ4.out; first | omega | exact Nat.le_refl _⟩, ⟨by (with_reducible repeat (first | refine blk_drewN ?_ _ | refine blk_drew ?_ | refine blk_alloc ?_ _)); refine blk_far ?_ NB280_293.out _; (with_reducible repeat (first | refine blk_drewN ?_ _ | refine blk_drew ?_ | refine blk_alloc ?_ _)); refine blk_far ?_ NB280_293.out _; (with_reducible repeat (first | refine blk_drewN ?_ _ | refine blk_drew ?_ | refine blk_alloc ?_ _)); refine blk_far ?_ NB280_293.out _; (with_reducible repeat (first | refine blk_drewN ?_ _ | refine blk_drew ?_ | refine blk_alloc ?_ _)); refine blk_far ?_ NB280_293.out _; (with_reducible repeat (first | refine blk_drewN ?_ _ | refine blk_drew ?_ | refine blk_alloc ?_ _)); refine blk_far ?_ NB280_293.out _; (with_reducible repeat (first | refine blk_drewN ?_ _ | refine blk_drew ?_ | refine blk_alloc ?_ _)); refine blk_far ?_ NB280_293.out _; (with_reducible repeat (first | refine blk_drewN ?_ _ | refine blk_drew ?_ | refine blk_alloc ?_ _)); refine blk_far ?_ NB280_293.out _; (with_reducible repeat (first | refine blk_drewN ?_ _ | refine blk_drew ?_ | refine blk_alloc ?_ _)); exact BK280.out⟩, ⟨by (with_reducible repeat (first | refine blk_drewN ?_ _ | refine blk_drew ?_ | refine blk_alloc ?_ _)); refine blk_put (cs := #[.int .i64 t285, .int .i64 t286, .bool t287, .bool t288, .bool t289, .bool t290, .int .i64 0]) ?_ 6 _ rfl; (with_reducible repeat (first | refine blk_drewN ?_ _ | refine blk_drew ?_ | refine blk_alloc ?_ _)); refine blk_put (cs := #[.int .i64 t285, .int .i64 t286, .bool t287, .bool t288, .bool t289, .bool false, .int .i64 0]) ?_ 5 _ rfl; (with_reducible repeat (first | refine blk_drewN ?_ _ | refine blk_drew ?_ | refine blk_alloc ?_ _)); refine blk_put (cs := #[.int .i64 t285, .int .i64 t286, .bool t287, .bool t288, .bool false, .bool false, .int .i64 0]) ?_ 4 _ rfl; (with_reducible repeat (first | refine blk_drewN ?_ _ | refine blk_drew ?_ | refine blk_alloc ?_ _)); refine blk_put (cs := #[.int .i64 t285, .int .i64 t286, .bool t287, .bool false, .bool false, .bool false, .int .i64 0]) ?_ 3 _ rfl; (with_reducible repeat (first | refine blk_drewN ?_ _ | refine blk_drew ?_ | refine blk_alloc ?_ _)); refine blk_put (cs := #[.int .i64 t285, .int .i64 t286, .bool false, .bool false, .bool false, .bool false, .int .i64 0]) ?_ 2 _ rfl; (with_reducible repeat (first | refine blk_drewN ?_ _ | refine blk_drew ?_ | refine blk_alloc ?_ _)); refine blk_put (cs := #[.int .i64 t285, .int .i64 0, .bool false, .bool false, .bool false, .bool false, .int .i64 0]) ?_ 1 _ rfl; (with_reducible repeat (first | refine blk_drewN ?_ _ | refine blk_drew ?_ | refine blk_alloc ?_ _)); refine blk_put (cs := #[.int .i64 0, .int .i64 0, .bool false, .bool false, .bool false, .bool false, .int .i64 0]) ?_ 0 _ rfl; (with_reducible repeat (first | refine blk_drewN ?_ _ | refine blk_drew ?_ | refine blk_alloc ?_ _)); exact BK293.out⟩, ⟨by repeat (first | (with_reducible first | exact HB.out | apply below_alloc | apply pw_below_drewN | apply below_drew1 | refine below_set ?_ GE280.out | refine below_set ?_ GE293.out) | exact HB.out)⟩⟩
          · rw [if_neg c18] at H
            have c18b0 : (a1_0 == 1) = false := beq_eq_false_iff_ne.mpr c18
            have c18b1 : (a1_0 != 1) = true := bne_iff_ne.mpr c18
            (first | rw [c18b0] | (simp only [i64_w, i32_w]; rw [c18b0]) | skip)
            by_cases c30 : a1_0 = 2
            · rw [if_pos c30] at H
              have c30b0 : (a1_0 == 2) = true := beq_iff_eq.mpr c30
              have c30b1 : (a1_0 != 2) = false := bne_eq_false_iff_eq.mpr c30
              clear c30
              have H' := Aside0.mk H
              clear H
              have hnb31 := NB280_293.out
              have hnc31 := NB293_280.out
              have hcz32_0 : w15.cell? ⟨gb280, 0, none⟩ = some (.int .i64 a1_0) := (blk_cell BK280.out 0).trans rfl
              have hcz32_1 : w15.cell? ⟨gb280, 1, none⟩ = some (.int .i64 a1_1) := (blk_cell BK280.out 1).trans rfl
              have hcz32_2 : w15.cell? ⟨gb280, 2, none⟩ = some (.bool a1_2) := (blk_cell BK280.out 2).trans rfl
              have hcz32_3 : w15.cell? ⟨gb280, 3, none⟩ = some (.bool a1_3) := (blk_cell BK280.out 3).trans rfl
              have hcz32_4 : w15.cell? ⟨gb280, 4, none⟩ = some (.bool a1_4) := (blk_cell BK280.out 4).trans rfl
              have hcz32_5 : w15.cell? ⟨gb280, 5, none⟩ = some (.bool a1_5) := (blk_cell BK280.out 5).trans rfl
              have hcz32_6 : w15.cell? ⟨gb280, 6, none⟩ = some (.int .i64 a1_6) := (blk_cell BK280.out 6).trans rfl
              have hfz32_0 := blk_frozen BK280.out 0
              have hfz32_1 := blk_frozen BK280.out 1
              have hfz32_2 := blk_frozen BK280.out 2
              have hfz32_3 := blk_frozen BK280.out 3
              have hfz32_4 := blk_frozen BK280.out 4
              have hfz32_5 := blk_frozen BK280.out 5
              have hfz32_6 := blk_frozen BK280.out 6
              go_wp2
              go_meet
              case rel => exact ⟨_, (((Int.tmod x2_4 4) != a0)), (by first | rfl | (simp; done) | (simp [*]; done)), H', ⟨by have := HJ4.out; first | omega | exact Nat.le_refl _⟩, ⟨by (with_reducible repeat (first | refine blk_drewN ?_ _ | refine blk_drew ?_ | refine blk_alloc ?_ _)); refine blk_far ?_ NB280_293.out _; (with_reducible repeat (first | refine blk_drewN ?_ _ | refine blk_drew ?_ | refine blk_alloc ?_ _)); refine blk_far ?_ NB280_293.out _; (with_reducible repeat (first | refine blk_drewN ?_ _ | refine blk_drew ?_ | refine blk_alloc ?_ _)); refine blk_far ?_ NB280_293.out _; (with_reducible repeat (first | refine blk_drewN ?_ _ | refine blk_drew ?_ | refine blk_alloc ?_ _)); refine blk_far ?_ NB280_293.out _; (with_reducible repeat (first | refine blk_drewN ?_ _ | refine blk_drew ?_ | refine blk_alloc ?_ _)); refine blk_far ?_ NB280_293.out _; (with_reducible repeat (first | refine blk_drewN ?_ _ | refine blk_drew ?_ | refine blk_alloc ?_ _)); refine blk_far ?_ NB280_293.out _; (with_reducible repeat (first | refine blk_drewN ?_ _ | refine blk_drew ?_ | refine blk_alloc ?_ _)); refine blk_far ?_ NB280_293.out _; (with_reducible repeat (first | refine blk_drewN ?_ _ | refine blk_drew ?_ | refine blk_alloc ?_ _)); exact BK280.out⟩, ⟨by (with_reducible repeat (first | refine blk_drewN ?_ _ | refine blk_drew ?_ | refine blk_alloc ?_ _)); refine blk_put (cs := #[.int .i64 t285, .int .i64 t286, .bool t287, .bool t288, .bool t289, .bool t290, .int .i64 0]) ?_ 6 _ rfl; (with_reducible repeat (first | refine blk_drewN ?_ _ | refine blk_drew ?_ | refine blk_alloc ?_ _)); refine blk_put (cs := #[.int .i64 t285, .int .i64 t286, .bool t287, .bool t288, .bool t289, .bool false, .int .i64 0]) ?_ 5 _ rfl; (with_reducible repeat (first | refine blk_drewN ?_ _ | refine blk_drew ?_ | refine blk_alloc ?_ _)); refine blk_put (cs := #[.int .i64 t285, .int .i64 t286, .bool t287, .bool t288, .bool false, .bool false, .int .i64 0]) ?_ 4 _ rfl; (with_reducible repeat (first | refine blk_drewN ?_ _ | refine blk_drew ?_ | refine blk_alloc ?_ _)); refine blk_put (cs := #[.int .i64 t285, .int .i64 t286, .bool t287, .bool false, .bool false, .bool false, .int .i64 0]) ?_ 3 _ rfl; (with_reducible repeat (first | refine blk_drewN ?_ _ | refine blk_drew ?_ | refine blk_alloc ?_ _)); refine blk_put (cs := #[.int .i64 t285, .int .i64 t286, .bool false, .bool false, .bool false, .bool false, .int .i64 0]) ?_ 2 _ rfl; (with_reducible repeat (first | refine blk_drewN ?_ _ | refine blk_drew ?_ | refine blk_alloc ?_ _)); refine blk_put (cs := #[.int .i64 t285, .int .i64 0, .bool false, .bool false, .bool false, .bool false, .int .i64 0]) ?_ 1 _ rfl; (with_reducible repeat (first | refine blk_drewN ?_ _ | refine blk_drew ?_ | refine blk_alloc ?_ _)); refine blk_put (cs := #[.int .i64 0, .int .i64 0, .bool false, .bool false, .bool false, .bool false, .int .i64 0]) ?_ 0 _ rfl; (with_reducible repeat (first | refine blk_drewN ?_ _ | refine blk_drew ?_ | refine blk_alloc ?_ _)); exact BK293.out⟩, ⟨by repeat (first | (with_reducible first | exact HB.out | apply below_alloc | apply pw_below_drewN | apply below_drew1 | refine below_set ?_ GE280.out | refine below_set ?_ GE293.out) | exact HB.out)⟩⟩
            · rw [if_neg c30] at H
              have c30b0 : (a1_0 == 2) = false := beq_eq_false_iff_ne.mpr c30
              have c30b1 : (a1_0 != 2) = true := bne_iff_ne.mpr c30
              by_cases c33 : a1_0 = 3
              · rw [if_pos c33] at H
                have c33b0 : (a1_0 == 3) = true := beq_iff_eq.mpr c33
                have c33b1 : (a1_0 != 3) = false := bne_eq_false_iff_eq.mpr c33
                clear c33
                have H' := Aside0.mk H
                clear H
                have hnb34 := NB280_293.out
                have hnc34 := NB293_280.out
                have hcz35_0 : w15.cell? ⟨gb280, 0, none⟩ = some (.int .i64 a1_0) := (blk_cell BK280.out 0).trans rfl
                have hcz35_1 : w15.cell? ⟨gb280, 1, none⟩ = some (.int .i64 a1_1) := (blk_cell BK280.out 1).trans rfl
                have hcz35_2 : w15.cell? ⟨gb280, 2, none⟩ = some (.bool a1_2) := (blk_cell BK280.out 2).trans rfl
                have hcz35_3 : w15.cell? ⟨gb280, 3, none⟩ = some (.bool a1_3) := (blk_cell BK280.out 3).trans rfl
                have hcz35_4 : w15.cell? ⟨gb280, 4, none⟩ = some (.bool a1_4) := (blk_cell BK280.out 4).trans rfl
                have hcz35_5 : w15.cell? ⟨gb280, 5, none⟩ = some (.bool a1_5) := (blk_cell BK280.out 5).trans rfl
                have hcz35_6 : w15.cell? ⟨gb280, 6, none⟩ = some (.int .i64 a1_6) := (blk_cell BK280.out 6).trans rfl
                have hfz35_0 := blk_frozen BK280.out 0
                have hfz35_1 := blk_frozen BK280.out 1
                have hfz35_2 := blk_frozen BK280.out 2
                have hfz35_3 := blk_frozen BK280.out 3
                have hfz35_4 := blk_frozen BK280.out 4
                have hfz35_5 := blk_frozen BK280.out 5
                have hfz35_6 := blk_frozen BK280.out 6
                go_wp2
                go_meet
                case rel => exact ⟨_, (((Int.tmod x2_4 4) != a0)), (by first | rfl | (simp; done) | (simp [*]; done)), H', ⟨by have := HJ4.out; first | omega | exact Nat.le_refl _⟩, ⟨by (with_reducible repeat (first | refine blk_drewN ?_ _ | refine blk_drew ?_ | refine blk_alloc ?_ _)); refine blk_far ?_ NB280_293.out _; (with_reducible repeat (first | refine blk_drewN ?_ _ | refine blk_drew ?_ | refine blk_alloc ?_ _)); refine blk_far ?_ NB280_293.out _; (with_reducible repeat (first | refine blk_drewN ?_ _ | refine blk_drew ?_ | refine blk_alloc ?_ _)); refine blk_far ?_ NB280_293.out _; (with_reducible repeat (first | refine blk_drewN ?_ _ | refine blk_drew ?_ | refine blk_alloc ?_ _)); refine blk_far ?_ NB280_293.out _; (with_reducible repeat (first | refine blk_drewN ?_ _ | refine blk_drew ?_ | refine blk_alloc ?_ _)); refine blk_far ?_ NB280_293.out _; (with_reducible repeat (first | refine blk_drewN ?_ _ | refine blk_drew ?_ | refine blk_alloc ?_ _)); refine blk_far ?_ NB280_293.out _; (with_reducible repeat (first | refine blk_drewN ?_ _ | refine blk_drew ?_ | refine blk_alloc ?_ _)); refine blk_far ?_ NB280_293.out _; (with_reducible repeat (first | refine blk_drewN ?_ _ | refine blk_drew ?_ | refine blk_alloc ?_ _)); exact BK280.out⟩, ⟨by (with_reducible repeat (first | refine blk_drewN ?_ _ | refine blk_drew ?_ | refine blk_alloc ?_ _)); refine blk_put (cs := #[.int .i64 t285, .int .i64 t286, .bool t287, .bool t288, .bool t289, .bool t290, .int .i64 0]) ?_ 6 _ rfl; (with_reducible repeat (first | refine blk_drewN ?_ _ | refine blk_drew ?_ | refine blk_alloc ?_ _)); refine blk_put (cs := #[.int .i64 t285, .int .i64 t286, .bool t287, .bool t288, .bool t289, .bool false, .int .i64 0]) ?_ 5 _ rfl; (with_reducible repeat (first | refine blk_drewN ?_ _ | refine blk_drew ?_ | refine blk_alloc ?_ _)); refine blk_put (cs := #[.int .i64 t285, .int .i64 t286, .bool t287, .bool t288, .bool false, .bool false, .int .i64 0]) ?_ 4 _ rfl; (with_reducible repeat (first | refine blk_drewN ?_ _ | refine blk_drew ?_ | refine blk_alloc ?_ _)); refine blk_put (cs := #[.int .i64 t285, .int .i64 t286, .bool t287, .bool false, .bool false, .bool false, .int .i64 0]) ?_ 3 _ rfl; (with_reducible repeat (first | refine blk_drewN ?_ _ | refine blk_drew ?_ | refine blk_alloc ?_ _)); refine blk_put (cs := #[.int .i64 t285, .int .i64 t286, .bool false, .bool false, .bool false, .bool false, .int .i64 0]) ?_ 2 _ rfl; (with_reducible repeat (first | refine blk_drewN ?_ _ | refine blk_drew ?_ | refine blk_alloc ?_ _)); refine blk_put (cs := #[.int .i64 t285, .int .i64 0, .bool false, .bool false, .bool false, .bool false, .int .i64 0]) ?_ 1 _ rfl; (with_reducible repeat (first | refine blk_drewN ?_ _ | refine blk_drew ?_ | refine blk_alloc ?_ _)); refine blk_put (cs := #[.int .i64 0, .int .i64 0, .bool false, .bool false, .bool false, .bool false, .int .i64 0]) ?_ 0 _ rfl; (with_reducible repeat (first | refine blk_drewN ?_ _ | refine blk_drew ?_ | refine blk_alloc ?_ _)); exact BK293.out⟩, ⟨by repeat (first | (with_reducible first | exact HB.out | apply below_alloc | apply pw_below_drewN | apply below_drew1 | refine below_set ?_ GE280.out | refine below_set ?_ GE293.out) | exact HB.out)⟩⟩
              · rw [if_neg c33] at H
                have c33b0 : (a1_0 == 3) = false := beq_eq_false_iff_ne.mpr c33
                have c33b1 : (a1_0 != 3) = true := bne_iff_ne.mpr c33
                have H' := Aside0.mk H
                clear H
                have hnb36 := NB280_293.out
                have hnc36 := NB293_280.out
                have hcz37_0 : w15.cell? ⟨gb280, 0, none⟩ = some (.int .i64 a1_0) := (blk_cell BK280.out 0).trans rfl
                have hcz37_1 : w15.cell? ⟨gb280, 1, none⟩ = some (.int .i64 a1_1) := (blk_cell BK280.out 1).trans rfl
                have hcz37_2 : w15.cell? ⟨gb280, 2, none⟩ = some (.bool a1_2) := (blk_cell BK280.out 2).trans rfl
                have hcz37_3 : w15.cell? ⟨gb280, 3, none⟩ = some (.bool a1_3) := (blk_cell BK280.out 3).trans rfl
                have hcz37_4 : w15.cell? ⟨gb280, 4, none⟩ = some (.bool a1_4) := (blk_cell BK280.out 4).trans rfl
                have hcz37_5 : w15.cell? ⟨gb280, 5, none⟩ = some (.bool a1_5) := (blk_cell BK280.out 5).trans rfl
                have hcz37_6 : w15.cell? ⟨gb280, 6, none⟩ = some (.int .i64 a1_6) := (blk_cell BK280.out 6).trans rfl
                have hfz37_0 := blk_frozen BK280.out 0
                have hfz37_1 := blk_frozen BK280.out 1
                have hfz37_2 := blk_frozen BK280.out 2
                have hfz37_3 := blk_frozen BK280.out 3
                have hfz37_4 := blk_frozen BK280.out 4
                have hfz37_5 := blk_frozen BK280.out 5
                have hfz37_6 := blk_frozen BK280.out 6
                go_wp2
                go_meet
                case rel => exact ⟨_, (false), (by first | rfl | (simp; done) | (simp [*]; done)), H', ⟨by have := HJ4.out; first | omega | exact Nat.le_refl _⟩, ⟨by (with_reducible repeat (first | refine blk_drewN ?_ _ | refine blk_drew ?_ | refine blk_alloc ?_ _)); refine blk_far ?_ NB280_293.out _; (with_reducible repeat (first | refine blk_drewN ?_ _ | refine blk_drew ?_ | refine blk_alloc ?_ _)); refine blk_far ?_ NB280_293.out _; (with_reducible repeat (first | refine blk_drewN ?_ _ | refine blk_drew ?_ | refine blk_alloc ?_ _)); refine blk_far ?_ NB280_293.out _; (with_reducible repeat (first | refine blk_drewN ?_ _ | refine blk_drew ?_ | refine blk_alloc ?_ _)); refine blk_far ?_ NB280_293.out _; (with_reducible repeat (first | refine blk_drewN ?_ _ | refine blk_drew ?_ | refine blk_alloc ?_ _)); refine blk_far ?_ NB280_293.out _; (with_reducible repeat (first | refine blk_drewN ?_ _ | refine blk_drew ?_ | refine blk_alloc ?_ _)); refine blk_far ?_ NB280_293.out _; (with_reducible repeat (first | refine blk_drewN ?_ _ | refine blk_drew ?_ | refine blk_alloc ?_ _)); refine blk_far ?_ NB280_293.out _; (with_reducible repeat (first | refine blk_drewN ?_ _ | refine blk_drew ?_ | refine blk_alloc ?_ _)); exact BK280.out⟩, ⟨by (with_reducible repeat (first | refine blk_drewN ?_ _ | refine blk_drew ?_ | refine blk_alloc ?_ _)); refine blk_put (cs := #[.int .i64 t285, .int .i64 t286, .bool t287, .bool t288, .bool t289, .bool t290, .int .i64 0]) ?_ 6 _ rfl; (with_reducible repeat (first | refine blk_drewN ?_ _ | refine blk_drew ?_ | refine blk_alloc ?_ _)); refine blk_put (cs := #[.int .i64 t285, .int .i64 t286, .bool t287, .bool t288, .bool t289, .bool false, .int .i64 0]) ?_ 5 _ rfl; (with_reducible repeat (first | refine blk_drewN ?_ _ | refine blk_drew ?_ | refine blk_alloc ?_ _)); refine blk_put (cs := #[.int .i64 t285, .int .i64 t286, .bool t287, .bool t288, .bool false, .bool false, .int .i64 0]) ?_ 4 _ rfl; (with_reducible repeat (first | refine blk_drewN ?_ _ | refine blk_drew ?_ | refine blk_alloc ?_ _)); refine blk_put (cs := #[.int .i64 t285, .int .i64 t286, .bool t287, .bool false, .bool false, .bool false, .int .i64 0]) ?_ 3 _ rfl; (with_reducible repeat (first | refine blk_drewN ?_ _ | refine blk_drew ?_ | refine blk_alloc ?_ _)); refine blk_put (cs := #[.int .i64 t285, .int .i64 t286, .bool false, .bool false, .bool false, .bool false, .int .i64 0]) ?_ 2 _ rfl; (with_reducible repeat (first | refine blk_drewN ?_ _ | refine blk_drew ?_ | refine blk_alloc ?_ _)); refine blk_put (cs := #[.int .i64 t285, .int .i64 0, .bool false, .bool false, .bool false, .bool false, .int .i64 0]) ?_ 1 _ rfl; (with_reducible repeat (first | refine blk_drewN ?_ _ | refine blk_drew ?_ | refine blk_alloc ?_ _)); refine blk_put (cs := #[.int .i64 0, .int .i64 0, .bool false, .bool false, .bool false, .bool false, .int .i64 0]) ?_ 0 _ rfl; (with_reducible repeat (first | refine blk_drewN ?_ _ | refine blk_drew ?_ | refine blk_alloc ?_ _)); exact BK293.out⟩, ⟨by repeat (first | (with_reducible first | exact HB.out | apply below_alloc | apply pw_below_drewN | apply below_drew1 | refine below_set ?_ GE280.out | refine below_set ?_ GE293.out) | exact HB.out)⟩⟩
        case rest =>
          clear HC11
          try clear c1
          try clear c2
          try clear p2
          try clear q2
          try clear c3
          try clear p6
          try clear c7
          try clear c8
          try clear c8b0
          try clear c10
          try clear c11
          try clear c13
          try clear c16
          try clear c18
          try clear c18b0
          try clear c18b1
          try clear c19
          try clear c19b0
          try clear c19b1
          try clear c20
          try clear c22
          try clear c22b0
          try clear c22b1
          try clear c23
          try clear c25
          try clear c25b0
          try clear c25b1
          try clear c26
          try clear c28
          try clear q28
          try clear c30
          try clear c30b0
          try clear c30b1
          try clear c31
          try clear c33
          try clear c33b0
          try clear c33b1
          try clear c34
          try clear c36
          try clear hcz12_0
          try clear hcz12_1
          try clear hcz12_2
          try clear hcz12_3
          try clear hcz12_4
          try clear hcz12_5
          try clear hcz12_6
          try clear hcz17_0
          try clear hcz17_1
          try clear hcz17_2
          try clear hcz17_3
          try clear hcz17_4
          try clear hcz17_5
          try clear hcz17_6
          try clear hcz21_0
          try clear hcz21_1
          try clear hcz21_2
          try clear hcz21_3
          try clear hcz21_4
          try clear hcz21_5
          try clear hcz21_6
          try clear hcz24_0
          try clear hcz24_1
          try clear hcz24_2
          try clear hcz24_3
          try clear hcz24_4
          try clear hcz24_5
          try clear hcz24_6
          try clear hcz27_0
          try clear hcz27_1
          try clear hcz27_2
          try clear hcz27_3
          try clear hcz27_4
          try clear hcz27_5
          try clear hcz27_6
          try clear hcz29_0
          try clear hcz29_1
          try clear hcz29_2
          try clear hcz29_3
          try clear hcz29_4
          try clear hcz29_5
          try clear hcz29_6
          try clear hcz32_0
          try clear hcz32_1
          try clear hcz32_2
          try clear hcz32_3
          try clear hcz32_4
          try clear hcz32_5
          try clear hcz32_6
          try clear hcz35_0
          try clear hcz35_1
          try clear hcz35_2
          try clear hcz35_3
          try clear hcz35_4
          try clear hcz35_5
          try clear hcz35_6
          try clear hcz37_0
          try clear hcz37_1
          try clear hcz37_2
          try clear hcz37_3
          try clear hcz37_4
          try clear hcz37_5
          try clear hcz37_6
          try clear hfz12_0
          try clear hfz12_1
          try clear hfz12_2
          try clear hfz12_3
          try clear hfz12_4
          try clear hfz12_5
          try clear hfz12_6
          try clear hfz17_0
          try clear hfz17_1
          try clear hfz17_2
          try clear hfz17_3
          try clear hfz17_4
          try clear hfz17_5
          try clear hfz17_6
          try clear hfz21_0
          try clear hfz21_1
          try clear hfz21_2
          try clear hfz21_3
          try clear hfz21_4
          try clear hfz21_5
          try clear hfz21_6
          try clear hfz24_0
          try clear hfz24_1
          try clear hfz24_2
          try clear hfz24_3
          try clear hfz24_4
          try clear hfz24_5
          try clear hfz24_6
          try clear hfz27_0
          try clear hfz27_1
          try clear hfz27_2
          try clear hfz27_3
          try clear hfz27_4
          try clear hfz27_5
          try clear hfz27_6
          try clear hfz29_0
          try clear hfz29_1
          try clear hfz29_2
          try clear hfz29_3
          try clear hfz29_4
          try clear hfz29_5
          try clear hfz29_6
          try clear hfz32_0
          try clear hfz32_1
          try clear hfz32_2
          try clear hfz32_3
          try clear hfz32_4
          try clear hfz32_5
          try clear hfz32_6
          try clear hfz35_0
          try clear hfz35_1
          try clear hfz35_2
          try clear hfz35_3
          try clear hfz35_4
          try clear hfz35_5
          try clear hfz35_6
          try clear hfz37_0
          try clear hfz37_1
          try clear hfz37_2
          try clear hfz37_3
          try clear hfz37_4
          try clear hfz37_5
          try clear hfz37_6
          try clear p2
          try clear p6
          try clear q284
          obtain ⟨kq, x12_10, rfl, HA, HJ10, BK280, BK293, HB⟩ := hcut
          cases kq with
          | zero => exact absurd HA.out (by simp [paviorlaw02_PteLevels.j1])
          | succ kj10 =>
            have H := HA.out
            clear HA
            simp only [paviorlaw02_PteLevels.j1] at H
            by_cases c38 : x12_10 = true
            · subst c38
              have H1 : (if t281 = true then (if t292.isNone = true then (some (t285 == 5 && (t286 == 0 && (!t287 && (!t288 && (!t289 && (!t290 && (t291 == 0)))))))) else (some false)) else (some false)) = some r := by rw [if_pos rfl] at H; exact H
              clear H
              have H := H1
              clear H1
              by_cases c39 : t281 = true
              · subst c39
                have H1 : (if t292.isNone = true then (some (t285 == 5 && (t286 == 0 && (!t287 && (!t288 && (!t289 && (!t290 && (t291 == 0)))))))) else (some false)) = some r := by rw [if_pos rfl] at H; exact H
                clear H
                have H := H1
                clear H1
                rcases t292 with _ | q294
                · have H1 : (some (t285 == 5 && (t286 == 0 && (!t287 && (!t288 && (!t289 && (!t290 && (t291 == 0)))))))) = some r := by rw [if_pos (show (none : Option Int).isNone = true by rfl)] at H; exact H
                  clear H
                  have H := H1
                  clear H1
                  try simp only [errW_none, errW_some]
                  obtain rfl := Option.some.inj H
                  have hnb40 := NB293_280.out
                  have hnc40 := NB280_293.out
                  have hcz41_0 : wc.cell? ⟨gb293, 0, none⟩ = some (.int .i64 t285) := (blk_cell BK293.out 0).trans rfl
                  have hcz41_1 : wc.cell? ⟨gb293, 1, none⟩ = some (.int .i64 t286) := (blk_cell BK293.out 1).trans rfl
                  have hcz41_2 : wc.cell? ⟨gb293, 2, none⟩ = some (.bool t287) := (blk_cell BK293.out 2).trans rfl
                  have hcz41_3 : wc.cell? ⟨gb293, 3, none⟩ = some (.bool t288) := (blk_cell BK293.out 3).trans rfl
                  have hcz41_4 : wc.cell? ⟨gb293, 4, none⟩ = some (.bool t289) := (blk_cell BK293.out 4).trans rfl
                  have hcz41_5 : wc.cell? ⟨gb293, 5, none⟩ = some (.bool t290) := (blk_cell BK293.out 5).trans rfl
                  have hcz41_6 : wc.cell? ⟨gb293, 6, none⟩ = some (.int .i64 t291) := (blk_cell BK293.out 6).trans rfl
                  have hfz41_0 := blk_frozen BK293.out 0
                  have hfz41_1 := blk_frozen BK293.out 1
                  have hfz41_2 := blk_frozen BK293.out 2
                  have hfz41_3 := blk_frozen BK293.out 3
                  have hfz41_4 := blk_frozen BK293.out 4
                  have hfz41_5 := blk_frozen BK293.out 5
                  have hfz41_6 := blk_frozen BK293.out 6
                  go_wp2
                  go_ret
                  exact ⟨by first | rfl | (simp [errW_none, errW_some] <;> rfl) | (simp [*, errW_none, errW_some] <;> rfl), by repeat (first | (with_reducible first | exact HB.out | apply below_alloc | apply pw_below_drewN | apply below_drew1 | refine below_set ?_ GE280.out | refine below_set ?_ GE293.out) | exact HB.out)⟩
                · have H1 : (some false) = some r := by rw [if_neg (show ¬ (some q294).isNone = true by simp)] at H; exact H
                  clear H
                  have H := H1
                  clear H1
                  try simp only [errW_none, errW_some]
                  obtain rfl := Option.some.inj H
                  go_wp2
                  go_ret
                  exact ⟨by first | rfl | (simp [errW_none, errW_some] <;> rfl) | (simp [*, errW_none, errW_some] <;> rfl), by repeat (first | (with_reducible first | exact HB.out | apply below_alloc | apply pw_below_drewN | apply below_drew1 | refine below_set ?_ GE280.out | refine below_set ?_ GE293.out) | exact HB.out)⟩
              · replace c39 := Bool.eq_false_iff.mpr c39
                subst c39
                have H1 : (some false) = some r := by rw [if_neg (show ¬ (false = true) by decide)] at H; exact H
                clear H
                have H := H1
                clear H1
                obtain rfl := Option.some.inj H
                go_wp2
                go_ret
                exact ⟨by first | rfl | (simp [errW_none, errW_some] <;> rfl) | (simp [*, errW_none, errW_some] <;> rfl), by repeat (first | (with_reducible first | exact HB.out | apply below_alloc | apply pw_below_drewN | apply below_drew1 | refine below_set ?_ GE280.out | refine below_set ?_ GE293.out) | exact HB.out)⟩
            · replace c38 := Bool.eq_false_iff.mpr c38
              subst c38
              have H1 : (if t281 = true then (if t292.isNone = true then (some (t285 == a1_0 && (t286 == a1_1 && (t287 == a1_2 && (t288 == a1_3 && (t289 == a1_4 && (t290 == a1_5 && (t291 == a1_6)))))))) else (some false)) else (some false)) = some r := by rw [if_neg (show ¬ (false = true) by decide)] at H; exact H
              clear H
              have H := H1
              clear H1
              by_cases c42 : t281 = true
              · subst c42
                have H1 : (if t292.isNone = true then (some (t285 == a1_0 && (t286 == a1_1 && (t287 == a1_2 && (t288 == a1_3 && (t289 == a1_4 && (t290 == a1_5 && (t291 == a1_6)))))))) else (some false)) = some r := by rw [if_pos rfl] at H; exact H
                clear H
                have H := H1
                clear H1
                rcases t292 with _ | q295
                · have H1 : (some (t285 == a1_0 && (t286 == a1_1 && (t287 == a1_2 && (t288 == a1_3 && (t289 == a1_4 && (t290 == a1_5 && (t291 == a1_6)))))))) = some r := by rw [if_pos (show (none : Option Int).isNone = true by rfl)] at H; exact H
                  clear H
                  have H := H1
                  clear H1
                  try simp only [errW_none, errW_some]
                  obtain rfl := Option.some.inj H
                  have hnb43 := NB293_280.out
                  have hnc43 := NB280_293.out
                  have hcz44_0 : wc.cell? ⟨gb293, 0, none⟩ = some (.int .i64 t285) := (blk_cell BK293.out 0).trans rfl
                  have hcz44_1 : wc.cell? ⟨gb293, 1, none⟩ = some (.int .i64 t286) := (blk_cell BK293.out 1).trans rfl
                  have hcz44_2 : wc.cell? ⟨gb293, 2, none⟩ = some (.bool t287) := (blk_cell BK293.out 2).trans rfl
                  have hcz44_3 : wc.cell? ⟨gb293, 3, none⟩ = some (.bool t288) := (blk_cell BK293.out 3).trans rfl
                  have hcz44_4 : wc.cell? ⟨gb293, 4, none⟩ = some (.bool t289) := (blk_cell BK293.out 4).trans rfl
                  have hcz44_5 : wc.cell? ⟨gb293, 5, none⟩ = some (.bool t290) := (blk_cell BK293.out 5).trans rfl
                  have hcz44_6 : wc.cell? ⟨gb293, 6, none⟩ = some (.int .i64 t291) := (blk_cell BK293.out 6).trans rfl
                  have hfz44_0 := blk_frozen BK293.out 0
                  have hfz44_1 := blk_frozen BK293.out 1
                  have hfz44_2 := blk_frozen BK293.out 2
                  have hfz44_3 := blk_frozen BK293.out 3
                  have hfz44_4 := blk_frozen BK293.out 4
                  have hfz44_5 := blk_frozen BK293.out 5
                  have hfz44_6 := blk_frozen BK293.out 6
                  have hcz45_0 : wc.cell? ⟨gb280, 0, none⟩ = some (.int .i64 a1_0) := (blk_cell BK280.out 0).trans rfl
                  have hcz45_1 : wc.cell? ⟨gb280, 1, none⟩ = some (.int .i64 a1_1) := (blk_cell BK280.out 1).trans rfl
                  have hcz45_2 : wc.cell? ⟨gb280, 2, none⟩ = some (.bool a1_2) := (blk_cell BK280.out 2).trans rfl
                  have hcz45_3 : wc.cell? ⟨gb280, 3, none⟩ = some (.bool a1_3) := (blk_cell BK280.out 3).trans rfl
                  have hcz45_4 : wc.cell? ⟨gb280, 4, none⟩ = some (.bool a1_4) := (blk_cell BK280.out 4).trans rfl
                  have hcz45_5 : wc.cell? ⟨gb280, 5, none⟩ = some (.bool a1_5) := (blk_cell BK280.out 5).trans rfl
                  have hcz45_6 : wc.cell? ⟨gb280, 6, none⟩ = some (.int .i64 a1_6) := (blk_cell BK280.out 6).trans rfl
                  have hfz45_0 := blk_frozen BK280.out 0
                  have hfz45_1 := blk_frozen BK280.out 1
                  have hfz45_2 := blk_frozen BK280.out 2
                  have hfz45_3 := blk_frozen BK280.out 3
                  have hfz45_4 := blk_frozen BK280.out 4
                  have hfz45_5 := blk_frozen BK280.out 5
                  have hfz45_6 := blk_frozen BK280.out 6
                  go_wp2
                  go_ret
                  exact ⟨by first | rfl | (simp [errW_none, errW_some] <;> rfl) | (simp [*, errW_none, errW_some] <;> rfl), by repeat (first | (with_reducible first | exact HB.out | apply below_alloc | apply pw_below_drewN | apply below_drew1 | refine below_set ?_ GE280.out | refine below_set ?_ GE293.out) | exact HB.out)⟩
                · have H1 : (some false) = some r := by rw [if_neg (show ¬ (some q295).isNone = true by simp)] at H; exact H
                  clear H
                  have H := H1
                  clear H1
                  try simp only [errW_none, errW_some]
                  obtain rfl := Option.some.inj H
                  go_wp2
                  go_ret
                  exact ⟨by first | rfl | (simp [errW_none, errW_some] <;> rfl) | (simp [*, errW_none, errW_some] <;> rfl), by repeat (first | (with_reducible first | exact HB.out | apply below_alloc | apply pw_below_drewN | apply below_drew1 | refine below_set ?_ GE280.out | refine below_set ?_ GE293.out) | exact HB.out)⟩
              · replace c42 := Bool.eq_false_iff.mpr c42
                subst c42
                have H1 : (some false) = some r := by rw [if_neg (show ¬ (false = true) by decide)] at H; exact H
                clear H
                have H := H1
                clear H1
                obtain rfl := Option.some.inj H
                go_wp2
                go_ret
                exact ⟨by first | rfl | (simp [errW_none, errW_some] <;> rfl) | (simp [*, errW_none, errW_some] <;> rfl), by repeat (first | (with_reducible first | exact HB.out | apply below_alloc | apply pw_below_drewN | apply below_drew1 | refine below_set ?_ GE280.out | refine below_set ?_ GE293.out) | exact HB.out)⟩
      · have H1 : (some t281) = some r := by rw [if_neg (show ¬ (some q284).isNone = true by simp)] at H; exact H
        clear H
        have H := H1
        clear H1
        try simp only [errW_none, errW_some]
        obtain rfl := Option.some.inj H
        have hcz46_0 : wc.cell? ⟨gb280, 0, none⟩ = some (.int .i64 a1_0) := (blk_cell BK280.out 0).trans rfl
        have hcz46_1 : wc.cell? ⟨gb280, 1, none⟩ = some (.int .i64 a1_1) := (blk_cell BK280.out 1).trans rfl
        have hcz46_2 : wc.cell? ⟨gb280, 2, none⟩ = some (.bool a1_2) := (blk_cell BK280.out 2).trans rfl
        have hcz46_3 : wc.cell? ⟨gb280, 3, none⟩ = some (.bool a1_3) := (blk_cell BK280.out 3).trans rfl
        have hcz46_4 : wc.cell? ⟨gb280, 4, none⟩ = some (.bool a1_4) := (blk_cell BK280.out 4).trans rfl
        have hcz46_5 : wc.cell? ⟨gb280, 5, none⟩ = some (.bool a1_5) := (blk_cell BK280.out 5).trans rfl
        have hcz46_6 : wc.cell? ⟨gb280, 6, none⟩ = some (.int .i64 a1_6) := (blk_cell BK280.out 6).trans rfl
        have hfz46_0 := blk_frozen BK280.out 0
        have hfz46_1 := blk_frozen BK280.out 1
        have hfz46_2 := blk_frozen BK280.out 2
        have hfz46_3 := blk_frozen BK280.out 3
        have hfz46_4 := blk_frozen BK280.out 4
        have hfz46_5 := blk_frozen BK280.out 5
        have hfz46_6 := blk_frozen BK280.out 6
        go_wp2_with (first | ((with_reducible refine gate_callee (f := 13) rfl ?_); refine goesL_ (some 24) rfl rfl Try.func13 (by kernel_rfl) rfl #[.int .i64 a0, .agg #[.int .i64 a1_0, .int .i64 a1_1, .bool a1_2, .bool a1_3, .bool a1_4, .bool a1_5, .int .i64 a1_6]] rfl (by (try simp only [List.map_toArray, List.map_cons, List.map_nil]); first | done | rfl | (simp only [List.length_drop, List.length_take]; rfl)) ?_; (with_reducible refine (pte_Encode.calls kj4 a0 a1_0 a1_1 a1_2 a1_3 a1_4 a1_5 a1_6 t282 (some q284) _ A9.out).mono ?_); rintro e w47 ⟨rfl, hb⟩; refine ⟨_, rfl, ?_⟩; have n0_ := Aside0.mk (blk_below (g := gb280) (o := .cells #[.int .i64 a1_0, .int .i64 a1_1, .bool a1_2, .bool a1_3, .bool a1_4, .bool a1_5, .int .i64 a1_6] 25 (0, 0)) (by (with_reducible repeat (first | refine blk_drewN ?_ _ | refine blk_drew ?_ | refine blk_alloc ?_ _)); exact BK280.out) hb); have n1_ := Aside0.mk (below_step (by repeat (first | (with_reducible first | exact HB.out | apply below_alloc | apply pw_below_drewN | apply below_drew1 | refine below_set ?_ GE280.out) | exact HB.out)) hb); clear BK280; clear HB; have BK280 := n0_; have HB := n1_; clear n0_ n1_; (try clear hb); (try clear hb2); (try clear hk); (try clear hi); (try simp only [errW_none, errW_some])))
        go_ret
        exact ⟨by first | rfl | (simp [errW_none, errW_some] <;> rfl) | (simp [*, errW_none, errW_some] <;> rfl), by repeat (first | (with_reducible first | exact HB.out | apply below_alloc | apply pw_below_drewN | apply below_drew1 | refine below_set ?_ GE280.out) | exact HB.out)⟩

/-- THE ONE PURE STATEMENT of paviorlaw02_PteLevels. -/
def paviorlaw02_PteLevels.Pure : Prop := ∀ (a0 : Int) (a1_0 : Int) (a1_1 : Int) (a1_2 : Bool) (a1_3 : Bool) (a1_4 : Bool) (a1_5 : Bool) (a1_6 : Int) (a2 : Int), (Lit.int .i64 a0).wf = true → (((Lit.int .i64 a1_0).wf = true ∧ (Lit.int .i64 a1_1).wf = true ∧ True ∧ True ∧ True ∧ True ∧ (Lit.int .i64 a1_6).wf = true)) → (Lit.int .i64 a2).wf = true → ∃ k, paviorlaw02_PteLevels.f k a0 a1_0 a1_1 a1_2 a1_3 a1_4 a1_5 a1_6 a2 = some true

end Go.Proofs.Ytobbcfpkmmafnab.Q
