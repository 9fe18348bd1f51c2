-- Written by this session's program wip/tools/xprint.py (the kit's printer, turned by it); not the kit's own print.
import Derived.Test.YtlmjjkggoemababQx0
import Derived.Test.YtlmjjkggoemababQx8
import Derived.Test.YtlmjjkggoemababQx11
import Derived.Test.YtlmjjkggoemababQx22
import Derived.Test.YtlmjjkggoemababQx23
namespace Go.Proofs.Ytlmjjkggoemabab.Q
open Go.RowKit Go.Proofs.YtlmjjkggoemababW.PrintWords Go.Proofs.YtlmjjkggoemababW.PrintLast Go.Proofs.YtlmjjkggoemababW.PrintMore
attribute [local go_sem] max2_int min2_int max_two min_two max_three min_three max_four min_four   -- for this text's walks alone
set_option linter.unusedVariables false
set_option linter.unusedSimpArgs false

attribute [local go_sem high] eqErr_some neErr_some eqErr_left neErr_left
--ALONE
theorem eqIn_nn (d : Nat) (w : World) : (Op.equalIn (d + 1) 25 .nilIface .nilIface).run Try.prog w = .ok true w := by simp [Op.equalIn, run_underlying Try.underlying25]
theorem eqIn_sn (d : Nat) (w : World) (tn : TypeId) (v : Value) : (Op.equalIn (d + 1) 25 (.iface tn v) .nilIface).run Try.prog w = .ok false w := by simp [Op.equalIn, run_underlying Try.underlying25]
theorem eqErr_nil (w : World) (t : Option Int) : (binOp .eql 25 (errW t) .nilIface).run Try.prog w = .ok (.bool t.isNone) w := by
  cases t with
  | none => simp only [binOp, errW]; simp [Op.equal, Op.maxDepth, eqIn_nn 9999 w]
  | some c => simp only [binOp, errW]; simp [Op.equal, Op.maxDepth, eqIn_sn 9999 w]
theorem neErr_nil (w : World) (t : Option Int) : (binOp .neq 25 (errW t) .nilIface).run Try.prog w = .ok (.bool (!t.isNone)) w := by
  cases t with
  | none => simp only [binOp, errW]; simp [Op.equal, Op.maxDepth, eqIn_nn 9999 w]
  | some c => simp only [binOp, errW]; simp [Op.equal, Op.maxDepth, eqIn_sn 9999 w]
theorem grd_nil (op : BinOp) (w : World) (x : Operand) (t : Option Int) : (eqGuard op 25 x (.const .nilIface) (errW t) .nilIface).run Try.prog w = .ok () w := by
  cases t <;> cases op <;> simp [eqGuard, errW]
attribute [local go_sem high] eqErr_nil neErr_nil grd_nil
/-! ### paviorlaw09_AreaStays: function 11 -/
def paviorlaw09_AreaStays.l0 : Nat → List (S32) → Bool → List (S32) → List (S32) → Option Int → List (S32) → Option Int → List (S32) → Option Int → List (S32) → Option Int → Int → Int → Int → Bool → Bool → Bool → Option (Bool)
  | 0, _, _, _, _, _, _, _, _, _, _, _, _, _, _, _, _, _ => none
  | k + 1, x0, x5, x6, x7, x8, x9, x10, x11, x12, x13, x14, x15, x520000, x520001, x520002, x520003, x520004 => if x15 < (x6.length : Int) then (if 0 ≤ x15 then (paviorlaw09_AreaStays.l0 k x0 x5 (x6.set (x15 : Int).toNat (⟨9, 0, (⟨false, false⟩ : S30), false⟩ : S32)) x7 x8 x9 x10 x11 x12 x13 x14 (wrap64 (x15 + 1)) x520000 x520001 x520002 x520003 x520004) else (none)) else ((area_Lay.f k x0 x520000 x520001 x520002 x520003 x520004).bind fun bt545 => ((area_Change.f k x0 x520000 x520001 x520002 x520003).bind fun bt549 => ((area_Advise.f k x0 x520000 x520001 x520004).bind fun bt553 => ((area_Cut.f k x0 x520000 x520001).bind fun bt557 => (if x5 = true then (if (x8.isNone == bt545.2.isNone) = true then (if (x10.isNone == bt549.2.isNone) = true then (if (x12.isNone == bt553.2.isNone) = true then (if (x14.isNone == bt557.2.isNone) = true then ((paviorref09_Same.f k x7 bt545.1).bind fun t561 => (if t561 = true then ((paviorref09_Same.f k x9 bt549.1).bind fun t562 => (if t562 = true then ((paviorref09_Same.f k x11 bt553.1).bind fun t563 => (if t563 = true then ((paviorref09_Same.f k x13 bt557.1).bind fun t564 => (some t564)) else (none))) else (none))) else (none))) else (none)) else (none)) else (none)) else (none)) else (none))))))
def paviorlaw09_AreaStays.f (k : Nat) (l0 : List (S32)) (a1_0 : Int) (a1_1 : Int) (a1_2 : Bool) (a1_3 : Bool) (a1_4 : Bool) : Option (Bool) := (paviorlaw09_up.f k).bind fun t520 => (if (l0.length : Int) > 200 then (some t520) else ((some (([] : List (S32)) : List (S32))).bind fun y521 => (if y521.length + l0.length < 5864062014805 then ((some (y521 ++ l0 : List (S32))).bind fun y524 => ((area_Lay.f k y524 a1_0 a1_1 a1_2 a1_3 a1_4).bind fun bt527 => ((area_Change.f k y524 a1_0 a1_1 a1_2 a1_3).bind fun bt531 => ((area_Advise.f k y524 a1_0 a1_1 a1_4).bind fun bt535 => ((area_Cut.f k y524 a1_0 a1_1).bind fun bt539 => ((paviorref09_Same.f k y524 l0).bind fun t543 => (if t543 = true then (paviorlaw09_AreaStays.l0 k l0 t520 y524 bt527.1 bt527.2 bt531.1 bt531.2 bt535.1 bt535.2 bt539.1 bt539.2 0 a1_0 a1_1 a1_2 a1_3 a1_4) else (none)))))))) else (none))))
theorem paviorlaw09_AreaStays.mono_l : ∀ k, (∀ y0 y1 y2 y3 y4 y5 y6 y7 y8 y9 y10 y11 y12 y13 y14 y15 y16, LeO (paviorlaw09_AreaStays.l0 k y0 y1 y2 y3 y4 y5 y6 y7 y8 y9 y10 y11 y12 y13 y14 y15 y16) (paviorlaw09_AreaStays.l0 (k + 1) y0 y1 y2 y3 y4 y5 y6 y7 y8 y9 y10 y11 y12 y13 y14 y15 y16))
  | 0 => fun _ _ _ _ _ _ _ _ _ _ _ _ _ _ _ _ _ r h => by simp [paviorlaw09_AreaStays.l0] at h
  | k + 1 => by
    have ih0 := paviorlaw09_AreaStays.mono_l k
    · intro y0 y1 y2 y3 y4 y5 y6 y7 y8 y9 y10 y11 y12 y13 y14 y15 y16
      unfold paviorlaw09_AreaStays.l0
      repeat' first
      | (with_reducible exact ih0 _ _ _ _ _ _ _ _ _ _ _ _ _ _ _ _ _)
      | (with_reducible exact area_Advise.mono _ _ _ _ _)
      | (with_reducible exact area_Change.mono _ _ _ _ _ _)
      | (with_reducible exact area_Cut.mono _ _ _ _)
      | (with_reducible exact area_Lay.mono _ _ _ _ _ _ _)
      | (with_reducible exact paviorlaw09_up.mono _)
      | (with_reducible exact paviorref09_Same.mono _ _ _)
      | (with_reducible exact LeO.refl _)
      | (with_reducible exact LeO.none _)
      | (with_reducible refine LeO.ite ?_ ?_)
      | (with_reducible refine LeO.bind ?_ (fun _ => ?_))
      | exact ih0 _ _ _ _ _ _ _ _ _ _ _ _ _ _ _ _ _
      | exact area_Advise.mono _ _ _ _ _
      | exact area_Change.mono _ _ _ _ _ _
      | exact area_Cut.mono _ _ _ _
      | exact area_Lay.mono _ _ _ _ _ _ _
      | exact paviorlaw09_up.mono _
      | exact paviorref09_Same.mono _ _ _
      | exact LeO.none _
      | refine LeO.ite ?_ ?_
      | refine LeO.bind ?_ (fun _ => ?_)
theorem paviorlaw09_AreaStays.mono : ∀ a0 a1 a2 a3 a4 a5 k, LeO (paviorlaw09_AreaStays.f k a0 a1 a2 a3 a4 a5) (paviorlaw09_AreaStays.f (k + 1) a0 a1 a2 a3 a4 a5) := by
  intro a0 a1 a2 a3 a4 a5 k
  have ih0 := paviorlaw09_AreaStays.mono_l k
  unfold paviorlaw09_AreaStays.f
  repeat' first
      | (with_reducible exact ih0 _ _ _ _ _ _ _ _ _ _ _ _ _ _ _ _ _)
      | (with_reducible exact area_Advise.mono _ _ _ _ _)
      | (with_reducible exact area_Change.mono _ _ _ _ _ _)
      | (with_reducible exact area_Cut.mono _ _ _ _)
      | (with_reducible exact area_Lay.mono _ _ _ _ _ _ _)
      | (with_reducible exact paviorlaw09_up.mono _)
      | (with_reducible exact paviorref09_Same.mono _ _ _)
      | (with_reducible exact LeO.refl _)
      | (with_reducible exact LeO.none _)
      | (with_reducible refine LeO.ite ?_ ?_)
      | (with_reducible refine LeO.bind ?_ (fun _ => ?_))
      | exact ih0 _ _ _ _ _ _ _ _ _ _ _ _ _ _ _ _ _
      | exact area_Advise.mono _ _ _ _ _
      | exact area_Change.mono _ _ _ _ _ _
      | exact area_Cut.mono _ _ _ _
      | exact area_Lay.mono _ _ _ _ _ _ _
      | exact paviorlaw09_up.mono _
      | exact paviorref09_Same.mono _ _ _
      | exact LeO.none _
      | refine LeO.ite ?_ ?_
      | refine LeO.bind ?_ (fun _ => ?_)
def paviorlaw09_AreaStays.T19 : Bool × List (List Nat × List Nat) := (true, [([], []), ([0], [0]), ([1], [1]), ([2, 1], [1, 2]), ([1], [1]), ([4, 1], [1, 4]), ([3, 5, 1], [1, 3, 5]), ([1, 6], [1, 6]), ([7, 1], [7]), ([8], [8]), ([9, 8], [8, 9]), ([8], [8]), ([11, 8], [8, 11]), ([10, 12, 8], [8, 10, 12]), ([8, 13], [8, 13]), ([14, 8], [14]), ([15], [15]), ([16, 15], [15, 16]), ([15], [15]), ([18, 15], [15, 18]), ([17, 19, 15], [15, 17, 19]), ([15, 20], [15, 20]), ([21, 15], [21]), ([22], [22]), ([23, 22], [22, 23]), ([22], [22]), ([25, 22], [22, 25]), ([24, 26, 22], [22, 24, 26]), ([22, 27], [22, 27]), ([28, 22], [28]), ([29], [29]), ([29], [29]), ([30, 31, 29, 29], [29, 30, 31]), ([29, 32], [29, 32]), ([33, 32], [33]), ([34], [34]), ([34], [34]), ([35, 36, 34, 34], [34, 35, 36]), ([34, 37], [34, 37]), ([38, 37], [38]), ([39], [39]), ([39], [39]), ([40, 41, 39, 39], [39, 40, 41]), ([39, 42], [39, 42]), ([43, 42], [43]), ([44], [44]), ([44], [44]), ([45, 46, 44, 44], [44, 45, 46]), ([44, 47], [44, 47]), ([48, 47, 0, 1, 2, 3, 4, 5, 6, 7, 8, 9, 10, 11, 12, 13, 14, 15, 16, 17, 18, 19, 20, 21, 22, 23, 24, 25, 26, 27, 28, 29, 30, 31, 32, 33, 34, 35, 36, 37, 38, 39, 40, 41, 42, 43, 44, 45, 46, 47, 48], [48])])
def paviorlaw09_AreaStays.B19 : List Nat := [0, 1, 3, 7, 3, 19, 63, 127, 255, 511, 1023, 511, 2559, 8191, 16383, 32767, 65535, 131071, 65535, 327679, 1048575, 2097151, 4194303, 8388607, 16777215, 8388607, 41943039, 134217727, 268435455, 536870911, 1073741823, 1073741823, 4294967295, 8589934591, 17179869183, 34359738367, 34359738367, 137438953471, 274877906943, 549755813887, 1099511627775, 1099511627775, 4398046511103, 8796093022207, 17592186044415, 35184372088831, 35184372088831, 140737488355327, 281474976710655, 562949953421311]
theorem paviorlaw09_AreaStays.tab19 : rtab .any (opsOf Try.f11 19) = paviorlaw09_AreaStays.T19 := by kernel_rfl
theorem paviorlaw09_AreaStays.bits19 : waitsOk paviorlaw09_AreaStays.T19.2 paviorlaw09_AreaStays.B19 = true := by kernel_rfl
set_option maxHeartbeats 8000000 in
set_option maxRecDepth 100000 in
theorem paviorlaw09_AreaStays.calls (k : Nat) (A0 : Option Addr) (c0 : Nat) (l0 : List (S32)) (a1_0 : Int) (a1_1 : Int) (a1_2 : Bool) (a1_3 : Bool) (a1_4 : Bool) (r : Bool) (w : World) (hr0 : Kd.C k32 w A0 l0.length l0) (hc0 : l0.length ≤ c0) (h : paviorlaw09_AreaStays.f k l0 a1_0 a1_1 a1_2 a1_3 a1_4 = some r) :
    Calls Try.prog 11 #[.slice A0 l0.length c0, .agg #[.int .i64 a1_0, .int .i64 a1_1, .bool a1_2, .bool a1_3, .bool a1_4]] w fun e w' => e = .returned (.bool r) ∧ Below w.heap.size w w' := by
  have hu32 := Try.underlying32
  have hu30 := Try.underlying30
  have hu25 := Try.underlying25
  have hu28 := Try.underlying28
  have HR0 := Aside0.mk hr0
  have HC0 := Aside0.mk hc0
  clear hr0 hc0
  have HB := Aside0.mk (Below.refl w.heap.size w)
  have H : ((paviorlaw09_up.f k).bind fun t520 => (if (l0.length : Int) > 200 then (some t520) else ((some (([] : List (S32)) : List (S32))).bind fun y521 => (if y521.length + l0.length < 5864062014805 then ((some (y521 ++ l0 : List (S32))).bind fun y524 => ((area_Lay.f k y524 a1_0 a1_1 a1_2 a1_3 a1_4).bind fun bt527 => ((area_Change.f k y524 a1_0 a1_1 a1_2 a1_3).bind fun bt531 => ((area_Advise.f k y524 a1_0 a1_1 a1_4).bind fun bt535 => ((area_Cut.f k y524 a1_0 a1_1).bind fun bt539 => ((paviorref09_Same.f k y524 l0).bind fun t543 => (if t543 = true then (paviorlaw09_AreaStays.l0 k l0 t520 y524 bt527.1 bt527.2 bt531.1 bt531.2 bt535.1 bt535.2 bt539.1 bt539.2 0 a1_0 a1_1 a1_2 a1_3 a1_4) else (none)))))))) else (none))))) = some r := h
  clear h
  replace H := Option.bind_eq_some_iff.mp H
  obtain ⟨t520, A30, H⟩ := H
  replace H : (if (l0.length : Int) > 200 then (some t520) else ((some (([] : List (S32)) : List (S32))).bind fun y521 => (if y521.length + l0.length < 5864062014805 then ((some (y521 ++ l0 : List (S32))).bind fun y524 => ((area_Lay.f k y524 a1_0 a1_1 a1_2 a1_3 a1_4).bind fun bt527 => ((area_Change.f k y524 a1_0 a1_1 a1_2 a1_3).bind fun bt531 => ((area_Advise.f k y524 a1_0 a1_1 a1_4).bind fun bt535 => ((area_Cut.f k y524 a1_0 a1_1).bind fun bt539 => ((paviorref09_Same.f k y524 l0).bind fun t543 => (if t543 = true then (paviorlaw09_AreaStays.l0 k l0 t520 y524 bt527.1 bt527.2 bt531.1 bt531.2 bt535.1 bt535.2 bt539.1 bt539.2 0 a1_0 a1_1 a1_2 a1_3 a1_4) else (none)))))))) else (none)))) = some r := H
  have A3 := Aside0.mk A30
  clear A30
  by_cases c4 : (l0.length : Int) > 200
  · rw [if_pos c4] at H
    have c4b0 : decide (200 < (l0.length : Int)) = true := decide_eq_true c4
    have c4b1 : decide (200 < l0.length) = true := decide_eq_true (by omega)
    clear c4
    obtain rfl := Option.some.inj H
    go_enter Try.func11, Try.ntmps11
    go_wp2_with (first | ((with_reducible refine gate_dst (N := 3) rfl ?_); refine box_event ?hg (N := 3) ?hd (cs := #[.int .i64 a1_0, .int .i64 a1_1, .bool a1_2, .bool a1_3, .bool a1_4]) (t := 32) ?hr ?_; (case hd => rfl); (case hg => rfl); (case hr => first | (go_simp; done) | (go_simp; rfl)); intro gb519 hg w5 hbox hb; have n0_ := Aside0.mk (below_step (by repeat (first | (with_reducible first | exact HB.out | apply below_alloc | apply pw_below_drewN | apply below_drew1) | exact HB.out)) hb); have n1_ := Aside0.mk (hbox); have n2_ := Aside0.mk ((by rw [hg]; exact (below_size (by repeat (first | (with_reducible first | exact HB.out | apply below_alloc | apply pw_below_drewN | apply below_drew1) | exact HB.out))) : w.heap.size ≤ gb519)); have n3_ := Aside0.mk ((by rw [hg]; exact (below_size (by repeat (first | (with_reducible first | exact HB.out | apply below_alloc | apply pw_below_drewN | apply below_drew1) | exact HB.out))) : w.heap.size ≤ gb519)); clear HB; have HB := n0_; have BK519 := n1_; have GW519 := n2_; have GE519 := n3_; clear n0_ n1_ n2_ n3_; clear hb hbox hg) | ((with_reducible refine gate_callee (f := 12) rfl ?_); refine goesL_ (some 24) rfl rfl Try.func12 (by kernel_rfl) rfl #[] rfl (by (try simp only [List.map_toArray, List.map_cons, List.map_nil]); first | done | rfl | (simp only [List.length_drop, List.length_take]; rfl)) ?_; (with_reducible refine (paviorlaw09_up.calls k  t520 _ A3.out).mono ?_); rintro e w6 ⟨rfl, hb⟩; refine ⟨_, rfl, ?_⟩; have n0_ := Aside0.mk (blk_below (g := gb519) (o := .cells #[.int .i64 a1_0, .int .i64 a1_1, .bool a1_2, .bool a1_3, .bool a1_4] 32 (0, 0)) (by (with_reducible repeat (first | refine blk_drewN ?_ _ | refine blk_drew ?_ | refine blk_alloc ?_ _)); exact BK519.out) hb); have n1_ := Aside0.mk (below_step (by repeat (first | (with_reducible first | exact HB.out | apply below_alloc | apply pw_below_drewN | apply below_drew1 | refine below_set ?_ GE519.out) | exact HB.out)) hb); clear BK519; clear HB; have BK519 := n0_; have HB := n1_; clear n0_ n1_; (try clear hb); (try clear hb2); (try clear hk); (try clear hi)))
    go_ret
    exact ⟨by first | rfl | (simp [errW_none, errW_some] <;> rfl) | (simp [*, errW_none, errW_some] <;> rfl), by repeat (first | (with_reducible first | exact HB.out | apply below_alloc | apply pw_below_drewN | apply below_drew1 | refine below_set ?_ GE519.out) | exact HB.out)⟩
  · rw [if_neg c4] at H
    have c4b0 : decide (200 < (l0.length : Int)) = false := decide_eq_false c4
    have c4b1 : decide (200 < l0.length) = false := decide_eq_false (by omega)
    clear c4
    obtain ⟨y521, hy521⟩ : ∃ y_ : List (S32), y_ = (([] : List (S32))) := ⟨_, rfl⟩
    replace H : (if y521.length + l0.length < 5864062014805 then ((some (y521 ++ l0 : List (S32))).bind fun y524 => ((area_Lay.f k y524 a1_0 a1_1 a1_2 a1_3 a1_4).bind fun bt527 => ((area_Change.f k y524 a1_0 a1_1 a1_2 a1_3).bind fun bt531 => ((area_Advise.f k y524 a1_0 a1_1 a1_4).bind fun bt535 => ((area_Cut.f k y524 a1_0 a1_1).bind fun bt539 => ((paviorref09_Same.f k y524 l0).bind fun t543 => (if t543 = true then (paviorlaw09_AreaStays.l0 k l0 t520 y524 bt527.1 bt527.2 bt531.1 bt531.2 bt535.1 bt535.2 bt539.1 bt539.2 0 a1_0 a1_1 a1_2 a1_3 a1_4) else (none)))))))) else (none)) = some r := by first | (rw [hy521]; with_reducible exact H) | (have H2_ := (Option.bind_some _ _).symm.trans H; rw [hy521]; with_reducible exact H2_) | (have H2_ := (Option.bind_some _ _).symm.trans H; with_reducible exact H2_) | with_reducible exact H | (rw [hy521]; exact H) | exact H
    have Ny521 := Aside0.mk hy521
    clear hy521
    by_cases c7 : y521.length + l0.length < 5864062014805
    · rw [if_pos c7] at H
      have LMc7 := Aside0.mk c7
      clear c7
      obtain ⟨y524, hy524⟩ : ∃ y_ : List (S32), y_ = (y521 ++ l0) := ⟨_, rfl⟩
      replace H : ((area_Lay.f k y524 a1_0 a1_1 a1_2 a1_3 a1_4).bind fun bt527 => ((area_Change.f k y524 a1_0 a1_1 a1_2 a1_3).bind fun bt531 => ((area_Advise.f k y524 a1_0 a1_1 a1_4).bind fun bt535 => ((area_Cut.f k y524 a1_0 a1_1).bind fun bt539 => ((paviorref09_Same.f k y524 l0).bind fun t543 => (if t543 = true then (paviorlaw09_AreaStays.l0 k l0 t520 y524 bt527.1 bt527.2 bt531.1 bt531.2 bt535.1 bt535.2 bt539.1 bt539.2 0 a1_0 a1_1 a1_2 a1_3 a1_4) else (none))))))) = some r := by first | (rw [hy524]; with_reducible exact H) | (have H2_ := (Option.bind_some _ _).symm.trans H; rw [hy524]; with_reducible exact H2_) | (have H2_ := (Option.bind_some _ _).symm.trans H; with_reducible exact H2_) | with_reducible exact H | (rw [hy524]; exact H) | exact H
      have Ny524 := Aside0.mk hy524
      clear hy524
      replace H := Option.bind_eq_some_iff.mp H
      obtain ⟨⟨t527, t530⟩, A80, H⟩ := H
      replace H : ((area_Change.f k y524 a1_0 a1_1 a1_2 a1_3).bind fun bt531 => ((area_Advise.f k y524 a1_0 a1_1 a1_4).bind fun bt535 => ((area_Cut.f k y524 a1_0 a1_1).bind fun bt539 => ((paviorref09_Same.f k y524 l0).bind fun t543 => (if t543 = true then (paviorlaw09_AreaStays.l0 k l0 t520 y524 t527 t530 bt531.1 bt531.2 bt535.1 bt535.2 bt539.1 bt539.2 0 a1_0 a1_1 a1_2 a1_3 a1_4) else (none)))))) = some r := H
      have A8 := Aside0.mk A80
      clear A80
      replace H := Option.bind_eq_some_iff.mp H
      obtain ⟨⟨t531, t534⟩, A90, H⟩ := H
      replace H : ((area_Advise.f k y524 a1_0 a1_1 a1_4).bind fun bt535 => ((area_Cut.f k y524 a1_0 a1_1).bind fun bt539 => ((paviorref09_Same.f k y524 l0).bind fun t543 => (if t543 = true then (paviorlaw09_AreaStays.l0 k l0 t520 y524 t527 t530 t531 t534 bt535.1 bt535.2 bt539.1 bt539.2 0 a1_0 a1_1 a1_2 a1_3 a1_4) else (none))))) = some r := H
      have A9 := Aside0.mk A90
      clear A90
      replace H := Option.bind_eq_some_iff.mp H
      obtain ⟨⟨t535, t536⟩, A100, H⟩ := H
      replace H : ((area_Cut.f k y524 a1_0 a1_1).bind fun bt539 => ((paviorref09_Same.f k y524 l0).bind fun t543 => (if t543 = true then (paviorlaw09_AreaStays.l0 k l0 t520 y524 t527 t530 t531 t534 t535 t536 bt539.1 bt539.2 0 a1_0 a1_1 a1_2 a1_3 a1_4) else (none)))) = some r := H
      have A10 := Aside0.mk A100
      clear A100
      replace H := Option.bind_eq_some_iff.mp H
      obtain ⟨⟨t539, t540⟩, A110, H⟩ := H
      replace H : ((paviorref09_Same.f k y524 l0).bind fun t543 => (if t543 = true then (paviorlaw09_AreaStays.l0 k l0 t520 y524 t527 t530 t531 t534 t535 t536 t539 t540 0 a1_0 a1_1 a1_2 a1_3 a1_4) else (none))) = some r := H
      have A11 := Aside0.mk A110
      clear A110
      replace H := Option.bind_eq_some_iff.mp H
      obtain ⟨t543, A120, H⟩ := H
      replace H : (if t543 = true then (paviorlaw09_AreaStays.l0 k l0 t520 y524 t527 t530 t531 t534 t535 t536 t539 t540 0 a1_0 a1_1 a1_2 a1_3 a1_4) else (none)) = some r := H
      have A12 := Aside0.mk A120
      clear A120
      by_cases c13 : t543 = true
      · subst c13
        have H1 : (paviorlaw09_AreaStays.l0 k l0 t520 y524 t527 t530 t531 t534 t535 t536 t539 t540 0 a1_0 a1_1 a1_2 a1_3 a1_4) = some r := by rw [if_pos rfl] at H; exact H
        clear H
        have H := H1
        clear H1
        have H' := Aside0.mk H
        clear H
        go_enter Try.func11, Try.ntmps11
        go_wp2_with (first | ((with_reducible refine gate_dst (N := 3) rfl ?_); refine box_event ?hg (N := 3) ?hd (cs := #[.int .i64 a1_0, .int .i64 a1_1, .bool a1_2, .bool a1_3, .bool a1_4]) (t := 32) ?hr ?_; (case hd => rfl); (case hg => rfl); (case hr => first | (go_simp; done) | (go_simp; rfl)); intro gb519 hg w14 hbox hb; have n0_ := Aside0.mk (below_step (by repeat (first | (with_reducible first | exact HB.out | apply below_alloc | apply pw_below_drewN | apply below_drew1) | exact HB.out)) hb); have n1_ := Aside0.mk (hbox); have n2_ := Aside0.mk ((by rw [hg]; exact (below_size (by repeat (first | (with_reducible first | exact HB.out | apply below_alloc | apply pw_below_drewN | apply below_drew1) | exact HB.out))) : w.heap.size ≤ gb519)); have n3_ := Aside0.mk ((by rw [hg]; exact (below_size (by repeat (first | (with_reducible first | exact HB.out | apply below_alloc | apply pw_below_drewN | apply below_drew1) | exact HB.out))) : w.heap.size ≤ gb519)); clear HB; have HB := n0_; have BK519 := n1_; have GW519 := n2_; have GE519 := n3_; clear n0_ n1_ n2_ n3_; clear hb hbox hg) | ((with_reducible refine gate_callee (f := 12) rfl ?_); refine goesL_ (some 24) rfl rfl Try.func12 (by kernel_rfl) rfl #[] rfl (by (try simp only [List.map_toArray, List.map_cons, List.map_nil]); first | done | rfl | (simp only [List.length_drop, List.length_take]; rfl)) ?_; (with_reducible refine (paviorlaw09_up.calls k  t520 _ A3.out).mono ?_); rintro e w15 ⟨rfl, hb⟩; refine ⟨_, rfl, ?_⟩; have n0_ := Aside0.mk (blk_below (g := gb519) (o := .cells #[.int .i64 a1_0, .int .i64 a1_1, .bool a1_2, .bool a1_3, .bool a1_4] 32 (0, 0)) (by (with_reducible repeat (first | refine blk_drewN ?_ _ | refine blk_drew ?_ | refine blk_alloc ?_ _)); exact BK519.out) hb); have n1_ := Aside0.mk (below_step (by repeat (first | (with_reducible first | exact HB.out | apply below_alloc | apply pw_below_drewN | apply below_drew1 | refine below_set ?_ GE519.out) | exact HB.out)) hb); clear BK519; clear HB; have BK519 := n0_; have HB := n1_; clear n0_ n1_; (try clear hb); (try clear hb2); (try clear hk); (try clear hi)) | ((with_reducible refine gate_dst (N := 29) rfl ?_); refine Kd.R_lit k32 _ 32 ?hg (N := 29) ?hd (xs := ([] : List (S32))) (inner := []) (ok := fun _ => True) (okp := fun _ => True) ?hr ?hp (fun _ hk => hk) trivial (Below.refl _ _) (Nat.le_refl _) (by simp) ?_; (case hd => rfl); (case hg => rfl); (case hr => first | (go_simp; done) | (go_simp; rfl)); (case hp => exact (Reps.none _ _)); intro v522 w16 ho17 hb hg_ hnew_; clear hg_ hnew_; (first | rw [← Ny521.out] at ho17 | (simp only [Int.reduceToNat] at ho17; rw [← Ny521.out] at ho17)); have n0_ := Aside0.mk (Kd.R_lower (Kd.R_newB ho17 (g := gb519) (o := .cells #[.int .i64 a1_0, .int .i64 a1_1, .bool a1_2, .bool a1_3, .bool a1_4] 32 (0, 0)) (by (with_reducible repeat (first | refine blk_drewN ?_ _ | refine blk_drew ?_ | refine blk_alloc ?_ _)); exact BK519.out)) (below_size (by repeat (first | (with_reducible first | exact HB.out | apply below_alloc | apply pw_below_drewN | apply below_drew1 | refine below_set ?_ GE519.out) | exact HB.out)))); have n1_ := Aside0.mk (blk_below (g := gb519) (o := .cells #[.int .i64 a1_0, .int .i64 a1_1, .bool a1_2, .bool a1_3, .bool a1_4] 32 (0, 0)) (by (with_reducible repeat (first | refine blk_drewN ?_ _ | refine blk_drew ?_ | refine blk_alloc ?_ _)); exact BK519.out) hb); have n2_ := Aside0.mk (below_step (by repeat (first | (with_reducible first | exact HB.out | apply below_alloc | apply pw_below_drewN | apply below_drew1 | refine below_set ?_ GE519.out) | exact HB.out)) hb); clear BK519; clear HB; have HO523 := n0_; have BK519 := n1_; have HB := n2_; clear n0_ n1_ n2_; clear hb ho17) | ((with_reducible refine gate_builtin (b := .append) (xs := #[.tmp 29, .tmp 30]) rfl ?_); at_builtin; refine Kd.R_append_rows k32 (w0 := w) w.heap.size rfl (.tmp 29) (.tmp 30) 22 32 (.agg #[(.int .i64 0), (.int .i64 0), (.bool false), (.bool false), (.bool false)]) 24 rfl Try.underlying22 info32 rfl (by decide) (by omega) v522 y521 l0 _ _ _ (fun k_ => k_ ≠ gb519) (fun _ => False) rfl rfl ?aO ?aR (fun _ _ h => h) (fun _ h => h.elim) ?aF ?aB ?aS ?aL ?_; (case aR => repeat (first | exact (Kd.C_below HR0.out HB.out) | (with_reducible refine Kd.C_alloc ?_ _) | (with_reducible refine Kd.C_drewN ?_ _) | (with_reducible refine Kd.C_drew ?_))); (case aB => exact (by repeat (first | (with_reducible first | exact HB.out | apply below_alloc | apply pw_below_drewN | apply below_drew1 | refine below_set ?_ GE519.out) | exact HB.out))); (case aF => exact (fun k_ hk => Kd.freshB (g := gb519) (o := .cells #[.int .i64 a1_0, .int .i64 a1_1, .bool a1_2, .bool a1_3, .bool a1_4] 32 (0, 0)) (by (with_reducible repeat (first | refine blk_drewN ?_ _ | refine blk_drew ?_ | refine blk_alloc ?_ _)); exact BK519.out) k_ hk)); (case aO => exact (by (with_reducible repeat (first | apply Kd.R_alloc | apply Kd.R_drewN | apply Kd.R_drew)); exact Kd.R_mono HO523.out (fun _ hk => hk.2))); (case aS => exact (below_size (by repeat (first | (with_reducible first | exact HB.out | apply below_alloc | apply pw_below_drewN | apply below_drew1 | refine below_set ?_ GE519.out) | exact HB.out)))); (case aL => have := LMc7.out; omega); intro v525 w18 ho hb hg hat; rw [← Ny524.out] at ho; have n0_ := Aside0.mk (blk_grown (g := gb519) (o := .cells #[.int .i64 a1_0, .int .i64 a1_1, .bool a1_2, .bool a1_3, .bool a1_4] 32 (0, 0)) (by (with_reducible repeat (first | refine blk_drewN ?_ _ | refine blk_drew ?_ | refine blk_alloc ?_ _)); exact BK519.out) hg (Kd.R_away HO523.out (fun _ hk => hk.2))); have n1_ := Aside0.mk (hb); have n2_ := Aside0.mk (ho); clear BK519; clear HB; clear HO523; have BK519 := n0_; have HB := n1_; have HO526 := n2_; clear n0_ n1_ n2_; clear ho hb hg hat; have hcz19_0 : w18.cell? ⟨gb519, 0, none⟩ = some (.int .i64 a1_0) := (blk_cell BK519.out 0).trans rfl; have hcz19_1 : w18.cell? ⟨gb519, 1, none⟩ = some (.int .i64 a1_1) := (blk_cell BK519.out 1).trans rfl; have hcz19_2 : w18.cell? ⟨gb519, 2, none⟩ = some (.bool a1_2) := (blk_cell BK519.out 2).trans rfl; have hcz19_3 : w18.cell? ⟨gb519, 3, none⟩ = some (.bool a1_3) := (blk_cell BK519.out 3).trans rfl; have hcz19_4 : w18.cell? ⟨gb519, 4, none⟩ = some (.bool a1_4) := (blk_cell BK519.out 4).trans rfl; have hfz19_0 := blk_frozen BK519.out 0; have hfz19_1 := blk_frozen BK519.out 1; have hfz19_2 := blk_frozen BK519.out 2; have hfz19_3 := blk_frozen BK519.out 3; have hfz19_4 := blk_frozen BK519.out 4; obtain ⟨Ao20, co20, eo20⟩ := Kd.R_slice HO526.out; subst eo20) | ((with_reducible refine gate_callee (f := 15) rfl ?_); refine goesL_ (some 35) rfl rfl Try.func15 (by kernel_rfl) rfl #[.slice Ao20 y524.length co20, .agg #[.int .i64 a1_0, .int .i64 a1_1, .bool a1_2, .bool a1_3, .bool a1_4]] rfl (by (try simp only [List.map_toArray, List.map_cons, List.map_nil]); first | done | rfl | (simp only [List.length_drop, List.length_take]; rfl)) ?_; (with_reducible refine (area_Lay.calls k _ _ y524 a1_0 a1_1 a1_2 a1_3 a1_4 t527 t530 _ ?side1 ?side2 A8.out).mono ?_); (case side1 => repeat (first | exact (Kd.R_reads' HO526.out).2.2 | (with_reducible refine Kd.C_alloc ?_ _) | (with_reducible refine Kd.C_drewN ?_ _) | (with_reducible refine Kd.C_drew ?_))); (case side2 => exact (Kd.R_reads' HO526.out).2.1); rintro e w21 ⟨v528, rfl, ho0, hb⟩; refine ⟨_, rfl, ?_⟩; have n0_ := Aside0.mk (Kd.R_elder' (by (with_reducible repeat (first | apply Kd.R_alloc | apply Kd.R_drewN | apply Kd.R_drew)); exact HO526.out) (Kd.R_base ho0) hb); have n1_ := Aside0.mk (Kd.R_lower (Kd.R_newB (Kd.R_new' ho0 (Kd.R_lt (by (with_reducible repeat (first | apply Kd.R_alloc | apply Kd.R_drewN | apply Kd.R_drew)); exact HO526.out))) (g := gb519) (o := .cells #[.int .i64 a1_0, .int .i64 a1_1, .bool a1_2, .bool a1_3, .bool a1_4] 32 (0, 0)) (by (with_reducible repeat (first | refine blk_drewN ?_ _ | refine blk_drew ?_ | refine blk_alloc ?_ _)); exact BK519.out)) (below_size (by repeat (first | (with_reducible first | exact HB.out | apply below_alloc | apply pw_below_drewN | apply below_drew1 | refine below_set ?_ GE519.out) | exact HB.out)))); have n2_ := Aside0.mk (blk_below (g := gb519) (o := .cells #[.int .i64 a1_0, .int .i64 a1_1, .bool a1_2, .bool a1_3, .bool a1_4] 32 (0, 0)) (by (with_reducible repeat (first | refine blk_drewN ?_ _ | refine blk_drew ?_ | refine blk_alloc ?_ _)); exact BK519.out) hb); have n3_ := Aside0.mk (below_step (by repeat (first | (with_reducible first | exact HB.out | apply below_alloc | apply pw_below_drewN | apply below_drew1 | refine below_set ?_ GE519.out) | exact HB.out)) hb); clear HO526; clear BK519; clear HB; have HO526 := n0_; have HO529 := n1_; have BK519 := n2_; have HB := n3_; clear n0_ n1_ n2_ n3_; (try clear hb); (try clear hb2); (try clear hk); (try clear hi); (try clear ho0); (try simp only [errW_none, errW_some]); have hcz22_0 : w21.cell? ⟨gb519, 0, none⟩ = some (.int .i64 a1_0) := (blk_cell BK519.out 0).trans rfl; have hcz22_1 : w21.cell? ⟨gb519, 1, none⟩ = some (.int .i64 a1_1) := (blk_cell BK519.out 1).trans rfl; have hcz22_2 : w21.cell? ⟨gb519, 2, none⟩ = some (.bool a1_2) := (blk_cell BK519.out 2).trans rfl; have hcz22_3 : w21.cell? ⟨gb519, 3, none⟩ = some (.bool a1_3) := (blk_cell BK519.out 3).trans rfl; have hcz22_4 : w21.cell? ⟨gb519, 4, none⟩ = some (.bool a1_4) := (blk_cell BK519.out 4).trans rfl; have hfz22_0 := blk_frozen BK519.out 0; have hfz22_1 := blk_frozen BK519.out 1; have hfz22_2 := blk_frozen BK519.out 2; have hfz22_3 := blk_frozen BK519.out 3; have hfz22_4 := blk_frozen BK519.out 4) | ((with_reducible refine gate_callee (f := 26) rfl ?_); refine goesL_ (some 46) rfl rfl Try.func26 (by kernel_rfl) rfl #[.slice Ao20 y524.length co20, .int .i64 a1_0, .int .i64 a1_1, .agg #[.bool a1_2, .bool a1_3]] rfl (by (try simp only [List.map_toArray, List.map_cons, List.map_nil]); first | done | rfl | (simp only [List.length_drop, List.length_take]; rfl)) ?_; (with_reducible refine (area_Change.calls k _ _ y524 a1_0 a1_1 a1_2 a1_3 t531 t534 _ ?side1 ?side2 A9.out).mono ?_); (case side1 => repeat (first | exact (Kd.R_reads' HO526.out).2.2 | (with_reducible refine Kd.C_alloc ?_ _) | (with_reducible refine Kd.C_drewN ?_ _) | (with_reducible refine Kd.C_drew ?_))); (case side2 => exact (Kd.R_reads' HO526.out).2.1); rintro e w23 ⟨v532, rfl, ho0, hb⟩; refine ⟨_, rfl, ?_⟩; have n0_ := Aside0.mk (Kd.R_elder' (by (with_reducible repeat (first | apply Kd.R_alloc | apply Kd.R_drewN | apply Kd.R_drew)); exact HO526.out) (Kd.R_base ho0) hb); have n1_ := Aside0.mk (Kd.R_elder' (by (with_reducible repeat (first | apply Kd.R_alloc | apply Kd.R_drewN | apply Kd.R_drew)); exact HO529.out) (Kd.R_base ho0) hb); have n2_ := Aside0.mk (Kd.R_lower (Kd.R_newB (Kd.R_new' (Kd.R_new' ho0 (Kd.R_lt (by (with_reducible repeat (first | apply Kd.R_alloc | apply Kd.R_drewN | apply Kd.R_drew)); exact HO526.out))) (Kd.R_lt (by (with_reducible repeat (first | apply Kd.R_alloc | apply Kd.R_drewN | apply Kd.R_drew)); exact HO529.out))) (g := gb519) (o := .cells #[.int .i64 a1_0, .int .i64 a1_1, .bool a1_2, .bool a1_3, .bool a1_4] 32 (0, 0)) (by (with_reducible repeat (first | refine blk_drewN ?_ _ | refine blk_drew ?_ | refine blk_alloc ?_ _)); exact BK519.out)) (below_size (by repeat (first | (with_reducible first | exact HB.out | apply below_alloc | apply pw_below_drewN | apply below_drew1 | refine below_set ?_ GE519.out) | exact HB.out)))); have n3_ := Aside0.mk (blk_below (g := gb519) (o := .cells #[.int .i64 a1_0, .int .i64 a1_1, .bool a1_2, .bool a1_3, .bool a1_4] 32 (0, 0)) (by (with_reducible repeat (first | refine blk_drewN ?_ _ | refine blk_drew ?_ | refine blk_alloc ?_ _)); exact BK519.out) hb); have n4_ := Aside0.mk (below_step (by repeat (first | (with_reducible first | exact HB.out | apply below_alloc | apply pw_below_drewN | apply below_drew1 | refine below_set ?_ GE519.out) | exact HB.out)) hb); clear HO526; clear HO529; clear BK519; clear HB; have HO526 := n0_; have HO529 := n1_; have HO533 := n2_; have BK519 := n3_; have HB := n4_; clear n0_ n1_ n2_ n3_ n4_; (try clear hb); (try clear hb2); (try clear hk); (try clear hi); (try clear ho0); (try simp only [errW_none, errW_some]); have hcz24_0 : w23.cell? ⟨gb519, 0, none⟩ = some (.int .i64 a1_0) := (blk_cell BK519.out 0).trans rfl; have hcz24_1 : w23.cell? ⟨gb519, 1, none⟩ = some (.int .i64 a1_1) := (blk_cell BK519.out 1).trans rfl; have hcz24_2 : w23.cell? ⟨gb519, 2, none⟩ = some (.bool a1_2) := (blk_cell BK519.out 2).trans rfl; have hcz24_3 : w23.cell? ⟨gb519, 3, none⟩ = some (.bool a1_3) := (blk_cell BK519.out 3).trans rfl; have hcz24_4 : w23.cell? ⟨gb519, 4, none⟩ = some (.bool a1_4) := (blk_cell BK519.out 4).trans rfl; have hfz24_0 := blk_frozen BK519.out 0; have hfz24_1 := blk_frozen BK519.out 1; have hfz24_2 := blk_frozen BK519.out 2; have hfz24_3 := blk_frozen BK519.out 3; have hfz24_4 := blk_frozen BK519.out 4) | ((with_reducible refine gate_callee (f := 27) rfl ?_); refine goesL_ (some 57) rfl rfl Try.func27 (by kernel_rfl) rfl #[.slice Ao20 y524.length co20, .int .i64 a1_0, .int .i64 a1_1, .bool a1_4] rfl (by (try simp only [List.map_toArray, List.map_cons, List.map_nil]); first | done | rfl | (simp only [List.length_drop, List.length_take]; rfl)) ?_; (with_reducible refine (area_Advise.calls k _ _ y524 a1_0 a1_1 a1_4 t535 t536 _ ?side1 ?side2 A10.out).mono ?_); (case side1 => repeat (first | exact (Kd.R_reads' HO526.out).2.2 | (with_reducible refine Kd.C_alloc ?_ _) | (with_reducible refine Kd.C_drewN ?_ _) | (with_reducible refine Kd.C_drew ?_))); (case side2 => exact (Kd.R_reads' HO526.out).2.1); rintro e w25 ⟨v537, rfl, ho0, hb⟩; refine ⟨_, rfl, ?_⟩; have n0_ := Aside0.mk (Kd.R_elder' (by (with_reducible repeat (first | apply Kd.R_alloc | apply Kd.R_drewN | apply Kd.R_drew)); exact HO526.out) (Kd.R_base ho0) hb); have n1_ := Aside0.mk (Kd.R_elder' (by (with_reducible repeat (first | apply Kd.R_alloc | apply Kd.R_drewN | apply Kd.R_drew)); exact HO529.out) (Kd.R_base ho0) hb); have n2_ := Aside0.mk (Kd.R_elder' (by (with_reducible repeat (first | apply Kd.R_alloc | apply Kd.R_drewN | apply Kd.R_drew)); exact HO533.out) (Kd.R_base ho0) hb); have n3_ := Aside0.mk (Kd.R_lower (Kd.R_newB (Kd.R_new' (Kd.R_new' (Kd.R_new' ho0 (Kd.R_lt (by (with_reducible repeat (first | apply Kd.R_alloc | apply Kd.R_drewN | apply Kd.R_drew)); exact HO526.out))) (Kd.R_lt (by (with_reducible repeat (first | apply Kd.R_alloc | apply Kd.R_drewN | apply Kd.R_drew)); exact HO529.out))) (Kd.R_lt (by (with_reducible repeat (first | apply Kd.R_alloc | apply Kd.R_drewN | apply Kd.R_drew)); exact HO533.out))) (g := gb519) (o := .cells #[.int .i64 a1_0, .int .i64 a1_1, .bool a1_2, .bool a1_3, .bool a1_4] 32 (0, 0)) (by (with_reducible repeat (first | refine blk_drewN ?_ _ | refine blk_drew ?_ | refine blk_alloc ?_ _)); exact BK519.out)) (below_size (by repeat (first | (with_reducible first | exact HB.out | apply below_alloc | apply pw_below_drewN | apply below_drew1 | refine below_set ?_ GE519.out) | exact HB.out)))); have n4_ := Aside0.mk (blk_below (g := gb519) (o := .cells #[.int .i64 a1_0, .int .i64 a1_1, .bool a1_2, .bool a1_3, .bool a1_4] 32 (0, 0)) (by (with_reducible repeat (first | refine blk_drewN ?_ _ | refine blk_drew ?_ | refine blk_alloc ?_ _)); exact BK519.out) hb); have n5_ := Aside0.mk (below_step (by repeat (first | (with_reducible first | exact HB.out | apply below_alloc | apply pw_below_drewN | apply below_drew1 | refine below_set ?_ GE519.out) | exact HB.out)) hb); clear HO526; clear HO529; clear HO533; clear BK519; clear HB; have HO526 := n0_; have HO529 := n1_; have HO533 := n2_; have HO538 := n3_; have BK519 := n4_; have HB := n5_; clear n0_ n1_ n2_ n3_ n4_ n5_; (try clear hb); (try clear hb2); (try clear hk); (try clear hi); (try clear ho0); (try simp only [errW_none, errW_some]); have hcz26_0 : w25.cell? ⟨gb519, 0, none⟩ = some (.int .i64 a1_0) := (blk_cell BK519.out 0).trans rfl; have hcz26_1 : w25.cell? ⟨gb519, 1, none⟩ = some (.int .i64 a1_1) := (blk_cell BK519.out 1).trans rfl; have hcz26_2 : w25.cell? ⟨gb519, 2, none⟩ = some (.bool a1_2) := (blk_cell BK519.out 2).trans rfl; have hcz26_3 : w25.cell? ⟨gb519, 3, none⟩ = some (.bool a1_3) := (blk_cell BK519.out 3).trans rfl; have hcz26_4 : w25.cell? ⟨gb519, 4, none⟩ = some (.bool a1_4) := (blk_cell BK519.out 4).trans rfl; have hfz26_0 := blk_frozen BK519.out 0; have hfz26_1 := blk_frozen BK519.out 1; have hfz26_2 := blk_frozen BK519.out 2; have hfz26_3 := blk_frozen BK519.out 3; have hfz26_4 := blk_frozen BK519.out 4) | ((with_reducible refine gate_callee (f := 16) rfl ?_); refine goesL_ (some 66) rfl rfl Try.func16 (by kernel_rfl) rfl #[.slice Ao20 y524.length co20, .int .i64 a1_0, .int .i64 a1_1] rfl (by (try simp only [List.map_toArray, List.map_cons, List.map_nil]); first | done | rfl | (simp only [List.length_drop, List.length_take]; rfl)) ?_; (with_reducible refine (area_Cut.calls k _ _ y524 a1_0 a1_1 t539 t540 _ ?side1 ?side2 A11.out).mono ?_); (case side1 => repeat (first | exact (Kd.R_reads' HO526.out).2.2 | (with_reducible refine Kd.C_alloc ?_ _) | (with_reducible refine Kd.C_drewN ?_ _) | (with_reducible refine Kd.C_drew ?_))); (case side2 => exact (Kd.R_reads' HO526.out).2.1); rintro e w27 ⟨v541, rfl, ho0, hb⟩; refine ⟨_, rfl, ?_⟩; have n0_ := Aside0.mk (Kd.R_elder' (by (with_reducible repeat (first | apply Kd.R_alloc | apply Kd.R_drewN | apply Kd.R_drew)); exact HO526.out) (Kd.R_base ho0) hb); have n1_ := Aside0.mk (Kd.R_elder' (by (with_reducible repeat (first | apply Kd.R_alloc | apply Kd.R_drewN | apply Kd.R_drew)); exact HO529.out) (Kd.R_base ho0) hb); have n2_ := Aside0.mk (Kd.R_elder' (by (with_reducible repeat (first | apply Kd.R_alloc | apply Kd.R_drewN | apply Kd.R_drew)); exact HO533.out) (Kd.R_base ho0) hb); have n3_ := Aside0.mk (Kd.R_elder' (by (with_reducible repeat (first | apply Kd.R_alloc | apply Kd.R_drewN | apply Kd.R_drew)); exact HO538.out) (Kd.R_base ho0) hb); have n4_ := Aside0.mk (Kd.R_lower (Kd.R_newB (Kd.R_new' (Kd.R_new' (Kd.R_new' (Kd.R_new' ho0 (Kd.R_lt (by (with_reducible repeat (first | apply Kd.R_alloc | apply Kd.R_drewN | apply Kd.R_drew)); exact HO526.out))) (Kd.R_lt (by (with_reducible repeat (first | apply Kd.R_alloc | apply Kd.R_drewN | apply Kd.R_drew)); exact HO529.out))) (Kd.R_lt (by (with_reducible repeat (first | apply Kd.R_alloc | apply Kd.R_drewN | apply Kd.R_drew)); exact HO533.out))) (Kd.R_lt (by (with_reducible repeat (first | apply Kd.R_alloc | apply Kd.R_drewN | apply Kd.R_drew)); exact HO538.out))) (g := gb519) (o := .cells #[.int .i64 a1_0, .int .i64 a1_1, .bool a1_2, .bool a1_3, .bool a1_4] 32 (0, 0)) (by (with_reducible repeat (first | refine blk_drewN ?_ _ | refine blk_drew ?_ | refine blk_alloc ?_ _)); exact BK519.out)) (below_size (by repeat (first | (with_reducible first | exact HB.out | apply below_alloc | apply pw_below_drewN | apply below_drew1 | refine below_set ?_ GE519.out) | exact HB.out)))); have n5_ := Aside0.mk (blk_below (g := gb519) (o := .cells #[.int .i64 a1_0, .int .i64 a1_1, .bool a1_2, .bool a1_3, .bool a1_4] 32 (0, 0)) (by (with_reducible repeat (first | refine blk_drewN ?_ _ | refine blk_drew ?_ | refine blk_alloc ?_ _)); exact BK519.out) hb); have n6_ := Aside0.mk (below_step (by repeat (first | (with_reducible first | exact HB.out | apply below_alloc | apply pw_below_drewN | apply below_drew1 | refine below_set ?_ GE519.out) | exact HB.out)) hb); clear HO526; clear HO529; clear HO533; clear HO538; clear BK519; clear HB; have HO526 := n0_; have HO529 := n1_; have HO533 := n2_; have HO538 := n3_; have HO542 := n4_; have BK519 := n5_; have HB := n6_; clear n0_ n1_ n2_ n3_ n4_ n5_ n6_; (try clear hb); (try clear hb2); (try clear hk); (try clear hi); (try clear ho0); (try simp only [errW_none, errW_some])) | ((with_reducible refine gate_callee (f := 21) rfl ?_); refine goesL_ (some 71) rfl rfl Try.func21 (by kernel_rfl) rfl #[.slice Ao20 y524.length co20, .slice A0 l0.length c0] rfl (by (try simp only [List.map_toArray, List.map_cons, List.map_nil]); first | done | rfl | (simp only [List.length_drop, List.length_take]; rfl)) ?_; (with_reducible refine (paviorref09_Same.calls k _ _ y524 _ _ l0 true _ ?side1 ?side2 ?side3 ?side4 A12.out).mono ?_); (case side1 => repeat (first | exact (Kd.R_reads' HO526.out).2.2 | (with_reducible refine Kd.C_alloc ?_ _) | (with_reducible refine Kd.C_drewN ?_ _) | (with_reducible refine Kd.C_drew ?_))); (case side2 => exact (Kd.R_reads' HO526.out).2.1); (case side3 => repeat (first | exact (Kd.C_below HR0.out HB.out) | (with_reducible refine Kd.C_alloc ?_ _) | (with_reducible refine Kd.C_drewN ?_ _) | (with_reducible refine Kd.C_drew ?_))); (case side4 => exact HC0.out); rintro e w' ⟨rfl, ⟨nd, rfl⟩⟩; refine ⟨_, rfl, ?_⟩))
        go_loopg [15] k (fun kq v15 w' => ∃ (x6_1 : List (S32)) (x15_1 : Int) (x520000_1 : Int) (x520001_1 : Int) (x520002_1 : Bool) (x520003_1 : Bool) (x520004_1 : Bool), v15 = .int .i64 x15_1 ∧ Aside0 (paviorlaw09_AreaStays.l0 kq l0 t520 x6_1 t527 t530 t531 t534 t535 t536 t539 t540 x15_1 x520000_1 x520001_1 x520002_1 x520003_1 x520004_1 = some r) ∧ Aside0 (kq ≤ k) ∧ Aside0 (Kd.R k32 32 w' w.heap.size (fun k_ => some k_ ≠ (v528 : Value).ownBlock ∧ some k_ ≠ (v532 : Value).ownBlock ∧ some k_ ≠ (v537 : Value).ownBlock ∧ some k_ ≠ (v541 : Value).ownBlock ∧ k_ ≠ gb519) (.slice Ao20 y524.length co20) x6_1) ∧ Aside0 (Kd.R k32 32 w' w.heap.size (fun k_ => some k_ ≠ ((.slice Ao20 y524.length co20) : Value).ownBlock ∧ some k_ ≠ (v532 : Value).ownBlock ∧ some k_ ≠ (v537 : Value).ownBlock ∧ some k_ ≠ (v541 : Value).ownBlock ∧ k_ ≠ gb519) v528 t527) ∧ Aside0 (Kd.R k32 32 w' w.heap.size (fun k_ => some k_ ≠ ((.slice Ao20 y524.length co20) : Value).ownBlock ∧ some k_ ≠ (v528 : Value).ownBlock ∧ some k_ ≠ (v537 : Value).ownBlock ∧ some k_ ≠ (v541 : Value).ownBlock ∧ k_ ≠ gb519) v532 t531) ∧ Aside0 (Kd.R k32 32 w' w.heap.size (fun k_ => some k_ ≠ ((.slice Ao20 y524.length co20) : Value).ownBlock ∧ some k_ ≠ (v528 : Value).ownBlock ∧ some k_ ≠ (v532 : Value).ownBlock ∧ some k_ ≠ (v541 : Value).ownBlock ∧ k_ ≠ gb519) v537 t535) ∧ Aside0 (Kd.R k32 32 w' w.heap.size (fun k_ => some k_ ≠ ((.slice Ao20 y524.length co20) : Value).ownBlock ∧ some k_ ≠ (v528 : Value).ownBlock ∧ some k_ ≠ (v532 : Value).ownBlock ∧ some k_ ≠ (v537 : Value).ownBlock ∧ k_ ≠ gb519) v541 t539) ∧ Aside0 (w'.heap[gb519]? = some (.cells #[.int .i64 x520000_1, .int .i64 x520001_1, .bool x520002_1, .bool x520003_1, .bool x520004_1] 32 (0, 0))) ∧ Aside0 (Below w.heap.size w w'))
        case atStart => exact ⟨(y524), (0), (a1_0), (a1_1), (a1_2), (a1_3), (a1_4), (by first | rfl | (simp; done) | (simp [*]; done)), H', ⟨Nat.le_refl _⟩, ⟨by (with_reducible repeat (first | apply Kd.R_alloc | apply Kd.R_drewN | apply Kd.R_drew)); exact Kd.R_mono HO526.out (fun _ hk => ⟨hk.1.1.1.2, ⟨hk.1.1.2, ⟨hk.1.2, ⟨hk.2, hk.1.1.1.1⟩⟩⟩⟩)⟩, ⟨by (with_reducible repeat (first | apply Kd.R_alloc | apply Kd.R_drewN | apply Kd.R_drew)); exact Kd.R_mono HO529.out (fun _ hk => ⟨hk.1.1.1.1.2, ⟨hk.1.1.2, ⟨hk.1.2, ⟨hk.2, hk.1.1.1.2⟩⟩⟩⟩)⟩, ⟨by (with_reducible repeat (first | apply Kd.R_alloc | apply Kd.R_drewN | apply Kd.R_drew)); exact Kd.R_mono HO533.out (fun _ hk => ⟨hk.1.1.1.1.2, ⟨hk.1.1.1.2, ⟨hk.1.2, ⟨hk.2, hk.1.1.2⟩⟩⟩⟩)⟩, ⟨by (with_reducible repeat (first | apply Kd.R_alloc | apply Kd.R_drewN | apply Kd.R_drew)); exact Kd.R_mono HO538.out (fun _ hk => ⟨hk.1.1.1.1.2, ⟨hk.1.1.1.2, ⟨hk.1.1.2, ⟨hk.2, hk.1.2⟩⟩⟩⟩)⟩, ⟨by (with_reducible repeat (first | apply Kd.R_alloc | apply Kd.R_drewN | apply Kd.R_drew)); exact Kd.R_mono HO542.out (fun _ hk => ⟨hk.1.1.1.1.2, ⟨hk.1.1.1.2, ⟨hk.1.1.2, ⟨hk.1.2, hk.2⟩⟩⟩⟩)⟩, ⟨by (with_reducible repeat (first | refine blk_drewN ?_ _ | refine blk_drew ?_ | refine blk_alloc ?_ _)); exact BK519.out⟩, ⟨by repeat (first | (with_reducible first | exact HB.out | apply below_alloc | apply pw_below_drewN | apply below_drew1 | refine below_set ?_ GE519.out) | exact HB.out)⟩⟩
        case round =>
          clear H'
          try clear c1
          try clear c2
          try clear p2
          try clear c4
          try clear c4b0
          try clear c4b1
          try clear c7
          try clear c11
          try clear c12
          try clear c13
          try clear c15
          try clear c16
          try clear c21
          try clear c26
          try clear c27
          try clear hcz19_0
          try clear hcz19_1
          try clear hcz19_2
          try clear hcz19_3
          try clear hcz19_4
          try clear hcz22_0
          try clear hcz22_1
          try clear hcz22_2
          try clear hcz22_3
          try clear hcz22_4
          try clear hcz24_0
          try clear hcz24_1
          try clear hcz24_2
          try clear hcz24_3
          try clear hcz24_4
          try clear hcz26_0
          try clear hcz26_1
          try clear hcz26_2
          try clear hcz26_3
          try clear hcz26_4
          try clear hfz19_0
          try clear hfz19_1
          try clear hfz19_2
          try clear hfz19_3
          try clear hfz19_4
          try clear hfz22_0
          try clear hfz22_1
          try clear hfz22_2
          try clear hfz22_3
          try clear hfz22_4
          try clear hfz24_0
          try clear hfz24_1
          try clear hfz24_2
          try clear hfz24_3
          try clear hfz24_4
          try clear hfz26_0
          try clear hfz26_1
          try clear hfz26_2
          try clear hfz26_3
          try clear hfz26_4
          obtain ⟨x6_1, x15_1, x520000_1, x520001_1, x520002_1, x520003_1, x520004_1, rfl, HA, HK1, HO_6, HO_7, HO_9, HO_11, HO_13, BK519, HB⟩ := hrel
          have hl6_1 := (Kd.R_reads' HO_6.out).1
          rw [hl6_1] at HO_6
          (try simp only [hl6_1])
          (try simp only [hl6_1] at BK519)
          (try simp only [hl6_1] at HO_7)
          (try simp only [hl6_1] at HO_9)
          (try simp only [hl6_1] at HO_11)
          (try simp only [hl6_1] at HO_13)
          cases gk with
          | zero => exact absurd HA.out (by simp [paviorlaw09_AreaStays.l0])
          | succ k1 =>
            have H := HA.out
            clear HA
            simp only [paviorlaw09_AreaStays.l0] at H
            by_cases c28 : x15_1 < (x6_1.length : Int)
            · rw [if_pos c28] at H
              have c28b0 : decide (x15_1 < (x6_1.length : Int)) = true := decide_eq_true c28
              clear c28
              by_cases c29 : 0 ≤ x15_1
              · rw [if_pos c29] at H
                have c29b0 : decide (0 ≤ x15_1) = true := decide_eq_true c29
                clear c29
                obtain ⟨y544, hy544⟩ : ∃ y_ : List (S32), y_ = (x6_1.set (x15_1 : Int).toNat (⟨9, 0, (⟨false, false⟩ : S30), false⟩ : S32)) := ⟨_, rfl⟩
                replace H : (paviorlaw09_AreaStays.l0 k1 l0 t520 y544 t527 t530 t531 t534 t535 t536 t539 t540 (wrap64 (x15_1 + 1)) x520000_1 x520001_1 x520002_1 x520003_1 x520004_1) = some r := by first | (rw [hy544]; with_reducible exact H) | (have H2_ := (Option.bind_some _ _).symm.trans H; rw [hy544]; with_reducible exact H2_) | (have H2_ := (Option.bind_some _ _).symm.trans H; with_reducible exact H2_) | with_reducible exact H | (rw [hy544]; exact H) | exact H
                have Ny544 := Aside0.mk hy544
                clear hy544
                have H' := Aside0.mk H
                clear H
                have p30 : 0 ≤ (x15_1 : Int) := of_decide_eq_true (by first | (with_reducible assumption) | assumption)
                have q30 : (x15_1 : Int) < ((x6_1.length : Int) : Int) := of_decide_eq_true (by first | (with_reducible assumption) | assumption)
                obtain ⟨go30, co30, eo30, gb30, gl30, cl30, HG30⟩ := Kd.R_form HO_6.out (by omega)
                (first | cases eo30 | (injection eo30 with ea_ en_ ec_; (first | subst ea_ | (injection ea_ with ea_; subst ea_)); subst ec_; clear en_))
                have GB30 := Aside0.mk gb30
                have GG30 := Aside0.mk HG30
                clear gb30 gl30 HG30
                obtain ⟨ce30, hcl30, hM30, hcc30, hfr30⟩ := Kd.R_elem HO_6.out z32 (x15_1 : Int) p30 q30
                obtain rfl := k32_openM hM30
                have hx30_0 : wr.cell? ⟨go30, (x15_1 : Int).toNat * 5, none⟩ = some (.int .i64 ((rd_T32 x6_1 x15_1).f0)) := hcc30 0 _ rfl
                have hx30_1 : wr.cell? ⟨go30, (x15_1 : Int).toNat * 5 + 1, none⟩ = some (.int .i64 ((rd_T32 x6_1 x15_1).f1)) := hcc30 1 _ rfl
                have hx30_2 : wr.cell? ⟨go30, (x15_1 : Int).toNat * 5 + 2, none⟩ = some (.bool ((rd_T32 x6_1 x15_1).f2.f0)) := hcc30 2 _ rfl
                have hx30_3 : wr.cell? ⟨go30, (x15_1 : Int).toNat * 5 + 3, none⟩ = some (.bool ((rd_T32 x6_1 x15_1).f2.f1)) := hcc30 3 _ rfl
                have hx30_4 : wr.cell? ⟨go30, (x15_1 : Int).toNat * 5 + 4, none⟩ = some (.bool ((rd_T32 x6_1 x15_1).f3)) := hcc30 4 _ rfl
                have hf30_0 : wr.frozen? ⟨go30, (x15_1 : Int).toNat * 5, none⟩ = false := hfr30 0
                have hf30_1 : wr.frozen? ⟨go30, (x15_1 : Int).toNat * 5 + 1, none⟩ = false := hfr30 1
                have hf30_2 : wr.frozen? ⟨go30, (x15_1 : Int).toNat * 5 + 2, none⟩ = false := hfr30 2
                have hf30_3 : wr.frozen? ⟨go30, (x15_1 : Int).toNat * 5 + 3, none⟩ = false := hfr30 3
                have hf30_4 : wr.frozen? ⟨go30, (x15_1 : Int).toNat * 5 + 4, none⟩ = false := hfr30 4
                clear hcl30 hcc30 hfr30 hM30
                replace p30 := eq_true p30
                replace q30 := eq_true q30
                have HX31 := Aside0.mk (show Kd.R k32 32 wr w.heap.size (fun k_ => some k_ ≠ (v528 : Value).ownBlock ∧ some k_ ≠ (v532 : Value).ownBlock ∧ some k_ ≠ (v537 : Value).ownBlock ∧ some k_ ≠ (v541 : Value).ownBlock ∧ k_ ≠ gb519) (.slice (some ⟨go30, 0, none⟩) x6_1.length co20) x6_1 from (by (with_reducible repeat (first | apply Kd.R_alloc | apply Kd.R_drewN | apply Kd.R_drew)); exact HO_6.out))
                obtain ⟨ce31, hcl31, hM31, hcc31, hfr31⟩ := Kd.R_elem HX31.out z32 (x15_1 : Int) (of_decide_eq_true (by first | (with_reducible assumption) | assumption)) (by have h_ : (x15_1 : Int) < ((x6_1.length : Int) : Int) := of_decide_eq_true (by first | (with_reducible assumption) | assumption); first | exact h_ | (have e_ := (Kd.R_reads' HO_6.out).1; omega) | simpa using h_)
                obtain rfl := k32_openM hM31
                have HP31 := Kd.R_seg HX31.out (x15_1 : Int) (of_decide_eq_true (by first | (with_reducible assumption) | assumption)) (by have h_ : (x15_1 : Int) < ((x6_1.length : Int) : Int) := of_decide_eq_true (by first | (with_reducible assumption) | assumption); first | exact h_ | (have e_ := (Kd.R_reads' HO_6.out).1; omega) | simpa using h_) (seg := [.int .i64 9, .int .i64 0, .bool false, .bool false, .bool false]) (j := 0) hcl31 hcc31 (show 5 ≤ 5 from by decide) (x' := (⟨9, 0, (⟨false, false⟩ : S30), false⟩ : S32)) (k32_mkM _ _ _ (⟨9, 0, (⟨false, false⟩ : S30), false⟩ : S32) ) (fun _ hk => hk)
                have hx31_0 := hcc31 0 _ rfl
                (try simp only [show (k32).sz = 5 from rfl, Nat.mul_one, Nat.add_zero] at hx31_0)
                have hf31_0 := hfr31 0
                (try simp only [show (k32).sz = 5 from rfl, Nat.mul_one, Nat.add_zero] at hf31_0)
                have hx31_1 := hcc31 1 _ rfl
                (try simp only [show (k32).sz = 5 from rfl, Nat.mul_one, Nat.add_zero] at hx31_1)
                have hf31_1 := hfr31 1
                (try simp only [show (k32).sz = 5 from rfl, Nat.mul_one, Nat.add_zero] at hf31_1)
                have hx31_2 := hcc31 2 _ rfl
                (try simp only [show (k32).sz = 5 from rfl, Nat.mul_one, Nat.add_zero] at hx31_2)
                have hf31_2 := hfr31 2
                (try simp only [show (k32).sz = 5 from rfl, Nat.mul_one, Nat.add_zero] at hf31_2)
                have hx31_3 := hcc31 3 _ rfl
                (try simp only [show (k32).sz = 5 from rfl, Nat.mul_one, Nat.add_zero] at hx31_3)
                have hf31_3 := hfr31 3
                (try simp only [show (k32).sz = 5 from rfl, Nat.mul_one, Nat.add_zero] at hf31_3)
                have hx31_4 := hcc31 4 _ rfl
                (try simp only [show (k32).sz = 5 from rfl, Nat.mul_one, Nat.add_zero] at hx31_4)
                have hf31_4 := hfr31 4
                (try simp only [show (k32).sz = 5 from rfl, Nat.mul_one, Nat.add_zero] at hf31_4)
                clear hcl31 hcc31 hfr31 hM31
                go_wp2_with (first | ((with_reducible refine gate_store (t := 32) (p := 82) rfl ?_); refine store_event (t := 32) (p := 82) (v := ?vo_w32) (w1 := (((((wr.setCell ⟨go30, (x15_1 : Int).toNat * 5, none⟩ (.int .i64 9)).setCell ⟨go30, (x15_1 : Int).toNat * 5 + 1, none⟩ (.int .i64 0)).setCell ⟨go30, (x15_1 : Int).toNat * 5 + 2, none⟩ (.bool false)).setCell ⟨go30, (x15_1 : Int).toNat * 5 + 3, none⟩ (.bool false)).setCell ⟨go30, (x15_1 : Int).toNat * 5 + 4, none⟩ (.bool false))) ?hg ?ho ?hn ?hr ?_; (case ho => rfl); (case hg => rfl); (case hn => rfl); (case hr => first | (go_simp; done) | (go_simp; rfl)); intro w32 hw; have hg : wr.grownBy w32 (some go30) := (by rw [hw]; exact HP31.2); have hp_ : Kd.R k32 32 w32 w.heap.size (fun k_ => some k_ ≠ (v528 : Value).ownBlock ∧ some k_ ≠ (v532 : Value).ownBlock ∧ some k_ ≠ (v537 : Value).ownBlock ∧ some k_ ≠ (v541 : Value).ownBlock ∧ k_ ≠ gb519) (.slice (some ⟨go30, 0, none⟩) x6_1.length co20) y544 := (by rw [hw, Ny544.out]; exact HP31.1); clear HP31; have n0_ := Aside0.mk (hp_); have n1_ := Aside0.mk (Kd.R_after (v := (.slice (some ⟨go30, 0, none⟩) x6_1.length co20)) (v1 := (.slice (some ⟨go30, 0, none⟩) x6_1.length co20)) (ok := (fun k_ => some k_ ≠ (v532 : Value).ownBlock ∧ some k_ ≠ (v537 : Value).ownBlock ∧ some k_ ≠ (v541 : Value).ownBlock ∧ k_ ≠ gb519)) (by (with_reducible repeat (first | apply Kd.R_alloc | apply Kd.R_drewN | apply Kd.R_drew)); exact Kd.R_mono HO_7.out (fun _ hk => ⟨⟨hk.2.1, ⟨hk.2.2.1, ⟨hk.2.2.2.1, hk.2.2.2.2⟩⟩⟩, hk.1⟩)) hg (.inl rfl)); have n2_ := Aside0.mk (Kd.R_after (v := (.slice (some ⟨go30, 0, none⟩) x6_1.length co20)) (v1 := (.slice (some ⟨go30, 0, none⟩) x6_1.length co20)) (ok := (fun k_ => some k_ ≠ (v528 : Value).ownBlock ∧ some k_ ≠ (v537 : Value).ownBlock ∧ some k_ ≠ (v541 : Value).ownBlock ∧ k_ ≠ gb519)) (by (with_reducible repeat (first | apply Kd.R_alloc | apply Kd.R_drewN | apply Kd.R_drew)); exact Kd.R_mono HO_9.out (fun _ hk => ⟨⟨hk.2.1, ⟨hk.2.2.1, ⟨hk.2.2.2.1, hk.2.2.2.2⟩⟩⟩, hk.1⟩)) hg (.inl rfl)); have n3_ := Aside0.mk (Kd.R_after (v := (.slice (some ⟨go30, 0, none⟩) x6_1.length co20)) (v1 := (.slice (some ⟨go30, 0, none⟩) x6_1.length co20)) (ok := (fun k_ => some k_ ≠ (v528 : Value).ownBlock ∧ some k_ ≠ (v532 : Value).ownBlock ∧ some k_ ≠ (v541 : Value).ownBlock ∧ k_ ≠ gb519)) (by (with_reducible repeat (first | apply Kd.R_alloc | apply Kd.R_drewN | apply Kd.R_drew)); exact Kd.R_mono HO_11.out (fun _ hk => ⟨⟨hk.2.1, ⟨hk.2.2.1, ⟨hk.2.2.2.1, hk.2.2.2.2⟩⟩⟩, hk.1⟩)) hg (.inl rfl)); have n4_ := Aside0.mk (Kd.R_after (v := (.slice (some ⟨go30, 0, none⟩) x6_1.length co20)) (v1 := (.slice (some ⟨go30, 0, none⟩) x6_1.length co20)) (ok := (fun k_ => some k_ ≠ (v528 : Value).ownBlock ∧ some k_ ≠ (v532 : Value).ownBlock ∧ some k_ ≠ (v537 : Value).ownBlock ∧ k_ ≠ gb519)) (by (with_reducible repeat (first | apply Kd.R_alloc | apply Kd.R_drewN | apply Kd.R_drew)); exact Kd.R_mono HO_13.out (fun _ hk => ⟨⟨hk.2.1, ⟨hk.2.2.1, ⟨hk.2.2.2.1, hk.2.2.2.2⟩⟩⟩, hk.1⟩)) hg (.inl rfl)); have n5_ := Aside0.mk (blk_grown (g := gb519) (o := .cells #[.int .i64 x520000_1, .int .i64 x520001_1, .bool x520002_1, .bool x520003_1, .bool x520004_1] 32 (0, 0)) (by (with_reducible repeat (first | refine blk_drewN ?_ _ | refine blk_drew ?_ | refine blk_alloc ?_ _)); exact BK519.out) hg (Kd.R_away HO_6.out (fun _ hk => hk.2.2.2.2))); have n6_ := Aside0.mk ((by rw [hw]; exact below_set (below_set (below_set (below_set (below_set (HB.out) GB30.out) GB30.out) GB30.out) GB30.out) GB30.out : Below w.heap.size w w32)); clear HO_6; clear HO_7; clear HO_9; clear HO_11; clear HO_13; clear BK519; clear HB; have HO_6 := n0_; have HO_7 := n1_; have HO_9 := n2_; have HO_11 := n3_; have HO_13 := n4_; have BK519 := n5_; have HB := n6_; clear n0_ n1_ n2_ n3_ n4_ n5_ n6_; clear hg hw hp_))
                (try simp only [← hl6_1])
                go_roundg k1
                case measure => have := HK1.out; omega
                case rel => exact ⟨(y544), (wrap64 (x15_1 + 1)), (x520000_1), (x520001_1), (x520002_1), (x520003_1), (x520004_1), (by first | rfl | (simp; done) | (simp [*]; done)), H', ⟨by have := HK1.out; omega⟩, ⟨by (try simp only [hl6_1]); (with_reducible repeat (first | apply Kd.R_alloc | apply Kd.R_drewN | apply Kd.R_drew)); exact HO_6.out⟩, ⟨by (try simp only [hl6_1]); (with_reducible repeat (first | apply Kd.R_alloc | apply Kd.R_drewN | apply Kd.R_drew)); exact Kd.R_mono HO_7.out (fun _ hk => ⟨hk.2, ⟨hk.1.1, ⟨hk.1.2.1, ⟨hk.1.2.2.1, hk.1.2.2.2⟩⟩⟩⟩)⟩, ⟨by (try simp only [hl6_1]); (with_reducible repeat (first | apply Kd.R_alloc | apply Kd.R_drewN | apply Kd.R_drew)); exact Kd.R_mono HO_9.out (fun _ hk => ⟨hk.2, ⟨hk.1.1, ⟨hk.1.2.1, ⟨hk.1.2.2.1, hk.1.2.2.2⟩⟩⟩⟩)⟩, ⟨by (try simp only [hl6_1]); (with_reducible repeat (first | apply Kd.R_alloc | apply Kd.R_drewN | apply Kd.R_drew)); exact Kd.R_mono HO_11.out (fun _ hk => ⟨hk.2, ⟨hk.1.1, ⟨hk.1.2.1, ⟨hk.1.2.2.1, hk.1.2.2.2⟩⟩⟩⟩)⟩, ⟨by (try simp only [hl6_1]); (with_reducible repeat (first | apply Kd.R_alloc | apply Kd.R_drewN | apply Kd.R_drew)); exact Kd.R_mono HO_13.out (fun _ hk => ⟨hk.2, ⟨hk.1.1, ⟨hk.1.2.1, ⟨hk.1.2.2.1, hk.1.2.2.2⟩⟩⟩⟩)⟩, ⟨by (try simp only [hl6_1]); (with_reducible repeat (first | refine blk_drewN ?_ _ | refine blk_drew ?_ | refine blk_alloc ?_ _)); exact BK519.out⟩, ⟨by repeat (first | (with_reducible first | exact HB.out | apply below_alloc | apply pw_below_drewN | apply below_drew1 | refine below_set ?_ GE519.out) | exact HB.out)⟩⟩
              · rw [if_neg c29] at H
                exact absurd H (by simp)
            · rw [if_neg c28] at H
              have c28b0 : decide (x15_1 < (x6_1.length : Int)) = false := decide_eq_false c28
              clear c28
              replace H := Option.bind_eq_some_iff.mp H
              obtain ⟨⟨t545, t548⟩, A330, H⟩ := H
              replace H : ((area_Change.f k1 l0 x520000_1 x520001_1 x520002_1 x520003_1).bind fun bt549 => ((area_Advise.f k1 l0 x520000_1 x520001_1 x520004_1).bind fun bt553 => ((area_Cut.f k1 l0 x520000_1 x520001_1).bind fun bt557 => (if t520 = true then (if (t530.isNone == t548.isNone) = true then (if (t534.isNone == bt549.2.isNone) = true then (if (t536.isNone == bt553.2.isNone) = true then (if (t540.isNone == bt557.2.isNone) = true then ((paviorref09_Same.f k1 t527 t545).bind fun t561 => (if t561 = true then ((paviorref09_Same.f k1 t531 bt549.1).bind fun t562 => (if t562 = true then ((paviorref09_Same.f k1 t535 bt553.1).bind fun t563 => (if t563 = true then ((paviorref09_Same.f k1 t539 bt557.1).bind fun t564 => (some t564)) else (none))) else (none))) else (none))) else (none)) else (none)) else (none)) else (none)) else (none))))) = some r := H
              have A33 := Aside0.mk A330
              clear A330
              replace H := Option.bind_eq_some_iff.mp H
              obtain ⟨⟨t549, t552⟩, A340, H⟩ := H
              replace H : ((area_Advise.f k1 l0 x520000_1 x520001_1 x520004_1).bind fun bt553 => ((area_Cut.f k1 l0 x520000_1 x520001_1).bind fun bt557 => (if t520 = true then (if (t530.isNone == t548.isNone) = true then (if (t534.isNone == t552.isNone) = true then (if (t536.isNone == bt553.2.isNone) = true then (if (t540.isNone == bt557.2.isNone) = true then ((paviorref09_Same.f k1 t527 t545).bind fun t561 => (if t561 = true then ((paviorref09_Same.f k1 t531 t549).bind fun t562 => (if t562 = true then ((paviorref09_Same.f k1 t535 bt553.1).bind fun t563 => (if t563 = true then ((paviorref09_Same.f k1 t539 bt557.1).bind fun t564 => (some t564)) else (none))) else (none))) else (none))) else (none)) else (none)) else (none)) else (none)) else (none)))) = some r := H
              have A34 := Aside0.mk A340
              clear A340
              replace H := Option.bind_eq_some_iff.mp H
              obtain ⟨⟨t553, t554⟩, A350, H⟩ := H
              replace H : ((area_Cut.f k1 l0 x520000_1 x520001_1).bind fun bt557 => (if t520 = true then (if (t530.isNone == t548.isNone) = true then (if (t534.isNone == t552.isNone) = true then (if (t536.isNone == t554.isNone) = true then (if (t540.isNone == bt557.2.isNone) = true then ((paviorref09_Same.f k1 t527 t545).bind fun t561 => (if t561 = true then ((paviorref09_Same.f k1 t531 t549).bind fun t562 => (if t562 = true then ((paviorref09_Same.f k1 t535 t553).bind fun t563 => (if t563 = true then ((paviorref09_Same.f k1 t539 bt557.1).bind fun t564 => (some t564)) else (none))) else (none))) else (none))) else (none)) else (none)) else (none)) else (none)) else (none))) = some r := H
              have A35 := Aside0.mk A350
              clear A350
              replace H := Option.bind_eq_some_iff.mp H
              obtain ⟨⟨t557, t558⟩, A360, H⟩ := H
              replace H : (if t520 = true then (if (t530.isNone == t548.isNone) = true then (if (t534.isNone == t552.isNone) = true then (if (t536.isNone == t554.isNone) = true then (if (t540.isNone == t558.isNone) = true then ((paviorref09_Same.f k1 t527 t545).bind fun t561 => (if t561 = true then ((paviorref09_Same.f k1 t531 t549).bind fun t562 => (if t562 = true then ((paviorref09_Same.f k1 t535 t553).bind fun t563 => (if t563 = true then ((paviorref09_Same.f k1 t539 t557).bind fun t564 => (some t564)) else (none))) else (none))) else (none))) else (none)) else (none)) else (none)) else (none)) else (none)) = some r := H
              have A36 := Aside0.mk A360
              clear A360
              by_cases c37 : t520 = true
              · subst c37
                have H1 : (if (t530.isNone == t548.isNone) = true then (if (t534.isNone == t552.isNone) = true then (if (t536.isNone == t554.isNone) = true then (if (t540.isNone == t558.isNone) = true then ((paviorref09_Same.f k1 t527 t545).bind fun t561 => (if t561 = true then ((paviorref09_Same.f k1 t531 t549).bind fun t562 => (if t562 = true then ((paviorref09_Same.f k1 t535 t553).bind fun t563 => (if t563 = true then ((paviorref09_Same.f k1 t539 t557).bind fun t564 => (some t564)) else (none))) else (none))) else (none))) else (none)) else (none)) else (none)) else (none)) = some r := by rw [if_pos rfl] at H; exact H
                clear H
                have H := H1
                clear H1
                by_cases c38 : (t530.isNone == t548.isNone) = true
                · rw [if_pos c38] at H
                  have c38b0 : (t530.isNone == t548.isNone) = true := c38
                  (try (have c38b1 : decide (t530.isNone = t548.isNone) = true := by simpa using c38))
                  (try (have c38b2 : (t530.isNone == t548.isNone) = true := by simpa using c38))
                  clear c38
                  by_cases c39 : (t534.isNone == t552.isNone) = true
                  · rw [if_pos c39] at H
                    have c39b0 : (t534.isNone == t552.isNone) = true := c39
                    (try (have c39b1 : decide (t534.isNone = t552.isNone) = true := by simpa using c39))
                    (try (have c39b2 : (t534.isNone == t552.isNone) = true := by simpa using c39))
                    clear c39
                    by_cases c40 : (t536.isNone == t554.isNone) = true
                    · rw [if_pos c40] at H
                      have c40b0 : (t536.isNone == t554.isNone) = true := c40
                      (try (have c40b1 : decide (t536.isNone = t554.isNone) = true := by simpa using c40))
                      (try (have c40b2 : (t536.isNone == t554.isNone) = true := by simpa using c40))
                      clear c40
                      by_cases c41 : (t540.isNone == t558.isNone) = true
                      · rw [if_pos c41] at H
                        have c41b0 : (t540.isNone == t558.isNone) = true := c41
                        (try (have c41b1 : decide (t540.isNone = t558.isNone) = true := by simpa using c41))
                        (try (have c41b2 : (t540.isNone == t558.isNone) = true := by simpa using c41))
                        clear c41
                        replace H := Option.bind_eq_some_iff.mp H
                        obtain ⟨t561, A420, H⟩ := H
                        replace H : (if t561 = true then ((paviorref09_Same.f k1 t531 t549).bind fun t562 => (if t562 = true then ((paviorref09_Same.f k1 t535 t553).bind fun t563 => (if t563 = true then ((paviorref09_Same.f k1 t539 t557).bind fun t564 => (some t564)) else (none))) else (none))) else (none)) = some r := H
                        have A42 := Aside0.mk A420
                        clear A420
                        by_cases c43 : t561 = true
                        · subst c43
                          have H1 : ((paviorref09_Same.f k1 t531 t549).bind fun t562 => (if t562 = true then ((paviorref09_Same.f k1 t535 t553).bind fun t563 => (if t563 = true then ((paviorref09_Same.f k1 t539 t557).bind fun t564 => (some t564)) else (none))) else (none))) = some r := by rw [if_pos rfl] at H; exact H
                          clear H
                          have H := H1
                          clear H1
                          replace H := Option.bind_eq_some_iff.mp H
                          obtain ⟨t562, A440, H⟩ := H
                          replace H : (if t562 = true then ((paviorref09_Same.f k1 t535 t553).bind fun t563 => (if t563 = true then ((paviorref09_Same.f k1 t539 t557).bind fun t564 => (some t564)) else (none))) else (none)) = some r := H
                          have A44 := Aside0.mk A440
                          clear A440
                          by_cases c45 : t562 = true
                          · subst c45
                            have H1 : ((paviorref09_Same.f k1 t535 t553).bind fun t563 => (if t563 = true then ((paviorref09_Same.f k1 t539 t557).bind fun t564 => (some t564)) else (none))) = some r := by rw [if_pos rfl] at H; exact H
                            clear H
                            have H := H1
                            clear H1
                            replace H := Option.bind_eq_some_iff.mp H
                            obtain ⟨t563, A460, H⟩ := H
                            replace H : (if t563 = true then ((paviorref09_Same.f k1 t539 t557).bind fun t564 => (some t564)) else (none)) = some r := H
                            have A46 := Aside0.mk A460
                            clear A460
                            by_cases c47 : t563 = true
                            · subst c47
                              have H1 : ((paviorref09_Same.f k1 t539 t557).bind fun t564 => (some t564)) = some r := by rw [if_pos rfl] at H; exact H
                              clear H
                              have H := H1
                              clear H1
                              replace H := Option.bind_eq_some_iff.mp H
                              obtain ⟨t564, A480, H⟩ := H
                              replace H : (some t564) = some r := H
                              have A48 := Aside0.mk A480
                              clear A480
                              obtain rfl := Option.some.inj H
                              have hcz49_0 : wr.cell? ⟨gb519, 0, none⟩ = some (.int .i64 x520000_1) := (blk_cell BK519.out 0).trans rfl
                              have hcz49_1 : wr.cell? ⟨gb519, 1, none⟩ = some (.int .i64 x520001_1) := (blk_cell BK519.out 1).trans rfl
                              have hcz49_2 : wr.cell? ⟨gb519, 2, none⟩ = some (.bool x520002_1) := (blk_cell BK519.out 2).trans rfl
                              have hcz49_3 : wr.cell? ⟨gb519, 3, none⟩ = some (.bool x520003_1) := (blk_cell BK519.out 3).trans rfl
                              have hcz49_4 : wr.cell? ⟨gb519, 4, none⟩ = some (.bool x520004_1) := (blk_cell BK519.out 4).trans rfl
                              have hfz49_0 := blk_frozen BK519.out 0
                              have hfz49_1 := blk_frozen BK519.out 1
                              have hfz49_2 := blk_frozen BK519.out 2
                              have hfz49_3 := blk_frozen BK519.out 3
                              have hfz49_4 := blk_frozen BK519.out 4
                              try go_wp2_with (first | ((with_reducible refine gate_callee (f := 15) rfl ?_); refine goesL_ (some 86) rfl rfl Try.func15 (by kernel_rfl) rfl #[.slice A0 l0.length c0, .agg #[.int .i64 x520000_1, .int .i64 x520001_1, .bool x520002_1, .bool x520003_1, .bool x520004_1]] rfl (by (try simp only [List.map_toArray, List.map_cons, List.map_nil]); first | done | rfl | (simp only [List.length_drop, List.length_take]; rfl)) ?_; (with_reducible refine (area_Lay.calls k1 _ _ l0 x520000_1 x520001_1 x520002_1 x520003_1 x520004_1 t545 t548 _ ?side1 ?side2 A33.out).mono ?_); (case side1 => repeat (first | exact (Kd.C_below HR0.out HB.out) | (with_reducible refine Kd.C_alloc ?_ _) | (with_reducible refine Kd.C_drewN ?_ _) | (with_reducible refine Kd.C_drew ?_))); (case side2 => exact HC0.out); rintro e w50 ⟨v546, rfl, ho0, hb⟩; refine ⟨_, rfl, ?_⟩; have n0_ := Aside0.mk (Kd.R_elder' (by (with_reducible repeat (first | apply Kd.R_alloc | apply Kd.R_drewN | apply Kd.R_drew)); exact HO_6.out) (Kd.R_base ho0) hb); have n1_ := Aside0.mk (Kd.R_elder' (by (with_reducible repeat (first | apply Kd.R_alloc | apply Kd.R_drewN | apply Kd.R_drew)); exact HO_7.out) (Kd.R_base ho0) hb); have n2_ := Aside0.mk (Kd.R_elder' (by (with_reducible repeat (first | apply Kd.R_alloc | apply Kd.R_drewN | apply Kd.R_drew)); exact HO_9.out) (Kd.R_base ho0) hb); have n3_ := Aside0.mk (Kd.R_elder' (by (with_reducible repeat (first | apply Kd.R_alloc | apply Kd.R_drewN | apply Kd.R_drew)); exact HO_11.out) (Kd.R_base ho0) hb); have n4_ := Aside0.mk (Kd.R_elder' (by (with_reducible repeat (first | apply Kd.R_alloc | apply Kd.R_drewN | apply Kd.R_drew)); exact HO_13.out) (Kd.R_base ho0) hb); have n5_ := Aside0.mk (Kd.R_lower (Kd.R_newB (Kd.R_new' (Kd.R_new' (Kd.R_new' (Kd.R_new' (Kd.R_new' ho0 (Kd.R_lt (by (with_reducible repeat (first | apply Kd.R_alloc | apply Kd.R_drewN | apply Kd.R_drew)); exact HO_6.out))) (Kd.R_lt (by (with_reducible repeat (first | apply Kd.R_alloc | apply Kd.R_drewN | apply Kd.R_drew)); exact HO_7.out))) (Kd.R_lt (by (with_reducible repeat (first | apply Kd.R_alloc | apply Kd.R_drewN | apply Kd.R_drew)); exact HO_9.out))) (Kd.R_lt (by (with_reducible repeat (first | apply Kd.R_alloc | apply Kd.R_drewN | apply Kd.R_drew)); exact HO_11.out))) (Kd.R_lt (by (with_reducible repeat (first | apply Kd.R_alloc | apply Kd.R_drewN | apply Kd.R_drew)); exact HO_13.out))) (g := gb519) (o := .cells #[.int .i64 x520000_1, .int .i64 x520001_1, .bool x520002_1, .bool x520003_1, .bool x520004_1] 32 (0, 0)) (by (with_reducible repeat (first | refine blk_drewN ?_ _ | refine blk_drew ?_ | refine blk_alloc ?_ _)); exact BK519.out)) (below_size (by repeat (first | (with_reducible first | exact HB.out | apply below_alloc | apply pw_below_drewN | apply below_drew1 | refine below_set ?_ GE519.out) | exact HB.out)))); have n6_ := Aside0.mk (blk_below (g := gb519) (o := .cells #[.int .i64 x520000_1, .int .i64 x520001_1, .bool x520002_1, .bool x520003_1, .bool x520004_1] 32 (0, 0)) (by (with_reducible repeat (first | refine blk_drewN ?_ _ | refine blk_drew ?_ | refine blk_alloc ?_ _)); exact BK519.out) hb); have n7_ := Aside0.mk (below_step (by repeat (first | (with_reducible first | exact HB.out | apply below_alloc | apply pw_below_drewN | apply below_drew1 | refine below_set ?_ GE519.out) | exact HB.out)) hb); clear HO_6; clear HO_7; clear HO_9; clear HO_11; clear HO_13; clear BK519; clear HB; have HO_6 := n0_; have HO_7 := n1_; have HO_9 := n2_; have HO_11 := n3_; have HO_13 := n4_; have HO547 := n5_; have BK519 := n6_; have HB := n7_; clear n0_ n1_ n2_ n3_ n4_ n5_ n6_ n7_; (try clear hb); (try clear hb2); (try clear hk); (try clear hi); (try clear ho0); (try simp only [errW_none, errW_some]); have hcz51_0 : w50.cell? ⟨gb519, 0, none⟩ = some (.int .i64 x520000_1) := (blk_cell BK519.out 0).trans rfl; have hcz51_1 : w50.cell? ⟨gb519, 1, none⟩ = some (.int .i64 x520001_1) := (blk_cell BK519.out 1).trans rfl; have hcz51_2 : w50.cell? ⟨gb519, 2, none⟩ = some (.bool x520002_1) := (blk_cell BK519.out 2).trans rfl; have hcz51_3 : w50.cell? ⟨gb519, 3, none⟩ = some (.bool x520003_1) := (blk_cell BK519.out 3).trans rfl; have hcz51_4 : w50.cell? ⟨gb519, 4, none⟩ = some (.bool x520004_1) := (blk_cell BK519.out 4).trans rfl; have hfz51_0 := blk_frozen BK519.out 0; have hfz51_1 := blk_frozen BK519.out 1; have hfz51_2 := blk_frozen BK519.out 2; have hfz51_3 := blk_frozen BK519.out 3; have hfz51_4 := blk_frozen BK519.out 4) | ((with_reducible refine gate_callee (f := 26) rfl ?_); refine goesL_ (some 97) rfl rfl Try.func26 (by kernel_rfl) rfl #[.slice A0 l0.length c0, .int .i64 x520000_1, .int .i64 x520001_1, .agg #[.bool x520002_1, .bool x520003_1]] rfl (by (try simp only [List.map_toArray, List.map_cons, List.map_nil]); first | done | rfl | (simp only [List.length_drop, List.length_take]; rfl)) ?_; (with_reducible refine (area_Change.calls k1 _ _ l0 x520000_1 x520001_1 x520002_1 x520003_1 t549 t552 _ ?side1 ?side2 A34.out).mono ?_); (case side1 => repeat (first | exact (Kd.C_below HR0.out HB.out) | (with_reducible refine Kd.C_alloc ?_ _) | (with_reducible refine Kd.C_drewN ?_ _) | (with_reducible refine Kd.C_drew ?_))); (case side2 => exact HC0.out); rintro e w52 ⟨v550, rfl, ho0, hb⟩; refine ⟨_, rfl, ?_⟩; have n0_ := Aside0.mk (Kd.R_elder' (by (with_reducible repeat (first | apply Kd.R_alloc | apply Kd.R_drewN | apply Kd.R_drew)); exact HO_6.out) (Kd.R_base ho0) hb); have n1_ := Aside0.mk (Kd.R_elder' (by (with_reducible repeat (first | apply Kd.R_alloc | apply Kd.R_drewN | apply Kd.R_drew)); exact HO_7.out) (Kd.R_base ho0) hb); have n2_ := Aside0.mk (Kd.R_elder' (by (with_reducible repeat (first | apply Kd.R_alloc | apply Kd.R_drewN | apply Kd.R_drew)); exact HO_9.out) (Kd.R_base ho0) hb); have n3_ := Aside0.mk (Kd.R_elder' (by (with_reducible repeat (first | apply Kd.R_alloc | apply Kd.R_drewN | apply Kd.R_drew)); exact HO_11.out) (Kd.R_base ho0) hb); have n4_ := Aside0.mk (Kd.R_elder' (by (with_reducible repeat (first | apply Kd.R_alloc | apply Kd.R_drewN | apply Kd.R_drew)); exact HO_13.out) (Kd.R_base ho0) hb); have n5_ := Aside0.mk (Kd.R_elder' (by (with_reducible repeat (first | apply Kd.R_alloc | apply Kd.R_drewN | apply Kd.R_drew)); exact HO547.out) (Kd.R_base ho0) hb); have n6_ := Aside0.mk (Kd.R_lower (Kd.R_newB (Kd.R_new' (Kd.R_new' (Kd.R_new' (Kd.R_new' (Kd.R_new' (Kd.R_new' ho0 (Kd.R_lt (by (with_reducible repeat (first | apply Kd.R_alloc | apply Kd.R_drewN | apply Kd.R_drew)); exact HO_6.out))) (Kd.R_lt (by (with_reducible repeat (first | apply Kd.R_alloc | apply Kd.R_drewN | apply Kd.R_drew)); exact HO_7.out))) (Kd.R_lt (by (with_reducible repeat (first | apply Kd.R_alloc | apply Kd.R_drewN | apply Kd.R_drew)); exact HO_9.out))) (Kd.R_lt (by (with_reducible repeat (first | apply Kd.R_alloc | apply Kd.R_drewN | apply Kd.R_drew)); exact HO_11.out))) (Kd.R_lt (by (with_reducible repeat (first | apply Kd.R_alloc | apply Kd.R_drewN | apply Kd.R_drew)); exact HO_13.out))) (Kd.R_lt (by (with_reducible repeat (first | apply Kd.R_alloc | apply Kd.R_drewN | apply Kd.R_drew)); exact HO547.out))) (g := gb519) (o := .cells #[.int .i64 x520000_1, .int .i64 x520001_1, .bool x520002_1, .bool x520003_1, .bool x520004_1] 32 (0, 0)) (by (with_reducible repeat (first | refine blk_drewN ?_ _ | refine blk_drew ?_ | refine blk_alloc ?_ _)); exact BK519.out)) (below_size (by repeat (first | (with_reducible first | exact HB.out | apply below_alloc | apply pw_below_drewN | apply below_drew1 | refine below_set ?_ GE519.out) | exact HB.out)))); have n7_ := Aside0.mk (blk_below (g := gb519) (o := .cells #[.int .i64 x520000_1, .int .i64 x520001_1, .bool x520002_1, .bool x520003_1, .bool x520004_1] 32 (0, 0)) (by (with_reducible repeat (first | refine blk_drewN ?_ _ | refine blk_drew ?_ | refine blk_alloc ?_ _)); exact BK519.out) hb); have n8_ := Aside0.mk (below_step (by repeat (first | (with_reducible first | exact HB.out | apply below_alloc | apply pw_below_drewN | apply below_drew1 | refine below_set ?_ GE519.out) | exact HB.out)) hb); clear HO_6; clear HO_7; clear HO_9; clear HO_11; clear HO_13; clear HO547; clear BK519; clear HB; have HO_6 := n0_; have HO_7 := n1_; have HO_9 := n2_; have HO_11 := n3_; have HO_13 := n4_; have HO547 := n5_; have HO551 := n6_; have BK519 := n7_; have HB := n8_; clear n0_ n1_ n2_ n3_ n4_ n5_ n6_ n7_ n8_; (try clear hb); (try clear hb2); (try clear hk); (try clear hi); (try clear ho0); (try simp only [errW_none, errW_some]); have hcz53_0 : w52.cell? ⟨gb519, 0, none⟩ = some (.int .i64 x520000_1) := (blk_cell BK519.out 0).trans rfl; have hcz53_1 : w52.cell? ⟨gb519, 1, none⟩ = some (.int .i64 x520001_1) := (blk_cell BK519.out 1).trans rfl; have hcz53_2 : w52.cell? ⟨gb519, 2, none⟩ = some (.bool x520002_1) := (blk_cell BK519.out 2).trans rfl; have hcz53_3 : w52.cell? ⟨gb519, 3, none⟩ = some (.bool x520003_1) := (blk_cell BK519.out 3).trans rfl; have hcz53_4 : w52.cell? ⟨gb519, 4, none⟩ = some (.bool x520004_1) := (blk_cell BK519.out 4).trans rfl; have hfz53_0 := blk_frozen BK519.out 0; have hfz53_1 := blk_frozen BK519.out 1; have hfz53_2 := blk_frozen BK519.out 2; have hfz53_3 := blk_frozen BK519.out 3; have hfz53_4 := blk_frozen BK519.out 4) | ((with_reducible refine gate_callee (f := 27) rfl ?_); refine goesL_ (some 108) rfl rfl Try.func27 (by kernel_rfl) rfl #[.slice A0 l0.length c0, .int .i64 x520000_1, .int .i64 x520001_1, .bool x520004_1] rfl (by (try simp only [List.map_toArray, List.map_cons, List.map_nil]); first | done | rfl | (simp only [List.length_drop, List.length_take]; rfl)) ?_; (with_reducible refine (area_Advise.calls k1 _ _ l0 x520000_1 x520001_1 x520004_1 t553 t554 _ ?side1 ?side2 A35.out).mono ?_); (case side1 => repeat (first | exact (Kd.C_below HR0.out HB.out) | (with_reducible refine Kd.C_alloc ?_ _) | (with_reducible refine Kd.C_drewN ?_ _) | (with_reducible refine Kd.C_drew ?_))); (case side2 => exact HC0.out); rintro e w54 ⟨v555, rfl, ho0, hb⟩; refine ⟨_, rfl, ?_⟩; have n0_ := Aside0.mk (Kd.R_elder' (by (with_reducible repeat (first | apply Kd.R_alloc | apply Kd.R_drewN | apply Kd.R_drew)); exact HO_6.out) (Kd.R_base ho0) hb); have n1_ := Aside0.mk (Kd.R_elder' (by (with_reducible repeat (first | apply Kd.R_alloc | apply Kd.R_drewN | apply Kd.R_drew)); exact HO_7.out) (Kd.R_base ho0) hb); have n2_ := Aside0.mk (Kd.R_elder' (by (with_reducible repeat (first | apply Kd.R_alloc | apply Kd.R_drewN | apply Kd.R_drew)); exact HO_9.out) (Kd.R_base ho0) hb); have n3_ := Aside0.mk (Kd.R_elder' (by (with_reducible repeat (first | apply Kd.R_alloc | apply Kd.R_drewN | apply Kd.R_drew)); exact HO_11.out) (Kd.R_base ho0) hb); have n4_ := Aside0.mk (Kd.R_elder' (by (with_reducible repeat (first | apply Kd.R_alloc | apply Kd.R_drewN | apply Kd.R_drew)); exact HO_13.out) (Kd.R_base ho0) hb); have n5_ := Aside0.mk (Kd.R_elder' (by (with_reducible repeat (first | apply Kd.R_alloc | apply Kd.R_drewN | apply Kd.R_drew)); exact HO547.out) (Kd.R_base ho0) hb); have n6_ := Aside0.mk (Kd.R_elder' (by (with_reducible repeat (first | apply Kd.R_alloc | apply Kd.R_drewN | apply Kd.R_drew)); exact HO551.out) (Kd.R_base ho0) hb); have n7_ := Aside0.mk (Kd.R_lower (Kd.R_newB (Kd.R_new' (Kd.R_new' (Kd.R_new' (Kd.R_new' (Kd.R_new' (Kd.R_new' (Kd.R_new' ho0 (Kd.R_lt (by (with_reducible repeat (first | apply Kd.R_alloc | apply Kd.R_drewN | apply Kd.R_drew)); exact HO_6.out))) (Kd.R_lt (by (with_reducible repeat (first | apply Kd.R_alloc | apply Kd.R_drewN | apply Kd.R_drew)); exact HO_7.out))) (Kd.R_lt (by (with_reducible repeat (first | apply Kd.R_alloc | apply Kd.R_drewN | apply Kd.R_drew)); exact HO_9.out))) (Kd.R_lt (by (with_reducible repeat (first | apply Kd.R_alloc | apply Kd.R_drewN | apply Kd.R_drew)); exact HO_11.out))) (Kd.R_lt (by (with_reducible repeat (first | apply Kd.R_alloc | apply Kd.R_drewN | apply Kd.R_drew)); exact HO_13.out))) (Kd.R_lt (by (with_reducible repeat (first | apply Kd.R_alloc | apply Kd.R_drewN | apply Kd.R_drew)); exact HO547.out))) (Kd.R_lt (by (with_reducible repeat (first | apply Kd.R_alloc | apply Kd.R_drewN | apply Kd.R_drew)); exact HO551.out))) (g := gb519) (o := .cells #[.int .i64 x520000_1, .int .i64 x520001_1, .bool x520002_1, .bool x520003_1, .bool x520004_1] 32 (0, 0)) (by (with_reducible repeat (first | refine blk_drewN ?_ _ | refine blk_drew ?_ | refine blk_alloc ?_ _)); exact BK519.out)) (below_size (by repeat (first | (with_reducible first | exact HB.out | apply below_alloc | apply pw_below_drewN | apply below_drew1 | refine below_set ?_ GE519.out) | exact HB.out)))); have n8_ := Aside0.mk (blk_below (g := gb519) (o := .cells #[.int .i64 x520000_1, .int .i64 x520001_1, .bool x520002_1, .bool x520003_1, .bool x520004_1] 32 (0, 0)) (by (with_reducible repeat (first | refine blk_drewN ?_ _ | refine blk_drew ?_ | refine blk_alloc ?_ _)); exact BK519.out) hb); have n9_ := Aside0.mk (below_step (by repeat (first | (with_reducible first | exact HB.out | apply below_alloc | apply pw_below_drewN | apply below_drew1 | refine below_set ?_ GE519.out) | exact HB.out)) hb); clear HO_6; clear HO_7; clear HO_9; clear HO_11; clear HO_13; clear HO547; clear HO551; clear BK519; clear HB; have HO_6 := n0_; have HO_7 := n1_; have HO_9 := n2_; have HO_11 := n3_; have HO_13 := n4_; have HO547 := n5_; have HO551 := n6_; have HO556 := n7_; have BK519 := n8_; have HB := n9_; clear n0_ n1_ n2_ n3_ n4_ n5_ n6_ n7_ n8_ n9_; (try clear hb); (try clear hb2); (try clear hk); (try clear hi); (try clear ho0); (try simp only [errW_none, errW_some]); have hcz55_0 : w54.cell? ⟨gb519, 0, none⟩ = some (.int .i64 x520000_1) := (blk_cell BK519.out 0).trans rfl; have hcz55_1 : w54.cell? ⟨gb519, 1, none⟩ = some (.int .i64 x520001_1) := (blk_cell BK519.out 1).trans rfl; have hcz55_2 : w54.cell? ⟨gb519, 2, none⟩ = some (.bool x520002_1) := (blk_cell BK519.out 2).trans rfl; have hcz55_3 : w54.cell? ⟨gb519, 3, none⟩ = some (.bool x520003_1) := (blk_cell BK519.out 3).trans rfl; have hcz55_4 : w54.cell? ⟨gb519, 4, none⟩ = some (.bool x520004_1) := (blk_cell BK519.out 4).trans rfl; have hfz55_0 := blk_frozen BK519.out 0; have hfz55_1 := blk_frozen BK519.out 1; have hfz55_2 := blk_frozen BK519.out 2; have hfz55_3 := blk_frozen BK519.out 3; have hfz55_4 := blk_frozen BK519.out 4) | ((with_reducible refine gate_callee (f := 16) rfl ?_); refine goesL_ (some 117) rfl rfl Try.func16 (by kernel_rfl) rfl #[.slice A0 l0.length c0, .int .i64 x520000_1, .int .i64 x520001_1] rfl (by (try simp only [List.map_toArray, List.map_cons, List.map_nil]); first | done | rfl | (simp only [List.length_drop, List.length_take]; rfl)) ?_; (with_reducible refine (area_Cut.calls k1 _ _ l0 x520000_1 x520001_1 t557 t558 _ ?side1 ?side2 A36.out).mono ?_); (case side1 => repeat (first | exact (Kd.C_below HR0.out HB.out) | (with_reducible refine Kd.C_alloc ?_ _) | (with_reducible refine Kd.C_drewN ?_ _) | (with_reducible refine Kd.C_drew ?_))); (case side2 => exact HC0.out); rintro e w56 ⟨v559, rfl, ho0, hb⟩; refine ⟨_, rfl, ?_⟩; have n0_ := Aside0.mk (Kd.R_elder' (by (with_reducible repeat (first | apply Kd.R_alloc | apply Kd.R_drewN | apply Kd.R_drew)); exact HO_6.out) (Kd.R_base ho0) hb); have n1_ := Aside0.mk (Kd.R_elder' (by (with_reducible repeat (first | apply Kd.R_alloc | apply Kd.R_drewN | apply Kd.R_drew)); exact HO_7.out) (Kd.R_base ho0) hb); have n2_ := Aside0.mk (Kd.R_elder' (by (with_reducible repeat (first | apply Kd.R_alloc | apply Kd.R_drewN | apply Kd.R_drew)); exact HO_9.out) (Kd.R_base ho0) hb); have n3_ := Aside0.mk (Kd.R_elder' (by (with_reducible repeat (first | apply Kd.R_alloc | apply Kd.R_drewN | apply Kd.R_drew)); exact HO_11.out) (Kd.R_base ho0) hb); have n4_ := Aside0.mk (Kd.R_elder' (by (with_reducible repeat (first | apply Kd.R_alloc | apply Kd.R_drewN | apply Kd.R_drew)); exact HO_13.out) (Kd.R_base ho0) hb); have n5_ := Aside0.mk (Kd.R_elder' (by (with_reducible repeat (first | apply Kd.R_alloc | apply Kd.R_drewN | apply Kd.R_drew)); exact HO547.out) (Kd.R_base ho0) hb); have n6_ := Aside0.mk (Kd.R_elder' (by (with_reducible repeat (first | apply Kd.R_alloc | apply Kd.R_drewN | apply Kd.R_drew)); exact HO551.out) (Kd.R_base ho0) hb); have n7_ := Aside0.mk (Kd.R_elder' (by (with_reducible repeat (first | apply Kd.R_alloc | apply Kd.R_drewN | apply Kd.R_drew)); exact HO556.out) (Kd.R_base ho0) hb); have n8_ := Aside0.mk (Kd.R_lower (Kd.R_newB (Kd.R_new' (Kd.R_new' (Kd.R_new' (Kd.R_new' (Kd.R_new' (Kd.R_new' (Kd.R_new' (Kd.R_new' ho0 (Kd.R_lt (by (with_reducible repeat (first | apply Kd.R_alloc | apply Kd.R_drewN | apply Kd.R_drew)); exact HO_6.out))) (Kd.R_lt (by (with_reducible repeat (first | apply Kd.R_alloc | apply Kd.R_drewN | apply Kd.R_drew)); exact HO_7.out))) (Kd.R_lt (by (with_reducible repeat (first | apply Kd.R_alloc | apply Kd.R_drewN | apply Kd.R_drew)); exact HO_9.out))) (Kd.R_lt (by (with_reducible repeat (first | apply Kd.R_alloc | apply Kd.R_drewN | apply Kd.R_drew)); exact HO_11.out))) (Kd.R_lt (by (with_reducible repeat (first | apply Kd.R_alloc | apply Kd.R_drewN | apply Kd.R_drew)); exact HO_13.out))) (Kd.R_lt (by (with_reducible repeat (first | apply Kd.R_alloc | apply Kd.R_drewN | apply Kd.R_drew)); exact HO547.out))) (Kd.R_lt (by (with_reducible repeat (first | apply Kd.R_alloc | apply Kd.R_drewN | apply Kd.R_drew)); exact HO551.out))) (Kd.R_lt (by (with_reducible repeat (first | apply Kd.R_alloc | apply Kd.R_drewN | apply Kd.R_drew)); exact HO556.out))) (g := gb519) (o := .cells #[.int .i64 x520000_1, .int .i64 x520001_1, .bool x520002_1, .bool x520003_1, .bool x520004_1] 32 (0, 0)) (by (with_reducible repeat (first | refine blk_drewN ?_ _ | refine blk_drew ?_ | refine blk_alloc ?_ _)); exact BK519.out)) (below_size (by repeat (first | (with_reducible first | exact HB.out | apply below_alloc | apply pw_below_drewN | apply below_drew1 | refine below_set ?_ GE519.out) | exact HB.out)))); have n9_ := Aside0.mk (blk_below (g := gb519) (o := .cells #[.int .i64 x520000_1, .int .i64 x520001_1, .bool x520002_1, .bool x520003_1, .bool x520004_1] 32 (0, 0)) (by (with_reducible repeat (first | refine blk_drewN ?_ _ | refine blk_drew ?_ | refine blk_alloc ?_ _)); exact BK519.out) hb); have n10_ := Aside0.mk (below_step (by repeat (first | (with_reducible first | exact HB.out | apply below_alloc | apply pw_below_drewN | apply below_drew1 | refine below_set ?_ GE519.out) | exact HB.out)) hb); clear HO_6; clear HO_7; clear HO_9; clear HO_11; clear HO_13; clear HO547; clear HO551; clear HO556; clear BK519; clear HB; have HO_6 := n0_; have HO_7 := n1_; have HO_9 := n2_; have HO_11 := n3_; have HO_13 := n4_; have HO547 := n5_; have HO551 := n6_; have HO556 := n7_; have HO560 := n8_; have BK519 := n9_; have HB := n10_; clear n0_ n1_ n2_ n3_ n4_ n5_ n6_ n7_ n8_ n9_ n10_; (try clear hb); (try clear hb2); (try clear hk); (try clear hi); (try clear ho0); (try simp only [errW_none, errW_some])))
                              have n0_ := Aside0.mk (Kd.R_drew HO_6.out)
                              have n1_ := Aside0.mk (Kd.R_drew HO_7.out)
                              have n2_ := Aside0.mk (Kd.R_drew HO_9.out)
                              have n3_ := Aside0.mk (Kd.R_drew HO_11.out)
                              have n4_ := Aside0.mk (Kd.R_drew HO_13.out)
                              have n5_ := Aside0.mk (Kd.R_drew HO547.out)
                              have n6_ := Aside0.mk (Kd.R_drew HO551.out)
                              have n7_ := Aside0.mk (Kd.R_drew HO556.out)
                              have n8_ := Aside0.mk (Kd.R_drew HO560.out)
                              have n9_ := Aside0.mk (blk_drew BK519.out)
                              have n10_ := Aside0.mk (below_drew1 HB.out)
                              clear HO_6
                              clear HO_7
                              clear HO_9
                              clear HO_11
                              clear HO_13
                              clear HO547
                              clear HO551
                              clear HO556
                              clear HO560
                              clear BK519
                              clear HB
                              have HO_6 := n0_
                              have HO_7 := n1_
                              have HO_9 := n2_
                              have HO_11 := n3_
                              have HO_13 := n4_
                              have HO547 := n5_
                              have HO551 := n6_
                              have HO556 := n7_
                              have HO560 := n8_
                              have BK519 := n9_
                              have HB := n10_
                              clear n0_ n1_ n2_ n3_ n4_ n5_ n6_ n7_ n8_ n9_ n10_
                              obtain ⟨Ao58, co58, eo58⟩ := Kd.R_slice HO_7.out
                              (first | subst eo58 | (injection eo58 with f1_ f2_ f3_; have f4_ := f1_.symm; have f5_ := f3_.symm; clear f1_ f2_ f3_; subst f4_; subst f5_))
                              obtain ⟨Ao59, co59, eo59⟩ := Kd.R_slice HO547.out
                              (first | subst eo59 | (injection eo59 with f1_ f2_ f3_; have f4_ := f1_.symm; have f5_ := f3_.symm; clear f1_ f2_ f3_; subst f4_; subst f5_))
                              refine start_ (n := 50) (S := fun w' => True) (ds := []) #[false, false, false, false, false, false, false, false, false, false, false, false, false, false, false, false, false, false, false, false, false, false, false, false, false, false, false, false, false, false, false, false, false, false, false, false, false, false, false, false, false, false, false, false, false, false, false, false, false, false] (by kernel_rfl) rfl rfl trivial (fun hHeld => ?_); refine with_tabW paviorlaw09_AreaStays.tab19 paviorlaw09_AreaStays.bits19 (fun HT_ HW_ => ?_)
                              generalize w56.drew = w57 at HO_6 HO_7 HO_9 HO_11 HO_13 HO547 HO551 HO556 HO560 BK519 HB hHeld ⊢
                              refine pure_ (i := 0) (N := some 120) (v := ?_) (a' := ?_) #[true, false, false, false, false, false, false, false, false, false, false, false, false, false, false, false, false, false, false, false, false, false, false, false, false, false, false, false, false, false, false, false, false, false, false, false, false, false, false, false, false, false, false, false, false, false, false, false, false, false] rfl rfl (any_of HT_.out (by kernel_rfl)) (fun _ _ _ h => h) (Or.inl ⟨by rfl, ?_⟩) ?_ ?_
                              rotate_left
                              · intro w'
                                go_simp
                                with_reducible rfl
                              rotate_left
                              · simp only [Act.put, List.setIfInBounds_toArray, List.set_cons_zero, List.set_cons_succ, i64_w, i32_w]
                                rfl
                              refine pure_ (i := 1) (N := some 121) (v := ?_) (a' := ?_) #[true, true, false, false, false, false, false, false, false, false, false, false, false, false, false, false, false, false, false, false, false, false, false, false, false, false, false, false, false, false, false, false, false, false, false, false, false, false, false, false, false, false, false, false, false, false, false, false, false, false] rfl rfl (any_of HT_.out (by kernel_rfl)) (fun _ _ _ h => h) (Or.inl ⟨by rfl, ?_⟩) ?_ ?_
                              rotate_left
                              · intro w'
                                go_simp
                                with_reducible rfl
                              rotate_left
                              · simp only [Act.put, List.setIfInBounds_toArray, List.set_cons_zero, List.set_cons_succ, i64_w, i32_w]
                                rfl
                              refine pure_ (i := 2) (N := some 122) (v := ?_) (a' := ?_) #[true, true, true, false, false, false, false, false, false, false, false, false, false, false, false, false, false, false, false, false, false, false, false, false, false, false, false, false, false, false, false, false, false, false, false, false, false, false, false, false, false, false, false, false, false, false, false, false, false, false] rfl rfl (any_of HT_.out (by kernel_rfl)) (fun _ _ _ h => h) (Or.inl ⟨by rfl, ?_⟩) ?_ ?_
                              rotate_left
                              · intro w'
                                go_simp
                                with_reducible rfl
                              rotate_left
                              · simp only [Act.put, List.setIfInBounds_toArray, List.set_cons_zero, List.set_cons_succ, i64_w, i32_w]
                                rfl
                              refine pure_ (i := 3) (N := some 123) (v := ?_) (a' := ?_) #[true, true, true, true, false, false, false, false, false, false, false, false, false, false, false, false, false, false, false, false, false, false, false, false, false, false, false, false, false, false, false, false, false, false, false, false, false, false, false, false, false, false, false, false, false, false, false, false, false, false] rfl rfl (any_of HT_.out (by kernel_rfl)) (fun _ _ _ h => h) (Or.inl ⟨by rfl, ?_⟩) ?_ ?_
                              rotate_left
                              · intro w'
                                go_simp
                                with_reducible rfl
                              rotate_left
                              · simp only [Act.put, List.setIfInBounds_toArray, List.set_cons_zero, List.set_cons_succ, i64_w, i32_w]
                                rfl
                              refine pure_ (i := 4) (N := some 124) (v := ?_) (a' := ?_) #[true, true, true, true, true, false, false, false, false, false, false, false, false, false, false, false, false, false, false, false, false, false, false, false, false, false, false, false, false, false, false, false, false, false, false, false, false, false, false, false, false, false, false, false, false, false, false, false, false, false] rfl rfl (any_of HT_.out (by kernel_rfl)) (fun _ _ _ h => h) (Or.inl ⟨by rfl, ?_⟩) ?_ ?_
                              rotate_left
                              · intro w'
                                go_simp
                                with_reducible rfl
                              rotate_left
                              · simp only [Act.put, List.setIfInBounds_toArray, List.set_cons_zero, List.set_cons_succ, i64_w, i32_w]
                                rfl
                              refine pure_ (i := 5) (N := some 125) (v := ?_) (a' := ?_) #[true, true, true, true, true, true, false, false, false, false, false, false, false, false, false, false, false, false, false, false, false, false, false, false, false, false, false, false, false, false, false, false, false, false, false, false, false, false, false, false, false, false, false, false, false, false, false, false, false, false] rfl rfl (any_of HT_.out (by kernel_rfl)) (fun _ _ _ h => h) (Or.inl ⟨by rfl, ?_⟩) ?_ ?_
                              rotate_left
                              · intro w'
                                go_simp
                                with_reducible rfl
                              rotate_left
                              · simp only [Act.put, List.setIfInBounds_toArray, List.set_cons_zero, List.set_cons_succ, i64_w, i32_w]
                                rfl
                              refine pure_ (i := 6) (N := some 126) (v := ?_) (a' := ?_) #[true, true, true, true, true, true, true, false, false, false, false, false, false, false, false, false, false, false, false, false, false, false, false, false, false, false, false, false, false, false, false, false, false, false, false, false, false, false, false, false, false, false, false, false, false, false, false, false, false, false] rfl rfl (any_of HT_.out (by kernel_rfl)) (fun _ _ _ h => h) (Or.inl ⟨by rfl, ?_⟩) ?_ ?_
                              rotate_left
                              · intro w'
                                go_simp
                                with_reducible rfl
                              rotate_left
                              · simp only [Act.put, List.setIfInBounds_toArray, List.set_cons_zero, List.set_cons_succ, i64_w, i32_w]
                                rfl
                              refine pure_ (i := 7) (N := some 127) (v := ?_) (a' := ?_) #[true, true, true, true, true, true, true, true, false, false, false, false, false, false, false, false, false, false, false, false, false, false, false, false, false, false, false, false, false, false, false, false, false, false, false, false, false, false, false, false, false, false, false, false, false, false, false, false, false, false] rfl rfl (any_of HT_.out (by kernel_rfl)) (fun _ _ _ h => h) (Or.inl ⟨by rfl, ?_⟩) ?_ ?_
                              rotate_left
                              · intro w'
                                go_simp
                                with_reducible rfl
                              rotate_left
                              · simp only [Act.put, List.setIfInBounds_toArray, List.set_cons_zero, List.set_cons_succ, i64_w, i32_w]
                                rfl
                              refine pure_ (i := 8) (N := some 128) (v := ?_) (a' := ?_) #[true, true, true, true, true, true, true, true, true, false, false, false, false, false, false, false, false, false, false, false, false, false, false, false, false, false, false, false, false, false, false, false, false, false, false, false, false, false, false, false, false, false, false, false, false, false, false, false, false, false] rfl rfl (any_of HT_.out (by kernel_rfl)) (fun _ _ _ h => h) (Or.inl ⟨by rfl, ?_⟩) ?_ ?_
                              rotate_left
                              · intro w'
                                go_simp
                                with_reducible rfl
                              rotate_left
                              · simp only [Act.put, List.setIfInBounds_toArray, List.set_cons_zero, List.set_cons_succ, i64_w, i32_w]
                                rfl
                              refine pure_ (i := 9) (N := some 129) (v := ?_) (a' := ?_) #[true, true, true, true, true, true, true, true, true, true, false, false, false, false, false, false, false, false, false, false, false, false, false, false, false, false, false, false, false, false, false, false, false, false, false, false, false, false, false, false, false, false, false, false, false, false, false, false, false, false] rfl rfl (any_of HT_.out (by kernel_rfl)) (fun _ _ _ h => h) (Or.inl ⟨by rfl, ?_⟩) ?_ ?_
                              rotate_left
                              · intro w'
                                go_simp
                                with_reducible rfl
                              rotate_left
                              · simp only [Act.put, List.setIfInBounds_toArray, List.set_cons_zero, List.set_cons_succ, i64_w, i32_w]
                                rfl
                              refine pure_ (i := 10) (N := some 130) (v := ?_) (a' := ?_) #[true, true, true, true, true, true, true, true, true, true, true, false, false, false, false, false, false, false, false, false, false, false, false, false, false, false, false, false, false, false, false, false, false, false, false, false, false, false, false, false, false, false, false, false, false, false, false, false, false, false] rfl rfl (any_of HT_.out (by kernel_rfl)) (fun _ _ _ h => h) (Or.inl ⟨by rfl, ?_⟩) ?_ ?_
                              rotate_left
                              · intro w'
                                go_simp
                                with_reducible rfl
                              rotate_left
                              · simp only [Act.put, List.setIfInBounds_toArray, List.set_cons_zero, List.set_cons_succ, i64_w, i32_w]
                                rfl
                              refine pure_ (i := 11) (N := some 131) (v := ?_) (a' := ?_) #[true, true, true, true, true, true, true, true, true, true, true, true, false, false, false, false, false, false, false, false, false, false, false, false, false, false, false, false, false, false, false, false, false, false, false, false, false, false, false, false, false, false, false, false, false, false, false, false, false, false] rfl rfl (any_of HT_.out (by kernel_rfl)) (fun _ _ _ h => h) (Or.inl ⟨by rfl, ?_⟩) ?_ ?_
                              rotate_left
                              · intro w'
                                go_simp
                                with_reducible rfl
                              rotate_left
                              · simp only [Act.put, List.setIfInBounds_toArray, List.set_cons_zero, List.set_cons_succ, i64_w, i32_w]
                                rfl
                              refine pure_ (i := 12) (N := some 132) (v := ?_) (a' := ?_) #[true, true, true, true, true, true, true, true, true, true, true, true, true, false, false, false, false, false, false, false, false, false, false, false, false, false, false, false, false, false, false, false, false, false, false, false, false, false, false, false, false, false, false, false, false, false, false, false, false, false] rfl rfl (any_of HT_.out (by kernel_rfl)) (fun _ _ _ h => h) (Or.inl ⟨by rfl, ?_⟩) ?_ ?_
                              rotate_left
                              · intro w'
                                go_simp
                                with_reducible rfl
                              rotate_left
                              · simp only [Act.put, List.setIfInBounds_toArray, List.set_cons_zero, List.set_cons_succ, i64_w, i32_w]
                                rfl
                              refine pure_ (i := 13) (N := some 133) (v := ?_) (a' := ?_) #[true, true, true, true, true, true, true, true, true, true, true, true, true, true, false, false, false, false, false, false, false, false, false, false, false, false, false, false, false, false, false, false, false, false, false, false, false, false, false, false, false, false, false, false, false, false, false, false, false, false] rfl rfl (any_of HT_.out (by kernel_rfl)) (fun _ _ _ h => h) (Or.inl ⟨by rfl, ?_⟩) ?_ ?_
                              rotate_left
                              · intro w'
                                go_simp
                                with_reducible rfl
                              rotate_left
                              · simp only [Act.put, List.setIfInBounds_toArray, List.set_cons_zero, List.set_cons_succ, i64_w, i32_w]
                                rfl
                              refine pure_ (i := 14) (N := some 134) (v := ?_) (a' := ?_) #[true, true, true, true, true, true, true, true, true, true, true, true, true, true, true, false, false, false, false, false, false, false, false, false, false, false, false, false, false, false, false, false, false, false, false, false, false, false, false, false, false, false, false, false, false, false, false, false, false, false] rfl rfl (any_of HT_.out (by kernel_rfl)) (fun _ _ _ h => h) (Or.inl ⟨by rfl, ?_⟩) ?_ ?_
                              rotate_left
                              · intro w'
                                go_simp
                                with_reducible rfl
                              rotate_left
                              · simp only [Act.put, List.setIfInBounds_toArray, List.set_cons_zero, List.set_cons_succ, i64_w, i32_w]
                                rfl
                              refine pure_ (i := 15) (N := some 135) (v := ?_) (a' := ?_) #[true, true, true, true, true, true, true, true, true, true, true, true, true, true, true, true, false, false, false, false, false, false, false, false, false, false, false, false, false, false, false, false, false, false, false, false, false, false, false, false, false, false, false, false, false, false, false, false, false, false] rfl rfl (any_of HT_.out (by kernel_rfl)) (fun _ _ _ h => h) (Or.inl ⟨by rfl, ?_⟩) ?_ ?_
                              rotate_left
                              · intro w'
                                go_simp
                                with_reducible rfl
                              rotate_left
                              · simp only [Act.put, List.setIfInBounds_toArray, List.set_cons_zero, List.set_cons_succ, i64_w, i32_w]
                                rfl
                              refine pure_ (i := 16) (N := some 136) (v := ?_) (a' := ?_) #[true, true, true, true, true, true, true, true, true, true, true, true, true, true, true, true, true, false, false, false, false, false, false, false, false, false, false, false, false, false, false, false, false, false, false, false, false, false, false, false, false, false, false, false, false, false, false, false, false, false] rfl rfl (any_of HT_.out (by kernel_rfl)) (fun _ _ _ h => h) (Or.inl ⟨by rfl, ?_⟩) ?_ ?_
                              rotate_left
                              · intro w'
                                go_simp
                                with_reducible rfl
                              rotate_left
                              · simp only [Act.put, List.setIfInBounds_toArray, List.set_cons_zero, List.set_cons_succ, i64_w, i32_w]
                                rfl
                              refine pure_ (i := 17) (N := some 137) (v := ?_) (a' := ?_) #[true, true, true, true, true, true, true, true, true, true, true, true, true, true, true, true, true, true, false, false, false, false, false, false, false, false, false, false, false, false, false, false, false, false, false, false, false, false, false, false, false, false, false, false, false, false, false, false, false, false] rfl rfl (any_of HT_.out (by kernel_rfl)) (fun _ _ _ h => h) (Or.inl ⟨by rfl, ?_⟩) ?_ ?_
                              rotate_left
                              · intro w'
                                go_simp
                                with_reducible rfl
                              rotate_left
                              · simp only [Act.put, List.setIfInBounds_toArray, List.set_cons_zero, List.set_cons_succ, i64_w, i32_w]
                                rfl
                              refine pure_ (i := 18) (N := some 138) (v := ?_) (a' := ?_) #[true, true, true, true, true, true, true, true, true, true, true, true, true, true, true, true, true, true, true, false, false, false, false, false, false, false, false, false, false, false, false, false, false, false, false, false, false, false, false, false, false, false, false, false, false, false, false, false, false, false] rfl rfl (any_of HT_.out (by kernel_rfl)) (fun _ _ _ h => h) (Or.inl ⟨by rfl, ?_⟩) ?_ ?_
                              rotate_left
                              · intro w'
                                go_simp
                                with_reducible rfl
                              rotate_left
                              · simp only [Act.put, List.setIfInBounds_toArray, List.set_cons_zero, List.set_cons_succ, i64_w, i32_w]
                                rfl
                              refine pure_ (i := 19) (N := some 139) (v := ?_) (a' := ?_) #[true, true, true, true, true, true, true, true, true, true, true, true, true, true, true, true, true, true, true, true, false, false, false, false, false, false, false, false, false, false, false, false, false, false, false, false, false, false, false, false, false, false, false, false, false, false, false, false, false, false] rfl rfl (any_of HT_.out (by kernel_rfl)) (fun _ _ _ h => h) (Or.inl ⟨by rfl, ?_⟩) ?_ ?_
                              rotate_left
                              · intro w'
                                go_simp
                                with_reducible rfl
                              rotate_left
                              · simp only [Act.put, List.setIfInBounds_toArray, List.set_cons_zero, List.set_cons_succ, i64_w, i32_w]
                                rfl
                              refine pure_ (i := 20) (N := some 140) (v := ?_) (a' := ?_) #[true, true, true, true, true, true, true, true, true, true, true, true, true, true, true, true, true, true, true, true, true, false, false, false, false, false, false, false, false, false, false, false, false, false, false, false, false, false, false, false, false, false, false, false, false, false, false, false, false, false] rfl rfl (any_of HT_.out (by kernel_rfl)) (fun _ _ _ h => h) (Or.inl ⟨by rfl, ?_⟩) ?_ ?_
                              rotate_left
                              · intro w'
                                go_simp
                                with_reducible rfl
                              rotate_left
                              · simp only [Act.put, List.setIfInBounds_toArray, List.set_cons_zero, List.set_cons_succ, i64_w, i32_w]
                                rfl
                              refine pure_ (i := 21) (N := some 141) (v := ?_) (a' := ?_) #[true, true, true, true, true, true, true, true, true, true, true, true, true, true, true, true, true, true, true, true, true, true, false, false, false, false, false, false, false, false, false, false, false, false, false, false, false, false, false, false, false, false, false, false, false, false, false, false, false, false] rfl rfl (any_of HT_.out (by kernel_rfl)) (fun _ _ _ h => h) (Or.inl ⟨by rfl, ?_⟩) ?_ ?_
                              rotate_left
                              · intro w'
                                go_simp
                                with_reducible rfl
                              rotate_left
                              · simp only [Act.put, List.setIfInBounds_toArray, List.set_cons_zero, List.set_cons_succ, i64_w, i32_w]
                                rfl
                              refine pure_ (i := 22) (N := some 142) (v := ?_) (a' := ?_) #[true, true, true, true, true, true, true, true, true, true, true, true, true, true, true, true, true, true, true, true, true, true, true, false, false, false, false, false, false, false, false, false, false, false, false, false, false, false, false, false, false, false, false, false, false, false, false, false, false, false] rfl rfl (any_of HT_.out (by kernel_rfl)) (fun _ _ _ h => h) (Or.inl ⟨by rfl, ?_⟩) ?_ ?_
                              rotate_left
                              · intro w'
                                go_simp
                                with_reducible rfl
                              rotate_left
                              · simp only [Act.put, List.setIfInBounds_toArray, List.set_cons_zero, List.set_cons_succ, i64_w, i32_w]
                                rfl
                              refine pure_ (i := 23) (N := some 143) (v := ?_) (a' := ?_) #[true, true, true, true, true, true, true, true, true, true, true, true, true, true, true, true, true, true, true, true, true, true, true, true, false, false, false, false, false, false, false, false, false, false, false, false, false, false, false, false, false, false, false, false, false, false, false, false, false, false] rfl rfl (any_of HT_.out (by kernel_rfl)) (fun _ _ _ h => h) (Or.inl ⟨by rfl, ?_⟩) ?_ ?_
                              rotate_left
                              · intro w'
                                go_simp
                                with_reducible rfl
                              rotate_left
                              · simp only [Act.put, List.setIfInBounds_toArray, List.set_cons_zero, List.set_cons_succ, i64_w, i32_w]
                                rfl
                              refine pure_ (i := 24) (N := some 144) (v := ?_) (a' := ?_) #[true, true, true, true, true, true, true, true, true, true, true, true, true, true, true, true, true, true, true, true, true, true, true, true, true, false, false, false, false, false, false, false, false, false, false, false, false, false, false, false, false, false, false, false, false, false, false, false, false, false] rfl rfl (any_of HT_.out (by kernel_rfl)) (fun _ _ _ h => h) (Or.inl ⟨by rfl, ?_⟩) ?_ ?_
                              rotate_left
                              · intro w'
                                go_simp
                                with_reducible rfl
                              rotate_left
                              · simp only [Act.put, List.setIfInBounds_toArray, List.set_cons_zero, List.set_cons_succ, i64_w, i32_w]
                                rfl
                              refine pure_ (i := 25) (N := some 145) (v := ?_) (a' := ?_) #[true, true, true, true, true, true, true, true, true, true, true, true, true, true, true, true, true, true, true, true, true, true, true, true, true, true, false, false, false, false, false, false, false, false, false, false, false, false, false, false, false, false, false, false, false, false, false, false, false, false] rfl rfl (any_of HT_.out (by kernel_rfl)) (fun _ _ _ h => h) (Or.inl ⟨by rfl, ?_⟩) ?_ ?_
                              rotate_left
                              · intro w'
                                go_simp
                                with_reducible rfl
                              rotate_left
                              · simp only [Act.put, List.setIfInBounds_toArray, List.set_cons_zero, List.set_cons_succ, i64_w, i32_w]
                                rfl
                              refine pure_ (i := 26) (N := some 146) (v := ?_) (a' := ?_) #[true, true, true, true, true, true, true, true, true, true, true, true, true, true, true, true, true, true, true, true, true, true, true, true, true, true, true, false, false, false, false, false, false, false, false, false, false, false, false, false, false, false, false, false, false, false, false, false, false, false] rfl rfl (any_of HT_.out (by kernel_rfl)) (fun _ _ _ h => h) (Or.inl ⟨by rfl, ?_⟩) ?_ ?_
                              rotate_left
                              · intro w'
                                go_simp
                                with_reducible rfl
                              rotate_left
                              · simp only [Act.put, List.setIfInBounds_toArray, List.set_cons_zero, List.set_cons_succ, i64_w, i32_w]
                                rfl
                              refine pure_ (i := 27) (N := some 147) (v := ?_) (a' := ?_) #[true, true, true, true, true, true, true, true, true, true, true, true, true, true, true, true, true, true, true, true, true, true, true, true, true, true, true, true, false, false, false, false, false, false, false, false, false, false, false, false, false, false, false, false, false, false, false, false, false, false] rfl rfl (any_of HT_.out (by kernel_rfl)) (fun _ _ _ h => h) (Or.inl ⟨by rfl, ?_⟩) ?_ ?_
                              rotate_left
                              · intro w'
                                go_simp
                                with_reducible rfl
                              rotate_left
                              · simp only [Act.put, List.setIfInBounds_toArray, List.set_cons_zero, List.set_cons_succ, i64_w, i32_w]
                                rfl
                              refine pure_ (i := 28) (N := some 148) (v := ?_) (a' := ?_) #[true, true, true, true, true, true, true, true, true, true, true, true, true, true, true, true, true, true, true, true, true, true, true, true, true, true, true, true, true, false, false, false, false, false, false, false, false, false, false, false, false, false, false, false, false, false, false, false, false, false] rfl rfl (any_of HT_.out (by kernel_rfl)) (fun _ _ _ h => h) (Or.inl ⟨by rfl, ?_⟩) ?_ ?_
                              rotate_left
                              · intro w'
                                go_simp
                                with_reducible rfl
                              rotate_left
                              · simp only [Act.put, List.setIfInBounds_toArray, List.set_cons_zero, List.set_cons_succ, i64_w, i32_w]
                                rfl
                              refine pure_ (i := 29) (N := some 149) (v := ?_) (a' := ?_) #[true, true, true, true, true, true, true, true, true, true, true, true, true, true, true, true, true, true, true, true, true, true, true, true, true, true, true, true, true, true, false, false, false, false, false, false, false, false, false, false, false, false, false, false, false, false, false, false, false, false] rfl rfl (any_of HT_.out (by kernel_rfl)) (fun _ _ _ h => h) (Or.inl ⟨by rfl, ?_⟩) ?_ ?_
                              rotate_left
                              · intro w'
                                go_simp
                                with_reducible rfl
                              rotate_left
                              · simp only [Act.put, List.setIfInBounds_toArray, List.set_cons_zero, List.set_cons_succ, i64_w, i32_w]
                                rfl
                              refine pure_ (i := 30) (N := some 150) (v := ?_) (a' := ?_) #[true, true, true, true, true, true, true, true, true, true, true, true, true, true, true, true, true, true, true, true, true, true, true, true, true, true, true, true, true, true, true, false, false, false, false, false, false, false, false, false, false, false, false, false, false, false, false, false, false, false] rfl rfl (any_of HT_.out (by kernel_rfl)) (fun _ _ _ h => h) (Or.inl ⟨by rfl, ?_⟩) ?_ ?_
                              rotate_left
                              · intro w'
                                go_simp
                                with_reducible rfl
                              rotate_left
                              · simp only [Act.put, List.setIfInBounds_toArray, List.set_cons_zero, List.set_cons_succ, i64_w, i32_w]
                                rfl
                              refine pure_ (i := 31) (N := some 151) (v := ?_) (a' := ?_) #[true, true, true, true, true, true, true, true, true, true, true, true, true, true, true, true, true, true, true, true, true, true, true, true, true, true, true, true, true, true, true, true, false, false, false, false, false, false, false, false, false, false, false, false, false, false, false, false, false, false] rfl rfl (any_of HT_.out (by kernel_rfl)) (fun _ _ _ h => h) (Or.inl ⟨by rfl, ?_⟩) ?_ ?_
                              rotate_left
                              · intro w'
                                go_simp
                                with_reducible rfl
                              rotate_left
                              · simp only [Act.put, List.setIfInBounds_toArray, List.set_cons_zero, List.set_cons_succ, i64_w, i32_w]
                                rfl
                              refine one_ (i := 32) (N := some 152) #[true, true, true, true, true, true, true, true, true, true, true, true, true, true, true, true, true, true, true, true, true, true, true, true, true, true, true, true, true, true, true, true, true, false, false, false, false, false, false, false, false, false, false, false, false, false, false, false, false, false] rfl rfl (one_of HT_.out (by kernel_rfl)) (by decide) (fun K hK => ?_)
                              refine goes_ Try.func21 (by kernel_rfl) rfl #[.slice Ao58 t527.length co58, .slice Ao59 t545.length co59] (by rfl) rfl rfl (by (try simp only [List.map_toArray, List.map_cons, List.map_nil]); first | done | rfl | (simp only [List.length_drop, List.length_take]; rfl)) ?_
                              with_reducible refine (paviorref09_Same.calls k1 _ _ t527 _ _ t545 true _ ?side1 ?side2 ?side3 ?side4 A42.out).mono ?_
                              (case side1 => repeat (first | exact (Kd.R_reads' HO_7.out).2.2 | (with_reducible refine Kd.C_alloc ?_ _) | (with_reducible refine Kd.C_drewN ?_ _) | (with_reducible refine Kd.C_drew ?_)))
                              (case side2 => exact (Kd.R_reads' HO_7.out).2.1)
                              (case side3 => repeat (first | exact (Kd.R_reads' HO547.out).2.2 | (with_reducible refine Kd.C_alloc ?_ _) | (with_reducible refine Kd.C_drewN ?_ _) | (with_reducible refine Kd.C_drew ?_)))
                              (case side4 => exact (Kd.R_reads' HO547.out).2.1)
                              rintro e w' ⟨rfl, ⟨nd, rfl⟩⟩
                              refine ⟨_, rfl, ?_⟩
                              obtain ⟨Ao60, co60, eo60⟩ := Kd.R_slice HO_9.out
                              (first | subst eo60 | (injection eo60 with f1_ f2_ f3_; have f4_ := f1_.symm; have f5_ := f3_.symm; clear f1_ f2_ f3_; subst f4_; subst f5_))
                              obtain ⟨Ao61, co61, eo61⟩ := Kd.R_slice HO551.out
                              (first | subst eo61 | (injection eo61 with f1_ f2_ f3_; have f4_ := f1_.symm; have f5_ := f3_.symm; clear f1_ f2_ f3_; subst f4_; subst f5_))
                              refine hK.out _ _ trivial (fun hHeld => ?_)
                              clear hK K
                              refine norm_ (a' := ?_) ?_ ?_
                              rotate_left
                              · show Act.put _ (some 152) _ = _
                                simp only [Act.put, List.setIfInBounds_toArray, List.set_cons_zero, List.set_cons_succ, i64_w, i32_w]
                                rfl
                              refine pure_ (i := 33) (N := some 153) (v := ?_) (a' := ?_) #[true, true, true, true, true, true, true, true, true, true, true, true, true, true, true, true, true, true, true, true, true, true, true, true, true, true, true, true, true, true, true, true, true, true, false, false, false, false, false, false, false, false, false, false, false, false, false, false, false, false] rfl rfl (any_of HT_.out (by kernel_rfl)) (fun _ _ _ h => h) (Or.inl ⟨by rfl, ?_⟩) ?_ ?_
                              rotate_left
                              · intro w'
                                go_simp
                                with_reducible rfl
                              rotate_left
                              · simp only [Act.put, List.setIfInBounds_toArray, List.set_cons_zero, List.set_cons_succ, i64_w, i32_w]
                                rfl
                              refine pure_ (i := 34) (N := some 154) (v := ?_) (a' := ?_) #[true, true, true, true, true, true, true, true, true, true, true, true, true, true, true, true, true, true, true, true, true, true, true, true, true, true, true, true, true, true, true, true, true, true, true, false, false, false, false, false, false, false, false, false, false, false, false, false, false, false] rfl rfl (any_of HT_.out (by kernel_rfl)) (fun _ _ _ h => h) (Or.inl ⟨by rfl, ?_⟩) ?_ ?_
                              rotate_left
                              · intro w'
                                go_simp
                                with_reducible rfl
                              rotate_left
                              · simp only [Act.put, List.setIfInBounds_toArray, List.set_cons_zero, List.set_cons_succ, i64_w, i32_w]
                                rfl
                              refine pure_ (i := 35) (N := some 155) (v := ?_) (a' := ?_) #[true, true, true, true, true, true, true, true, true, true, true, true, true, true, true, true, true, true, true, true, true, true, true, true, true, true, true, true, true, true, true, true, true, true, true, true, false, false, false, false, false, false, false, false, false, false, false, false, false, false] rfl rfl (any_of HT_.out (by kernel_rfl)) (fun _ _ _ h => h) (Or.inl ⟨by rfl, ?_⟩) ?_ ?_
                              rotate_left
                              · intro w'
                                go_simp
                                with_reducible rfl
                              rotate_left
                              · simp only [Act.put, List.setIfInBounds_toArray, List.set_cons_zero, List.set_cons_succ, i64_w, i32_w]
                                rfl
                              refine pure_ (i := 36) (N := some 156) (v := ?_) (a' := ?_) #[true, true, true, true, true, true, true, true, true, true, true, true, true, true, true, true, true, true, true, true, true, true, true, true, true, true, true, true, true, true, true, true, true, true, true, true, true, false, false, false, false, false, false, false, false, false, false, false, false, false] rfl rfl (any_of HT_.out (by kernel_rfl)) (fun _ _ _ h => h) (Or.inl ⟨by rfl, ?_⟩) ?_ ?_
                              rotate_left
                              · intro w'
                                go_simp
                                with_reducible rfl
                              rotate_left
                              · simp only [Act.put, List.setIfInBounds_toArray, List.set_cons_zero, List.set_cons_succ, i64_w, i32_w]
                                rfl
                              refine one_ (i := 37) (N := some 157) #[true, true, true, true, true, true, true, true, true, true, true, true, true, true, true, true, true, true, true, true, true, true, true, true, true, true, true, true, true, true, true, true, true, true, true, true, true, true, false, false, false, false, false, false, false, false, false, false, false, false] rfl rfl (one_of HT_.out (by kernel_rfl)) (by decide) (fun K hK => ?_)
                              refine goes_ Try.func21 (by kernel_rfl) rfl #[.slice Ao60 t531.length co60, .slice Ao61 t549.length co61] (by rfl) rfl rfl (by (try simp only [List.map_toArray, List.map_cons, List.map_nil]); first | done | rfl | (simp only [List.length_drop, List.length_take]; rfl)) ?_
                              with_reducible refine (paviorref09_Same.calls k1 _ _ t531 _ _ t549 true _ ?side1 ?side2 ?side3 ?side4 A44.out).mono ?_
                              (case side1 => repeat (first | exact (Kd.R_reads' HO_9.out).2.2 | (with_reducible refine Kd.C_alloc ?_ _) | (with_reducible refine Kd.C_drewN ?_ _) | (with_reducible refine Kd.C_drew ?_)))
                              (case side2 => exact (Kd.R_reads' HO_9.out).2.1)
                              (case side3 => repeat (first | exact (Kd.R_reads' HO551.out).2.2 | (with_reducible refine Kd.C_alloc ?_ _) | (with_reducible refine Kd.C_drewN ?_ _) | (with_reducible refine Kd.C_drew ?_)))
                              (case side4 => exact (Kd.R_reads' HO551.out).2.1)
                              rintro e w' ⟨rfl, ⟨nd, rfl⟩⟩
                              refine ⟨_, rfl, ?_⟩
                              obtain ⟨Ao62, co62, eo62⟩ := Kd.R_slice HO_11.out
                              (first | subst eo62 | (injection eo62 with f1_ f2_ f3_; have f4_ := f1_.symm; have f5_ := f3_.symm; clear f1_ f2_ f3_; subst f4_; subst f5_))
                              obtain ⟨Ao63, co63, eo63⟩ := Kd.R_slice HO556.out
                              (first | subst eo63 | (injection eo63 with f1_ f2_ f3_; have f4_ := f1_.symm; have f5_ := f3_.symm; clear f1_ f2_ f3_; subst f4_; subst f5_))
                              refine hK.out _ _ trivial (fun hHeld => ?_)
                              clear hK K
                              refine norm_ (a' := ?_) ?_ ?_
                              rotate_left
                              · show Act.put _ (some 157) _ = _
                                simp only [Act.put, List.setIfInBounds_toArray, List.set_cons_zero, List.set_cons_succ, i64_w, i32_w]
                                rfl
                              refine pure_ (i := 38) (N := some 158) (v := ?_) (a' := ?_) #[true, true, true, true, true, true, true, true, true, true, true, true, true, true, true, true, true, true, true, true, true, true, true, true, true, true, true, true, true, true, true, true, true, true, true, true, true, true, true, false, false, false, false, false, false, false, false, false, false, false] rfl rfl (any_of HT_.out (by kernel_rfl)) (fun _ _ _ h => h) (Or.inl ⟨by rfl, ?_⟩) ?_ ?_
                              rotate_left
                              · intro w'
                                go_simp
                                with_reducible rfl
                              rotate_left
                              · simp only [Act.put, List.setIfInBounds_toArray, List.set_cons_zero, List.set_cons_succ, i64_w, i32_w]
                                rfl
                              refine pure_ (i := 39) (N := some 159) (v := ?_) (a' := ?_) #[true, true, true, true, true, true, true, true, true, true, true, true, true, true, true, true, true, true, true, true, true, true, true, true, true, true, true, true, true, true, true, true, true, true, true, true, true, true, true, true, false, false, false, false, false, false, false, false, false, false] rfl rfl (any_of HT_.out (by kernel_rfl)) (fun _ _ _ h => h) (Or.inl ⟨by rfl, ?_⟩) ?_ ?_
                              rotate_left
                              · intro w'
                                go_simp
                                with_reducible rfl
                              rotate_left
                              · simp only [Act.put, List.setIfInBounds_toArray, List.set_cons_zero, List.set_cons_succ, i64_w, i32_w]
                                rfl
                              refine pure_ (i := 40) (N := some 160) (v := ?_) (a' := ?_) #[true, true, true, true, true, true, true, true, true, true, true, true, true, true, true, true, true, true, true, true, true, true, true, true, true, true, true, true, true, true, true, true, true, true, true, true, true, true, true, true, true, false, false, false, false, false, false, false, false, false] rfl rfl (any_of HT_.out (by kernel_rfl)) (fun _ _ _ h => h) (Or.inl ⟨by rfl, ?_⟩) ?_ ?_
                              rotate_left
                              · intro w'
                                go_simp
                                with_reducible rfl
                              rotate_left
                              · simp only [Act.put, List.setIfInBounds_toArray, List.set_cons_zero, List.set_cons_succ, i64_w, i32_w]
                                rfl
                              refine pure_ (i := 41) (N := some 161) (v := ?_) (a' := ?_) #[true, true, true, true, true, true, true, true, true, true, true, true, true, true, true, true, true, true, true, true, true, true, true, true, true, true, true, true, true, true, true, true, true, true, true, true, true, true, true, true, true, true, false, false, false, false, false, false, false, false] rfl rfl (any_of HT_.out (by kernel_rfl)) (fun _ _ _ h => h) (Or.inl ⟨by rfl, ?_⟩) ?_ ?_
                              rotate_left
                              · intro w'
                                go_simp
                                with_reducible rfl
                              rotate_left
                              · simp only [Act.put, List.setIfInBounds_toArray, List.set_cons_zero, List.set_cons_succ, i64_w, i32_w]
                                rfl
                              refine one_ (i := 42) (N := some 162) #[true, true, true, true, true, true, true, true, true, true, true, true, true, true, true, true, true, true, true, true, true, true, true, true, true, true, true, true, true, true, true, true, true, true, true, true, true, true, true, true, true, true, true, false, false, false, false, false, false, false] rfl rfl (one_of HT_.out (by kernel_rfl)) (by decide) (fun K hK => ?_)
                              refine goes_ Try.func21 (by kernel_rfl) rfl #[.slice Ao62 t535.length co62, .slice Ao63 t553.length co63] (by rfl) rfl rfl (by (try simp only [List.map_toArray, List.map_cons, List.map_nil]); first | done | rfl | (simp only [List.length_drop, List.length_take]; rfl)) ?_
                              with_reducible refine (paviorref09_Same.calls k1 _ _ t535 _ _ t553 true _ ?side1 ?side2 ?side3 ?side4 A46.out).mono ?_
                              (case side1 => repeat (first | exact (Kd.R_reads' HO_11.out).2.2 | (with_reducible refine Kd.C_alloc ?_ _) | (with_reducible refine Kd.C_drewN ?_ _) | (with_reducible refine Kd.C_drew ?_)))
                              (case side2 => exact (Kd.R_reads' HO_11.out).2.1)
                              (case side3 => repeat (first | exact (Kd.R_reads' HO556.out).2.2 | (with_reducible refine Kd.C_alloc ?_ _) | (with_reducible refine Kd.C_drewN ?_ _) | (with_reducible refine Kd.C_drew ?_)))
                              (case side4 => exact (Kd.R_reads' HO556.out).2.1)
                              rintro e w' ⟨rfl, ⟨nd, rfl⟩⟩
                              refine ⟨_, rfl, ?_⟩
                              obtain ⟨Ao64, co64, eo64⟩ := Kd.R_slice HO_13.out
                              (first | subst eo64 | (injection eo64 with f1_ f2_ f3_; have f4_ := f1_.symm; have f5_ := f3_.symm; clear f1_ f2_ f3_; subst f4_; subst f5_))
                              obtain ⟨Ao65, co65, eo65⟩ := Kd.R_slice HO560.out
                              (first | subst eo65 | (injection eo65 with f1_ f2_ f3_; have f4_ := f1_.symm; have f5_ := f3_.symm; clear f1_ f2_ f3_; subst f4_; subst f5_))
                              refine hK.out _ _ trivial (fun hHeld => ?_)
                              clear hK K
                              refine norm_ (a' := ?_) ?_ ?_
                              rotate_left
                              · show Act.put _ (some 162) _ = _
                                simp only [Act.put, List.setIfInBounds_toArray, List.set_cons_zero, List.set_cons_succ, i64_w, i32_w]
                                rfl
                              refine pure_ (i := 43) (N := some 163) (v := ?_) (a' := ?_) #[true, true, true, true, true, true, true, true, true, true, true, true, true, true, true, true, true, true, true, true, true, true, true, true, true, true, true, true, true, true, true, true, true, true, true, true, true, true, true, true, true, true, true, true, false, false, false, false, false, false] rfl rfl (any_of HT_.out (by kernel_rfl)) (fun _ _ _ h => h) (Or.inl ⟨by rfl, ?_⟩) ?_ ?_
                              rotate_left
                              · intro w'
                                go_simp
                                with_reducible rfl
                              rotate_left
                              · simp only [Act.put, List.setIfInBounds_toArray, List.set_cons_zero, List.set_cons_succ, i64_w, i32_w]
                                rfl
                              refine pure_ (i := 44) (N := some 164) (v := ?_) (a' := ?_) #[true, true, true, true, true, true, true, true, true, true, true, true, true, true, true, true, true, true, true, true, true, true, true, true, true, true, true, true, true, true, true, true, true, true, true, true, true, true, true, true, true, true, true, true, true, false, false, false, false, false] rfl rfl (any_of HT_.out (by kernel_rfl)) (fun _ _ _ h => h) (Or.inl ⟨by rfl, ?_⟩) ?_ ?_
                              rotate_left
                              · intro w'
                                go_simp
                                with_reducible rfl
                              rotate_left
                              · simp only [Act.put, List.setIfInBounds_toArray, List.set_cons_zero, List.set_cons_succ, i64_w, i32_w]
                                rfl
                              refine pure_ (i := 45) (N := some 165) (v := ?_) (a' := ?_) #[true, true, true, true, true, true, true, true, true, true, true, true, true, true, true, true, true, true, true, true, true, true, true, true, true, true, true, true, true, true, true, true, true, true, true, true, true, true, true, true, true, true, true, true, true, true, false, false, false, false] rfl rfl (any_of HT_.out (by kernel_rfl)) (fun _ _ _ h => h) (Or.inl ⟨by rfl, ?_⟩) ?_ ?_
                              rotate_left
                              · intro w'
                                go_simp
                                with_reducible rfl
                              rotate_left
                              · simp only [Act.put, List.setIfInBounds_toArray, List.set_cons_zero, List.set_cons_succ, i64_w, i32_w]
                                rfl
                              refine pure_ (i := 46) (N := some 166) (v := ?_) (a' := ?_) #[true, true, true, true, true, true, true, true, true, true, true, true, true, true, true, true, true, true, true, true, true, true, true, true, true, true, true, true, true, true, true, true, true, true, true, true, true, true, true, true, true, true, true, true, true, true, true, false, false, false] rfl rfl (any_of HT_.out (by kernel_rfl)) (fun _ _ _ h => h) (Or.inl ⟨by rfl, ?_⟩) ?_ ?_
                              rotate_left
                              · intro w'
                                go_simp
                                with_reducible rfl
                              rotate_left
                              · simp only [Act.put, List.setIfInBounds_toArray, List.set_cons_zero, List.set_cons_succ, i64_w, i32_w]
                                rfl
                              refine one_ (i := 47) (N := some 167) #[true, true, true, true, true, true, true, true, true, true, true, true, true, true, true, true, true, true, true, true, true, true, true, true, true, true, true, true, true, true, true, true, true, true, true, true, true, true, true, true, true, true, true, true, true, true, true, true, false, false] rfl rfl (one_of HT_.out (by kernel_rfl)) (by decide) (fun K hK => ?_)
                              refine goes_ Try.func21 (by kernel_rfl) rfl #[.slice Ao64 t539.length co64, .slice Ao65 t557.length co65] (by rfl) rfl rfl (by (try simp only [List.map_toArray, List.map_cons, List.map_nil]); first | done | rfl | (simp only [List.length_drop, List.length_take]; rfl)) ?_
                              with_reducible refine (paviorref09_Same.calls k1 _ _ t539 _ _ t557 t564 _ ?side1 ?side2 ?side3 ?side4 A48.out).mono ?_
                              (case side1 => repeat (first | exact (Kd.R_reads' HO_13.out).2.2 | (with_reducible refine Kd.C_alloc ?_ _) | (with_reducible refine Kd.C_drewN ?_ _) | (with_reducible refine Kd.C_drew ?_)))
                              (case side2 => exact (Kd.R_reads' HO_13.out).2.1)
                              (case side3 => repeat (first | exact (Kd.R_reads' HO560.out).2.2 | (with_reducible refine Kd.C_alloc ?_ _) | (with_reducible refine Kd.C_drewN ?_ _) | (with_reducible refine Kd.C_drew ?_)))
                              (case side4 => exact (Kd.R_reads' HO560.out).2.1)
                              rintro e w' ⟨rfl, ⟨nd, rfl⟩⟩
                              refine ⟨_, rfl, ?_⟩
                              refine hK.out _ _ trivial (fun hHeld => ?_)
                              clear hK K
                              refine norm_ (a' := ?_) ?_ ?_
                              rotate_left
                              · show Act.put _ (some 167) _ = _
                                simp only [Act.put, List.setIfInBounds_toArray, List.set_cons_zero, List.set_cons_succ, i64_w, i32_w]
                                rfl
                              refine pure_ (i := 48) (N := some 168) (v := ?_) (a' := ?_) #[true, true, true, true, true, true, true, true, true, true, true, true, true, true, true, true, true, true, true, true, true, true, true, true, true, true, true, true, true, true, true, true, true, true, true, true, true, true, true, true, true, true, true, true, true, true, true, true, true, false] rfl rfl (any_of HT_.out (by kernel_rfl)) (fun _ _ _ h => h) (Or.inl ⟨by rfl, ?_⟩) ?_ ?_
                              rotate_left
                              · intro w'
                                go_simp
                                with_reducible rfl
                              rotate_left
                              · simp only [Act.put, List.setIfInBounds_toArray, List.set_cons_zero, List.set_cons_succ, i64_w, i32_w]
                                rfl
                              refine pure_ (i := 49) (N := some 4) (v := ?_) (a' := ?_) #[true, true, true, true, true, true, true, true, true, true, true, true, true, true, true, true, true, true, true, true, true, true, true, true, true, true, true, true, true, true, true, true, true, true, true, true, true, true, true, true, true, true, true, true, true, true, true, true, true, true] rfl rfl (any_of HT_.out (by kernel_rfl)) (fun _ _ _ h => h) (Or.inl ⟨by rfl, ?_⟩) ?_ ?_
                              rotate_left
                              · intro w'
                                go_simp
                                with_reducible rfl
                              rotate_left
                              · simp only [Act.put, List.setIfInBounds_toArray, List.set_cons_zero, List.set_cons_succ, i64_w, i32_w]
                                rfl
                              refine done_ (done_of HT_.out (by kernel_rfl)) ?_
                              try go_wp2
                              go_ret
                              exact ⟨by first | rfl | (simp [errW_none, errW_some] <;> rfl) | (simp [*, errW_none, errW_some] <;> rfl), by repeat (first | (with_reducible first | exact HB.out | apply below_alloc | apply pw_below_drewN | apply below_drew1 | refine below_set ?_ GE519.out) | exact HB.out)⟩
                            · replace c47 := Bool.eq_false_iff.mpr c47
                              subst c47
                              have H1 : (none) = some r := by rw [if_neg (show ¬ (false = true) by decide)] at H; exact H
                              clear H
                              have H := H1
                              clear H1
                              exact absurd H (by simp)
                          · replace c45 := Bool.eq_false_iff.mpr c45
                            subst c45
                            have H1 : (none) = some r := by rw [if_neg (show ¬ (false = true) by decide)] at H; exact H
                            clear H
                            have H := H1
                            clear H1
                            exact absurd H (by simp)
                        · replace c43 := Bool.eq_false_iff.mpr c43
                          subst c43
                          have H1 : (none) = some r := by rw [if_neg (show ¬ (false = true) by decide)] at H; exact H
                          clear H
                          have H := H1
                          clear H1
                          exact absurd H (by simp)
                      · rw [if_neg c41] at H
                        have c41b0 : (t540.isNone == t558.isNone) = false := by simpa using c41
                        (try (have c41b1 : decide (t540.isNone = t558.isNone) = false := by simpa using c41))
                        (try (have c41b2 : (t540.isNone == t558.isNone) = false := by simpa using c41))
                        (try (have c41b3 : ¬ (t540.isNone = t558.isNone) := by simpa using c41))
                        clear c41
                        exact absurd H (by simp)
                    · rw [if_neg c40] at H
                      have c40b0 : (t536.isNone == t554.isNone) = false := by simpa using c40
                      (try (have c40b1 : decide (t536.isNone = t554.isNone) = false := by simpa using c40))
                      (try (have c40b2 : (t536.isNone == t554.isNone) = false := by simpa using c40))
                      (try (have c40b3 : ¬ (t536.isNone = t554.isNone) := by simpa using c40))
                      clear c40
                      exact absurd H (by simp)
                  · rw [if_neg c39] at H
                    have c39b0 : (t534.isNone == t552.isNone) = false := by simpa using c39
                    (try (have c39b1 : decide (t534.isNone = t552.isNone) = false := by simpa using c39))
                    (try (have c39b2 : (t534.isNone == t552.isNone) = false := by simpa using c39))
                    (try (have c39b3 : ¬ (t534.isNone = t552.isNone) := by simpa using c39))
                    clear c39
                    exact absurd H (by simp)
                · rw [if_neg c38] at H
                  have c38b0 : (t530.isNone == t548.isNone) = false := by simpa using c38
                  (try (have c38b1 : decide (t530.isNone = t548.isNone) = false := by simpa using c38))
                  (try (have c38b2 : (t530.isNone == t548.isNone) = false := by simpa using c38))
                  (try (have c38b3 : ¬ (t530.isNone = t548.isNone) := by simpa using c38))
                  clear c38
                  exact absurd H (by simp)
              · replace c37 := Bool.eq_false_iff.mpr c37
                subst c37
                have H1 : (none) = some r := by rw [if_neg (show ¬ (false = true) by decide)] at H; exact H
                clear H
                have H := H1
                clear H1
                exact absurd H (by simp)
      · replace c13 := Bool.eq_false_iff.mpr c13
        subst c13
        have H1 : (none) = some r := by rw [if_neg (show ¬ (false = true) by decide)] at H; exact H
        clear H
        have H := H1
        clear H1
        exact absurd H (by simp)
    · rw [if_neg c7] at H
      exact absurd H (by simp)

/-- THE ONE PURE STATEMENT of paviorlaw09_AreaStays. -/
def paviorlaw09_AreaStays.Pure : Prop := ∀ (l0 : List (S32)) (a1_0 : Int) (a1_1 : Int) (a1_2 : Bool) (a1_3 : Bool) (a1_4 : Bool), l0.length ≤ maxLen → (∀ x ∈ l0, ((Lit.int .i64 x.f0).wf = true ∧ (Lit.int .i64 x.f1).wf = true ∧ (True ∧ True) ∧ True)) → (((Lit.int .i64 a1_0).wf = true ∧ (Lit.int .i64 a1_1).wf = true ∧ (True ∧ True) ∧ True)) → ∃ k, paviorlaw09_AreaStays.f k l0 a1_0 a1_1 a1_2 a1_3 a1_4 = some true

end Go.Proofs.Ytlmjjkggoemabab.Q
