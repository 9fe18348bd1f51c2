import Derived.Test.YtfbjhioefkimbaaVY
import Derived.Test.YtfbjhioefkimbaaQx0
import Derived.Test.YtfbjhioefkimbaaQx1
import Derived.Test.YtfbjhioefkimbaaQx2
import Derived.Test.YtfbjhioefkimbaaQx3
import Derived.Test.YtfbjhioefkimbaaProg
import Derived.Test.YtfbjhioefkimbaaWEqStruct
import Derived.KernelRfl
namespace Go.Proofs.Ytfbjhioefkimbaa.V
open Go Go.RowKit Go.Proofs Go.Proofs.Ytfbjhioefkimbaa.Q Go.Proofs.YtfbjhioefkimbaaW.PrintWords Go.Proofs.YtfbjhioefkimbaaW.PrintWords
open Go.IntKind (i64)
set_option linter.unusedVariables false
set_option linter.unusedSimpArgs false
set_option maxRecDepth 100000
theorem hm : Try.prog.follows .mixedOrders = true := by kernel_rfl
def eE (x : S30) : List C := [.v (.int .i64 x.f0), .v (.int .i64 x.f1), .v (.int .i64 x.f2), .v (.int .i64 x.f3), .v (.bool x.f4), .v (.bool x.f5)]
abbrev encE (x : S30) : U := .agg (eE x)
abbrev z30 : S30 := ⟨0, 0, 0, 0, false, false⟩
theorem eE_copy (x : S30) : (eE x).all copyC = true := rfl
structure Buf where
  l : List S30
  b : Bool
def bufC (x : Buf) : C := .pt true [.sl true 6 (x.l.map eE), .v (.bool x.b)]
theorem errW_eq (t : Option Int) : errW t = errV 48 t := by cases t <;> rfl
theorem eqA30 (d : Nat) (w : World) (x0 y0 : Int) (x1 y1 : Int) (x2 y2 : Int) (x3 y3 : Int) (x4 y4 : Bool) (x5 y5 : Bool) :
    (Op.equalIn (d + 2) 30 (.agg #[.int .i64 x0, .int .i64 x1, .int .i64 x2, .int .i64 x3, .bool x4, .bool x5]) (.agg #[.int .i64 y0, .int .i64 y1, .int .i64 y2, .int .i64 y3, .bool y4, .bool y5])).run Try.prog w = .ok (x0 == y0 && (x1 == y1 && (x2 == y2 && (x3 == y3 && (x4 == y4 && (x5 == y5)))))) w := by
  refine eqA_of Try.underlying30 (by kernel_rfl) ?_
  refine eqf_cons (by rfl) (by go_simp; rfl) (by go_simp; rfl) (by go_simp) ?_
  refine eqf_cons (by rfl) (by go_simp; rfl) (by go_simp; rfl) (by go_simp) ?_
  refine eqf_cons (by rfl) (by go_simp; rfl) (by go_simp; rfl) (by go_simp) ?_
  refine eqf_cons (by rfl) (by go_simp; rfl) (by go_simp; rfl) (by go_simp) ?_
  refine eqf_cons (by rfl) (by go_simp; rfl) (by go_simp; rfl) (by go_simp) ?_
  exact eqf_last (by rfl) (by go_simp; rfl) (by go_simp; rfl) (by go_simp)
theorem sl22 : SliceT Try.prog 22 6 40 := slB_ok (by kernel_rfl)
theorem sliceZ22 : SliceZ Try.prog 22 6 40 [.v (.int .i64 0), .v (.int .i64 0), .v (.int .i64 0), .v (.int .i64 0), .v (.bool false), .v (.bool false)] := slZ_ok (vs := [(.int .i64 0), (.int .i64 0), (.int .i64 0), (.int .i64 0), (.bool false), (.bool false)]) (by kernel_rfl) (by kernel_rfl) rfl (fun _ _ _ => .cons (F := []) (.v rfl) (.cons (F := []) (.v rfl) (.cons (F := []) (.v rfl) (.cons (F := []) (.v rfl) (.cons (F := []) (.v rfl) (.cons (F := []) (.v rfl) (.nil)))))))
def eqf30 : List Value → List Value → Option Bool
  | [.int .i64 x0, .int .i64 x1, .int .i64 x2, .int .i64 x3, .bool x4, .bool x5], [.int .i64 y0, .int .i64 y1, .int .i64 y2, .int .i64 y3, .bool y4, .bool y5] => some (x0 == y0 && (x1 == y1 && (x2 == y2 && (x3 == y3 && (x4 == y4 && (x5 == y5))))))
  | _, _ => none
theorem eqAgg30 : EqAgg Try.prog 30 eqf30 := by
  intro xs ys b w h
  unfold eqf30 at h
  split at h
  · injection h with h; subst h; exact equal_at (fun n => eqA30 n w _ _ _ _ _ _ _ _ _ _ _ _)
  · cases h
theorem zero30 : ZeroT Try.prog 30 [.v (.int .i64 0), .v (.int .i64 0), .v (.int .i64 0), .v (.int .i64 0), .v (.bool false), .v (.bool false)] := zeroB_ok (vs := [(.int .i64 0), (.int .i64 0), (.int .i64 0), (.int .i64 0), (.bool false), (.bool false)]) (by kernel_rfl) (fun _ _ _ => .cons (F := []) (.v rfl) (.cons (F := []) (.v rfl) (.cons (F := []) (.v rfl) (.cons (F := []) (.v rfl) (.cons (F := []) (.v rfl) (.cons (F := []) (.v rfl) (.nil)))))))
theorem build53 : BuildT Try.prog 53 [(0, 1), (1, 1)] := buildB_ok (by kernel_rfl)
theorem zero53 : ZeroT Try.prog 53 [.sl true 6 ([].map eE), .v (.bool false)] := zeroB_ok (vs := [(.slice none 0 0), (.bool false)]) (by kernel_rfl) (fun _ _ _ => .cons (F := []) (.nil _ _) (.cons (F := []) (.v rfl) (.nil)))
theorem build30 : BuildT Try.prog 30 [(0, 1), (1, 1), (2, 1), (3, 1), (4, 1), (5, 1)] := buildB_ok (by kernel_rfl)
theorem tlb_may.ac (k : Nat) (a0 : S30) (r : Bool) (h : tlb_may.f k a0.f0 a0.f1 a0.f2 a0.f3 a0.f4 a0.f5 = some r) : AC Try.prog 48 23 [.agg [.v (.int .i64 a0.f0), .v (.int .i64 a0.f1), .v (.int .i64 a0.f2), .v (.int .i64 a0.f3), .v (.bool a0.f4), .v (.bool a0.f5)]] [none] [.c (.v (.bool r))] :=
  ac_of rfl (fun w R => RepR.one (RepU.c (RepC.v rfl))) (fun w => (tlb_may.calls k a0.f0 a0.f1 a0.f2 a0.f3 a0.f4 a0.f5 r w h).mono (fun e w' hh => ⟨by simpa only [errW_eq] using hh.1, hh.2⟩))
theorem tlb_of.ac (a0 : S30) (a1 : Int) (a2 : Int) (r : Bool) (h : tlb_of.f a0.f0 a0.f1 a0.f2 a0.f3 a0.f4 a0.f5 a1 a2 = some r) : AC Try.prog 48 31 [.agg [.v (.int .i64 a0.f0), .v (.int .i64 a0.f1), .v (.int .i64 a0.f2), .v (.int .i64 a0.f3), .v (.bool a0.f4), .v (.bool a0.f5)], .c (.v (.int .i64 a1)), .c (.v (.int .i64 a2))] [none, none, none] [.c (.v (.bool r))] :=
  ac_of rfl (fun w R => RepR.one (RepU.c (RepC.v rfl))) (fun w => (tlb_of.calls a0.f0 a0.f1 a0.f2 a0.f3 a0.f4 a0.f5 a1 a2 r w h).mono (fun e w' hh => ⟨by simpa only [errW_eq] using hh.1, hh.2⟩))
theorem tlb_Clash.ac (k : Nat) (a0 : S30) (a1 : S30) (r : Bool) (h : tlb_Clash.f k a0.f0 a0.f1 a0.f2 a0.f3 a0.f4 a0.f5 a1.f0 a1.f1 a1.f2 a1.f3 a1.f4 a1.f5 = some r) : AC Try.prog 48 13 [.agg [.v (.int .i64 a0.f0), .v (.int .i64 a0.f1), .v (.int .i64 a0.f2), .v (.int .i64 a0.f3), .v (.bool a0.f4), .v (.bool a0.f5)], .agg [.v (.int .i64 a1.f0), .v (.int .i64 a1.f1), .v (.int .i64 a1.f2), .v (.int .i64 a1.f3), .v (.bool a1.f4), .v (.bool a1.f5)]] [none, none] [.c (.v (.bool r))] :=
  ac_of rfl (fun w R => RepR.one (RepU.c (RepC.v rfl))) (fun w => (tlb_Clash.calls k a0.f0 a0.f1 a0.f2 a0.f3 a0.f4 a0.f5 a1.f0 a1.f1 a1.f2 a1.f3 a1.f4 a1.f5 r w h).mono (fun e w' hh => ⟨by simpa only [errW_eq] using hh.1, hh.2⟩))
theorem paviorref05_May.ac (k : Nat) (a0 : S30) (r : Bool) (h : paviorref05_May.f k a0.f0 a0.f1 a0.f2 a0.f3 a0.f4 a0.f5 = some r) : AC Try.prog 48 11 [.agg [.v (.int .i64 a0.f0), .v (.int .i64 a0.f1), .v (.int .i64 a0.f2), .v (.int .i64 a0.f3), .v (.bool a0.f4), .v (.bool a0.f5)]] [none] [.c (.v (.bool r))] :=
  ac_of rfl (fun w R => RepR.one (RepU.c (RepC.v rfl))) (fun w => (paviorref05_May.calls k a0.f0 a0.f1 a0.f2 a0.f3 a0.f4 a0.f5 r w h).mono (fun e w' hh => ⟨by simpa only [errW_eq] using hh.1, hh.2⟩))
set_option maxHeartbeats 4000000 in
def Clone.f (k : Nat) (a0 : List S30) : Option ((List S30)) :=
  (bif decide (([] : List S30).length + a0.length ≤ 1000000) then some (([] : List S30) ++ a0) else none)
set_option maxHeartbeats 4000000 in
theorem Clone.ac (k : Nat) (a0 : List S30) (r : (List S30)) (h : Clone.f k a0 = some r) : AC Try.prog 48 25 [.c (.sl false 6 (a0.map eE))] [none] [.c (.sl true 6 (r.map eE))] := by
  unfold Clone.f at h
  refine ac_intro (fn := Try.f25) (pins := []) (rts := [2]) Try.func25 rfl Try.ntmps25 rfl (Nat.le_of_ble_eq_true rfl) (pins_lt rfl) rfl (fun w R E vs => ?_)
  refine r_weak (of_weak (l := [(0, .u (.c (.sl false 6 (a0.map eE))))]) (by kernel_rfl)) ?_
  refine r_seq ?_
  refine rr [(0, .u (.c (.sl false 6 (a0.map eE))))] (cot 1 (os_plain rfl rfl (s_take (.inr rfl) (.sl 6) rfl (by kernel_rfl))) .nil) ?_
  refine r_seq ?_
  refine r_seq ?_
  refine rr [(0, .u (.c (.sl false 6 (a0.map eE)))), (4, .u (.c (.x (boolQ (a0.map eE = [])))))] (cgt 1 [3] (cot 2 (os_plain rfl rfl (s_isNil (i := 3) (own := false) (sz := 6) (rows := a0.map eE) rfl sl22 (by kernel_rfl) rfl (by kernel_rfl))) .nil)) ?_
  refine r_condU (p := a0.map eE = []) (by kernel_rfl) (fun hp => ?_) ?_
  · obtain rfl := List.map_eq_nil_iff.mp hp
    replace h : some ([] : (List S30)) = some r := h
    refine r_seq ?_
    refine rr [(2, .u (.c (.sl true 6 ([].map eE))))] (cot 1 (os_plain rfl rfl (s_take (.inr rfl) (.sl 6) rfl (by kernel_rfl))) .nil) ?_
    refine r_ret ?_
    obtain rfl := Option.some.inj h
    exact ⟨.inr rfl, _, _, .cons (.move rfl rfl) .nil, rfl, outs_of trivial⟩
  have h := h
  refine r_skip ?_
  refine r_seq ?_
  obtain ⟨hg1, h⟩ := guard_some h
  simp only [decide_eq_true_eq] at hg1
  refine rr [(2, .u (.c (.sl true 6 ((([] : List S30) ++ a0).map eE))))] (cot 1 (os_toG (os_plain rfl rfl (s_buildSlice (sz := 6) (len := 0) (us := []) (cs := []) rfl sliceZ22 .nil (by kernel_rfl) (Nat.le_of_ble_eq_true rfl) rfl (by kernel_rfl))) (t' := .u (.c (.sl true 6 (([] : List S30).map eE)))) (by kernel_rfl)) (cgt 2 [6] (cot 3 (os_toG (os_plain rfl rfl (s_appendM (i := 5) (sz := 6) (rows := ([] : List S30).map eE) (rows2 := a0.map eE) rfl sliceZ22 (by kernel_rfl) (.u (own := false) (by kernel_rfl)) (copy_map eE_copy) (lenMap2 hg1) (Nat.le_of_ble_eq_true rfl) rfl (by kernel_rfl))) (t' := .u (.c (.sl true 6 ((([] : List S30) ++ a0).map eE)))) (by simp only [List.map_append])) (cot 4 (os_plain rfl rfl (s_take (u := .c (.sl true 6 ((([] : List S30) ++ a0).map eE))) (.inr rfl) (.move (by kernel_rfl) rfl) rfl (by kernel_rfl))) .nil)))) ?_
  refine r_ret ?_
  obtain rfl := Option.some.inj h
  exact ⟨.inr rfl, _, _, .cons (.move rfl rfl) .nil, rfl, outs_of trivial⟩
def Index.l1 (k : Nat) (a0 : List S30) (a1 : S30) : Nat → Int → Option (Int)
  | 0, _ => none
  | n1 + 1, v1 => (bif decide (v1 < (a0.length : Int)) then (bif decide (0 ≤ v1) && decide (v1 < (a0.length : Int)) then (bif a1.f0 == ((a0.getD v1.toNat z30).f0) && (a1.f1 == ((a0.getD v1.toNat z30).f1) && (a1.f2 == ((a0.getD v1.toNat z30).f2) && (a1.f3 == ((a0.getD v1.toNat z30).f3) && (a1.f4 == ((a0.getD v1.toNat z30).f4) && (a1.f5 == ((a0.getD v1.toNat z30).f5)))))) then some v1 else Index.l1 k a0 a1 n1 (i64.wrap (v1 + 1))) else none) else some (-1))
set_option maxHeartbeats 4000000 in
def Index.f (k : Nat) (a0 : List S30) (a1 : S30) : Option (Int) :=
  Index.l1 k a0 a1 k 0
set_option maxHeartbeats 4000000 in
theorem Index.ac (k : Nat) (a0 : List S30) (a1 : S30) (r : Int) (h : Index.f k a0 a1 = some r) : AC Try.prog 48 39 [.c (.sl false 6 (a0.map eE)), .agg [.v (.int .i64 a1.f0), .v (.int .i64 a1.f1), .v (.int .i64 a1.f2), .v (.int .i64 a1.f3), .v (.bool a1.f4), .v (.bool a1.f5)]] [none, none] [.c (.v (.int .i64 r))] := by
  unfold Index.f at h
  refine ac_intro (fn := Try.f39) (pins := []) (rts := [4]) Try.func39 rfl Try.ntmps39 rfl (Nat.le_of_ble_eq_true rfl) (pins_lt rfl) rfl (fun w R E vs => ?_)
  refine r_weak (of_weak (l := [(0, .u (.c (.sl false 6 (a0.map eE)))), (1, .u (.agg [.v (.int .i64 a1.f0), .v (.int .i64 a1.f1), .v (.int .i64 a1.f2), .v (.int .i64 a1.f3), .v (.bool a1.f4), .v (.bool a1.f5)]))]) (by kernel_rfl)) ?_
  refine r_seq ?_
  refine rr [(0, .u (.c (.sl false 6 (a0.map eE)))), (3, .u (.c (.pt true [.v (.int .i64 a1.f0), .v (.int .i64 a1.f1), .v (.int .i64 a1.f2), .v (.int .i64 a1.f3), .v (.bool a1.f4), .v (.bool a1.f5)])))] (cot 1 (os_plain rfl rfl (s_box (u := .agg [.v (.int .i64 a1.f0), .v (.int .i64 a1.f1), .v (.int .i64 a1.f2), .v (.int .i64 a1.f3), .v (.bool a1.f4), .v (.bool a1.f5)]) rfl (.copy (by kernel_rfl) (by kernel_rfl) (by kernel_rfl)) rfl (by kernel_rfl))) (cgt 2 [4] .nil)) ?_
  refine r_seq ?_
  refine r_seq ?_
  refine rr [(0, .u (.c (.sl false 6 (a0.map eE)))), (3, .u (.c (.pt true [.v (.int .i64 a1.f0), .v (.int .i64 a1.f1), .v (.int .i64 a1.f2), .v (.int .i64 a1.f3), .v (.bool a1.f4), .v (.bool a1.f5)]))), (7, tI (a0.length : Int)), (8, tI 0)] (cgt 1 [6] (cot 2 (os_to (os_plain rfl rfl (s_lenU (own := false) (sz := 6) (rows := (a0.map eE)) rfl sl22 (by kernel_rfl) rfl (by kernel_rfl))) (t' := tI (a0.length : Int)) (by rw [List.length_map])) (cgt 3 [8] .nil))) ?_
  refine r_block ?_
  refine r_weak (of_weak (l := [(0, .u (.c (.sl false 6 (a0.map eE)))), (3, .u (.c (.pt true [.v (.int .i64 a1.f0), .v (.int .i64 a1.f1), .v (.int .i64 a1.f2), .v (.int .i64 a1.f3), .v (.bool a1.f4), .v (.bool a1.f5)]))), (7, tI (a0.length : Int)), (8, tI 0)]) (by kernel_rfl)) ?_
  refine r_loopI (α := Int) (fun x => [(0, .u (.c (.sl false 6 (a0.map eE)))), (3, .u (.c (.pt true [.v (.int .i64 a1.f0), .v (.int .i64 a1.f1), .v (.int .i64 a1.f2), .v (.int .i64 a1.f3), .v (.bool a1.f4), .v (.bool a1.f5)]))), (7, tI (a0.length : Int)), (8, tI x)]) (fun n x => Index.l1 k a0 a1 n x = some r) k 0 h (by intro x h; unfold Index.l1 at h; cases h) ?_
  rintro n1 v1 h
  replace h : Index.l1 k a0 a1 (n1 + 1) v1 = some r := h
  unfold Index.l1 at h
  show Run _ _ _ (St.of [(0, .u (.c (.sl false 6 (a0.map eE)))), (3, .u (.c (.pt true [.v (.int .i64 a1.f0), .v (.int .i64 a1.f1), .v (.int .i64 a1.f2), .v (.int .i64 a1.f3), .v (.bool a1.f4), .v (.bool a1.f5)]))), (7, tI (a0.length : Int)), (8, tI v1)]) _
  refine r_seq ?_
  refine rr [(0, .u (.c (.sl false 6 (a0.map eE)))), (3, .u (.c (.pt true [.v (.int .i64 a1.f0), .v (.int .i64 a1.f1), .v (.int .i64 a1.f2), .v (.int .i64 a1.f3), .v (.bool a1.f4), .v (.bool a1.f5)]))), (7, tI (a0.length : Int)), (8, tI v1), (9, tB (decide (v1 < (a0.length : Int))))] (cgt 1 [9] .nil) ?_
  refine r_seq ?_
  rcases Bool.eq_false_or_eq_true (decide (v1 < (a0.length : Int))) with hb | hb
  · have h := cond_t hb h
    refine r_condT hb rfl ?_
    refine r_skip ?_
    refine r_seq ?_
    refine r_block ?_
    refine r_seq ?_
    refine rr [(0, .u (.c (.sl false 6 (a0.map eE)))), (3, .u (.c (.pt true [.v (.int .i64 a1.f0), .v (.int .i64 a1.f1), .v (.int .i64 a1.f2), .v (.int .i64 a1.f3), .v (.bool a1.f4), .v (.bool a1.f5)]))), (5, tI v1), (7, tI (a0.length : Int)), (8, tI v1)] (cgt 2 [10, 5] .nil) ?_
    refine r_seq ?_
    obtain ⟨hg2, h⟩ := guard_some h
    simp only [Bool.and_eq_true, decide_eq_true_eq] at hg2
    refine r_weak (of_weak (l := [(0, .u (.c (.sl false 6 (a0.map eE)))), (3, .u (.c (.pt true [.v (.int .i64 a1.f0), .v (.int .i64 a1.f1), .v (.int .i64 a1.f2), .v (.int .i64 a1.f3), .v (.bool a1.f4), .v (.bool a1.f5)]))), (5, tI v1), (7, tI (a0.length : Int)), (8, tI v1)]) (by kernel_rfl)) ?_
    refine r_anyW (l := [(0, .u (.c (.sl false 6 (a0.map eE)))), (3, .u (.c (.pt true [.v (.int .i64 a1.f0), .v (.int .i64 a1.f1), .v (.int .i64 a1.f2), .v (.int .i64 a1.f3), .v (.bool a1.f4), .v (.bool a1.f5)]))), (5, tI v1), (7, tI (a0.length : Int)), (8, tI v1), (16, tB (a1.f0 == ((a0.getD v1.toNat z30).f0) && (a1.f1 == ((a0.getD v1.toNat z30).f1) && (a1.f2 == ((a0.getD v1.toNat z30).f2) && (a1.f3 == ((a0.getD v1.toNat z30).f3) && (a1.f4 == ((a0.getD v1.toNat z30).f4) && (a1.f5 == ((a0.getD v1.toNat z30).f5))))))))]) (tab := [[], [], [], [1, 2], [3], [0, 4]]) [ev [] [3] 11 (.u (.agg [.v (.int .i64 a1.f0), .v (.int .i64 a1.f1), .v (.int .i64 a1.f2), .v (.int .i64 a1.f3), .v (.bool a1.f4), .v (.bool a1.f5)])), ev [] [0] 12 (.u (.c (.sl false 6 (a0.map eE)))), ev [] [5] 13 (tI v1), ev [1, 2] [12, 13] 14 (.addr 12 (.i v1.toNat 6) [] 0), ev [1, 2, 3] [12, 14] 15 (.u (.agg [.v (.int .i64 ((a0.getD v1.toNat z30).f0)), .v (.int .i64 ((a0.getD v1.toNat z30).f1)), .v (.int .i64 ((a0.getD v1.toNat z30).f2)), .v (.int .i64 ((a0.getD v1.toNat z30).f3)), .v (.bool ((a0.getD v1.toNat z30).f4)), .v (.bool ((a0.getD v1.toNat z30).f5))])), ev [0, 1, 2, 3, 4] [11, 15] 16 (tB (a1.f0 == ((a0.getD v1.toNat z30).f0) && (a1.f1 == ((a0.getD v1.toNat z30).f1) && (a1.f2 == ((a0.getD v1.toNat z30).f2) && (a1.f3 == ((a0.getD v1.toNat z30).f3) && (a1.f4 == ((a0.getD v1.toNat z30).f4) && (a1.f5 == ((a0.getD v1.toNat z30).f5))))))))] hm (by kernel_rfl) (by kernel_rfl) (by kernel_rfl) (en (en (en (.cons (fun σ hc => e_put hc rfl rfl (os_plain rfl rfl (s_indexU (own := false) (sz := 6) (rows := (a0.map eE)) (e := v1) (ik := .i64) rfl sl22 (by kernel_rfl) (.tmp (by kernel_rfl)) hg2.1 (by rw [List.length_map]; exact hg2.2) rfl (by kernel_rfl) (by kernel_rfl)))) (.cons (fun σ hc => e_put hc rfl rfl (os_plain rfl rfl (s_loadA (n := 6) (xs := [.v (.int .i64 ((a0.getD v1.toNat z30).f0)), .v (.int .i64 ((a0.getD v1.toNat z30).f1)), .v (.int .i64 ((a0.getD v1.toNat z30).f2)), .v (.int .i64 ((a0.getD v1.toNat z30).f3)), .v (.bool ((a0.getD v1.toNat z30).f4)), .v (.bool ((a0.getD v1.toNat z30).f5))]) (r := 12) (off := 0) (s := .i v1.toNat 6) (p := []) (c := .sl false 6 (a0.map eE)) (cs := eE (a0.getD v1.toNat z30)) rfl (aggB_ok (by kernel_rfl)) (by kernel_rfl) (by kernel_rfl) (getP_map z30 (by have := hg2; omega)) rfl rfl rfl rfl (by kernel_rfl)))) (.cons (fun σ hc => e_put hc rfl rfl (os_plain rfl rfl (s_eqA (b := a1.f0 == ((a0.getD v1.toNat z30).f0) && (a1.f1 == ((a0.getD v1.toNat z30).f1) && (a1.f2 == ((a0.getD v1.toNat z30).f2) && (a1.f3 == ((a0.getD v1.toNat z30).f3) && (a1.f4 == ((a0.getD v1.toNat z30).f4) && (a1.f5 == ((a0.getD v1.toNat z30).f5))))))) rfl (.inl rfl) eqAgg30 (by kernel_rfl) rfl rfl rfl rfl rfl rfl (by kernel_rfl)))) .nil)))))) (by kernel_rfl) ?_
    rcases Bool.eq_false_or_eq_true (a1.f0 == ((a0.getD v1.toNat z30).f0) && (a1.f1 == ((a0.getD v1.toNat z30).f1) && (a1.f2 == ((a0.getD v1.toNat z30).f2) && (a1.f3 == ((a0.getD v1.toNat z30).f3) && (a1.f4 == ((a0.getD v1.toNat z30).f4) && (a1.f5 == ((a0.getD v1.toNat z30).f5))))))) with hb | hb
    · have h := cond_t hb h
      refine r_condT hb rfl ?_
      refine r_seq ?_
      refine rr [(4, tI v1)] (cgt 2 [17, 4] .nil) ?_
      refine r_ret ?_
      obtain rfl := Option.some.inj h
      exact ⟨.inr rfl, _, _, .cons (.copy rfl rfl rfl) .nil, rfl, outs_of trivial⟩
    have h := cond_f hb h
    refine r_condF hb rfl ?_
    refine r_skip ?_
    refine rr [(0, .u (.c (.sl false 6 (a0.map eE)))), (3, .u (.c (.pt true [.v (.int .i64 a1.f0), .v (.int .i64 a1.f1), .v (.int .i64 a1.f2), .v (.int .i64 a1.f3), .v (.bool a1.f4), .v (.bool a1.f5)]))), (7, tI (a0.length : Int)), (8, tI (i64.wrap (v1 + 1)))] (cgt 2 [18, 8] .nil) ?_
    exact ⟨i64.wrap (v1 + 1), h, of_weak (by kernel_rfl)⟩
  have h := cond_f hb h
  refine r_condF hb rfl ?_
  refine r_exit ?_
  refine r_seq ?_
  refine rr [(4, tI (-1))] (cgt 1 [4] .nil) ?_
  refine r_ret ?_
  obtain rfl := Option.some.inj h
  exact ⟨.inr rfl, _, _, .cons (.copy rfl rfl rfl) .nil, rfl, outs_of trivial⟩
set_option maxHeartbeats 4000000 in
def Contains.f (k : Nat) (a0 : List S30) (a1 : S30) : Option (Bool) :=
  (Index.f k a0 a1).bind fun (r1 : Int) => some (decide (r1 ≥ 0))
set_option maxHeartbeats 4000000 in
theorem Contains.ac (k : Nat) (a0 : List S30) (a1 : S30) (r : Bool) (h : Contains.f k a0 a1 = some r) : AC Try.prog 48 24 [.c (.sl false 6 (a0.map eE)), .agg [.v (.int .i64 a1.f0), .v (.int .i64 a1.f1), .v (.int .i64 a1.f2), .v (.int .i64 a1.f3), .v (.bool a1.f4), .v (.bool a1.f5)]] [none, none] [.c (.v (.bool r))] := by
  unfold Contains.f at h
  refine ac_intro (fn := Try.f24) (pins := []) (rts := [4]) Try.func24 rfl Try.ntmps24 rfl (Nat.le_of_ble_eq_true rfl) (pins_lt rfl) rfl (fun w R E vs => ?_)
  refine r_weak (of_weak (l := [(0, .u (.c (.sl false 6 (a0.map eE)))), (1, .u (.agg [.v (.int .i64 a1.f0), .v (.int .i64 a1.f1), .v (.int .i64 a1.f2), .v (.int .i64 a1.f3), .v (.bool a1.f4), .v (.bool a1.f5)]))]) (by kernel_rfl)) ?_
  refine r_seq ?_
  refine rr [(0, .u (.c (.sl false 6 (a0.map eE)))), (3, .u (.c (.pt true [.v (.int .i64 a1.f0), .v (.int .i64 a1.f1), .v (.int .i64 a1.f2), .v (.int .i64 a1.f3), .v (.bool a1.f4), .v (.bool a1.f5)])))] (cot 1 (os_plain rfl rfl (s_box (u := .agg [.v (.int .i64 a1.f0), .v (.int .i64 a1.f1), .v (.int .i64 a1.f2), .v (.int .i64 a1.f3), .v (.bool a1.f4), .v (.bool a1.f5)]) rfl (.copy (by kernel_rfl) (by kernel_rfl) (by kernel_rfl)) rfl (by kernel_rfl))) (cgt 2 [4] .nil)) ?_
  refine r_seq ?_
  obtain ⟨r1, hr1, h⟩ := bind_some h
  refine rr [(4, tB (decide (r1 ≥ 0)))] (cgt 2 [5, 6] (cot 3 (os_plain rfl rfl (c_callQ (AC.k (Index.ac (h := hr1))) ⟨_, Try.func39, rfl, by kernel_rfl⟩ rfl (.cons (.copy (by kernel_rfl) rfl) (.cons (.copy (by kernel_rfl) rfl) .nil)) (by kernel_rfl))) (cgt 5 [8, 4] .nil))) ?_
  refine r_ret ?_
  obtain rfl := Option.some.inj h
  exact ⟨.inr rfl, _, _, .cons (.copy rfl rfl rfl) .nil, rfl, outs_of trivial⟩
set_option maxHeartbeats 4000000 in
def FillL.f (k : Nat) (a0 : S30) (a1 : S30) : Option (Bool) :=
  (tlb_Clash.f k a0.f0 a0.f1 a0.f2 a0.f3 a0.f4 a0.f5 a1.f0 a1.f1 a1.f2 a1.f3 a1.f4 a1.f5).bind fun (r1 : Bool) => some r1
set_option maxHeartbeats 4000000 in
theorem FillL.ac (k : Nat) (a0 : S30) (a1 : S30) (r : Bool) (h : FillL.f k a0 a1 = some r) : AC Try.prog 48 27 [.agg [.v (.int .i64 a0.f0), .v (.int .i64 a0.f1), .v (.int .i64 a0.f2), .v (.int .i64 a0.f3), .v (.bool a0.f4), .v (.bool a0.f5)], .c (.pt false [.v (.int .i64 a1.f0), .v (.int .i64 a1.f1), .v (.int .i64 a1.f2), .v (.int .i64 a1.f3), .v (.bool a1.f4), .v (.bool a1.f5)])] [none, none] [.c (.v (.bool r))] := by
  unfold FillL.f at h
  refine ac_intro (fn := Try.f27) (pins := []) (rts := [3]) Try.func27 rfl Try.ntmps27 rfl (Nat.le_of_ble_eq_true rfl) (pins_lt rfl) rfl (fun w R E vs => ?_)
  refine r_weak (of_weak (l := [(0, .u (.agg [.v (.int .i64 a0.f0), .v (.int .i64 a0.f1), .v (.int .i64 a0.f2), .v (.int .i64 a0.f3), .v (.bool a0.f4), .v (.bool a0.f5)])), (1, .u (.c (.pt false [.v (.int .i64 a1.f0), .v (.int .i64 a1.f1), .v (.int .i64 a1.f2), .v (.int .i64 a1.f3), .v (.bool a1.f4), .v (.bool a1.f5)])))]) (by kernel_rfl)) ?_
  refine r_seq ?_
  refine rr [(1, .u (.c (.pt false [.v (.int .i64 a1.f0), .v (.int .i64 a1.f1), .v (.int .i64 a1.f2), .v (.int .i64 a1.f3), .v (.bool a1.f4), .v (.bool a1.f5)]))), (2, .u (.c (.pt true [.v (.int .i64 a0.f0), .v (.int .i64 a0.f1), .v (.int .i64 a0.f2), .v (.int .i64 a0.f3), .v (.bool a0.f4), .v (.bool a0.f5)])))] (cot 1 (os_plain rfl rfl (s_box (u := .agg [.v (.int .i64 a0.f0), .v (.int .i64 a0.f1), .v (.int .i64 a0.f2), .v (.int .i64 a0.f3), .v (.bool a0.f4), .v (.bool a0.f5)]) rfl (.copy (by kernel_rfl) (by kernel_rfl) (by kernel_rfl)) rfl (by kernel_rfl))) (cgt 2 [3] .nil)) ?_
  refine r_seq ?_
  obtain ⟨r1, hr1, h⟩ := bind_some h
  refine rr [(3, tB r1)] (cgt 1 [4] (cot 2 (os_plain rfl rfl (s_loadRA (n := 6) (cs := [.v (.int .i64 a1.f0), .v (.int .i64 a1.f1), .v (.int .i64 a1.f2), .v (.int .i64 a1.f3), .v (.bool a1.f4), .v (.bool a1.f5)]) rfl (aggB_ok (by kernel_rfl)) (by kernel_rfl) rfl rfl (by kernel_rfl))) (cot 3 (os_plain rfl rfl (c_callQ (AC.k (tlb_Clash.ac (h := hr1))) ⟨_, Try.func13, rfl, by kernel_rfl⟩ rfl (.cons (.copy (by kernel_rfl) rfl) (.cons (.copy (by kernel_rfl) rfl) .nil)) (by kernel_rfl))) (cgt 4 [3] .nil)))) ?_
  refine r_ret ?_
  obtain rfl := Option.some.inj h
  exact ⟨.inr rfl, _, _, .cons (.copy rfl rfl rfl) .nil, rfl, outs_of trivial⟩
set_option maxHeartbeats 4000000 in
def SpaceL.f (a0 : S30) (a1 : Int) : Option (Bool) :=
  some (a0.f0 == a1)
set_option maxHeartbeats 4000000 in
theorem SpaceL.ac (a0 : S30) (a1 : Int) (r : Bool) (h : SpaceL.f a0 a1 = some r) : AC Try.prog 48 29 [.agg [.v (.int .i64 a0.f0), .v (.int .i64 a0.f1), .v (.int .i64 a0.f2), .v (.int .i64 a0.f3), .v (.bool a0.f4), .v (.bool a0.f5)], .c (.pt false [.v (.int .i64 a1)])] [none, none] [.c (.v (.bool r))] := by
  unfold SpaceL.f at h
  refine ac_intro (fn := Try.f29) (pins := []) (rts := [3]) Try.func29 rfl Try.ntmps29 rfl (Nat.le_of_ble_eq_true rfl) (pins_lt rfl) rfl (fun w R E vs => ?_)
  refine r_weak (of_weak (l := [(0, .u (.agg [.v (.int .i64 a0.f0), .v (.int .i64 a0.f1), .v (.int .i64 a0.f2), .v (.int .i64 a0.f3), .v (.bool a0.f4), .v (.bool a0.f5)])), (1, .u (.c (.pt false [.v (.int .i64 a1)])))]) (by kernel_rfl)) ?_
  refine r_seq ?_
  refine rr [(1, .u (.c (.pt false [.v (.int .i64 a1)]))), (2, .u (.c (.pt true [.v (.int .i64 a0.f0), .v (.int .i64 a0.f1), .v (.int .i64 a0.f2), .v (.int .i64 a0.f3), .v (.bool a0.f4), .v (.bool a0.f5)])))] (cot 1 (os_plain rfl rfl (s_box (u := .agg [.v (.int .i64 a0.f0), .v (.int .i64 a0.f1), .v (.int .i64 a0.f2), .v (.int .i64 a0.f3), .v (.bool a0.f4), .v (.bool a0.f5)]) rfl (.copy (by kernel_rfl) (by kernel_rfl) (by kernel_rfl)) rfl (by kernel_rfl))) (cgt 2 [3] .nil)) ?_
  refine r_seq ?_
  refine rr [(3, tB (a0.f0 == a1))] (cgt 2 [4, 5] (cot 3 (os_plain rfl rfl (s_loadR1 (x := .v (.int .i64 a1)) (cs := [.v (.int .i64 a1)]) rfl (oneB_ok (by kernel_rfl)) (by kernel_rfl) rfl rfl rfl (by kernel_rfl))) (cgt 5 [7, 3] .nil))) ?_
  refine r_ret ?_
  obtain rfl := Option.some.inj h
  exact ⟨.inr rfl, _, _, .cons (.copy rfl rfl rfl) .nil, rfl, outs_of trivial⟩
set_option maxHeartbeats 4000000 in
def PageL.f (a0 : S30) (a1 : Int) (a2 : Int) : Option (Bool) :=
  (tlb_of.f a0.f0 a0.f1 a0.f2 a0.f3 a0.f4 a0.f5 a1 a2).bind fun (r1 : Bool) => some r1
set_option maxHeartbeats 4000000 in
theorem PageL.ac (a0 : S30) (a1 : Int) (a2 : Int) (r : Bool) (h : PageL.f a0 a1 a2 = some r) : AC Try.prog 48 32 [.agg [.v (.int .i64 a0.f0), .v (.int .i64 a0.f1), .v (.int .i64 a0.f2), .v (.int .i64 a0.f3), .v (.bool a0.f4), .v (.bool a0.f5)], .c (.pt false [.v (.int .i64 a1)]), .c (.pt false [.v (.int .i64 a2)])] [none, none, none] [.c (.v (.bool r))] := by
  unfold PageL.f at h
  refine ac_intro (fn := Try.f32) (pins := []) (rts := [4]) Try.func32 rfl Try.ntmps32 rfl (Nat.le_of_ble_eq_true rfl) (pins_lt rfl) rfl (fun w R E vs => ?_)
  refine r_weak (of_weak (l := [(0, .u (.agg [.v (.int .i64 a0.f0), .v (.int .i64 a0.f1), .v (.int .i64 a0.f2), .v (.int .i64 a0.f3), .v (.bool a0.f4), .v (.bool a0.f5)])), (1, .u (.c (.pt false [.v (.int .i64 a1)]))), (2, .u (.c (.pt false [.v (.int .i64 a2)])))]) (by kernel_rfl)) ?_
  refine r_seq ?_
  refine rr [(1, .u (.c (.pt false [.v (.int .i64 a1)]))), (2, .u (.c (.pt false [.v (.int .i64 a2)]))), (3, .u (.c (.pt true [.v (.int .i64 a0.f0), .v (.int .i64 a0.f1), .v (.int .i64 a0.f2), .v (.int .i64 a0.f3), .v (.bool a0.f4), .v (.bool a0.f5)])))] (cot 1 (os_plain rfl rfl (s_box (u := .agg [.v (.int .i64 a0.f0), .v (.int .i64 a0.f1), .v (.int .i64 a0.f2), .v (.int .i64 a0.f3), .v (.bool a0.f4), .v (.bool a0.f5)]) rfl (.copy (by kernel_rfl) (by kernel_rfl) (by kernel_rfl)) rfl (by kernel_rfl))) (cgt 2 [4] .nil)) ?_
  refine r_seq ?_
  obtain ⟨r1, hr1, h⟩ := bind_some h
  refine rr [(4, tB r1)] (cgt 1 [5] (cot 2 (os_plain rfl rfl (s_loadR1 (x := .v (.int .i64 a1)) (cs := [.v (.int .i64 a1)]) rfl (oneB_ok (by kernel_rfl)) (by kernel_rfl) rfl rfl rfl (by kernel_rfl))) (cot 3 (os_plain rfl rfl (s_loadR1 (x := .v (.int .i64 a2)) (cs := [.v (.int .i64 a2)]) rfl (oneB_ok (by kernel_rfl)) (by kernel_rfl) rfl rfl rfl (by kernel_rfl))) (cot 4 (os_plain rfl rfl (c_callQ (AC.k (tlb_of.ac (h := hr1))) ⟨_, Try.func31, rfl, by kernel_rfl⟩ rfl (.cons (.copy (by kernel_rfl) rfl) (.cons (.copy (by kernel_rfl) rfl) (.cons (.copy (by kernel_rfl) rfl) .nil))) (by kernel_rfl))) (cgt 5 [4] .nil))))) ?_
  refine r_ret ?_
  obtain rfl := Option.some.inj h
  exact ⟨.inr rfl, _, _, .cons (.copy rfl rfl rfl) .nil, rfl, outs_of trivial⟩
set_option maxHeartbeats 4000000 in
def FindL.f (a0 : S30) (a1 : Int) (a2 : Int) : Option (Bool) :=
  (tlb_of.f a0.f0 a0.f1 a0.f2 a0.f3 a0.f4 a0.f5 a1 a2).bind fun (r1 : Bool) => some r1
set_option maxHeartbeats 4000000 in
theorem FindL.ac (a0 : S30) (a1 : Int) (a2 : Int) (r : Bool) (h : FindL.f a0 a1 a2 = some r) : AC Try.prog 48 34 [.agg [.v (.int .i64 a0.f0), .v (.int .i64 a0.f1), .v (.int .i64 a0.f2), .v (.int .i64 a0.f3), .v (.bool a0.f4), .v (.bool a0.f5)], .c (.pt false [.v (.int .i64 a1)]), .c (.pt false [.v (.int .i64 a2)])] [none, none, none] [.c (.v (.bool r))] := by
  unfold FindL.f at h
  refine ac_intro (fn := Try.f34) (pins := []) (rts := [4]) Try.func34 rfl Try.ntmps34 rfl (Nat.le_of_ble_eq_true rfl) (pins_lt rfl) rfl (fun w R E vs => ?_)
  refine r_weak (of_weak (l := [(0, .u (.agg [.v (.int .i64 a0.f0), .v (.int .i64 a0.f1), .v (.int .i64 a0.f2), .v (.int .i64 a0.f3), .v (.bool a0.f4), .v (.bool a0.f5)])), (1, .u (.c (.pt false [.v (.int .i64 a1)]))), (2, .u (.c (.pt false [.v (.int .i64 a2)])))]) (by kernel_rfl)) ?_
  refine r_seq ?_
  refine rr [(1, .u (.c (.pt false [.v (.int .i64 a1)]))), (2, .u (.c (.pt false [.v (.int .i64 a2)]))), (3, .u (.c (.pt true [.v (.int .i64 a0.f0), .v (.int .i64 a0.f1), .v (.int .i64 a0.f2), .v (.int .i64 a0.f3), .v (.bool a0.f4), .v (.bool a0.f5)])))] (cot 1 (os_plain rfl rfl (s_box (u := .agg [.v (.int .i64 a0.f0), .v (.int .i64 a0.f1), .v (.int .i64 a0.f2), .v (.int .i64 a0.f3), .v (.bool a0.f4), .v (.bool a0.f5)]) rfl (.copy (by kernel_rfl) (by kernel_rfl) (by kernel_rfl)) rfl (by kernel_rfl))) (cgt 2 [4] .nil)) ?_
  refine r_seq ?_
  obtain ⟨r1, hr1, h⟩ := bind_some h
  refine rr [(4, tB r1)] (cgt 1 [5] (cot 2 (os_plain rfl rfl (s_loadR1 (x := .v (.int .i64 a1)) (cs := [.v (.int .i64 a1)]) rfl (oneB_ok (by kernel_rfl)) (by kernel_rfl) rfl rfl rfl (by kernel_rfl))) (cot 3 (os_plain rfl rfl (s_loadR1 (x := .v (.int .i64 a2)) (cs := [.v (.int .i64 a2)]) rfl (oneB_ok (by kernel_rfl)) (by kernel_rfl) rfl rfl rfl (by kernel_rfl))) (cot 4 (os_plain rfl rfl (c_callQ (AC.k (tlb_of.ac (h := hr1))) ⟨_, Try.func31, rfl, by kernel_rfl⟩ rfl (.cons (.copy (by kernel_rfl) rfl) (.cons (.copy (by kernel_rfl) rfl) (.cons (.copy (by kernel_rfl) rfl) .nil))) (by kernel_rfl))) (cgt 5 [4] .nil))))) ?_
  refine r_ret ?_
  obtain rfl := Option.some.inj h
  exact ⟨.inr rfl, _, _, .cons (.copy rfl rfl rfl) .nil, rfl, outs_of trivial⟩
def IndexFunc.l1 (k : Nat) (a0 : List S30) (a1 : S30 → Option Bool) : Nat → Int → Option (Int)
  | 0, _ => none
  | n1 + 1, v1 => (bif decide (v1 < (a0.length : Int)) then (bif decide (0 ≤ v1) && decide (v1 < (a0.length : Int)) then (a1 (a0.getD v1.toNat z30)).bind fun (r3 : Bool) => (bif r3 then some v1 else IndexFunc.l1 k a0 a1 n1 (i64.wrap (v1 + 1))) else none) else some (-1))
set_option maxHeartbeats 4000000 in
def IndexFunc.f (k : Nat) (a0 : List S30) (a1 : S30 → Option Bool) : Option (Int) :=
  IndexFunc.l1 k a0 a1 k 0
set_option maxHeartbeats 4000000 in
theorem IndexFunc.ac (k : Nat) (a0 : List S30) (a1 : S30 → Option Bool) (a1F : FnB Try.prog 48 encE a1) (r : Int) (h : IndexFunc.f k a0 a1 = some r) : AC Try.prog 48 33 [.c (.sl false 6 (a0.map eE)), .fn a1F.f a1F.caps] [none, none] [.c (.v (.int .i64 r))] := by
  unfold IndexFunc.f at h
  refine ac_intro (fn := Try.f33) (pins := []) (rts := [4]) Try.func33 rfl Try.ntmps33 rfl (Nat.le_of_ble_eq_true rfl) (pins_lt rfl) rfl (fun w R E vs => ?_)
  refine r_weak (of_weak (l := [(0, .u (.c (.sl false 6 (a0.map eE)))), (1, .u (.fn a1F.f a1F.caps))]) (by kernel_rfl)) ?_
  refine r_seq ?_
  refine rr [(0, .u (.c (.sl false 6 (a0.map eE)))), (1, .u (.fn a1F.f a1F.caps))] (cgt 1 [4] .nil) ?_
  refine r_seq ?_
  refine r_seq ?_
  refine rr [(0, .u (.c (.sl false 6 (a0.map eE)))), (1, .u (.fn a1F.f a1F.caps)), (7, tI (a0.length : Int)), (8, tI 0)] (cgt 1 [6] (cot 2 (os_to (os_plain rfl rfl (s_lenU (own := false) (sz := 6) (rows := (a0.map eE)) rfl sl22 (by kernel_rfl) rfl (by kernel_rfl))) (t' := tI (a0.length : Int)) (by rw [List.length_map])) (cgt 3 [8] .nil))) ?_
  refine r_block ?_
  refine r_weak (of_weak (l := [(0, .u (.c (.sl false 6 (a0.map eE)))), (1, .u (.fn a1F.f a1F.caps)), (7, tI (a0.length : Int)), (8, tI 0)]) (by kernel_rfl)) ?_
  refine r_loopI (α := Int) (fun x => [(0, .u (.c (.sl false 6 (a0.map eE)))), (1, .u (.fn a1F.f a1F.caps)), (7, tI (a0.length : Int)), (8, tI x)]) (fun n x => IndexFunc.l1 k a0 a1 n x = some r) k 0 h (by intro x h; unfold IndexFunc.l1 at h; cases h) ?_
  rintro n1 v1 h
  replace h : IndexFunc.l1 k a0 a1 (n1 + 1) v1 = some r := h
  unfold IndexFunc.l1 at h
  show Run _ _ _ (St.of [(0, .u (.c (.sl false 6 (a0.map eE)))), (1, .u (.fn a1F.f a1F.caps)), (7, tI (a0.length : Int)), (8, tI v1)]) _
  refine r_seq ?_
  refine rr [(0, .u (.c (.sl false 6 (a0.map eE)))), (1, .u (.fn a1F.f a1F.caps)), (7, tI (a0.length : Int)), (8, tI v1), (9, tB (decide (v1 < (a0.length : Int))))] (cgt 1 [9] .nil) ?_
  refine r_seq ?_
  rcases Bool.eq_false_or_eq_true (decide (v1 < (a0.length : Int))) with hb | hb
  · have h := cond_t hb h
    refine r_condT hb rfl ?_
    refine r_skip ?_
    refine r_seq ?_
    refine r_block ?_
    refine r_seq ?_
    refine rr [(0, .u (.c (.sl false 6 (a0.map eE)))), (1, .u (.fn a1F.f a1F.caps)), (5, tI v1), (7, tI (a0.length : Int)), (8, tI v1)] (cgt 2 [10, 5] .nil) ?_
    refine r_seq ?_
    obtain ⟨hg2, h⟩ := guard_some h
    simp only [Bool.and_eq_true, decide_eq_true_eq] at hg2
    obtain ⟨r3, hr3, h⟩ := bind_some h
    refine rr [(0, .u (.c (.sl false 6 (a0.map eE)))), (1, .u (.fn a1F.f a1F.caps)), (5, tI v1), (7, tI (a0.length : Int)), (8, tI v1), (16, tB r3)] (cgt 3 [11, 12, 13] (cot 4 (os_plain rfl rfl (s_indexU (own := false) (sz := 6) (rows := (a0.map eE)) (e := v1) (ik := .i64) rfl sl22 (by kernel_rfl) (.tmp (by kernel_rfl)) hg2.1 (by rw [List.length_map]; exact hg2.2) rfl (by kernel_rfl) (by kernel_rfl))) (cot 5 (os_plain rfl rfl (s_loadA (n := 6) (xs := [.v (.int .i64 ((a0.getD v1.toNat z30).f0)), .v (.int .i64 ((a0.getD v1.toNat z30).f1)), .v (.int .i64 ((a0.getD v1.toNat z30).f2)), .v (.int .i64 ((a0.getD v1.toNat z30).f3)), .v (.bool ((a0.getD v1.toNat z30).f4)), .v (.bool ((a0.getD v1.toNat z30).f5))]) (r := 12) (off := 0) (s := .i v1.toNat 6) (p := []) (c := .sl false 6 (a0.map eE)) (cs := eE (a0.getD v1.toNat z30)) rfl (aggB_ok (by kernel_rfl)) (by kernel_rfl) (by kernel_rfl) (getP_map z30 (by have := hg2; omega)) rfl rfl rfl rfl (by kernel_rfl))) (cot 6 (os_plain rfl rfl (s_callQ (res := [.c (.v (.bool r3))]) rfl a1F.ok (.u (by kernel_rfl)) (.cons (.copy (by kernel_rfl) rfl) .nil) (AC.k (a1F.ac _ _ hr3)) (by kernel_rfl))) .nil)))) ?_
    rcases Bool.eq_false_or_eq_true (r3) with hb | hb
    · have h := cond_t hb h
      refine r_condT hb rfl ?_
      refine r_seq ?_
      refine rr [(4, tI v1)] (cgt 2 [17, 4] .nil) ?_
      refine r_ret ?_
      obtain rfl := Option.some.inj h
      exact ⟨.inr rfl, _, _, .cons (.copy rfl rfl rfl) .nil, rfl, outs_of trivial⟩
    have h := cond_f hb h
    refine r_condF hb rfl ?_
    refine r_skip ?_
    refine rr [(0, .u (.c (.sl false 6 (a0.map eE)))), (1, .u (.fn a1F.f a1F.caps)), (7, tI (a0.length : Int)), (8, tI (i64.wrap (v1 + 1)))] (cgt 2 [18, 8] .nil) ?_
    exact ⟨i64.wrap (v1 + 1), h, of_weak (by kernel_rfl)⟩
  have h := cond_f hb h
  refine r_condF hb rfl ?_
  refine r_exit ?_
  refine r_seq ?_
  refine rr [(4, tI (-1))] (cgt 1 [4] .nil) ?_
  refine r_ret ?_
  obtain rfl := Option.some.inj h
  exact ⟨.inr rfl, _, _, .cons (.copy rfl rfl rfl) .nil, rfl, outs_of trivial⟩
set_option maxHeartbeats 4000000 in
def ContainsFunc.f (k : Nat) (a0 : List S30) (a1 : S30 → Option Bool) : Option (Bool) :=
  (IndexFunc.f k a0 a1).bind fun (r1 : Int) => some (decide (r1 ≥ 0))
set_option maxHeartbeats 4000000 in
theorem ContainsFunc.ac (k : Nat) (a0 : List S30) (a1 : S30 → Option Bool) (a1F : FnB Try.prog 48 encE a1) (r : Bool) (h : ContainsFunc.f k a0 a1 = some r) : AC Try.prog 48 26 [.c (.sl false 6 (a0.map eE)), .fn a1F.f a1F.caps] [none, none] [.c (.v (.bool r))] := by
  unfold ContainsFunc.f at h
  refine ac_intro (fn := Try.f26) (pins := []) (rts := [4]) Try.func26 rfl Try.ntmps26 rfl (Nat.le_of_ble_eq_true rfl) (pins_lt rfl) rfl (fun w R E vs => ?_)
  refine r_weak (of_weak (l := [(0, .u (.c (.sl false 6 (a0.map eE)))), (1, .u (.fn a1F.f a1F.caps))]) (by kernel_rfl)) ?_
  refine r_seq ?_
  refine rr [(0, .u (.c (.sl false 6 (a0.map eE)))), (1, .u (.fn a1F.f a1F.caps))] (cgt 1 [4] .nil) ?_
  refine r_seq ?_
  obtain ⟨r1, hr1, h⟩ := bind_some h
  refine rr [(4, tB (decide (r1 ≥ 0)))] (cgt 2 [5, 6] (cot 3 (os_plain rfl rfl (c_callQ (AC.k (IndexFunc.ac (a1F := a1F) (h := hr1))) ⟨_, Try.func33, rfl, by kernel_rfl⟩ rfl (.cons (.copy (by kernel_rfl) rfl) (.cons (.copy (by kernel_rfl) rfl) .nil)) (by kernel_rfl))) (cgt 5 [8, 4] .nil))) ?_
  refine r_ret ?_
  obtain rfl := Option.some.inj h
  exact ⟨.inr rfl, _, _, .cons (.copy rfl rfl rfl) .nil, rfl, outs_of trivial⟩
def DeleteFunc.l1 (k : Nat) (a0 : List S30) (a1 : S30 → Option Bool) (r1 : Int) : Nat → (List S30) → Int → Int → Option ((List S30))
  | 0, _, _, _ => none
  | n1 + 1, v2, v3, v4 => (bif decide (v4 < (v2.length : Int)) then (bif decide (0 ≤ v4) && decide (v4 < (v2.length : Int)) then (a1 (v2.getD ((v4).toNat) z30)).bind fun (r6 : Bool) => (bif !r6 then (bif decide (0 ≤ v3) && decide (v3 < (v2.length : Int)) then DeleteFunc.l1 k a0 a1 r1 n1 (v2.set ((v3).toNat) (v2.getD ((v4).toNat) z30)) (i64.wrap (v3 + 1)) (i64.wrap (v4 + 1)) else none) else DeleteFunc.l1 k a0 a1 r1 n1 v2 v3 (i64.wrap (v4 + 1))) else none) else (bif decide (0 ≤ v3) && decide (v3.toNat ≤ v2.length) then (bif decide (0 ≤ v3) && decide (v3.toNat ≤ (v2.take (0 + v3.toNat) ++ (List.replicate ((v2.map eE).length - v3.toNat) z30 ++ v2.drop ((0 + v3.toNat) + ((v2.map eE).length - v3.toNat)))).length) then some ((v2.take (0 + v3.toNat) ++ (List.replicate ((v2.map eE).length - v3.toNat) z30 ++ v2.drop ((0 + v3.toNat) + ((v2.map eE).length - v3.toNat)))).take (v3.toNat - 0)) else none) else none))
set_option maxHeartbeats 4000000 in
def DeleteFunc.f (k : Nat) (a0 : List S30) (a1 : S30 → Option Bool) : Option ((List S30)) :=
  (IndexFunc.f k a0 a1).bind fun (r1 : Int) => (bif r1 == (-1) then some a0 else DeleteFunc.l1 k a0 a1 r1 k a0 r1 (i64.wrap (r1 + 1)))
set_option maxHeartbeats 4000000 in
theorem DeleteFunc.ac (k : Nat) (a0 : List S30) (a1 : S30 → Option Bool) (a1F : FnB Try.prog 48 encE a1) (r : (List S30)) (h : DeleteFunc.f k a0 a1 = some r) : AC Try.prog 48 40 [.c (.sl true 6 (a0.map eE)), .fn a1F.f a1F.caps] [none, none] [.c (.sl true 6 (r.map eE))] := by
  unfold DeleteFunc.f at h
  refine ac_intro (fn := Try.f40) (pins := []) (rts := [4]) Try.func40 rfl Try.ntmps40 rfl (Nat.le_of_ble_eq_true rfl) (pins_lt rfl) rfl (fun w R E vs => ?_)
  refine r_weak (of_weak (l := [(0, .u (.c (.sl true 6 (a0.map eE)))), (1, .u (.fn a1F.f a1F.caps))]) (by kernel_rfl)) ?_
  refine r_seq ?_
  refine rr [(0, .u (.c (.sl true 6 (a0.map eE)))), (1, .u (.fn a1F.f a1F.caps))] (cot 1 (os_plain rfl rfl (s_take (.inr rfl) (.sl 6) rfl (by kernel_rfl))) .nil) ?_
  refine r_seq ?_
  obtain ⟨r1, hr1, h⟩ := bind_some h
  refine rr [(0, .u (.c (.sl true 6 (a0.map eE)))), (1, .u (.fn a1F.f a1F.caps)), (5, tI r1)] (cgt 2 [8, 9] (cot 3 (os_plain rfl rfl (c_callQL (res := [.c (.v (.int .i64 r1))]) (AC.k (IndexFunc.ac (a1F := a1F) (h := hr1))) ⟨_, Try.func33, rfl, by kernel_rfl⟩ rfl (.cons (.view (.v0 (r := 0) (lo := 0) (n := (a0.map eE).length) (own := true) (rows := a0.map eE) (by kernel_rfl) (by kernel_rfl) rows_all) (copy_map eE_copy)) (.cons (.copy (.copy (by kernel_rfl) rfl)) .nil)) (⟨trivial, trivial⟩) (by kernel_rfl))) (cgt 4 [5] .nil))) ?_
  refine r_seq ?_
  refine r_seq ?_
  refine rr [(0, .u (.c (.sl true 6 (a0.map eE)))), (1, .u (.fn a1F.f a1F.caps)), (5, tI r1), (12, tB (r1 == (-1)))] (cgt 2 [11, 12] .nil) ?_
  rcases Bool.eq_false_or_eq_true (r1 == (-1)) with hb | hb
  · have h := cond_t hb h
    refine r_condT hb rfl ?_
    refine r_seq ?_
    refine rr [(4, .u (.c (.sl true 6 (a0.map eE))))] (cot 1 (os_plain rfl rfl (s_take (u := .c (.sl true 6 (a0.map eE))) (.inl rfl) (.move (by kernel_rfl) rfl) rfl (by kernel_rfl))) (cot 2 (os_plain rfl rfl (s_take (u := .c (.sl true 6 (a0.map eE))) (.inr rfl) (.move (by kernel_rfl) rfl) rfl (by kernel_rfl))) .nil)) ?_
    refine r_ret ?_
    obtain rfl := Option.some.inj h
    exact ⟨.inr rfl, _, _, .cons (.move rfl rfl) .nil, rfl, outs_of trivial⟩
  have h := cond_f hb h
  refine r_condF hb rfl ?_
  refine r_skip ?_
  refine r_seq ?_
  refine r_seq ?_
  refine rr [(0, .u (.c (.sl true 6 (a0.map eE)))), (1, .u (.fn a1F.f a1F.caps)), (5, tI r1), (6, tI (i64.wrap (r1 + 1)))] (cgt 3 [14, 15, 6] .nil) ?_
  refine r_block ?_
  refine r_weak (of_weak (l := [(0, .u (.c (.sl true 6 (a0.map eE)))), (1, .u (.fn a1F.f a1F.caps)), (5, tI r1), (6, tI (i64.wrap (r1 + 1)))]) (by kernel_rfl)) ?_
  refine r_loopI (α := (List S30) × Int × Int) (fun x => [(0, .u (.c (.sl true 6 (x.1.map eE)))), (1, .u (.fn a1F.f a1F.caps)), (5, tI x.2.1), (6, tI x.2.2)]) (fun n x => DeleteFunc.l1 k a0 a1 r1 n x.1 x.2.1 x.2.2 = some r) k (a0, r1, i64.wrap (r1 + 1)) h (by intro x h; unfold DeleteFunc.l1 at h; cases h) ?_
  rintro n1 ⟨v2, v3, v4⟩ h
  replace h : DeleteFunc.l1 k a0 a1 r1 (n1 + 1) v2 v3 v4 = some r := h
  unfold DeleteFunc.l1 at h
  show Run _ _ _ (St.of [(0, .u (.c (.sl true 6 (v2.map eE)))), (1, .u (.fn a1F.f a1F.caps)), (5, tI v3), (6, tI v4)]) _
  refine r_seq ?_
  refine r_seq ?_
  refine rr [(0, .u (.c (.sl true 6 (v2.map eE)))), (1, .u (.fn a1F.f a1F.caps)), (5, tI v3), (6, tI v4), (19, tB (decide (v4 < (v2.length : Int))))] (cgt 2 [16, 17] (cot 3 (os_to (os_plain rfl rfl (s_lenV (r := 0) (lo := 0) (n := (v2.map eE).length) (pl := none) (sz := 6) rfl sl22 (by kernel_rfl) rfl (by kernel_rfl))) (t' := tI (v2.length : Int)) (by rw [List.length_map])) (cgt 4 [19] .nil))) ?_
  rcases Bool.eq_false_or_eq_true (decide (v4 < (v2.length : Int))) with hb | hb
  · have h := cond_t hb h
    refine r_condT hb rfl ?_
    refine r_skip ?_
    refine r_seq ?_
    refine r_block ?_
    refine r_seq ?_
    obtain ⟨hg5, h⟩ := guard_some h
    simp only [Bool.and_eq_true, decide_eq_true_eq] at hg5
    refine rr [(0, .u (.c (.sl true 6 (v2.map eE)))), (1, .u (.fn a1F.f a1F.caps)), (5, tI v3), (6, tI v4), (7, .u (.c (.pt true [.v (.int .i64 ((v2.getD ((v4).toNat) z30).f0)), .v (.int .i64 ((v2.getD ((v4).toNat) z30).f1)), .v (.int .i64 ((v2.getD ((v4).toNat) z30).f2)), .v (.int .i64 ((v2.getD ((v4).toNat) z30).f3)), .v (.bool ((v2.getD ((v4).toNat) z30).f4)), .v (.bool ((v2.getD ((v4).toNat) z30).f5))])))] (cgt 2 [22, 23] (cot 3 (os_plain rfl rfl (s_indexV (r := 0) (lo := 0) (n := (v2.map eE).length) (pl := none) (sz := 6) (e := v4) (ik := .i64) (k := (v4).toNat) rfl sl22 (by kernel_rfl) (.tmp (by kernel_rfl)) hg5.1 (by rw [List.length_map]; exact hg5.2) (Nat.zero_add _) rfl (by kernel_rfl) (by kernel_rfl))) (cot 4 (os_plain rfl rfl (s_loadA (n := 6) (xs := [.v (.int .i64 ((v2.getD ((v4).toNat) z30).f0)), .v (.int .i64 ((v2.getD ((v4).toNat) z30).f1)), .v (.int .i64 ((v2.getD ((v4).toNat) z30).f2)), .v (.int .i64 ((v2.getD ((v4).toNat) z30).f3)), .v (.bool ((v2.getD ((v4).toNat) z30).f4)), .v (.bool ((v2.getD ((v4).toNat) z30).f5))]) (r := 0) (off := 0) (s := .i ((v4).toNat) 6) (p := []) (c := .sl true 6 (v2.map eE)) (cs := eE (v2.getD ((v4).toNat) z30)) rfl (aggB_ok (by kernel_rfl)) (by kernel_rfl) (by kernel_rfl) (getP_map z30 (by have := hg5; omega)) rfl rfl rfl rfl (by kernel_rfl))) (cot 5 (os_plain rfl rfl (s_alloc rfl zero30 rfl (by kernel_rfl))) (cot 6 (os_plain rfl rfl (s_storeS (n := 6) (r := 7) (off := 0) (s := .d) (p := []) (c := .pt true [.v (.int .i64 0), .v (.int .i64 0), .v (.int .i64 0), .v (.int .i64 0), .v (.bool false), .v (.bool false)]) (cs := [.v (.int .i64 0), .v (.int .i64 0), .v (.int .i64 0), .v (.int .i64 0), .v (.bool false), .v (.bool false)]) (u := .agg [.v (.int .i64 ((v2.getD ((v4).toNat) z30).f0)), .v (.int .i64 ((v2.getD ((v4).toNat) z30).f1)), .v (.int .i64 ((v2.getD ((v4).toNat) z30).f2)), .v (.int .i64 ((v2.getD ((v4).toNat) z30).f3)), .v (.bool ((v2.getD ((v4).toNat) z30).f4)), .v (.bool ((v2.getD ((v4).toNat) z30).f5))]) rfl (by kernel_rfl) (by kernel_rfl) (by kernel_rfl) rfl (by kernel_rfl) rfl rfl rfl rfl (Nat.le_of_ble_eq_true rfl) (by kernel_rfl) (by kernel_rfl) rfl rfl)) .nil))))) ?_
    refine r_seq ?_
    obtain ⟨r6, hr6, h⟩ := bind_some h
    refine rr [(0, .u (.c (.sl true 6 (v2.map eE)))), (1, .u (.fn a1F.f a1F.caps)), (5, tI v3), (6, tI v4), (7, .u (.c (.pt true [.v (.int .i64 ((v2.getD ((v4).toNat) z30).f0)), .v (.int .i64 ((v2.getD ((v4).toNat) z30).f1)), .v (.int .i64 ((v2.getD ((v4).toNat) z30).f2)), .v (.int .i64 ((v2.getD ((v4).toNat) z30).f3)), .v (.bool ((v2.getD ((v4).toNat) z30).f4)), .v (.bool ((v2.getD ((v4).toNat) z30).f5))]))), (29, tB (!r6))] (cgt 2 [26, 27] (cot 3 (os_plain rfl rfl (s_callQ (res := [.c (.v (.bool r6))]) rfl a1F.ok (.u (by kernel_rfl)) (.cons (.copy (by kernel_rfl) rfl) .nil) (AC.k (a1F.ac _ _ hr6)) (by kernel_rfl))) (cgt 4 [29] .nil))) ?_
    rcases Bool.eq_false_or_eq_true (!r6) with hb | hb
    · have h := cond_t hb h
      refine r_condT hb rfl ?_
      refine r_seq ?_
      obtain ⟨hg7, h⟩ := guard_some h
      simp only [Bool.and_eq_true, decide_eq_true_eq] at hg7
      refine rr [(0, .u (.c (.sl true 6 ((v2.set ((v3).toNat) (v2.getD ((v4).toNat) z30)).map eE)))), (1, .u (.fn a1F.f a1F.caps)), (5, tI v3), (6, tI v4)] (cgt 3 [30, 31, 32] (cot 4 (os_plain rfl rfl (s_indexV (r := 0) (lo := 0) (n := (v2.map eE).length) (pl := none) (sz := 6) (e := v3) (ik := .i64) (k := (v3).toNat) rfl sl22 (by kernel_rfl) (.tmp (by kernel_rfl)) hg7.1 (by rw [List.length_map]; exact hg7.2) (Nat.zero_add _) rfl (by kernel_rfl) (by kernel_rfl))) (cot 5 (os_plain rfl rfl (s_storeR (f := eE) (k := 0) (sz := 0) (n := 6) (r := 0) (off := 0) (s := .i ((v3).toNat) 6) (p := []) (c := .sl true 6 (v2.map eE)) (cs := eE (v2.getD ((v3).toNat) z30)) (u := .agg [.v (.int .i64 ((v2.getD ((v4).toNat) z30).f0)), .v (.int .i64 ((v2.getD ((v4).toNat) z30).f1)), .v (.int .i64 ((v2.getD ((v4).toNat) z30).f2)), .v (.int .i64 ((v2.getD ((v4).toNat) z30).f3)), .v (.bool ((v2.getD ((v4).toNat) z30).f4)), .v (.bool ((v2.getD ((v4).toNat) z30).f5))]) (us := [.v (.int .i64 ((v2.getD ((v4).toNat) z30).f0)), .v (.int .i64 ((v2.getD ((v4).toNat) z30).f1)), .v (.int .i64 ((v2.getD ((v4).toNat) z30).f2)), .v (.int .i64 ((v2.getD ((v4).toNat) z30).f3)), .v (.bool ((v2.getD ((v4).toNat) z30).f4)), .v (.bool ((v2.getD ((v4).toNat) z30).f5))]) (c' := .sl true 6 ((v2.set ((v3).toNat) (v2.getD ((v4).toNat) z30)).map eE)) rfl (by kernel_rfl) (by kernel_rfl) (by kernel_rfl) rfl (by kernel_rfl) (getP_map (f := eE) (own := true) (xs := v2) (k := (v3).toNat) z30 (by have := hg7; omega)) (by kernel_rfl) rfl rfl (Nat.le_of_ble_eq_true rfl) (by kernel_rfl) (by kernel_rfl) (by kernel_rfl) rfl (row_set (f := eE) (l := v2) (k := (v3).toNat) (y := (v2.getD ((v4).toNat) z30)) rfl))) .nil))) ?_
      refine rr [(0, .u (.c (.sl true 6 ((v2.set ((v3).toNat) (v2.getD ((v4).toNat) z30)).map eE)))), (1, .u (.fn a1F.f a1F.caps)), (5, tI (i64.wrap (v3 + 1))), (6, tI v4)] (cgt 3 [34, 35, 5] .nil) ?_
      refine rr [(0, .u (.c (.sl true 6 ((v2.set ((v3).toNat) (v2.getD ((v4).toNat) z30)).map eE)))), (1, .u (.fn a1F.f a1F.caps)), (5, tI (i64.wrap (v3 + 1))), (6, tI (i64.wrap (v4 + 1)))] (cgt 3 [20, 21, 6] .nil) ?_
      exact ⟨((v2.set ((v3).toNat) (v2.getD ((v4).toNat) z30)), i64.wrap (v3 + 1), i64.wrap (v4 + 1)), h, of_weak (by kernel_rfl)⟩
    have h := cond_f hb h
    refine r_condF hb rfl ?_
    refine r_skip ?_
    refine rr [(0, .u (.c (.sl true 6 (v2.map eE)))), (1, .u (.fn a1F.f a1F.caps)), (5, tI v3), (6, tI (i64.wrap (v4 + 1)))] (cgt 3 [20, 21, 6] .nil) ?_
    exact ⟨(v2, v3, i64.wrap (v4 + 1)), h, of_weak (by kernel_rfl)⟩
  have h := cond_f hb h
  refine r_condF hb rfl ?_
  refine r_exit ?_
  refine r_seq ?_
  obtain ⟨hg8, h⟩ := guard_some h
  simp only [Bool.and_eq_true, decide_eq_true_eq] at hg8
  refine rr [(0, .u (.c (.sl true 6 ((v2.take (0 + v3.toNat) ++ (List.replicate ((v2.map eE).length - v3.toNat) z30 ++ v2.drop ((0 + v3.toNat) + ((v2.map eE).length - v3.toNat)))).map eE)))), (5, tI v3)] (cgt 2 [36, 37] (cot 3 (os_plain rfl rfl (s_sliceV (r := 0) (pl := none) (sz := 6) (lo := 0) (n := (v2.map eE).length) (lx := (some (.tmp 37))) (hx := none) (l := (some v3.toNat)) (h := none) (l' := v3.toNat) (h' := (v2.map eE).length) rfl sl22 (by kernel_rfl) (.some (k := .i64) (e := v3) (by kernel_rfl) (by have := hg8; omega)) .none rfl rfl (by first | (rw [List.length_map]; have := hg8; omega) | (have := hg8; omega) | (simp only [List.length_map]; have := hg8; omega)) (Nat.le_refl _) rfl (by kernel_rfl) (by kernel_rfl))) (cot 4 (os_plain rfl rfl (s_clearM (f := eE) (l := v2) (z := z30) (i := 38) (r := 0) (sz := 6) (lo := (0 + v3.toNat)) (n := ((v2.map eE).length - v3.toNat)) rfl sliceZ22 rfl (by kernel_rfl) (by kernel_rfl) eE_copy (by first | (simp only [List.length_map]; have := hg8; omega) | (have h0 := hg8; simp only [List.length_map, List.length_take, List.length_drop, List.length_append, List.length_replicate] at h0 ⊢; omega)) rfl)) .nil))) ?_
  refine r_seq ?_
  obtain ⟨hg9, h⟩ := guard_some h
  simp only [Bool.and_eq_true, decide_eq_true_eq] at hg9
  refine rr [(4, .u (.c (.sl true 6 (((v2.take (0 + v3.toNat) ++ (List.replicate ((v2.map eE).length - v3.toNat) z30 ++ v2.drop ((0 + v3.toNat) + ((v2.map eE).length - v3.toNat)))).take (v3.toNat - 0)).map eE))))] (cot 1 (os_plain rfl rfl (s_take (u := .c (.sl true 6 ((v2.take (0 + v3.toNat) ++ (List.replicate ((v2.map eE).length - v3.toNat) z30 ++ v2.drop ((0 + v3.toNat) + ((v2.map eE).length - v3.toNat)))).map eE))) (.inl rfl) (.move (by kernel_rfl) rfl) rfl (by kernel_rfl))) (cgt 2 [40] (cot 3 (os_plain rfl rfl (s_sliceV (r := 39) (pl := none) (sz := 6) (lo := 0) (n := ((v2.take (0 + v3.toNat) ++ (List.replicate ((v2.map eE).length - v3.toNat) z30 ++ v2.drop ((0 + v3.toNat) + ((v2.map eE).length - v3.toNat)))).map eE).length) (lx := none) (hx := (some (.tmp 40))) (l := none) (h := (some v3.toNat)) (l' := 0) (h' := v3.toNat) rfl sl22 (by kernel_rfl) .none (.some (k := .i64) (e := v3) (by kernel_rfl) (by have := hg9; omega)) rfl rfl (by first | (rw [List.length_map]; have := hg9; omega) | (have := hg9; omega) | (simp only [List.length_map]; have := hg9; omega)) (by first | (rw [List.length_map]; have := hg9; omega) | (have := hg9; omega) | (simp only [List.length_map]; have := hg9; omega)) rfl (by kernel_rfl) (by kernel_rfl))) (cot 4 (os_plain rfl rfl (s_takeViewM (f := eE) (l := (v2.take (0 + v3.toNat) ++ (List.replicate ((v2.map eE).length - v3.toNat) z30 ++ v2.drop ((0 + v3.toNat) + ((v2.map eE).length - v3.toNat))))) (i := 41) (r := 39) (sz := 6) (lo := (0 + 0)) (n := (v3.toNat - 0)) (.inr rfl) (by kernel_rfl) rfl (by kernel_rfl) eE_copy rfl (by kernel_rfl))) .nil)))) ?_
  refine r_ret ?_
  obtain rfl := Option.some.inj h
  exact ⟨.inr rfl, _, _, .cons (.move rfl rfl) .nil, rfl, outs_of trivial⟩
set_option maxHeartbeats 4000000 in
def drop.f (k : Nat) (a0 : Buf) (a1 : S30 → Option Bool) : Option (Buf) :=
  (Clone.f k a0.l).bind fun (r1 : (List S30)) => (DeleteFunc.f k r1 a1).bind fun (r2 : (List S30)) => some (⟨r2, a0.b⟩ : Buf)
set_option maxHeartbeats 4000000 in
theorem drop.ac (k : Nat) (a0 : Buf) (a1 : S30 → Option Bool) (a1F : FnB Try.prog 48 encE a1) (r : Buf) (h : drop.f k a0 a1 = some r) : AC Try.prog 48 28 [.c (bufC a0), .fn a1F.f a1F.caps] [some (.c (bufC r)), none] [] := by
  unfold drop.f at h
  refine ac_intro (fn := Try.f28) (pins := [0]) (rts := []) Try.func28 rfl Try.ntmps28 rfl (Nat.le_of_ble_eq_true rfl) (pins_lt rfl) rfl (fun w R E vs => ?_)
  refine r_weak (of_weak (l := [(0, .u (.c (bufC a0))), (1, .u (.fn a1F.f a1F.caps))]) (by kernel_rfl)) ?_
  obtain ⟨r1, hr1, h⟩ := bind_some h
  obtain ⟨r2, hr2, h⟩ := bind_some h
  refine rr [(0, .u (.c (.pt true [.sl true 6 (r2.map eE), .v (.bool a0.b)])))] (cgt 5 [4, 5, 6, 7, 8] (cot 6 (os_plain rfl rfl (c_callQL (res := [.c (.sl true 6 (r1.map eE))]) (AC.k (Clone.ac (h := hr1))) ⟨_, Try.func25, rfl, by kernel_rfl⟩ rfl (.cons (.view (.v1 (r := 0) (lo := 0) (n := (a0.l.map eE).length) (off := 0) (s := .d) (p := []) (c := bufC a0) (cs := [.sl true 6 (a0.l.map eE), .v (.bool a0.b)]) (own := true) (rows := a0.l.map eE) (by kernel_rfl) (by kernel_rfl) rfl rfl rows_all) (copy_map eE_copy)) .nil) (⟨⟨rfl, mine_map (fun _ => rfl)⟩, trivial⟩) (by kernel_rfl))) (cgt 7 [10] (cot 8 (os_plain rfl rfl (c_call (AC.k (DeleteFunc.ac (a1F := a1F) (h := hr2))) ⟨_, Try.func40, rfl, by kernel_rfl⟩ rfl (Args.move (by kernel_rfl) (.rd (.copy (by kernel_rfl) rfl) .nil)) rfl (by kernel_rfl))) (cgt 10 [12, 13] (cot 11 (os_plain rfl rfl (s_store (n := 1) (r := 0) (off := 0) (s := .d) (p := []) (c := bufC a0) (cs := [.sl true 6 (a0.l.map eE), .v (.bool a0.b)]) (u := .c (.sl true 6 (r2.map eE))) (l := [11]) rfl (by kernel_rfl) (by kernel_rfl) (.move (by kernel_rfl) (by kernel_rfl)) (by kernel_rfl) rfl rfl rfl (Nat.le_of_ble_eq_true rfl) (by kernel_rfl) rfl)) .nil)))))) ?_
  obtain rfl := Option.some.inj h
  exact ⟨.inl rfl, _, _, .nil, rfl, outs_of ⟨⟨rfl, rfl⟩, trivial⟩⟩
set_option maxHeartbeats 4000000 in
def Delete.f (k : Nat) (a0 : List S30) (a1 : Int) (a2 : Int) : Option ((List S30)) :=
  (bif decide (0 ≤ a1) && decide (0 ≤ a2) && decide (0 ≤ (a0.length : Int)) && decide (a1.toNat ≤ a2.toNat) && decide (a2.toNat ≤ (a0.length : Int).toNat) && decide ((a0.length : Int).toNat ≤ a0.length) then (bif a1 == a2 then some a0 else (bif decide (0 ≤ a1) && decide (a1.toNat ≤ a0.length) then (bif decide (0 ≤ a2) && decide (a2.toNat ≤ a0.length) then (bif decide ((a1.toNat - 0) + ((a0.drop (0 + a2.toNat)).take (((a0.map eE).length - a2.toNat))).length ≤ a0.length) then (bif decide (0 ≤ ((((a1.toNat - 0) + ((a0.drop (0 + a2.toNat)).take (((a0.map eE).length - a2.toNat))).length) : Nat) : Int)) && decide (0 ≤ (a0.length : Int)) && decide (((((a1.toNat - 0) + ((a0.drop (0 + a2.toNat)).take (((a0.map eE).length - a2.toNat))).length) : Nat) : Int).toNat ≤ (a0.length : Int).toNat) && decide (0 + (a0.length : Int).toNat ≤ (a0.take ((a1.toNat - 0)) ++ (((a0.drop (0 + a2.toNat)).take (((a0.map eE).length - a2.toNat))) ++ a0.drop ((a1.toNat - 0) + ((a0.drop (0 + a2.toNat)).take (((a0.map eE).length - a2.toNat))).length))).length) then some (((a0.take ((a1.toNat - 0)) ++ (((a0.drop (0 + a2.toNat)).take (((a0.map eE).length - a2.toNat))) ++ a0.drop ((a1.toNat - 0) + ((a0.drop (0 + a2.toNat)).take (((a0.map eE).length - a2.toNat))).length))).take (0 + ((((a1.toNat - 0) + ((a0.drop (0 + a2.toNat)).take (((a0.map eE).length - a2.toNat))).length) : Nat) : Int).toNat) ++ (List.replicate ((a0.length : Int).toNat - ((((a1.toNat - 0) + ((a0.drop (0 + a2.toNat)).take (((a0.map eE).length - a2.toNat))).length) : Nat) : Int).toNat) z30 ++ (a0.take ((a1.toNat - 0)) ++ (((a0.drop (0 + a2.toNat)).take (((a0.map eE).length - a2.toNat))) ++ a0.drop ((a1.toNat - 0) + ((a0.drop (0 + a2.toNat)).take (((a0.map eE).length - a2.toNat))).length))).drop ((0 + ((((a1.toNat - 0) + ((a0.drop (0 + a2.toNat)).take (((a0.map eE).length - a2.toNat))).length) : Nat) : Int).toNat) + ((a0.length : Int).toNat - ((((a1.toNat - 0) + ((a0.drop (0 + a2.toNat)).take (((a0.map eE).length - a2.toNat))).length) : Nat) : Int).toNat)))).take ((a1.toNat - 0) + ((a0.drop (0 + a2.toNat)).take (((a0.map eE).length - a2.toNat))).length)) else none) else none) else none) else none)) else none)
set_option maxHeartbeats 4000000 in
theorem Delete.ac (k : Nat) (a0 : List S30) (a1 : Int) (a2 : Int) (r : (List S30)) (h : Delete.f k a0 a1 a2 = some r) : AC Try.prog 48 36 [.c (.sl true 6 (a0.map eE)), .c (.v (.int .i64 a1)), .c (.v (.int .i64 a2))] [none, none, none] [.c (.sl true 6 (r.map eE))] := by
  unfold Delete.f at h
  refine ac_intro (fn := Try.f36) (pins := []) (rts := [6]) Try.func36 rfl Try.ntmps36 rfl (Nat.le_of_ble_eq_true rfl) (pins_lt rfl) rfl (fun w R E vs => ?_)
  refine r_weak (of_weak (l := [(0, .u (.c (.sl true 6 (a0.map eE)))), (1, tI a1), (2, tI a2)]) (by kernel_rfl)) ?_
  refine r_seq ?_
  refine rr [(0, .u (.c (.sl true 6 (a0.map eE)))), (1, tI a1), (2, tI a2)] (cot 1 (os_plain rfl rfl (s_take (.inr rfl) (.sl 6) rfl (by kernel_rfl))) .nil) ?_
  refine r_seq ?_
  obtain ⟨hg1, h⟩ := guard_some h
  simp only [Bool.and_eq_true, decide_eq_true_eq] at hg1
  refine rr [(0, .u (.c (.sl true 6 (a0.map eE)))), (1, tI a1), (2, tI a2)] (cgt 4 [8, 9, 10, 11] (cot 5 (os_to (os_plain rfl rfl (s_lenV (r := 0) (lo := 0) (n := (a0.map eE).length) (pl := none) (sz := 6) rfl sl22 (by kernel_rfl) rfl (by kernel_rfl))) (t' := tI (a0.length : Int)) (by rw [List.length_map])) (cot 6 (os_plain rfl rfl (s_slice3 (r := 0) (pl := none) (sz := 6) (lo := 0) (n := (a0.map eE).length) (lx := (some (.tmp 9))) (hx := (some (.tmp 10))) (mx := (some (.tmp 12))) (l := (some a1.toNat)) (h := (some a2.toNat)) (m := (some (a0.length : Int).toNat)) (l' := a1.toNat) (h' := a2.toNat) (m' := (a0.length : Int).toNat) rfl sl22 (by kernel_rfl) (.some (k := .i64) (e := a1) (by kernel_rfl) (by have := hg1; omega)) (.some (k := .i64) (e := a2) (by kernel_rfl) (by have := hg1; omega)) (.some (k := .i64) (e := (a0.length : Int)) (by kernel_rfl) (by have := hg1; omega)) rfl rfl rfl (by first | (rw [List.length_map]; have := hg1; omega) | (have := hg1; omega) | (simp only [List.length_map]; have := hg1; omega)) (by first | (rw [List.length_map]; have := hg1; omega) | (have := hg1; omega) | (simp only [List.length_map]; have := hg1; omega)) (by first | (rw [List.length_map]; have := hg1; omega) | (have := hg1; omega) | (simp only [List.length_map]; have := hg1; omega)) rfl (by kernel_rfl))) .nil))) ?_
  refine r_seq ?_
  refine r_seq ?_
  refine rr [(0, .u (.c (.sl true 6 (a0.map eE)))), (1, tI a1), (2, tI a2), (16, tB (a1 == a2))] (cgt 3 [14, 15, 16] .nil) ?_
  rcases Bool.eq_false_or_eq_true (a1 == a2) with hb | hb
  · have h := cond_t hb h
    refine r_condT hb rfl ?_
    refine r_seq ?_
    refine rr [(6, .u (.c (.sl true 6 (a0.map eE))))] (cot 1 (os_plain rfl rfl (s_take (u := .c (.sl true 6 (a0.map eE))) (.inl rfl) (.move (by kernel_rfl) rfl) rfl (by kernel_rfl))) (cot 2 (os_plain rfl rfl (s_take (u := .c (.sl true 6 (a0.map eE))) (.inr rfl) (.move (by kernel_rfl) rfl) rfl (by kernel_rfl))) .nil)) ?_
    refine r_ret ?_
    obtain rfl := Option.some.inj h
    exact ⟨.inr rfl, _, _, .cons (.move rfl rfl) .nil, rfl, outs_of trivial⟩
  have h := cond_f hb h
  refine r_condF hb rfl ?_
  refine r_skip ?_
  refine r_seq ?_
  refine rr [(0, .whole 18 none 6 ((a0.map eE).length)), (1, tI a1), (2, tI a2), (7, tI (a0.length : Int)), (18, .u (.c (.sl true 6 (a0.map eE))))] (cot 1 (os_plain rfl rfl (s_reroot (i := 0) (sz := 6) (rows := a0.map eE) rfl (by kernel_rfl) rfl (by kernel_rfl) (by kernel_rfl))) (cot 2 (os_to (os_plain rfl rfl (s_lenV (r := 18) (lo := 0) (n := (a0.map eE).length) (pl := none) (sz := 6) rfl sl22 (by kernel_rfl) rfl (by kernel_rfl))) (t' := tI (a0.length : Int)) (by rw [List.length_map])) (cgt 3 [7] .nil))) ?_
  refine r_seq ?_
  obtain ⟨hg2, h⟩ := guard_some h
  simp only [Bool.and_eq_true, decide_eq_true_eq] at hg2
  obtain ⟨hg3, h⟩ := guard_some h
  simp only [Bool.and_eq_true, decide_eq_true_eq] at hg3
  obtain ⟨hg4, h⟩ := guard_some h
  simp only [decide_eq_true_eq] at hg4
  refine r_weak (of_weak (l := [(0, .whole 18 none 6 ((a0.map eE).length)), (1, tI a1), (2, tI a2), (7, tI (a0.length : Int)), (18, .u (.c (.sl true 6 (a0.map eE))))]) (by kernel_rfl)) ?_
  refine r_anyW (l := [(0, .view 18 none 6 0 ((a1.toNat - 0) + ((a0.drop (0 + a2.toNat)).take (((a0.map eE).length - a2.toNat))).length)), (7, tI (a0.length : Int)), (18, .u (.c (.sl true 6 ((a0.take ((a1.toNat - 0)) ++ (((a0.drop (0 + a2.toNat)).take (((a0.map eE).length - a2.toNat))) ++ a0.drop ((a1.toNat - 0) + ((a0.drop (0 + a2.toNat)).take (((a0.map eE).length - a2.toNat))).length))).map eE))))]) (tab := [[], [], [0, 1], [], [], [3, 4], [2, 5], [6, 6, 0, 1, 2, 3, 4, 5, 6]]) [ev [] [0] 20 (.whole 18 none 6 ((a0.map eE).length)), ev [] [1] 21 (tI a1), ev [0, 1] [18, 20, 21] 22 (.view 18 none 6 (0 + 0) (a1.toNat - 0)), ev [] [0] 23 (.whole 18 none 6 ((a0.map eE).length)), ev [] [2] 24 (tI a2), ev [3, 4] [18, 23, 24] 25 (.view 18 none 6 (0 + a2.toNat) ((a0.map eE).length - a2.toNat)), ⟨List.range 6, [18, 22, 25], [(26, .view 18 none 6 0 ((a1.toNat - 0) + ((a0.drop (0 + a2.toNat)).take (((a0.map eE).length - a2.toNat))).length)), (18, .u (.c (.sl true 6 ((a0.take ((a1.toNat - 0)) ++ (((a0.drop (0 + a2.toNat)).take (((a0.map eE).length - a2.toNat))) ++ a0.drop ((a1.toNat - 0) + ((a0.drop (0 + a2.toNat)).take (((a0.map eE).length - a2.toNat))).length))).map eE))))], some 26, true⟩, eu 7 [26] 0 (.view 18 none 6 0 ((a1.toNat - 0) + ((a0.drop (0 + a2.toNat)).take (((a0.map eE).length - a2.toNat))).length))] hm (by kernel_rfl) (by kernel_rfl) (by kernel_rfl) (en (en (.cons (fun σ hc => e_put hc rfl rfl (os_plain rfl rfl (s_sliceV (r := 18) (pl := none) (sz := 6) (lo := 0) (n := (a0.map eE).length) (lx := none) (hx := (some (.tmp 21))) (l := none) (h := (some a1.toNat)) (l' := 0) (h' := a1.toNat) rfl sl22 (by kernel_rfl) .none (.some (k := .i64) (e := a1) (by kernel_rfl) (by have := hg2; omega)) rfl rfl (by first | (rw [List.length_map]; have := hg2; omega) | (have := hg2; omega) | (simp only [List.length_map]; have := hg2; omega)) (by first | (rw [List.length_map]; have := hg2; omega) | (have := hg2; omega) | (simp only [List.length_map]; have := hg2; omega)) rfl (by kernel_rfl) (by kernel_rfl)))) (en (en (.cons (fun σ hc => e_put hc rfl rfl (os_plain rfl rfl (s_sliceV (r := 18) (pl := none) (sz := 6) (lo := 0) (n := (a0.map eE).length) (lx := (some (.tmp 24))) (hx := none) (l := (some a2.toNat)) (h := none) (l' := a2.toNat) (h' := (a0.map eE).length) rfl sl22 (by kernel_rfl) (.some (k := .i64) (e := a2) (by kernel_rfl) (by have := hg3; omega)) .none rfl rfl (by first | (rw [List.length_map]; have := hg3; omega) | (have := hg3; omega) | (simp only [List.length_map]; have := hg3; omega)) (Nat.le_refl _) rfl (by kernel_rfl) (by kernel_rfl)))) (.cons (fun σ hc => e_eq (os_plain rfl rfl (s_appendInM (f := eE) (l0 := a0) (l2 := ((a0.drop (0 + a2.toNat)).take (((a0.map eE).length - a2.toNat)))) (i := 22) (r := 18) (sz := 6) (l := (a1.toNat - 0)) rfl sl22 (by kernel_rfl) (by kernel_rfl) eE_copy (.v0 (r := 18) (lo := (0 + a2.toNat)) (n := ((a0.map eE).length - a2.toNat)) (own := true) (rows := a0.map eE) (by kernel_rfl) (by kernel_rfl) view_map) hg4 rfl (by kernel_rfl) (by kernel_rfl))) (putkill_over hc rfl rfl rfl)) (en .nil)))))))) (by kernel_rfl) ?_
  refine r_seq ?_
  obtain ⟨hg5, h⟩ := guard_some h
  simp only [Bool.and_eq_true, decide_eq_true_eq] at hg5
  refine rr [(0, .view 18 none 6 0 ((a1.toNat - 0) + ((a0.drop (0 + a2.toNat)).take (((a0.map eE).length - a2.toNat))).length)), (18, .u (.c (.sl true 6 (((a0.take ((a1.toNat - 0)) ++ (((a0.drop (0 + a2.toNat)).take (((a0.map eE).length - a2.toNat))) ++ a0.drop ((a1.toNat - 0) + ((a0.drop (0 + a2.toNat)).take (((a0.map eE).length - a2.toNat))).length))).take (0 + ((((a1.toNat - 0) + ((a0.drop (0 + a2.toNat)).take (((a0.map eE).length - a2.toNat))).length) : Nat) : Int).toNat) ++ (List.replicate ((a0.length : Int).toNat - ((((a1.toNat - 0) + ((a0.drop (0 + a2.toNat)).take (((a0.map eE).length - a2.toNat))).length) : Nat) : Int).toNat) z30 ++ (a0.take ((a1.toNat - 0)) ++ (((a0.drop (0 + a2.toNat)).take (((a0.map eE).length - a2.toNat))) ++ a0.drop ((a1.toNat - 0) + ((a0.drop (0 + a2.toNat)).take (((a0.map eE).length - a2.toNat))).length))).drop ((0 + ((((a1.toNat - 0) + ((a0.drop (0 + a2.toNat)).take (((a0.map eE).length - a2.toNat))).length) : Nat) : Int).toNat) + ((a0.length : Int).toNat - ((((a1.toNat - 0) + ((a0.drop (0 + a2.toNat)).take (((a0.map eE).length - a2.toNat))).length) : Nat) : Int).toNat)))).map eE))))] (cgt 2 [27, 28] (cot 3 (os_plain rfl rfl (s_lenV (r := 18) (lo := 0) (n := ((a1.toNat - 0) + ((a0.drop (0 + a2.toNat)).take (((a0.map eE).length - a2.toNat))).length)) (pl := none) (sz := 6) rfl sl22 (by kernel_rfl) rfl (by kernel_rfl))) (cgt 4 [30] (cot 5 (os_plain rfl rfl (s_sliceB (r := 18) (own := true) (rows := (a0.take ((a1.toNat - 0)) ++ (((a0.drop (0 + a2.toNat)).take (((a0.map eE).length - a2.toNat))) ++ a0.drop ((a1.toNat - 0) + ((a0.drop (0 + a2.toNat)).take (((a0.map eE).length - a2.toNat))).length))).map eE) (sz := 6) (lo := 0) (n := ((a1.toNat - 0) + ((a0.drop (0 + a2.toNat)).take (((a0.map eE).length - a2.toNat))).length)) (lx := (some (.tmp 29))) (hx := (some (.tmp 30))) (l := (some ((((a1.toNat - 0) + ((a0.drop (0 + a2.toNat)).take (((a0.map eE).length - a2.toNat))).length) : Nat) : Int).toNat)) (h := (some (a0.length : Int).toNat)) (l' := ((((a1.toNat - 0) + ((a0.drop (0 + a2.toNat)).take (((a0.map eE).length - a2.toNat))).length) : Nat) : Int).toNat) (h' := (a0.length : Int).toNat) rfl sl22 (by kernel_rfl) (by kernel_rfl) (.some (k := .i64) (e := ((((a1.toNat - 0) + ((a0.drop (0 + a2.toNat)).take (((a0.map eE).length - a2.toNat))).length) : Nat) : Int)) (by kernel_rfl) (by have := hg5; omega)) (.some (k := .i64) (e := (a0.length : Int)) (by kernel_rfl) (by have := hg5; omega)) rfl rfl (by first | (rw [List.length_map]; have := hg5; omega) | (have := hg5; omega) | (simp only [List.length_map]; have := hg5; omega)) (by first | (rw [List.length_map]; have := hg5; omega) | (have := hg5; omega) | (simp only [List.length_map]; have := hg5; omega)) rfl (by kernel_rfl) (by kernel_rfl))) (cot 6 (os_plain rfl rfl (s_clearM (f := eE) (l := (a0.take ((a1.toNat - 0)) ++ (((a0.drop (0 + a2.toNat)).take (((a0.map eE).length - a2.toNat))) ++ a0.drop ((a1.toNat - 0) + ((a0.drop (0 + a2.toNat)).take (((a0.map eE).length - a2.toNat))).length)))) (z := z30) (i := 31) (r := 18) (sz := 6) (lo := (0 + ((((a1.toNat - 0) + ((a0.drop (0 + a2.toNat)).take (((a0.map eE).length - a2.toNat))).length) : Nat) : Int).toNat)) (n := ((a0.length : Int).toNat - ((((a1.toNat - 0) + ((a0.drop (0 + a2.toNat)).take (((a0.map eE).length - a2.toNat))).length) : Nat) : Int).toNat)) rfl sliceZ22 rfl (by kernel_rfl) (by kernel_rfl) eE_copy (by first | (simp only [List.length_map]; have := hg5; omega) | (have h0 := hg5; simp only [List.length_map, List.length_take, List.length_drop, List.length_append, List.length_replicate] at h0 ⊢; omega)) rfl)) .nil))))) ?_
  refine r_seq ?_
  refine rr [(6, .u (.c (.sl true 6 ((((a0.take ((a1.toNat - 0)) ++ (((a0.drop (0 + a2.toNat)).take (((a0.map eE).length - a2.toNat))) ++ a0.drop ((a1.toNat - 0) + ((a0.drop (0 + a2.toNat)).take (((a0.map eE).length - a2.toNat))).length))).take (0 + ((((a1.toNat - 0) + ((a0.drop (0 + a2.toNat)).take (((a0.map eE).length - a2.toNat))).length) : Nat) : Int).toNat) ++ (List.replicate ((a0.length : Int).toNat - ((((a1.toNat - 0) + ((a0.drop (0 + a2.toNat)).take (((a0.map eE).length - a2.toNat))).length) : Nat) : Int).toNat) z30 ++ (a0.take ((a1.toNat - 0)) ++ (((a0.drop (0 + a2.toNat)).take (((a0.map eE).length - a2.toNat))) ++ a0.drop ((a1.toNat - 0) + ((a0.drop (0 + a2.toNat)).take (((a0.map eE).length - a2.toNat))).length))).drop ((0 + ((((a1.toNat - 0) + ((a0.drop (0 + a2.toNat)).take (((a0.map eE).length - a2.toNat))).length) : Nat) : Int).toNat) + ((a0.length : Int).toNat - ((((a1.toNat - 0) + ((a0.drop (0 + a2.toNat)).take (((a0.map eE).length - a2.toNat))).length) : Nat) : Int).toNat)))).take ((a1.toNat - 0) + ((a0.drop (0 + a2.toNat)).take (((a0.map eE).length - a2.toNat))).length)).map eE))))] (cgt 1 [32] (cot 2 (os_plain rfl rfl (s_takeViewM (f := eE) (l := ((a0.take ((a1.toNat - 0)) ++ (((a0.drop (0 + a2.toNat)).take (((a0.map eE).length - a2.toNat))) ++ a0.drop ((a1.toNat - 0) + ((a0.drop (0 + a2.toNat)).take (((a0.map eE).length - a2.toNat))).length))).take (0 + ((((a1.toNat - 0) + ((a0.drop (0 + a2.toNat)).take (((a0.map eE).length - a2.toNat))).length) : Nat) : Int).toNat) ++ (List.replicate ((a0.length : Int).toNat - ((((a1.toNat - 0) + ((a0.drop (0 + a2.toNat)).take (((a0.map eE).length - a2.toNat))).length) : Nat) : Int).toNat) z30 ++ (a0.take ((a1.toNat - 0)) ++ (((a0.drop (0 + a2.toNat)).take (((a0.map eE).length - a2.toNat))) ++ a0.drop ((a1.toNat - 0) + ((a0.drop (0 + a2.toNat)).take (((a0.map eE).length - a2.toNat))).length))).drop ((0 + ((((a1.toNat - 0) + ((a0.drop (0 + a2.toNat)).take (((a0.map eE).length - a2.toNat))).length) : Nat) : Int).toNat) + ((a0.length : Int).toNat - ((((a1.toNat - 0) + ((a0.drop (0 + a2.toNat)).take (((a0.map eE).length - a2.toNat))).length) : Nat) : Int).toNat))))) (i := 32) (r := 18) (sz := 6) (lo := 0) (n := ((a1.toNat - 0) + ((a0.drop (0 + a2.toNat)).take (((a0.map eE).length - a2.toNat))).length)) (.inr rfl) (by kernel_rfl) rfl (by kernel_rfl) eE_copy rfl (by kernel_rfl))) .nil)) ?_
  refine r_ret ?_
  obtain rfl := Option.some.inj h
  exact ⟨.inr rfl, _, _, .cons (.move rfl rfl) .nil, rfl, outs_of trivial⟩
set_option maxHeartbeats 4000000 in
def New.f  : Option (Buf) :=
  some (⟨[], false⟩ : Buf)
set_option maxHeartbeats 4000000 in
theorem New.ac  (r : Buf) (h : New.f  = some r) : AC Try.prog 48 7 [] [] [.c (bufC r)] := by
  unfold New.f at h
  refine ac_intro (fn := Try.f7) (pins := []) (rts := [0]) Try.func7 rfl Try.ntmps7 rfl (Nat.le_of_ble_eq_true rfl) (pins_lt rfl) rfl (fun w R E vs => ?_)
  refine r_weak (of_weak (l := []) (by kernel_rfl)) ?_
  refine r_seq ?_
  refine rr [] (cgt 1 [0] .nil) ?_
  refine r_seq ?_
  refine rr [(0, .u (.c (.pt true [.sl true 6 ([].map eE), .v (.bool false)])))] (cot 1 (os_plain rfl rfl (s_build (us := []) (zs := [.sl true 6 ([].map eE), .v (.bool false)]) (cs := [.sl true 6 ([].map eE), .v (.bool false)]) rfl build53 zero53 .nil (by kernel_rfl) rfl (by kernel_rfl))) (cot 2 (os_plain rfl rfl (s_box (u := .agg [.sl true 6 ([].map eE), .v (.bool false)]) rfl (.move (by kernel_rfl) (by kernel_rfl)) rfl (by kernel_rfl))) (cot 3 (os_plain rfl rfl (s_take (u := .c (.pt true [.sl true 6 ([].map eE), .v (.bool false)])) (.inr rfl) (.move (by kernel_rfl) rfl) rfl (by kernel_rfl))) .nil))) ?_
  refine r_ret ?_
  obtain rfl := Option.some.inj h
  exact ⟨.inr rfl, _, _, .cons (.move rfl rfl) .nil, rfl, outs_of trivial⟩
set_option maxHeartbeats 4000000 in
def Broken.f (k : Nat) (a0 : Buf) : Option (Buf × Bool) :=
  some (a0, a0.b)
set_option maxHeartbeats 4000000 in
theorem Broken.ac (k : Nat) (a0 : Buf) (r : Buf × Bool) (h : Broken.f k a0 = some r) : AC Try.prog 48 12 [.c (bufC a0)] [some (.c (bufC r.1))] [.c (.v (.bool r.2))] := by
  unfold Broken.f at h
  refine ac_intro (fn := Try.f12) (pins := [0]) (rts := [2]) Try.func12 rfl Try.ntmps12 rfl (Nat.le_of_ble_eq_true rfl) (pins_lt rfl) rfl (fun w R E vs => ?_)
  refine r_weak (of_weak (l := [(0, .u (.c (bufC a0)))]) (by kernel_rfl)) ?_
  refine r_seq ?_
  refine rr [(0, .u (.c (bufC a0)))] (cgt 1 [2] .nil) ?_
  refine r_seq ?_
  refine rr [(0, .u (.c (bufC a0))), (2, tB a0.b)] (cgt 5 [3, 4, 5, 6, 2] .nil) ?_
  refine r_ret ?_
  obtain rfl := Option.some.inj h
  exact ⟨.inr rfl, _, _, .cons (.copy rfl rfl rfl) .nil, rfl, outs_of ⟨⟨rfl, rfl⟩, trivial⟩⟩
set_option maxHeartbeats 4000000 in
def Entries.f (k : Nat) (a0 : Buf) : Option (Buf × (List S30)) :=
  (Clone.f k a0.l).bind fun (r1 : (List S30)) => some (a0, r1)
set_option maxHeartbeats 4000000 in
theorem Entries.ac (k : Nat) (a0 : Buf) (r : Buf × (List S30)) (h : Entries.f k a0 = some r) : AC Try.prog 48 9 [.c (bufC a0)] [some (.c (bufC r.1))] [.c (.sl true 6 (r.2.map eE))] := by
  unfold Entries.f at h
  refine ac_intro (fn := Try.f9) (pins := [0]) (rts := [2]) Try.func9 rfl Try.ntmps9 rfl (Nat.le_of_ble_eq_true rfl) (pins_lt rfl) rfl (fun w R E vs => ?_)
  refine r_weak (of_weak (l := [(0, .u (.c (bufC a0)))]) (by kernel_rfl)) ?_
  refine r_seq ?_
  refine rr [(0, .u (.c (bufC a0)))] (cot 1 (os_plain rfl rfl (s_take (.inr rfl) (.sl 6) rfl (by kernel_rfl))) .nil) ?_
  refine r_seq ?_
  obtain ⟨r1, hr1, h⟩ := bind_some h
  refine rr [(0, .u (.c (bufC a0))), (2, .u (.c (.sl true 6 (r1.map eE))))] (cgt 4 [3, 4, 5, 6] (cot 5 (os_plain rfl rfl (c_callQL (res := [.c (.sl true 6 (r1.map eE))]) (AC.k (Clone.ac (h := hr1))) ⟨_, Try.func25, rfl, by kernel_rfl⟩ rfl (.cons (.view (.v1 (r := 0) (lo := 0) (n := (a0.l.map eE).length) (off := 0) (s := .d) (p := []) (c := bufC a0) (cs := [.sl true 6 (a0.l.map eE), .v (.bool a0.b)]) (own := true) (rows := a0.l.map eE) (by kernel_rfl) (by kernel_rfl) rfl rfl rows_all) (copy_map eE_copy)) .nil) (⟨⟨rfl, mine_map (fun _ => rfl)⟩, trivial⟩) (by kernel_rfl))) (cot 6 (os_plain rfl rfl (s_take (u := .c (.sl true 6 (r1.map eE))) (.inr rfl) (.move (by kernel_rfl) rfl) rfl (by kernel_rfl))) .nil))) ?_
  refine r_ret ?_
  obtain rfl := Option.some.inj h
  exact ⟨.inr rfl, _, _, .cons (.move rfl rfl) .nil, rfl, outs_of ⟨⟨rfl, rfl⟩, trivial⟩⟩
set_option maxHeartbeats 4000000 in
def Fill.f (k : Nat) (a0 : Buf) (a1 : S30) : Option (Buf × (Option Int)) :=
  (tlb_may.f k a1.f0 a1.f1 a1.f2 a1.f3 a1.f4 a1.f5).bind fun (r1 : Bool) => (bif !r1 then some (a0, (some 1)) else (Contains.f k a0.l a1).bind fun (r2 : Bool) => (bif r2 then some (a0, none) else (bif (a0.l.length : Int) == 64 then (bif decide (1 ≤ a0.l.length) then (Clone.f k ((a0.l.drop (0 + 1)).take (((a0.l.map eE).length - 1)))).bind fun (r4 : (List S30)) => (bif a0.b then (bif decide (r4.length + [a1].length ≤ 1000000) then some ((⟨(r4 ++ [a1]), true⟩ : Buf), none) else none) else (ContainsFunc.f k r4 (fun (x0 : S30) => FillL.f k x0 a1)).bind fun (r8 : Bool) => (bif decide (r4.length + [a1].length ≤ 1000000) then some ((⟨(r4 ++ [a1]), r8⟩ : Buf), none) else none)) else none) else (bif a0.b then (bif decide (a0.l.length + [a1].length ≤ 1000000) then some ((⟨(a0.l ++ [a1]), true⟩ : Buf), none) else none) else (ContainsFunc.f k a0.l (fun (x0 : S30) => FillL.f k x0 a1)).bind fun (r13 : Bool) => (bif decide (a0.l.length + [a1].length ≤ 1000000) then some ((⟨(a0.l ++ [a1]), r13⟩ : Buf), none) else none)))))
set_option maxHeartbeats 4000000 in
theorem Fill.ac (k : Nat) (a0 : Buf) (a1 : S30) (r : Buf × (Option Int)) (h : Fill.f k a0 a1 = some r) : AC Try.prog 48 8 [.c (bufC a0), .agg [.v (.int .i64 a1.f0), .v (.int .i64 a1.f1), .v (.int .i64 a1.f2), .v (.int .i64 a1.f3), .v (.bool a1.f4), .v (.bool a1.f5)]] [some (.c (bufC r.1)), none] [.c (.err r.2)] := by
  unfold Fill.f at h
  refine ac_intro (fn := Try.f8) (pins := [0]) (rts := [4]) Try.func8 rfl Try.ntmps8 rfl (Nat.le_of_ble_eq_true rfl) (pins_lt rfl) rfl (fun w R E vs => ?_)
  refine r_weak (of_weak (l := [(0, .u (.c (bufC a0))), (1, .u (.agg [.v (.int .i64 a1.f0), .v (.int .i64 a1.f1), .v (.int .i64 a1.f2), .v (.int .i64 a1.f3), .v (.bool a1.f4), .v (.bool a1.f5)]))]) (by kernel_rfl)) ?_
  refine r_seq ?_
  refine rr [(0, .u (.c (bufC a0))), (3, .u (.c (.pt true [.v (.int .i64 a1.f0), .v (.int .i64 a1.f1), .v (.int .i64 a1.f2), .v (.int .i64 a1.f3), .v (.bool a1.f4), .v (.bool a1.f5)])))] (cot 1 (os_plain rfl rfl (s_box (u := .agg [.v (.int .i64 a1.f0), .v (.int .i64 a1.f1), .v (.int .i64 a1.f2), .v (.int .i64 a1.f3), .v (.bool a1.f4), .v (.bool a1.f5)]) rfl (.copy (by kernel_rfl) (by kernel_rfl) (by kernel_rfl)) rfl (by kernel_rfl))) (cgt 2 [4] .nil)) ?_
  refine r_seq ?_
  refine r_block ?_
  refine r_seq ?_
  obtain ⟨r1, hr1, h⟩ := bind_some h
  refine rr [(0, .u (.c (bufC a0))), (3, .u (.c (.pt true [.v (.int .i64 a1.f0), .v (.int .i64 a1.f1), .v (.int .i64 a1.f2), .v (.int .i64 a1.f3), .v (.bool a1.f4), .v (.bool a1.f5)]))), (5, tB (!r1))] (cgt 1 [6] (cot 2 (os_plain rfl rfl (c_callQ (AC.k (tlb_may.ac (h := hr1))) ⟨_, Try.func23, rfl, by kernel_rfl⟩ rfl (.cons (.copy (by kernel_rfl) rfl) .nil) (by kernel_rfl))) (cgt 4 [8, 5] .nil))) ?_
  rcases Bool.eq_false_or_eq_true (!r1) with hb | hb
  · have h := cond_t hb h
    refine r_condT hb rfl ?_
    refine r_seq ?_
    refine rr [(0, .u (.c (bufC a0))), (4, .u (.c (.err (some 1))))] (cot 1 (os_plain rfl rfl (s_iface (n := 1) rfl (errB_ok (by kernel_rfl)) rfl (by kernel_rfl) rfl (by kernel_rfl))) (cgt 2 [4] .nil)) ?_
    refine r_ret ?_
    obtain rfl := Option.some.inj h
    exact ⟨.inr rfl, _, _, .cons (.copy rfl rfl rfl) .nil, rfl, outs_of ⟨⟨rfl, rfl⟩, trivial⟩⟩
  have h := cond_f hb h
  refine r_condF hb rfl ?_
  refine r_seq ?_
  obtain ⟨r2, hr2, h⟩ := bind_some h
  refine r_weak (of_weak (l := [(0, .u (.c (bufC a0))), (3, .u (.c (.pt true [.v (.int .i64 a1.f0), .v (.int .i64 a1.f1), .v (.int .i64 a1.f2), .v (.int .i64 a1.f3), .v (.bool a1.f4), .v (.bool a1.f5)]))), (5, tB (!r1))]) (by kernel_rfl)) ?_
  refine r_anyW (l := [(0, .u (.c (bufC a0))), (3, .u (.c (.pt true [.v (.int .i64 a1.f0), .v (.int .i64 a1.f1), .v (.int .i64 a1.f2), .v (.int .i64 a1.f3), .v (.bool a1.f4), .v (.bool a1.f5)]))), (10, tB r2)]) (tab := [[], [0], [1], [2], [], [3, 4], [5, 5]]) [ev [] [0] 11 (.addr 0 (.d) [] 0), ev [0] [11] 12 (.addr 0 (.d) [] 0), ev [0, 1] [12] 13 (.addr 0 (.d) [] 0), ev [0, 1, 2] [0, 13] 14 (.whole 0 (some (.d, [], 0)) 6 ((a0.l.map eE).length)), ev [] [3] 15 (.u (.agg [.v (.int .i64 a1.f0), .v (.int .i64 a1.f1), .v (.int .i64 a1.f2), .v (.int .i64 a1.f3), .v (.bool a1.f4), .v (.bool a1.f5)])), ev [0, 1, 2, 3, 4] [0, 14, 15] 16 (tB r2), eu 6 [16] 10 (tB r2)] hm (by kernel_rfl) (by kernel_rfl) (by kernel_rfl) (en (en (en (en (en (.cons (fun σ hc => e_put hc rfl rfl (os_plain rfl rfl (c_callQL (res := [.c (.v (.bool r2))]) (AC.k (Contains.ac (h := hr2))) ⟨_, Try.func24, rfl, by kernel_rfl⟩ rfl (.cons (.view (.v1 (r := 0) (lo := 0) (n := (a0.l.map eE).length) (off := 0) (s := .d) (p := []) (c := bufC a0) (cs := [.sl true 6 (a0.l.map eE), .v (.bool a0.b)]) (own := true) (rows := a0.l.map eE) (by kernel_rfl) (by kernel_rfl) rfl rfl rows_all) (copy_map eE_copy)) (.cons (.copy (.copy (by kernel_rfl) rfl)) .nil)) (⟨trivial, trivial⟩) (by kernel_rfl)))) (en .nil))))))) (by kernel_rfl) ?_
  rcases Bool.eq_false_or_eq_true (r2) with hb | hb
  · have h := cond_t hb h
    refine r_condT hb rfl ?_
    refine r_seq ?_
    refine rr [(0, .u (.c (bufC a0))), (4, .u (.c (.err none)))] (cgt 1 [4] .nil) ?_
    refine r_ret ?_
    obtain rfl := Option.some.inj h
    exact ⟨.inr rfl, _, _, .cons (.copy rfl rfl rfl) .nil, rfl, outs_of ⟨⟨rfl, rfl⟩, trivial⟩⟩
  have h := cond_f hb h
  refine r_condF hb rfl ?_
  refine r_seq ?_
  refine rr [(0, .u (.c (bufC a0))), (3, .u (.c (.pt true [.v (.int .i64 a1.f0), .v (.int .i64 a1.f1), .v (.int .i64 a1.f2), .v (.int .i64 a1.f3), .v (.bool a1.f4), .v (.bool a1.f5)]))), (17, tB ((a0.l.length : Int) == 64))] (cgt 4 [18, 19, 20, 21] (cot 5 (os_to (os_plain rfl rfl (s_lenV (r := 0) (lo := 0) (n := (a0.l.map eE).length) (pl := (some (.d, [], 0))) (sz := 6) rfl sl22 (by kernel_rfl) rfl (by kernel_rfl))) (t' := tI (a0.l.length : Int)) (by rw [List.length_map])) (cgt 7 [23, 17] .nil))) ?_
  rcases Bool.eq_false_or_eq_true ((a0.l.length : Int) == 64) with hb | hb
  · have h := cond_t hb h
    refine r_condT hb rfl ?_
    obtain ⟨hg3, h⟩ := guard_some h
    simp only [Bool.and_eq_true, decide_eq_true_eq] at hg3
    obtain ⟨r4, hr4, h⟩ := bind_some h
    refine rr [(0, .u (.c (.pt true [.sl true 6 (r4.map eE), .v (.bool a0.b)]))), (3, .u (.c (.pt true [.v (.int .i64 a1.f0), .v (.int .i64 a1.f1), .v (.int .i64 a1.f2), .v (.int .i64 a1.f3), .v (.bool a1.f4), .v (.bool a1.f5)])))] (cgt 5 [24, 25, 26, 27, 28] (cot 6 (os_plain rfl rfl (s_sliceV (r := 0) (pl := (some (.d, [], 0))) (sz := 6) (lo := 0) (n := (a0.l.map eE).length) (lx := (some (.const (.int .i64 1)))) (hx := none) (l := (some 1)) (h := none) (l' := 1) (h' := (a0.l.map eE).length) rfl sl22 (by kernel_rfl) (.some (k := .i64) (e := 1) (by kernel_rfl) (by decide)) .none rfl rfl (by first | (rw [List.length_map]; have := hg3; omega) | (have := hg3; omega) | (simp only [List.length_map]; have := hg3; omega)) (Nat.le_refl _) rfl (by kernel_rfl) (by kernel_rfl))) (cot 7 (os_plain rfl rfl (c_callQL (res := [.c (.sl true 6 (r4.map eE))]) (AC.k (Clone.ac (h := hr4))) ⟨_, Try.func25, rfl, by kernel_rfl⟩ rfl (.cons (.view (.v1 (r := 0) (lo := (0 + 1)) (n := ((a0.l.map eE).length - 1)) (off := 0) (s := .d) (p := []) (c := bufC a0) (cs := [.sl true 6 (a0.l.map eE), .v (.bool a0.b)]) (own := true) (rows := a0.l.map eE) (by kernel_rfl) (by kernel_rfl) rfl rfl view_map) (copy_map eE_copy)) .nil) (⟨⟨rfl, mine_map (fun _ => rfl)⟩, trivial⟩) (by kernel_rfl))) (cgt 9 [31, 32] (cot 10 (os_plain rfl rfl (s_store (n := 1) (r := 0) (off := 0) (s := .d) (p := []) (c := bufC a0) (cs := [.sl true 6 (a0.l.map eE), .v (.bool a0.b)]) (u := .c (.sl true 6 (r4.map eE))) (l := [30]) rfl (by kernel_rfl) (by kernel_rfl) (.move (by kernel_rfl) (by kernel_rfl)) (by kernel_rfl) rfl rfl rfl (Nat.le_of_ble_eq_true rfl) (by kernel_rfl) rfl)) .nil))))) ?_
    refine r_seq ?_
    rcases Bool.eq_false_or_eq_true (a0.b) with hb | hb
    · have h := cond_t hb h
      have hs5 := hb
      refine rr [(0, .u (.c (.pt true [.sl true 6 (r4.map eE), .v (.bool true)]))), (3, .u (.c (.pt true [.v (.int .i64 a1.f0), .v (.int .i64 a1.f1), .v (.int .i64 a1.f2), .v (.int .i64 a1.f3), .v (.bool a1.f4), .v (.bool a1.f5)])))] (cgt 5 [33, 34, 35, 36, 37] (cot 6 (os_ge (d := 38) (t := tB a0.b) (t' := tB true) (by kernel_rfl) (by rw [hs5])) (cgt 15 [39, 40, 41, 42, 43, 44, 45, 46, 47] (cot 16 (os_plain rfl rfl (s_storeS (n := 1) (r := 0) (off := 1) (s := .d) (p := []) (c := .pt true [.sl true 6 (r4.map eE), .v (.bool a0.b)]) (cs := [.sl true 6 (r4.map eE), .v (.bool a0.b)]) (u := .c (.v (.bool true))) rfl (by kernel_rfl) (by kernel_rfl) (by kernel_rfl) rfl (by kernel_rfl) rfl rfl rfl rfl (Nat.le_of_ble_eq_true rfl) (by kernel_rfl) (by kernel_rfl) rfl rfl)) .nil)))) ?_
      refine r_seq ?_
      refine r_pinPtr (i := 0) (own := true) (cs := [.sl true 6 (r4.map eE), .v (.bool true)]) (by kernel_rfl) rfl (fun hpin0 => ?_)
      obtain ⟨hg6, h⟩ := guard_some h
      simp only [decide_eq_true_eq] at hg6
      refine r_weak (of_weak (l := [(0, .u (.c (.pt true [.sl true 6 (r4.map eE), .v (.bool true)]))), (3, .u (.c (.pt true [.v (.int .i64 a1.f0), .v (.int .i64 a1.f1), .v (.int .i64 a1.f2), .v (.int .i64 a1.f3), .v (.bool a1.f4), .v (.bool a1.f5)])))]) (by kernel_rfl)) ?_
      refine r_anyW (l := [(0, .u (.c (.pt true [.sl true 6 ((r4 ++ [a1]).map eE), .v (.bool true)])))]) (tab := [[], [], [1], [2], [3], [], [5], [4, 6], [0, 0, 1, 2, 3, 4, 5, 6, 7], [8, 0, 1, 2, 3, 4, 5, 6, 7], [9, 7, 7, 0, 1, 2, 3, 4, 5, 6, 7]]) [ev [] [] 48 (.addr 0 (.d) [] 0), ev [] [] 49 (.addr 0 (.d) [] 0), ev [1] [49] 50 (.addr 0 (.d) [] 0), ev [1, 2] [50] 51 (.addr 0 (.d) [] 0), ⟨[1, 2, 3], [0, 51], [(52, .u (.c (.sl true 6 (r4.map eE)))), (0, .u (.c (.pt true [.dead, .v (.bool true)])))], some 52, false⟩, ev [] [3] 53 (.u (.agg [.v (.int .i64 a1.f0), .v (.int .i64 a1.f1), .v (.int .i64 a1.f2), .v (.int .i64 a1.f3), .v (.bool a1.f4), .v (.bool a1.f5)])), ev [5] [53] 54 (.u (.c (.sl true 6 ([a1].map eE)))), ⟨[1, 2, 3, 4, 5, 6], [52, 54], [(55, .u (.c (.sl true 6 ((r4 ++ [a1]).map eE)))), (52, .junk)], some 55, true⟩, eu 8 [48] 56 (.addr 0 (.d) [] 0), eu 9 [56] 57 (.addr 0 (.d) [] 0), ⟨List.range 10, [0, 55, 57], [(0, .u (.c (.pt true [.sl true 6 ((r4 ++ [a1]).map eE), .v (.bool true)]))), (55, .junk)], none, true⟩] hm (by kernel_rfl) (by kernel_rfl) (by kernel_rfl) (.cons (fun σ hc => e_put hc rfl rfl (os_plain rfl rfl (s_movePin rfl rfl hpin0 rfl (by kernel_rfl) (by kernel_rfl)))) (.cons (fun σ hc => e_put hc rfl rfl (os_plain rfl rfl (s_movePin rfl rfl hpin0 rfl (by kernel_rfl) (by kernel_rfl)))) (en (en (.cons (fun σ hc => e_eq (os_plain rfl rfl (s_loadTake (r := 0) (off := 0) (s := .d) (p := []) (c := .pt true [.sl true 6 (r4.map eE), .v (.bool true)]) (c' := .pt true [.dead, .v (.bool true)]) (x := .sl true 6 (r4.map eE)) (cs := [.sl true 6 (r4.map eE), .v (.bool true)]) rfl (oneB_ok (by kernel_rfl)) (by kernel_rfl) (by kernel_rfl) rfl rfl (by kernel_rfl) rfl rfl (by kernel_rfl))) (put_upd_over hc rfl rfl)) (en (.cons (fun σ hc => e_put hc rfl rfl (os_toG (os_plain rfl rfl (s_buildSlice (sz := 6) (len := 1) (us := [(0, .agg [.v (.int .i64 a1.f0), .v (.int .i64 a1.f1), .v (.int .i64 a1.f2), .v (.int .i64 a1.f3), .v (.bool a1.f4), .v (.bool a1.f5)])]) (cs := [.v (.int .i64 a1.f0), .v (.int .i64 a1.f1), .v (.int .i64 a1.f2), .v (.int .i64 a1.f3), .v (.bool a1.f4), .v (.bool a1.f5)]) rfl sliceZ22 (.cons (.copy (by kernel_rfl) (by kernel_rfl) (by kernel_rfl)) .nil) (by kernel_rfl) (Nat.le_of_ble_eq_true rfl) rfl (by kernel_rfl))) (t' := .u (.c (.sl true 6 ([a1].map eE)))) (by kernel_rfl))) (.cons (fun σ hc => e_eq (os_toG (os_plain rfl rfl (s_appendM (i := 52) (sz := 6) (rows := r4.map eE) (rows2 := [a1].map eE) rfl sliceZ22 (by kernel_rfl) (.v0 (r := 54) (lo := 0) (n := ([a1].map eE).length) (own := true) (rows := [a1].map eE) (by kernel_rfl) (by kernel_rfl) rows_all) (copy_map eE_copy) (lenMap2 hg6) (Nat.le_of_ble_eq_true rfl) rfl (by kernel_rfl))) (t' := .u (.c (.sl true 6 ((r4 ++ [a1]).map eE)))) (by simp only [List.map_append])) (call_over hc rfl rfl rfl)) (en (en (.cons (fun σ hc => e_eq (os_plain rfl rfl (s_store (n := 1) (r := 0) (off := 0) (s := .d) (p := []) (c := .pt true [.dead, .v (.bool true)]) (cs := [.dead, .v (.bool true)]) (u := .c (.sl true 6 ((r4 ++ [a1]).map eE))) (l := [55]) rfl (by kernel_rfl) (by kernel_rfl) (.move (by kernel_rfl) (by kernel_rfl)) (by kernel_rfl) rfl rfl rfl (Nat.le_of_ble_eq_true rfl) (by kernel_rfl) rfl)) (kill_junks_over (l := [55]) hc rfl rfl)) .nil))))))))))) (by kernel_rfl) ?_
      refine r_seq ?_
      refine rr [(0, .u (.c (.pt true [.sl true 6 ((r4 ++ [a1]).map eE), .v (.bool true)]))), (4, .u (.c (.err none)))] (cgt 1 [4] .nil) ?_
      refine r_ret ?_
      obtain rfl := Option.some.inj h
      exact ⟨.inr rfl, _, _, .cons (.copy rfl rfl rfl) .nil, rfl, outs_of ⟨⟨rfl, rfl⟩, trivial⟩⟩
    have h := cond_f hb h
    have hs7 := hb
    obtain ⟨r8, hr8, h⟩ := bind_some h
    refine rr [(0, .u (.c (.pt true [.sl true 6 (r4.map eE), .v (.bool r8)]))), (3, .u (.c (.pt true [.v (.int .i64 a1.f0), .v (.int .i64 a1.f1), .v (.int .i64 a1.f2), .v (.int .i64 a1.f3), .v (.bool a1.f4), .v (.bool a1.f5)])))] (cgt 5 [33, 34, 35, 36, 37] (cot 6 (os_ge (d := 38) (t := tB a0.b) (t' := tB false) (by kernel_rfl) (by rw [hs7])) (cgt 10 [39, 40, 41, 42] (cot 11 (os_gy rfl rfl rfl (by kernel_rfl) (s_makeFunc (is := [3]) rfl rfl rfl (by kernel_rfl) (by kernel_rfl))) (cot 12 (os_gy rfl rfl rfl (by kernel_rfl) (c_callQL (res := [.c (.v (.bool r8))]) (AC.k (ContainsFunc.ac (a1F := ⟨27, [.pt false [.v (.int .i64 a1.f0), .v (.int .i64 a1.f1), .v (.int .i64 a1.f2), .v (.int .i64 a1.f3), .v (.bool a1.f4), .v (.bool a1.f5)]], ⟨_, Try.func27, rfl, by kernel_rfl⟩, fun x0 r h => FillL.ac k x0 a1 r h⟩) (h := hr8))) ⟨_, Try.func26, rfl, by kernel_rfl⟩ rfl (.cons (.view (.v1 (r := 0) (lo := 0) (n := (r4.map eE).length) (off := 0) (s := .d) (p := []) (c := .pt true [.sl true 6 (r4.map eE), .v (.bool a0.b)]) (cs := [.sl true 6 (r4.map eE), .v (.bool a0.b)]) (own := true) (rows := r4.map eE) (by kernel_rfl) (by kernel_rfl) rfl rfl rows_all) (copy_map eE_copy)) (.cons (.fn (f := 27) (caps := [.ref 3]) (by kernel_rfl) (.ref (r := 3) (own := true) (ds := [.v (.int .i64 a1.f0), .v (.int .i64 a1.f1), .v (.int .i64 a1.f2), .v (.int .i64 a1.f3), .v (.bool a1.f4), .v (.bool a1.f5)]) (by kernel_rfl) (by simp [flatL, flatC]) rfl .nil)) .nil)) (⟨trivial, trivial⟩) (by kernel_rfl))) (cgt 15 [45, 46, 47] (cot 16 (os_plain rfl rfl (s_storeS (n := 1) (r := 0) (off := 1) (s := .d) (p := []) (c := .pt true [.sl true 6 (r4.map eE), .v (.bool a0.b)]) (cs := [.sl true 6 (r4.map eE), .v (.bool a0.b)]) (u := .c (.v (.bool r8))) rfl (by kernel_rfl) (by kernel_rfl) (by kernel_rfl) rfl (by kernel_rfl) rfl rfl rfl rfl (Nat.le_of_ble_eq_true rfl) (by kernel_rfl) (by kernel_rfl) rfl rfl)) .nil))))))) ?_
    refine r_seq ?_
    refine r_pinPtr (i := 0) (own := true) (cs := [.sl true 6 (r4.map eE), .v (.bool r8)]) (by kernel_rfl) rfl (fun hpin0 => ?_)
    obtain ⟨hg9, h⟩ := guard_some h
    simp only [decide_eq_true_eq] at hg9
    refine r_weak (of_weak (l := [(0, .u (.c (.pt true [.sl true 6 (r4.map eE), .v (.bool r8)]))), (3, .u (.c (.pt true [.v (.int .i64 a1.f0), .v (.int .i64 a1.f1), .v (.int .i64 a1.f2), .v (.int .i64 a1.f3), .v (.bool a1.f4), .v (.bool a1.f5)])))]) (by kernel_rfl)) ?_
    refine r_anyW (l := [(0, .u (.c (.pt true [.sl true 6 ((r4 ++ [a1]).map eE), .v (.bool r8)])))]) (tab := [[], [], [1], [2], [3], [], [5], [4, 6], [0, 0, 1, 2, 3, 4, 5, 6, 7], [8, 0, 1, 2, 3, 4, 5, 6, 7], [9, 7, 7, 0, 1, 2, 3, 4, 5, 6, 7]]) [ev [] [] 48 (.addr 0 (.d) [] 0), ev [] [] 49 (.addr 0 (.d) [] 0), ev [1] [49] 50 (.addr 0 (.d) [] 0), ev [1, 2] [50] 51 (.addr 0 (.d) [] 0), ⟨[1, 2, 3], [0, 51], [(52, .u (.c (.sl true 6 (r4.map eE)))), (0, .u (.c (.pt true [.dead, .v (.bool r8)])))], some 52, false⟩, ev [] [3] 53 (.u (.agg [.v (.int .i64 a1.f0), .v (.int .i64 a1.f1), .v (.int .i64 a1.f2), .v (.int .i64 a1.f3), .v (.bool a1.f4), .v (.bool a1.f5)])), ev [5] [53] 54 (.u (.c (.sl true 6 ([a1].map eE)))), ⟨[1, 2, 3, 4, 5, 6], [52, 54], [(55, .u (.c (.sl true 6 ((r4 ++ [a1]).map eE)))), (52, .junk)], some 55, true⟩, eu 8 [48] 56 (.addr 0 (.d) [] 0), eu 9 [56] 57 (.addr 0 (.d) [] 0), ⟨List.range 10, [0, 55, 57], [(0, .u (.c (.pt true [.sl true 6 ((r4 ++ [a1]).map eE), .v (.bool r8)]))), (55, .junk)], none, true⟩] hm (by kernel_rfl) (by kernel_rfl) (by kernel_rfl) (.cons (fun σ hc => e_put hc rfl rfl (os_plain rfl rfl (s_movePin rfl rfl hpin0 rfl (by kernel_rfl) (by kernel_rfl)))) (.cons (fun σ hc => e_put hc rfl rfl (os_plain rfl rfl (s_movePin rfl rfl hpin0 rfl (by kernel_rfl) (by kernel_rfl)))) (en (en (.cons (fun σ hc => e_eq (os_plain rfl rfl (s_loadTake (r := 0) (off := 0) (s := .d) (p := []) (c := .pt true [.sl true 6 (r4.map eE), .v (.bool r8)]) (c' := .pt true [.dead, .v (.bool r8)]) (x := .sl true 6 (r4.map eE)) (cs := [.sl true 6 (r4.map eE), .v (.bool r8)]) rfl (oneB_ok (by kernel_rfl)) (by kernel_rfl) (by kernel_rfl) rfl rfl (by kernel_rfl) rfl rfl (by kernel_rfl))) (put_upd_over hc rfl rfl)) (en (.cons (fun σ hc => e_put hc rfl rfl (os_toG (os_plain rfl rfl (s_buildSlice (sz := 6) (len := 1) (us := [(0, .agg [.v (.int .i64 a1.f0), .v (.int .i64 a1.f1), .v (.int .i64 a1.f2), .v (.int .i64 a1.f3), .v (.bool a1.f4), .v (.bool a1.f5)])]) (cs := [.v (.int .i64 a1.f0), .v (.int .i64 a1.f1), .v (.int .i64 a1.f2), .v (.int .i64 a1.f3), .v (.bool a1.f4), .v (.bool a1.f5)]) rfl sliceZ22 (.cons (.copy (by kernel_rfl) (by kernel_rfl) (by kernel_rfl)) .nil) (by kernel_rfl) (Nat.le_of_ble_eq_true rfl) rfl (by kernel_rfl))) (t' := .u (.c (.sl true 6 ([a1].map eE)))) (by kernel_rfl))) (.cons (fun σ hc => e_eq (os_toG (os_plain rfl rfl (s_appendM (i := 52) (sz := 6) (rows := r4.map eE) (rows2 := [a1].map eE) rfl sliceZ22 (by kernel_rfl) (.v0 (r := 54) (lo := 0) (n := ([a1].map eE).length) (own := true) (rows := [a1].map eE) (by kernel_rfl) (by kernel_rfl) rows_all) (copy_map eE_copy) (lenMap2 hg9) (Nat.le_of_ble_eq_true rfl) rfl (by kernel_rfl))) (t' := .u (.c (.sl true 6 ((r4 ++ [a1]).map eE)))) (by simp only [List.map_append])) (call_over hc rfl rfl rfl)) (en (en (.cons (fun σ hc => e_eq (os_plain rfl rfl (s_store (n := 1) (r := 0) (off := 0) (s := .d) (p := []) (c := .pt true [.dead, .v (.bool r8)]) (cs := [.dead, .v (.bool r8)]) (u := .c (.sl true 6 ((r4 ++ [a1]).map eE))) (l := [55]) rfl (by kernel_rfl) (by kernel_rfl) (.move (by kernel_rfl) (by kernel_rfl)) (by kernel_rfl) rfl rfl rfl (Nat.le_of_ble_eq_true rfl) (by kernel_rfl) rfl)) (kill_junks_over (l := [55]) hc rfl rfl)) .nil))))))))))) (by kernel_rfl) ?_
    refine r_seq ?_
    refine rr [(0, .u (.c (.pt true [.sl true 6 ((r4 ++ [a1]).map eE), .v (.bool r8)]))), (4, .u (.c (.err none)))] (cgt 1 [4] .nil) ?_
    refine r_ret ?_
    obtain rfl := Option.some.inj h
    exact ⟨.inr rfl, _, _, .cons (.copy rfl rfl rfl) .nil, rfl, outs_of ⟨⟨rfl, rfl⟩, trivial⟩⟩
  have h := cond_f hb h
  refine r_condF hb rfl ?_
  refine r_skip ?_
  refine r_seq ?_
  rcases Bool.eq_false_or_eq_true (a0.b) with hb | hb
  · have h := cond_t hb h
    have hs10 := hb
    refine rr [(0, .u (.c (.pt true [.sl true 6 (a0.l.map eE), .v (.bool true)]))), (3, .u (.c (.pt true [.v (.int .i64 a1.f0), .v (.int .i64 a1.f1), .v (.int .i64 a1.f2), .v (.int .i64 a1.f3), .v (.bool a1.f4), .v (.bool a1.f5)])))] (cgt 5 [33, 34, 35, 36, 37] (cot 6 (os_ge (d := 38) (t := tB a0.b) (t' := tB true) (by kernel_rfl) (by rw [hs10])) (cgt 15 [39, 40, 41, 42, 43, 44, 45, 46, 47] (cot 16 (os_plain rfl rfl (s_storeS (n := 1) (r := 0) (off := 1) (s := .d) (p := []) (c := bufC a0) (cs := [.sl true 6 (a0.l.map eE), .v (.bool a0.b)]) (u := .c (.v (.bool true))) rfl (by kernel_rfl) (by kernel_rfl) (by kernel_rfl) rfl (by kernel_rfl) rfl rfl rfl rfl (Nat.le_of_ble_eq_true rfl) (by kernel_rfl) (by kernel_rfl) rfl rfl)) .nil)))) ?_
    refine r_seq ?_
    refine r_pinPtr (i := 0) (own := true) (cs := [.sl true 6 (a0.l.map eE), .v (.bool true)]) (by kernel_rfl) rfl (fun hpin0 => ?_)
    obtain ⟨hg11, h⟩ := guard_some h
    simp only [decide_eq_true_eq] at hg11
    refine r_weak (of_weak (l := [(0, .u (.c (.pt true [.sl true 6 (a0.l.map eE), .v (.bool true)]))), (3, .u (.c (.pt true [.v (.int .i64 a1.f0), .v (.int .i64 a1.f1), .v (.int .i64 a1.f2), .v (.int .i64 a1.f3), .v (.bool a1.f4), .v (.bool a1.f5)])))]) (by kernel_rfl)) ?_
    refine r_anyW (l := [(0, .u (.c (.pt true [.sl true 6 ((a0.l ++ [a1]).map eE), .v (.bool true)])))]) (tab := [[], [], [1], [2], [3], [], [5], [4, 6], [0, 0, 1, 2, 3, 4, 5, 6, 7], [8, 0, 1, 2, 3, 4, 5, 6, 7], [9, 7, 7, 0, 1, 2, 3, 4, 5, 6, 7]]) [ev [] [] 48 (.addr 0 (.d) [] 0), ev [] [] 49 (.addr 0 (.d) [] 0), ev [1] [49] 50 (.addr 0 (.d) [] 0), ev [1, 2] [50] 51 (.addr 0 (.d) [] 0), ⟨[1, 2, 3], [0, 51], [(52, .u (.c (.sl true 6 (a0.l.map eE)))), (0, .u (.c (.pt true [.dead, .v (.bool true)])))], some 52, false⟩, ev [] [3] 53 (.u (.agg [.v (.int .i64 a1.f0), .v (.int .i64 a1.f1), .v (.int .i64 a1.f2), .v (.int .i64 a1.f3), .v (.bool a1.f4), .v (.bool a1.f5)])), ev [5] [53] 54 (.u (.c (.sl true 6 ([a1].map eE)))), ⟨[1, 2, 3, 4, 5, 6], [52, 54], [(55, .u (.c (.sl true 6 ((a0.l ++ [a1]).map eE)))), (52, .junk)], some 55, true⟩, eu 8 [48] 56 (.addr 0 (.d) [] 0), eu 9 [56] 57 (.addr 0 (.d) [] 0), ⟨List.range 10, [0, 55, 57], [(0, .u (.c (.pt true [.sl true 6 ((a0.l ++ [a1]).map eE), .v (.bool true)]))), (55, .junk)], none, true⟩] hm (by kernel_rfl) (by kernel_rfl) (by kernel_rfl) (.cons (fun σ hc => e_put hc rfl rfl (os_plain rfl rfl (s_movePin rfl rfl hpin0 rfl (by kernel_rfl) (by kernel_rfl)))) (.cons (fun σ hc => e_put hc rfl rfl (os_plain rfl rfl (s_movePin rfl rfl hpin0 rfl (by kernel_rfl) (by kernel_rfl)))) (en (en (.cons (fun σ hc => e_eq (os_plain rfl rfl (s_loadTake (r := 0) (off := 0) (s := .d) (p := []) (c := .pt true [.sl true 6 (a0.l.map eE), .v (.bool true)]) (c' := .pt true [.dead, .v (.bool true)]) (x := .sl true 6 (a0.l.map eE)) (cs := [.sl true 6 (a0.l.map eE), .v (.bool true)]) rfl (oneB_ok (by kernel_rfl)) (by kernel_rfl) (by kernel_rfl) rfl rfl (by kernel_rfl) rfl rfl (by kernel_rfl))) (put_upd_over hc rfl rfl)) (en (.cons (fun σ hc => e_put hc rfl rfl (os_toG (os_plain rfl rfl (s_buildSlice (sz := 6) (len := 1) (us := [(0, .agg [.v (.int .i64 a1.f0), .v (.int .i64 a1.f1), .v (.int .i64 a1.f2), .v (.int .i64 a1.f3), .v (.bool a1.f4), .v (.bool a1.f5)])]) (cs := [.v (.int .i64 a1.f0), .v (.int .i64 a1.f1), .v (.int .i64 a1.f2), .v (.int .i64 a1.f3), .v (.bool a1.f4), .v (.bool a1.f5)]) rfl sliceZ22 (.cons (.copy (by kernel_rfl) (by kernel_rfl) (by kernel_rfl)) .nil) (by kernel_rfl) (Nat.le_of_ble_eq_true rfl) rfl (by kernel_rfl))) (t' := .u (.c (.sl true 6 ([a1].map eE)))) (by kernel_rfl))) (.cons (fun σ hc => e_eq (os_toG (os_plain rfl rfl (s_appendM (i := 52) (sz := 6) (rows := a0.l.map eE) (rows2 := [a1].map eE) rfl sliceZ22 (by kernel_rfl) (.v0 (r := 54) (lo := 0) (n := ([a1].map eE).length) (own := true) (rows := [a1].map eE) (by kernel_rfl) (by kernel_rfl) rows_all) (copy_map eE_copy) (lenMap2 hg11) (Nat.le_of_ble_eq_true rfl) rfl (by kernel_rfl))) (t' := .u (.c (.sl true 6 ((a0.l ++ [a1]).map eE)))) (by simp only [List.map_append])) (call_over hc rfl rfl rfl)) (en (en (.cons (fun σ hc => e_eq (os_plain rfl rfl (s_store (n := 1) (r := 0) (off := 0) (s := .d) (p := []) (c := .pt true [.dead, .v (.bool true)]) (cs := [.dead, .v (.bool true)]) (u := .c (.sl true 6 ((a0.l ++ [a1]).map eE))) (l := [55]) rfl (by kernel_rfl) (by kernel_rfl) (.move (by kernel_rfl) (by kernel_rfl)) (by kernel_rfl) rfl rfl rfl (Nat.le_of_ble_eq_true rfl) (by kernel_rfl) rfl)) (kill_junks_over (l := [55]) hc rfl rfl)) .nil))))))))))) (by kernel_rfl) ?_
    refine r_seq ?_
    refine rr [(0, .u (.c (.pt true [.sl true 6 ((a0.l ++ [a1]).map eE), .v (.bool true)]))), (4, .u (.c (.err none)))] (cgt 1 [4] .nil) ?_
    refine r_ret ?_
    obtain rfl := Option.some.inj h
    exact ⟨.inr rfl, _, _, .cons (.copy rfl rfl rfl) .nil, rfl, outs_of ⟨⟨rfl, rfl⟩, trivial⟩⟩
  have h := cond_f hb h
  have hs12 := hb
  obtain ⟨r13, hr13, h⟩ := bind_some h
  refine rr [(0, .u (.c (.pt true [.sl true 6 (a0.l.map eE), .v (.bool r13)]))), (3, .u (.c (.pt true [.v (.int .i64 a1.f0), .v (.int .i64 a1.f1), .v (.int .i64 a1.f2), .v (.int .i64 a1.f3), .v (.bool a1.f4), .v (.bool a1.f5)])))] (cgt 5 [33, 34, 35, 36, 37] (cot 6 (os_ge (d := 38) (t := tB a0.b) (t' := tB false) (by kernel_rfl) (by rw [hs12])) (cgt 10 [39, 40, 41, 42] (cot 11 (os_gy rfl rfl rfl (by kernel_rfl) (s_makeFunc (is := [3]) rfl rfl rfl (by kernel_rfl) (by kernel_rfl))) (cot 12 (os_gy rfl rfl rfl (by kernel_rfl) (c_callQL (res := [.c (.v (.bool r13))]) (AC.k (ContainsFunc.ac (a1F := ⟨27, [.pt false [.v (.int .i64 a1.f0), .v (.int .i64 a1.f1), .v (.int .i64 a1.f2), .v (.int .i64 a1.f3), .v (.bool a1.f4), .v (.bool a1.f5)]], ⟨_, Try.func27, rfl, by kernel_rfl⟩, fun x0 r h => FillL.ac k x0 a1 r h⟩) (h := hr13))) ⟨_, Try.func26, rfl, by kernel_rfl⟩ rfl (.cons (.view (.v1 (r := 0) (lo := 0) (n := (a0.l.map eE).length) (off := 0) (s := .d) (p := []) (c := bufC a0) (cs := [.sl true 6 (a0.l.map eE), .v (.bool a0.b)]) (own := true) (rows := a0.l.map eE) (by kernel_rfl) (by kernel_rfl) rfl rfl rows_all) (copy_map eE_copy)) (.cons (.fn (f := 27) (caps := [.ref 3]) (by kernel_rfl) (.ref (r := 3) (own := true) (ds := [.v (.int .i64 a1.f0), .v (.int .i64 a1.f1), .v (.int .i64 a1.f2), .v (.int .i64 a1.f3), .v (.bool a1.f4), .v (.bool a1.f5)]) (by kernel_rfl) (by simp [flatL, flatC]) rfl .nil)) .nil)) (⟨trivial, trivial⟩) (by kernel_rfl))) (cgt 15 [45, 46, 47] (cot 16 (os_plain rfl rfl (s_storeS (n := 1) (r := 0) (off := 1) (s := .d) (p := []) (c := bufC a0) (cs := [.sl true 6 (a0.l.map eE), .v (.bool a0.b)]) (u := .c (.v (.bool r13))) rfl (by kernel_rfl) (by kernel_rfl) (by kernel_rfl) rfl (by kernel_rfl) rfl rfl rfl rfl (Nat.le_of_ble_eq_true rfl) (by kernel_rfl) (by kernel_rfl) rfl rfl)) .nil))))))) ?_
  refine r_seq ?_
  refine r_pinPtr (i := 0) (own := true) (cs := [.sl true 6 (a0.l.map eE), .v (.bool r13)]) (by kernel_rfl) rfl (fun hpin0 => ?_)
  obtain ⟨hg14, h⟩ := guard_some h
  simp only [decide_eq_true_eq] at hg14
  refine r_weak (of_weak (l := [(0, .u (.c (.pt true [.sl true 6 (a0.l.map eE), .v (.bool r13)]))), (3, .u (.c (.pt true [.v (.int .i64 a1.f0), .v (.int .i64 a1.f1), .v (.int .i64 a1.f2), .v (.int .i64 a1.f3), .v (.bool a1.f4), .v (.bool a1.f5)])))]) (by kernel_rfl)) ?_
  refine r_anyW (l := [(0, .u (.c (.pt true [.sl true 6 ((a0.l ++ [a1]).map eE), .v (.bool r13)])))]) (tab := [[], [], [1], [2], [3], [], [5], [4, 6], [0, 0, 1, 2, 3, 4, 5, 6, 7], [8, 0, 1, 2, 3, 4, 5, 6, 7], [9, 7, 7, 0, 1, 2, 3, 4, 5, 6, 7]]) [ev [] [] 48 (.addr 0 (.d) [] 0), ev [] [] 49 (.addr 0 (.d) [] 0), ev [1] [49] 50 (.addr 0 (.d) [] 0), ev [1, 2] [50] 51 (.addr 0 (.d) [] 0), ⟨[1, 2, 3], [0, 51], [(52, .u (.c (.sl true 6 (a0.l.map eE)))), (0, .u (.c (.pt true [.dead, .v (.bool r13)])))], some 52, false⟩, ev [] [3] 53 (.u (.agg [.v (.int .i64 a1.f0), .v (.int .i64 a1.f1), .v (.int .i64 a1.f2), .v (.int .i64 a1.f3), .v (.bool a1.f4), .v (.bool a1.f5)])), ev [5] [53] 54 (.u (.c (.sl true 6 ([a1].map eE)))), ⟨[1, 2, 3, 4, 5, 6], [52, 54], [(55, .u (.c (.sl true 6 ((a0.l ++ [a1]).map eE)))), (52, .junk)], some 55, true⟩, eu 8 [48] 56 (.addr 0 (.d) [] 0), eu 9 [56] 57 (.addr 0 (.d) [] 0), ⟨List.range 10, [0, 55, 57], [(0, .u (.c (.pt true [.sl true 6 ((a0.l ++ [a1]).map eE), .v (.bool r13)]))), (55, .junk)], none, true⟩] hm (by kernel_rfl) (by kernel_rfl) (by kernel_rfl) (.cons (fun σ hc => e_put hc rfl rfl (os_plain rfl rfl (s_movePin rfl rfl hpin0 rfl (by kernel_rfl) (by kernel_rfl)))) (.cons (fun σ hc => e_put hc rfl rfl (os_plain rfl rfl (s_movePin rfl rfl hpin0 rfl (by kernel_rfl) (by kernel_rfl)))) (en (en (.cons (fun σ hc => e_eq (os_plain rfl rfl (s_loadTake (r := 0) (off := 0) (s := .d) (p := []) (c := .pt true [.sl true 6 (a0.l.map eE), .v (.bool r13)]) (c' := .pt true [.dead, .v (.bool r13)]) (x := .sl true 6 (a0.l.map eE)) (cs := [.sl true 6 (a0.l.map eE), .v (.bool r13)]) rfl (oneB_ok (by kernel_rfl)) (by kernel_rfl) (by kernel_rfl) rfl rfl (by kernel_rfl) rfl rfl (by kernel_rfl))) (put_upd_over hc rfl rfl)) (en (.cons (fun σ hc => e_put hc rfl rfl (os_toG (os_plain rfl rfl (s_buildSlice (sz := 6) (len := 1) (us := [(0, .agg [.v (.int .i64 a1.f0), .v (.int .i64 a1.f1), .v (.int .i64 a1.f2), .v (.int .i64 a1.f3), .v (.bool a1.f4), .v (.bool a1.f5)])]) (cs := [.v (.int .i64 a1.f0), .v (.int .i64 a1.f1), .v (.int .i64 a1.f2), .v (.int .i64 a1.f3), .v (.bool a1.f4), .v (.bool a1.f5)]) rfl sliceZ22 (.cons (.copy (by kernel_rfl) (by kernel_rfl) (by kernel_rfl)) .nil) (by kernel_rfl) (Nat.le_of_ble_eq_true rfl) rfl (by kernel_rfl))) (t' := .u (.c (.sl true 6 ([a1].map eE)))) (by kernel_rfl))) (.cons (fun σ hc => e_eq (os_toG (os_plain rfl rfl (s_appendM (i := 52) (sz := 6) (rows := a0.l.map eE) (rows2 := [a1].map eE) rfl sliceZ22 (by kernel_rfl) (.v0 (r := 54) (lo := 0) (n := ([a1].map eE).length) (own := true) (rows := [a1].map eE) (by kernel_rfl) (by kernel_rfl) rows_all) (copy_map eE_copy) (lenMap2 hg14) (Nat.le_of_ble_eq_true rfl) rfl (by kernel_rfl))) (t' := .u (.c (.sl true 6 ((a0.l ++ [a1]).map eE)))) (by simp only [List.map_append])) (call_over hc rfl rfl rfl)) (en (en (.cons (fun σ hc => e_eq (os_plain rfl rfl (s_store (n := 1) (r := 0) (off := 0) (s := .d) (p := []) (c := .pt true [.dead, .v (.bool r13)]) (cs := [.dead, .v (.bool r13)]) (u := .c (.sl true 6 ((a0.l ++ [a1]).map eE))) (l := [55]) rfl (by kernel_rfl) (by kernel_rfl) (.move (by kernel_rfl) (by kernel_rfl)) (by kernel_rfl) rfl rfl rfl (Nat.le_of_ble_eq_true rfl) (by kernel_rfl) rfl)) (kill_junks_over (l := [55]) hc rfl rfl)) .nil))))))))))) (by kernel_rfl) ?_
  refine r_seq ?_
  refine rr [(0, .u (.c (.pt true [.sl true 6 ((a0.l ++ [a1]).map eE), .v (.bool r13)]))), (4, .u (.c (.err none)))] (cgt 1 [4] .nil) ?_
  refine r_ret ?_
  obtain rfl := Option.some.inj h
  exact ⟨.inr rfl, _, _, .cons (.copy rfl rfl rfl) .nil, rfl, outs_of ⟨⟨rfl, rfl⟩, trivial⟩⟩
set_option maxHeartbeats 4000000 in
def Find.f (k : Nat) (a0 : Buf) (a1 : Int) (a2 : Int) : Option (Buf × S30 × Bool) :=
  (IndexFunc.f k a0.l (fun (x0 : S30) => FindL.f x0 a1 a2)).bind fun (r1 : Int) => (bif decide (r1 < 0) then some (a0, (⟨0, 0, 0, 0, false, false⟩ : S30), false) else (bif decide (0 ≤ r1) && decide (r1 < (a0.l.length : Int)) then some (a0, (a0.l.getD ((r1).toNat) z30), true) else none))
set_option maxHeartbeats 4000000 in
theorem Find.ac (k : Nat) (a0 : Buf) (a1 : Int) (a2 : Int) (r : Buf × S30 × Bool) (h : Find.f k a0 a1 a2 = some r) : AC Try.prog 48 15 [.c (bufC a0), .c (.v (.int .i64 a1)), .c (.v (.int .i64 a2))] [some (.c (bufC r.1)), none, none] [.agg [.v (.int .i64 r.2.1.f0), .v (.int .i64 r.2.1.f1), .v (.int .i64 r.2.1.f2), .v (.int .i64 r.2.1.f3), .v (.bool r.2.1.f4), .v (.bool r.2.1.f5)], .c (.v (.bool r.2.2))] := by
  unfold Find.f at h
  refine ac_introCT (fn := Try.f15) (pins := [0]) (b := 6) (t := 30) (c2 := 7) Try.func15 rfl Try.ntmps15 rfl (Nat.le_of_ble_eq_true rfl) (pins_lt rfl) rfl (fun w R E vs => ?_)
  refine r_weak (of_weak (l := [(0, .u (.c (bufC a0))), (1, tI a1), (2, tI a2)]) (by kernel_rfl)) ?_
  refine r_seq ?_
  refine rr [(0, .u (.c (bufC a0))), (4, .u (.c (.pt true [.v (.int .i64 a1)]))), (5, .u (.c (.pt true [.v (.int .i64 a2)]))), (6, .u (.c (.pt true [.v (.int .i64 0), .v (.int .i64 0), .v (.int .i64 0), .v (.int .i64 0), .v (.bool false), .v (.bool false)])))] (cot 1 (os_plain rfl rfl (s_box (u := .c (.v (.int .i64 a1))) rfl (.copy (by kernel_rfl) (by kernel_rfl) (by kernel_rfl)) rfl (by kernel_rfl))) (cot 2 (os_plain rfl rfl (s_box (u := .c (.v (.int .i64 a2))) rfl (.copy (by kernel_rfl) (by kernel_rfl) (by kernel_rfl)) rfl (by kernel_rfl))) (cot 3 (os_plain rfl rfl (s_alloc rfl zero30 rfl (by kernel_rfl))) (cgt 4 [7] .nil)))) ?_
  refine r_seq ?_
  obtain ⟨r1, hr1, h⟩ := bind_some h
  refine rr [(0, .u (.c (bufC a0))), (6, .u (.c (.pt true [.v (.int .i64 0), .v (.int .i64 0), .v (.int .i64 0), .v (.int .i64 0), .v (.bool false), .v (.bool false)]))), (8, tI r1)] (cgt 4 [9, 10, 11, 12] (cot 5 (os_plain rfl rfl (s_makeFunc (is := [4, 5]) rfl rfl rfl (by kernel_rfl) (by kernel_rfl))) (cot 6 (os_plain rfl rfl (c_callQL (res := [.c (.v (.int .i64 r1))]) (AC.k (IndexFunc.ac (a1F := ⟨34, [.pt false [.v (.int .i64 a1)], .pt false [.v (.int .i64 a2)]], ⟨_, Try.func34, rfl, by kernel_rfl⟩, fun x0 r h => FindL.ac x0 a1 a2 r h⟩) (h := hr1))) ⟨_, Try.func33, rfl, by kernel_rfl⟩ rfl (.cons (.view (.v1 (r := 0) (lo := 0) (n := (a0.l.map eE).length) (off := 0) (s := .d) (p := []) (c := bufC a0) (cs := [.sl true 6 (a0.l.map eE), .v (.bool a0.b)]) (own := true) (rows := a0.l.map eE) (by kernel_rfl) (by kernel_rfl) rfl rfl rows_all) (copy_map eE_copy)) (.cons (.fn (f := 34) (caps := [.ref 4, .ref 5]) (by kernel_rfl) (.ref (r := 4) (own := true) (ds := [.v (.int .i64 a1)]) (by kernel_rfl) (by simp [flatL, flatC]) rfl (.ref (r := 5) (own := true) (ds := [.v (.int .i64 a2)]) (by kernel_rfl) (by simp [flatL, flatC]) rfl .nil))) .nil)) (⟨trivial, trivial⟩) (by kernel_rfl))) (cgt 7 [8] .nil)))) ?_
  refine r_seq ?_
  refine r_seq ?_
  refine rr [(0, .u (.c (bufC a0))), (6, .u (.c (.pt true [.v (.int .i64 0), .v (.int .i64 0), .v (.int .i64 0), .v (.int .i64 0), .v (.bool false), .v (.bool false)]))), (8, tI r1), (16, tB (decide (r1 < 0)))] (cgt 2 [15, 16] .nil) ?_
  rcases Bool.eq_false_or_eq_true (decide (r1 < 0)) with hb | hb
  · have h := cond_t hb h
    refine r_condT hb rfl ?_
    refine r_seq ?_
    refine rr [(0, .u (.c (bufC a0))), (6, .u (.c (.pt true [.v (.int .i64 0), .v (.int .i64 0), .v (.int .i64 0), .v (.int .i64 0), .v (.bool false), .v (.bool false)]))), (7, tB false)] (cot 1 (os_plain rfl rfl (s_build (us := []) (zs := [.v (.int .i64 0), .v (.int .i64 0), .v (.int .i64 0), .v (.int .i64 0), .v (.bool false), .v (.bool false)]) (cs := [.v (.int .i64 0), .v (.int .i64 0), .v (.int .i64 0), .v (.int .i64 0), .v (.bool false), .v (.bool false)]) rfl build30 zero30 .nil (by kernel_rfl) rfl (by kernel_rfl))) (cot 2 (os_plain rfl rfl (s_storeS (n := 6) (r := 6) (off := 0) (s := .d) (p := []) (c := .pt true [.v (.int .i64 0), .v (.int .i64 0), .v (.int .i64 0), .v (.int .i64 0), .v (.bool false), .v (.bool false)]) (cs := [.v (.int .i64 0), .v (.int .i64 0), .v (.int .i64 0), .v (.int .i64 0), .v (.bool false), .v (.bool false)]) (u := .agg [.v (.int .i64 0), .v (.int .i64 0), .v (.int .i64 0), .v (.int .i64 0), .v (.bool false), .v (.bool false)]) rfl (by kernel_rfl) (by kernel_rfl) (by kernel_rfl) rfl (by kernel_rfl) rfl rfl rfl rfl (Nat.le_of_ble_eq_true rfl) (by kernel_rfl) (by kernel_rfl) rfl rfl)) (cgt 3 [7] .nil))) ?_
    refine r_ret ?_
    obtain rfl := Option.some.inj h
    exact e_leafCT (.inr rfl) (by kernel_rfl) (by kernel_rfl) rfl (by kernel_rfl) ⟨⟨rfl, rfl⟩, trivial⟩
  have h := cond_f hb h
  refine r_condF hb rfl ?_
  refine r_skip ?_
  refine r_seq ?_
  obtain ⟨hg2, h⟩ := guard_some h
  simp only [Bool.and_eq_true, decide_eq_true_eq] at hg2
  refine rr [(0, .u (.c (bufC a0))), (6, .u (.c (.pt true [.v (.int .i64 ((a0.l.getD ((r1).toNat) z30).f0)), .v (.int .i64 ((a0.l.getD ((r1).toNat) z30).f1)), .v (.int .i64 ((a0.l.getD ((r1).toNat) z30).f2)), .v (.int .i64 ((a0.l.getD ((r1).toNat) z30).f3)), .v (.bool ((a0.l.getD ((r1).toNat) z30).f4)), .v (.bool ((a0.l.getD ((r1).toNat) z30).f5))]))), (7, tB true)] (cgt 5 [18, 19, 20, 21, 22] (cot 6 (os_plain rfl rfl (s_indexV (r := 0) (lo := 0) (n := (a0.l.map eE).length) (pl := (some (.d, [], 0))) (sz := 6) (e := r1) (ik := .i64) (k := (r1).toNat) rfl sl22 (by kernel_rfl) (.tmp (by kernel_rfl)) hg2.1 (by rw [List.length_map]; exact hg2.2) (Nat.zero_add _) rfl (by kernel_rfl) (by kernel_rfl))) (cot 7 (os_plain rfl rfl (s_loadA (n := 6) (xs := [.v (.int .i64 ((a0.l.getD ((r1).toNat) z30).f0)), .v (.int .i64 ((a0.l.getD ((r1).toNat) z30).f1)), .v (.int .i64 ((a0.l.getD ((r1).toNat) z30).f2)), .v (.int .i64 ((a0.l.getD ((r1).toNat) z30).f3)), .v (.bool ((a0.l.getD ((r1).toNat) z30).f4)), .v (.bool ((a0.l.getD ((r1).toNat) z30).f5))]) (r := 0) (off := 0) (s := .d) (p := [(0, .i ((r1).toNat) 6)]) (c := bufC a0) (cs := (eE (a0.l.getD ((r1).toNat) z30))) rfl (aggB_ok (by kernel_rfl)) (by kernel_rfl) (by kernel_rfl) (getP_in (c' := .sl true 6 (a0.l.map eE)) rfl (getP_map (f := eE) (own := true) (xs := a0.l) (k := (r1).toNat) z30 (by have := hg2; omega))) rfl rfl rfl rfl (by kernel_rfl))) (cot 8 (os_plain rfl rfl (s_storeS (n := 6) (r := 6) (off := 0) (s := .d) (p := []) (c := .pt true [.v (.int .i64 0), .v (.int .i64 0), .v (.int .i64 0), .v (.int .i64 0), .v (.bool false), .v (.bool false)]) (cs := [.v (.int .i64 0), .v (.int .i64 0), .v (.int .i64 0), .v (.int .i64 0), .v (.bool false), .v (.bool false)]) (u := .agg [.v (.int .i64 ((a0.l.getD ((r1).toNat) z30).f0)), .v (.int .i64 ((a0.l.getD ((r1).toNat) z30).f1)), .v (.int .i64 ((a0.l.getD ((r1).toNat) z30).f2)), .v (.int .i64 ((a0.l.getD ((r1).toNat) z30).f3)), .v (.bool ((a0.l.getD ((r1).toNat) z30).f4)), .v (.bool ((a0.l.getD ((r1).toNat) z30).f5))]) rfl (by kernel_rfl) (by kernel_rfl) (by kernel_rfl) rfl (by kernel_rfl) rfl rfl rfl rfl (Nat.le_of_ble_eq_true rfl) (by kernel_rfl) (by kernel_rfl) rfl rfl)) (cgt 9 [7] .nil))))) ?_
  refine r_ret ?_
  obtain rfl := Option.some.inj h
  exact e_leafCT (.inr rfl) (by kernel_rfl) (by kernel_rfl) rfl (by kernel_rfl) ⟨⟨rfl, rfl⟩, trivial⟩
set_option maxHeartbeats 4000000 in
def Space.f (k : Nat) (a0 : Buf) (a1 : Int) : Option (Buf) :=
  (drop.f k a0 (fun (x0 : S30) => SpaceL.f x0 a1)).bind fun (r1 : Buf) => some r1
set_option maxHeartbeats 4000000 in
theorem Space.ac (k : Nat) (a0 : Buf) (a1 : Int) (r : Buf) (h : Space.f k a0 a1 = some r) : AC Try.prog 48 10 [.c (bufC a0), .c (.v (.int .i64 a1))] [some (.c (bufC r)), none] [] := by
  unfold Space.f at h
  refine ac_intro (fn := Try.f10) (pins := [0]) (rts := []) Try.func10 rfl Try.ntmps10 rfl (Nat.le_of_ble_eq_true rfl) (pins_lt rfl) rfl (fun w R E vs => ?_)
  refine r_weak (of_weak (l := [(0, .u (.c (bufC a0))), (1, tI a1)]) (by kernel_rfl)) ?_
  refine r_seq ?_
  refine rr [(0, .u (.c (bufC a0))), (3, .u (.c (.pt true [.v (.int .i64 a1)])))] (cot 1 (os_plain rfl rfl (s_box (u := .c (.v (.int .i64 a1))) rfl (.copy (by kernel_rfl) (by kernel_rfl) (by kernel_rfl)) rfl (by kernel_rfl))) .nil) ?_
  obtain ⟨r1, hr1, h⟩ := bind_some h
  refine rr [(0, .u (.c (bufC r1)))] (cgt 1 [4] (cot 2 (os_plain rfl rfl (s_makeFunc (is := [3]) rfl rfl rfl (by kernel_rfl) (by kernel_rfl))) (cot 3 (os_plain rfl rfl (c_callL (res := []) (outs := [some (.c (bufC r1)), none]) (AC.k (drop.ac (a1F := ⟨29, [.pt false [.v (.int .i64 a1)]], ⟨_, Try.func29, rfl, by kernel_rfl⟩, fun x0 r h => SpaceL.ac x0 a1 r h⟩) (h := hr1))) ⟨_, Try.func28, rfl, by kernel_rfl⟩ rfl (hand_root (r := 0) (c := bufC a0) (by kernel_rfl) (by kernel_rfl) rfl (.rd (.fn (f := 29) (caps := [.ref 3]) (by kernel_rfl) (.ref (r := 3) (own := true) (ds := [.v (.int .i64 a1)]) (by kernel_rfl) (by simp [flatL, flatC]) rfl .nil)) .nil)) rfl (⟨⟨rfl, ⟨⟨rfl, mine_map (fun _ => rfl)⟩, trivial, trivial⟩⟩, trivial⟩) (trivial) (by kernel_rfl))) .nil))) ?_
  obtain rfl := Option.some.inj h
  exact ⟨.inl rfl, _, _, .nil, rfl, outs_of ⟨⟨rfl, rfl⟩, trivial⟩⟩
set_option maxHeartbeats 4000000 in
def Page.f (k : Nat) (a0 : Buf) (a1 : Int) (a2 : Int) : Option (Buf) :=
  (drop.f k a0 (fun (x0 : S30) => PageL.f x0 a1 a2)).bind fun (r1 : Buf) => some r1
set_option maxHeartbeats 4000000 in
theorem Page.ac (k : Nat) (a0 : Buf) (a1 : Int) (a2 : Int) (r : Buf) (h : Page.f k a0 a1 a2 = some r) : AC Try.prog 48 14 [.c (bufC a0), .c (.v (.int .i64 a1)), .c (.v (.int .i64 a2))] [some (.c (bufC r)), none, none] [] := by
  unfold Page.f at h
  refine ac_intro (fn := Try.f14) (pins := [0]) (rts := []) Try.func14 rfl Try.ntmps14 rfl (Nat.le_of_ble_eq_true rfl) (pins_lt rfl) rfl (fun w R E vs => ?_)
  refine r_weak (of_weak (l := [(0, .u (.c (bufC a0))), (1, tI a1), (2, tI a2)]) (by kernel_rfl)) ?_
  refine r_seq ?_
  refine rr [(0, .u (.c (bufC a0))), (4, .u (.c (.pt true [.v (.int .i64 a1)]))), (5, .u (.c (.pt true [.v (.int .i64 a2)])))] (cot 1 (os_plain rfl rfl (s_box (u := .c (.v (.int .i64 a1))) rfl (.copy (by kernel_rfl) (by kernel_rfl) (by kernel_rfl)) rfl (by kernel_rfl))) (cot 2 (os_plain rfl rfl (s_box (u := .c (.v (.int .i64 a2))) rfl (.copy (by kernel_rfl) (by kernel_rfl) (by kernel_rfl)) rfl (by kernel_rfl))) .nil)) ?_
  obtain ⟨r1, hr1, h⟩ := bind_some h
  refine rr [(0, .u (.c (bufC r1)))] (cgt 1 [6] (cot 2 (os_plain rfl rfl (s_makeFunc (is := [4, 5]) rfl rfl rfl (by kernel_rfl) (by kernel_rfl))) (cot 3 (os_plain rfl rfl (c_callL (res := []) (outs := [some (.c (bufC r1)), none]) (AC.k (drop.ac (a1F := ⟨32, [.pt false [.v (.int .i64 a1)], .pt false [.v (.int .i64 a2)]], ⟨_, Try.func32, rfl, by kernel_rfl⟩, fun x0 r h => PageL.ac x0 a1 a2 r h⟩) (h := hr1))) ⟨_, Try.func28, rfl, by kernel_rfl⟩ rfl (hand_root (r := 0) (c := bufC a0) (by kernel_rfl) (by kernel_rfl) rfl (.rd (.fn (f := 32) (caps := [.ref 4, .ref 5]) (by kernel_rfl) (.ref (r := 4) (own := true) (ds := [.v (.int .i64 a1)]) (by kernel_rfl) (by simp [flatL, flatC]) rfl (.ref (r := 5) (own := true) (ds := [.v (.int .i64 a2)]) (by kernel_rfl) (by simp [flatL, flatC]) rfl .nil))) .nil)) rfl (⟨⟨rfl, ⟨⟨rfl, mine_map (fun _ => rfl)⟩, trivial, trivial⟩⟩, trivial⟩) (trivial) (by kernel_rfl))) .nil))) ?_
  obtain rfl := Option.some.inj h
  exact ⟨.inl rfl, _, _, .nil, rfl, outs_of ⟨⟨rfl, rfl⟩, trivial⟩⟩
set_option maxHeartbeats 4000000 in
def All.f (k : Nat) (a0 : Buf) : Option (Buf) :=
  some (⟨[], a0.b⟩ : Buf)
set_option maxHeartbeats 4000000 in
theorem All.ac (k : Nat) (a0 : Buf) (r : Buf) (h : All.f k a0 = some r) : AC Try.prog 48 20 [.c (bufC a0)] [some (.c (bufC r))] [] := by
  unfold All.f at h
  refine ac_intro (fn := Try.f20) (pins := [0]) (rts := []) Try.func20 rfl Try.ntmps20 rfl (Nat.le_of_ble_eq_true rfl) (pins_lt rfl) rfl (fun w R E vs => ?_)
  refine r_weak (of_weak (l := [(0, .u (.c (bufC a0)))]) (by kernel_rfl)) ?_
  refine rr [(0, .u (.c (.pt true [.sl true 6 ([].map eE), .v (.bool a0.b)])))] (cgt 3 [2, 3, 4] (cot 4 (os_plain rfl rfl (s_store (n := 1) (r := 0) (off := 0) (s := .d) (p := []) (c := bufC a0) (cs := [.sl true 6 (a0.l.map eE), .v (.bool a0.b)]) (u := .c (.sl true 6 ([].map eE))) (l := []) rfl (by kernel_rfl) (by kernel_rfl) (.sl 6) (by kernel_rfl) rfl rfl rfl (Nat.le_of_ble_eq_true rfl) (by kernel_rfl) rfl)) .nil)) ?_
  obtain rfl := Option.some.inj h
  exact ⟨.inl rfl, _, _, .nil, rfl, outs_of ⟨⟨rfl, rfl⟩, trivial⟩⟩
set_option maxHeartbeats 4000000 in
def Evict.f (k : Nat) (a0 : Buf) (a1 : Int) : Option (Buf × (Option Int)) :=
  (bif decide (a1 < 0) then some (a0, (some 3)) else (bif decide (a1 ≥ (a0.l.length : Int)) then some (a0, (some 3)) else (Clone.f k a0.l).bind fun (r3 : (List S30)) => (Delete.f k r3 a1 (i64.wrap (a1 + 1))).bind fun (r4 : (List S30)) => some ((⟨r4, a0.b⟩ : Buf), none)))
set_option maxHeartbeats 4000000 in
theorem Evict.ac (k : Nat) (a0 : Buf) (a1 : Int) (r : Buf × (Option Int)) (h : Evict.f k a0 a1 = some r) : AC Try.prog 48 18 [.c (bufC a0), .c (.v (.int .i64 a1))] [some (.c (bufC r.1)), none] [.c (.err r.2)] := by
  unfold Evict.f at h
  refine ac_intro (fn := Try.f18) (pins := [0]) (rts := [4]) Try.func18 rfl Try.ntmps18 rfl (Nat.le_of_ble_eq_true rfl) (pins_lt rfl) rfl (fun w R E vs => ?_)
  refine r_weak (of_weak (l := [(0, .u (.c (bufC a0))), (1, tI a1)]) (by kernel_rfl)) ?_
  refine r_seq ?_
  refine rr [(0, .u (.c (bufC a0))), (1, tI a1)] (cgt 1 [4] .nil) ?_
  refine r_seq ?_
  refine r_seq ?_
  rcases Bool.eq_false_or_eq_true (decide (a1 < 0)) with hb | hb
  · have h := cond_t hb h
    have hs1 := hb
    refine rr [(0, .u (.c (bufC a0))), (1, tI a1), (15, tB true)] (cgt 2 [5, 6] (cot 3 (os_ge (d := 7) (t := tB (decide (a1 < 0))) (t' := tB true) (by kernel_rfl) (by rw [hs1])) (cgt 11 [8, 9, 10, 11, 12, 13, 14, 15] .nil))) ?_
    refine r_condT rfl rfl ?_
    refine r_seq ?_
    refine rr [(0, .u (.c (bufC a0))), (4, .u (.c (.err (some 3))))] (cot 1 (os_plain rfl rfl (s_iface (n := 3) rfl (errB_ok (by kernel_rfl)) rfl (by kernel_rfl) rfl (by kernel_rfl))) (cgt 2 [4] .nil)) ?_
    refine r_ret ?_
    obtain rfl := Option.some.inj h
    exact ⟨.inr rfl, _, _, .cons (.copy rfl rfl rfl) .nil, rfl, outs_of ⟨⟨rfl, rfl⟩, trivial⟩⟩
  have h := cond_f hb h
  have hs2 := hb
  refine rr [(0, .u (.c (bufC a0))), (1, tI a1), (15, tB (decide (a1 ≥ (a0.l.length : Int))))] (cgt 2 [5, 6] (cot 3 (os_ge (d := 7) (t := tB (decide (a1 < 0))) (t' := tB false) (by kernel_rfl) (by rw [hs2])) (cgt 8 [8, 9, 10, 11, 12] (cot 9 (os_to (os_gy rfl rfl rfl (by kernel_rfl) (s_lenV (r := 0) (lo := 0) (n := (a0.l.map eE).length) (pl := (some (.d, [], 0))) (sz := 6) rfl sl22 (by kernel_rfl) rfl (by kernel_rfl))) (t' := tI (a0.l.length : Int)) (by rw [List.length_map])) (cgt 11 [14, 15] .nil))))) ?_
  rcases Bool.eq_false_or_eq_true (decide (a1 ≥ (a0.l.length : Int))) with hb | hb
  · have h := cond_t hb h
    refine r_condT hb rfl ?_
    refine r_seq ?_
    refine rr [(0, .u (.c (bufC a0))), (4, .u (.c (.err (some 3))))] (cot 1 (os_plain rfl rfl (s_iface (n := 3) rfl (errB_ok (by kernel_rfl)) rfl (by kernel_rfl) rfl (by kernel_rfl))) (cgt 2 [4] .nil)) ?_
    refine r_ret ?_
    obtain rfl := Option.some.inj h
    exact ⟨.inr rfl, _, _, .cons (.copy rfl rfl rfl) .nil, rfl, outs_of ⟨⟨rfl, rfl⟩, trivial⟩⟩
  have h := cond_f hb h
  refine r_condF hb rfl ?_
  refine r_skip ?_
  refine r_seq ?_
  obtain ⟨r3, hr3, h⟩ := bind_some h
  obtain ⟨r4, hr4, h⟩ := bind_some h
  refine rr [(0, .u (.c (.pt true [.sl true 6 (r4.map eE), .v (.bool a0.b)])))] (cgt 5 [17, 18, 19, 20, 21] (cot 6 (os_plain rfl rfl (c_callQL (res := [.c (.sl true 6 (r3.map eE))]) (AC.k (Clone.ac (h := hr3))) ⟨_, Try.func25, rfl, by kernel_rfl⟩ rfl (.cons (.view (.v1 (r := 0) (lo := 0) (n := (a0.l.map eE).length) (off := 0) (s := .d) (p := []) (c := bufC a0) (cs := [.sl true 6 (a0.l.map eE), .v (.bool a0.b)]) (own := true) (rows := a0.l.map eE) (by kernel_rfl) (by kernel_rfl) rfl rfl rows_all) (copy_map eE_copy)) .nil) (⟨⟨rfl, mine_map (fun _ => rfl)⟩, trivial⟩) (by kernel_rfl))) (cgt 9 [23, 24, 25] (cot 10 (os_plain rfl rfl (c_call (AC.k (Delete.ac (h := hr4))) ⟨_, Try.func36, rfl, by kernel_rfl⟩ rfl (Args.move (by kernel_rfl) (.rd (.copy (by kernel_rfl) rfl) (.rd (.copy (by kernel_rfl) rfl) .nil))) rfl (by kernel_rfl))) (cgt 12 [27, 28] (cot 13 (os_plain rfl rfl (s_store (n := 1) (r := 0) (off := 0) (s := .d) (p := []) (c := bufC a0) (cs := [.sl true 6 (a0.l.map eE), .v (.bool a0.b)]) (u := .c (.sl true 6 (r4.map eE))) (l := [26]) rfl (by kernel_rfl) (by kernel_rfl) (.move (by kernel_rfl) (by kernel_rfl)) (by kernel_rfl) rfl rfl rfl (Nat.le_of_ble_eq_true rfl) (by kernel_rfl) rfl)) .nil)))))) ?_
  refine r_seq ?_
  refine rr [(0, .u (.c (.pt true [.sl true 6 (r4.map eE), .v (.bool a0.b)]))), (4, .u (.c (.err none)))] (cgt 1 [4] .nil) ?_
  refine r_ret ?_
  obtain rfl := Option.some.inj h
  exact ⟨.inr rfl, _, _, .cons (.copy rfl rfl rfl) .nil, rfl, outs_of ⟨⟨rfl, rfl⟩, trivial⟩⟩
set_option maxHeartbeats 4000000 in
def up.f (k : Nat) : Option (Bool) :=
  (New.f ).bind fun (r1 : Buf) => (Fill.f k r1 (⟨0, 8, 0, 5, false, false⟩ : S30)).bind fun (r2 : Buf × (Option Int)) => (Fill.f k r2.1 (⟨0, 8, 3, 8, false, false⟩ : S30)).bind fun (r3 : Buf × (Option Int)) => (bif r2.2 == none then (bif r3.2 == none then (Broken.f k r3.1).bind fun (r6 : Buf × Bool) => some r6.2 else some false) else some false)
set_option maxHeartbeats 4000000 in
theorem up.ac (k : Nat) (r : Bool) (h : up.f k = some r) : AC Try.prog 48 6 [] [] [.c (.v (.bool r))] := by
  unfold up.f at h
  refine ac_intro (fn := Try.f6) (pins := []) (rts := [0]) Try.func6 rfl Try.ntmps6 rfl (Nat.le_of_ble_eq_true rfl) (pins_lt rfl) rfl (fun w R E vs => ?_)
  refine r_weak (of_weak (l := []) (by kernel_rfl)) ?_
  refine r_seq ?_
  refine rr [] (cgt 1 [0] .nil) ?_
  refine r_seq ?_
  obtain ⟨r1, hr1, h⟩ := bind_some h
  refine rr [(1, .u (.c (bufC r1)))] (cot 1 (os_plain rfl rfl (c_callQ (AC.k (New.ac (h := hr1))) ⟨_, Try.func7, rfl, by kernel_rfl⟩ rfl .nil (by kernel_rfl))) (cot 2 (os_plain rfl rfl (s_take (u := .c (bufC r1)) (.inr rfl) (.move (by kernel_rfl) rfl) rfl (by kernel_rfl))) .nil)) ?_
  refine r_seq ?_
  refine r_seq ?_
  refine rr [(1, .u (.c (bufC r1))), (6, tB false)] (cgt 2 [5, 6] .nil) ?_
  refine r_condF rfl rfl ?_
  refine r_skip ?_
  refine r_seq ?_
  obtain ⟨r2, hr2, h⟩ := bind_some h
  refine rr [(1, .u (.c (bufC r2.1))), (2, .u (.c (.err r2.2)))] (cgt 1 [7] (cot 2 (os_plain rfl rfl (s_build (us := [(1, .c (.v (.int .i64 8))), (3, .c (.v (.int .i64 5)))]) (zs := [.v (.int .i64 0), .v (.int .i64 0), .v (.int .i64 0), .v (.int .i64 0), .v (.bool false), .v (.bool false)]) (cs := [.v (.int .i64 0), .v (.int .i64 8), .v (.int .i64 0), .v (.int .i64 5), .v (.bool false), .v (.bool false)]) rfl build30 zero30 (.cons (.copy (by kernel_rfl) (by kernel_rfl) (by kernel_rfl)) (.cons (.copy (by kernel_rfl) (by kernel_rfl) (by kernel_rfl)) .nil)) (by kernel_rfl) rfl (by kernel_rfl))) (cot 3 (os_plain rfl rfl (c_call (AC.k (Fill.ac (h := hr2))) ⟨_, Try.func8, rfl, by kernel_rfl⟩ rfl (hand_root (r := 1) (c := bufC r1) (by kernel_rfl) (by kernel_rfl) rfl (.rd (.copy (by kernel_rfl) rfl) .nil)) rfl (by kernel_rfl))) (cgt 4 [2] .nil)))) ?_
  refine r_seq ?_
  obtain ⟨r3, hr3, h⟩ := bind_some h
  refine rr [(1, .u (.c (bufC r3.1))), (2, .u (.c (.err r2.2))), (3, .u (.c (.err r3.2)))] (cgt 1 [10] (cot 2 (os_plain rfl rfl (s_build (us := [(1, .c (.v (.int .i64 8))), (2, .c (.v (.int .i64 3))), (3, .c (.v (.int .i64 8)))]) (zs := [.v (.int .i64 0), .v (.int .i64 0), .v (.int .i64 0), .v (.int .i64 0), .v (.bool false), .v (.bool false)]) (cs := [.v (.int .i64 0), .v (.int .i64 8), .v (.int .i64 3), .v (.int .i64 8), .v (.bool false), .v (.bool false)]) rfl build30 zero30 (.cons (.copy (by kernel_rfl) (by kernel_rfl) (by kernel_rfl)) (.cons (.copy (by kernel_rfl) (by kernel_rfl) (by kernel_rfl)) (.cons (.copy (by kernel_rfl) (by kernel_rfl) (by kernel_rfl)) .nil))) (by kernel_rfl) rfl (by kernel_rfl))) (cot 3 (os_plain rfl rfl (c_call (AC.k (Fill.ac (h := hr3))) ⟨_, Try.func8, rfl, by kernel_rfl⟩ rfl (hand_root (r := 1) (c := bufC r2.1) (by kernel_rfl) (by kernel_rfl) rfl (.rd (.copy (by kernel_rfl) rfl) .nil)) rfl (by kernel_rfl))) (cgt 4 [3] .nil)))) ?_
  refine r_seq ?_
  rcases Bool.eq_false_or_eq_true (r2.2 == none) with hb | hb
  · have h := cond_t hb h
    have hs4 := hb
    rcases Bool.eq_false_or_eq_true (r3.2 == none) with hb | hb
    · have h := cond_t hb h
      have hs5 := hb
      obtain ⟨r6, hr6, h⟩ := bind_some h
      refine rr [(0, tB r6.2)] (cgt 2 [13, 14] (cot 3 (os_ge (d := 15) (t := tB (r2.2 == none)) (t' := tB true) (by kernel_rfl) (by rw [hs4])) (cgt 6 [16, 17, 18] (cot 7 (os_ge (d := 19) (t := tB (r3.2 == none)) (t' := tB true) (by kernel_rfl) (by rw [hs5])) (cot 8 (os_gy rfl rfl rfl (by kernel_rfl) (s_take (u := .c (bufC r3.1)) (.inl rfl) (.move (by kernel_rfl) rfl) rfl (by kernel_rfl))) (cot 9 (os_gy rfl rfl rfl (by kernel_rfl) (c_call (AC.k (Broken.ac (h := hr6))) ⟨_, Try.func12, rfl, by kernel_rfl⟩ rfl (hand_root (r := 20) (c := bufC r3.1) (by kernel_rfl) (by kernel_rfl) rfl .nil) rfl (by kernel_rfl))) (cgt 11 [22, 0] .nil))))))) ?_
      refine r_ret ?_
      obtain rfl := Option.some.inj h
      exact ⟨.inr rfl, _, _, .cons (.copy rfl rfl rfl) .nil, rfl, outs_of trivial⟩
    have h := cond_f hb h
    have hs7 := hb
    refine rr [(0, tB false)] (cgt 2 [13, 14] (cot 3 (os_ge (d := 15) (t := tB (r2.2 == none)) (t' := tB true) (by kernel_rfl) (by rw [hs4])) (cgt 6 [16, 17, 18] (cot 7 (os_ge (d := 19) (t := tB (r3.2 == none)) (t' := tB false) (by kernel_rfl) (by rw [hs7])) (cgt 11 [20, 21, 22, 0] .nil))))) ?_
    refine r_ret ?_
    obtain rfl := Option.some.inj h
    exact ⟨.inr rfl, _, _, .cons (.copy rfl rfl rfl) .nil, rfl, outs_of trivial⟩
  have h := cond_f hb h
  have hs8 := hb
  refine rr [(0, tB false)] (cgt 2 [13, 14] (cot 3 (os_ge (d := 15) (t := tB (r2.2 == none)) (t' := tB false) (by kernel_rfl) (by rw [hs8])) (cgt 11 [16, 17, 18, 19, 20, 21, 22, 0] .nil))) ?_
  refine r_ret ?_
  obtain rfl := Option.some.inj h
  exact ⟨.inr rfl, _, _, .cons (.copy rfl rfl rfl) .nil, rfl, outs_of trivial⟩
end Go.Proofs.Ytfbjhioefkimbaa.V
