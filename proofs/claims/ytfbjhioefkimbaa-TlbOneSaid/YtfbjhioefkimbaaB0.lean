import Derived.Test.YtfbjhioefkimbaaVW
import Derived.Test.YtfbjhioefkimbaaQx0
import Derived.Test.YtfbjhioefkimbaaQx1
import Derived.Test.YtfbjhioefkimbaaQx2
import Derived.Test.YtfbjhioefkimbaaQx3
import Derived.Test.YtfbjhioefkimbaaProg
import Derived.Test.YtfbjhioefkimbaaWEqStruct
import Derived.KernelRfl
namespace Go.Proofs.Ytfbjhioefkimbaa.V
open Go Go.RowKit Go.Proofs Go.Proofs.Ytfbjhioefkimbaa.Q Go.Proofs.YtfbjhioefkimbaaW.PrintWords Go.Proofs.YtfbjhioefkimbaaW.PrintWords
set_option linter.unusedVariables false
set_option linter.unusedSimpArgs false
set_option maxRecDepth 100000
theorem hm : Try.prog.follows .mixedOrders = true := by kernel_rfl
def eE (x : S30) : List C := [.v (.int .i64 x.f0), .v (.int .i64 x.f1), .v (.int .i64 x.f2), .v (.int .i64 x.f3), .v (.bool x.f4), .v (.bool x.f5)]
abbrev encE (x : S30) : U := .agg (eE x)
abbrev z30 : S30 := ⟨0, 0, 0, 0, false, false⟩
theorem eE_copy (x : S30) : (eE x).all copyC = true := rfl
structure Buf where
  l : List S30
  b : Bool
def bufC (x : Buf) : C := .pt true [.sl true 6 (x.l.map eE), .v (.bool x.b)]
theorem errW_eq (t : Option Int) : errW t = errV 48 t := by cases t <;> rfl
theorem eqA30 (d : Nat) (w : World) (x0 y0 : Int) (x1 y1 : Int) (x2 y2 : Int) (x3 y3 : Int) (x4 y4 : Bool) (x5 y5 : Bool) :
    (Op.equalIn (d + 2) 30 (.agg #[.int .i64 x0, .int .i64 x1, .int .i64 x2, .int .i64 x3, .bool x4, .bool x5]) (.agg #[.int .i64 y0, .int .i64 y1, .int .i64 y2, .int .i64 y3, .bool y4, .bool y5])).run Try.prog w = .ok (x0 == y0 && (x1 == y1 && (x2 == y2 && (x3 == y3 && (x4 == y4 && (x5 == y5)))))) w := by
  refine eqA_of Try.underlying30 (by kernel_rfl) ?_
  refine eqf_cons (by rfl) (by go_simp; rfl) (by go_simp; rfl) (by go_simp) ?_
  refine eqf_cons (by rfl) (by go_simp; rfl) (by go_simp; rfl) (by go_simp) ?_
  refine eqf_cons (by rfl) (by go_simp; rfl) (by go_simp; rfl) (by go_simp) ?_
  refine eqf_cons (by rfl) (by go_simp; rfl) (by go_simp; rfl) (by go_simp) ?_
  refine eqf_cons (by rfl) (by go_simp; rfl) (by go_simp; rfl) (by go_simp) ?_
  exact eqf_last (by rfl) (by go_simp; rfl) (by go_simp; rfl) (by go_simp)
theorem sl22 : SliceT Try.prog 22 6 40 := slB_ok (by kernel_rfl)
theorem sliceZ22 : SliceZ Try.prog 22 6 40 [.v (.int .i64 0), .v (.int .i64 0), .v (.int .i64 0), .v (.int .i64 0), .v (.bool false), .v (.bool false)] := slZ_ok (vs := [(.int .i64 0), (.int .i64 0), (.int .i64 0), (.int .i64 0), (.bool false), (.bool false)]) (by kernel_rfl) (by kernel_rfl) rfl (fun _ _ _ => .cons (F := []) (.v rfl) (.cons (F := []) (.v rfl) (.cons (F := []) (.v rfl) (.cons (F := []) (.v rfl) (.cons (F := []) (.v rfl) (.cons (F := []) (.v rfl) (.nil)))))))
def eqf30 : List Value → List Value → Option Bool
  | [.int .i64 x0, .int .i64 x1, .int .i64 x2, .int .i64 x3, .bool x4, .bool x5], [.int .i64 y0, .int .i64 y1, .int .i64 y2, .int .i64 y3, .bool y4, .bool y5] => some (x0 == y0 && (x1 == y1 && (x2 == y2 && (x3 == y3 && (x4 == y4 && (x5 == y5))))))
  | _, _ => none
theorem eqAgg30 : EqAgg Try.prog 30 eqf30 := by
  intro xs ys b w h
  unfold eqf30 at h
  split at h
  · injection h with h; subst h; exact equal_at (fun n => eqA30 n w _ _ _ _ _ _ _ _ _ _ _ _)
  · cases h
theorem zero30 : ZeroT Try.prog 30 [.v (.int .i64 0), .v (.int .i64 0), .v (.int .i64 0), .v (.int .i64 0), .v (.bool false), .v (.bool false)] := zeroB_ok (vs := [(.int .i64 0), (.int .i64 0), (.int .i64 0), (.int .i64 0), (.bool false), (.bool false)]) (by kernel_rfl) (fun _ _ _ => .cons (F := []) (.v rfl) (.cons (F := []) (.v rfl) (.cons (F := []) (.v rfl) (.cons (F := []) (.v rfl) (.cons (F := []) (.v rfl) (.cons (F := []) (.v rfl) (.nil)))))))
theorem build53 : BuildT Try.prog 53 [(0, 1), (1, 1)] := buildB_ok (by kernel_rfl)
theorem zero53 : ZeroT Try.prog 53 [.sl true 6 ([].map eE), .v (.bool false)] := zeroB_ok (vs := [(.slice none 0 0), (.bool false)]) (by kernel_rfl) (fun _ _ _ => .cons (F := []) (.nil _ _) (.cons (F := []) (.v rfl) (.nil)))
theorem build30 : BuildT Try.prog 30 [(0, 1), (1, 1), (2, 1), (3, 1), (4, 1), (5, 1)] := buildB_ok (by kernel_rfl)
theorem tlb_may.ac (k : Nat) (a0 : S30) (r : Bool) (h : tlb_may.f k a0.f0 a0.f1 a0.f2 a0.f3 a0.f4 a0.f5 = some r) : AC Try.prog 48 23 [.agg [.v (.int .i64 a0.f0), .v (.int .i64 a0.f1), .v (.int .i64 a0.f2), .v (.int .i64 a0.f3), .v (.bool a0.f4), .v (.bool a0.f5)]] [none] [.c (.v (.bool r))] :=
  ac_of rfl (fun w R => RepR.one (RepU.c (RepC.v rfl))) (fun w => (tlb_may.calls k a0.f0 a0.f1 a0.f2 a0.f3 a0.f4 a0.f5 r w h).mono (fun e w' hh => ⟨by simpa only [errW_eq] using hh.1, hh.2⟩))
theorem tlb_of.ac (a0 : S30) (a1 : Int) (a2 : Int) (r : Bool) (h : tlb_of.f a0.f0 a0.f1 a0.f2 a0.f3 a0.f4 a0.f5 a1 a2 = some r) : AC Try.prog 48 31 [.agg [.v (.int .i64 a0.f0), .v (.int .i64 a0.f1), .v (.int .i64 a0.f2), .v (.int .i64 a0.f3), .v (.bool a0.f4), .v (.bool a0.f5)], .c (.v (.int .i64 a1)), .c (.v (.int .i64 a2))] [none, none, none] [.c (.v (.bool r))] :=
  ac_of rfl (fun w R => RepR.one (RepU.c (RepC.v rfl))) (fun w => (tlb_of.calls a0.f0 a0.f1 a0.f2 a0.f3 a0.f4 a0.f5 a1 a2 r w h).mono (fun e w' hh => ⟨by simpa only [errW_eq] using hh.1, hh.2⟩))
theorem tlb_Clash.ac (k : Nat) (a0 : S30) (a1 : S30) (r : Bool) (h : tlb_Clash.f k a0.f0 a0.f1 a0.f2 a0.f3 a0.f4 a0.f5 a1.f0 a1.f1 a1.f2 a1.f3 a1.f4 a1.f5 = some r) : AC Try.prog 48 13 [.agg [.v (.int .i64 a0.f0), .v (.int .i64 a0.f1), .v (.int .i64 a0.f2), .v (.int .i64 a0.f3), .v (.bool a0.f4), .v (.bool a0.f5)], .agg [.v (.int .i64 a1.f0), .v (.int .i64 a1.f1), .v (.int .i64 a1.f2), .v (.int .i64 a1.f3), .v (.bool a1.f4), .v (.bool a1.f5)]] [none, none] [.c (.v (.bool r))] :=
  ac_of rfl (fun w R => RepR.one (RepU.c (RepC.v rfl))) (fun w => (tlb_Clash.calls k a0.f0 a0.f1 a0.f2 a0.f3 a0.f4 a0.f5 a1.f0 a1.f1 a1.f2 a1.f3 a1.f4 a1.f5 r w h).mono (fun e w' hh => ⟨by simpa only [errW_eq] using hh.1, hh.2⟩))
def Clone.f (k : Nat) (a0 : List S30) : Option ((List S30)) :=
  (bif decide (([] : List S30).length + a0.length ≤ 1000000) then some (([] : List S30) ++ a0) else none)
set_option maxHeartbeats 4000000 in
theorem Clone.ac (k : Nat) (a0 : List S30) (r : (List S30)) (h : Clone.f k a0 = some r) : AC Try.prog 48 25 [.c (.sl false 6 (a0.map eE))] [none] [.c (.sl true 6 (r.map eE))] := by
  unfold Clone.f at h
  refine ac_intro (fn := Try.f25) (pins := []) (rts := [2]) Try.func25 rfl Try.ntmps25 rfl (Nat.le_of_ble_eq_true rfl) (pins_lt rfl) rfl (fun w R E vs => ?_)
  refine r_weak (of_weak (l := [(0, .u (.c (.sl false 6 (a0.map eE))))]) (by kernel_rfl)) ?_
  refine r_seq ?_
  refine r_reg (l := [(0, .u (.c (.sl false 6 (a0.map eE))))]) (co_then 1 rfl (os_plain rfl rfl (s_take (.inr rfl) (.sl 6) rfl (by kernel_rfl))) (.nil)) rfl (by kernel_rfl) ?_
  refine r_seq ?_
  refine r_seq ?_
  refine r_reg (l := [(0, .u (.c (.sl false 6 (a0.map eE)))), (4, .u (.c (.x (boolQ (a0.map eE = [])))))]) (cg_then (ds := [3]) 1 rfl (by kernel_rfl) (co_then 2 rfl (os_plain rfl rfl (s_isNil (i := 3) (own := false) (sz := 6) (rows := a0.map eE) rfl sl22 (by kernel_rfl) rfl (by kernel_rfl))) (.nil))) rfl (by kernel_rfl) ?_
  refine r_condU (p := a0.map eE = []) (by kernel_rfl) (fun hp => ?_) ?_
  · obtain rfl := List.map_eq_nil_iff.mp hp
    replace h : some ([] : (List S30)) = some r := h
    refine r_seq ?_
    refine r_reg (l := [(2, .u (.c (.sl true 6 ([].map eE))))]) (co_then 1 rfl (os_plain rfl rfl (s_take (.inr rfl) (.sl 6) rfl (by kernel_rfl))) (.nil)) rfl (by kernel_rfl) ?_
    refine r_ret ?_
    obtain rfl := Option.some.inj h
    exact ⟨.inr rfl, _, _, .cons (.move rfl rfl) (.nil), rfl, outs_of trivial⟩
  · have h := h
    refine r_skip ?_
    refine r_seq ?_
    obtain ⟨hg1, h⟩ := guard_some h
    simp only [decide_eq_true_eq] at hg1
    refine r_reg (l := [(2, .u (.c (.sl true 6 ((([] : List S30) ++ a0).map eE))))]) (co_then 1 rfl (os_toG (os_plain rfl rfl (s_buildSlice (sz := 6) (len := 0) (us := []) (cs := []) rfl sliceZ22 (.nil) (by kernel_rfl) (Nat.le_of_ble_eq_true rfl) rfl (by kernel_rfl))) (t' := .u (.c (.sl true 6 (([] : List S30).map eE)))) (by kernel_rfl)) (cg_then (ds := [6]) 2 rfl (by kernel_rfl) (co_then 3 rfl (os_toG (os_plain rfl rfl (s_appendM (i := 5) (sz := 6) (rows := ([] : List S30).map eE) (rows2 := a0.map eE) rfl sliceZ22 (by kernel_rfl) (.u (own := false) (by kernel_rfl)) (copy_map eE_copy) (by rw [List.length_map, List.length_map]; exact hg1) (Nat.le_of_ble_eq_true rfl) rfl (by kernel_rfl))) (t' := .u (.c (.sl true 6 ((([] : List S30) ++ a0).map eE)))) (by rw [List.map_append])) (co_then 4 rfl (os_plain rfl rfl (s_take (u := .c (.sl true 6 ((([] : List S30) ++ a0).map eE))) (.inr rfl) (.move (by kernel_rfl) rfl) rfl (by kernel_rfl))) (.nil))))) rfl (by kernel_rfl) ?_
    refine r_ret ?_
    obtain rfl := Option.some.inj h
    exact ⟨.inr rfl, _, _, .cons (.move rfl rfl) (.nil), rfl, outs_of trivial⟩
def Index.l1 (k : Nat) (a0 : List S30) (a1 : S30) : Nat → Int → Option (Int)
  | 0, _ => none
  | n1 + 1, v1 => (bif decide (v1 < (a0.length : Int)) then (bif decide (0 ≤ v1) && decide (v1 < (a0.length : Int)) then (bif a1.f0 == ((a0.getD v1.toNat z30).f0) && (a1.f1 == ((a0.getD v1.toNat z30).f1) && (a1.f2 == ((a0.getD v1.toNat z30).f2) && (a1.f3 == ((a0.getD v1.toNat z30).f3) && (a1.f4 == ((a0.getD v1.toNat z30).f4) && (a1.f5 == ((a0.getD v1.toNat z30).f5)))))) then some v1 else Index.l1 k a0 a1 n1 (IntKind.i64.wrap (v1 + 1))) else none) else some (-1))
def Index.f (k : Nat) (a0 : List S30) (a1 : S30) : Option (Int) :=
  Index.l1 k a0 a1 k 0
set_option maxHeartbeats 4000000 in
theorem Index.ac (k : Nat) (a0 : List S30) (a1 : S30) (r : Int) (h : Index.f k a0 a1 = some r) : AC Try.prog 48 39 [.c (.sl false 6 (a0.map eE)), .agg [.v (.int .i64 a1.f0), .v (.int .i64 a1.f1), .v (.int .i64 a1.f2), .v (.int .i64 a1.f3), .v (.bool a1.f4), .v (.bool a1.f5)]] [none, none] [.c (.v (.int .i64 r))] := by
  unfold Index.f at h
  refine ac_intro (fn := Try.f39) (pins := []) (rts := [4]) Try.func39 rfl Try.ntmps39 rfl (Nat.le_of_ble_eq_true rfl) (pins_lt rfl) rfl (fun w R E vs => ?_)
  refine r_weak (of_weak (l := [(0, .u (.c (.sl false 6 (a0.map eE)))), (1, .u (.agg [.v (.int .i64 a1.f0), .v (.int .i64 a1.f1), .v (.int .i64 a1.f2), .v (.int .i64 a1.f3), .v (.bool a1.f4), .v (.bool a1.f5)]))]) (by kernel_rfl)) ?_
  refine r_seq ?_
  refine r_reg (l := [(0, .u (.c (.sl false 6 (a0.map eE)))), (3, .u (.c (.pt true [.v (.int .i64 a1.f0), .v (.int .i64 a1.f1), .v (.int .i64 a1.f2), .v (.int .i64 a1.f3), .v (.bool a1.f4), .v (.bool a1.f5)])))]) (co_then 1 rfl (os_plain rfl rfl (s_box (u := .agg [.v (.int .i64 a1.f0), .v (.int .i64 a1.f1), .v (.int .i64 a1.f2), .v (.int .i64 a1.f3), .v (.bool a1.f4), .v (.bool a1.f5)]) rfl (.copy (by kernel_rfl) (by kernel_rfl) (by kernel_rfl)) rfl (by kernel_rfl))) (cg_then (ds := [4]) 2 rfl (by kernel_rfl) (.nil))) rfl (by kernel_rfl) ?_
  refine r_seq ?_
  refine r_seq ?_
  refine r_reg (l := [(0, .u (.c (.sl false 6 (a0.map eE)))), (3, .u (.c (.pt true [.v (.int .i64 a1.f0), .v (.int .i64 a1.f1), .v (.int .i64 a1.f2), .v (.int .i64 a1.f3), .v (.bool a1.f4), .v (.bool a1.f5)]))), (7, .u (.c (.v (.int .i64 (a0.length : Int))))), (8, .u (.c (.v (.int .i64 0))))]) (cg_then (ds := [6]) 1 rfl (by kernel_rfl) (co_then 2 rfl (os_to (os_plain rfl rfl (s_lenU (own := false) (sz := 6) (rows := (a0.map eE)) rfl sl22 (by kernel_rfl) rfl (by kernel_rfl))) (t' := .u (.c (.v (.int .i64 (a0.length : Int))))) (by rw [List.length_map])) (cg_then (ds := [8]) 3 rfl (by kernel_rfl) (.nil)))) rfl (by kernel_rfl) ?_
  refine r_block ?_
  refine r_weak (of_weak (l := [(0, .u (.c (.sl false 6 (a0.map eE)))), (3, .u (.c (.pt true [.v (.int .i64 a1.f0), .v (.int .i64 a1.f1), .v (.int .i64 a1.f2), .v (.int .i64 a1.f3), .v (.bool a1.f4), .v (.bool a1.f5)]))), (7, .u (.c (.v (.int .i64 (a0.length : Int))))), (8, .u (.c (.v (.int .i64 0))))]) (by kernel_rfl)) ?_
  refine r_loopI (α := Int) (fun x => [(0, .u (.c (.sl false 6 (a0.map eE)))), (3, .u (.c (.pt true [.v (.int .i64 a1.f0), .v (.int .i64 a1.f1), .v (.int .i64 a1.f2), .v (.int .i64 a1.f3), .v (.bool a1.f4), .v (.bool a1.f5)]))), (7, .u (.c (.v (.int .i64 (a0.length : Int))))), (8, .u (.c (.v (.int .i64 x))))]) (fun n x => Index.l1 k a0 a1 n x = some r) k 0 h (by intro x h; unfold Index.l1 at h; cases h) ?_
  rintro n1 v1 h
  replace h : Index.l1 k a0 a1 (n1 + 1) v1 = some r := h
  unfold Index.l1 at h
  show Run _ _ _ (St.of [(0, .u (.c (.sl false 6 (a0.map eE)))), (3, .u (.c (.pt true [.v (.int .i64 a1.f0), .v (.int .i64 a1.f1), .v (.int .i64 a1.f2), .v (.int .i64 a1.f3), .v (.bool a1.f4), .v (.bool a1.f5)]))), (7, .u (.c (.v (.int .i64 (a0.length : Int))))), (8, .u (.c (.v (.int .i64 v1))))]) _
  refine r_seq ?_
  refine r_reg (l := [(0, .u (.c (.sl false 6 (a0.map eE)))), (3, .u (.c (.pt true [.v (.int .i64 a1.f0), .v (.int .i64 a1.f1), .v (.int .i64 a1.f2), .v (.int .i64 a1.f3), .v (.bool a1.f4), .v (.bool a1.f5)]))), (7, .u (.c (.v (.int .i64 (a0.length : Int))))), (8, .u (.c (.v (.int .i64 v1)))), (9, .u (.c (.v (.bool (decide (v1 < (a0.length : Int)))))))]) (cg_then (ds := [9]) 1 rfl (by kernel_rfl) (.nil)) rfl (by kernel_rfl) ?_
  refine r_seq ?_
  rcases Bool.eq_false_or_eq_true (decide (v1 < (a0.length : Int))) with hb | hb
  · have h := cond_t hb h
    refine r_condT hb rfl ?_
    refine r_skip ?_
    refine r_seq ?_
    refine r_block ?_
    refine r_seq ?_
    refine r_reg (l := [(0, .u (.c (.sl false 6 (a0.map eE)))), (3, .u (.c (.pt true [.v (.int .i64 a1.f0), .v (.int .i64 a1.f1), .v (.int .i64 a1.f2), .v (.int .i64 a1.f3), .v (.bool a1.f4), .v (.bool a1.f5)]))), (5, .u (.c (.v (.int .i64 v1)))), (7, .u (.c (.v (.int .i64 (a0.length : Int))))), (8, .u (.c (.v (.int .i64 v1))))]) (cg_then (ds := [10, 5]) 2 rfl (by kernel_rfl) (.nil)) rfl (by kernel_rfl) ?_
    refine r_seq ?_
    obtain ⟨hg2, h⟩ := guard_some h
    simp only [Bool.and_eq_true, decide_eq_true_eq] at hg2
    refine r_weak (of_weak (l := [(0, .u (.c (.sl false 6 (a0.map eE)))), (3, .u (.c (.pt true [.v (.int .i64 a1.f0), .v (.int .i64 a1.f1), .v (.int .i64 a1.f2), .v (.int .i64 a1.f3), .v (.bool a1.f4), .v (.bool a1.f5)]))), (5, .u (.c (.v (.int .i64 v1)))), (7, .u (.c (.v (.int .i64 (a0.length : Int))))), (8, .u (.c (.v (.int .i64 v1))))]) (by kernel_rfl)) ?_
    refine r_anyW (l := [(0, .u (.c (.sl false 6 (a0.map eE)))), (3, .u (.c (.pt true [.v (.int .i64 a1.f0), .v (.int .i64 a1.f1), .v (.int .i64 a1.f2), .v (.int .i64 a1.f3), .v (.bool a1.f4), .v (.bool a1.f5)]))), (5, .u (.c (.v (.int .i64 v1)))), (7, .u (.c (.v (.int .i64 (a0.length : Int))))), (8, .u (.c (.v (.int .i64 v1)))), (16, .u (.c (.v (.bool (a1.f0 == ((a0.getD v1.toNat z30).f0) && (a1.f1 == ((a0.getD v1.toNat z30).f1) && (a1.f2 == ((a0.getD v1.toNat z30).f2) && (a1.f3 == ((a0.getD v1.toNat z30).f3) && (a1.f4 == ((a0.getD v1.toNat z30).f4) && (a1.f5 == ((a0.getD v1.toNat z30).f5)))))))))))]) (tab := [[], [], [], [1, 2], [3], [0, 4]]) [⟨[], [3], [(11, .u (.agg [.v (.int .i64 a1.f0), .v (.int .i64 a1.f1), .v (.int .i64 a1.f2), .v (.int .i64 a1.f3), .v (.bool a1.f4), .v (.bool a1.f5)]))], some 11, false⟩, ⟨[], [0], [(12, .u (.c (.sl false 6 (a0.map eE))))], some 12, false⟩, ⟨[], [5], [(13, .u (.c (.v (.int .i64 v1))))], some 13, false⟩, ⟨[1, 2], [12, 13], [(14, .addr 12 (.i v1.toNat 6) [] 0)], some 14, false⟩, ⟨[1, 2, 3], [12, 14], [(15, .u (.agg [.v (.int .i64 ((a0.getD v1.toNat z30).f0)), .v (.int .i64 ((a0.getD v1.toNat z30).f1)), .v (.int .i64 ((a0.getD v1.toNat z30).f2)), .v (.int .i64 ((a0.getD v1.toNat z30).f3)), .v (.bool ((a0.getD v1.toNat z30).f4)), .v (.bool ((a0.getD v1.toNat z30).f5))]))], some 15, false⟩, ⟨[0, 1, 2, 3, 4], [11, 15], [(16, .u (.c (.v (.bool (a1.f0 == ((a0.getD v1.toNat z30).f0) && (a1.f1 == ((a0.getD v1.toNat z30).f1) && (a1.f2 == ((a0.getD v1.toNat z30).f2) && (a1.f3 == ((a0.getD v1.toNat z30).f3) && (a1.f4 == ((a0.getD v1.toNat z30).f4) && (a1.f5 == ((a0.getD v1.toNat z30).f5)))))))))))], some 16, false⟩] hm (by kernel_rfl) (by kernel_rfl) (by kernel_rfl) (.cons (fun σ hc => e_g (d := 11) (t := .u (.agg [.v (.int .i64 a1.f0), .v (.int .i64 a1.f1), .v (.int .i64 a1.f2), .v (.int .i64 a1.f3), .v (.bool a1.f4), .v (.bool a1.f5)])) hc rfl rfl (by kernel_rfl)) (.cons (fun σ hc => e_g (d := 12) (t := .u (.c (.sl false 6 (a0.map eE)))) hc rfl rfl (by kernel_rfl)) (.cons (fun σ hc => e_g (d := 13) (t := .u (.c (.v (.int .i64 v1)))) hc rfl rfl (by kernel_rfl)) (.cons (fun σ hc => e_put hc rfl rfl (os_plain rfl rfl (s_indexU (own := false) (sz := 6) (rows := (a0.map eE)) (e := v1) (ik := .i64) rfl sl22 (by kernel_rfl) (.tmp (by kernel_rfl)) hg2.1 (by rw [List.length_map]; exact hg2.2) rfl (by kernel_rfl) (by kernel_rfl)))) (.cons (fun σ hc => e_put hc rfl rfl (os_plain rfl rfl (s_loadA (n := 6) (xs := [.v (.int .i64 ((a0.getD v1.toNat z30).f0)), .v (.int .i64 ((a0.getD v1.toNat z30).f1)), .v (.int .i64 ((a0.getD v1.toNat z30).f2)), .v (.int .i64 ((a0.getD v1.toNat z30).f3)), .v (.bool ((a0.getD v1.toNat z30).f4)), .v (.bool ((a0.getD v1.toNat z30).f5))]) (r := 12) (off := 0) (s := .i v1.toNat 6) (p := []) (c := .sl false 6 (a0.map eE)) (cs := eE (a0.getD v1.toNat z30)) rfl (aggB_ok (by kernel_rfl)) (by kernel_rfl) (by kernel_rfl) (getP_map z30 (by have := hg2; omega)) rfl rfl rfl rfl (by kernel_rfl)))) (.cons (fun σ hc => e_put hc rfl rfl (os_plain rfl rfl (s_eqA (b := a1.f0 == ((a0.getD v1.toNat z30).f0) && (a1.f1 == ((a0.getD v1.toNat z30).f1) && (a1.f2 == ((a0.getD v1.toNat z30).f2) && (a1.f3 == ((a0.getD v1.toNat z30).f3) && (a1.f4 == ((a0.getD v1.toNat z30).f4) && (a1.f5 == ((a0.getD v1.toNat z30).f5))))))) rfl (.inl rfl) eqAgg30 (by kernel_rfl) rfl rfl rfl rfl rfl rfl (by kernel_rfl)))) (.nil))))))) (by kernel_rfl) ?_
    rcases Bool.eq_false_or_eq_true (a1.f0 == ((a0.getD v1.toNat z30).f0) && (a1.f1 == ((a0.getD v1.toNat z30).f1) && (a1.f2 == ((a0.getD v1.toNat z30).f2) && (a1.f3 == ((a0.getD v1.toNat z30).f3) && (a1.f4 == ((a0.getD v1.toNat z30).f4) && (a1.f5 == ((a0.getD v1.toNat z30).f5))))))) with hb | hb
    · have h := cond_t hb h
      refine r_condT hb rfl ?_
      refine r_seq ?_
      refine r_reg (l := [(4, .u (.c (.v (.int .i64 v1))))]) (cg_then (ds := [17, 4]) 2 rfl (by kernel_rfl) (.nil)) rfl (by kernel_rfl) ?_
      refine r_ret ?_
      obtain rfl := Option.some.inj h
      exact ⟨.inr rfl, _, _, .cons (.copy rfl rfl rfl) (.nil), rfl, outs_of trivial⟩
    · have h := cond_f hb h
      refine r_condF hb rfl ?_
      refine r_skip ?_
      refine r_reg (l := [(0, .u (.c (.sl false 6 (a0.map eE)))), (3, .u (.c (.pt true [.v (.int .i64 a1.f0), .v (.int .i64 a1.f1), .v (.int .i64 a1.f2), .v (.int .i64 a1.f3), .v (.bool a1.f4), .v (.bool a1.f5)]))), (7, .u (.c (.v (.int .i64 (a0.length : Int))))), (8, .u (.c (.v (.int .i64 (IntKind.i64.wrap (v1 + 1))))))]) (cg_then (ds := [18, 8]) 2 rfl (by kernel_rfl) (.nil)) rfl (by kernel_rfl) ?_
      exact ⟨IntKind.i64.wrap (v1 + 1), h, of_weak (by kernel_rfl)⟩
  · have h := cond_f hb h
    refine r_condF hb rfl ?_
    refine r_exit ?_
    refine r_seq ?_
    refine r_reg (l := [(4, .u (.c (.v (.int .i64 (-1)))))]) (cg_then (ds := [4]) 1 rfl (by kernel_rfl) (.nil)) rfl (by kernel_rfl) ?_
    refine r_ret ?_
    obtain rfl := Option.some.inj h
    exact ⟨.inr rfl, _, _, .cons (.copy rfl rfl rfl) (.nil), rfl, outs_of trivial⟩
def Contains.f (k : Nat) (a0 : List S30) (a1 : S30) : Option (Bool) :=
  (Index.f k a0 a1).bind fun (r1 : Int) => some (decide (r1 ≥ 0))
set_option maxHeartbeats 4000000 in
theorem Contains.ac (k : Nat) (a0 : List S30) (a1 : S30) (r : Bool) (h : Contains.f k a0 a1 = some r) : AC Try.prog 48 24 [.c (.sl false 6 (a0.map eE)), .agg [.v (.int .i64 a1.f0), .v (.int .i64 a1.f1), .v (.int .i64 a1.f2), .v (.int .i64 a1.f3), .v (.bool a1.f4), .v (.bool a1.f5)]] [none, none] [.c (.v (.bool r))] := by
  unfold Contains.f at h
  refine ac_intro (fn := Try.f24) (pins := []) (rts := [4]) Try.func24 rfl Try.ntmps24 rfl (Nat.le_of_ble_eq_true rfl) (pins_lt rfl) rfl (fun w R E vs => ?_)
  refine r_weak (of_weak (l := [(0, .u (.c (.sl false 6 (a0.map eE)))), (1, .u (.agg [.v (.int .i64 a1.f0), .v (.int .i64 a1.f1), .v (.int .i64 a1.f2), .v (.int .i64 a1.f3), .v (.bool a1.f4), .v (.bool a1.f5)]))]) (by kernel_rfl)) ?_
  refine r_seq ?_
  refine r_reg (l := [(0, .u (.c (.sl false 6 (a0.map eE)))), (3, .u (.c (.pt true [.v (.int .i64 a1.f0), .v (.int .i64 a1.f1), .v (.int .i64 a1.f2), .v (.int .i64 a1.f3), .v (.bool a1.f4), .v (.bool a1.f5)])))]) (co_then 1 rfl (os_plain rfl rfl (s_box (u := .agg [.v (.int .i64 a1.f0), .v (.int .i64 a1.f1), .v (.int .i64 a1.f2), .v (.int .i64 a1.f3), .v (.bool a1.f4), .v (.bool a1.f5)]) rfl (.copy (by kernel_rfl) (by kernel_rfl) (by kernel_rfl)) rfl (by kernel_rfl))) (cg_then (ds := [4]) 2 rfl (by kernel_rfl) (.nil))) rfl (by kernel_rfl) ?_
  refine r_seq ?_
  obtain ⟨r1, hr1, h⟩ := bind_some h
  refine r_reg (l := [(4, .u (.c (.v (.bool (decide (r1 ≥ 0))))))]) (cg_then (ds := [5, 6]) 2 rfl (by kernel_rfl) (co_then 3 rfl (os_plain rfl rfl (c_callQ (Index.ac (h := hr1)) ⟨_, Try.func39, rfl, by kernel_rfl⟩ rfl (.cons (.copy (by kernel_rfl) rfl) (.cons (.copy (by kernel_rfl) rfl) (.nil))) (by kernel_rfl))) (cg_then (ds := [8, 4]) 5 rfl (by kernel_rfl) (.nil)))) rfl (by kernel_rfl) ?_
  refine r_ret ?_
  obtain rfl := Option.some.inj h
  exact ⟨.inr rfl, _, _, .cons (.copy rfl rfl rfl) (.nil), rfl, outs_of trivial⟩
def FillL.f (k : Nat) (a0 : S30) (a1 : S30) : Option (Bool) :=
  (tlb_Clash.f k a0.f0 a0.f1 a0.f2 a0.f3 a0.f4 a0.f5 a1.f0 a1.f1 a1.f2 a1.f3 a1.f4 a1.f5).bind fun (r1 : Bool) => some r1
set_option maxHeartbeats 4000000 in
theorem FillL.ac (k : Nat) (a0 : S30) (a1 : S30) (r : Bool) (h : FillL.f k a0 a1 = some r) : AC Try.prog 48 27 [.agg [.v (.int .i64 a0.f0), .v (.int .i64 a0.f1), .v (.int .i64 a0.f2), .v (.int .i64 a0.f3), .v (.bool a0.f4), .v (.bool a0.f5)], .c (.pt false [.v (.int .i64 a1.f0), .v (.int .i64 a1.f1), .v (.int .i64 a1.f2), .v (.int .i64 a1.f3), .v (.bool a1.f4), .v (.bool a1.f5)])] [none, none] [.c (.v (.bool r))] := by
  unfold FillL.f at h
  refine ac_intro (fn := Try.f27) (pins := []) (rts := [3]) Try.func27 rfl Try.ntmps27 rfl (Nat.le_of_ble_eq_true rfl) (pins_lt rfl) rfl (fun w R E vs => ?_)
  refine r_weak (of_weak (l := [(0, .u (.agg [.v (.int .i64 a0.f0), .v (.int .i64 a0.f1), .v (.int .i64 a0.f2), .v (.int .i64 a0.f3), .v (.bool a0.f4), .v (.bool a0.f5)])), (1, .u (.c (.pt false [.v (.int .i64 a1.f0), .v (.int .i64 a1.f1), .v (.int .i64 a1.f2), .v (.int .i64 a1.f3), .v (.bool a1.f4), .v (.bool a1.f5)])))]) (by kernel_rfl)) ?_
  refine r_seq ?_
  refine r_reg (l := [(1, .u (.c (.pt false [.v (.int .i64 a1.f0), .v (.int .i64 a1.f1), .v (.int .i64 a1.f2), .v (.int .i64 a1.f3), .v (.bool a1.f4), .v (.bool a1.f5)]))), (2, .u (.c (.pt true [.v (.int .i64 a0.f0), .v (.int .i64 a0.f1), .v (.int .i64 a0.f2), .v (.int .i64 a0.f3), .v (.bool a0.f4), .v (.bool a0.f5)])))]) (co_then 1 rfl (os_plain rfl rfl (s_box (u := .agg [.v (.int .i64 a0.f0), .v (.int .i64 a0.f1), .v (.int .i64 a0.f2), .v (.int .i64 a0.f3), .v (.bool a0.f4), .v (.bool a0.f5)]) rfl (.copy (by kernel_rfl) (by kernel_rfl) (by kernel_rfl)) rfl (by kernel_rfl))) (cg_then (ds := [3]) 2 rfl (by kernel_rfl) (.nil))) rfl (by kernel_rfl) ?_
  refine r_seq ?_
  obtain ⟨r1, hr1, h⟩ := bind_some h
  refine r_reg (l := [(3, .u (.c (.v (.bool r1))))]) (cg_then (ds := [4]) 1 rfl (by kernel_rfl) (co_then 2 rfl (os_plain rfl rfl (s_loadRA (n := 6) (cs := [.v (.int .i64 a1.f0), .v (.int .i64 a1.f1), .v (.int .i64 a1.f2), .v (.int .i64 a1.f3), .v (.bool a1.f4), .v (.bool a1.f5)]) rfl (aggB_ok (by kernel_rfl)) (by kernel_rfl) rfl rfl (by kernel_rfl))) (co_then 3 rfl (os_plain rfl rfl (c_callQ (tlb_Clash.ac (h := hr1)) ⟨_, Try.func13, rfl, by kernel_rfl⟩ rfl (.cons (.copy (by kernel_rfl) rfl) (.cons (.copy (by kernel_rfl) rfl) (.nil))) (by kernel_rfl))) (cg_then (ds := [3]) 4 rfl (by kernel_rfl) (.nil))))) rfl (by kernel_rfl) ?_
  refine r_ret ?_
  obtain rfl := Option.some.inj h
  exact ⟨.inr rfl, _, _, .cons (.copy rfl rfl rfl) (.nil), rfl, outs_of trivial⟩
set_option maxHeartbeats 4000000 in
def PageL.f (a0 : S30) (a1 : Int) (a2 : Int) : Option (Bool) :=
  (tlb_of.f a0.f0 a0.f1 a0.f2 a0.f3 a0.f4 a0.f5 a1 a2).bind fun (r1 : Bool) => some r1
set_option maxHeartbeats 4000000 in
theorem PageL.ac (a0 : S30) (a1 : Int) (a2 : Int) (r : Bool) (h : PageL.f a0 a1 a2 = some r) : AC Try.prog 48 32 [.agg [.v (.int .i64 a0.f0), .v (.int .i64 a0.f1), .v (.int .i64 a0.f2), .v (.int .i64 a0.f3), .v (.bool a0.f4), .v (.bool a0.f5)], .c (.pt false [.v (.int .i64 a1)]), .c (.pt false [.v (.int .i64 a2)])] [none, none, none] [.c (.v (.bool r))] := by
  unfold PageL.f at h
  refine ac_intro (fn := Try.f32) (pins := []) (rts := [4]) Try.func32 rfl Try.ntmps32 rfl (Nat.le_of_ble_eq_true rfl) (pins_lt rfl) rfl (fun w R E vs => ?_)
  refine r_weak (of_weak (l := [(0, .u (.agg [.v (.int .i64 a0.f0), .v (.int .i64 a0.f1), .v (.int .i64 a0.f2), .v (.int .i64 a0.f3), .v (.bool a0.f4), .v (.bool a0.f5)])), (1, .u (.c (.pt false [.v (.int .i64 a1)]))), (2, .u (.c (.pt false [.v (.int .i64 a2)])))]) (by kernel_rfl)) ?_
  refine r_seq ?_
  refine r_reg (l := [(1, .u (.c (.pt false [.v (.int .i64 a1)]))), (2, .u (.c (.pt false [.v (.int .i64 a2)]))), (3, .u (.c (.pt true [.v (.int .i64 a0.f0), .v (.int .i64 a0.f1), .v (.int .i64 a0.f2), .v (.int .i64 a0.f3), .v (.bool a0.f4), .v (.bool a0.f5)])))]) (co_then 1 rfl (os_plain rfl rfl (s_box (u := .agg [.v (.int .i64 a0.f0), .v (.int .i64 a0.f1), .v (.int .i64 a0.f2), .v (.int .i64 a0.f3), .v (.bool a0.f4), .v (.bool a0.f5)]) rfl (.copy (by kernel_rfl) (by kernel_rfl) (by kernel_rfl)) rfl (by kernel_rfl))) (cg_then (ds := [4]) 2 rfl (by kernel_rfl) (.nil))) rfl (by kernel_rfl) ?_
  refine r_seq ?_
  obtain ⟨r1, hr1, h⟩ := bind_some h
  refine r_reg (l := [(4, .u (.c (.v (.bool r1))))]) (cg_then (ds := [5]) 1 rfl (by kernel_rfl) (co_then 2 rfl (os_plain rfl rfl (s_loadR1 (x := .v (.int .i64 a1)) (cs := [.v (.int .i64 a1)]) rfl (oneB_ok (by kernel_rfl)) (by kernel_rfl) rfl rfl rfl (by kernel_rfl))) (co_then 3 rfl (os_plain rfl rfl (s_loadR1 (x := .v (.int .i64 a2)) (cs := [.v (.int .i64 a2)]) rfl (oneB_ok (by kernel_rfl)) (by kernel_rfl) rfl rfl rfl (by kernel_rfl))) (co_then 4 rfl (os_plain rfl rfl (c_callQ (tlb_of.ac (h := hr1)) ⟨_, Try.func31, rfl, by kernel_rfl⟩ rfl (.cons (.copy (by kernel_rfl) rfl) (.cons (.copy (by kernel_rfl) rfl) (.cons (.copy (by kernel_rfl) rfl) (.nil)))) (by kernel_rfl))) (cg_then (ds := [4]) 5 rfl (by kernel_rfl) (.nil)))))) rfl (by kernel_rfl) ?_
  refine r_ret ?_
  obtain rfl := Option.some.inj h
  exact ⟨.inr rfl, _, _, .cons (.copy rfl rfl rfl) (.nil), rfl, outs_of trivial⟩
def FindL.f (a0 : S30) (a1 : Int) (a2 : Int) : Option (Bool) :=
  (tlb_of.f a0.f0 a0.f1 a0.f2 a0.f3 a0.f4 a0.f5 a1 a2).bind fun (r1 : Bool) => some r1
set_option maxHeartbeats 4000000 in
theorem FindL.ac (a0 : S30) (a1 : Int) (a2 : Int) (r : Bool) (h : FindL.f a0 a1 a2 = some r) : AC Try.prog 48 34 [.agg [.v (.int .i64 a0.f0), .v (.int .i64 a0.f1), .v (.int .i64 a0.f2), .v (.int .i64 a0.f3), .v (.bool a0.f4), .v (.bool a0.f5)], .c (.pt false [.v (.int .i64 a1)]), .c (.pt false [.v (.int .i64 a2)])] [none, none, none] [.c (.v (.bool r))] := by
  unfold FindL.f at h
  refine ac_intro (fn := Try.f34) (pins := []) (rts := [4]) Try.func34 rfl Try.ntmps34 rfl (Nat.le_of_ble_eq_true rfl) (pins_lt rfl) rfl (fun w R E vs => ?_)
  refine r_weak (of_weak (l := [(0, .u (.agg [.v (.int .i64 a0.f0), .v (.int .i64 a0.f1), .v (.int .i64 a0.f2), .v (.int .i64 a0.f3), .v (.bool a0.f4), .v (.bool a0.f5)])), (1, .u (.c (.pt false [.v (.int .i64 a1)]))), (2, .u (.c (.pt false [.v (.int .i64 a2)])))]) (by kernel_rfl)) ?_
  refine r_seq ?_
  refine r_reg (l := [(1, .u (.c (.pt false [.v (.int .i64 a1)]))), (2, .u (.c (.pt false [.v (.int .i64 a2)]))), (3, .u (.c (.pt true [.v (.int .i64 a0.f0), .v (.int .i64 a0.f1), .v (.int .i64 a0.f2), .v (.int .i64 a0.f3), .v (.bool a0.f4), .v (.bool a0.f5)])))]) (co_then 1 rfl (os_plain rfl rfl (s_box (u := .agg [.v (.int .i64 a0.f0), .v (.int .i64 a0.f1), .v (.int .i64 a0.f2), .v (.int .i64 a0.f3), .v (.bool a0.f4), .v (.bool a0.f5)]) rfl (.copy (by kernel_rfl) (by kernel_rfl) (by kernel_rfl)) rfl (by kernel_rfl))) (cg_then (ds := [4]) 2 rfl (by kernel_rfl) (.nil))) rfl (by kernel_rfl) ?_
  refine r_seq ?_
  obtain ⟨r1, hr1, h⟩ := bind_some h
  refine r_reg (l := [(4, .u (.c (.v (.bool r1))))]) (cg_then (ds := [5]) 1 rfl (by kernel_rfl) (co_then 2 rfl (os_plain rfl rfl (s_loadR1 (x := .v (.int .i64 a1)) (cs := [.v (.int .i64 a1)]) rfl (oneB_ok (by kernel_rfl)) (by kernel_rfl) rfl rfl rfl (by kernel_rfl))) (co_then 3 rfl (os_plain rfl rfl (s_loadR1 (x := .v (.int .i64 a2)) (cs := [.v (.int .i64 a2)]) rfl (oneB_ok (by kernel_rfl)) (by kernel_rfl) rfl rfl rfl (by kernel_rfl))) (co_then 4 rfl (os_plain rfl rfl (c_callQ (tlb_of.ac (h := hr1)) ⟨_, Try.func31, rfl, by kernel_rfl⟩ rfl (.cons (.copy (by kernel_rfl) rfl) (.cons (.copy (by kernel_rfl) rfl) (.cons (.copy (by kernel_rfl) rfl) (.nil)))) (by kernel_rfl))) (cg_then (ds := [4]) 5 rfl (by kernel_rfl) (.nil)))))) rfl (by kernel_rfl) ?_
  refine r_ret ?_
  obtain rfl := Option.some.inj h
  exact ⟨.inr rfl, _, _, .cons (.copy rfl rfl rfl) (.nil), rfl, outs_of trivial⟩
def IndexFunc.l1 (k : Nat) (a0 : List S30) (a1 : S30 → Option Bool) : Nat → Int → Option (Int)
  | 0, _ => none
  | n1 + 1, v1 => (bif decide (v1 < (a0.length : Int)) then (bif decide (0 ≤ v1) && decide (v1 < (a0.length : Int)) then (a1 (a0.getD v1.toNat z30)).bind fun (r3 : Bool) => (bif r3 then some v1 else IndexFunc.l1 k a0 a1 n1 (IntKind.i64.wrap (v1 + 1))) else none) else some (-1))
def IndexFunc.f (k : Nat) (a0 : List S30) (a1 : S30 → Option Bool) : Option (Int) :=
  IndexFunc.l1 k a0 a1 k 0
set_option maxHeartbeats 4000000 in
theorem IndexFunc.ac (k : Nat) (a0 : List S30) (a1 : S30 → Option Bool) (a1F : FnB Try.prog 48 encE a1) (r : Int) (h : IndexFunc.f k a0 a1 = some r) : AC Try.prog 48 33 [.c (.sl false 6 (a0.map eE)), .fn a1F.f a1F.caps] [none, none] [.c (.v (.int .i64 r))] := by
  unfold IndexFunc.f at h
  refine ac_intro (fn := Try.f33) (pins := []) (rts := [4]) Try.func33 rfl Try.ntmps33 rfl (Nat.le_of_ble_eq_true rfl) (pins_lt rfl) rfl (fun w R E vs => ?_)
  refine r_weak (of_weak (l := [(0, .u (.c (.sl false 6 (a0.map eE)))), (1, .u (.fn a1F.f a1F.caps))]) (by kernel_rfl)) ?_
  refine r_seq ?_
  refine r_reg (l := [(0, .u (.c (.sl false 6 (a0.map eE)))), (1, .u (.fn a1F.f a1F.caps))]) (cg_then (ds := [4]) 1 rfl (by kernel_rfl) (.nil)) rfl (by kernel_rfl) ?_
  refine r_seq ?_
  refine r_seq ?_
  refine r_reg (l := [(0, .u (.c (.sl false 6 (a0.map eE)))), (1, .u (.fn a1F.f a1F.caps)), (7, .u (.c (.v (.int .i64 (a0.length : Int))))), (8, .u (.c (.v (.int .i64 0))))]) (cg_then (ds := [6]) 1 rfl (by kernel_rfl) (co_then 2 rfl (os_to (os_plain rfl rfl (s_lenU (own := false) (sz := 6) (rows := (a0.map eE)) rfl sl22 (by kernel_rfl) rfl (by kernel_rfl))) (t' := .u (.c (.v (.int .i64 (a0.length : Int))))) (by rw [List.length_map])) (cg_then (ds := [8]) 3 rfl (by kernel_rfl) (.nil)))) rfl (by kernel_rfl) ?_
  refine r_block ?_
  refine r_weak (of_weak (l := [(0, .u (.c (.sl false 6 (a0.map eE)))), (1, .u (.fn a1F.f a1F.caps)), (7, .u (.c (.v (.int .i64 (a0.length : Int))))), (8, .u (.c (.v (.int .i64 0))))]) (by kernel_rfl)) ?_
  refine r_loopI (α := Int) (fun x => [(0, .u (.c (.sl false 6 (a0.map eE)))), (1, .u (.fn a1F.f a1F.caps)), (7, .u (.c (.v (.int .i64 (a0.length : Int))))), (8, .u (.c (.v (.int .i64 x))))]) (fun n x => IndexFunc.l1 k a0 a1 n x = some r) k 0 h (by intro x h; unfold IndexFunc.l1 at h; cases h) ?_
  rintro n1 v1 h
  replace h : IndexFunc.l1 k a0 a1 (n1 + 1) v1 = some r := h
  unfold IndexFunc.l1 at h
  show Run _ _ _ (St.of [(0, .u (.c (.sl false 6 (a0.map eE)))), (1, .u (.fn a1F.f a1F.caps)), (7, .u (.c (.v (.int .i64 (a0.length : Int))))), (8, .u (.c (.v (.int .i64 v1))))]) _
  refine r_seq ?_
  refine r_reg (l := [(0, .u (.c (.sl false 6 (a0.map eE)))), (1, .u (.fn a1F.f a1F.caps)), (7, .u (.c (.v (.int .i64 (a0.length : Int))))), (8, .u (.c (.v (.int .i64 v1)))), (9, .u (.c (.v (.bool (decide (v1 < (a0.length : Int)))))))]) (cg_then (ds := [9]) 1 rfl (by kernel_rfl) (.nil)) rfl (by kernel_rfl) ?_
  refine r_seq ?_
  rcases Bool.eq_false_or_eq_true (decide (v1 < (a0.length : Int))) with hb | hb
  · have h := cond_t hb h
    refine r_condT hb rfl ?_
    refine r_skip ?_
    refine r_seq ?_
    refine r_block ?_
    refine r_seq ?_
    refine r_reg (l := [(0, .u (.c (.sl false 6 (a0.map eE)))), (1, .u (.fn a1F.f a1F.caps)), (5, .u (.c (.v (.int .i64 v1)))), (7, .u (.c (.v (.int .i64 (a0.length : Int))))), (8, .u (.c (.v (.int .i64 v1))))]) (cg_then (ds := [10, 5]) 2 rfl (by kernel_rfl) (.nil)) rfl (by kernel_rfl) ?_
    refine r_seq ?_
    obtain ⟨hg2, h⟩ := guard_some h
    simp only [Bool.and_eq_true, decide_eq_true_eq] at hg2
    obtain ⟨r3, hr3, h⟩ := bind_some h
    refine r_reg (l := [(0, .u (.c (.sl false 6 (a0.map eE)))), (1, .u (.fn a1F.f a1F.caps)), (5, .u (.c (.v (.int .i64 v1)))), (7, .u (.c (.v (.int .i64 (a0.length : Int))))), (8, .u (.c (.v (.int .i64 v1)))), (16, .u (.c (.v (.bool r3))))]) (cg_then (ds := [11, 12, 13]) 3 rfl (by kernel_rfl) (co_then 4 rfl (os_plain rfl rfl (s_indexU (own := false) (sz := 6) (rows := (a0.map eE)) (e := v1) (ik := .i64) rfl sl22 (by kernel_rfl) (.tmp (by kernel_rfl)) hg2.1 (by rw [List.length_map]; exact hg2.2) rfl (by kernel_rfl) (by kernel_rfl))) (co_then 5 rfl (os_plain rfl rfl (s_loadA (n := 6) (xs := [.v (.int .i64 ((a0.getD v1.toNat z30).f0)), .v (.int .i64 ((a0.getD v1.toNat z30).f1)), .v (.int .i64 ((a0.getD v1.toNat z30).f2)), .v (.int .i64 ((a0.getD v1.toNat z30).f3)), .v (.bool ((a0.getD v1.toNat z30).f4)), .v (.bool ((a0.getD v1.toNat z30).f5))]) (r := 12) (off := 0) (s := .i v1.toNat 6) (p := []) (c := .sl false 6 (a0.map eE)) (cs := eE (a0.getD v1.toNat z30)) rfl (aggB_ok (by kernel_rfl)) (by kernel_rfl) (by kernel_rfl) (getP_map z30 (by have := hg2; omega)) rfl rfl rfl rfl (by kernel_rfl))) (co_then 6 rfl (os_plain rfl rfl (s_callQ rfl a1F.ok (.u (by kernel_rfl)) (.cons (.copy (by kernel_rfl) rfl) (.nil)) (a1F.ac _ _ hr3) (by kernel_rfl))) (.nil))))) rfl (by kernel_rfl) ?_
    rcases Bool.eq_false_or_eq_true (r3) with hb | hb
    · have h := cond_t hb h
      refine r_condT hb rfl ?_
      refine r_seq ?_
      refine r_reg (l := [(4, .u (.c (.v (.int .i64 v1))))]) (cg_then (ds := [17, 4]) 2 rfl (by kernel_rfl) (.nil)) rfl (by kernel_rfl) ?_
      refine r_ret ?_
      obtain rfl := Option.some.inj h
      exact ⟨.inr rfl, _, _, .cons (.copy rfl rfl rfl) (.nil), rfl, outs_of trivial⟩
    · have h := cond_f hb h
      refine r_condF hb rfl ?_
      refine r_skip ?_
      refine r_reg (l := [(0, .u (.c (.sl false 6 (a0.map eE)))), (1, .u (.fn a1F.f a1F.caps)), (7, .u (.c (.v (.int .i64 (a0.length : Int))))), (8, .u (.c (.v (.int .i64 (IntKind.i64.wrap (v1 + 1))))))]) (cg_then (ds := [18, 8]) 2 rfl (by kernel_rfl) (.nil)) rfl (by kernel_rfl) ?_
      exact ⟨IntKind.i64.wrap (v1 + 1), h, of_weak (by kernel_rfl)⟩
  · have h := cond_f hb h
    refine r_condF hb rfl ?_
    refine r_exit ?_
    refine r_seq ?_
    refine r_reg (l := [(4, .u (.c (.v (.int .i64 (-1)))))]) (cg_then (ds := [4]) 1 rfl (by kernel_rfl) (.nil)) rfl (by kernel_rfl) ?_
    refine r_ret ?_
    obtain rfl := Option.some.inj h
    exact ⟨.inr rfl, _, _, .cons (.copy rfl rfl rfl) (.nil), rfl, outs_of trivial⟩
def ContainsFunc.f (k : Nat) (a0 : List S30) (a1 : S30 → Option Bool) : Option (Bool) :=
  (IndexFunc.f k a0 a1).bind fun (r1 : Int) => some (decide (r1 ≥ 0))
set_option maxHeartbeats 4000000 in
theorem ContainsFunc.ac (k : Nat) (a0 : List S30) (a1 : S30 → Option Bool) (a1F : FnB Try.prog 48 encE a1) (r : Bool) (h : ContainsFunc.f k a0 a1 = some r) : AC Try.prog 48 26 [.c (.sl false 6 (a0.map eE)), .fn a1F.f a1F.caps] [none, none] [.c (.v (.bool r))] := by
  unfold ContainsFunc.f at h
  refine ac_intro (fn := Try.f26) (pins := []) (rts := [4]) Try.func26 rfl Try.ntmps26 rfl (Nat.le_of_ble_eq_true rfl) (pins_lt rfl) rfl (fun w R E vs => ?_)
  refine r_weak (of_weak (l := [(0, .u (.c (.sl false 6 (a0.map eE)))), (1, .u (.fn a1F.f a1F.caps))]) (by kernel_rfl)) ?_
  refine r_seq ?_
  refine r_reg (l := [(0, .u (.c (.sl false 6 (a0.map eE)))), (1, .u (.fn a1F.f a1F.caps))]) (cg_then (ds := [4]) 1 rfl (by kernel_rfl) (.nil)) rfl (by kernel_rfl) ?_
  refine r_seq ?_
  obtain ⟨r1, hr1, h⟩ := bind_some h
  refine r_reg (l := [(4, .u (.c (.v (.bool (decide (r1 ≥ 0))))))]) (cg_then (ds := [5, 6]) 2 rfl (by kernel_rfl) (co_then 3 rfl (os_plain rfl rfl (c_callQ (IndexFunc.ac (a1F := a1F) (h := hr1)) ⟨_, Try.func33, rfl, by kernel_rfl⟩ rfl (.cons (.copy (by kernel_rfl) rfl) (.cons (.copy (by kernel_rfl) rfl) (.nil))) (by kernel_rfl))) (cg_then (ds := [8, 4]) 5 rfl (by kernel_rfl) (.nil)))) rfl (by kernel_rfl) ?_
  refine r_ret ?_
  obtain rfl := Option.some.inj h
  exact ⟨.inr rfl, _, _, .cons (.copy rfl rfl rfl) (.nil), rfl, outs_of trivial⟩
def DeleteFunc.l1 (k : Nat) (a0 : List S30) (a1 : S30 → Option Bool) (r1 : Int) : Nat → (List S30) → Int → Int → Option ((List S30))
  | 0, _, _, _ => none
  | n1 + 1, v2, v3, v4 => (bif decide (v4 < (v2.length : Int)) then (bif decide (0 ≤ v4) && decide (v4 < (v2.length : Int)) then (a1 (v2.getD ((v4).toNat) z30)).bind fun (r6 : Bool) => (bif !r6 then (bif decide (0 ≤ v3) && decide (v3 < (v2.length : Int)) then DeleteFunc.l1 k a0 a1 r1 n1 (v2.set ((v3).toNat) (v2.getD ((v4).toNat) z30)) (IntKind.i64.wrap (v3 + 1)) (IntKind.i64.wrap (v4 + 1)) else none) else DeleteFunc.l1 k a0 a1 r1 n1 v2 v3 (IntKind.i64.wrap (v4 + 1))) else none) else (bif decide (0 ≤ v3) && decide (v3.toNat ≤ v2.length) then (bif decide (0 ≤ v3) && decide (v3.toNat ≤ (v2.take (0 + v3.toNat) ++ (List.replicate ((v2.map eE).length - v3.toNat) z30 ++ v2.drop ((0 + v3.toNat) + ((v2.map eE).length - v3.toNat)))).length) then some ((v2.take (0 + v3.toNat) ++ (List.replicate ((v2.map eE).length - v3.toNat) z30 ++ v2.drop ((0 + v3.toNat) + ((v2.map eE).length - v3.toNat)))).take (v3.toNat - 0)) else none) else none))
def DeleteFunc.f (k : Nat) (a0 : List S30) (a1 : S30 → Option Bool) : Option ((List S30)) :=
  (IndexFunc.f k a0 a1).bind fun (r1 : Int) => (bif r1 == (-1) then some a0 else DeleteFunc.l1 k a0 a1 r1 k a0 r1 (IntKind.i64.wrap (r1 + 1)))
set_option maxHeartbeats 4000000 in
theorem DeleteFunc.ac (k : Nat) (a0 : List S30) (a1 : S30 → Option Bool) (a1F : FnB Try.prog 48 encE a1) (r : (List S30)) (h : DeleteFunc.f k a0 a1 = some r) : AC Try.prog 48 40 [.c (.sl true 6 (a0.map eE)), .fn a1F.f a1F.caps] [none, none] [.c (.sl true 6 (r.map eE))] := by
  unfold DeleteFunc.f at h
  refine ac_intro (fn := Try.f40) (pins := []) (rts := [4]) Try.func40 rfl Try.ntmps40 rfl (Nat.le_of_ble_eq_true rfl) (pins_lt rfl) rfl (fun w R E vs => ?_)
  refine r_weak (of_weak (l := [(0, .u (.c (.sl true 6 (a0.map eE)))), (1, .u (.fn a1F.f a1F.caps))]) (by kernel_rfl)) ?_
  refine r_seq ?_
  refine r_reg (l := [(0, .u (.c (.sl true 6 (a0.map eE)))), (1, .u (.fn a1F.f a1F.caps))]) (co_then 1 rfl (os_plain rfl rfl (s_take (.inr rfl) (.sl 6) rfl (by kernel_rfl))) (.nil)) rfl (by kernel_rfl) ?_
  refine r_seq ?_
  obtain ⟨r1, hr1, h⟩ := bind_some h
  refine r_reg (l := [(0, .u (.c (.sl true 6 (a0.map eE)))), (1, .u (.fn a1F.f a1F.caps)), (5, .u (.c (.v (.int .i64 r1))))]) (cg_then (ds := [8, 9]) 2 rfl (by kernel_rfl) (co_then 3 rfl (os_plain rfl rfl (c_callQL (res := [.c (.v (.int .i64 r1))]) (IndexFunc.ac (a1F := a1F) (h := hr1)) ⟨_, Try.func33, rfl, by kernel_rfl⟩ rfl (.cons (.view (.v0 (r := 0) (lo := 0) (n := (a0.map eE).length) (own := true) (rows := a0.map eE) (by kernel_rfl) (by kernel_rfl) rows_all) (copy_map eE_copy)) (.cons (.copy (.copy (by kernel_rfl) rfl)) (.nil))) (⟨trivial, trivial⟩) (by kernel_rfl))) (cg_then (ds := [5]) 4 rfl (by kernel_rfl) (.nil)))) rfl (by kernel_rfl) ?_
  refine r_seq ?_
  refine r_seq ?_
  refine r_reg (l := [(0, .u (.c (.sl true 6 (a0.map eE)))), (1, .u (.fn a1F.f a1F.caps)), (5, .u (.c (.v (.int .i64 r1)))), (12, .u (.c (.v (.bool (r1 == (-1))))))]) (cg_then (ds := [11, 12]) 2 rfl (by kernel_rfl) (.nil)) rfl (by kernel_rfl) ?_
  rcases Bool.eq_false_or_eq_true (r1 == (-1)) with hb | hb
  · have h := cond_t hb h
    refine r_condT hb rfl ?_
    refine r_seq ?_
    refine r_reg (l := [(4, .u (.c (.sl true 6 (a0.map eE))))]) (co_then 1 rfl (os_plain rfl rfl (s_take (u := .c (.sl true 6 (a0.map eE))) (.inl rfl) (.move (by kernel_rfl) rfl) rfl (by kernel_rfl))) (co_then 2 rfl (os_plain rfl rfl (s_take (u := .c (.sl true 6 (a0.map eE))) (.inr rfl) (.move (by kernel_rfl) rfl) rfl (by kernel_rfl))) (.nil))) rfl (by kernel_rfl) ?_
    refine r_ret ?_
    obtain rfl := Option.some.inj h
    exact ⟨.inr rfl, _, _, .cons (.move rfl rfl) (.nil), rfl, outs_of trivial⟩
  · have h := cond_f hb h
    refine r_condF hb rfl ?_
    refine r_skip ?_
    refine r_seq ?_
    refine r_seq ?_
    refine r_reg (l := [(0, .u (.c (.sl true 6 (a0.map eE)))), (1, .u (.fn a1F.f a1F.caps)), (5, .u (.c (.v (.int .i64 r1)))), (6, .u (.c (.v (.int .i64 (IntKind.i64.wrap (r1 + 1))))))]) (cg_then (ds := [14, 15, 6]) 3 rfl (by kernel_rfl) (.nil)) rfl (by kernel_rfl) ?_
    refine r_block ?_
    refine r_weak (of_weak (l := [(0, .u (.c (.sl true 6 (a0.map eE)))), (1, .u (.fn a1F.f a1F.caps)), (5, .u (.c (.v (.int .i64 r1)))), (6, .u (.c (.v (.int .i64 (IntKind.i64.wrap (r1 + 1))))))]) (by kernel_rfl)) ?_
    refine r_loopI (α := (List S30) × Int × Int) (fun x => [(0, .u (.c (.sl true 6 (x.1.map eE)))), (1, .u (.fn a1F.f a1F.caps)), (5, .u (.c (.v (.int .i64 x.2.1)))), (6, .u (.c (.v (.int .i64 x.2.2))))]) (fun n x => DeleteFunc.l1 k a0 a1 r1 n x.1 x.2.1 x.2.2 = some r) k (a0, r1, IntKind.i64.wrap (r1 + 1)) h (by intro x h; unfold DeleteFunc.l1 at h; cases h) ?_
    rintro n1 ⟨v2, v3, v4⟩ h
    replace h : DeleteFunc.l1 k a0 a1 r1 (n1 + 1) v2 v3 v4 = some r := h
    unfold DeleteFunc.l1 at h
    show Run _ _ _ (St.of [(0, .u (.c (.sl true 6 (v2.map eE)))), (1, .u (.fn a1F.f a1F.caps)), (5, .u (.c (.v (.int .i64 v3)))), (6, .u (.c (.v (.int .i64 v4))))]) _
    refine r_seq ?_
    refine r_seq ?_
    refine r_reg (l := [(0, .u (.c (.sl true 6 (v2.map eE)))), (1, .u (.fn a1F.f a1F.caps)), (5, .u (.c (.v (.int .i64 v3)))), (6, .u (.c (.v (.int .i64 v4)))), (19, .u (.c (.v (.bool (decide (v4 < (v2.length : Int)))))))]) (cg_then (ds := [16, 17]) 2 rfl (by kernel_rfl) (co_then 3 rfl (os_to (os_plain rfl rfl (s_lenV (r := 0) (lo := 0) (n := (v2.map eE).length) (pl := none) (sz := 6) rfl sl22 (by kernel_rfl) rfl (by kernel_rfl))) (t' := .u (.c (.v (.int .i64 (v2.length : Int))))) (by rw [List.length_map])) (cg_then (ds := [19]) 4 rfl (by kernel_rfl) (.nil)))) rfl (by kernel_rfl) ?_
    rcases Bool.eq_false_or_eq_true (decide (v4 < (v2.length : Int))) with hb | hb
    · have h := cond_t hb h
      refine r_condT hb rfl ?_
      refine r_skip ?_
      refine r_seq ?_
      refine r_block ?_
      refine r_seq ?_
      obtain ⟨hg5, h⟩ := guard_some h
      simp only [Bool.and_eq_true, decide_eq_true_eq] at hg5
      refine r_reg (l := [(0, .u (.c (.sl true 6 (v2.map eE)))), (1, .u (.fn a1F.f a1F.caps)), (5, .u (.c (.v (.int .i64 v3)))), (6, .u (.c (.v (.int .i64 v4)))), (7, .u (.c (.pt true [.v (.int .i64 ((v2.getD ((v4).toNat) z30).f0)), .v (.int .i64 ((v2.getD ((v4).toNat) z30).f1)), .v (.int .i64 ((v2.getD ((v4).toNat) z30).f2)), .v (.int .i64 ((v2.getD ((v4).toNat) z30).f3)), .v (.bool ((v2.getD ((v4).toNat) z30).f4)), .v (.bool ((v2.getD ((v4).toNat) z30).f5))])))]) (cg_then (ds := [22, 23]) 2 rfl (by kernel_rfl) (co_then 3 rfl (os_plain rfl rfl (s_indexV (r := 0) (lo := 0) (n := (v2.map eE).length) (pl := none) (sz := 6) (e := v4) (ik := .i64) (k := (v4).toNat) rfl sl22 (by kernel_rfl) (.tmp (by kernel_rfl)) hg5.1 (by rw [List.length_map]; exact hg5.2) (Nat.zero_add _) rfl (by kernel_rfl) (by kernel_rfl))) (co_then 4 rfl (os_plain rfl rfl (s_loadA (n := 6) (xs := [.v (.int .i64 ((v2.getD ((v4).toNat) z30).f0)), .v (.int .i64 ((v2.getD ((v4).toNat) z30).f1)), .v (.int .i64 ((v2.getD ((v4).toNat) z30).f2)), .v (.int .i64 ((v2.getD ((v4).toNat) z30).f3)), .v (.bool ((v2.getD ((v4).toNat) z30).f4)), .v (.bool ((v2.getD ((v4).toNat) z30).f5))]) (r := 0) (off := 0) (s := .i ((v4).toNat) 6) (p := []) (c := .sl true 6 (v2.map eE)) (cs := eE (v2.getD ((v4).toNat) z30)) rfl (aggB_ok (by kernel_rfl)) (by kernel_rfl) (by kernel_rfl) (getP_map z30 (by have := hg5; omega)) rfl rfl rfl rfl (by kernel_rfl))) (co_then 5 rfl (os_plain rfl rfl (s_alloc rfl zero30 rfl (by kernel_rfl))) (co_then 6 rfl (os_plain rfl rfl (s_storeS (n := 6) (r := 7) (off := 0) (s := .d) (p := []) (c := .pt true [.v (.int .i64 0), .v (.int .i64 0), .v (.int .i64 0), .v (.int .i64 0), .v (.bool false), .v (.bool false)]) (cs := [.v (.int .i64 0), .v (.int .i64 0), .v (.int .i64 0), .v (.int .i64 0), .v (.bool false), .v (.bool false)]) (u := .agg [.v (.int .i64 ((v2.getD ((v4).toNat) z30).f0)), .v (.int .i64 ((v2.getD ((v4).toNat) z30).f1)), .v (.int .i64 ((v2.getD ((v4).toNat) z30).f2)), .v (.int .i64 ((v2.getD ((v4).toNat) z30).f3)), .v (.bool ((v2.getD ((v4).toNat) z30).f4)), .v (.bool ((v2.getD ((v4).toNat) z30).f5))]) rfl (by kernel_rfl) (by kernel_rfl) (by kernel_rfl) rfl (by kernel_rfl) rfl rfl rfl rfl (Nat.le_of_ble_eq_true rfl) (by kernel_rfl) (by kernel_rfl) rfl rfl)) (.nil)))))) rfl (by kernel_rfl) ?_
      refine r_seq ?_
      obtain ⟨r6, hr6, h⟩ := bind_some h
      refine r_reg (l := [(0, .u (.c (.sl true 6 (v2.map eE)))), (1, .u (.fn a1F.f a1F.caps)), (5, .u (.c (.v (.int .i64 v3)))), (6, .u (.c (.v (.int .i64 v4)))), (7, .u (.c (.pt true [.v (.int .i64 ((v2.getD ((v4).toNat) z30).f0)), .v (.int .i64 ((v2.getD ((v4).toNat) z30).f1)), .v (.int .i64 ((v2.getD ((v4).toNat) z30).f2)), .v (.int .i64 ((v2.getD ((v4).toNat) z30).f3)), .v (.bool ((v2.getD ((v4).toNat) z30).f4)), .v (.bool ((v2.getD ((v4).toNat) z30).f5))]))), (29, .u (.c (.v (.bool (!r6)))))]) (cg_then (ds := [26, 27]) 2 rfl (by kernel_rfl) (co_then 3 rfl (os_plain rfl rfl (s_callQ rfl a1F.ok (.u (by kernel_rfl)) (.cons (.copy (by kernel_rfl) rfl) (.nil)) (a1F.ac _ _ hr6) (by kernel_rfl))) (cg_then (ds := [29]) 4 rfl (by kernel_rfl) (.nil)))) rfl (by kernel_rfl) ?_
      rcases Bool.eq_false_or_eq_true (!r6) with hb | hb
      · have h := cond_t hb h
        refine r_condT hb rfl ?_
        refine r_seq ?_
        obtain ⟨hg7, h⟩ := guard_some h
        simp only [Bool.and_eq_true, decide_eq_true_eq] at hg7
        refine r_reg (l := [(0, .u (.c (.sl true 6 ((v2.set ((v3).toNat) (v2.getD ((v4).toNat) z30)).map eE)))), (1, .u (.fn a1F.f a1F.caps)), (5, .u (.c (.v (.int .i64 v3)))), (6, .u (.c (.v (.int .i64 v4))))]) (cg_then (ds := [30, 31, 32]) 3 rfl (by kernel_rfl) (co_then 4 rfl (os_plain rfl rfl (s_indexV (r := 0) (lo := 0) (n := (v2.map eE).length) (pl := none) (sz := 6) (e := v3) (ik := .i64) (k := (v3).toNat) rfl sl22 (by kernel_rfl) (.tmp (by kernel_rfl)) hg7.1 (by rw [List.length_map]; exact hg7.2) (Nat.zero_add _) rfl (by kernel_rfl) (by kernel_rfl))) (co_then 5 rfl (os_plain rfl rfl (s_storeR (f := eE) (k := 0) (sz := 0) (n := 6) (r := 0) (off := 0) (s := .i ((v3).toNat) 6) (p := []) (c := .sl true 6 (v2.map eE)) (cs := eE (v2.getD ((v3).toNat) z30)) (u := .agg [.v (.int .i64 ((v2.getD ((v4).toNat) z30).f0)), .v (.int .i64 ((v2.getD ((v4).toNat) z30).f1)), .v (.int .i64 ((v2.getD ((v4).toNat) z30).f2)), .v (.int .i64 ((v2.getD ((v4).toNat) z30).f3)), .v (.bool ((v2.getD ((v4).toNat) z30).f4)), .v (.bool ((v2.getD ((v4).toNat) z30).f5))]) (us := [.v (.int .i64 ((v2.getD ((v4).toNat) z30).f0)), .v (.int .i64 ((v2.getD ((v4).toNat) z30).f1)), .v (.int .i64 ((v2.getD ((v4).toNat) z30).f2)), .v (.int .i64 ((v2.getD ((v4).toNat) z30).f3)), .v (.bool ((v2.getD ((v4).toNat) z30).f4)), .v (.bool ((v2.getD ((v4).toNat) z30).f5))]) (c' := .sl true 6 ((v2.set ((v3).toNat) (v2.getD ((v4).toNat) z30)).map eE)) rfl (by kernel_rfl) (by kernel_rfl) (by kernel_rfl) rfl (by kernel_rfl) (getP_map (f := eE) (own := true) (xs := v2) (k := (v3).toNat) z30 (by have := hg7; omega)) (by kernel_rfl) rfl rfl (Nat.le_of_ble_eq_true rfl) (by kernel_rfl) (by kernel_rfl) (by kernel_rfl) rfl (row_set (f := eE) (l := v2) (k := (v3).toNat) (y := (v2.getD ((v4).toNat) z30)) rfl))) (.nil)))) rfl (by kernel_rfl) ?_
        refine r_reg (l := [(0, .u (.c (.sl true 6 ((v2.set ((v3).toNat) (v2.getD ((v4).toNat) z30)).map eE)))), (1, .u (.fn a1F.f a1F.caps)), (5, .u (.c (.v (.int .i64 (IntKind.i64.wrap (v3 + 1)))))), (6, .u (.c (.v (.int .i64 v4))))]) (cg_then (ds := [34, 35, 5]) 3 rfl (by kernel_rfl) (.nil)) rfl (by kernel_rfl) ?_
        refine r_reg (l := [(0, .u (.c (.sl true 6 ((v2.set ((v3).toNat) (v2.getD ((v4).toNat) z30)).map eE)))), (1, .u (.fn a1F.f a1F.caps)), (5, .u (.c (.v (.int .i64 (IntKind.i64.wrap (v3 + 1)))))), (6, .u (.c (.v (.int .i64 (IntKind.i64.wrap (v4 + 1))))))]) (cg_then (ds := [20, 21, 6]) 3 rfl (by kernel_rfl) (.nil)) rfl (by kernel_rfl) ?_
        exact ⟨((v2.set ((v3).toNat) (v2.getD ((v4).toNat) z30)), IntKind.i64.wrap (v3 + 1), IntKind.i64.wrap (v4 + 1)), h, of_weak (by kernel_rfl)⟩
      · have h := cond_f hb h
        refine r_condF hb rfl ?_
        refine r_skip ?_
        refine r_reg (l := [(0, .u (.c (.sl true 6 (v2.map eE)))), (1, .u (.fn a1F.f a1F.caps)), (5, .u (.c (.v (.int .i64 v3)))), (6, .u (.c (.v (.int .i64 (IntKind.i64.wrap (v4 + 1))))))]) (cg_then (ds := [20, 21, 6]) 3 rfl (by kernel_rfl) (.nil)) rfl (by kernel_rfl) ?_
        exact ⟨(v2, v3, IntKind.i64.wrap (v4 + 1)), h, of_weak (by kernel_rfl)⟩
    · have h := cond_f hb h
      refine r_condF hb rfl ?_
      refine r_exit ?_
      refine r_seq ?_
      obtain ⟨hg8, h⟩ := guard_some h
      simp only [Bool.and_eq_true, decide_eq_true_eq] at hg8
      refine r_reg (l := [(0, .u (.c (.sl true 6 ((v2.take (0 + v3.toNat) ++ (List.replicate ((v2.map eE).length - v3.toNat) z30 ++ v2.drop ((0 + v3.toNat) + ((v2.map eE).length - v3.toNat)))).map eE)))), (5, .u (.c (.v (.int .i64 v3))))]) (cg_then (ds := [36, 37]) 2 rfl (by kernel_rfl) (co_then 3 rfl (os_plain rfl rfl (s_sliceV (r := 0) (pl := none) (sz := 6) (lo := 0) (n := (v2.map eE).length) (lx := (some (.tmp 37))) (hx := none) (l := (some v3.toNat)) (h := none) (l' := v3.toNat) (h' := (v2.map eE).length) rfl sl22 (by kernel_rfl) (.some (k := .i64) (e := v3) (by kernel_rfl) (by have := hg8; omega)) .none rfl rfl (by first | (rw [List.length_map]; have := hg8; omega) | (have := hg8; omega)) (Nat.le_refl _) rfl (by kernel_rfl) (by kernel_rfl))) (co_then 4 rfl (os_plain rfl rfl (s_clearM (f := eE) (l := v2) (z := z30) (i := 38) (r := 0) (sz := 6) (lo := (0 + v3.toNat)) (n := ((v2.map eE).length - v3.toNat)) rfl sliceZ22 rfl (by kernel_rfl) (by kernel_rfl) eE_copy (by try simp only [List.length_map]; have := hg8; omega) rfl)) (.nil)))) rfl (by kernel_rfl) ?_
      refine r_seq ?_
      obtain ⟨hg9, h⟩ := guard_some h
      simp only [Bool.and_eq_true, decide_eq_true_eq] at hg9
      refine r_reg (l := [(4, .u (.c (.sl true 6 (((v2.take (0 + v3.toNat) ++ (List.replicate ((v2.map eE).length - v3.toNat) z30 ++ v2.drop ((0 + v3.toNat) + ((v2.map eE).length - v3.toNat)))).take (v3.toNat - 0)).map eE))))]) (co_then 1 rfl (os_plain rfl rfl (s_take (u := .c (.sl true 6 ((v2.take (0 + v3.toNat) ++ (List.replicate ((v2.map eE).length - v3.toNat) z30 ++ v2.drop ((0 + v3.toNat) + ((v2.map eE).length - v3.toNat)))).map eE))) (.inl rfl) (.move (by kernel_rfl) rfl) rfl (by kernel_rfl))) (cg_then (ds := [40]) 2 rfl (by kernel_rfl) (co_then 3 rfl (os_plain rfl rfl (s_sliceV (r := 39) (pl := none) (sz := 6) (lo := 0) (n := ((v2.take (0 + v3.toNat) ++ (List.replicate ((v2.map eE).length - v3.toNat) z30 ++ v2.drop ((0 + v3.toNat) + ((v2.map eE).length - v3.toNat)))).map eE).length) (lx := none) (hx := (some (.tmp 40))) (l := none) (h := (some v3.toNat)) (l' := 0) (h' := v3.toNat) rfl sl22 (by kernel_rfl) .none (.some (k := .i64) (e := v3) (by kernel_rfl) (by have := hg9; omega)) rfl rfl (by first | (rw [List.length_map]; have := hg9; omega) | (have := hg9; omega)) (by first | (rw [List.length_map]; have := hg9; omega) | (have := hg9; omega)) rfl (by kernel_rfl) (by kernel_rfl))) (co_then 4 rfl (os_plain rfl rfl (s_takeViewM (f := eE) (l := (v2.take (0 + v3.toNat) ++ (List.replicate ((v2.map eE).length - v3.toNat) z30 ++ v2.drop ((0 + v3.toNat) + ((v2.map eE).length - v3.toNat))))) (i := 41) (r := 39) (sz := 6) (lo := (0 + 0)) (n := (v3.toNat - 0)) (.inr rfl) (by kernel_rfl) rfl (by kernel_rfl) eE_copy rfl (by kernel_rfl))) (.nil))))) rfl (by kernel_rfl) ?_
      refine r_ret ?_
      obtain rfl := Option.some.inj h
      exact ⟨.inr rfl, _, _, .cons (.move rfl rfl) (.nil), rfl, outs_of trivial⟩
def drop.f (k : Nat) (a0 : Buf) (a1 : S30 → Option Bool) : Option (Buf) :=
  (Clone.f k a0.l).bind fun (r1 : (List S30)) => (DeleteFunc.f k r1 a1).bind fun (r2 : (List S30)) => some (⟨r2, a0.b⟩ : Buf)
set_option maxHeartbeats 4000000 in
theorem drop.ac (k : Nat) (a0 : Buf) (a1 : S30 → Option Bool) (a1F : FnB Try.prog 48 encE a1) (r : Buf) (h : drop.f k a0 a1 = some r) : AC Try.prog 48 28 [.c (bufC a0), .fn a1F.f a1F.caps] [some (.c (bufC r)), none] [] := by
  unfold drop.f at h
  refine ac_intro (fn := Try.f28) (pins := [0]) (rts := []) Try.func28 rfl Try.ntmps28 rfl (Nat.le_of_ble_eq_true rfl) (pins_lt rfl) rfl (fun w R E vs => ?_)
  refine r_weak (of_weak (l := [(0, .u (.c (bufC a0))), (1, .u (.fn a1F.f a1F.caps))]) (by kernel_rfl)) ?_
  obtain ⟨r1, hr1, h⟩ := bind_some h
  obtain ⟨r2, hr2, h⟩ := bind_some h
  refine r_reg (l := [(0, .u (.c (.pt true [.sl true 6 (r2.map eE), .v (.bool a0.b)])))]) (cg_then (ds := [4, 5, 6, 7, 8]) 5 rfl (by kernel_rfl) (co_then 6 rfl (os_plain rfl rfl (c_callQL (res := [.c (.sl true 6 (r1.map eE))]) (Clone.ac (h := hr1)) ⟨_, Try.func25, rfl, by kernel_rfl⟩ rfl (.cons (.view (.v1 (r := 0) (lo := 0) (n := (a0.l.map eE).length) (off := 0) (s := .d) (p := []) (c := bufC a0) (cs := [.sl true 6 (a0.l.map eE), .v (.bool a0.b)]) (own := true) (rows := a0.l.map eE) (by kernel_rfl) (by kernel_rfl) rfl rfl rows_all) (copy_map eE_copy)) (.nil)) (⟨⟨rfl, mine_map (fun _ => rfl)⟩, trivial⟩) (by kernel_rfl))) (cg_then (ds := [10]) 7 rfl (by kernel_rfl) (co_then 8 rfl (os_plain rfl rfl (c_call (DeleteFunc.ac (a1F := a1F) (h := hr2)) ⟨_, Try.func40, rfl, by kernel_rfl⟩ rfl (Args.move (by kernel_rfl) (.rd (.copy (by kernel_rfl) rfl) (.nil))) rfl (by kernel_rfl))) (cg_then (ds := [12, 13]) 10 rfl (by kernel_rfl) (co_then 11 rfl (os_plain rfl rfl (s_store (n := 1) (r := 0) (off := 0) (s := .d) (p := []) (c := bufC a0) (cs := [.sl true 6 (a0.l.map eE), .v (.bool a0.b)]) (u := .c (.sl true 6 (r2.map eE))) (l := [11]) rfl (by kernel_rfl) (by kernel_rfl) (.move (by kernel_rfl) (by kernel_rfl)) (by kernel_rfl) rfl rfl rfl (Nat.le_of_ble_eq_true rfl) (by kernel_rfl) rfl)) (.nil))))))) rfl (by kernel_rfl) ?_
  obtain rfl := Option.some.inj h
  exact ⟨.inl rfl, _, _, .nil, rfl, outs_of ⟨⟨rfl, rfl⟩, trivial⟩⟩
def New.f  : Option (Buf) :=
  some (⟨[], false⟩ : Buf)
set_option maxHeartbeats 4000000 in
theorem New.ac  (r : Buf) (h : New.f  = some r) : AC Try.prog 48 7 [] [] [.c (bufC r)] := by
  unfold New.f at h
  refine ac_intro (fn := Try.f7) (pins := []) (rts := [0]) Try.func7 rfl Try.ntmps7 rfl (Nat.le_of_ble_eq_true rfl) (pins_lt rfl) rfl (fun w R E vs => ?_)
  refine r_weak (of_weak (l := []) (by kernel_rfl)) ?_
  refine r_seq ?_
  refine r_reg (l := []) (cg_then (ds := [0]) 1 rfl (by kernel_rfl) (.nil)) rfl (by kernel_rfl) ?_
  refine r_seq ?_
  refine r_reg (l := [(0, .u (.c (.pt true [.sl true 6 ([].map eE), .v (.bool false)])))]) (co_then 1 rfl (os_plain rfl rfl (s_build (us := []) (zs := [.sl true 6 ([].map eE), .v (.bool false)]) (cs := [.sl true 6 ([].map eE), .v (.bool false)]) rfl build53 zero53 (.nil) (by kernel_rfl) rfl (by kernel_rfl))) (co_then 2 rfl (os_plain rfl rfl (s_box (u := .agg [.sl true 6 ([].map eE), .v (.bool false)]) rfl (.move (by kernel_rfl) (by kernel_rfl)) rfl (by kernel_rfl))) (co_then 3 rfl (os_plain rfl rfl (s_take (u := .c (.pt true [.sl true 6 ([].map eE), .v (.bool false)])) (.inr rfl) (.move (by kernel_rfl) rfl) rfl (by kernel_rfl))) (.nil)))) rfl (by kernel_rfl) ?_
  refine r_ret ?_
  obtain rfl := Option.some.inj h
  exact ⟨.inr rfl, _, _, .cons (.move rfl rfl) (.nil), rfl, outs_of trivial⟩
def Broken.f (k : Nat) (a0 : Buf) : Option (Buf × Bool) :=
  some (a0, a0.b)
set_option maxHeartbeats 4000000 in
theorem Broken.ac (k : Nat) (a0 : Buf) (r : Buf × Bool) (h : Broken.f k a0 = some r) : AC Try.prog 48 12 [.c (bufC a0)] [some (.c (bufC r.1))] [.c (.v (.bool r.2))] := by
  unfold Broken.f at h
  refine ac_intro (fn := Try.f12) (pins := [0]) (rts := [2]) Try.func12 rfl Try.ntmps12 rfl (Nat.le_of_ble_eq_true rfl) (pins_lt rfl) rfl (fun w R E vs => ?_)
  refine r_weak (of_weak (l := [(0, .u (.c (bufC a0)))]) (by kernel_rfl)) ?_
  refine r_seq ?_
  refine r_reg (l := [(0, .u (.c (bufC a0)))]) (cg_then (ds := [2]) 1 rfl (by kernel_rfl) (.nil)) rfl (by kernel_rfl) ?_
  refine r_seq ?_
  refine r_reg (l := [(0, .u (.c (bufC a0))), (2, .u (.c (.v (.bool a0.b))))]) (cg_then (ds := [3, 4, 5, 6, 2]) 5 rfl (by kernel_rfl) (.nil)) rfl (by kernel_rfl) ?_
  refine r_ret ?_
  obtain rfl := Option.some.inj h
  exact ⟨.inr rfl, _, _, .cons (.copy rfl rfl rfl) (.nil), rfl, outs_of ⟨⟨rfl, rfl⟩, trivial⟩⟩
def Entries.f (k : Nat) (a0 : Buf) : Option (Buf × (List S30)) :=
  (Clone.f k a0.l).bind fun (r1 : (List S30)) => some (a0, r1)
set_option maxHeartbeats 4000000 in
theorem Entries.ac (k : Nat) (a0 : Buf) (r : Buf × (List S30)) (h : Entries.f k a0 = some r) : AC Try.prog 48 9 [.c (bufC a0)] [some (.c (bufC r.1))] [.c (.sl true 6 (r.2.map eE))] := by
  unfold Entries.f at h
  refine ac_intro (fn := Try.f9) (pins := [0]) (rts := [2]) Try.func9 rfl Try.ntmps9 rfl (Nat.le_of_ble_eq_true rfl) (pins_lt rfl) rfl (fun w R E vs => ?_)
  refine r_weak (of_weak (l := [(0, .u (.c (bufC a0)))]) (by kernel_rfl)) ?_
  refine r_seq ?_
  refine r_reg (l := [(0, .u (.c (bufC a0)))]) (co_then 1 rfl (os_plain rfl rfl (s_take (.inr rfl) (.sl 6) rfl (by kernel_rfl))) (.nil)) rfl (by kernel_rfl) ?_
  refine r_seq ?_
  obtain ⟨r1, hr1, h⟩ := bind_some h
  refine r_reg (l := [(0, .u (.c (bufC a0))), (2, .u (.c (.sl true 6 (r1.map eE))))]) (cg_then (ds := [3, 4, 5, 6]) 4 rfl (by kernel_rfl) (co_then 5 rfl (os_plain rfl rfl (c_callQL (res := [.c (.sl true 6 (r1.map eE))]) (Clone.ac (h := hr1)) ⟨_, Try.func25, rfl, by kernel_rfl⟩ rfl (.cons (.view (.v1 (r := 0) (lo := 0) (n := (a0.l.map eE).length) (off := 0) (s := .d) (p := []) (c := bufC a0) (cs := [.sl true 6 (a0.l.map eE), .v (.bool a0.b)]) (own := true) (rows := a0.l.map eE) (by kernel_rfl) (by kernel_rfl) rfl rfl rows_all) (copy_map eE_copy)) (.nil)) (⟨⟨rfl, mine_map (fun _ => rfl)⟩, trivial⟩) (by kernel_rfl))) (co_then 6 rfl (os_plain rfl rfl (s_take (u := .c (.sl true 6 (r1.map eE))) (.inr rfl) (.move (by kernel_rfl) rfl) rfl (by kernel_rfl))) (.nil)))) rfl (by kernel_rfl) ?_
  refine r_ret ?_
  obtain rfl := Option.some.inj h
  exact ⟨.inr rfl, _, _, .cons (.move rfl rfl) (.nil), rfl, outs_of ⟨⟨rfl, rfl⟩, trivial⟩⟩
def Fill.f (k : Nat) (a0 : Buf) (a1 : S30) : Option (Buf × (Option Int)) :=
  (tlb_may.f k a1.f0 a1.f1 a1.f2 a1.f3 a1.f4 a1.f5).bind fun (r1 : Bool) => (bif !r1 then some (a0, (some 1)) else (Contains.f k a0.l a1).bind fun (r2 : Bool) => (bif r2 then some (a0, none) else (bif (a0.l.length : Int) == 64 then (bif decide (1 ≤ a0.l.length) then (Clone.f k ((a0.l.drop (0 + 1)).take (((a0.l.map eE).length - 1)))).bind fun (r4 : (List S30)) => (bif a0.b then (bif decide (r4.length + [a1].length ≤ 1000000) then some ((⟨(r4 ++ [a1]), true⟩ : Buf), none) else none) else (ContainsFunc.f k r4 (fun (x0 : S30) => FillL.f k x0 a1)).bind fun (r8 : Bool) => (bif decide (r4.length + [a1].length ≤ 1000000) then some ((⟨(r4 ++ [a1]), r8⟩ : Buf), none) else none)) else none) else (bif a0.b then (bif decide (a0.l.length + [a1].length ≤ 1000000) then some ((⟨(a0.l ++ [a1]), true⟩ : Buf), none) else none) else (ContainsFunc.f k a0.l (fun (x0 : S30) => FillL.f k x0 a1)).bind fun (r13 : Bool) => (bif decide (a0.l.length + [a1].length ≤ 1000000) then some ((⟨(a0.l ++ [a1]), r13⟩ : Buf), none) else none)))))
set_option maxHeartbeats 4000000 in
theorem Fill.ac (k : Nat) (a0 : Buf) (a1 : S30) (r : Buf × (Option Int)) (h : Fill.f k a0 a1 = some r) : AC Try.prog 48 8 [.c (bufC a0), .agg [.v (.int .i64 a1.f0), .v (.int .i64 a1.f1), .v (.int .i64 a1.f2), .v (.int .i64 a1.f3), .v (.bool a1.f4), .v (.bool a1.f5)]] [some (.c (bufC r.1)), none] [.c (.err r.2)] := by
  unfold Fill.f at h
  refine ac_intro (fn := Try.f8) (pins := [0]) (rts := [4]) Try.func8 rfl Try.ntmps8 rfl (Nat.le_of_ble_eq_true rfl) (pins_lt rfl) rfl (fun w R E vs => ?_)
  refine r_weak (of_weak (l := [(0, .u (.c (bufC a0))), (1, .u (.agg [.v (.int .i64 a1.f0), .v (.int .i64 a1.f1), .v (.int .i64 a1.f2), .v (.int .i64 a1.f3), .v (.bool a1.f4), .v (.bool a1.f5)]))]) (by kernel_rfl)) ?_
  refine r_seq ?_
  refine r_reg (l := [(0, .u (.c (bufC a0))), (3, .u (.c (.pt true [.v (.int .i64 a1.f0), .v (.int .i64 a1.f1), .v (.int .i64 a1.f2), .v (.int .i64 a1.f3), .v (.bool a1.f4), .v (.bool a1.f5)])))]) (co_then 1 rfl (os_plain rfl rfl (s_box (u := .agg [.v (.int .i64 a1.f0), .v (.int .i64 a1.f1), .v (.int .i64 a1.f2), .v (.int .i64 a1.f3), .v (.bool a1.f4), .v (.bool a1.f5)]) rfl (.copy (by kernel_rfl) (by kernel_rfl) (by kernel_rfl)) rfl (by kernel_rfl))) (cg_then (ds := [4]) 2 rfl (by kernel_rfl) (.nil))) rfl (by kernel_rfl) ?_
  refine r_seq ?_
  refine r_block ?_
  refine r_seq ?_
  obtain ⟨r1, hr1, h⟩ := bind_some h
  refine r_reg (l := [(0, .u (.c (bufC a0))), (3, .u (.c (.pt true [.v (.int .i64 a1.f0), .v (.int .i64 a1.f1), .v (.int .i64 a1.f2), .v (.int .i64 a1.f3), .v (.bool a1.f4), .v (.bool a1.f5)]))), (5, .u (.c (.v (.bool (!r1)))))]) (cg_then (ds := [6]) 1 rfl (by kernel_rfl) (co_then 2 rfl (os_plain rfl rfl (c_callQ (tlb_may.ac (h := hr1)) ⟨_, Try.func23, rfl, by kernel_rfl⟩ rfl (.cons (.copy (by kernel_rfl) rfl) (.nil)) (by kernel_rfl))) (cg_then (ds := [8, 5]) 4 rfl (by kernel_rfl) (.nil)))) rfl (by kernel_rfl) ?_
  rcases Bool.eq_false_or_eq_true (!r1) with hb | hb
  · have h := cond_t hb h
    refine r_condT hb rfl ?_
    refine r_seq ?_
    refine r_reg (l := [(0, .u (.c (bufC a0))), (4, .u (.c (.err (some 1))))]) (co_then 1 rfl (os_plain rfl rfl (s_iface (n := 1) rfl (errB_ok (by kernel_rfl)) rfl (by kernel_rfl) rfl (by kernel_rfl))) (cg_then (ds := [4]) 2 rfl (by kernel_rfl) (.nil))) rfl (by kernel_rfl) ?_
    refine r_ret ?_
    obtain rfl := Option.some.inj h
    exact ⟨.inr rfl, _, _, .cons (.copy rfl rfl rfl) (.nil), rfl, outs_of ⟨⟨rfl, rfl⟩, trivial⟩⟩
  · have h := cond_f hb h
    refine r_condF hb rfl ?_
    refine r_seq ?_
    obtain ⟨r2, hr2, h⟩ := bind_some h
    refine r_weak (of_weak (l := [(0, .u (.c (bufC a0))), (3, .u (.c (.pt true [.v (.int .i64 a1.f0), .v (.int .i64 a1.f1), .v (.int .i64 a1.f2), .v (.int .i64 a1.f3), .v (.bool a1.f4), .v (.bool a1.f5)]))), (5, .u (.c (.v (.bool (!r1)))))]) (by kernel_rfl)) ?_
    refine r_anyW (l := [(0, .u (.c (bufC a0))), (3, .u (.c (.pt true [.v (.int .i64 a1.f0), .v (.int .i64 a1.f1), .v (.int .i64 a1.f2), .v (.int .i64 a1.f3), .v (.bool a1.f4), .v (.bool a1.f5)]))), (10, .u (.c (.v (.bool r2))))]) (tab := [[], [0], [1], [2], [], [3, 4], [5, 5]]) [⟨[], [0], [(11, .addr 0 (.d) [] 0)], some 11, false⟩, ⟨[0], [11], [(12, .addr 0 (.d) [] 0)], some 12, false⟩, ⟨[0, 1], [12], [(13, .addr 0 (.d) [] 0)], some 13, false⟩, ⟨[0, 1, 2], [0, 13], [(14, .whole 0 (some (.d, [], 0)) 6 ((a0.l.map eE).length))], some 14, false⟩, ⟨[], [3], [(15, .u (.agg [.v (.int .i64 a1.f0), .v (.int .i64 a1.f1), .v (.int .i64 a1.f2), .v (.int .i64 a1.f3), .v (.bool a1.f4), .v (.bool a1.f5)]))], some 15, false⟩, ⟨[0, 1, 2, 3, 4], [0, 14, 15], [(16, .u (.c (.v (.bool r2))))], some 16, false⟩, ⟨[0, 1, 2, 3, 4, 5], [16], [(10, .u (.c (.v (.bool r2))))], some 10, false⟩] hm (by kernel_rfl) (by kernel_rfl) (by kernel_rfl) (.cons (fun σ hc => e_g (d := 11) (t := .addr 0 (.d) [] 0) hc rfl rfl (by kernel_rfl)) (.cons (fun σ hc => e_g (d := 12) (t := .addr 0 (.d) [] 0) hc rfl rfl (by kernel_rfl)) (.cons (fun σ hc => e_g (d := 13) (t := .addr 0 (.d) [] 0) hc rfl rfl (by kernel_rfl)) (.cons (fun σ hc => e_g (d := 14) (t := .whole 0 (some (.d, [], 0)) 6 ((a0.l.map eE).length)) hc rfl rfl (by kernel_rfl)) (.cons (fun σ hc => e_g (d := 15) (t := .u (.agg [.v (.int .i64 a1.f0), .v (.int .i64 a1.f1), .v (.int .i64 a1.f2), .v (.int .i64 a1.f3), .v (.bool a1.f4), .v (.bool a1.f5)])) hc rfl rfl (by kernel_rfl)) (.cons (fun σ hc => e_put hc rfl rfl (os_plain rfl rfl (c_callQL (res := [.c (.v (.bool r2))]) (Contains.ac (h := hr2)) ⟨_, Try.func24, rfl, by kernel_rfl⟩ rfl (.cons (.view (.v1 (r := 0) (lo := 0) (n := (a0.l.map eE).length) (off := 0) (s := .d) (p := []) (c := bufC a0) (cs := [.sl true 6 (a0.l.map eE), .v (.bool a0.b)]) (own := true) (rows := a0.l.map eE) (by kernel_rfl) (by kernel_rfl) rfl rfl rows_all) (copy_map eE_copy)) (.cons (.copy (.copy (by kernel_rfl) rfl)) (.nil))) (⟨trivial, trivial⟩) (by kernel_rfl)))) (.cons (fun σ hc => e_g (d := 10) (t := .u (.c (.v (.bool r2)))) hc rfl rfl (by kernel_rfl)) (.nil)))))))) (by kernel_rfl) ?_
    rcases Bool.eq_false_or_eq_true (r2) with hb | hb
    · have h := cond_t hb h
      refine r_condT hb rfl ?_
      refine r_seq ?_
      refine r_reg (l := [(0, .u (.c (bufC a0))), (4, .u (.c (.err none)))]) (cg_then (ds := [4]) 1 rfl (by kernel_rfl) (.nil)) rfl (by kernel_rfl) ?_
      refine r_ret ?_
      obtain rfl := Option.some.inj h
      exact ⟨.inr rfl, _, _, .cons (.copy rfl rfl rfl) (.nil), rfl, outs_of ⟨⟨rfl, rfl⟩, trivial⟩⟩
    · have h := cond_f hb h
      refine r_condF hb rfl ?_
      refine r_seq ?_
      refine r_reg (l := [(0, .u (.c (bufC a0))), (3, .u (.c (.pt true [.v (.int .i64 a1.f0), .v (.int .i64 a1.f1), .v (.int .i64 a1.f2), .v (.int .i64 a1.f3), .v (.bool a1.f4), .v (.bool a1.f5)]))), (17, .u (.c (.v (.bool ((a0.l.length : Int) == 64)))))]) (cg_then (ds := [18, 19, 20, 21]) 4 rfl (by kernel_rfl) (co_then 5 rfl (os_to (os_plain rfl rfl (s_lenV (r := 0) (lo := 0) (n := (a0.l.map eE).length) (pl := (some (.d, [], 0))) (sz := 6) rfl sl22 (by kernel_rfl) rfl (by kernel_rfl))) (t' := .u (.c (.v (.int .i64 (a0.l.length : Int))))) (by rw [List.length_map])) (cg_then (ds := [23, 17]) 7 rfl (by kernel_rfl) (.nil)))) rfl (by kernel_rfl) ?_
      rcases Bool.eq_false_or_eq_true ((a0.l.length : Int) == 64) with hb | hb
      · have h := cond_t hb h
        refine r_condT hb rfl ?_
        obtain ⟨hg3, h⟩ := guard_some h
        simp only [Bool.and_eq_true, decide_eq_true_eq] at hg3
        obtain ⟨r4, hr4, h⟩ := bind_some h
        refine r_reg (l := [(0, .u (.c (.pt true [.sl true 6 (r4.map eE), .v (.bool a0.b)]))), (3, .u (.c (.pt true [.v (.int .i64 a1.f0), .v (.int .i64 a1.f1), .v (.int .i64 a1.f2), .v (.int .i64 a1.f3), .v (.bool a1.f4), .v (.bool a1.f5)])))]) (cg_then (ds := [24, 25, 26, 27, 28]) 5 rfl (by kernel_rfl) (co_then 6 rfl (os_plain rfl rfl (s_sliceV (r := 0) (pl := (some (.d, [], 0))) (sz := 6) (lo := 0) (n := (a0.l.map eE).length) (lx := (some (.const (.int .i64 1)))) (hx := none) (l := (some 1)) (h := none) (l' := 1) (h' := (a0.l.map eE).length) rfl sl22 (by kernel_rfl) (.some (k := .i64) (e := 1) (by kernel_rfl) (by decide)) .none rfl rfl (by first | (rw [List.length_map]; have := hg3; omega) | (have := hg3; omega)) (Nat.le_refl _) rfl (by kernel_rfl) (by kernel_rfl))) (co_then 7 rfl (os_plain rfl rfl (c_callQL (res := [.c (.sl true 6 (r4.map eE))]) (Clone.ac (h := hr4)) ⟨_, Try.func25, rfl, by kernel_rfl⟩ rfl (.cons (.view (.v1 (r := 0) (lo := (0 + 1)) (n := ((a0.l.map eE).length - 1)) (off := 0) (s := .d) (p := []) (c := bufC a0) (cs := [.sl true 6 (a0.l.map eE), .v (.bool a0.b)]) (own := true) (rows := a0.l.map eE) (by kernel_rfl) (by kernel_rfl) rfl rfl view_map) (copy_map eE_copy)) (.nil)) (⟨⟨rfl, mine_map (fun _ => rfl)⟩, trivial⟩) (by kernel_rfl))) (cg_then (ds := [31, 32]) 9 rfl (by kernel_rfl) (co_then 10 rfl (os_plain rfl rfl (s_store (n := 1) (r := 0) (off := 0) (s := .d) (p := []) (c := bufC a0) (cs := [.sl true 6 (a0.l.map eE), .v (.bool a0.b)]) (u := .c (.sl true 6 (r4.map eE))) (l := [30]) rfl (by kernel_rfl) (by kernel_rfl) (.move (by kernel_rfl) (by kernel_rfl)) (by kernel_rfl) rfl rfl rfl (Nat.le_of_ble_eq_true rfl) (by kernel_rfl) rfl)) (.nil)))))) rfl (by kernel_rfl) ?_
        refine r_seq ?_
        rcases Bool.eq_false_or_eq_true (a0.b) with hb | hb
        · have h := cond_t hb h
          have hs5 := hb
          refine r_reg (l := [(0, .u (.c (.pt true [.sl true 6 (r4.map eE), .v (.bool true)]))), (3, .u (.c (.pt true [.v (.int .i64 a1.f0), .v (.int .i64 a1.f1), .v (.int .i64 a1.f2), .v (.int .i64 a1.f3), .v (.bool a1.f4), .v (.bool a1.f5)])))]) (cg_then (ds := [33, 34, 35, 36, 37]) 5 rfl (by kernel_rfl) (co_then 6 rfl (os_ge (d := 38) (t := .u (.c (.v (.bool a0.b)))) (t' := .u (.c (.v (.bool true)))) (by kernel_rfl) (by rw [hs5])) (cg_then (ds := [39, 40, 41, 42, 43, 44, 45, 46, 47]) 15 rfl (by kernel_rfl) (co_then 16 rfl (os_plain rfl rfl (s_storeS (n := 1) (r := 0) (off := 1) (s := .d) (p := []) (c := .pt true [.sl true 6 (r4.map eE), .v (.bool a0.b)]) (cs := [.sl true 6 (r4.map eE), .v (.bool a0.b)]) (u := .c (.v (.bool true))) rfl (by kernel_rfl) (by kernel_rfl) (by kernel_rfl) rfl (by kernel_rfl) rfl rfl rfl rfl (Nat.le_of_ble_eq_true rfl) (by kernel_rfl) (by kernel_rfl) rfl rfl)) (.nil))))) rfl (by kernel_rfl) ?_
          refine r_seq ?_
          refine r_pinPtr (i := 0) (own := true) (cs := [.sl true 6 (r4.map eE), .v (.bool true)]) (by kernel_rfl) rfl (fun hpin0 => ?_)
          obtain ⟨hg6, h⟩ := guard_some h
          simp only [decide_eq_true_eq] at hg6
          refine r_weak (of_weak (l := [(0, .u (.c (.pt true [.sl true 6 (r4.map eE), .v (.bool true)]))), (3, .u (.c (.pt true [.v (.int .i64 a1.f0), .v (.int .i64 a1.f1), .v (.int .i64 a1.f2), .v (.int .i64 a1.f3), .v (.bool a1.f4), .v (.bool a1.f5)])))]) (by kernel_rfl)) ?_
          refine r_anyW (l := [(0, .u (.c (.pt true [.sl true 6 ((r4 ++ [a1]).map eE), .v (.bool true)])))]) (tab := [[], [], [1], [2], [3], [], [5], [4, 6], [0, 0, 1, 2, 3, 4, 5, 6, 7], [8, 0, 1, 2, 3, 4, 5, 6, 7], [9, 7, 7, 0, 1, 2, 3, 4, 5, 6, 7]]) [⟨[], [], [(48, .addr 0 (.d) [] 0)], some 48, false⟩, ⟨[], [], [(49, .addr 0 (.d) [] 0)], some 49, false⟩, ⟨[1], [49], [(50, .addr 0 (.d) [] 0)], some 50, false⟩, ⟨[1, 2], [50], [(51, .addr 0 (.d) [] 0)], some 51, false⟩, ⟨[1, 2, 3], [0, 51], [(52, .u (.c (.sl true 6 (r4.map eE)))), (0, .u (.c (.pt true [.dead, .v (.bool true)])))], some 52, false⟩, ⟨[], [3], [(53, .u (.agg [.v (.int .i64 a1.f0), .v (.int .i64 a1.f1), .v (.int .i64 a1.f2), .v (.int .i64 a1.f3), .v (.bool a1.f4), .v (.bool a1.f5)]))], some 53, false⟩, ⟨[5], [53], [(54, .u (.c (.sl true 6 ([a1].map eE))))], some 54, false⟩, ⟨[1, 2, 3, 4, 5, 6], [52, 54], [(55, .u (.c (.sl true 6 ((r4 ++ [a1]).map eE)))), (52, .junk)], some 55, true⟩, ⟨[0, 1, 2, 3, 4, 5, 6, 7], [48], [(56, .addr 0 (.d) [] 0)], some 56, false⟩, ⟨[0, 1, 2, 3, 4, 5, 6, 7, 8], [56], [(57, .addr 0 (.d) [] 0)], some 57, false⟩, ⟨[0, 1, 2, 3, 4, 5, 6, 7, 8, 9], [0, 55, 57], [(0, .u (.c (.pt true [.sl true 6 ((r4 ++ [a1]).map eE), .v (.bool true)]))), (55, .junk)], none, true⟩] hm (by kernel_rfl) (by kernel_rfl) (by kernel_rfl) (.cons (fun σ hc => e_put hc rfl rfl (os_plain rfl rfl (s_movePin rfl rfl hpin0 rfl (by kernel_rfl) (by kernel_rfl)))) (.cons (fun σ hc => e_put hc rfl rfl (os_plain rfl rfl (s_movePin rfl rfl hpin0 rfl (by kernel_rfl) (by kernel_rfl)))) (.cons (fun σ hc => e_g (d := 50) (t := .addr 0 (.d) [] 0) hc rfl rfl (by kernel_rfl)) (.cons (fun σ hc => e_g (d := 51) (t := .addr 0 (.d) [] 0) hc rfl rfl (by kernel_rfl)) (.cons (fun σ hc => e_eq (os_plain rfl rfl (s_loadTake (r := 0) (off := 0) (s := .d) (p := []) (c := .pt true [.sl true 6 (r4.map eE), .v (.bool true)]) (c' := .pt true [.dead, .v (.bool true)]) (x := .sl true 6 (r4.map eE)) (cs := [.sl true 6 (r4.map eE), .v (.bool true)]) rfl (oneB_ok (by kernel_rfl)) (by kernel_rfl) (by kernel_rfl) rfl rfl (by kernel_rfl) rfl rfl (by kernel_rfl))) (put_upd_over hc rfl rfl)) (.cons (fun σ hc => e_g (d := 53) (t := .u (.agg [.v (.int .i64 a1.f0), .v (.int .i64 a1.f1), .v (.int .i64 a1.f2), .v (.int .i64 a1.f3), .v (.bool a1.f4), .v (.bool a1.f5)])) hc rfl rfl (by kernel_rfl)) (.cons (fun σ hc => e_put hc rfl rfl (os_toG (os_plain rfl rfl (s_buildSlice (sz := 6) (len := 1) (us := [(0, .agg [.v (.int .i64 a1.f0), .v (.int .i64 a1.f1), .v (.int .i64 a1.f2), .v (.int .i64 a1.f3), .v (.bool a1.f4), .v (.bool a1.f5)])]) (cs := [.v (.int .i64 a1.f0), .v (.int .i64 a1.f1), .v (.int .i64 a1.f2), .v (.int .i64 a1.f3), .v (.bool a1.f4), .v (.bool a1.f5)]) rfl sliceZ22 (.cons (.copy (by kernel_rfl) (by kernel_rfl) (by kernel_rfl)) (.nil)) (by kernel_rfl) (Nat.le_of_ble_eq_true rfl) rfl (by kernel_rfl))) (t' := .u (.c (.sl true 6 ([a1].map eE)))) (by kernel_rfl))) (.cons (fun σ hc => e_eq (os_toG (os_plain rfl rfl (s_appendM (i := 52) (sz := 6) (rows := r4.map eE) (rows2 := [a1].map eE) rfl sliceZ22 (by kernel_rfl) (.u (own := true) (by kernel_rfl)) (copy_map eE_copy) (by rw [List.length_map, List.length_map]; exact hg6) (Nat.le_of_ble_eq_true rfl) rfl (by kernel_rfl))) (t' := .u (.c (.sl true 6 ((r4 ++ [a1]).map eE)))) (by rw [List.map_append])) (call_over hc rfl rfl rfl)) (.cons (fun σ hc => e_g (d := 56) (t := .addr 0 (.d) [] 0) hc rfl rfl (by kernel_rfl)) (.cons (fun σ hc => e_g (d := 57) (t := .addr 0 (.d) [] 0) hc rfl rfl (by kernel_rfl)) (.cons (fun σ hc => e_eq (os_plain rfl rfl (s_store (n := 1) (r := 0) (off := 0) (s := .d) (p := []) (c := .pt true [.dead, .v (.bool true)]) (cs := [.dead, .v (.bool true)]) (u := .c (.sl true 6 ((r4 ++ [a1]).map eE))) (l := [55]) rfl (by kernel_rfl) (by kernel_rfl) (.move (by kernel_rfl) (by kernel_rfl)) (by kernel_rfl) rfl rfl rfl (Nat.le_of_ble_eq_true rfl) (by kernel_rfl) rfl)) (kill_junks_over (l := [55]) hc rfl rfl)) (.nil)))))))))))) (by kernel_rfl) ?_
          refine r_seq ?_
          refine r_reg (l := [(0, .u (.c (.pt true [.sl true 6 ((r4 ++ [a1]).map eE), .v (.bool true)]))), (4, .u (.c (.err none)))]) (cg_then (ds := [4]) 1 rfl (by kernel_rfl) (.nil)) rfl (by kernel_rfl) ?_
          refine r_ret ?_
          obtain rfl := Option.some.inj h
          exact ⟨.inr rfl, _, _, .cons (.copy rfl rfl rfl) (.nil), rfl, outs_of ⟨⟨rfl, rfl⟩, trivial⟩⟩
        · have h := cond_f hb h
          have hs7 := hb
          obtain ⟨r8, hr8, h⟩ := bind_some h
          refine r_reg (l := [(0, .u (.c (.pt true [.sl true 6 (r4.map eE), .v (.bool r8)]))), (3, .u (.c (.pt true [.v (.int .i64 a1.f0), .v (.int .i64 a1.f1), .v (.int .i64 a1.f2), .v (.int .i64 a1.f3), .v (.bool a1.f4), .v (.bool a1.f5)])))]) (cg_then (ds := [33, 34, 35, 36, 37]) 5 rfl (by kernel_rfl) (co_then 6 rfl (os_ge (d := 38) (t := .u (.c (.v (.bool a0.b)))) (t' := .u (.c (.v (.bool false)))) (by kernel_rfl) (by rw [hs7])) (cg_then (ds := [39, 40, 41, 42]) 10 rfl (by kernel_rfl) (co_then 11 rfl (os_gy rfl rfl rfl (by kernel_rfl) (s_makeFunc (is := [3]) rfl rfl rfl (by kernel_rfl) (by kernel_rfl))) (co_then 12 rfl (os_gy rfl rfl rfl (by kernel_rfl) (c_callQL (res := [.c (.v (.bool r8))]) (ContainsFunc.ac (a1F := ⟨27, [.pt false [.v (.int .i64 a1.f0), .v (.int .i64 a1.f1), .v (.int .i64 a1.f2), .v (.int .i64 a1.f3), .v (.bool a1.f4), .v (.bool a1.f5)]], ⟨_, Try.func27, rfl, by kernel_rfl⟩, fun x0 r h => FillL.ac k x0 a1 r h⟩) (h := hr8)) ⟨_, Try.func26, rfl, by kernel_rfl⟩ rfl (.cons (.view (.v1 (r := 0) (lo := 0) (n := (r4.map eE).length) (off := 0) (s := .d) (p := []) (c := .pt true [.sl true 6 (r4.map eE), .v (.bool a0.b)]) (cs := [.sl true 6 (r4.map eE), .v (.bool a0.b)]) (own := true) (rows := r4.map eE) (by kernel_rfl) (by kernel_rfl) rfl rfl rows_all) (copy_map eE_copy)) (.cons (.fn (f := 27) (caps := [.ref 3]) (by kernel_rfl) (.ref (r := 3) (own := true) (ds := [.v (.int .i64 a1.f0), .v (.int .i64 a1.f1), .v (.int .i64 a1.f2), .v (.int .i64 a1.f3), .v (.bool a1.f4), .v (.bool a1.f5)]) (by kernel_rfl) (by simp [flatL, flatC]) rfl (.nil))) (.nil))) (⟨trivial, trivial⟩) (by kernel_rfl))) (cg_then (ds := [45, 46, 47]) 15 rfl (by kernel_rfl) (co_then 16 rfl (os_plain rfl rfl (s_storeS (n := 1) (r := 0) (off := 1) (s := .d) (p := []) (c := .pt true [.sl true 6 (r4.map eE), .v (.bool a0.b)]) (cs := [.sl true 6 (r4.map eE), .v (.bool a0.b)]) (u := .c (.v (.bool r8))) rfl (by kernel_rfl) (by kernel_rfl) (by kernel_rfl) rfl (by kernel_rfl) rfl rfl rfl rfl (Nat.le_of_ble_eq_true rfl) (by kernel_rfl) (by kernel_rfl) rfl rfl)) (.nil)))))))) rfl (by kernel_rfl) ?_
          refine r_seq ?_
          refine r_pinPtr (i := 0) (own := true) (cs := [.sl true 6 (r4.map eE), .v (.bool r8)]) (by kernel_rfl) rfl (fun hpin0 => ?_)
          obtain ⟨hg9, h⟩ := guard_some h
          simp only [decide_eq_true_eq] at hg9
          refine r_weak (of_weak (l := [(0, .u (.c (.pt true [.sl true 6 (r4.map eE), .v (.bool r8)]))), (3, .u (.c (.pt true [.v (.int .i64 a1.f0), .v (.int .i64 a1.f1), .v (.int .i64 a1.f2), .v (.int .i64 a1.f3), .v (.bool a1.f4), .v (.bool a1.f5)])))]) (by kernel_rfl)) ?_
          refine r_anyW (l := [(0, .u (.c (.pt true [.sl true 6 ((r4 ++ [a1]).map eE), .v (.bool r8)])))]) (tab := [[], [], [1], [2], [3], [], [5], [4, 6], [0, 0, 1, 2, 3, 4, 5, 6, 7], [8, 0, 1, 2, 3, 4, 5, 6, 7], [9, 7, 7, 0, 1, 2, 3, 4, 5, 6, 7]]) [⟨[], [], [(48, .addr 0 (.d) [] 0)], some 48, false⟩, ⟨[], [], [(49, .addr 0 (.d) [] 0)], some 49, false⟩, ⟨[1], [49], [(50, .addr 0 (.d) [] 0)], some 50, false⟩, ⟨[1, 2], [50], [(51, .addr 0 (.d) [] 0)], some 51, false⟩, ⟨[1, 2, 3], [0, 51], [(52, .u (.c (.sl true 6 (r4.map eE)))), (0, .u (.c (.pt true [.dead, .v (.bool r8)])))], some 52, false⟩, ⟨[], [3], [(53, .u (.agg [.v (.int .i64 a1.f0), .v (.int .i64 a1.f1), .v (.int .i64 a1.f2), .v (.int .i64 a1.f3), .v (.bool a1.f4), .v (.bool a1.f5)]))], some 53, false⟩, ⟨[5], [53], [(54, .u (.c (.sl true 6 ([a1].map eE))))], some 54, false⟩, ⟨[1, 2, 3, 4, 5, 6], [52, 54], [(55, .u (.c (.sl true 6 ((r4 ++ [a1]).map eE)))), (52, .junk)], some 55, true⟩, ⟨[0, 1, 2, 3, 4, 5, 6, 7], [48], [(56, .addr 0 (.d) [] 0)], some 56, false⟩, ⟨[0, 1, 2, 3, 4, 5, 6, 7, 8], [56], [(57, .addr 0 (.d) [] 0)], some 57, false⟩, ⟨[0, 1, 2, 3, 4, 5, 6, 7, 8, 9], [0, 55, 57], [(0, .u (.c (.pt true [.sl true 6 ((r4 ++ [a1]).map eE), .v (.bool r8)]))), (55, .junk)], none, true⟩] hm (by kernel_rfl) (by kernel_rfl) (by kernel_rfl) (.cons (fun σ hc => e_put hc rfl rfl (os_plain rfl rfl (s_movePin rfl rfl hpin0 rfl (by kernel_rfl) (by kernel_rfl)))) (.cons (fun σ hc => e_put hc rfl rfl (os_plain rfl rfl (s_movePin rfl rfl hpin0 rfl (by kernel_rfl) (by kernel_rfl)))) (.cons (fun σ hc => e_g (d := 50) (t := .addr 0 (.d) [] 0) hc rfl rfl (by kernel_rfl)) (.cons (fun σ hc => e_g (d := 51) (t := .addr 0 (.d) [] 0) hc rfl rfl (by kernel_rfl)) (.cons (fun σ hc => e_eq (os_plain rfl rfl (s_loadTake (r := 0) (off := 0) (s := .d) (p := []) (c := .pt true [.sl true 6 (r4.map eE), .v (.bool r8)]) (c' := .pt true [.dead, .v (.bool r8)]) (x := .sl true 6 (r4.map eE)) (cs := [.sl true 6 (r4.map eE), .v (.bool r8)]) rfl (oneB_ok (by kernel_rfl)) (by kernel_rfl) (by kernel_rfl) rfl rfl (by kernel_rfl) rfl rfl (by kernel_rfl))) (put_upd_over hc rfl rfl)) (.cons (fun σ hc => e_g (d := 53) (t := .u (.agg [.v (.int .i64 a1.f0), .v (.int .i64 a1.f1), .v (.int .i64 a1.f2), .v (.int .i64 a1.f3), .v (.bool a1.f4), .v (.bool a1.f5)])) hc rfl rfl (by kernel_rfl)) (.cons (fun σ hc => e_put hc rfl rfl (os_toG (os_plain rfl rfl (s_buildSlice (sz := 6) (len := 1) (us := [(0, .agg [.v (.int .i64 a1.f0), .v (.int .i64 a1.f1), .v (.int .i64 a1.f2), .v (.int .i64 a1.f3), .v (.bool a1.f4), .v (.bool a1.f5)])]) (cs := [.v (.int .i64 a1.f0), .v (.int .i64 a1.f1), .v (.int .i64 a1.f2), .v (.int .i64 a1.f3), .v (.bool a1.f4), .v (.bool a1.f5)]) rfl sliceZ22 (.cons (.copy (by kernel_rfl) (by kernel_rfl) (by kernel_rfl)) (.nil)) (by kernel_rfl) (Nat.le_of_ble_eq_true rfl) rfl (by kernel_rfl))) (t' := .u (.c (.sl true 6 ([a1].map eE)))) (by kernel_rfl))) (.cons (fun σ hc => e_eq (os_toG (os_plain rfl rfl (s_appendM (i := 52) (sz := 6) (rows := r4.map eE) (rows2 := [a1].map eE) rfl sliceZ22 (by kernel_rfl) (.u (own := true) (by kernel_rfl)) (copy_map eE_copy) (by rw [List.length_map, List.length_map]; exact hg9) (Nat.le_of_ble_eq_true rfl) rfl (by kernel_rfl))) (t' := .u (.c (.sl true 6 ((r4 ++ [a1]).map eE)))) (by rw [List.map_append])) (call_over hc rfl rfl rfl)) (.cons (fun σ hc => e_g (d := 56) (t := .addr 0 (.d) [] 0) hc rfl rfl (by kernel_rfl)) (.cons (fun σ hc => e_g (d := 57) (t := .addr 0 (.d) [] 0) hc rfl rfl (by kernel_rfl)) (.cons (fun σ hc => e_eq (os_plain rfl rfl (s_store (n := 1) (r := 0) (off := 0) (s := .d) (p := []) (c := .pt true [.dead, .v (.bool r8)]) (cs := [.dead, .v (.bool r8)]) (u := .c (.sl true 6 ((r4 ++ [a1]).map eE))) (l := [55]) rfl (by kernel_rfl) (by kernel_rfl) (.move (by kernel_rfl) (by kernel_rfl)) (by kernel_rfl) rfl rfl rfl (Nat.le_of_ble_eq_true rfl) (by kernel_rfl) rfl)) (kill_junks_over (l := [55]) hc rfl rfl)) (.nil)))))))))))) (by kernel_rfl) ?_
          refine r_seq ?_
          refine r_reg (l := [(0, .u (.c (.pt true [.sl true 6 ((r4 ++ [a1]).map eE), .v (.bool r8)]))), (4, .u (.c (.err none)))]) (cg_then (ds := [4]) 1 rfl (by kernel_rfl) (.nil)) rfl (by kernel_rfl) ?_
          refine r_ret ?_
          obtain rfl := Option.some.inj h
          exact ⟨.inr rfl, _, _, .cons (.copy rfl rfl rfl) (.nil), rfl, outs_of ⟨⟨rfl, rfl⟩, trivial⟩⟩
      · have h := cond_f hb h
        refine r_condF hb rfl ?_
        refine r_skip ?_
        refine r_seq ?_
        rcases Bool.eq_false_or_eq_true (a0.b) with hb | hb
        · have h := cond_t hb h
          have hs10 := hb
          refine r_reg (l := [(0, .u (.c (.pt true [.sl true 6 (a0.l.map eE), .v (.bool true)]))), (3, .u (.c (.pt true [.v (.int .i64 a1.f0), .v (.int .i64 a1.f1), .v (.int .i64 a1.f2), .v (.int .i64 a1.f3), .v (.bool a1.f4), .v (.bool a1.f5)])))]) (cg_then (ds := [33, 34, 35, 36, 37]) 5 rfl (by kernel_rfl) (co_then 6 rfl (os_ge (d := 38) (t := .u (.c (.v (.bool a0.b)))) (t' := .u (.c (.v (.bool true)))) (by kernel_rfl) (by rw [hs10])) (cg_then (ds := [39, 40, 41, 42, 43, 44, 45, 46, 47]) 15 rfl (by kernel_rfl) (co_then 16 rfl (os_plain rfl rfl (s_storeS (n := 1) (r := 0) (off := 1) (s := .d) (p := []) (c := bufC a0) (cs := [.sl true 6 (a0.l.map eE), .v (.bool a0.b)]) (u := .c (.v (.bool true))) rfl (by kernel_rfl) (by kernel_rfl) (by kernel_rfl) rfl (by kernel_rfl) rfl rfl rfl rfl (Nat.le_of_ble_eq_true rfl) (by kernel_rfl) (by kernel_rfl) rfl rfl)) (.nil))))) rfl (by kernel_rfl) ?_
          refine r_seq ?_
          refine r_pinPtr (i := 0) (own := true) (cs := [.sl true 6 (a0.l.map eE), .v (.bool true)]) (by kernel_rfl) rfl (fun hpin0 => ?_)
          obtain ⟨hg11, h⟩ := guard_some h
          simp only [decide_eq_true_eq] at hg11
          refine r_weak (of_weak (l := [(0, .u (.c (.pt true [.sl true 6 (a0.l.map eE), .v (.bool true)]))), (3, .u (.c (.pt true [.v (.int .i64 a1.f0), .v (.int .i64 a1.f1), .v (.int .i64 a1.f2), .v (.int .i64 a1.f3), .v (.bool a1.f4), .v (.bool a1.f5)])))]) (by kernel_rfl)) ?_
          refine r_anyW (l := [(0, .u (.c (.pt true [.sl true 6 ((a0.l ++ [a1]).map eE), .v (.bool true)])))]) (tab := [[], [], [1], [2], [3], [], [5], [4, 6], [0, 0, 1, 2, 3, 4, 5, 6, 7], [8, 0, 1, 2, 3, 4, 5, 6, 7], [9, 7, 7, 0, 1, 2, 3, 4, 5, 6, 7]]) [⟨[], [], [(48, .addr 0 (.d) [] 0)], some 48, false⟩, ⟨[], [], [(49, .addr 0 (.d) [] 0)], some 49, false⟩, ⟨[1], [49], [(50, .addr 0 (.d) [] 0)], some 50, false⟩, ⟨[1, 2], [50], [(51, .addr 0 (.d) [] 0)], some 51, false⟩, ⟨[1, 2, 3], [0, 51], [(52, .u (.c (.sl true 6 (a0.l.map eE)))), (0, .u (.c (.pt true [.dead, .v (.bool true)])))], some 52, false⟩, ⟨[], [3], [(53, .u (.agg [.v (.int .i64 a1.f0), .v (.int .i64 a1.f1), .v (.int .i64 a1.f2), .v (.int .i64 a1.f3), .v (.bool a1.f4), .v (.bool a1.f5)]))], some 53, false⟩, ⟨[5], [53], [(54, .u (.c (.sl true 6 ([a1].map eE))))], some 54, false⟩, ⟨[1, 2, 3, 4, 5, 6], [52, 54], [(55, .u (.c (.sl true 6 ((a0.l ++ [a1]).map eE)))), (52, .junk)], some 55, true⟩, ⟨[0, 1, 2, 3, 4, 5, 6, 7], [48], [(56, .addr 0 (.d) [] 0)], some 56, false⟩, ⟨[0, 1, 2, 3, 4, 5, 6, 7, 8], [56], [(57, .addr 0 (.d) [] 0)], some 57, false⟩, ⟨[0, 1, 2, 3, 4, 5, 6, 7, 8, 9], [0, 55, 57], [(0, .u (.c (.pt true [.sl true 6 ((a0.l ++ [a1]).map eE), .v (.bool true)]))), (55, .junk)], none, true⟩] hm (by kernel_rfl) (by kernel_rfl) (by kernel_rfl) (.cons (fun σ hc => e_put hc rfl rfl (os_plain rfl rfl (s_movePin rfl rfl hpin0 rfl (by kernel_rfl) (by kernel_rfl)))) (.cons (fun σ hc => e_put hc rfl rfl (os_plain rfl rfl (s_movePin rfl rfl hpin0 rfl (by kernel_rfl) (by kernel_rfl)))) (.cons (fun σ hc => e_g (d := 50) (t := .addr 0 (.d) [] 0) hc rfl rfl (by kernel_rfl)) (.cons (fun σ hc => e_g (d := 51) (t := .addr 0 (.d) [] 0) hc rfl rfl (by kernel_rfl)) (.cons (fun σ hc => e_eq (os_plain rfl rfl (s_loadTake (r := 0) (off := 0) (s := .d) (p := []) (c := .pt true [.sl true 6 (a0.l.map eE), .v (.bool true)]) (c' := .pt true [.dead, .v (.bool true)]) (x := .sl true 6 (a0.l.map eE)) (cs := [.sl true 6 (a0.l.map eE), .v (.bool true)]) rfl (oneB_ok (by kernel_rfl)) (by kernel_rfl) (by kernel_rfl) rfl rfl (by kernel_rfl) rfl rfl (by kernel_rfl))) (put_upd_over hc rfl rfl)) (.cons (fun σ hc => e_g (d := 53) (t := .u (.agg [.v (.int .i64 a1.f0), .v (.int .i64 a1.f1), .v (.int .i64 a1.f2), .v (.int .i64 a1.f3), .v (.bool a1.f4), .v (.bool a1.f5)])) hc rfl rfl (by kernel_rfl)) (.cons (fun σ hc => e_put hc rfl rfl (os_toG (os_plain rfl rfl (s_buildSlice (sz := 6) (len := 1) (us := [(0, .agg [.v (.int .i64 a1.f0), .v (.int .i64 a1.f1), .v (.int .i64 a1.f2), .v (.int .i64 a1.f3), .v (.bool a1.f4), .v (.bool a1.f5)])]) (cs := [.v (.int .i64 a1.f0), .v (.int .i64 a1.f1), .v (.int .i64 a1.f2), .v (.int .i64 a1.f3), .v (.bool a1.f4), .v (.bool a1.f5)]) rfl sliceZ22 (.cons (.copy (by kernel_rfl) (by kernel_rfl) (by kernel_rfl)) (.nil)) (by kernel_rfl) (Nat.le_of_ble_eq_true rfl) rfl (by kernel_rfl))) (t' := .u (.c (.sl true 6 ([a1].map eE)))) (by kernel_rfl))) (.cons (fun σ hc => e_eq (os_toG (os_plain rfl rfl (s_appendM (i := 52) (sz := 6) (rows := a0.l.map eE) (rows2 := [a1].map eE) rfl sliceZ22 (by kernel_rfl) (.u (own := true) (by kernel_rfl)) (copy_map eE_copy) (by rw [List.length_map, List.length_map]; exact hg11) (Nat.le_of_ble_eq_true rfl) rfl (by kernel_rfl))) (t' := .u (.c (.sl true 6 ((a0.l ++ [a1]).map eE)))) (by rw [List.map_append])) (call_over hc rfl rfl rfl)) (.cons (fun σ hc => e_g (d := 56) (t := .addr 0 (.d) [] 0) hc rfl rfl (by kernel_rfl)) (.cons (fun σ hc => e_g (d := 57) (t := .addr 0 (.d) [] 0) hc rfl rfl (by kernel_rfl)) (.cons (fun σ hc => e_eq (os_plain rfl rfl (s_store (n := 1) (r := 0) (off := 0) (s := .d) (p := []) (c := .pt true [.dead, .v (.bool true)]) (cs := [.dead, .v (.bool true)]) (u := .c (.sl true 6 ((a0.l ++ [a1]).map eE))) (l := [55]) rfl (by kernel_rfl) (by kernel_rfl) (.move (by kernel_rfl) (by kernel_rfl)) (by kernel_rfl) rfl rfl rfl (Nat.le_of_ble_eq_true rfl) (by kernel_rfl) rfl)) (kill_junks_over (l := [55]) hc rfl rfl)) (.nil)))))))))))) (by kernel_rfl) ?_
          refine r_seq ?_
          refine r_reg (l := [(0, .u (.c (.pt true [.sl true 6 ((a0.l ++ [a1]).map eE), .v (.bool true)]))), (4, .u (.c (.err none)))]) (cg_then (ds := [4]) 1 rfl (by kernel_rfl) (.nil)) rfl (by kernel_rfl) ?_
          refine r_ret ?_
          obtain rfl := Option.some.inj h
          exact ⟨.inr rfl, _, _, .cons (.copy rfl rfl rfl) (.nil), rfl, outs_of ⟨⟨rfl, rfl⟩, trivial⟩⟩
        · have h := cond_f hb h
          have hs12 := hb
          obtain ⟨r13, hr13, h⟩ := bind_some h
          refine r_reg (l := [(0, .u (.c (.pt true [.sl true 6 (a0.l.map eE), .v (.bool r13)]))), (3, .u (.c (.pt true [.v (.int .i64 a1.f0), .v (.int .i64 a1.f1), .v (.int .i64 a1.f2), .v (.int .i64 a1.f3), .v (.bool a1.f4), .v (.bool a1.f5)])))]) (cg_then (ds := [33, 34, 35, 36, 37]) 5 rfl (by kernel_rfl) (co_then 6 rfl (os_ge (d := 38) (t := .u (.c (.v (.bool a0.b)))) (t' := .u (.c (.v (.bool false)))) (by kernel_rfl) (by rw [hs12])) (cg_then (ds := [39, 40, 41, 42]) 10 rfl (by kernel_rfl) (co_then 11 rfl (os_gy rfl rfl rfl (by kernel_rfl) (s_makeFunc (is := [3]) rfl rfl rfl (by kernel_rfl) (by kernel_rfl))) (co_then 12 rfl (os_gy rfl rfl rfl (by kernel_rfl) (c_callQL (res := [.c (.v (.bool r13))]) (ContainsFunc.ac (a1F := ⟨27, [.pt false [.v (.int .i64 a1.f0), .v (.int .i64 a1.f1), .v (.int .i64 a1.f2), .v (.int .i64 a1.f3), .v (.bool a1.f4), .v (.bool a1.f5)]], ⟨_, Try.func27, rfl, by kernel_rfl⟩, fun x0 r h => FillL.ac k x0 a1 r h⟩) (h := hr13)) ⟨_, Try.func26, rfl, by kernel_rfl⟩ rfl (.cons (.view (.v1 (r := 0) (lo := 0) (n := (a0.l.map eE).length) (off := 0) (s := .d) (p := []) (c := bufC a0) (cs := [.sl true 6 (a0.l.map eE), .v (.bool a0.b)]) (own := true) (rows := a0.l.map eE) (by kernel_rfl) (by kernel_rfl) rfl rfl rows_all) (copy_map eE_copy)) (.cons (.fn (f := 27) (caps := [.ref 3]) (by kernel_rfl) (.ref (r := 3) (own := true) (ds := [.v (.int .i64 a1.f0), .v (.int .i64 a1.f1), .v (.int .i64 a1.f2), .v (.int .i64 a1.f3), .v (.bool a1.f4), .v (.bool a1.f5)]) (by kernel_rfl) (by simp [flatL, flatC]) rfl (.nil))) (.nil))) (⟨trivial, trivial⟩) (by kernel_rfl))) (cg_then (ds := [45, 46, 47]) 15 rfl (by kernel_rfl) (co_then 16 rfl (os_plain rfl rfl (s_storeS (n := 1) (r := 0) (off := 1) (s := .d) (p := []) (c := bufC a0) (cs := [.sl true 6 (a0.l.map eE), .v (.bool a0.b)]) (u := .c (.v (.bool r13))) rfl (by kernel_rfl) (by kernel_rfl) (by kernel_rfl) rfl (by kernel_rfl) rfl rfl rfl rfl (Nat.le_of_ble_eq_true rfl) (by kernel_rfl) (by kernel_rfl) rfl rfl)) (.nil)))))))) rfl (by kernel_rfl) ?_
          refine r_seq ?_
          refine r_pinPtr (i := 0) (own := true) (cs := [.sl true 6 (a0.l.map eE), .v (.bool r13)]) (by kernel_rfl) rfl (fun hpin0 => ?_)
          obtain ⟨hg14, h⟩ := guard_some h
          simp only [decide_eq_true_eq] at hg14
          refine r_weak (of_weak (l := [(0, .u (.c (.pt true [.sl true 6 (a0.l.map eE), .v (.bool r13)]))), (3, .u (.c (.pt true [.v (.int .i64 a1.f0), .v (.int .i64 a1.f1), .v (.int .i64 a1.f2), .v (.int .i64 a1.f3), .v (.bool a1.f4), .v (.bool a1.f5)])))]) (by kernel_rfl)) ?_
          refine r_anyW (l := [(0, .u (.c (.pt true [.sl true 6 ((a0.l ++ [a1]).map eE), .v (.bool r13)])))]) (tab := [[], [], [1], [2], [3], [], [5], [4, 6], [0, 0, 1, 2, 3, 4, 5, 6, 7], [8, 0, 1, 2, 3, 4, 5, 6, 7], [9, 7, 7, 0, 1, 2, 3, 4, 5, 6, 7]]) [⟨[], [], [(48, .addr 0 (.d) [] 0)], some 48, false⟩, ⟨[], [], [(49, .addr 0 (.d) [] 0)], some 49, false⟩, ⟨[1], [49], [(50, .addr 0 (.d) [] 0)], some 50, false⟩, ⟨[1, 2], [50], [(51, .addr 0 (.d) [] 0)], some 51, false⟩, ⟨[1, 2, 3], [0, 51], [(52, .u (.c (.sl true 6 (a0.l.map eE)))), (0, .u (.c (.pt true [.dead, .v (.bool r13)])))], some 52, false⟩, ⟨[], [3], [(53, .u (.agg [.v (.int .i64 a1.f0), .v (.int .i64 a1.f1), .v (.int .i64 a1.f2), .v (.int .i64 a1.f3), .v (.bool a1.f4), .v (.bool a1.f5)]))], some 53, false⟩, ⟨[5], [53], [(54, .u (.c (.sl true 6 ([a1].map eE))))], some 54, false⟩, ⟨[1, 2, 3, 4, 5, 6], [52, 54], [(55, .u (.c (.sl true 6 ((a0.l ++ [a1]).map eE)))), (52, .junk)], some 55, true⟩, ⟨[0, 1, 2, 3, 4, 5, 6, 7], [48], [(56, .addr 0 (.d) [] 0)], some 56, false⟩, ⟨[0, 1, 2, 3, 4, 5, 6, 7, 8], [56], [(57, .addr 0 (.d) [] 0)], some 57, false⟩, ⟨[0, 1, 2, 3, 4, 5, 6, 7, 8, 9], [0, 55, 57], [(0, .u (.c (.pt true [.sl true 6 ((a0.l ++ [a1]).map eE), .v (.bool r13)]))), (55, .junk)], none, true⟩] hm (by kernel_rfl) (by kernel_rfl) (by kernel_rfl) (.cons (fun σ hc => e_put hc rfl rfl (os_plain rfl rfl (s_movePin rfl rfl hpin0 rfl (by kernel_rfl) (by kernel_rfl)))) (.cons (fun σ hc => e_put hc rfl rfl (os_plain rfl rfl (s_movePin rfl rfl hpin0 rfl (by kernel_rfl) (by kernel_rfl)))) (.cons (fun σ hc => e_g (d := 50) (t := .addr 0 (.d) [] 0) hc rfl rfl (by kernel_rfl)) (.cons (fun σ hc => e_g (d := 51) (t := .addr 0 (.d) [] 0) hc rfl rfl (by kernel_rfl)) (.cons (fun σ hc => e_eq (os_plain rfl rfl (s_loadTake (r := 0) (off := 0) (s := .d) (p := []) (c := .pt true [.sl true 6 (a0.l.map eE), .v (.bool r13)]) (c' := .pt true [.dead, .v (.bool r13)]) (x := .sl true 6 (a0.l.map eE)) (cs := [.sl true 6 (a0.l.map eE), .v (.bool r13)]) rfl (oneB_ok (by kernel_rfl)) (by kernel_rfl) (by kernel_rfl) rfl rfl (by kernel_rfl) rfl rfl (by kernel_rfl))) (put_upd_over hc rfl rfl)) (.cons (fun σ hc => e_g (d := 53) (t := .u (.agg [.v (.int .i64 a1.f0), .v (.int .i64 a1.f1), .v (.int .i64 a1.f2), .v (.int .i64 a1.f3), .v (.bool a1.f4), .v (.bool a1.f5)])) hc rfl rfl (by kernel_rfl)) (.cons (fun σ hc => e_put hc rfl rfl (os_toG (os_plain rfl rfl (s_buildSlice (sz := 6) (len := 1) (us := [(0, .agg [.v (.int .i64 a1.f0), .v (.int .i64 a1.f1), .v (.int .i64 a1.f2), .v (.int .i64 a1.f3), .v (.bool a1.f4), .v (.bool a1.f5)])]) (cs := [.v (.int .i64 a1.f0), .v (.int .i64 a1.f1), .v (.int .i64 a1.f2), .v (.int .i64 a1.f3), .v (.bool a1.f4), .v (.bool a1.f5)]) rfl sliceZ22 (.cons (.copy (by kernel_rfl) (by kernel_rfl) (by kernel_rfl)) (.nil)) (by kernel_rfl) (Nat.le_of_ble_eq_true rfl) rfl (by kernel_rfl))) (t' := .u (.c (.sl true 6 ([a1].map eE)))) (by kernel_rfl))) (.cons (fun σ hc => e_eq (os_toG (os_plain rfl rfl (s_appendM (i := 52) (sz := 6) (rows := a0.l.map eE) (rows2 := [a1].map eE) rfl sliceZ22 (by kernel_rfl) (.u (own := true) (by kernel_rfl)) (copy_map eE_copy) (by rw [List.length_map, List.length_map]; exact hg14) (Nat.le_of_ble_eq_true rfl) rfl (by kernel_rfl))) (t' := .u (.c (.sl true 6 ((a0.l ++ [a1]).map eE)))) (by rw [List.map_append])) (call_over hc rfl rfl rfl)) (.cons (fun σ hc => e_g (d := 56) (t := .addr 0 (.d) [] 0) hc rfl rfl (by kernel_rfl)) (.cons (fun σ hc => e_g (d := 57) (t := .addr 0 (.d) [] 0) hc rfl rfl (by kernel_rfl)) (.cons (fun σ hc => e_eq (os_plain rfl rfl (s_store (n := 1) (r := 0) (off := 0) (s := .d) (p := []) (c := .pt true [.dead, .v (.bool r13)]) (cs := [.dead, .v (.bool r13)]) (u := .c (.sl true 6 ((a0.l ++ [a1]).map eE))) (l := [55]) rfl (by kernel_rfl) (by kernel_rfl) (.move (by kernel_rfl) (by kernel_rfl)) (by kernel_rfl) rfl rfl rfl (Nat.le_of_ble_eq_true rfl) (by kernel_rfl) rfl)) (kill_junks_over (l := [55]) hc rfl rfl)) (.nil)))))))))))) (by kernel_rfl) ?_
          refine r_seq ?_
          refine r_reg (l := [(0, .u (.c (.pt true [.sl true 6 ((a0.l ++ [a1]).map eE), .v (.bool r13)]))), (4, .u (.c (.err none)))]) (cg_then (ds := [4]) 1 rfl (by kernel_rfl) (.nil)) rfl (by kernel_rfl) ?_
          refine r_ret ?_
          obtain rfl := Option.some.inj h
          exact ⟨.inr rfl, _, _, .cons (.copy rfl rfl rfl) (.nil), rfl, outs_of ⟨⟨rfl, rfl⟩, trivial⟩⟩
def Find.f (k : Nat) (a0 : Buf) (a1 : Int) (a2 : Int) : Option (Buf × S30 × Bool) :=
  (IndexFunc.f k a0.l (fun (x0 : S30) => FindL.f x0 a1 a2)).bind fun (r1 : Int) => (bif decide (r1 < 0) then some (a0, (⟨0, 0, 0, 0, false, false⟩ : S30), false) else (bif decide (0 ≤ r1) && decide (r1 < (a0.l.length : Int)) then some (a0, (a0.l.getD ((r1).toNat) z30), true) else none))
set_option maxHeartbeats 4000000 in
theorem Find.ac (k : Nat) (a0 : Buf) (a1 : Int) (a2 : Int) (r : Buf × S30 × Bool) (h : Find.f k a0 a1 a2 = some r) : AC Try.prog 48 15 [.c (bufC a0), .c (.v (.int .i64 a1)), .c (.v (.int .i64 a2))] [some (.c (bufC r.1)), none, none] [.agg [.v (.int .i64 r.2.1.f0), .v (.int .i64 r.2.1.f1), .v (.int .i64 r.2.1.f2), .v (.int .i64 r.2.1.f3), .v (.bool r.2.1.f4), .v (.bool r.2.1.f5)], .c (.v (.bool r.2.2))] := by
  unfold Find.f at h
  refine ac_introCT (fn := Try.f15) (pins := [0]) (b := 6) (t := 30) (c2 := 7) Try.func15 rfl Try.ntmps15 rfl (Nat.le_of_ble_eq_true rfl) (pins_lt rfl) rfl (fun w R E vs => ?_)
  refine r_weak (of_weak (l := [(0, .u (.c (bufC a0))), (1, .u (.c (.v (.int .i64 a1)))), (2, .u (.c (.v (.int .i64 a2))))]) (by kernel_rfl)) ?_
  refine r_seq ?_
  refine r_reg (l := [(0, .u (.c (bufC a0))), (4, .u (.c (.pt true [.v (.int .i64 a1)]))), (5, .u (.c (.pt true [.v (.int .i64 a2)]))), (6, .u (.c (.pt true [.v (.int .i64 0), .v (.int .i64 0), .v (.int .i64 0), .v (.int .i64 0), .v (.bool false), .v (.bool false)])))]) (co_then 1 rfl (os_plain rfl rfl (s_box (u := .c (.v (.int .i64 a1))) rfl (.copy (by kernel_rfl) (by kernel_rfl) (by kernel_rfl)) rfl (by kernel_rfl))) (co_then 2 rfl (os_plain rfl rfl (s_box (u := .c (.v (.int .i64 a2))) rfl (.copy (by kernel_rfl) (by kernel_rfl) (by kernel_rfl)) rfl (by kernel_rfl))) (co_then 3 rfl (os_plain rfl rfl (s_alloc rfl zero30 rfl (by kernel_rfl))) (cg_then (ds := [7]) 4 rfl (by kernel_rfl) (.nil))))) rfl (by kernel_rfl) ?_
  refine r_seq ?_
  obtain ⟨r1, hr1, h⟩ := bind_some h
  refine r_reg (l := [(0, .u (.c (bufC a0))), (6, .u (.c (.pt true [.v (.int .i64 0), .v (.int .i64 0), .v (.int .i64 0), .v (.int .i64 0), .v (.bool false), .v (.bool false)]))), (8, .u (.c (.v (.int .i64 r1))))]) (cg_then (ds := [9, 10, 11, 12]) 4 rfl (by kernel_rfl) (co_then 5 rfl (os_plain rfl rfl (s_makeFunc (is := [4, 5]) rfl rfl rfl (by kernel_rfl) (by kernel_rfl))) (co_then 6 rfl (os_plain rfl rfl (c_callQL (res := [.c (.v (.int .i64 r1))]) (IndexFunc.ac (a1F := ⟨34, [.pt false [.v (.int .i64 a1)], .pt false [.v (.int .i64 a2)]], ⟨_, Try.func34, rfl, by kernel_rfl⟩, fun x0 r h => FindL.ac x0 a1 a2 r h⟩) (h := hr1)) ⟨_, Try.func33, rfl, by kernel_rfl⟩ rfl (.cons (.view (.v1 (r := 0) (lo := 0) (n := (a0.l.map eE).length) (off := 0) (s := .d) (p := []) (c := bufC a0) (cs := [.sl true 6 (a0.l.map eE), .v (.bool a0.b)]) (own := true) (rows := a0.l.map eE) (by kernel_rfl) (by kernel_rfl) rfl rfl rows_all) (copy_map eE_copy)) (.cons (.fn (f := 34) (caps := [.ref 4, .ref 5]) (by kernel_rfl) (.ref (r := 4) (own := true) (ds := [.v (.int .i64 a1)]) (by kernel_rfl) (by simp [flatL, flatC]) rfl (.ref (r := 5) (own := true) (ds := [.v (.int .i64 a2)]) (by kernel_rfl) (by simp [flatL, flatC]) rfl (.nil)))) (.nil))) (⟨trivial, trivial⟩) (by kernel_rfl))) (cg_then (ds := [8]) 7 rfl (by kernel_rfl) (.nil))))) rfl (by kernel_rfl) ?_
  refine r_seq ?_
  refine r_seq ?_
  refine r_reg (l := [(0, .u (.c (bufC a0))), (6, .u (.c (.pt true [.v (.int .i64 0), .v (.int .i64 0), .v (.int .i64 0), .v (.int .i64 0), .v (.bool false), .v (.bool false)]))), (8, .u (.c (.v (.int .i64 r1)))), (16, .u (.c (.v (.bool (decide (r1 < 0))))))]) (cg_then (ds := [15, 16]) 2 rfl (by kernel_rfl) (.nil)) rfl (by kernel_rfl) ?_
  rcases Bool.eq_false_or_eq_true (decide (r1 < 0)) with hb | hb
  · have h := cond_t hb h
    refine r_condT hb rfl ?_
    refine r_seq ?_
    refine r_reg (l := [(0, .u (.c (bufC a0))), (6, .u (.c (.pt true [.v (.int .i64 0), .v (.int .i64 0), .v (.int .i64 0), .v (.int .i64 0), .v (.bool false), .v (.bool false)]))), (7, .u (.c (.v (.bool false))))]) (co_then 1 rfl (os_plain rfl rfl (s_build (us := []) (zs := [.v (.int .i64 0), .v (.int .i64 0), .v (.int .i64 0), .v (.int .i64 0), .v (.bool false), .v (.bool false)]) (cs := [.v (.int .i64 0), .v (.int .i64 0), .v (.int .i64 0), .v (.int .i64 0), .v (.bool false), .v (.bool false)]) rfl build30 zero30 (.nil) (by kernel_rfl) rfl (by kernel_rfl))) (co_then 2 rfl (os_plain rfl rfl (s_storeS (n := 6) (r := 6) (off := 0) (s := .d) (p := []) (c := .pt true [.v (.int .i64 0), .v (.int .i64 0), .v (.int .i64 0), .v (.int .i64 0), .v (.bool false), .v (.bool false)]) (cs := [.v (.int .i64 0), .v (.int .i64 0), .v (.int .i64 0), .v (.int .i64 0), .v (.bool false), .v (.bool false)]) (u := .agg [.v (.int .i64 0), .v (.int .i64 0), .v (.int .i64 0), .v (.int .i64 0), .v (.bool false), .v (.bool false)]) rfl (by kernel_rfl) (by kernel_rfl) (by kernel_rfl) rfl (by kernel_rfl) rfl rfl rfl rfl (Nat.le_of_ble_eq_true rfl) (by kernel_rfl) (by kernel_rfl) rfl rfl)) (cg_then (ds := [7]) 3 rfl (by kernel_rfl) (.nil)))) rfl (by kernel_rfl) ?_
    refine r_ret ?_
    obtain rfl := Option.some.inj h
    exact e_leafCT (.inr rfl) (by kernel_rfl) (by kernel_rfl) rfl (by kernel_rfl) ⟨⟨rfl, rfl⟩, trivial⟩
  · have h := cond_f hb h
    refine r_condF hb rfl ?_
    refine r_skip ?_
    refine r_seq ?_
    obtain ⟨hg2, h⟩ := guard_some h
    simp only [Bool.and_eq_true, decide_eq_true_eq] at hg2
    refine r_reg (l := [(0, .u (.c (bufC a0))), (6, .u (.c (.pt true [.v (.int .i64 ((a0.l.getD ((r1).toNat) z30).f0)), .v (.int .i64 ((a0.l.getD ((r1).toNat) z30).f1)), .v (.int .i64 ((a0.l.getD ((r1).toNat) z30).f2)), .v (.int .i64 ((a0.l.getD ((r1).toNat) z30).f3)), .v (.bool ((a0.l.getD ((r1).toNat) z30).f4)), .v (.bool ((a0.l.getD ((r1).toNat) z30).f5))]))), (7, .u (.c (.v (.bool true))))]) (cg_then (ds := [18, 19, 20, 21, 22]) 5 rfl (by kernel_rfl) (co_then 6 rfl (os_plain rfl rfl (s_indexV (r := 0) (lo := 0) (n := (a0.l.map eE).length) (pl := (some (.d, [], 0))) (sz := 6) (e := r1) (ik := .i64) (k := (r1).toNat) rfl sl22 (by kernel_rfl) (.tmp (by kernel_rfl)) hg2.1 (by rw [List.length_map]; exact hg2.2) (Nat.zero_add _) rfl (by kernel_rfl) (by kernel_rfl))) (co_then 7 rfl (os_plain rfl rfl (s_loadA (n := 6) (xs := [.v (.int .i64 ((a0.l.getD ((r1).toNat) z30).f0)), .v (.int .i64 ((a0.l.getD ((r1).toNat) z30).f1)), .v (.int .i64 ((a0.l.getD ((r1).toNat) z30).f2)), .v (.int .i64 ((a0.l.getD ((r1).toNat) z30).f3)), .v (.bool ((a0.l.getD ((r1).toNat) z30).f4)), .v (.bool ((a0.l.getD ((r1).toNat) z30).f5))]) (r := 0) (off := 0) (s := .d) (p := [(0, .i ((r1).toNat) 6)]) (c := bufC a0) (cs := (eE (a0.l.getD ((r1).toNat) z30))) rfl (aggB_ok (by kernel_rfl)) (by kernel_rfl) (by kernel_rfl) (getP_in (c' := .sl true 6 (a0.l.map eE)) rfl (getP_map (f := eE) (own := true) (xs := a0.l) (k := (r1).toNat) z30 (by have := hg2; omega))) rfl rfl rfl rfl (by kernel_rfl))) (co_then 8 rfl (os_plain rfl rfl (s_storeS (n := 6) (r := 6) (off := 0) (s := .d) (p := []) (c := .pt true [.v (.int .i64 0), .v (.int .i64 0), .v (.int .i64 0), .v (.int .i64 0), .v (.bool false), .v (.bool false)]) (cs := [.v (.int .i64 0), .v (.int .i64 0), .v (.int .i64 0), .v (.int .i64 0), .v (.bool false), .v (.bool false)]) (u := .agg [.v (.int .i64 ((a0.l.getD ((r1).toNat) z30).f0)), .v (.int .i64 ((a0.l.getD ((r1).toNat) z30).f1)), .v (.int .i64 ((a0.l.getD ((r1).toNat) z30).f2)), .v (.int .i64 ((a0.l.getD ((r1).toNat) z30).f3)), .v (.bool ((a0.l.getD ((r1).toNat) z30).f4)), .v (.bool ((a0.l.getD ((r1).toNat) z30).f5))]) rfl (by kernel_rfl) (by kernel_rfl) (by kernel_rfl) rfl (by kernel_rfl) rfl rfl rfl rfl (Nat.le_of_ble_eq_true rfl) (by kernel_rfl) (by kernel_rfl) rfl rfl)) (cg_then (ds := [7]) 9 rfl (by kernel_rfl) (.nil)))))) rfl (by kernel_rfl) ?_
    refine r_ret ?_
    obtain rfl := Option.some.inj h
    exact e_leafCT (.inr rfl) (by kernel_rfl) (by kernel_rfl) rfl (by kernel_rfl) ⟨⟨rfl, rfl⟩, trivial⟩
set_option maxHeartbeats 4000000 in
def Page.f (k : Nat) (a0 : Buf) (a1 : Int) (a2 : Int) : Option (Buf) :=
  (drop.f k a0 (fun (x0 : S30) => PageL.f x0 a1 a2)).bind fun (r1 : Buf) => some r1
set_option maxHeartbeats 4000000 in
theorem Page.ac (k : Nat) (a0 : Buf) (a1 : Int) (a2 : Int) (r : Buf) (h : Page.f k a0 a1 a2 = some r) : AC Try.prog 48 14 [.c (bufC a0), .c (.v (.int .i64 a1)), .c (.v (.int .i64 a2))] [some (.c (bufC r)), none, none] [] := by
  unfold Page.f at h
  refine ac_intro (fn := Try.f14) (pins := [0]) (rts := []) Try.func14 rfl Try.ntmps14 rfl (Nat.le_of_ble_eq_true rfl) (pins_lt rfl) rfl (fun w R E vs => ?_)
  refine r_weak (of_weak (l := [(0, .u (.c (bufC a0))), (1, .u (.c (.v (.int .i64 a1)))), (2, .u (.c (.v (.int .i64 a2))))]) (by kernel_rfl)) ?_
  refine r_seq ?_
  refine r_reg (l := [(0, .u (.c (bufC a0))), (4, .u (.c (.pt true [.v (.int .i64 a1)]))), (5, .u (.c (.pt true [.v (.int .i64 a2)])))]) (co_then 1 rfl (os_plain rfl rfl (s_box (u := .c (.v (.int .i64 a1))) rfl (.copy (by kernel_rfl) (by kernel_rfl) (by kernel_rfl)) rfl (by kernel_rfl))) (co_then 2 rfl (os_plain rfl rfl (s_box (u := .c (.v (.int .i64 a2))) rfl (.copy (by kernel_rfl) (by kernel_rfl) (by kernel_rfl)) rfl (by kernel_rfl))) (.nil))) rfl (by kernel_rfl) ?_
  obtain ⟨r1, hr1, h⟩ := bind_some h
  refine r_reg (l := [(0, .u (.c (bufC r1)))]) (cg_then (ds := [6]) 1 rfl (by kernel_rfl) (co_then 2 rfl (os_plain rfl rfl (s_makeFunc (is := [4, 5]) rfl rfl rfl (by kernel_rfl) (by kernel_rfl))) (co_then 3 rfl (os_plain rfl rfl (c_callL (res := []) (outs := [some (.c (bufC r1)), none]) (drop.ac (a1F := ⟨32, [.pt false [.v (.int .i64 a1)], .pt false [.v (.int .i64 a2)]], ⟨_, Try.func32, rfl, by kernel_rfl⟩, fun x0 r h => PageL.ac x0 a1 a2 r h⟩) (h := hr1)) ⟨_, Try.func28, rfl, by kernel_rfl⟩ rfl (hand_root (r := 0) (c := bufC a0) (by kernel_rfl) (by kernel_rfl) rfl (.rd (.fn (f := 32) (caps := [.ref 4, .ref 5]) (by kernel_rfl) (.ref (r := 4) (own := true) (ds := [.v (.int .i64 a1)]) (by kernel_rfl) (by simp [flatL, flatC]) rfl (.ref (r := 5) (own := true) (ds := [.v (.int .i64 a2)]) (by kernel_rfl) (by simp [flatL, flatC]) rfl (.nil)))) (.nil))) rfl (⟨⟨rfl, ⟨⟨rfl, mine_map (fun _ => rfl)⟩, trivial, trivial⟩⟩, trivial⟩) (trivial) (by kernel_rfl))) (.nil)))) rfl (by kernel_rfl) ?_
  obtain rfl := Option.some.inj h
  exact ⟨.inl rfl, _, _, .nil, rfl, outs_of ⟨⟨rfl, rfl⟩, trivial⟩⟩
set_option maxHeartbeats 4000000 in
def up.f (k : Nat) : Option (Bool) :=
  (New.f ).bind fun (r1 : Buf) => (Fill.f k r1 (⟨0, 8, 0, 5, false, false⟩ : S30)).bind fun (r2 : Buf × (Option Int)) => (Fill.f k r2.1 (⟨0, 8, 3, 8, false, false⟩ : S30)).bind fun (r3 : Buf × (Option Int)) => (bif r2.2 == none then (bif r3.2 == none then (Broken.f k r3.1).bind fun (r6 : Buf × Bool) => some r6.2 else some false) else some false)
set_option maxHeartbeats 4000000 in
theorem up.ac (k : Nat) (r : Bool) (h : up.f k = some r) : AC Try.prog 48 6 [] [] [.c (.v (.bool r))] := by
  unfold up.f at h
  refine ac_intro (fn := Try.f6) (pins := []) (rts := [0]) Try.func6 rfl Try.ntmps6 rfl (Nat.le_of_ble_eq_true rfl) (pins_lt rfl) rfl (fun w R E vs => ?_)
  refine r_weak (of_weak (l := []) (by kernel_rfl)) ?_
  refine r_seq ?_
  refine r_reg (l := []) (cg_then (ds := [0]) 1 rfl (by kernel_rfl) (.nil)) rfl (by kernel_rfl) ?_
  refine r_seq ?_
  obtain ⟨r1, hr1, h⟩ := bind_some h
  refine r_reg (l := [(1, .u (.c (bufC r1)))]) (co_then 1 rfl (os_plain rfl rfl (c_callQ (New.ac (h := hr1)) ⟨_, Try.func7, rfl, by kernel_rfl⟩ rfl (.nil) (by kernel_rfl))) (co_then 2 rfl (os_plain rfl rfl (s_take (u := .c (bufC r1)) (.inr rfl) (.move (by kernel_rfl) rfl) rfl (by kernel_rfl))) (.nil))) rfl (by kernel_rfl) ?_
  refine r_seq ?_
  refine r_seq ?_
  refine r_reg (l := [(1, .u (.c (bufC r1))), (6, .u (.c (.v (.bool false))))]) (cg_then (ds := [5, 6]) 2 rfl (by kernel_rfl) (.nil)) rfl (by kernel_rfl) ?_
  refine r_condF rfl rfl ?_
  refine r_skip ?_
  refine r_seq ?_
  obtain ⟨r2, hr2, h⟩ := bind_some h
  refine r_reg (l := [(1, .u (.c (bufC r2.1))), (2, .u (.c (.err r2.2)))]) (cg_then (ds := [7]) 1 rfl (by kernel_rfl) (co_then 2 rfl (os_plain rfl rfl (s_build (us := [(1, .c (.v (.int .i64 8))), (3, .c (.v (.int .i64 5)))]) (zs := [.v (.int .i64 0), .v (.int .i64 0), .v (.int .i64 0), .v (.int .i64 0), .v (.bool false), .v (.bool false)]) (cs := [.v (.int .i64 0), .v (.int .i64 8), .v (.int .i64 0), .v (.int .i64 5), .v (.bool false), .v (.bool false)]) rfl build30 zero30 (.cons (.copy (by kernel_rfl) (by kernel_rfl) (by kernel_rfl)) (.cons (.copy (by kernel_rfl) (by kernel_rfl) (by kernel_rfl)) (.nil))) (by kernel_rfl) rfl (by kernel_rfl))) (co_then 3 rfl (os_plain rfl rfl (c_call (Fill.ac (h := hr2)) ⟨_, Try.func8, rfl, by kernel_rfl⟩ rfl (hand_root (r := 1) (c := bufC r1) (by kernel_rfl) (by kernel_rfl) rfl (.rd (.copy (by kernel_rfl) rfl) (.nil))) rfl (by kernel_rfl))) (cg_then (ds := [2]) 4 rfl (by kernel_rfl) (.nil))))) rfl (by kernel_rfl) ?_
  refine r_seq ?_
  obtain ⟨r3, hr3, h⟩ := bind_some h
  refine r_reg (l := [(1, .u (.c (bufC r3.1))), (2, .u (.c (.err r2.2))), (3, .u (.c (.err r3.2)))]) (cg_then (ds := [10]) 1 rfl (by kernel_rfl) (co_then 2 rfl (os_plain rfl rfl (s_build (us := [(1, .c (.v (.int .i64 8))), (2, .c (.v (.int .i64 3))), (3, .c (.v (.int .i64 8)))]) (zs := [.v (.int .i64 0), .v (.int .i64 0), .v (.int .i64 0), .v (.int .i64 0), .v (.bool false), .v (.bool false)]) (cs := [.v (.int .i64 0), .v (.int .i64 8), .v (.int .i64 3), .v (.int .i64 8), .v (.bool false), .v (.bool false)]) rfl build30 zero30 (.cons (.copy (by kernel_rfl) (by kernel_rfl) (by kernel_rfl)) (.cons (.copy (by kernel_rfl) (by kernel_rfl) (by kernel_rfl)) (.cons (.copy (by kernel_rfl) (by kernel_rfl) (by kernel_rfl)) (.nil)))) (by kernel_rfl) rfl (by kernel_rfl))) (co_then 3 rfl (os_plain rfl rfl (c_call (Fill.ac (h := hr3)) ⟨_, Try.func8, rfl, by kernel_rfl⟩ rfl (hand_root (r := 1) (c := bufC r2.1) (by kernel_rfl) (by kernel_rfl) rfl (.rd (.copy (by kernel_rfl) rfl) (.nil))) rfl (by kernel_rfl))) (cg_then (ds := [3]) 4 rfl (by kernel_rfl) (.nil))))) rfl (by kernel_rfl) ?_
  refine r_seq ?_
  rcases Bool.eq_false_or_eq_true (r2.2 == none) with hb | hb
  · have h := cond_t hb h
    have hs4 := hb
    rcases Bool.eq_false_or_eq_true (r3.2 == none) with hb | hb
    · have h := cond_t hb h
      have hs5 := hb
      obtain ⟨r6, hr6, h⟩ := bind_some h
      refine r_reg (l := [(0, .u (.c (.v (.bool r6.2))))]) (cg_then (ds := [13, 14]) 2 rfl (by kernel_rfl) (co_then 3 rfl (os_ge (d := 15) (t := .u (.c (.v (.bool (r2.2 == none))))) (t' := .u (.c (.v (.bool true)))) (by kernel_rfl) (by rw [hs4])) (cg_then (ds := [16, 17, 18]) 6 rfl (by kernel_rfl) (co_then 7 rfl (os_ge (d := 19) (t := .u (.c (.v (.bool (r3.2 == none))))) (t' := .u (.c (.v (.bool true)))) (by kernel_rfl) (by rw [hs5])) (co_then 8 rfl (os_gy rfl rfl rfl (by kernel_rfl) (s_take (u := .c (bufC r3.1)) (.inl rfl) (.move (by kernel_rfl) rfl) rfl (by kernel_rfl))) (co_then 9 rfl (os_gy rfl rfl rfl (by kernel_rfl) (c_call (Broken.ac (h := hr6)) ⟨_, Try.func12, rfl, by kernel_rfl⟩ rfl (hand_root (r := 20) (c := bufC r3.1) (by kernel_rfl) (by kernel_rfl) rfl (.nil)) rfl (by kernel_rfl))) (cg_then (ds := [22, 0]) 11 rfl (by kernel_rfl) (.nil)))))))) rfl (by kernel_rfl) ?_
      refine r_ret ?_
      obtain rfl := Option.some.inj h
      exact ⟨.inr rfl, _, _, .cons (.copy rfl rfl rfl) (.nil), rfl, outs_of trivial⟩
    · have h := cond_f hb h
      have hs7 := hb
      refine r_reg (l := [(0, .u (.c (.v (.bool false))))]) (cg_then (ds := [13, 14]) 2 rfl (by kernel_rfl) (co_then 3 rfl (os_ge (d := 15) (t := .u (.c (.v (.bool (r2.2 == none))))) (t' := .u (.c (.v (.bool true)))) (by kernel_rfl) (by rw [hs4])) (cg_then (ds := [16, 17, 18]) 6 rfl (by kernel_rfl) (co_then 7 rfl (os_ge (d := 19) (t := .u (.c (.v (.bool (r3.2 == none))))) (t' := .u (.c (.v (.bool false)))) (by kernel_rfl) (by rw [hs7])) (cg_then (ds := [20, 21, 22, 0]) 11 rfl (by kernel_rfl) (.nil)))))) rfl (by kernel_rfl) ?_
      refine r_ret ?_
      obtain rfl := Option.some.inj h
      exact ⟨.inr rfl, _, _, .cons (.copy rfl rfl rfl) (.nil), rfl, outs_of trivial⟩
  · have h := cond_f hb h
    have hs8 := hb
    refine r_reg (l := [(0, .u (.c (.v (.bool false))))]) (cg_then (ds := [13, 14]) 2 rfl (by kernel_rfl) (co_then 3 rfl (os_ge (d := 15) (t := .u (.c (.v (.bool (r2.2 == none))))) (t' := .u (.c (.v (.bool false)))) (by kernel_rfl) (by rw [hs8])) (cg_then (ds := [16, 17, 18, 19, 20, 21, 22, 0]) 11 rfl (by kernel_rfl) (.nil)))) rfl (by kernel_rfl) ?_
    refine r_ret ?_
    obtain rfl := Option.some.inj h
    exact ⟨.inr rfl, _, _, .cons (.copy rfl rfl rfl) (.nil), rfl, outs_of trivial⟩
set_option maxHeartbeats 4000000 in
def TlbOne.l3 (k : Nat) (a0 : List S30) (a1 : Int) (a2 : Int) (r1 : Bool) (r2 : Buf) (v3 : Buf) (v4 : Bool) (v5 : Int) (r14 : Buf × (List S30)) (v15 : Buf) (v16 : Int) : Nat → Buf → Int → Option (Sum (Buf × Int) (Bool))
  | 0, _, _ => none
  | n3 + 1, v18, v19 => (bif decide (v19 < v16) then (bif decide (0 ≤ v16) && decide (v16 < (r14.2.length : Int)) then (bif decide (0 ≤ v19) && decide (v19 < (r14.2.length : Int)) then (tlb_Clash.f k ((r14.2.getD ((v16).toNat) z30).f0) ((r14.2.getD ((v16).toNat) z30).f1) ((r14.2.getD ((v16).toNat) z30).f2) ((r14.2.getD ((v16).toNat) z30).f3) ((r14.2.getD ((v16).toNat) z30).f4) ((r14.2.getD ((v16).toNat) z30).f5) ((r14.2.getD ((v19).toNat) z30).f0) ((r14.2.getD ((v19).toNat) z30).f1) ((r14.2.getD ((v19).toNat) z30).f2) ((r14.2.getD ((v19).toNat) z30).f3) ((r14.2.getD ((v19).toNat) z30).f4) ((r14.2.getD ((v19).toNat) z30).f5)).bind fun (r23 : Bool) => (bif r23 then some (Sum.inr false) else TlbOne.l3 k a0 a1 a2 r1 r2 v3 v4 v5 r14 v15 v16 n3 v18 (IntKind.i64.wrap (v19 + 1))) else none) else none) else some (Sum.inl (v18, v19)))
def TlbOne.l2 (k : Nat) (a0 : List S30) (a1 : Int) (a2 : Int) (r1 : Bool) (r2 : Buf) (v3 : Buf) (v4 : Bool) (v5 : Int) (r14 : Buf × (List S30)) : Nat → Buf → Int → Option (Bool)
  | 0, _, _ => none
  | n2 + 1, v15, v16 => (bif decide (v16 < (r14.2.length : Int)) then (bif !v4 then (TlbOne.l3 k a0 a1 a2 r1 r2 v3 v4 v5 r14 v15 v16 k v15 0).bind fun (y20 : Sum (Buf × Int) (Bool)) => Sum.elim (fun (y20v : Buf × Int) => TlbOne.l2 k a0 a1 a2 r1 r2 v3 v4 v5 r14 n2 y20v.1 (IntKind.i64.wrap (v16 + 1))) some y20 else (Page.f k v15 a1 a2).bind fun (r24 : Buf) => (Find.f k r24 a1 a2).bind fun (r25 : Buf × S30 × Bool) => (bif r1 then (bif !r25.2.2 then (Broken.f k r25.1).bind fun (r28 : Buf × Bool) => some (r28.2 == v4) else some false) else some false)) else (Page.f k v15 a1 a2).bind fun (r32 : Buf) => (Find.f k r32 a1 a2).bind fun (r33 : Buf × S30 × Bool) => (bif r1 then (bif !r33.2.2 then (Broken.f k r33.1).bind fun (r36 : Buf × Bool) => some (r36.2 == v4) else some false) else some false))
def TlbOne.l5 (k : Nat) (a0 : List S30) (a1 : Int) (a2 : Int) (r1 : Bool) (r2 : Buf) (v3 : Buf) (v4 : Bool) (v5 : Int) (r40 : Buf × (List S30)) (v41 : Buf) (v42 : Int) : Nat → Buf → Int → Option (Sum (Buf × Int) (Bool))
  | 0, _, _ => none
  | n5 + 1, v44, v45 => (bif decide (v45 < v42) then (bif decide (0 ≤ v42) && decide (v42 < (r40.2.length : Int)) then (bif decide (0 ≤ v45) && decide (v45 < (r40.2.length : Int)) then (tlb_Clash.f k ((r40.2.getD ((v42).toNat) z30).f0) ((r40.2.getD ((v42).toNat) z30).f1) ((r40.2.getD ((v42).toNat) z30).f2) ((r40.2.getD ((v42).toNat) z30).f3) ((r40.2.getD ((v42).toNat) z30).f4) ((r40.2.getD ((v42).toNat) z30).f5) ((r40.2.getD ((v45).toNat) z30).f0) ((r40.2.getD ((v45).toNat) z30).f1) ((r40.2.getD ((v45).toNat) z30).f2) ((r40.2.getD ((v45).toNat) z30).f3) ((r40.2.getD ((v45).toNat) z30).f4) ((r40.2.getD ((v45).toNat) z30).f5)).bind fun (r49 : Bool) => (bif r49 then some (Sum.inr false) else TlbOne.l5 k a0 a1 a2 r1 r2 v3 v4 v5 r40 v41 v42 n5 v44 (IntKind.i64.wrap (v45 + 1))) else none) else none) else some (Sum.inl (v44, v45)))
def TlbOne.l4 (k : Nat) (a0 : List S30) (a1 : Int) (a2 : Int) (r1 : Bool) (r2 : Buf) (v3 : Buf) (v4 : Bool) (v5 : Int) (r40 : Buf × (List S30)) : Nat → Buf → Int → Option (Bool)
  | 0, _, _ => none
  | n4 + 1, v41, v42 => (bif decide (v42 < (r40.2.length : Int)) then (bif !v4 then (TlbOne.l5 k a0 a1 a2 r1 r2 v3 v4 v5 r40 v41 v42 k v41 0).bind fun (y46 : Sum (Buf × Int) (Bool)) => Sum.elim (fun (y46v : Buf × Int) => TlbOne.l4 k a0 a1 a2 r1 r2 v3 v4 v5 r40 n4 y46v.1 (IntKind.i64.wrap (v42 + 1))) some y46 else (Page.f k v41 a1 a2).bind fun (r50 : Buf) => (Find.f k r50 a1 a2).bind fun (r51 : Buf × S30 × Bool) => (bif r1 then (bif !r51.2.2 then (Broken.f k r51.1).bind fun (r54 : Buf × Bool) => some (r54.2 == v4) else some false) else some false)) else (Page.f k v41 a1 a2).bind fun (r58 : Buf) => (Find.f k r58 a1 a2).bind fun (r59 : Buf × S30 × Bool) => (bif r1 then (bif !r59.2.2 then (Broken.f k r59.1).bind fun (r62 : Buf × Bool) => some (r62.2 == v4) else some false) else some false))
def TlbOne.l1 (k : Nat) (a0 : List S30) (a1 : Int) (a2 : Int) (r1 : Bool) (r2 : Buf) : Nat → Buf → Bool → Int → Option (Bool)
  | 0, _, _, _ => none
  | n1 + 1, v3, v4, v5 => (bif decide (v5 < (a0.length : Int)) then (bif decide (v5 < 80) then (bif decide (0 ≤ v5) && decide (v5 < (a0.length : Int)) then (Fill.f k v3 (a0.getD v5.toNat z30)).bind fun (r8 : Buf × (Option Int)) => (bif v4 then (Broken.f k r8.1).bind fun (r10 : Buf × Bool) => (bif !r10.2 then some false else (Broken.f k r10.1).bind fun (r11 : Buf × Bool) => TlbOne.l1 k a0 a1 a2 r1 r2 n1 r11.1 r11.2 (IntKind.i64.wrap (v5 + 1))) else (Broken.f k r8.1).bind fun (r13 : Buf × Bool) => TlbOne.l1 k a0 a1 a2 r1 r2 n1 r13.1 r13.2 (IntKind.i64.wrap (v5 + 1))) else none) else (Entries.f k v3).bind fun (r14 : Buf × (List S30)) => TlbOne.l2 k a0 a1 a2 r1 r2 v3 v4 v5 r14 k r14.1 0) else (Entries.f k v3).bind fun (r40 : Buf × (List S30)) => TlbOne.l4 k a0 a1 a2 r1 r2 v3 v4 v5 r40 k r40.1 0)
def TlbOne.f (k : Nat) (a0 : List S30) (a1 : Int) (a2 : Int) : Option (Bool) :=
  (up.f k).bind fun (r1 : Bool) => (New.f ).bind fun (r2 : Buf) => TlbOne.l1 k a0 a1 a2 r1 r2 k r2 false 0
set_option maxHeartbeats 4000000 in
theorem TlbOne.ac (k : Nat) (a0 : List S30) (a1 : Int) (a2 : Int) (r : Bool) (h : TlbOne.f k a0 a1 a2 = some r) : AC Try.prog 48 4 [.c (.sl false 6 (a0.map eE)), .c (.v (.int .i64 a1)), .c (.v (.int .i64 a2))] [none, none, none] [.c (.v (.bool r))] := by
  unfold TlbOne.f at h
  refine ac_intro (fn := Try.f4) (pins := []) (rts := [6]) Try.func4 rfl Try.ntmps4 rfl (Nat.le_of_ble_eq_true rfl) (pins_lt rfl) rfl (fun w R E vs => ?_)
  refine r_weak (of_weak (l := [(0, .u (.c (.sl false 6 (a0.map eE)))), (1, .u (.c (.v (.int .i64 a1)))), (2, .u (.c (.v (.int .i64 a2))))]) (by kernel_rfl)) ?_
  refine r_seq ?_
  refine r_reg (l := [(0, .u (.c (.sl false 6 (a0.map eE)))), (1, .u (.c (.v (.int .i64 a1)))), (2, .u (.c (.v (.int .i64 a2))))]) (cg_then (ds := [6]) 1 rfl (by kernel_rfl) (.nil)) rfl (by kernel_rfl) ?_
  refine r_seq ?_
  obtain ⟨r1, hr1, h⟩ := bind_some h
  refine r_reg (l := [(0, .u (.c (.sl false 6 (a0.map eE)))), (1, .u (.c (.v (.int .i64 a1)))), (2, .u (.c (.v (.int .i64 a2)))), (7, .u (.c (.v (.bool r1))))]) (co_then 1 rfl (os_plain rfl rfl (c_callQ (up.ac (h := hr1)) ⟨_, Try.func6, rfl, by kernel_rfl⟩ rfl (.nil) (by kernel_rfl))) (cg_then (ds := [7]) 2 rfl (by kernel_rfl) (.nil))) rfl (by kernel_rfl) ?_
  refine r_seq ?_
  obtain ⟨r2, hr2, h⟩ := bind_some h
  refine r_reg (l := [(0, .u (.c (.sl false 6 (a0.map eE)))), (1, .u (.c (.v (.int .i64 a1)))), (2, .u (.c (.v (.int .i64 a2)))), (7, .u (.c (.v (.bool r1)))), (8, .u (.c (bufC r2)))]) (co_then 1 rfl (os_plain rfl rfl (c_callQ (New.ac (h := hr2)) ⟨_, Try.func7, rfl, by kernel_rfl⟩ rfl (.nil) (by kernel_rfl))) (co_then 2 rfl (os_plain rfl rfl (s_take (u := .c (bufC r2)) (.inr rfl) (.move (by kernel_rfl) rfl) rfl (by kernel_rfl))) (.nil))) rfl (by kernel_rfl) ?_
  refine r_seq ?_
  refine r_seq ?_
  refine r_reg (l := [(0, .u (.c (.sl false 6 (a0.map eE)))), (1, .u (.c (.v (.int .i64 a1)))), (2, .u (.c (.v (.int .i64 a2)))), (7, .u (.c (.v (.bool r1)))), (8, .u (.c (bufC r2))), (20, .u (.c (.v (.bool false))))]) (cg_then (ds := [19, 20]) 2 rfl (by kernel_rfl) (.nil)) rfl (by kernel_rfl) ?_
  refine r_condF rfl rfl ?_
  refine r_skip ?_
  refine r_seq ?_
  refine r_reg (l := [(0, .u (.c (.sl false 6 (a0.map eE)))), (1, .u (.c (.v (.int .i64 a1)))), (2, .u (.c (.v (.int .i64 a2)))), (7, .u (.c (.v (.bool r1)))), (8, .u (.c (bufC r2))), (9, .u (.c (.v (.bool false))))]) (cg_then (ds := [9]) 1 rfl (by kernel_rfl) (.nil)) rfl (by kernel_rfl) ?_
  refine r_seq ?_
  refine r_seq ?_
  refine r_reg (l := [(0, .u (.c (.sl false 6 (a0.map eE)))), (1, .u (.c (.v (.int .i64 a1)))), (2, .u (.c (.v (.int .i64 a2)))), (7, .u (.c (.v (.bool r1)))), (8, .u (.c (bufC r2))), (9, .u (.c (.v (.bool false)))), (10, .u (.c (.v (.int .i64 0))))]) (cg_then (ds := [10]) 1 rfl (by kernel_rfl) (.nil)) rfl (by kernel_rfl) ?_
  refine r_block ?_
  refine r_weak (of_weak (l := [(0, .u (.c (.sl false 6 (a0.map eE)))), (1, .u (.c (.v (.int .i64 a1)))), (2, .u (.c (.v (.int .i64 a2)))), (7, .u (.c (.v (.bool r1)))), (8, .u (.c (bufC r2))), (9, .u (.c (.v (.bool false)))), (10, .u (.c (.v (.int .i64 0))))]) (by kernel_rfl)) ?_
  refine r_loopI (α := Buf × Bool × Int) (fun x => [(0, .u (.c (.sl false 6 (a0.map eE)))), (1, .u (.c (.v (.int .i64 a1)))), (2, .u (.c (.v (.int .i64 a2)))), (7, .u (.c (.v (.bool r1)))), (8, .u (.c (bufC x.1))), (9, .u (.c (.v (.bool x.2.1)))), (10, .u (.c (.v (.int .i64 x.2.2))))]) (fun n x => TlbOne.l1 k a0 a1 a2 r1 r2 n x.1 x.2.1 x.2.2 = some r) k (r2, false, 0) h (by intro x h; unfold TlbOne.l1 at h; cases h) ?_
  rintro n1 ⟨v3, v4, v5⟩ h
  replace h : TlbOne.l1 k a0 a1 a2 r1 r2 (n1 + 1) v3 v4 v5 = some r := h
  unfold TlbOne.l1 at h
  show Run _ _ _ (St.of [(0, .u (.c (.sl false 6 (a0.map eE)))), (1, .u (.c (.v (.int .i64 a1)))), (2, .u (.c (.v (.int .i64 a2)))), (7, .u (.c (.v (.bool r1)))), (8, .u (.c (bufC v3))), (9, .u (.c (.v (.bool v4)))), (10, .u (.c (.v (.int .i64 v5))))]) _
  refine r_seq ?_
  refine r_seq ?_
  rcases Bool.eq_false_or_eq_true (decide (v5 < (a0.length : Int))) with hb | hb
  · have h := cond_t hb h
    have hs6 := hb
    refine r_reg (l := [(0, .u (.c (.sl false 6 (a0.map eE)))), (1, .u (.c (.v (.int .i64 a1)))), (2, .u (.c (.v (.int .i64 a2)))), (7, .u (.c (.v (.bool r1)))), (8, .u (.c (bufC v3))), (9, .u (.c (.v (.bool v4)))), (10, .u (.c (.v (.int .i64 v5)))), (28, .u (.c (.v (.bool (decide (v5 < 80))))))]) (cg_then (ds := [21, 22]) 2 rfl (by kernel_rfl) (co_then 3 rfl (os_to (os_plain rfl rfl (s_lenU (own := false) (sz := 6) (rows := (a0.map eE)) rfl sl22 (by kernel_rfl) rfl (by kernel_rfl))) (t' := .u (.c (.v (.int .i64 (a0.length : Int))))) (by rw [List.length_map])) (cg_then (ds := [24]) 4 rfl (by kernel_rfl) (co_then 5 rfl (os_ge (d := 25) (t := .u (.c (.v (.bool (decide (v5 < (a0.length : Int))))))) (t' := .u (.c (.v (.bool true)))) (by kernel_rfl) (by rw [hs6])) (cg_then (ds := [26, 27, 28]) 8 rfl (by kernel_rfl) (.nil)))))) rfl (by kernel_rfl) ?_
    rcases Bool.eq_false_or_eq_true (decide (v5 < 80)) with hb | hb
    · have h := cond_t hb h
      refine r_condT hb rfl ?_
      refine r_skip ?_
      refine r_seq ?_
      refine r_block ?_
      refine r_seq ?_
      obtain ⟨hg7, h⟩ := guard_some h
      simp only [Bool.and_eq_true, decide_eq_true_eq] at hg7
      obtain ⟨r8, hr8, h⟩ := bind_some h
      refine r_reg (l := [(0, .u (.c (.sl false 6 (a0.map eE)))), (1, .u (.c (.v (.int .i64 a1)))), (2, .u (.c (.v (.int .i64 a2)))), (7, .u (.c (.v (.bool r1)))), (8, .u (.c (bufC r8.1))), (9, .u (.c (.v (.bool v4)))), (10, .u (.c (.v (.int .i64 v5))))]) (cg_then (ds := [31, 32, 33]) 3 rfl (by kernel_rfl) (co_then 4 rfl (os_plain rfl rfl (s_indexU (own := false) (sz := 6) (rows := (a0.map eE)) (e := v5) (ik := .i64) rfl sl22 (by kernel_rfl) (.tmp (by kernel_rfl)) hg7.1 (by rw [List.length_map]; exact hg7.2) rfl (by kernel_rfl) (by kernel_rfl))) (co_then 5 rfl (os_plain rfl rfl (s_loadA (n := 6) (xs := [.v (.int .i64 ((a0.getD v5.toNat z30).f0)), .v (.int .i64 ((a0.getD v5.toNat z30).f1)), .v (.int .i64 ((a0.getD v5.toNat z30).f2)), .v (.int .i64 ((a0.getD v5.toNat z30).f3)), .v (.bool ((a0.getD v5.toNat z30).f4)), .v (.bool ((a0.getD v5.toNat z30).f5))]) (r := 32) (off := 0) (s := .i v5.toNat 6) (p := []) (c := .sl false 6 (a0.map eE)) (cs := eE (a0.getD v5.toNat z30)) rfl (aggB_ok (by kernel_rfl)) (by kernel_rfl) (by kernel_rfl) (getP_map z30 (by have := hg7; omega)) rfl rfl rfl rfl (by kernel_rfl))) (co_then 6 rfl (os_plain rfl rfl (c_call (Fill.ac (h := hr8)) ⟨_, Try.func8, rfl, by kernel_rfl⟩ rfl (hand_root (r := 8) (c := bufC v3) (by kernel_rfl) (by kernel_rfl) rfl (.rd (.copy (by kernel_rfl) rfl) (.nil))) rfl (by kernel_rfl))) (.nil))))) rfl (by kernel_rfl) ?_
      refine r_seq ?_
      refine r_seq ?_
      rcases Bool.eq_false_or_eq_true (v4) with hb | hb
      · have h := cond_t hb h
        have hs9 := hb
        obtain ⟨r10, hr10, h⟩ := bind_some h
        refine r_reg (l := [(0, .u (.c (.sl false 6 (a0.map eE)))), (1, .u (.c (.v (.int .i64 a1)))), (2, .u (.c (.v (.int .i64 a2)))), (7, .u (.c (.v (.bool r1)))), (8, .u (.c (bufC r10.1))), (10, .u (.c (.v (.int .i64 v5)))), (42, .u (.c (.v (.bool (!r10.2)))))]) (cg_then (ds := [37]) 1 rfl (by kernel_rfl) (co_then 2 rfl (os_ge (d := 38) (t := .u (.c (.v (.bool v4)))) (t' := .u (.c (.v (.bool true)))) (by kernel_rfl) (by rw [hs9])) (cg_then (ds := [39]) 3 rfl (by kernel_rfl) (co_then 4 rfl (os_gy rfl rfl rfl (by kernel_rfl) (c_call (Broken.ac (h := hr10)) ⟨_, Try.func12, rfl, by kernel_rfl⟩ rfl (hand_root (r := 8) (c := bufC r8.1) (by kernel_rfl) (by kernel_rfl) rfl (.nil)) rfl (by kernel_rfl))) (cg_then (ds := [41, 42]) 6 rfl (by kernel_rfl) (.nil)))))) rfl (by kernel_rfl) ?_
        rcases Bool.eq_false_or_eq_true (!r10.2) with hb | hb
        · have h := cond_t hb h
          refine r_condT hb rfl ?_
          refine r_seq ?_
          refine r_reg (l := [(6, .u (.c (.v (.bool false))))]) (cg_then (ds := [6]) 1 rfl (by kernel_rfl) (.nil)) rfl (by kernel_rfl) ?_
          refine r_ret ?_
          obtain rfl := Option.some.inj h
          exact ⟨.inr rfl, _, _, .cons (.copy rfl rfl rfl) (.nil), rfl, outs_of trivial⟩
        · have h := cond_f hb h
          refine r_condF hb rfl ?_
          refine r_skip ?_
          obtain ⟨r11, hr11, h⟩ := bind_some h
          refine r_reg (l := [(0, .u (.c (.sl false 6 (a0.map eE)))), (1, .u (.c (.v (.int .i64 a1)))), (2, .u (.c (.v (.int .i64 a2)))), (7, .u (.c (.v (.bool r1)))), (8, .u (.c (bufC r11.1))), (9, .u (.c (.v (.bool r11.2)))), (10, .u (.c (.v (.int .i64 v5))))]) (cg_then (ds := [43]) 1 rfl (by kernel_rfl) (co_then 2 rfl (os_plain rfl rfl (c_call (Broken.ac (h := hr11)) ⟨_, Try.func12, rfl, by kernel_rfl⟩ rfl (hand_root (r := 8) (c := bufC r10.1) (by kernel_rfl) (by kernel_rfl) rfl (.nil)) rfl (by kernel_rfl))) (cg_then (ds := [9]) 3 rfl (by kernel_rfl) (.nil)))) rfl (by kernel_rfl) ?_
          refine r_reg (l := [(0, .u (.c (.sl false 6 (a0.map eE)))), (1, .u (.c (.v (.int .i64 a1)))), (2, .u (.c (.v (.int .i64 a2)))), (7, .u (.c (.v (.bool r1)))), (8, .u (.c (bufC r11.1))), (9, .u (.c (.v (.bool r11.2)))), (10, .u (.c (.v (.int .i64 (IntKind.i64.wrap (v5 + 1))))))]) (cg_then (ds := [29, 30, 10]) 3 rfl (by kernel_rfl) (.nil)) rfl (by kernel_rfl) ?_
          exact ⟨(r11.1, r11.2, IntKind.i64.wrap (v5 + 1)), h, of_weak (by kernel_rfl)⟩
      · have h := cond_f hb h
        have hs12 := hb
        refine r_reg (l := [(0, .u (.c (.sl false 6 (a0.map eE)))), (1, .u (.c (.v (.int .i64 a1)))), (2, .u (.c (.v (.int .i64 a2)))), (7, .u (.c (.v (.bool r1)))), (8, .u (.c (bufC r8.1))), (10, .u (.c (.v (.int .i64 v5)))), (42, .u (.c (.v (.bool false))))]) (cg_then (ds := [37]) 1 rfl (by kernel_rfl) (co_then 2 rfl (os_ge (d := 38) (t := .u (.c (.v (.bool v4)))) (t' := .u (.c (.v (.bool false)))) (by kernel_rfl) (by rw [hs12])) (cg_then (ds := [39, 40, 41, 42]) 6 rfl (by kernel_rfl) (.nil)))) rfl (by kernel_rfl) ?_
        refine r_condF rfl rfl ?_
        refine r_skip ?_
        obtain ⟨r13, hr13, h⟩ := bind_some h
        refine r_reg (l := [(0, .u (.c (.sl false 6 (a0.map eE)))), (1, .u (.c (.v (.int .i64 a1)))), (2, .u (.c (.v (.int .i64 a2)))), (7, .u (.c (.v (.bool r1)))), (8, .u (.c (bufC r13.1))), (9, .u (.c (.v (.bool r13.2)))), (10, .u (.c (.v (.int .i64 v5))))]) (cg_then (ds := [43]) 1 rfl (by kernel_rfl) (co_then 2 rfl (os_plain rfl rfl (c_call (Broken.ac (h := hr13)) ⟨_, Try.func12, rfl, by kernel_rfl⟩ rfl (hand_root (r := 8) (c := bufC r8.1) (by kernel_rfl) (by kernel_rfl) rfl (.nil)) rfl (by kernel_rfl))) (cg_then (ds := [9]) 3 rfl (by kernel_rfl) (.nil)))) rfl (by kernel_rfl) ?_
        refine r_reg (l := [(0, .u (.c (.sl false 6 (a0.map eE)))), (1, .u (.c (.v (.int .i64 a1)))), (2, .u (.c (.v (.int .i64 a2)))), (7, .u (.c (.v (.bool r1)))), (8, .u (.c (bufC r13.1))), (9, .u (.c (.v (.bool r13.2)))), (10, .u (.c (.v (.int .i64 (IntKind.i64.wrap (v5 + 1))))))]) (cg_then (ds := [29, 30, 10]) 3 rfl (by kernel_rfl) (.nil)) rfl (by kernel_rfl) ?_
        exact ⟨(r13.1, r13.2, IntKind.i64.wrap (v5 + 1)), h, of_weak (by kernel_rfl)⟩
    · have h := cond_f hb h
      refine r_condF hb rfl ?_
      refine r_exit ?_
      refine r_seq ?_
      obtain ⟨r14, hr14, h⟩ := bind_some h
      refine r_reg (l := [(1, .u (.c (.v (.int .i64 a1)))), (2, .u (.c (.v (.int .i64 a2)))), (7, .u (.c (.v (.bool r1)))), (8, .u (.c (bufC r14.1))), (9, .u (.c (.v (.bool v4)))), (11, .u (.c (.sl true 6 (r14.2.map eE))))]) (cg_then (ds := [45]) 1 rfl (by kernel_rfl) (co_then 2 rfl (os_plain rfl rfl (c_call (Entries.ac (h := hr14)) ⟨_, Try.func9, rfl, by kernel_rfl⟩ rfl (hand_root (r := 8) (c := bufC v3) (by kernel_rfl) (by kernel_rfl) rfl (.nil)) rfl (by kernel_rfl))) (co_then 3 rfl (os_plain rfl rfl (s_take (u := .c (.sl true 6 (r14.2.map eE))) (.inr rfl) (.move (by kernel_rfl) rfl) rfl (by kernel_rfl))) (.nil)))) rfl (by kernel_rfl) ?_
      refine r_seq ?_
      refine r_seq ?_
      refine r_reg (l := [(1, .u (.c (.v (.int .i64 a1)))), (2, .u (.c (.v (.int .i64 a2)))), (7, .u (.c (.v (.bool r1)))), (8, .u (.c (bufC r14.1))), (9, .u (.c (.v (.bool v4)))), (11, .u (.c (.sl true 6 (r14.2.map eE)))), (12, .u (.c (.v (.int .i64 0))))]) (cg_then (ds := [12]) 1 rfl (by kernel_rfl) (.nil)) rfl (by kernel_rfl) ?_
      refine r_block ?_
      refine r_weak (of_weak (l := [(1, .u (.c (.v (.int .i64 a1)))), (2, .u (.c (.v (.int .i64 a2)))), (7, .u (.c (.v (.bool r1)))), (8, .u (.c (bufC r14.1))), (9, .u (.c (.v (.bool v4)))), (11, .u (.c (.sl true 6 (r14.2.map eE)))), (12, .u (.c (.v (.int .i64 0))))]) (by kernel_rfl)) ?_
      refine r_loopI (α := Buf × Int) (fun x => [(1, .u (.c (.v (.int .i64 a1)))), (2, .u (.c (.v (.int .i64 a2)))), (7, .u (.c (.v (.bool r1)))), (8, .u (.c (bufC x.1))), (9, .u (.c (.v (.bool v4)))), (11, .u (.c (.sl true 6 (r14.2.map eE)))), (12, .u (.c (.v (.int .i64 x.2))))]) (fun n x => TlbOne.l2 k a0 a1 a2 r1 r2 v3 v4 v5 r14 n x.1 x.2 = some r) k (r14.1, 0) h (by intro x h; unfold TlbOne.l2 at h; cases h) ?_
      rintro n2 ⟨v15, v16⟩ h
      replace h : TlbOne.l2 k a0 a1 a2 r1 r2 v3 v4 v5 r14 (n2 + 1) v15 v16 = some r := h
      unfold TlbOne.l2 at h
      show Run _ _ _ (St.of [(1, .u (.c (.v (.int .i64 a1)))), (2, .u (.c (.v (.int .i64 a2)))), (7, .u (.c (.v (.bool r1)))), (8, .u (.c (bufC v15))), (9, .u (.c (.v (.bool v4)))), (11, .u (.c (.sl true 6 (r14.2.map eE)))), (12, .u (.c (.v (.int .i64 v16))))]) _
      refine r_seq ?_
      refine r_seq ?_
      rcases Bool.eq_false_or_eq_true (decide (v16 < (r14.2.length : Int))) with hb | hb
      · have h := cond_t hb h
        have hs17 := hb
        refine r_reg (l := [(1, .u (.c (.v (.int .i64 a1)))), (2, .u (.c (.v (.int .i64 a2)))), (7, .u (.c (.v (.bool r1)))), (8, .u (.c (bufC v15))), (9, .u (.c (.v (.bool v4)))), (11, .u (.c (.sl true 6 (r14.2.map eE)))), (12, .u (.c (.v (.int .i64 v16)))), (54, .u (.c (.v (.bool (!v4)))))]) (cg_then (ds := [47, 48]) 2 rfl (by kernel_rfl) (co_then 3 rfl (os_to (os_plain rfl rfl (s_lenV (r := 11) (lo := 0) (n := (r14.2.map eE).length) (pl := none) (sz := 6) rfl sl22 (by kernel_rfl) rfl (by kernel_rfl))) (t' := .u (.c (.v (.int .i64 (r14.2.length : Int))))) (by rw [List.length_map])) (cg_then (ds := [50]) 4 rfl (by kernel_rfl) (co_then 5 rfl (os_ge (d := 51) (t := .u (.c (.v (.bool (decide (v16 < (r14.2.length : Int))))))) (t' := .u (.c (.v (.bool true)))) (by kernel_rfl) (by rw [hs17])) (cg_then (ds := [52, 53, 54]) 8 rfl (by kernel_rfl) (.nil)))))) rfl (by kernel_rfl) ?_
        rcases Bool.eq_false_or_eq_true (!v4) with hb | hb
        · have h := cond_t hb h
          refine r_condT hb rfl ?_
          refine r_skip ?_
          refine r_seq ?_
          refine r_block ?_
          refine r_seq ?_
          refine r_reg (l := [(1, .u (.c (.v (.int .i64 a1)))), (2, .u (.c (.v (.int .i64 a2)))), (7, .u (.c (.v (.bool r1)))), (8, .u (.c (bufC v15))), (9, .u (.c (.v (.bool v4)))), (11, .u (.c (.sl true 6 (r14.2.map eE)))), (12, .u (.c (.v (.int .i64 v16)))), (13, .u (.c (.v (.int .i64 0))))]) (cg_then (ds := [13]) 1 rfl (by kernel_rfl) (.nil)) rfl (by kernel_rfl) ?_
          refine r_block ?_
          refine r_weak (of_weak (l := [(1, .u (.c (.v (.int .i64 a1)))), (2, .u (.c (.v (.int .i64 a2)))), (7, .u (.c (.v (.bool r1)))), (8, .u (.c (bufC v15))), (9, .u (.c (.v (.bool v4)))), (11, .u (.c (.sl true 6 (r14.2.map eE)))), (12, .u (.c (.v (.int .i64 v16)))), (13, .u (.c (.v (.int .i64 0))))]) (by kernel_rfl)) ?_
          obtain ⟨y20, hy20, h_y20⟩ := bind_some h
          refine r_loopI (α := Buf × Int) (fun x => [(1, .u (.c (.v (.int .i64 a1)))), (2, .u (.c (.v (.int .i64 a2)))), (7, .u (.c (.v (.bool r1)))), (8, .u (.c (bufC x.1))), (9, .u (.c (.v (.bool v4)))), (11, .u (.c (.sl true 6 (r14.2.map eE)))), (12, .u (.c (.v (.int .i64 v16)))), (13, .u (.c (.v (.int .i64 x.2))))]) (fun n x => TlbOne.l3 k a0 a1 a2 r1 r2 v3 v4 v5 r14 v15 v16 n x.1 x.2 = some y20) k (v15, 0) hy20 (by intro x h; unfold TlbOne.l3 at h; cases h) ?_
          rintro n3 ⟨v18, v19⟩ h
          replace h : TlbOne.l3 k a0 a1 a2 r1 r2 v3 v4 v5 r14 v15 v16 (n3 + 1) v18 v19 = some y20 := h
          unfold TlbOne.l3 at h
          show Run _ _ _ (St.of [(1, .u (.c (.v (.int .i64 a1)))), (2, .u (.c (.v (.int .i64 a2)))), (7, .u (.c (.v (.bool r1)))), (8, .u (.c (bufC v18))), (9, .u (.c (.v (.bool v4)))), (11, .u (.c (.sl true 6 (r14.2.map eE)))), (12, .u (.c (.v (.int .i64 v16)))), (13, .u (.c (.v (.int .i64 v19))))]) _
          refine r_seq ?_
          refine r_seq ?_
          refine r_reg (l := [(1, .u (.c (.v (.int .i64 a1)))), (2, .u (.c (.v (.int .i64 a2)))), (7, .u (.c (.v (.bool r1)))), (8, .u (.c (bufC v18))), (9, .u (.c (.v (.bool v4)))), (11, .u (.c (.sl true 6 (r14.2.map eE)))), (12, .u (.c (.v (.int .i64 v16)))), (13, .u (.c (.v (.int .i64 v19)))), (59, .u (.c (.v (.bool (decide (v19 < v16))))))]) (cg_then (ds := [57, 58, 59]) 3 rfl (by kernel_rfl) (.nil)) rfl (by kernel_rfl) ?_
          rcases Bool.eq_false_or_eq_true (decide (v19 < v16)) with hb | hb
          · have h := cond_t hb h
            refine r_condT hb rfl ?_
            refine r_skip ?_
            refine r_seq ?_
            refine r_block ?_
            refine r_seq ?_
            obtain ⟨hg21, h⟩ := guard_some h
            simp only [Bool.and_eq_true, decide_eq_true_eq] at hg21
            obtain ⟨hg22, h⟩ := guard_some h
            simp only [Bool.and_eq_true, decide_eq_true_eq] at hg22
            obtain ⟨r23, hr23, h⟩ := bind_some h
            refine r_weak (of_weak (l := [(1, .u (.c (.v (.int .i64 a1)))), (2, .u (.c (.v (.int .i64 a2)))), (7, .u (.c (.v (.bool r1)))), (8, .u (.c (bufC v18))), (9, .u (.c (.v (.bool v4)))), (11, .u (.c (.sl true 6 (r14.2.map eE)))), (12, .u (.c (.v (.int .i64 v16)))), (13, .u (.c (.v (.int .i64 v19)))), (59, .u (.c (.v (.bool (decide (v19 < v16))))))]) (by kernel_rfl)) ?_
            refine r_anyW (l := [(1, .u (.c (.v (.int .i64 a1)))), (2, .u (.c (.v (.int .i64 a2)))), (7, .u (.c (.v (.bool r1)))), (8, .u (.c (bufC v18))), (9, .u (.c (.v (.bool v4)))), (11, .u (.c (.sl true 6 (r14.2.map eE)))), (12, .u (.c (.v (.int .i64 v16)))), (13, .u (.c (.v (.int .i64 v19)))), (14, .u (.c (.v (.bool r23))))]) (tab := [[], [], [0, 1], [2], [], [], [4, 5], [6], [3, 7], [8, 8, 0, 1, 2, 3, 4, 5, 6, 7, 8]]) [⟨[], [11], [(62, .whole 11 none 6 ((r14.2.map eE).length))], some 62, false⟩, ⟨[], [12], [(63, .u (.c (.v (.int .i64 v16))))], some 63, false⟩, ⟨[0, 1], [11, 62, 63], [(64, .addr 11 (.i ((v16).toNat) 6) [] 0)], some 64, false⟩, ⟨[0, 1, 2], [11, 64], [(65, .u (.agg [.v (.int .i64 ((r14.2.getD ((v16).toNat) z30).f0)), .v (.int .i64 ((r14.2.getD ((v16).toNat) z30).f1)), .v (.int .i64 ((r14.2.getD ((v16).toNat) z30).f2)), .v (.int .i64 ((r14.2.getD ((v16).toNat) z30).f3)), .v (.bool ((r14.2.getD ((v16).toNat) z30).f4)), .v (.bool ((r14.2.getD ((v16).toNat) z30).f5))]))], some 65, false⟩, ⟨[], [11], [(66, .whole 11 none 6 ((r14.2.map eE).length))], some 66, false⟩, ⟨[], [13], [(67, .u (.c (.v (.int .i64 v19))))], some 67, false⟩, ⟨[4, 5], [11, 66, 67], [(68, .addr 11 (.i ((v19).toNat) 6) [] 0)], some 68, false⟩, ⟨[4, 5, 6], [11, 68], [(69, .u (.agg [.v (.int .i64 ((r14.2.getD ((v19).toNat) z30).f0)), .v (.int .i64 ((r14.2.getD ((v19).toNat) z30).f1)), .v (.int .i64 ((r14.2.getD ((v19).toNat) z30).f2)), .v (.int .i64 ((r14.2.getD ((v19).toNat) z30).f3)), .v (.bool ((r14.2.getD ((v19).toNat) z30).f4)), .v (.bool ((r14.2.getD ((v19).toNat) z30).f5))]))], some 69, false⟩, ⟨[0, 1, 2, 3, 4, 5, 6, 7], [65, 69], [(70, .u (.c (.v (.bool r23))))], some 70, false⟩, ⟨[0, 1, 2, 3, 4, 5, 6, 7, 8], [70], [(14, .u (.c (.v (.bool r23))))], some 14, false⟩] hm (by kernel_rfl) (by kernel_rfl) (by kernel_rfl) (.cons (fun σ hc => e_g (d := 62) (t := .whole 11 none 6 ((r14.2.map eE).length)) hc rfl rfl (by kernel_rfl)) (.cons (fun σ hc => e_g (d := 63) (t := .u (.c (.v (.int .i64 v16)))) hc rfl rfl (by kernel_rfl)) (.cons (fun σ hc => e_put hc rfl rfl (os_plain rfl rfl (s_indexV (r := 11) (lo := 0) (n := (r14.2.map eE).length) (pl := none) (sz := 6) (e := v16) (ik := .i64) (k := (v16).toNat) rfl sl22 (by kernel_rfl) (.tmp (by kernel_rfl)) hg21.1 (by rw [List.length_map]; exact hg21.2) (Nat.zero_add _) rfl (by kernel_rfl) (by kernel_rfl)))) (.cons (fun σ hc => e_put hc rfl rfl (os_plain rfl rfl (s_loadA (n := 6) (xs := [.v (.int .i64 ((r14.2.getD ((v16).toNat) z30).f0)), .v (.int .i64 ((r14.2.getD ((v16).toNat) z30).f1)), .v (.int .i64 ((r14.2.getD ((v16).toNat) z30).f2)), .v (.int .i64 ((r14.2.getD ((v16).toNat) z30).f3)), .v (.bool ((r14.2.getD ((v16).toNat) z30).f4)), .v (.bool ((r14.2.getD ((v16).toNat) z30).f5))]) (r := 11) (off := 0) (s := .i ((v16).toNat) 6) (p := []) (c := .sl true 6 (r14.2.map eE)) (cs := eE (r14.2.getD ((v16).toNat) z30)) rfl (aggB_ok (by kernel_rfl)) (by kernel_rfl) (by kernel_rfl) (getP_map z30 (by have := hg21; omega)) rfl rfl rfl rfl (by kernel_rfl)))) (.cons (fun σ hc => e_g (d := 66) (t := .whole 11 none 6 ((r14.2.map eE).length)) hc rfl rfl (by kernel_rfl)) (.cons (fun σ hc => e_g (d := 67) (t := .u (.c (.v (.int .i64 v19)))) hc rfl rfl (by kernel_rfl)) (.cons (fun σ hc => e_put hc rfl rfl (os_plain rfl rfl (s_indexV (r := 11) (lo := 0) (n := (r14.2.map eE).length) (pl := none) (sz := 6) (e := v19) (ik := .i64) (k := (v19).toNat) rfl sl22 (by kernel_rfl) (.tmp (by kernel_rfl)) hg22.1 (by rw [List.length_map]; exact hg22.2) (Nat.zero_add _) rfl (by kernel_rfl) (by kernel_rfl)))) (.cons (fun σ hc => e_put hc rfl rfl (os_plain rfl rfl (s_loadA (n := 6) (xs := [.v (.int .i64 ((r14.2.getD ((v19).toNat) z30).f0)), .v (.int .i64 ((r14.2.getD ((v19).toNat) z30).f1)), .v (.int .i64 ((r14.2.getD ((v19).toNat) z30).f2)), .v (.int .i64 ((r14.2.getD ((v19).toNat) z30).f3)), .v (.bool ((r14.2.getD ((v19).toNat) z30).f4)), .v (.bool ((r14.2.getD ((v19).toNat) z30).f5))]) (r := 11) (off := 0) (s := .i ((v19).toNat) 6) (p := []) (c := .sl true 6 (r14.2.map eE)) (cs := eE (r14.2.getD ((v19).toNat) z30)) rfl (aggB_ok (by kernel_rfl)) (by kernel_rfl) (by kernel_rfl) (getP_map z30 (by have := hg22; omega)) rfl rfl rfl rfl (by kernel_rfl)))) (.cons (fun σ hc => e_put hc rfl rfl (os_plain rfl rfl (c_callQ (res := [.c (.v (.bool r23))]) (tlb_Clash.ac (h := hr23)) ⟨_, Try.func13, rfl, by kernel_rfl⟩ rfl (.cons (.copy (by kernel_rfl) rfl) (.cons (.copy (by kernel_rfl) rfl) (.nil))) (by kernel_rfl)))) (.cons (fun σ hc => e_g (d := 14) (t := .u (.c (.v (.bool r23)))) hc rfl rfl (by kernel_rfl)) (.nil))))))))))) (by kernel_rfl) ?_
            refine r_seq ?_
            refine r_reg (l := [(1, .u (.c (.v (.int .i64 a1)))), (2, .u (.c (.v (.int .i64 a2)))), (7, .u (.c (.v (.bool r1)))), (8, .u (.c (bufC v18))), (9, .u (.c (.v (.bool v4)))), (11, .u (.c (.sl true 6 (r14.2.map eE)))), (12, .u (.c (.v (.int .i64 v16)))), (13, .u (.c (.v (.int .i64 v19)))), (71, .u (.c (.v (.bool r23))))]) (cg_then (ds := [71]) 1 rfl (by kernel_rfl) (.nil)) rfl (by kernel_rfl) ?_
            rcases Bool.eq_false_or_eq_true (r23) with hb | hb
            · have h := cond_t hb h
              refine r_condT hb rfl ?_
              refine r_seq ?_
              refine r_reg (l := [(6, .u (.c (.v (.bool false))))]) (cg_then (ds := [6]) 1 rfl (by kernel_rfl) (.nil)) rfl (by kernel_rfl) ?_
              obtain rfl := Option.some.inj h
              have h : Option.some _ = Option.some r := h_y20
              refine r_ret ?_
              obtain rfl := Option.some.inj h
              exact ⟨.inr rfl, _, _, .cons (.copy rfl rfl rfl) (.nil), rfl, outs_of trivial⟩
            · have h := cond_f hb h
              refine r_condF hb rfl ?_
              refine r_skip ?_
              refine r_reg (l := [(1, .u (.c (.v (.int .i64 a1)))), (2, .u (.c (.v (.int .i64 a2)))), (7, .u (.c (.v (.bool r1)))), (8, .u (.c (bufC v18))), (9, .u (.c (.v (.bool v4)))), (11, .u (.c (.sl true 6 (r14.2.map eE)))), (12, .u (.c (.v (.int .i64 v16)))), (13, .u (.c (.v (.int .i64 (IntKind.i64.wrap (v19 + 1))))))]) (cg_then (ds := [60, 61, 13]) 3 rfl (by kernel_rfl) (.nil)) rfl (by kernel_rfl) ?_
              exact ⟨(v18, IntKind.i64.wrap (v19 + 1)), h, of_weak (by kernel_rfl)⟩
          · have h := cond_f hb h
            refine r_condF hb rfl ?_
            refine r_weak (of_weak (l := [(1, .u (.c (.v (.int .i64 a1)))), (2, .u (.c (.v (.int .i64 a2)))), (7, .u (.c (.v (.bool r1)))), (8, .u (.c (bufC v18))), (9, .u (.c (.v (.bool v4)))), (11, .u (.c (.sl true 6 (r14.2.map eE)))), (12, .u (.c (.v (.int .i64 v16))))]) (by kernel_rfl)) ?_
            obtain rfl := Option.some.inj h
            obtain ⟨y20v, hhy20v, h⟩ := elim_inl h_y20
            try dsimp only at h
            refine run_cast (α := Buf × Int) (fun x => [(1, .u (.c (.v (.int .i64 a1)))), (2, .u (.c (.v (.int .i64 a2)))), (7, .u (.c (.v (.bool r1)))), (8, .u (.c (bufC x.1))), (9, .u (.c (.v (.bool v4)))), (11, .u (.c (.sl true 6 (r14.2.map eE)))), (12, .u (.c (.v (.int .i64 v16))))]) (x := (v18, v19)) (y := y20v) hhy20v ?_
            refine r_exit ?_
            refine r_reg (l := [(1, .u (.c (.v (.int .i64 a1)))), (2, .u (.c (.v (.int .i64 a2)))), (7, .u (.c (.v (.bool r1)))), (8, .u (.c (bufC y20v.1))), (9, .u (.c (.v (.bool v4)))), (11, .u (.c (.sl true 6 (r14.2.map eE)))), (12, .u (.c (.v (.int .i64 (IntKind.i64.wrap (v16 + 1))))))]) (cg_then (ds := [55, 56, 12]) 3 rfl (by kernel_rfl) (.nil)) rfl (by kernel_rfl) ?_
            exact ⟨(y20v.1, IntKind.i64.wrap (v16 + 1)), h, of_weak (by kernel_rfl)⟩
        · have h := cond_f hb h
          refine r_condF hb rfl ?_
          refine r_exit ?_
          refine r_seq ?_
          obtain ⟨r24, hr24, h⟩ := bind_some h
          refine r_reg (l := [(1, .u (.c (.v (.int .i64 a1)))), (2, .u (.c (.v (.int .i64 a2)))), (7, .u (.c (.v (.bool r1)))), (8, .u (.c (bufC r24))), (9, .u (.c (.v (.bool v4))))]) (cg_then (ds := [72, 73, 74]) 3 rfl (by kernel_rfl) (co_then 4 rfl (os_plain rfl rfl (c_call (Page.ac (h := hr24)) ⟨_, Try.func14, rfl, by kernel_rfl⟩ rfl (hand_root (r := 8) (c := bufC v15) (by kernel_rfl) (by kernel_rfl) rfl (.rd (.copy (by kernel_rfl) rfl) (.rd (.copy (by kernel_rfl) rfl) (.nil)))) rfl (by kernel_rfl))) (.nil))) rfl (by kernel_rfl) ?_
          refine r_seq ?_
          obtain ⟨r25, hr25, h⟩ := bind_some h
          refine r_reg (l := [(7, .u (.c (.v (.bool r1)))), (8, .u (.c (bufC r25.1))), (9, .u (.c (.v (.bool v4)))), (16, .u (.c (.v (.bool r25.2.2))))]) (cg_then (ds := [77, 78, 79]) 3 rfl (by kernel_rfl) (co_then 4 rfl (os_plain rfl rfl (c_call (Find.ac (h := hr25)) ⟨_, Try.func15, rfl, by kernel_rfl⟩ rfl (hand_root (r := 8) (c := bufC r24) (by kernel_rfl) (by kernel_rfl) rfl (.rd (.copy (by kernel_rfl) rfl) (.rd (.copy (by kernel_rfl) rfl) (.nil)))) rfl (by kernel_rfl))) (co_then 5 rfl (os_plain rfl rfl (s_moveT (us := [.agg [.v (.int .i64 r25.2.1.f0), .v (.int .i64 r25.2.1.f1), .v (.int .i64 r25.2.1.f2), .v (.int .i64 r25.2.1.f3), .v (.bool r25.2.1.f4), .v (.bool r25.2.1.f5)], .c (.v (.bool r25.2.2))]) (.inl rfl) (by kernel_rfl) rfl (by kernel_rfl))) (cg_then (ds := [81, 82]) 7 rfl (by kernel_rfl) (co_then 8 rfl (os_plain rfl rfl (s_alloc rfl zero30 rfl (by kernel_rfl))) (co_then 9 rfl (os_plain rfl rfl (s_storeS (n := 6) (r := 15) (off := 0) (s := .d) (p := []) (c := .pt true [.v (.int .i64 0), .v (.int .i64 0), .v (.int .i64 0), .v (.int .i64 0), .v (.bool false), .v (.bool false)]) (cs := [.v (.int .i64 0), .v (.int .i64 0), .v (.int .i64 0), .v (.int .i64 0), .v (.bool false), .v (.bool false)]) (u := .agg [.v (.int .i64 r25.2.1.f0), .v (.int .i64 r25.2.1.f1), .v (.int .i64 r25.2.1.f2), .v (.int .i64 r25.2.1.f3), .v (.bool r25.2.1.f4), .v (.bool r25.2.1.f5)]) rfl (by kernel_rfl) (by kernel_rfl) (by kernel_rfl) rfl (by kernel_rfl) rfl rfl rfl rfl (Nat.le_of_ble_eq_true rfl) (by kernel_rfl) (by kernel_rfl) rfl rfl)) (cg_then (ds := [16]) 10 rfl (by kernel_rfl) (.nil)))))))) rfl (by kernel_rfl) ?_
          refine r_seq ?_
          rcases Bool.eq_false_or_eq_true (r1) with hb | hb
          · have h := cond_t hb h
            have hs26 := hb
            rcases Bool.eq_false_or_eq_true (!r25.2.2) with hb | hb
            · have h := cond_t hb h
              have hs27 := hb
              obtain ⟨r28, hr28, h⟩ := bind_some h
              refine r_reg (l := [(6, .u (.c (.v (.bool (r28.2 == v4)))))]) (cg_then (ds := [83]) 1 rfl (by kernel_rfl) (co_then 2 rfl (os_ge (d := 84) (t := .u (.c (.v (.bool r1)))) (t' := .u (.c (.v (.bool true)))) (by kernel_rfl) (by rw [hs26])) (cg_then (ds := [85, 86, 87]) 5 rfl (by kernel_rfl) (co_then 6 rfl (os_ge (d := 88) (t := .u (.c (.v (.bool (!r25.2.2))))) (t' := .u (.c (.v (.bool true)))) (by kernel_rfl) (by rw [hs27])) (co_then 7 rfl (os_gy rfl rfl rfl (by kernel_rfl) (s_take (u := .c (bufC r25.1)) (.inl rfl) (.move (by kernel_rfl) rfl) rfl (by kernel_rfl))) (co_then 8 rfl (os_gy rfl rfl rfl (by kernel_rfl) (c_call (Broken.ac (h := hr28)) ⟨_, Try.func12, rfl, by kernel_rfl⟩ rfl (hand_root (r := 89) (c := bufC r25.1) (by kernel_rfl) (by kernel_rfl) rfl (.nil)) rfl (by kernel_rfl))) (cg_then (ds := [91, 92, 93, 6]) 12 rfl (by kernel_rfl) (.nil)))))))) rfl (by kernel_rfl) ?_
              refine r_ret ?_
              obtain rfl := Option.some.inj h
              exact ⟨.inr rfl, _, _, .cons (.copy rfl rfl rfl) (.nil), rfl, outs_of trivial⟩
            · have h := cond_f hb h
              have hs29 := hb
              refine r_reg (l := [(6, .u (.c (.v (.bool false))))]) (cg_then (ds := [83]) 1 rfl (by kernel_rfl) (co_then 2 rfl (os_ge (d := 84) (t := .u (.c (.v (.bool r1)))) (t' := .u (.c (.v (.bool true)))) (by kernel_rfl) (by rw [hs26])) (cg_then (ds := [85, 86, 87]) 5 rfl (by kernel_rfl) (co_then 6 rfl (os_ge (d := 88) (t := .u (.c (.v (.bool (!r25.2.2))))) (t' := .u (.c (.v (.bool false)))) (by kernel_rfl) (by rw [hs29])) (cg_then (ds := [89, 90, 91, 92, 93, 6]) 12 rfl (by kernel_rfl) (.nil)))))) rfl (by kernel_rfl) ?_
              refine r_ret ?_
              obtain rfl := Option.some.inj h
              exact ⟨.inr rfl, _, _, .cons (.copy rfl rfl rfl) (.nil), rfl, outs_of trivial⟩
          · have h := cond_f hb h
            have hs30 := hb
            refine r_reg (l := [(6, .u (.c (.v (.bool false))))]) (cg_then (ds := [83]) 1 rfl (by kernel_rfl) (co_then 2 rfl (os_ge (d := 84) (t := .u (.c (.v (.bool r1)))) (t' := .u (.c (.v (.bool false)))) (by kernel_rfl) (by rw [hs30])) (cg_then (ds := [85, 86, 87, 88, 89, 90, 91, 92, 93, 6]) 12 rfl (by kernel_rfl) (.nil)))) rfl (by kernel_rfl) ?_
            refine r_ret ?_
            obtain rfl := Option.some.inj h
            exact ⟨.inr rfl, _, _, .cons (.copy rfl rfl rfl) (.nil), rfl, outs_of trivial⟩
      · have h := cond_f hb h
        have hs31 := hb
        refine r_reg (l := [(1, .u (.c (.v (.int .i64 a1)))), (2, .u (.c (.v (.int .i64 a2)))), (7, .u (.c (.v (.bool r1)))), (8, .u (.c (bufC v15))), (9, .u (.c (.v (.bool v4)))), (11, .u (.c (.sl true 6 (r14.2.map eE)))), (12, .u (.c (.v (.int .i64 v16)))), (54, .u (.c (.v (.bool false))))]) (cg_then (ds := [47, 48]) 2 rfl (by kernel_rfl) (co_then 3 rfl (os_to (os_plain rfl rfl (s_lenV (r := 11) (lo := 0) (n := (r14.2.map eE).length) (pl := none) (sz := 6) rfl sl22 (by kernel_rfl) rfl (by kernel_rfl))) (t' := .u (.c (.v (.int .i64 (r14.2.length : Int))))) (by rw [List.length_map])) (cg_then (ds := [50]) 4 rfl (by kernel_rfl) (co_then 5 rfl (os_ge (d := 51) (t := .u (.c (.v (.bool (decide (v16 < (r14.2.length : Int))))))) (t' := .u (.c (.v (.bool false)))) (by kernel_rfl) (by rw [hs31])) (cg_then (ds := [52, 53, 54]) 8 rfl (by kernel_rfl) (.nil)))))) rfl (by kernel_rfl) ?_
        refine r_condF rfl rfl ?_
        refine r_exit ?_
        refine r_seq ?_
        obtain ⟨r32, hr32, h⟩ := bind_some h
        refine r_reg (l := [(1, .u (.c (.v (.int .i64 a1)))), (2, .u (.c (.v (.int .i64 a2)))), (7, .u (.c (.v (.bool r1)))), (8, .u (.c (bufC r32))), (9, .u (.c (.v (.bool v4))))]) (cg_then (ds := [72, 73, 74]) 3 rfl (by kernel_rfl) (co_then 4 rfl (os_plain rfl rfl (c_call (Page.ac (h := hr32)) ⟨_, Try.func14, rfl, by kernel_rfl⟩ rfl (hand_root (r := 8) (c := bufC v15) (by kernel_rfl) (by kernel_rfl) rfl (.rd (.copy (by kernel_rfl) rfl) (.rd (.copy (by kernel_rfl) rfl) (.nil)))) rfl (by kernel_rfl))) (.nil))) rfl (by kernel_rfl) ?_
        refine r_seq ?_
        obtain ⟨r33, hr33, h⟩ := bind_some h
        refine r_reg (l := [(7, .u (.c (.v (.bool r1)))), (8, .u (.c (bufC r33.1))), (9, .u (.c (.v (.bool v4)))), (16, .u (.c (.v (.bool r33.2.2))))]) (cg_then (ds := [77, 78, 79]) 3 rfl (by kernel_rfl) (co_then 4 rfl (os_plain rfl rfl (c_call (Find.ac (h := hr33)) ⟨_, Try.func15, rfl, by kernel_rfl⟩ rfl (hand_root (r := 8) (c := bufC r32) (by kernel_rfl) (by kernel_rfl) rfl (.rd (.copy (by kernel_rfl) rfl) (.rd (.copy (by kernel_rfl) rfl) (.nil)))) rfl (by kernel_rfl))) (co_then 5 rfl (os_plain rfl rfl (s_moveT (us := [.agg [.v (.int .i64 r33.2.1.f0), .v (.int .i64 r33.2.1.f1), .v (.int .i64 r33.2.1.f2), .v (.int .i64 r33.2.1.f3), .v (.bool r33.2.1.f4), .v (.bool r33.2.1.f5)], .c (.v (.bool r33.2.2))]) (.inl rfl) (by kernel_rfl) rfl (by kernel_rfl))) (cg_then (ds := [81, 82]) 7 rfl (by kernel_rfl) (co_then 8 rfl (os_plain rfl rfl (s_alloc rfl zero30 rfl (by kernel_rfl))) (co_then 9 rfl (os_plain rfl rfl (s_storeS (n := 6) (r := 15) (off := 0) (s := .d) (p := []) (c := .pt true [.v (.int .i64 0), .v (.int .i64 0), .v (.int .i64 0), .v (.int .i64 0), .v (.bool false), .v (.bool false)]) (cs := [.v (.int .i64 0), .v (.int .i64 0), .v (.int .i64 0), .v (.int .i64 0), .v (.bool false), .v (.bool false)]) (u := .agg [.v (.int .i64 r33.2.1.f0), .v (.int .i64 r33.2.1.f1), .v (.int .i64 r33.2.1.f2), .v (.int .i64 r33.2.1.f3), .v (.bool r33.2.1.f4), .v (.bool r33.2.1.f5)]) rfl (by kernel_rfl) (by kernel_rfl) (by kernel_rfl) rfl (by kernel_rfl) rfl rfl rfl rfl (Nat.le_of_ble_eq_true rfl) (by kernel_rfl) (by kernel_rfl) rfl rfl)) (cg_then (ds := [16]) 10 rfl (by kernel_rfl) (.nil)))))))) rfl (by kernel_rfl) ?_
        refine r_seq ?_
        rcases Bool.eq_false_or_eq_true (r1) with hb | hb
        · have h := cond_t hb h
          have hs34 := hb
          rcases Bool.eq_false_or_eq_true (!r33.2.2) with hb | hb
          · have h := cond_t hb h
            have hs35 := hb
            obtain ⟨r36, hr36, h⟩ := bind_some h
            refine r_reg (l := [(6, .u (.c (.v (.bool (r36.2 == v4)))))]) (cg_then (ds := [83]) 1 rfl (by kernel_rfl) (co_then 2 rfl (os_ge (d := 84) (t := .u (.c (.v (.bool r1)))) (t' := .u (.c (.v (.bool true)))) (by kernel_rfl) (by rw [hs34])) (cg_then (ds := [85, 86, 87]) 5 rfl (by kernel_rfl) (co_then 6 rfl (os_ge (d := 88) (t := .u (.c (.v (.bool (!r33.2.2))))) (t' := .u (.c (.v (.bool true)))) (by kernel_rfl) (by rw [hs35])) (co_then 7 rfl (os_gy rfl rfl rfl (by kernel_rfl) (s_take (u := .c (bufC r33.1)) (.inl rfl) (.move (by kernel_rfl) rfl) rfl (by kernel_rfl))) (co_then 8 rfl (os_gy rfl rfl rfl (by kernel_rfl) (c_call (Broken.ac (h := hr36)) ⟨_, Try.func12, rfl, by kernel_rfl⟩ rfl (hand_root (r := 89) (c := bufC r33.1) (by kernel_rfl) (by kernel_rfl) rfl (.nil)) rfl (by kernel_rfl))) (cg_then (ds := [91, 92, 93, 6]) 12 rfl (by kernel_rfl) (.nil)))))))) rfl (by kernel_rfl) ?_
            refine r_ret ?_
            obtain rfl := Option.some.inj h
            exact ⟨.inr rfl, _, _, .cons (.copy rfl rfl rfl) (.nil), rfl, outs_of trivial⟩
          · have h := cond_f hb h
            have hs37 := hb
            refine r_reg (l := [(6, .u (.c (.v (.bool false))))]) (cg_then (ds := [83]) 1 rfl (by kernel_rfl) (co_then 2 rfl (os_ge (d := 84) (t := .u (.c (.v (.bool r1)))) (t' := .u (.c (.v (.bool true)))) (by kernel_rfl) (by rw [hs34])) (cg_then (ds := [85, 86, 87]) 5 rfl (by kernel_rfl) (co_then 6 rfl (os_ge (d := 88) (t := .u (.c (.v (.bool (!r33.2.2))))) (t' := .u (.c (.v (.bool false)))) (by kernel_rfl) (by rw [hs37])) (cg_then (ds := [89, 90, 91, 92, 93, 6]) 12 rfl (by kernel_rfl) (.nil)))))) rfl (by kernel_rfl) ?_
            refine r_ret ?_
            obtain rfl := Option.some.inj h
            exact ⟨.inr rfl, _, _, .cons (.copy rfl rfl rfl) (.nil), rfl, outs_of trivial⟩
        · have h := cond_f hb h
          have hs38 := hb
          refine r_reg (l := [(6, .u (.c (.v (.bool false))))]) (cg_then (ds := [83]) 1 rfl (by kernel_rfl) (co_then 2 rfl (os_ge (d := 84) (t := .u (.c (.v (.bool r1)))) (t' := .u (.c (.v (.bool false)))) (by kernel_rfl) (by rw [hs38])) (cg_then (ds := [85, 86, 87, 88, 89, 90, 91, 92, 93, 6]) 12 rfl (by kernel_rfl) (.nil)))) rfl (by kernel_rfl) ?_
          refine r_ret ?_
          obtain rfl := Option.some.inj h
          exact ⟨.inr rfl, _, _, .cons (.copy rfl rfl rfl) (.nil), rfl, outs_of trivial⟩
  · have h := cond_f hb h
    have hs39 := hb
    refine r_reg (l := [(0, .u (.c (.sl false 6 (a0.map eE)))), (1, .u (.c (.v (.int .i64 a1)))), (2, .u (.c (.v (.int .i64 a2)))), (7, .u (.c (.v (.bool r1)))), (8, .u (.c (bufC v3))), (9, .u (.c (.v (.bool v4)))), (10, .u (.c (.v (.int .i64 v5)))), (28, .u (.c (.v (.bool false))))]) (cg_then (ds := [21, 22]) 2 rfl (by kernel_rfl) (co_then 3 rfl (os_to (os_plain rfl rfl (s_lenU (own := false) (sz := 6) (rows := (a0.map eE)) rfl sl22 (by kernel_rfl) rfl (by kernel_rfl))) (t' := .u (.c (.v (.int .i64 (a0.length : Int))))) (by rw [List.length_map])) (cg_then (ds := [24]) 4 rfl (by kernel_rfl) (co_then 5 rfl (os_ge (d := 25) (t := .u (.c (.v (.bool (decide (v5 < (a0.length : Int))))))) (t' := .u (.c (.v (.bool false)))) (by kernel_rfl) (by rw [hs39])) (cg_then (ds := [26, 27, 28]) 8 rfl (by kernel_rfl) (.nil)))))) rfl (by kernel_rfl) ?_
    refine r_condF rfl rfl ?_
    refine r_exit ?_
    refine r_seq ?_
    obtain ⟨r40, hr40, h⟩ := bind_some h
    refine r_reg (l := [(1, .u (.c (.v (.int .i64 a1)))), (2, .u (.c (.v (.int .i64 a2)))), (7, .u (.c (.v (.bool r1)))), (8, .u (.c (bufC r40.1))), (9, .u (.c (.v (.bool v4)))), (11, .u (.c (.sl true 6 (r40.2.map eE))))]) (cg_then (ds := [45]) 1 rfl (by kernel_rfl) (co_then 2 rfl (os_plain rfl rfl (c_call (Entries.ac (h := hr40)) ⟨_, Try.func9, rfl, by kernel_rfl⟩ rfl (hand_root (r := 8) (c := bufC v3) (by kernel_rfl) (by kernel_rfl) rfl (.nil)) rfl (by kernel_rfl))) (co_then 3 rfl (os_plain rfl rfl (s_take (u := .c (.sl true 6 (r40.2.map eE))) (.inr rfl) (.move (by kernel_rfl) rfl) rfl (by kernel_rfl))) (.nil)))) rfl (by kernel_rfl) ?_
    refine r_seq ?_
    refine r_seq ?_
    refine r_reg (l := [(1, .u (.c (.v (.int .i64 a1)))), (2, .u (.c (.v (.int .i64 a2)))), (7, .u (.c (.v (.bool r1)))), (8, .u (.c (bufC r40.1))), (9, .u (.c (.v (.bool v4)))), (11, .u (.c (.sl true 6 (r40.2.map eE)))), (12, .u (.c (.v (.int .i64 0))))]) (cg_then (ds := [12]) 1 rfl (by kernel_rfl) (.nil)) rfl (by kernel_rfl) ?_
    refine r_block ?_
    refine r_weak (of_weak (l := [(1, .u (.c (.v (.int .i64 a1)))), (2, .u (.c (.v (.int .i64 a2)))), (7, .u (.c (.v (.bool r1)))), (8, .u (.c (bufC r40.1))), (9, .u (.c (.v (.bool v4)))), (11, .u (.c (.sl true 6 (r40.2.map eE)))), (12, .u (.c (.v (.int .i64 0))))]) (by kernel_rfl)) ?_
    refine r_loopI (α := Buf × Int) (fun x => [(1, .u (.c (.v (.int .i64 a1)))), (2, .u (.c (.v (.int .i64 a2)))), (7, .u (.c (.v (.bool r1)))), (8, .u (.c (bufC x.1))), (9, .u (.c (.v (.bool v4)))), (11, .u (.c (.sl true 6 (r40.2.map eE)))), (12, .u (.c (.v (.int .i64 x.2))))]) (fun n x => TlbOne.l4 k a0 a1 a2 r1 r2 v3 v4 v5 r40 n x.1 x.2 = some r) k (r40.1, 0) h (by intro x h; unfold TlbOne.l4 at h; cases h) ?_
    rintro n4 ⟨v41, v42⟩ h
    replace h : TlbOne.l4 k a0 a1 a2 r1 r2 v3 v4 v5 r40 (n4 + 1) v41 v42 = some r := h
    unfold TlbOne.l4 at h
    show Run _ _ _ (St.of [(1, .u (.c (.v (.int .i64 a1)))), (2, .u (.c (.v (.int .i64 a2)))), (7, .u (.c (.v (.bool r1)))), (8, .u (.c (bufC v41))), (9, .u (.c (.v (.bool v4)))), (11, .u (.c (.sl true 6 (r40.2.map eE)))), (12, .u (.c (.v (.int .i64 v42))))]) _
    refine r_seq ?_
    refine r_seq ?_
    rcases Bool.eq_false_or_eq_true (decide (v42 < (r40.2.length : Int))) with hb | hb
    · have h := cond_t hb h
      have hs43 := hb
      refine r_reg (l := [(1, .u (.c (.v (.int .i64 a1)))), (2, .u (.c (.v (.int .i64 a2)))), (7, .u (.c (.v (.bool r1)))), (8, .u (.c (bufC v41))), (9, .u (.c (.v (.bool v4)))), (11, .u (.c (.sl true 6 (r40.2.map eE)))), (12, .u (.c (.v (.int .i64 v42)))), (54, .u (.c (.v (.bool (!v4)))))]) (cg_then (ds := [47, 48]) 2 rfl (by kernel_rfl) (co_then 3 rfl (os_to (os_plain rfl rfl (s_lenV (r := 11) (lo := 0) (n := (r40.2.map eE).length) (pl := none) (sz := 6) rfl sl22 (by kernel_rfl) rfl (by kernel_rfl))) (t' := .u (.c (.v (.int .i64 (r40.2.length : Int))))) (by rw [List.length_map])) (cg_then (ds := [50]) 4 rfl (by kernel_rfl) (co_then 5 rfl (os_ge (d := 51) (t := .u (.c (.v (.bool (decide (v42 < (r40.2.length : Int))))))) (t' := .u (.c (.v (.bool true)))) (by kernel_rfl) (by rw [hs43])) (cg_then (ds := [52, 53, 54]) 8 rfl (by kernel_rfl) (.nil)))))) rfl (by kernel_rfl) ?_
      rcases Bool.eq_false_or_eq_true (!v4) with hb | hb
      · have h := cond_t hb h
        refine r_condT hb rfl ?_
        refine r_skip ?_
        refine r_seq ?_
        refine r_block ?_
        refine r_seq ?_
        refine r_reg (l := [(1, .u (.c (.v (.int .i64 a1)))), (2, .u (.c (.v (.int .i64 a2)))), (7, .u (.c (.v (.bool r1)))), (8, .u (.c (bufC v41))), (9, .u (.c (.v (.bool v4)))), (11, .u (.c (.sl true 6 (r40.2.map eE)))), (12, .u (.c (.v (.int .i64 v42)))), (13, .u (.c (.v (.int .i64 0))))]) (cg_then (ds := [13]) 1 rfl (by kernel_rfl) (.nil)) rfl (by kernel_rfl) ?_
        refine r_block ?_
        refine r_weak (of_weak (l := [(1, .u (.c (.v (.int .i64 a1)))), (2, .u (.c (.v (.int .i64 a2)))), (7, .u (.c (.v (.bool r1)))), (8, .u (.c (bufC v41))), (9, .u (.c (.v (.bool v4)))), (11, .u (.c (.sl true 6 (r40.2.map eE)))), (12, .u (.c (.v (.int .i64 v42)))), (13, .u (.c (.v (.int .i64 0))))]) (by kernel_rfl)) ?_
        obtain ⟨y46, hy46, h_y46⟩ := bind_some h
        refine r_loopI (α := Buf × Int) (fun x => [(1, .u (.c (.v (.int .i64 a1)))), (2, .u (.c (.v (.int .i64 a2)))), (7, .u (.c (.v (.bool r1)))), (8, .u (.c (bufC x.1))), (9, .u (.c (.v (.bool v4)))), (11, .u (.c (.sl true 6 (r40.2.map eE)))), (12, .u (.c (.v (.int .i64 v42)))), (13, .u (.c (.v (.int .i64 x.2))))]) (fun n x => TlbOne.l5 k a0 a1 a2 r1 r2 v3 v4 v5 r40 v41 v42 n x.1 x.2 = some y46) k (v41, 0) hy46 (by intro x h; unfold TlbOne.l5 at h; cases h) ?_
        rintro n5 ⟨v44, v45⟩ h
        replace h : TlbOne.l5 k a0 a1 a2 r1 r2 v3 v4 v5 r40 v41 v42 (n5 + 1) v44 v45 = some y46 := h
        unfold TlbOne.l5 at h
        show Run _ _ _ (St.of [(1, .u (.c (.v (.int .i64 a1)))), (2, .u (.c (.v (.int .i64 a2)))), (7, .u (.c (.v (.bool r1)))), (8, .u (.c (bufC v44))), (9, .u (.c (.v (.bool v4)))), (11, .u (.c (.sl true 6 (r40.2.map eE)))), (12, .u (.c (.v (.int .i64 v42)))), (13, .u (.c (.v (.int .i64 v45))))]) _
        refine r_seq ?_
        refine r_seq ?_
        refine r_reg (l := [(1, .u (.c (.v (.int .i64 a1)))), (2, .u (.c (.v (.int .i64 a2)))), (7, .u (.c (.v (.bool r1)))), (8, .u (.c (bufC v44))), (9, .u (.c (.v (.bool v4)))), (11, .u (.c (.sl true 6 (r40.2.map eE)))), (12, .u (.c (.v (.int .i64 v42)))), (13, .u (.c (.v (.int .i64 v45)))), (59, .u (.c (.v (.bool (decide (v45 < v42))))))]) (cg_then (ds := [57, 58, 59]) 3 rfl (by kernel_rfl) (.nil)) rfl (by kernel_rfl) ?_
        rcases Bool.eq_false_or_eq_true (decide (v45 < v42)) with hb | hb
        · have h := cond_t hb h
          refine r_condT hb rfl ?_
          refine r_skip ?_
          refine r_seq ?_
          refine r_block ?_
          refine r_seq ?_
          obtain ⟨hg47, h⟩ := guard_some h
          simp only [Bool.and_eq_true, decide_eq_true_eq] at hg47
          obtain ⟨hg48, h⟩ := guard_some h
          simp only [Bool.and_eq_true, decide_eq_true_eq] at hg48
          obtain ⟨r49, hr49, h⟩ := bind_some h
          refine r_weak (of_weak (l := [(1, .u (.c (.v (.int .i64 a1)))), (2, .u (.c (.v (.int .i64 a2)))), (7, .u (.c (.v (.bool r1)))), (8, .u (.c (bufC v44))), (9, .u (.c (.v (.bool v4)))), (11, .u (.c (.sl true 6 (r40.2.map eE)))), (12, .u (.c (.v (.int .i64 v42)))), (13, .u (.c (.v (.int .i64 v45)))), (59, .u (.c (.v (.bool (decide (v45 < v42))))))]) (by kernel_rfl)) ?_
          refine r_anyW (l := [(1, .u (.c (.v (.int .i64 a1)))), (2, .u (.c (.v (.int .i64 a2)))), (7, .u (.c (.v (.bool r1)))), (8, .u (.c (bufC v44))), (9, .u (.c (.v (.bool v4)))), (11, .u (.c (.sl true 6 (r40.2.map eE)))), (12, .u (.c (.v (.int .i64 v42)))), (13, .u (.c (.v (.int .i64 v45)))), (14, .u (.c (.v (.bool r49))))]) (tab := [[], [], [0, 1], [2], [], [], [4, 5], [6], [3, 7], [8, 8, 0, 1, 2, 3, 4, 5, 6, 7, 8]]) [⟨[], [11], [(62, .whole 11 none 6 ((r40.2.map eE).length))], some 62, false⟩, ⟨[], [12], [(63, .u (.c (.v (.int .i64 v42))))], some 63, false⟩, ⟨[0, 1], [11, 62, 63], [(64, .addr 11 (.i ((v42).toNat) 6) [] 0)], some 64, false⟩, ⟨[0, 1, 2], [11, 64], [(65, .u (.agg [.v (.int .i64 ((r40.2.getD ((v42).toNat) z30).f0)), .v (.int .i64 ((r40.2.getD ((v42).toNat) z30).f1)), .v (.int .i64 ((r40.2.getD ((v42).toNat) z30).f2)), .v (.int .i64 ((r40.2.getD ((v42).toNat) z30).f3)), .v (.bool ((r40.2.getD ((v42).toNat) z30).f4)), .v (.bool ((r40.2.getD ((v42).toNat) z30).f5))]))], some 65, false⟩, ⟨[], [11], [(66, .whole 11 none 6 ((r40.2.map eE).length))], some 66, false⟩, ⟨[], [13], [(67, .u (.c (.v (.int .i64 v45))))], some 67, false⟩, ⟨[4, 5], [11, 66, 67], [(68, .addr 11 (.i ((v45).toNat) 6) [] 0)], some 68, false⟩, ⟨[4, 5, 6], [11, 68], [(69, .u (.agg [.v (.int .i64 ((r40.2.getD ((v45).toNat) z30).f0)), .v (.int .i64 ((r40.2.getD ((v45).toNat) z30).f1)), .v (.int .i64 ((r40.2.getD ((v45).toNat) z30).f2)), .v (.int .i64 ((r40.2.getD ((v45).toNat) z30).f3)), .v (.bool ((r40.2.getD ((v45).toNat) z30).f4)), .v (.bool ((r40.2.getD ((v45).toNat) z30).f5))]))], some 69, false⟩, ⟨[0, 1, 2, 3, 4, 5, 6, 7], [65, 69], [(70, .u (.c (.v (.bool r49))))], some 70, false⟩, ⟨[0, 1, 2, 3, 4, 5, 6, 7, 8], [70], [(14, .u (.c (.v (.bool r49))))], some 14, false⟩] hm (by kernel_rfl) (by kernel_rfl) (by kernel_rfl) (.cons (fun σ hc => e_g (d := 62) (t := .whole 11 none 6 ((r40.2.map eE).length)) hc rfl rfl (by kernel_rfl)) (.cons (fun σ hc => e_g (d := 63) (t := .u (.c (.v (.int .i64 v42)))) hc rfl rfl (by kernel_rfl)) (.cons (fun σ hc => e_put hc rfl rfl (os_plain rfl rfl (s_indexV (r := 11) (lo := 0) (n := (r40.2.map eE).length) (pl := none) (sz := 6) (e := v42) (ik := .i64) (k := (v42).toNat) rfl sl22 (by kernel_rfl) (.tmp (by kernel_rfl)) hg47.1 (by rw [List.length_map]; exact hg47.2) (Nat.zero_add _) rfl (by kernel_rfl) (by kernel_rfl)))) (.cons (fun σ hc => e_put hc rfl rfl (os_plain rfl rfl (s_loadA (n := 6) (xs := [.v (.int .i64 ((r40.2.getD ((v42).toNat) z30).f0)), .v (.int .i64 ((r40.2.getD ((v42).toNat) z30).f1)), .v (.int .i64 ((r40.2.getD ((v42).toNat) z30).f2)), .v (.int .i64 ((r40.2.getD ((v42).toNat) z30).f3)), .v (.bool ((r40.2.getD ((v42).toNat) z30).f4)), .v (.bool ((r40.2.getD ((v42).toNat) z30).f5))]) (r := 11) (off := 0) (s := .i ((v42).toNat) 6) (p := []) (c := .sl true 6 (r40.2.map eE)) (cs := eE (r40.2.getD ((v42).toNat) z30)) rfl (aggB_ok (by kernel_rfl)) (by kernel_rfl) (by kernel_rfl) (getP_map z30 (by have := hg47; omega)) rfl rfl rfl rfl (by kernel_rfl)))) (.cons (fun σ hc => e_g (d := 66) (t := .whole 11 none 6 ((r40.2.map eE).length)) hc rfl rfl (by kernel_rfl)) (.cons (fun σ hc => e_g (d := 67) (t := .u (.c (.v (.int .i64 v45)))) hc rfl rfl (by kernel_rfl)) (.cons (fun σ hc => e_put hc rfl rfl (os_plain rfl rfl (s_indexV (r := 11) (lo := 0) (n := (r40.2.map eE).length) (pl := none) (sz := 6) (e := v45) (ik := .i64) (k := (v45).toNat) rfl sl22 (by kernel_rfl) (.tmp (by kernel_rfl)) hg48.1 (by rw [List.length_map]; exact hg48.2) (Nat.zero_add _) rfl (by kernel_rfl) (by kernel_rfl)))) (.cons (fun σ hc => e_put hc rfl rfl (os_plain rfl rfl (s_loadA (n := 6) (xs := [.v (.int .i64 ((r40.2.getD ((v45).toNat) z30).f0)), .v (.int .i64 ((r40.2.getD ((v45).toNat) z30).f1)), .v (.int .i64 ((r40.2.getD ((v45).toNat) z30).f2)), .v (.int .i64 ((r40.2.getD ((v45).toNat) z30).f3)), .v (.bool ((r40.2.getD ((v45).toNat) z30).f4)), .v (.bool ((r40.2.getD ((v45).toNat) z30).f5))]) (r := 11) (off := 0) (s := .i ((v45).toNat) 6) (p := []) (c := .sl true 6 (r40.2.map eE)) (cs := eE (r40.2.getD ((v45).toNat) z30)) rfl (aggB_ok (by kernel_rfl)) (by kernel_rfl) (by kernel_rfl) (getP_map z30 (by have := hg48; omega)) rfl rfl rfl rfl (by kernel_rfl)))) (.cons (fun σ hc => e_put hc rfl rfl (os_plain rfl rfl (c_callQ (res := [.c (.v (.bool r49))]) (tlb_Clash.ac (h := hr49)) ⟨_, Try.func13, rfl, by kernel_rfl⟩ rfl (.cons (.copy (by kernel_rfl) rfl) (.cons (.copy (by kernel_rfl) rfl) (.nil))) (by kernel_rfl)))) (.cons (fun σ hc => e_g (d := 14) (t := .u (.c (.v (.bool r49)))) hc rfl rfl (by kernel_rfl)) (.nil))))))))))) (by kernel_rfl) ?_
          refine r_seq ?_
          refine r_reg (l := [(1, .u (.c (.v (.int .i64 a1)))), (2, .u (.c (.v (.int .i64 a2)))), (7, .u (.c (.v (.bool r1)))), (8, .u (.c (bufC v44))), (9, .u (.c (.v (.bool v4)))), (11, .u (.c (.sl true 6 (r40.2.map eE)))), (12, .u (.c (.v (.int .i64 v42)))), (13, .u (.c (.v (.int .i64 v45)))), (71, .u (.c (.v (.bool r49))))]) (cg_then (ds := [71]) 1 rfl (by kernel_rfl) (.nil)) rfl (by kernel_rfl) ?_
          rcases Bool.eq_false_or_eq_true (r49) with hb | hb
          · have h := cond_t hb h
            refine r_condT hb rfl ?_
            refine r_seq ?_
            refine r_reg (l := [(6, .u (.c (.v (.bool false))))]) (cg_then (ds := [6]) 1 rfl (by kernel_rfl) (.nil)) rfl (by kernel_rfl) ?_
            obtain rfl := Option.some.inj h
            have h : Option.some _ = Option.some r := h_y46
            refine r_ret ?_
            obtain rfl := Option.some.inj h
            exact ⟨.inr rfl, _, _, .cons (.copy rfl rfl rfl) (.nil), rfl, outs_of trivial⟩
          · have h := cond_f hb h
            refine r_condF hb rfl ?_
            refine r_skip ?_
            refine r_reg (l := [(1, .u (.c (.v (.int .i64 a1)))), (2, .u (.c (.v (.int .i64 a2)))), (7, .u (.c (.v (.bool r1)))), (8, .u (.c (bufC v44))), (9, .u (.c (.v (.bool v4)))), (11, .u (.c (.sl true 6 (r40.2.map eE)))), (12, .u (.c (.v (.int .i64 v42)))), (13, .u (.c (.v (.int .i64 (IntKind.i64.wrap (v45 + 1))))))]) (cg_then (ds := [60, 61, 13]) 3 rfl (by kernel_rfl) (.nil)) rfl (by kernel_rfl) ?_
            exact ⟨(v44, IntKind.i64.wrap (v45 + 1)), h, of_weak (by kernel_rfl)⟩
        · have h := cond_f hb h
          refine r_condF hb rfl ?_
          refine r_weak (of_weak (l := [(1, .u (.c (.v (.int .i64 a1)))), (2, .u (.c (.v (.int .i64 a2)))), (7, .u (.c (.v (.bool r1)))), (8, .u (.c (bufC v44))), (9, .u (.c (.v (.bool v4)))), (11, .u (.c (.sl true 6 (r40.2.map eE)))), (12, .u (.c (.v (.int .i64 v42))))]) (by kernel_rfl)) ?_
          obtain rfl := Option.some.inj h
          obtain ⟨y46v, hhy46v, h⟩ := elim_inl h_y46
          try dsimp only at h
          refine run_cast (α := Buf × Int) (fun x => [(1, .u (.c (.v (.int .i64 a1)))), (2, .u (.c (.v (.int .i64 a2)))), (7, .u (.c (.v (.bool r1)))), (8, .u (.c (bufC x.1))), (9, .u (.c (.v (.bool v4)))), (11, .u (.c (.sl true 6 (r40.2.map eE)))), (12, .u (.c (.v (.int .i64 v42))))]) (x := (v44, v45)) (y := y46v) hhy46v ?_
          refine r_exit ?_
          refine r_reg (l := [(1, .u (.c (.v (.int .i64 a1)))), (2, .u (.c (.v (.int .i64 a2)))), (7, .u (.c (.v (.bool r1)))), (8, .u (.c (bufC y46v.1))), (9, .u (.c (.v (.bool v4)))), (11, .u (.c (.sl true 6 (r40.2.map eE)))), (12, .u (.c (.v (.int .i64 (IntKind.i64.wrap (v42 + 1))))))]) (cg_then (ds := [55, 56, 12]) 3 rfl (by kernel_rfl) (.nil)) rfl (by kernel_rfl) ?_
          exact ⟨(y46v.1, IntKind.i64.wrap (v42 + 1)), h, of_weak (by kernel_rfl)⟩
      · have h := cond_f hb h
        refine r_condF hb rfl ?_
        refine r_exit ?_
        refine r_seq ?_
        obtain ⟨r50, hr50, h⟩ := bind_some h
        refine r_reg (l := [(1, .u (.c (.v (.int .i64 a1)))), (2, .u (.c (.v (.int .i64 a2)))), (7, .u (.c (.v (.bool r1)))), (8, .u (.c (bufC r50))), (9, .u (.c (.v (.bool v4))))]) (cg_then (ds := [72, 73, 74]) 3 rfl (by kernel_rfl) (co_then 4 rfl (os_plain rfl rfl (c_call (Page.ac (h := hr50)) ⟨_, Try.func14, rfl, by kernel_rfl⟩ rfl (hand_root (r := 8) (c := bufC v41) (by kernel_rfl) (by kernel_rfl) rfl (.rd (.copy (by kernel_rfl) rfl) (.rd (.copy (by kernel_rfl) rfl) (.nil)))) rfl (by kernel_rfl))) (.nil))) rfl (by kernel_rfl) ?_
        refine r_seq ?_
        obtain ⟨r51, hr51, h⟩ := bind_some h
        refine r_reg (l := [(7, .u (.c (.v (.bool r1)))), (8, .u (.c (bufC r51.1))), (9, .u (.c (.v (.bool v4)))), (16, .u (.c (.v (.bool r51.2.2))))]) (cg_then (ds := [77, 78, 79]) 3 rfl (by kernel_rfl) (co_then 4 rfl (os_plain rfl rfl (c_call (Find.ac (h := hr51)) ⟨_, Try.func15, rfl, by kernel_rfl⟩ rfl (hand_root (r := 8) (c := bufC r50) (by kernel_rfl) (by kernel_rfl) rfl (.rd (.copy (by kernel_rfl) rfl) (.rd (.copy (by kernel_rfl) rfl) (.nil)))) rfl (by kernel_rfl))) (co_then 5 rfl (os_plain rfl rfl (s_moveT (us := [.agg [.v (.int .i64 r51.2.1.f0), .v (.int .i64 r51.2.1.f1), .v (.int .i64 r51.2.1.f2), .v (.int .i64 r51.2.1.f3), .v (.bool r51.2.1.f4), .v (.bool r51.2.1.f5)], .c (.v (.bool r51.2.2))]) (.inl rfl) (by kernel_rfl) rfl (by kernel_rfl))) (cg_then (ds := [81, 82]) 7 rfl (by kernel_rfl) (co_then 8 rfl (os_plain rfl rfl (s_alloc rfl zero30 rfl (by kernel_rfl))) (co_then 9 rfl (os_plain rfl rfl (s_storeS (n := 6) (r := 15) (off := 0) (s := .d) (p := []) (c := .pt true [.v (.int .i64 0), .v (.int .i64 0), .v (.int .i64 0), .v (.int .i64 0), .v (.bool false), .v (.bool false)]) (cs := [.v (.int .i64 0), .v (.int .i64 0), .v (.int .i64 0), .v (.int .i64 0), .v (.bool false), .v (.bool false)]) (u := .agg [.v (.int .i64 r51.2.1.f0), .v (.int .i64 r51.2.1.f1), .v (.int .i64 r51.2.1.f2), .v (.int .i64 r51.2.1.f3), .v (.bool r51.2.1.f4), .v (.bool r51.2.1.f5)]) rfl (by kernel_rfl) (by kernel_rfl) (by kernel_rfl) rfl (by kernel_rfl) rfl rfl rfl rfl (Nat.le_of_ble_eq_true rfl) (by kernel_rfl) (by kernel_rfl) rfl rfl)) (cg_then (ds := [16]) 10 rfl (by kernel_rfl) (.nil)))))))) rfl (by kernel_rfl) ?_
        refine r_seq ?_
        rcases Bool.eq_false_or_eq_true (r1) with hb | hb
        · have h := cond_t hb h
          have hs52 := hb
          rcases Bool.eq_false_or_eq_true (!r51.2.2) with hb | hb
          · have h := cond_t hb h
            have hs53 := hb
            obtain ⟨r54, hr54, h⟩ := bind_some h
            refine r_reg (l := [(6, .u (.c (.v (.bool (r54.2 == v4)))))]) (cg_then (ds := [83]) 1 rfl (by kernel_rfl) (co_then 2 rfl (os_ge (d := 84) (t := .u (.c (.v (.bool r1)))) (t' := .u (.c (.v (.bool true)))) (by kernel_rfl) (by rw [hs52])) (cg_then (ds := [85, 86, 87]) 5 rfl (by kernel_rfl) (co_then 6 rfl (os_ge (d := 88) (t := .u (.c (.v (.bool (!r51.2.2))))) (t' := .u (.c (.v (.bool true)))) (by kernel_rfl) (by rw [hs53])) (co_then 7 rfl (os_gy rfl rfl rfl (by kernel_rfl) (s_take (u := .c (bufC r51.1)) (.inl rfl) (.move (by kernel_rfl) rfl) rfl (by kernel_rfl))) (co_then 8 rfl (os_gy rfl rfl rfl (by kernel_rfl) (c_call (Broken.ac (h := hr54)) ⟨_, Try.func12, rfl, by kernel_rfl⟩ rfl (hand_root (r := 89) (c := bufC r51.1) (by kernel_rfl) (by kernel_rfl) rfl (.nil)) rfl (by kernel_rfl))) (cg_then (ds := [91, 92, 93, 6]) 12 rfl (by kernel_rfl) (.nil)))))))) rfl (by kernel_rfl) ?_
            refine r_ret ?_
            obtain rfl := Option.some.inj h
            exact ⟨.inr rfl, _, _, .cons (.copy rfl rfl rfl) (.nil), rfl, outs_of trivial⟩
          · have h := cond_f hb h
            have hs55 := hb
            refine r_reg (l := [(6, .u (.c (.v (.bool false))))]) (cg_then (ds := [83]) 1 rfl (by kernel_rfl) (co_then 2 rfl (os_ge (d := 84) (t := .u (.c (.v (.bool r1)))) (t' := .u (.c (.v (.bool true)))) (by kernel_rfl) (by rw [hs52])) (cg_then (ds := [85, 86, 87]) 5 rfl (by kernel_rfl) (co_then 6 rfl (os_ge (d := 88) (t := .u (.c (.v (.bool (!r51.2.2))))) (t' := .u (.c (.v (.bool false)))) (by kernel_rfl) (by rw [hs55])) (cg_then (ds := [89, 90, 91, 92, 93, 6]) 12 rfl (by kernel_rfl) (.nil)))))) rfl (by kernel_rfl) ?_
            refine r_ret ?_
            obtain rfl := Option.some.inj h
            exact ⟨.inr rfl, _, _, .cons (.copy rfl rfl rfl) (.nil), rfl, outs_of trivial⟩
        · have h := cond_f hb h
          have hs56 := hb
          refine r_reg (l := [(6, .u (.c (.v (.bool false))))]) (cg_then (ds := [83]) 1 rfl (by kernel_rfl) (co_then 2 rfl (os_ge (d := 84) (t := .u (.c (.v (.bool r1)))) (t' := .u (.c (.v (.bool false)))) (by kernel_rfl) (by rw [hs56])) (cg_then (ds := [85, 86, 87, 88, 89, 90, 91, 92, 93, 6]) 12 rfl (by kernel_rfl) (.nil)))) rfl (by kernel_rfl) ?_
          refine r_ret ?_
          obtain rfl := Option.some.inj h
          exact ⟨.inr rfl, _, _, .cons (.copy rfl rfl rfl) (.nil), rfl, outs_of trivial⟩
    · have h := cond_f hb h
      have hs57 := hb
      refine r_reg (l := [(1, .u (.c (.v (.int .i64 a1)))), (2, .u (.c (.v (.int .i64 a2)))), (7, .u (.c (.v (.bool r1)))), (8, .u (.c (bufC v41))), (9, .u (.c (.v (.bool v4)))), (11, .u (.c (.sl true 6 (r40.2.map eE)))), (12, .u (.c (.v (.int .i64 v42)))), (54, .u (.c (.v (.bool false))))]) (cg_then (ds := [47, 48]) 2 rfl (by kernel_rfl) (co_then 3 rfl (os_to (os_plain rfl rfl (s_lenV (r := 11) (lo := 0) (n := (r40.2.map eE).length) (pl := none) (sz := 6) rfl sl22 (by kernel_rfl) rfl (by kernel_rfl))) (t' := .u (.c (.v (.int .i64 (r40.2.length : Int))))) (by rw [List.length_map])) (cg_then (ds := [50]) 4 rfl (by kernel_rfl) (co_then 5 rfl (os_ge (d := 51) (t := .u (.c (.v (.bool (decide (v42 < (r40.2.length : Int))))))) (t' := .u (.c (.v (.bool false)))) (by kernel_rfl) (by rw [hs57])) (cg_then (ds := [52, 53, 54]) 8 rfl (by kernel_rfl) (.nil)))))) rfl (by kernel_rfl) ?_
      refine r_condF rfl rfl ?_
      refine r_exit ?_
      refine r_seq ?_
      obtain ⟨r58, hr58, h⟩ := bind_some h
      refine r_reg (l := [(1, .u (.c (.v (.int .i64 a1)))), (2, .u (.c (.v (.int .i64 a2)))), (7, .u (.c (.v (.bool r1)))), (8, .u (.c (bufC r58))), (9, .u (.c (.v (.bool v4))))]) (cg_then (ds := [72, 73, 74]) 3 rfl (by kernel_rfl) (co_then 4 rfl (os_plain rfl rfl (c_call (Page.ac (h := hr58)) ⟨_, Try.func14, rfl, by kernel_rfl⟩ rfl (hand_root (r := 8) (c := bufC v41) (by kernel_rfl) (by kernel_rfl) rfl (.rd (.copy (by kernel_rfl) rfl) (.rd (.copy (by kernel_rfl) rfl) (.nil)))) rfl (by kernel_rfl))) (.nil))) rfl (by kernel_rfl) ?_
      refine r_seq ?_
      obtain ⟨r59, hr59, h⟩ := bind_some h
      refine r_reg (l := [(7, .u (.c (.v (.bool r1)))), (8, .u (.c (bufC r59.1))), (9, .u (.c (.v (.bool v4)))), (16, .u (.c (.v (.bool r59.2.2))))]) (cg_then (ds := [77, 78, 79]) 3 rfl (by kernel_rfl) (co_then 4 rfl (os_plain rfl rfl (c_call (Find.ac (h := hr59)) ⟨_, Try.func15, rfl, by kernel_rfl⟩ rfl (hand_root (r := 8) (c := bufC r58) (by kernel_rfl) (by kernel_rfl) rfl (.rd (.copy (by kernel_rfl) rfl) (.rd (.copy (by kernel_rfl) rfl) (.nil)))) rfl (by kernel_rfl))) (co_then 5 rfl (os_plain rfl rfl (s_moveT (us := [.agg [.v (.int .i64 r59.2.1.f0), .v (.int .i64 r59.2.1.f1), .v (.int .i64 r59.2.1.f2), .v (.int .i64 r59.2.1.f3), .v (.bool r59.2.1.f4), .v (.bool r59.2.1.f5)], .c (.v (.bool r59.2.2))]) (.inl rfl) (by kernel_rfl) rfl (by kernel_rfl))) (cg_then (ds := [81, 82]) 7 rfl (by kernel_rfl) (co_then 8 rfl (os_plain rfl rfl (s_alloc rfl zero30 rfl (by kernel_rfl))) (co_then 9 rfl (os_plain rfl rfl (s_storeS (n := 6) (r := 15) (off := 0) (s := .d) (p := []) (c := .pt true [.v (.int .i64 0), .v (.int .i64 0), .v (.int .i64 0), .v (.int .i64 0), .v (.bool false), .v (.bool false)]) (cs := [.v (.int .i64 0), .v (.int .i64 0), .v (.int .i64 0), .v (.int .i64 0), .v (.bool false), .v (.bool false)]) (u := .agg [.v (.int .i64 r59.2.1.f0), .v (.int .i64 r59.2.1.f1), .v (.int .i64 r59.2.1.f2), .v (.int .i64 r59.2.1.f3), .v (.bool r59.2.1.f4), .v (.bool r59.2.1.f5)]) rfl (by kernel_rfl) (by kernel_rfl) (by kernel_rfl) rfl (by kernel_rfl) rfl rfl rfl rfl (Nat.le_of_ble_eq_true rfl) (by kernel_rfl) (by kernel_rfl) rfl rfl)) (cg_then (ds := [16]) 10 rfl (by kernel_rfl) (.nil)))))))) rfl (by kernel_rfl) ?_
      refine r_seq ?_
      rcases Bool.eq_false_or_eq_true (r1) with hb | hb
      · have h := cond_t hb h
        have hs60 := hb
        rcases Bool.eq_false_or_eq_true (!r59.2.2) with hb | hb
        · have h := cond_t hb h
          have hs61 := hb
          obtain ⟨r62, hr62, h⟩ := bind_some h
          refine r_reg (l := [(6, .u (.c (.v (.bool (r62.2 == v4)))))]) (cg_then (ds := [83]) 1 rfl (by kernel_rfl) (co_then 2 rfl (os_ge (d := 84) (t := .u (.c (.v (.bool r1)))) (t' := .u (.c (.v (.bool true)))) (by kernel_rfl) (by rw [hs60])) (cg_then (ds := [85, 86, 87]) 5 rfl (by kernel_rfl) (co_then 6 rfl (os_ge (d := 88) (t := .u (.c (.v (.bool (!r59.2.2))))) (t' := .u (.c (.v (.bool true)))) (by kernel_rfl) (by rw [hs61])) (co_then 7 rfl (os_gy rfl rfl rfl (by kernel_rfl) (s_take (u := .c (bufC r59.1)) (.inl rfl) (.move (by kernel_rfl) rfl) rfl (by kernel_rfl))) (co_then 8 rfl (os_gy rfl rfl rfl (by kernel_rfl) (c_call (Broken.ac (h := hr62)) ⟨_, Try.func12, rfl, by kernel_rfl⟩ rfl (hand_root (r := 89) (c := bufC r59.1) (by kernel_rfl) (by kernel_rfl) rfl (.nil)) rfl (by kernel_rfl))) (cg_then (ds := [91, 92, 93, 6]) 12 rfl (by kernel_rfl) (.nil)))))))) rfl (by kernel_rfl) ?_
          refine r_ret ?_
          obtain rfl := Option.some.inj h
          exact ⟨.inr rfl, _, _, .cons (.copy rfl rfl rfl) (.nil), rfl, outs_of trivial⟩
        · have h := cond_f hb h
          have hs63 := hb
          refine r_reg (l := [(6, .u (.c (.v (.bool false))))]) (cg_then (ds := [83]) 1 rfl (by kernel_rfl) (co_then 2 rfl (os_ge (d := 84) (t := .u (.c (.v (.bool r1)))) (t' := .u (.c (.v (.bool true)))) (by kernel_rfl) (by rw [hs60])) (cg_then (ds := [85, 86, 87]) 5 rfl (by kernel_rfl) (co_then 6 rfl (os_ge (d := 88) (t := .u (.c (.v (.bool (!r59.2.2))))) (t' := .u (.c (.v (.bool false)))) (by kernel_rfl) (by rw [hs63])) (cg_then (ds := [89, 90, 91, 92, 93, 6]) 12 rfl (by kernel_rfl) (.nil)))))) rfl (by kernel_rfl) ?_
          refine r_ret ?_
          obtain rfl := Option.some.inj h
          exact ⟨.inr rfl, _, _, .cons (.copy rfl rfl rfl) (.nil), rfl, outs_of trivial⟩
      · have h := cond_f hb h
        have hs64 := hb
        refine r_reg (l := [(6, .u (.c (.v (.bool false))))]) (cg_then (ds := [83]) 1 rfl (by kernel_rfl) (co_then 2 rfl (os_ge (d := 84) (t := .u (.c (.v (.bool r1)))) (t' := .u (.c (.v (.bool false)))) (by kernel_rfl) (by rw [hs64])) (cg_then (ds := [85, 86, 87, 88, 89, 90, 91, 92, 93, 6]) 12 rfl (by kernel_rfl) (.nil)))) rfl (by kernel_rfl) ?_
        refine r_ret ?_
        obtain rfl := Option.some.inj h
        exact ⟨.inr rfl, _, _, .cons (.copy rfl rfl rfl) (.nil), rfl, outs_of trivial⟩
end Go.Proofs.Ytfbjhioefkimbaa.V
