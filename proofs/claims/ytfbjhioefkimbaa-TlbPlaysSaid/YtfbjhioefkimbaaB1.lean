import Derived.Test.YtfbjhioefkimbaaB0
import Derived.Test.YtfbjhioefkimbaaQx3
namespace Go.Proofs.Ytfbjhioefkimbaa.V
open Go Go.RowKit Go.Proofs Go.Proofs.Ytfbjhioefkimbaa.Q Go.Proofs.YtfbjhioefkimbaaW.PrintWords Go.Proofs.YtfbjhioefkimbaaW.PrintWords
open Go.IntKind (i64)
set_option linter.unusedVariables false
set_option linter.unusedSimpArgs false
set_option maxRecDepth 100000

theorem paviorlaw05_pick.ac (a0 : Int) (a1 : Int) (r : Int) (h : paviorlaw05_pick.f a0 a1 = some r) : AC Try.prog 48 16 [.c (.v (.int .i64 a0)), .c (.v (.int .i64 a1))] [none, none] [.c (.v (.int .i64 r))] :=
  ac_of rfl (fun w R => RepR.one (RepU.c (RepC.v rfl))) (fun w => (paviorlaw05_pick.calls a0 a1 r w h).mono (fun e w' hh => ⟨by simpa only [errW_eq] using hh.1, hh.2.below⟩))
theorem paviorref05_Clash.ac (k : Nat) (a0 : S30) (a1 : S30) (r : Bool) (h : paviorref05_Clash.f k a0.f0 a0.f1 a0.f2 a0.f3 a0.f4 a0.f5 a1.f0 a1.f1 a1.f2 a1.f3 a1.f4 a1.f5 = some r) : AC Try.prog 48 35 [.agg [.v (.int .i64 a0.f0), .v (.int .i64 a0.f1), .v (.int .i64 a0.f2), .v (.int .i64 a0.f3), .v (.bool a0.f4), .v (.bool a0.f5)], .agg [.v (.int .i64 a1.f0), .v (.int .i64 a1.f1), .v (.int .i64 a1.f2), .v (.int .i64 a1.f3), .v (.bool a1.f4), .v (.bool a1.f5)]] [none, none] [.c (.v (.bool r))] :=
  ac_of rfl (fun w R => RepR.one (RepU.c (RepC.v rfl))) (fun w => (paviorref05_Clash.calls k a0.f0 a0.f1 a0.f2 a0.f3 a0.f4 a0.f5 a1.f0 a1.f1 a1.f2 a1.f3 a1.f4 a1.f5 r w h).mono (fun e w' hh => ⟨by simpa only [errW_eq] using hh.1, hh.2⟩))
theorem paviorref05_Is.ac (a0 : S30) (a1 : Int) (a2 : Int) (r : Bool) (h : paviorref05_Is.f a0.f0 a0.f1 a0.f2 a0.f3 a0.f4 a0.f5 a1 a2 = some r) : AC Try.prog 48 37 [.agg [.v (.int .i64 a0.f0), .v (.int .i64 a0.f1), .v (.int .i64 a0.f2), .v (.int .i64 a0.f3), .v (.bool a0.f4), .v (.bool a0.f5)], .c (.v (.int .i64 a1)), .c (.v (.int .i64 a2))] [none, none, none] [.c (.v (.bool r))] :=
  ac_of rfl (fun w R => RepR.one (RepU.c (RepC.v rfl))) (fun w => (paviorref05_Is.calls a0.f0 a0.f1 a0.f2 a0.f3 a0.f4 a0.f5 a1 a2 r w h).mono (fun e w' hh => ⟨by simpa only [errW_eq] using hh.1, hh.2⟩))
def RFill.l2 (k : Nat) (a0 : Buf) (a1 : S30) (v1 : Buf) (v2 : Int) : Nat → Buf → Int → Option (Buf)
  | 0, _, _ => none
  | n2 + 1, v5, v6 => (bif decide (v6 < (v5.l.length : Int)) then (bif decide (0 ≤ v6) && decide (v6 < (v5.l.length : Int)) then (paviorref05_Clash.f k ((v5.l.getD ((v6).toNat) z30).f0) ((v5.l.getD ((v6).toNat) z30).f1) ((v5.l.getD ((v6).toNat) z30).f2) ((v5.l.getD ((v6).toNat) z30).f3) ((v5.l.getD ((v6).toNat) z30).f4) ((v5.l.getD ((v6).toNat) z30).f5) a1.f0 a1.f1 a1.f2 a1.f3 a1.f4 a1.f5).bind fun (r8 : Bool) => (bif v5.b then RFill.l2 k a0 a1 v1 v2 n2 (⟨v5.l, true⟩ : Buf) (i64.wrap (v6 + 1)) else RFill.l2 k a0 a1 v1 v2 n2 (⟨v5.l, r8⟩ : Buf) (i64.wrap (v6 + 1))) else none) else (bif decide (([] : List S30).length + v5.l.length ≤ 1000000) then (bif decide ((([] : List S30) ++ v5.l).length + [a1].length ≤ 1000000) then some (⟨((([] : List S30) ++ v5.l) ++ [a1]), v5.b⟩ : Buf) else none) else none))
def RFill.l3 (k : Nat) (a0 : Buf) (a1 : S30) (v1 : Buf) (v2 : Int) : Nat → Buf → Int → Option (Buf)
  | 0, _, _ => none
  | n3 + 1, v13, v14 => (bif decide (v14 < (v13.l.length : Int)) then (bif decide (0 ≤ v14) && decide (v14 < (v13.l.length : Int)) then (paviorref05_Clash.f k ((v13.l.getD ((v14).toNat) z30).f0) ((v13.l.getD ((v14).toNat) z30).f1) ((v13.l.getD ((v14).toNat) z30).f2) ((v13.l.getD ((v14).toNat) z30).f3) ((v13.l.getD ((v14).toNat) z30).f4) ((v13.l.getD ((v14).toNat) z30).f5) a1.f0 a1.f1 a1.f2 a1.f3 a1.f4 a1.f5).bind fun (r16 : Bool) => (bif v13.b then RFill.l3 k a0 a1 v1 v2 n3 (⟨v13.l, true⟩ : Buf) (i64.wrap (v14 + 1)) else RFill.l3 k a0 a1 v1 v2 n3 (⟨v13.l, r16⟩ : Buf) (i64.wrap (v14 + 1))) else none) else (bif decide (([] : List S30).length + v13.l.length ≤ 1000000) then (bif decide ((([] : List S30) ++ v13.l).length + [a1].length ≤ 1000000) then some (⟨((([] : List S30) ++ v13.l) ++ [a1]), v13.b⟩ : Buf) else none) else none))
def RFill.l1 (k : Nat) (a0 : Buf) (a1 : S30) : Nat → Buf → Int → Option (Buf)
  | 0, _, _ => none
  | n1 + 1, v1, v2 => (bif decide (v2 < (v1.l.length : Int)) then (bif decide (0 ≤ v2) && decide (v2 < (v1.l.length : Int)) then (bif ((v1.l.getD ((v2).toNat) z30).f0) == a1.f0 && (((v1.l.getD ((v2).toNat) z30).f1) == a1.f1 && (((v1.l.getD ((v2).toNat) z30).f2) == a1.f2 && (((v1.l.getD ((v2).toNat) z30).f3) == a1.f3 && (((v1.l.getD ((v2).toNat) z30).f4) == a1.f4 && (((v1.l.getD ((v2).toNat) z30).f5) == a1.f5))))) then some v1 else RFill.l1 k a0 a1 n1 v1 (i64.wrap (v2 + 1))) else none) else (bif (v1.l.length : Int) == 64 then (bif decide (1 ≤ v1.l.length) then RFill.l2 k a0 a1 v1 v2 k (⟨(v1.l.drop 1).take ((v1.l.map eE).length - 1), v1.b⟩ : Buf) 0 else none) else RFill.l3 k a0 a1 v1 v2 k v1 0))
set_option maxHeartbeats 4000000 in
def RFill.f (k : Nat) (a0 : Buf) (a1 : S30) : Option (Buf) :=
  RFill.l1 k a0 a1 k a0 0
set_option maxHeartbeats 4000000 in
theorem RFill.ac (k : Nat) (a0 : Buf) (a1 : S30) (r : Buf) (h : RFill.f k a0 a1 = some r) : AC Try.prog 48 17 [.c (bufC a0), .agg [.v (.int .i64 a1.f0), .v (.int .i64 a1.f1), .v (.int .i64 a1.f2), .v (.int .i64 a1.f3), .v (.bool a1.f4), .v (.bool a1.f5)]] [some (.c (bufC r)), none] [] := by
  unfold RFill.f at h
  refine ac_intro (fn := Try.f17) (pins := [0]) (rts := []) Try.func17 rfl Try.ntmps17 rfl (Nat.le_of_ble_eq_true rfl) (pins_lt rfl) rfl (fun w R E vs => ?_)
  refine r_weak (of_weak (l := [(0, .u (.c (bufC a0))), (1, .u (.agg [.v (.int .i64 a1.f0), .v (.int .i64 a1.f1), .v (.int .i64 a1.f2), .v (.int .i64 a1.f3), .v (.bool a1.f4), .v (.bool a1.f5)]))]) (by kernel_rfl)) ?_
  refine r_seq ?_
  refine rr [(0, .u (.c (bufC a0))), (3, .u (.c (.pt true [.v (.int .i64 a1.f0), .v (.int .i64 a1.f1), .v (.int .i64 a1.f2), .v (.int .i64 a1.f3), .v (.bool a1.f4), .v (.bool a1.f5)])))] (cot 1 (os_plain rfl rfl (s_box (u := .agg [.v (.int .i64 a1.f0), .v (.int .i64 a1.f1), .v (.int .i64 a1.f2), .v (.int .i64 a1.f3), .v (.bool a1.f4), .v (.bool a1.f5)]) rfl (.copy (by kernel_rfl) (by kernel_rfl) (by kernel_rfl)) rfl (by kernel_rfl))) .nil) ?_
  refine r_seq ?_
  refine r_seq ?_
  refine rr [(0, .u (.c (bufC a0))), (3, .u (.c (.pt true [.v (.int .i64 a1.f0), .v (.int .i64 a1.f1), .v (.int .i64 a1.f2), .v (.int .i64 a1.f3), .v (.bool a1.f4), .v (.bool a1.f5)]))), (4, tI 0)] (cgt 1 [4] .nil) ?_
  refine r_block ?_
  refine r_weak (of_weak (l := [(0, .u (.c (bufC a0))), (3, .u (.c (.pt true [.v (.int .i64 a1.f0), .v (.int .i64 a1.f1), .v (.int .i64 a1.f2), .v (.int .i64 a1.f3), .v (.bool a1.f4), .v (.bool a1.f5)]))), (4, tI 0)]) (by kernel_rfl)) ?_
  refine r_loopI (α := Buf × Int) (fun x => [(0, .u (.c (bufC x.1))), (3, .u (.c (.pt true [.v (.int .i64 a1.f0), .v (.int .i64 a1.f1), .v (.int .i64 a1.f2), .v (.int .i64 a1.f3), .v (.bool a1.f4), .v (.bool a1.f5)]))), (4, tI x.2)]) (fun n x => RFill.l1 k a0 a1 n x.1 x.2 = some r) k (a0, 0) h (by intro x h; unfold RFill.l1 at h; cases h) ?_
  rintro n1 ⟨v1, v2⟩ h
  replace h : RFill.l1 k a0 a1 (n1 + 1) v1 v2 = some r := h
  unfold RFill.l1 at h
  show Run _ _ _ (St.of [(0, .u (.c (bufC v1))), (3, .u (.c (.pt true [.v (.int .i64 a1.f0), .v (.int .i64 a1.f1), .v (.int .i64 a1.f2), .v (.int .i64 a1.f3), .v (.bool a1.f4), .v (.bool a1.f5)]))), (4, tI v2)]) _
  refine r_seq ?_
  refine r_seq ?_
  refine rr [(0, .u (.c (bufC v1))), (3, .u (.c (.pt true [.v (.int .i64 a1.f0), .v (.int .i64 a1.f1), .v (.int .i64 a1.f2), .v (.int .i64 a1.f3), .v (.bool a1.f4), .v (.bool a1.f5)]))), (4, tI v2), (13, tB (decide (v2 < (v1.l.length : Int))))] (cgt 5 [7, 8, 9, 10, 11] (cot 6 (os_to (os_plain rfl rfl (s_lenV (r := 0) (lo := 0) (n := (v1.l.map eE).length) (pl := (some (.d, [], 0))) (sz := 6) rfl sl22 (by kernel_rfl) rfl (by kernel_rfl))) (t' := tI (v1.l.length : Int)) (by rw [List.length_map])) (cgt 7 [13] .nil))) ?_
  rcases Bool.eq_false_or_eq_true (decide (v2 < (v1.l.length : Int))) with hb | hb
  · have h := cond_t hb h
    refine r_condT hb rfl ?_
    refine r_skip ?_
    refine r_seq ?_
    refine r_block ?_
    refine r_seq ?_
    obtain ⟨hg3, h⟩ := guard_some h
    simp only [Bool.and_eq_true, decide_eq_true_eq] at hg3
    refine r_weak (of_weak (l := [(0, .u (.c (bufC v1))), (3, .u (.c (.pt true [.v (.int .i64 a1.f0), .v (.int .i64 a1.f1), .v (.int .i64 a1.f2), .v (.int .i64 a1.f3), .v (.bool a1.f4), .v (.bool a1.f5)]))), (4, tI v2), (13, tB (decide (v2 < (v1.l.length : Int))))]) (by kernel_rfl)) ?_
    refine r_anyW (l := [(0, .u (.c (bufC v1))), (3, .u (.c (.pt true [.v (.int .i64 a1.f0), .v (.int .i64 a1.f1), .v (.int .i64 a1.f2), .v (.int .i64 a1.f3), .v (.bool a1.f4), .v (.bool a1.f5)]))), (4, tI v2), (24, tB (((v1.l.getD ((v2).toNat) z30).f0) == a1.f0 && (((v1.l.getD ((v2).toNat) z30).f1) == a1.f1 && (((v1.l.getD ((v2).toNat) z30).f2) == a1.f2 && (((v1.l.getD ((v2).toNat) z30).f3) == a1.f3 && (((v1.l.getD ((v2).toNat) z30).f4) == a1.f4 && (((v1.l.getD ((v2).toNat) z30).f5) == a1.f5)))))))]) (tab := [[], [0], [1], [2], [], [3, 4], [5], [], [6, 7]]) [ev [] [0] 16 (.addr 0 (.d) [] 0), ev [0] [16] 17 (.addr 0 (.d) [] 0), ev [0, 1] [17] 18 (.addr 0 (.d) [] 0), ev [0, 1, 2] [0, 18] 19 (.whole 0 (some (.d, [], 0)) 6 ((v1.l.map eE).length)), ev [] [4] 20 (tI v2), ev [0, 1, 2, 3, 4] [0, 19, 20] 21 (.addr 0 (.d) [(0, .i ((v2).toNat) 6)] 0), eu 6 [0, 21] 22 (.u (.agg [.v (.int .i64 ((v1.l.getD ((v2).toNat) z30).f0)), .v (.int .i64 ((v1.l.getD ((v2).toNat) z30).f1)), .v (.int .i64 ((v1.l.getD ((v2).toNat) z30).f2)), .v (.int .i64 ((v1.l.getD ((v2).toNat) z30).f3)), .v (.bool ((v1.l.getD ((v2).toNat) z30).f4)), .v (.bool ((v1.l.getD ((v2).toNat) z30).f5))])), ev [] [3] 23 (.u (.agg [.v (.int .i64 a1.f0), .v (.int .i64 a1.f1), .v (.int .i64 a1.f2), .v (.int .i64 a1.f3), .v (.bool a1.f4), .v (.bool a1.f5)])), eu 8 [22, 23] 24 (tB (((v1.l.getD ((v2).toNat) z30).f0) == a1.f0 && (((v1.l.getD ((v2).toNat) z30).f1) == a1.f1 && (((v1.l.getD ((v2).toNat) z30).f2) == a1.f2 && (((v1.l.getD ((v2).toNat) z30).f3) == a1.f3 && (((v1.l.getD ((v2).toNat) z30).f4) == a1.f4 && (((v1.l.getD ((v2).toNat) z30).f5) == a1.f5)))))))] hm (by kernel_rfl) (by kernel_rfl) (by kernel_rfl) (en (en (en (en (en (.cons (fun σ hc => e_put hc rfl rfl (os_plain rfl rfl (s_indexV (r := 0) (lo := 0) (n := (v1.l.map eE).length) (pl := (some (.d, [], 0))) (sz := 6) (e := v2) (ik := .i64) (k := (v2).toNat) rfl sl22 (by kernel_rfl) (.tmp (by kernel_rfl)) hg3.1 (by rw [List.length_map]; exact hg3.2) (Nat.zero_add _) rfl (by kernel_rfl) (by kernel_rfl)))) (.cons (fun σ hc => e_put hc rfl rfl (os_plain rfl rfl (s_loadA (n := 6) (xs := [.v (.int .i64 ((v1.l.getD ((v2).toNat) z30).f0)), .v (.int .i64 ((v1.l.getD ((v2).toNat) z30).f1)), .v (.int .i64 ((v1.l.getD ((v2).toNat) z30).f2)), .v (.int .i64 ((v1.l.getD ((v2).toNat) z30).f3)), .v (.bool ((v1.l.getD ((v2).toNat) z30).f4)), .v (.bool ((v1.l.getD ((v2).toNat) z30).f5))]) (r := 0) (off := 0) (s := .d) (p := [(0, .i ((v2).toNat) 6)]) (c := bufC v1) (cs := (eE (v1.l.getD ((v2).toNat) z30))) rfl (aggB_ok (by kernel_rfl)) (by kernel_rfl) (by kernel_rfl) (getP_in (c' := .sl true 6 (v1.l.map eE)) rfl (getP_map (f := eE) (own := true) (xs := v1.l) (k := (v2).toNat) z30 (by have := hg3; omega))) rfl rfl rfl rfl (by kernel_rfl)))) (en (.cons (fun σ hc => e_put hc rfl rfl (os_plain rfl rfl (s_eqA (b := ((v1.l.getD ((v2).toNat) z30).f0) == a1.f0 && (((v1.l.getD ((v2).toNat) z30).f1) == a1.f1 && (((v1.l.getD ((v2).toNat) z30).f2) == a1.f2 && (((v1.l.getD ((v2).toNat) z30).f3) == a1.f3 && (((v1.l.getD ((v2).toNat) z30).f4) == a1.f4 && (((v1.l.getD ((v2).toNat) z30).f5) == a1.f5)))))) rfl (.inl rfl) eqAgg30 (by kernel_rfl) rfl rfl rfl rfl rfl rfl (by kernel_rfl)))) .nil))))))))) (by kernel_rfl) ?_
    rcases Bool.eq_false_or_eq_true (((v1.l.getD ((v2).toNat) z30).f0) == a1.f0 && (((v1.l.getD ((v2).toNat) z30).f1) == a1.f1 && (((v1.l.getD ((v2).toNat) z30).f2) == a1.f2 && (((v1.l.getD ((v2).toNat) z30).f3) == a1.f3 && (((v1.l.getD ((v2).toNat) z30).f4) == a1.f4 && (((v1.l.getD ((v2).toNat) z30).f5) == a1.f5)))))) with hb | hb
    · have h := cond_t hb h
      refine r_condT hb rfl ?_
      refine r_ret ?_
      obtain rfl := Option.some.inj h
      exact ⟨.inr rfl, _, _, .nil, rfl, outs_of ⟨⟨rfl, rfl⟩, trivial⟩⟩
    have h := cond_f hb h
    refine r_condF hb rfl ?_
    refine r_skip ?_
    refine rr [(0, .u (.c (bufC v1))), (3, .u (.c (.pt true [.v (.int .i64 a1.f0), .v (.int .i64 a1.f1), .v (.int .i64 a1.f2), .v (.int .i64 a1.f3), .v (.bool a1.f4), .v (.bool a1.f5)]))), (4, tI (i64.wrap (v2 + 1)))] (cgt 3 [14, 15, 4] .nil) ?_
    exact ⟨(v1, i64.wrap (v2 + 1)), h, of_weak (by kernel_rfl)⟩
  have h := cond_f hb h
  refine r_condF hb rfl ?_
  refine r_exit ?_
  refine r_seq ?_
  refine r_seq ?_
  refine rr [(0, .u (.c (bufC v1))), (3, .u (.c (.pt true [.v (.int .i64 a1.f0), .v (.int .i64 a1.f1), .v (.int .i64 a1.f2), .v (.int .i64 a1.f3), .v (.bool a1.f4), .v (.bool a1.f5)]))), (30, tB ((v1.l.length : Int) == 64))] (cgt 4 [25, 26, 27, 28] (cot 5 (os_to (os_plain rfl rfl (s_lenV (r := 0) (lo := 0) (n := (v1.l.map eE).length) (pl := (some (.d, [], 0))) (sz := 6) rfl sl22 (by kernel_rfl) rfl (by kernel_rfl))) (t' := tI (v1.l.length : Int)) (by rw [List.length_map])) (cgt 6 [30] .nil))) ?_
  rcases Bool.eq_false_or_eq_true ((v1.l.length : Int) == 64) with hb | hb
  · have h := cond_t hb h
    refine r_condT hb rfl ?_
    obtain ⟨hg4, h⟩ := guard_some h
    simp only [Bool.and_eq_true, decide_eq_true_eq] at hg4
    refine rr [(0, .u (.c (.pt true [.sl true 6 (((v1.l.drop 1).take ((v1.l.map eE).length - 1)).map eE), .v (.bool v1.b)]))), (3, .u (.c (.pt true [.v (.int .i64 a1.f0), .v (.int .i64 a1.f1), .v (.int .i64 a1.f2), .v (.int .i64 a1.f3), .v (.bool a1.f4), .v (.bool a1.f5)])))] (cgt 4 [31, 32, 33, 34] (cot 5 (os_plain rfl rfl (s_loadTake (r := 0) (off := 0) (s := .d) (p := []) (c := bufC v1) (c' := .pt true [.dead, .v (.bool v1.b)]) (x := .sl true 6 (v1.l.map eE)) (cs := [.sl true 6 (v1.l.map eE), .v (.bool v1.b)]) rfl (oneB_ok (by kernel_rfl)) (by kernel_rfl) (by kernel_rfl) rfl rfl (by kernel_rfl) rfl rfl (by kernel_rfl))) (cot 6 (os_plain rfl rfl (s_sliceTakeM (f := eE) (xs := v1.l) (r := 35) (sz := 6) (lx := (some (.const (.int .i64 1)))) (hx := none) (l := (some 1)) (h := none) (l' := 1) (h' := (v1.l.map eE).length) rfl sl22 (by kernel_rfl) eE_copy (.some (k := .i64) (e := 1) (by kernel_rfl) (by decide)) .none rfl rfl (by first | (rw [List.length_map]; have := hg4; omega) | (have := hg4; omega) | (simp only [List.length_map]; have := hg4; omega)) (Nat.le_refl _) rfl (by kernel_rfl) (by kernel_rfl))) (cgt 8 [37, 38] (cot 9 (os_plain rfl rfl (s_store (n := 1) (r := 0) (off := 0) (s := .d) (p := []) (c := .pt true [.dead, .v (.bool v1.b)]) (cs := [.dead, .v (.bool v1.b)]) (u := .c (.sl true 6 (((v1.l.drop 1).take ((v1.l.map eE).length - 1)).map eE))) (l := [36]) rfl (by kernel_rfl) (by kernel_rfl) (.move (by kernel_rfl) (by kernel_rfl)) (by kernel_rfl) rfl rfl rfl (Nat.le_of_ble_eq_true rfl) (by kernel_rfl) rfl)) .nil))))) ?_
    refine r_seq ?_
    refine r_seq ?_
    refine rr [(0, .u (.c (.pt true [.sl true 6 (((v1.l.drop 1).take ((v1.l.map eE).length - 1)).map eE), .v (.bool v1.b)]))), (3, .u (.c (.pt true [.v (.int .i64 a1.f0), .v (.int .i64 a1.f1), .v (.int .i64 a1.f2), .v (.int .i64 a1.f3), .v (.bool a1.f4), .v (.bool a1.f5)]))), (5, tI 0)] (cgt 1 [5] .nil) ?_
    refine r_block ?_
    refine r_weak (of_weak (l := [(0, .u (.c (.pt true [.sl true 6 (((v1.l.drop 1).take ((v1.l.map eE).length - 1)).map eE), .v (.bool v1.b)]))), (3, .u (.c (.pt true [.v (.int .i64 a1.f0), .v (.int .i64 a1.f1), .v (.int .i64 a1.f2), .v (.int .i64 a1.f3), .v (.bool a1.f4), .v (.bool a1.f5)]))), (5, tI 0)]) (by kernel_rfl)) ?_
    refine r_loopI (α := Buf × Int) (fun x => [(0, .u (.c (bufC x.1))), (3, .u (.c (.pt true [.v (.int .i64 a1.f0), .v (.int .i64 a1.f1), .v (.int .i64 a1.f2), .v (.int .i64 a1.f3), .v (.bool a1.f4), .v (.bool a1.f5)]))), (5, tI x.2)]) (fun n x => RFill.l2 k a0 a1 v1 v2 n x.1 x.2 = some r) k ((⟨(v1.l.drop 1).take ((v1.l.map eE).length - 1), v1.b⟩ : Buf), 0) h (by intro x h; unfold RFill.l2 at h; cases h) ?_
    rintro n2 ⟨v5, v6⟩ h
    replace h : RFill.l2 k a0 a1 v1 v2 (n2 + 1) v5 v6 = some r := h
    unfold RFill.l2 at h
    show Run _ _ _ (St.of [(0, .u (.c (bufC v5))), (3, .u (.c (.pt true [.v (.int .i64 a1.f0), .v (.int .i64 a1.f1), .v (.int .i64 a1.f2), .v (.int .i64 a1.f3), .v (.bool a1.f4), .v (.bool a1.f5)]))), (5, tI v6)]) _
    refine r_seq ?_
    refine r_seq ?_
    refine rr [(0, .u (.c (bufC v5))), (3, .u (.c (.pt true [.v (.int .i64 a1.f0), .v (.int .i64 a1.f1), .v (.int .i64 a1.f2), .v (.int .i64 a1.f3), .v (.bool a1.f4), .v (.bool a1.f5)]))), (5, tI v6), (45, tB (decide (v6 < (v5.l.length : Int))))] (cgt 5 [39, 40, 41, 42, 43] (cot 6 (os_to (os_plain rfl rfl (s_lenV (r := 0) (lo := 0) (n := (v5.l.map eE).length) (pl := (some (.d, [], 0))) (sz := 6) rfl sl22 (by kernel_rfl) rfl (by kernel_rfl))) (t' := tI (v5.l.length : Int)) (by rw [List.length_map])) (cgt 7 [45] .nil))) ?_
    rcases Bool.eq_false_or_eq_true (decide (v6 < (v5.l.length : Int))) with hb | hb
    · have h := cond_t hb h
      refine r_condT hb rfl ?_
      refine r_skip ?_
      refine r_seq ?_
      refine r_block ?_
      refine r_seq ?_
      obtain ⟨hg7, h⟩ := guard_some h
      simp only [Bool.and_eq_true, decide_eq_true_eq] at hg7
      obtain ⟨r8, hr8, h⟩ := bind_some h
      refine r_weak (of_weak (l := [(0, .u (.c (bufC v5))), (3, .u (.c (.pt true [.v (.int .i64 a1.f0), .v (.int .i64 a1.f1), .v (.int .i64 a1.f2), .v (.int .i64 a1.f3), .v (.bool a1.f4), .v (.bool a1.f5)]))), (5, tI v6), (45, tB (decide (v6 < (v5.l.length : Int))))]) (by kernel_rfl)) ?_
      refine r_anyW (l := [(0, .u (.c (bufC v5))), (3, .u (.c (.pt true [.v (.int .i64 a1.f0), .v (.int .i64 a1.f1), .v (.int .i64 a1.f2), .v (.int .i64 a1.f3), .v (.bool a1.f4), .v (.bool a1.f5)]))), (5, tI v6), (6, tB r8)]) (tab := [[], [0], [1], [2], [], [3, 4], [5], [], [6, 7], [8, 8, 0, 1, 2, 3, 4, 5, 6, 7, 8]]) [ev [] [0] 48 (.addr 0 (.d) [] 0), ev [0] [48] 49 (.addr 0 (.d) [] 0), ev [0, 1] [49] 50 (.addr 0 (.d) [] 0), ev [0, 1, 2] [0, 50] 51 (.whole 0 (some (.d, [], 0)) 6 ((v5.l.map eE).length)), ev [] [5] 52 (tI v6), ev [0, 1, 2, 3, 4] [0, 51, 52] 53 (.addr 0 (.d) [(0, .i ((v6).toNat) 6)] 0), eu 6 [0, 53] 54 (.u (.agg [.v (.int .i64 ((v5.l.getD ((v6).toNat) z30).f0)), .v (.int .i64 ((v5.l.getD ((v6).toNat) z30).f1)), .v (.int .i64 ((v5.l.getD ((v6).toNat) z30).f2)), .v (.int .i64 ((v5.l.getD ((v6).toNat) z30).f3)), .v (.bool ((v5.l.getD ((v6).toNat) z30).f4)), .v (.bool ((v5.l.getD ((v6).toNat) z30).f5))])), ev [] [3] 55 (.u (.agg [.v (.int .i64 a1.f0), .v (.int .i64 a1.f1), .v (.int .i64 a1.f2), .v (.int .i64 a1.f3), .v (.bool a1.f4), .v (.bool a1.f5)])), eu 8 [54, 55] 56 (tB r8), eu 9 [56] 6 (tB r8)] hm (by kernel_rfl) (by kernel_rfl) (by kernel_rfl) (en (en (en (en (en (.cons (fun σ hc => e_put hc rfl rfl (os_plain rfl rfl (s_indexV (r := 0) (lo := 0) (n := (v5.l.map eE).length) (pl := (some (.d, [], 0))) (sz := 6) (e := v6) (ik := .i64) (k := (v6).toNat) rfl sl22 (by kernel_rfl) (.tmp (by kernel_rfl)) hg7.1 (by rw [List.length_map]; exact hg7.2) (Nat.zero_add _) rfl (by kernel_rfl) (by kernel_rfl)))) (.cons (fun σ hc => e_put hc rfl rfl (os_plain rfl rfl (s_loadA (n := 6) (xs := [.v (.int .i64 ((v5.l.getD ((v6).toNat) z30).f0)), .v (.int .i64 ((v5.l.getD ((v6).toNat) z30).f1)), .v (.int .i64 ((v5.l.getD ((v6).toNat) z30).f2)), .v (.int .i64 ((v5.l.getD ((v6).toNat) z30).f3)), .v (.bool ((v5.l.getD ((v6).toNat) z30).f4)), .v (.bool ((v5.l.getD ((v6).toNat) z30).f5))]) (r := 0) (off := 0) (s := .d) (p := [(0, .i ((v6).toNat) 6)]) (c := bufC v5) (cs := (eE (v5.l.getD ((v6).toNat) z30))) rfl (aggB_ok (by kernel_rfl)) (by kernel_rfl) (by kernel_rfl) (getP_in (c' := .sl true 6 (v5.l.map eE)) rfl (getP_map (f := eE) (own := true) (xs := v5.l) (k := (v6).toNat) z30 (by have := hg7; omega))) rfl rfl rfl rfl (by kernel_rfl)))) (en (.cons (fun σ hc => e_put hc rfl rfl (os_plain rfl rfl (c_callQ (res := [.c (.v (.bool r8))]) (AC.k (paviorref05_Clash.ac (h := hr8))) ⟨_, Try.func35, rfl, by kernel_rfl⟩ rfl (.cons (.copy (by kernel_rfl) rfl) (.cons (.copy (by kernel_rfl) rfl) .nil)) (by kernel_rfl)))) (en .nil)))))))))) (by kernel_rfl) ?_
      rcases Bool.eq_false_or_eq_true (v5.b) with hb | hb
      · have h := cond_t hb h
        have hs9 := hb
        refine rr [(0, .u (.c (.pt true [.sl true 6 (v5.l.map eE), .v (.bool true)]))), (3, .u (.c (.pt true [.v (.int .i64 a1.f0), .v (.int .i64 a1.f1), .v (.int .i64 a1.f2), .v (.int .i64 a1.f3), .v (.bool a1.f4), .v (.bool a1.f5)]))), (5, tI v6)] (cgt 5 [57, 58, 59, 60, 61] (cot 6 (os_ge (d := 62) (t := tB v5.b) (t' := tB true) (by kernel_rfl) (by rw [hs9])) (cgt 10 [63, 64, 65, 66] (cot 11 (os_plain rfl rfl (s_storeS (n := 1) (r := 0) (off := 1) (s := .d) (p := []) (c := bufC v5) (cs := [.sl true 6 (v5.l.map eE), .v (.bool v5.b)]) (u := .c (.v (.bool true))) rfl (by kernel_rfl) (by kernel_rfl) (by kernel_rfl) rfl (by kernel_rfl) rfl rfl rfl rfl (Nat.le_of_ble_eq_true rfl) (by kernel_rfl) (by kernel_rfl) rfl rfl)) .nil)))) ?_
        refine rr [(0, .u (.c (.pt true [.sl true 6 (v5.l.map eE), .v (.bool true)]))), (3, .u (.c (.pt true [.v (.int .i64 a1.f0), .v (.int .i64 a1.f1), .v (.int .i64 a1.f2), .v (.int .i64 a1.f3), .v (.bool a1.f4), .v (.bool a1.f5)]))), (5, tI (i64.wrap (v6 + 1)))] (cgt 3 [46, 47, 5] .nil) ?_
        exact ⟨((⟨v5.l, true⟩ : Buf), i64.wrap (v6 + 1)), h, of_weak (by kernel_rfl)⟩
      have h := cond_f hb h
      have hs10 := hb
      refine rr [(0, .u (.c (.pt true [.sl true 6 (v5.l.map eE), .v (.bool r8)]))), (3, .u (.c (.pt true [.v (.int .i64 a1.f0), .v (.int .i64 a1.f1), .v (.int .i64 a1.f2), .v (.int .i64 a1.f3), .v (.bool a1.f4), .v (.bool a1.f5)]))), (5, tI v6)] (cgt 5 [57, 58, 59, 60, 61] (cot 6 (os_ge (d := 62) (t := tB v5.b) (t' := tB false) (by kernel_rfl) (by rw [hs10])) (cgt 10 [63, 64, 65, 66] (cot 11 (os_plain rfl rfl (s_storeS (n := 1) (r := 0) (off := 1) (s := .d) (p := []) (c := bufC v5) (cs := [.sl true 6 (v5.l.map eE), .v (.bool v5.b)]) (u := .c (.v (.bool r8))) rfl (by kernel_rfl) (by kernel_rfl) (by kernel_rfl) rfl (by kernel_rfl) rfl rfl rfl rfl (Nat.le_of_ble_eq_true rfl) (by kernel_rfl) (by kernel_rfl) rfl rfl)) .nil)))) ?_
      refine rr [(0, .u (.c (.pt true [.sl true 6 (v5.l.map eE), .v (.bool r8)]))), (3, .u (.c (.pt true [.v (.int .i64 a1.f0), .v (.int .i64 a1.f1), .v (.int .i64 a1.f2), .v (.int .i64 a1.f3), .v (.bool a1.f4), .v (.bool a1.f5)]))), (5, tI (i64.wrap (v6 + 1)))] (cgt 3 [46, 47, 5] .nil) ?_
      exact ⟨((⟨v5.l, r8⟩ : Buf), i64.wrap (v6 + 1)), h, of_weak (by kernel_rfl)⟩
    have h := cond_f hb h
    refine r_condF hb rfl ?_
    refine r_exit ?_
    obtain ⟨hg11, h⟩ := guard_some h
    simp only [decide_eq_true_eq] at hg11
    obtain ⟨hg12, h⟩ := guard_some h
    simp only [decide_eq_true_eq] at hg12
    refine r_weak (of_weak (l := [(0, .u (.c (bufC v5))), (3, .u (.c (.pt true [.v (.int .i64 a1.f0), .v (.int .i64 a1.f1), .v (.int .i64 a1.f2), .v (.int .i64 a1.f3), .v (.bool a1.f4), .v (.bool a1.f5)]))), (5, tI v6), (45, tB (decide (v6 < (v5.l.length : Int))))]) (by kernel_rfl)) ?_
    refine r_anyW (l := [(0, .u (.c (.pt true [.sl true 6 (((([] : List S30) ++ v5.l) ++ [a1]).map eE), .v (.bool v5.b)])))]) (tab := [[], [], [], [2], [3], [4], [1, 5], [], [7], [6, 8, 6], [0, 0, 1, 2, 3, 4, 5, 6, 7, 8, 9], [10, 0, 1, 2, 3, 4, 5, 6, 7, 8, 9], [11, 9, 9, 0, 1, 2, 3, 4, 5, 6, 7, 8, 9]]) [ev [] [0] 67 (.addr 0 (.d) [] 0), ev [] [] 68 (.u (.c (.sl true 6 (([] : List S30).map eE)))), ev [] [0] 69 (.addr 0 (.d) [] 0), ev [2] [69] 70 (.addr 0 (.d) [] 0), ev [2, 3] [70] 71 (.addr 0 (.d) [] 0), ev [2, 3, 4] [0, 71] 72 (.whole 0 (some (.d, [], 0)) 6 ((v5.l.map eE).length)), ⟨[1, 2, 3, 4, 5], [0, 68, 72], [(73, .u (.c (.sl true 6 ((([] : List S30) ++ v5.l).map eE)))), (68, .junk), (72, .junk)], some 73, true⟩, ev [] [3] 74 (.u (.agg [.v (.int .i64 a1.f0), .v (.int .i64 a1.f1), .v (.int .i64 a1.f2), .v (.int .i64 a1.f3), .v (.bool a1.f4), .v (.bool a1.f5)])), ev [7] [74] 75 (.u (.c (.sl true 6 ([a1].map eE)))), ⟨[1, 2, 3, 4, 5, 6, 7, 8], [72, 73, 75], [(76, .u (.c (.sl true 6 (((([] : List S30) ++ v5.l) ++ [a1]).map eE)))), (73, .junk), (72, .junk)], some 76, true⟩, eu 10 [67] 77 (.addr 0 (.d) [] 0), eu 11 [77] 78 (.addr 0 (.d) [] 0), ⟨List.range 12, [0, 72, 76, 78], [(0, .u (.c (.pt true [.sl true 6 (((([] : List S30) ++ v5.l) ++ [a1]).map eE), .v (.bool v5.b)]))), (76, .junk), (72, .junk)], none, true⟩] hm (by kernel_rfl) (by kernel_rfl) (by kernel_rfl) (en (.cons (fun σ hc => e_put hc rfl rfl (os_toG (os_plain rfl rfl (s_buildSlice (sz := 6) (len := 0) (us := []) (cs := []) rfl sliceZ22 .nil (by kernel_rfl) (Nat.le_of_ble_eq_true rfl) rfl (by kernel_rfl))) (t' := .u (.c (.sl true 6 (([] : List S30).map eE)))) (by kernel_rfl))) (en (en (en (en (.cons (fun σ hc => e_eq (os_toG (os_plain rfl rfl (s_appendM (i := 68) (sz := 6) (rows := ([] : List S30).map eE) (rows2 := v5.l.map eE) rfl sliceZ22 (by kernel_rfl) (.v1 (r := 0) (lo := 0) (n := (v5.l.map eE).length) (off := 0) (s := .d) (p := []) (c := bufC v5) (cs := [.sl true 6 (v5.l.map eE), .v (.bool v5.b)]) (own := true) (rows := v5.l.map eE) (by kernel_rfl) (by kernel_rfl) rfl rfl rows_all) (copy_map eE_copy) (lenMap2 hg11) (Nat.le_of_ble_eq_true rfl) rfl (by kernel_rfl))) (t' := .u (.c (.sl true 6 ((([] : List S30) ++ v5.l).map eE)))) (by simp only [List.map_append])) (call_overD (D := [72]) hc rfl rfl (by kernel_rfl) rfl)) (en (.cons (fun σ hc => e_put hc rfl rfl (os_toG (os_plain rfl rfl (s_buildSlice (sz := 6) (len := 1) (us := [(0, .agg [.v (.int .i64 a1.f0), .v (.int .i64 a1.f1), .v (.int .i64 a1.f2), .v (.int .i64 a1.f3), .v (.bool a1.f4), .v (.bool a1.f5)])]) (cs := [.v (.int .i64 a1.f0), .v (.int .i64 a1.f1), .v (.int .i64 a1.f2), .v (.int .i64 a1.f3), .v (.bool a1.f4), .v (.bool a1.f5)]) rfl sliceZ22 (.cons (.copy (by kernel_rfl) (by kernel_rfl) (by kernel_rfl)) .nil) (by kernel_rfl) (Nat.le_of_ble_eq_true rfl) rfl (by kernel_rfl))) (t' := .u (.c (.sl true 6 ([a1].map eE)))) (by kernel_rfl))) (.cons (fun σ hc => e_eq (os_toG (os_plain rfl rfl (s_appendM (i := 73) (sz := 6) (rows := (([] : List S30) ++ v5.l).map eE) (rows2 := [a1].map eE) rfl sliceZ22 (by kernel_rfl) (.v0 (r := 75) (lo := 0) (n := ([a1].map eE).length) (own := true) (rows := [a1].map eE) (by kernel_rfl) (by kernel_rfl) rows_all) (copy_map eE_copy) (lenMap2 hg12) (Nat.le_of_ble_eq_true rfl) rfl (by kernel_rfl))) (t' := .u (.c (.sl true 6 (((([] : List S30) ++ v5.l) ++ [a1]).map eE)))) (by simp only [List.map_append])) (call_overD (D := [72]) hc rfl rfl (by kernel_rfl) rfl)) (en (en (.cons (fun σ hc => e_eq (os_plain rfl rfl (s_store (n := 1) (r := 0) (off := 0) (s := .d) (p := []) (c := bufC v5) (cs := [.sl true 6 (v5.l.map eE), .v (.bool v5.b)]) (u := .c (.sl true 6 (((([] : List S30) ++ v5.l) ++ [a1]).map eE))) (l := [76]) rfl (by kernel_rfl) (by kernel_rfl) (.move (by kernel_rfl) (by kernel_rfl)) (by kernel_rfl) rfl rfl rfl (Nat.le_of_ble_eq_true rfl) (by kernel_rfl) rfl)) (kill_junks_overD (l := [76]) (D := [72]) hc rfl (by kernel_rfl) rfl)) .nil))))))))))))) (by kernel_rfl) ?_
    obtain rfl := Option.some.inj h
    exact ⟨.inl rfl, _, _, .nil, rfl, outs_of ⟨⟨rfl, rfl⟩, trivial⟩⟩
  have h := cond_f hb h
  refine r_condF hb rfl ?_
  refine r_skip ?_
  refine r_seq ?_
  refine r_seq ?_
  refine rr [(0, .u (.c (bufC v1))), (3, .u (.c (.pt true [.v (.int .i64 a1.f0), .v (.int .i64 a1.f1), .v (.int .i64 a1.f2), .v (.int .i64 a1.f3), .v (.bool a1.f4), .v (.bool a1.f5)]))), (5, tI 0)] (cgt 1 [5] .nil) ?_
  refine r_block ?_
  refine r_weak (of_weak (l := [(0, .u (.c (bufC v1))), (3, .u (.c (.pt true [.v (.int .i64 a1.f0), .v (.int .i64 a1.f1), .v (.int .i64 a1.f2), .v (.int .i64 a1.f3), .v (.bool a1.f4), .v (.bool a1.f5)]))), (5, tI 0)]) (by kernel_rfl)) ?_
  refine r_loopI (α := Buf × Int) (fun x => [(0, .u (.c (bufC x.1))), (3, .u (.c (.pt true [.v (.int .i64 a1.f0), .v (.int .i64 a1.f1), .v (.int .i64 a1.f2), .v (.int .i64 a1.f3), .v (.bool a1.f4), .v (.bool a1.f5)]))), (5, tI x.2)]) (fun n x => RFill.l3 k a0 a1 v1 v2 n x.1 x.2 = some r) k (v1, 0) h (by intro x h; unfold RFill.l3 at h; cases h) ?_
  rintro n3 ⟨v13, v14⟩ h
  replace h : RFill.l3 k a0 a1 v1 v2 (n3 + 1) v13 v14 = some r := h
  unfold RFill.l3 at h
  show Run _ _ _ (St.of [(0, .u (.c (bufC v13))), (3, .u (.c (.pt true [.v (.int .i64 a1.f0), .v (.int .i64 a1.f1), .v (.int .i64 a1.f2), .v (.int .i64 a1.f3), .v (.bool a1.f4), .v (.bool a1.f5)]))), (5, tI v14)]) _
  refine r_seq ?_
  refine r_seq ?_
  refine rr [(0, .u (.c (bufC v13))), (3, .u (.c (.pt true [.v (.int .i64 a1.f0), .v (.int .i64 a1.f1), .v (.int .i64 a1.f2), .v (.int .i64 a1.f3), .v (.bool a1.f4), .v (.bool a1.f5)]))), (5, tI v14), (45, tB (decide (v14 < (v13.l.length : Int))))] (cgt 5 [39, 40, 41, 42, 43] (cot 6 (os_to (os_plain rfl rfl (s_lenV (r := 0) (lo := 0) (n := (v13.l.map eE).length) (pl := (some (.d, [], 0))) (sz := 6) rfl sl22 (by kernel_rfl) rfl (by kernel_rfl))) (t' := tI (v13.l.length : Int)) (by rw [List.length_map])) (cgt 7 [45] .nil))) ?_
  rcases Bool.eq_false_or_eq_true (decide (v14 < (v13.l.length : Int))) with hb | hb
  · have h := cond_t hb h
    refine r_condT hb rfl ?_
    refine r_skip ?_
    refine r_seq ?_
    refine r_block ?_
    refine r_seq ?_
    obtain ⟨hg15, h⟩ := guard_some h
    simp only [Bool.and_eq_true, decide_eq_true_eq] at hg15
    obtain ⟨r16, hr16, h⟩ := bind_some h
    refine r_weak (of_weak (l := [(0, .u (.c (bufC v13))), (3, .u (.c (.pt true [.v (.int .i64 a1.f0), .v (.int .i64 a1.f1), .v (.int .i64 a1.f2), .v (.int .i64 a1.f3), .v (.bool a1.f4), .v (.bool a1.f5)]))), (5, tI v14), (45, tB (decide (v14 < (v13.l.length : Int))))]) (by kernel_rfl)) ?_
    refine r_anyW (l := [(0, .u (.c (bufC v13))), (3, .u (.c (.pt true [.v (.int .i64 a1.f0), .v (.int .i64 a1.f1), .v (.int .i64 a1.f2), .v (.int .i64 a1.f3), .v (.bool a1.f4), .v (.bool a1.f5)]))), (5, tI v14), (6, tB r16)]) (tab := [[], [0], [1], [2], [], [3, 4], [5], [], [6, 7], [8, 8, 0, 1, 2, 3, 4, 5, 6, 7, 8]]) [ev [] [0] 48 (.addr 0 (.d) [] 0), ev [0] [48] 49 (.addr 0 (.d) [] 0), ev [0, 1] [49] 50 (.addr 0 (.d) [] 0), ev [0, 1, 2] [0, 50] 51 (.whole 0 (some (.d, [], 0)) 6 ((v13.l.map eE).length)), ev [] [5] 52 (tI v14), ev [0, 1, 2, 3, 4] [0, 51, 52] 53 (.addr 0 (.d) [(0, .i ((v14).toNat) 6)] 0), eu 6 [0, 53] 54 (.u (.agg [.v (.int .i64 ((v13.l.getD ((v14).toNat) z30).f0)), .v (.int .i64 ((v13.l.getD ((v14).toNat) z30).f1)), .v (.int .i64 ((v13.l.getD ((v14).toNat) z30).f2)), .v (.int .i64 ((v13.l.getD ((v14).toNat) z30).f3)), .v (.bool ((v13.l.getD ((v14).toNat) z30).f4)), .v (.bool ((v13.l.getD ((v14).toNat) z30).f5))])), ev [] [3] 55 (.u (.agg [.v (.int .i64 a1.f0), .v (.int .i64 a1.f1), .v (.int .i64 a1.f2), .v (.int .i64 a1.f3), .v (.bool a1.f4), .v (.bool a1.f5)])), eu 8 [54, 55] 56 (tB r16), eu 9 [56] 6 (tB r16)] hm (by kernel_rfl) (by kernel_rfl) (by kernel_rfl) (en (en (en (en (en (.cons (fun σ hc => e_put hc rfl rfl (os_plain rfl rfl (s_indexV (r := 0) (lo := 0) (n := (v13.l.map eE).length) (pl := (some (.d, [], 0))) (sz := 6) (e := v14) (ik := .i64) (k := (v14).toNat) rfl sl22 (by kernel_rfl) (.tmp (by kernel_rfl)) hg15.1 (by rw [List.length_map]; exact hg15.2) (Nat.zero_add _) rfl (by kernel_rfl) (by kernel_rfl)))) (.cons (fun σ hc => e_put hc rfl rfl (os_plain rfl rfl (s_loadA (n := 6) (xs := [.v (.int .i64 ((v13.l.getD ((v14).toNat) z30).f0)), .v (.int .i64 ((v13.l.getD ((v14).toNat) z30).f1)), .v (.int .i64 ((v13.l.getD ((v14).toNat) z30).f2)), .v (.int .i64 ((v13.l.getD ((v14).toNat) z30).f3)), .v (.bool ((v13.l.getD ((v14).toNat) z30).f4)), .v (.bool ((v13.l.getD ((v14).toNat) z30).f5))]) (r := 0) (off := 0) (s := .d) (p := [(0, .i ((v14).toNat) 6)]) (c := bufC v13) (cs := (eE (v13.l.getD ((v14).toNat) z30))) rfl (aggB_ok (by kernel_rfl)) (by kernel_rfl) (by kernel_rfl) (getP_in (c' := .sl true 6 (v13.l.map eE)) rfl (getP_map (f := eE) (own := true) (xs := v13.l) (k := (v14).toNat) z30 (by have := hg15; omega))) rfl rfl rfl rfl (by kernel_rfl)))) (en (.cons (fun σ hc => e_put hc rfl rfl (os_plain rfl rfl (c_callQ (res := [.c (.v (.bool r16))]) (AC.k (paviorref05_Clash.ac (h := hr16))) ⟨_, Try.func35, rfl, by kernel_rfl⟩ rfl (.cons (.copy (by kernel_rfl) rfl) (.cons (.copy (by kernel_rfl) rfl) .nil)) (by kernel_rfl)))) (en .nil)))))))))) (by kernel_rfl) ?_
    rcases Bool.eq_false_or_eq_true (v13.b) with hb | hb
    · have h := cond_t hb h
      have hs17 := hb
      refine rr [(0, .u (.c (.pt true [.sl true 6 (v13.l.map eE), .v (.bool true)]))), (3, .u (.c (.pt true [.v (.int .i64 a1.f0), .v (.int .i64 a1.f1), .v (.int .i64 a1.f2), .v (.int .i64 a1.f3), .v (.bool a1.f4), .v (.bool a1.f5)]))), (5, tI v14)] (cgt 5 [57, 58, 59, 60, 61] (cot 6 (os_ge (d := 62) (t := tB v13.b) (t' := tB true) (by kernel_rfl) (by rw [hs17])) (cgt 10 [63, 64, 65, 66] (cot 11 (os_plain rfl rfl (s_storeS (n := 1) (r := 0) (off := 1) (s := .d) (p := []) (c := bufC v13) (cs := [.sl true 6 (v13.l.map eE), .v (.bool v13.b)]) (u := .c (.v (.bool true))) rfl (by kernel_rfl) (by kernel_rfl) (by kernel_rfl) rfl (by kernel_rfl) rfl rfl rfl rfl (Nat.le_of_ble_eq_true rfl) (by kernel_rfl) (by kernel_rfl) rfl rfl)) .nil)))) ?_
      refine rr [(0, .u (.c (.pt true [.sl true 6 (v13.l.map eE), .v (.bool true)]))), (3, .u (.c (.pt true [.v (.int .i64 a1.f0), .v (.int .i64 a1.f1), .v (.int .i64 a1.f2), .v (.int .i64 a1.f3), .v (.bool a1.f4), .v (.bool a1.f5)]))), (5, tI (i64.wrap (v14 + 1)))] (cgt 3 [46, 47, 5] .nil) ?_
      exact ⟨((⟨v13.l, true⟩ : Buf), i64.wrap (v14 + 1)), h, of_weak (by kernel_rfl)⟩
    have h := cond_f hb h
    have hs18 := hb
    refine rr [(0, .u (.c (.pt true [.sl true 6 (v13.l.map eE), .v (.bool r16)]))), (3, .u (.c (.pt true [.v (.int .i64 a1.f0), .v (.int .i64 a1.f1), .v (.int .i64 a1.f2), .v (.int .i64 a1.f3), .v (.bool a1.f4), .v (.bool a1.f5)]))), (5, tI v14)] (cgt 5 [57, 58, 59, 60, 61] (cot 6 (os_ge (d := 62) (t := tB v13.b) (t' := tB false) (by kernel_rfl) (by rw [hs18])) (cgt 10 [63, 64, 65, 66] (cot 11 (os_plain rfl rfl (s_storeS (n := 1) (r := 0) (off := 1) (s := .d) (p := []) (c := bufC v13) (cs := [.sl true 6 (v13.l.map eE), .v (.bool v13.b)]) (u := .c (.v (.bool r16))) rfl (by kernel_rfl) (by kernel_rfl) (by kernel_rfl) rfl (by kernel_rfl) rfl rfl rfl rfl (Nat.le_of_ble_eq_true rfl) (by kernel_rfl) (by kernel_rfl) rfl rfl)) .nil)))) ?_
    refine rr [(0, .u (.c (.pt true [.sl true 6 (v13.l.map eE), .v (.bool r16)]))), (3, .u (.c (.pt true [.v (.int .i64 a1.f0), .v (.int .i64 a1.f1), .v (.int .i64 a1.f2), .v (.int .i64 a1.f3), .v (.bool a1.f4), .v (.bool a1.f5)]))), (5, tI (i64.wrap (v14 + 1)))] (cgt 3 [46, 47, 5] .nil) ?_
    exact ⟨((⟨v13.l, r16⟩ : Buf), i64.wrap (v14 + 1)), h, of_weak (by kernel_rfl)⟩
  have h := cond_f hb h
  refine r_condF hb rfl ?_
  refine r_exit ?_
  obtain ⟨hg19, h⟩ := guard_some h
  simp only [decide_eq_true_eq] at hg19
  obtain ⟨hg20, h⟩ := guard_some h
  simp only [decide_eq_true_eq] at hg20
  refine r_weak (of_weak (l := [(0, .u (.c (bufC v13))), (3, .u (.c (.pt true [.v (.int .i64 a1.f0), .v (.int .i64 a1.f1), .v (.int .i64 a1.f2), .v (.int .i64 a1.f3), .v (.bool a1.f4), .v (.bool a1.f5)]))), (5, tI v14), (45, tB (decide (v14 < (v13.l.length : Int))))]) (by kernel_rfl)) ?_
  refine r_anyW (l := [(0, .u (.c (.pt true [.sl true 6 (((([] : List S30) ++ v13.l) ++ [a1]).map eE), .v (.bool v13.b)])))]) (tab := [[], [], [], [2], [3], [4], [1, 5], [], [7], [6, 8, 6], [0, 0, 1, 2, 3, 4, 5, 6, 7, 8, 9], [10, 0, 1, 2, 3, 4, 5, 6, 7, 8, 9], [11, 9, 9, 0, 1, 2, 3, 4, 5, 6, 7, 8, 9]]) [ev [] [0] 67 (.addr 0 (.d) [] 0), ev [] [] 68 (.u (.c (.sl true 6 (([] : List S30).map eE)))), ev [] [0] 69 (.addr 0 (.d) [] 0), ev [2] [69] 70 (.addr 0 (.d) [] 0), ev [2, 3] [70] 71 (.addr 0 (.d) [] 0), ev [2, 3, 4] [0, 71] 72 (.whole 0 (some (.d, [], 0)) 6 ((v13.l.map eE).length)), ⟨[1, 2, 3, 4, 5], [0, 68, 72], [(73, .u (.c (.sl true 6 ((([] : List S30) ++ v13.l).map eE)))), (68, .junk), (72, .junk)], some 73, true⟩, ev [] [3] 74 (.u (.agg [.v (.int .i64 a1.f0), .v (.int .i64 a1.f1), .v (.int .i64 a1.f2), .v (.int .i64 a1.f3), .v (.bool a1.f4), .v (.bool a1.f5)])), ev [7] [74] 75 (.u (.c (.sl true 6 ([a1].map eE)))), ⟨[1, 2, 3, 4, 5, 6, 7, 8], [72, 73, 75], [(76, .u (.c (.sl true 6 (((([] : List S30) ++ v13.l) ++ [a1]).map eE)))), (73, .junk), (72, .junk)], some 76, true⟩, eu 10 [67] 77 (.addr 0 (.d) [] 0), eu 11 [77] 78 (.addr 0 (.d) [] 0), ⟨List.range 12, [0, 72, 76, 78], [(0, .u (.c (.pt true [.sl true 6 (((([] : List S30) ++ v13.l) ++ [a1]).map eE), .v (.bool v13.b)]))), (76, .junk), (72, .junk)], none, true⟩] hm (by kernel_rfl) (by kernel_rfl) (by kernel_rfl) (en (.cons (fun σ hc => e_put hc rfl rfl (os_toG (os_plain rfl rfl (s_buildSlice (sz := 6) (len := 0) (us := []) (cs := []) rfl sliceZ22 .nil (by kernel_rfl) (Nat.le_of_ble_eq_true rfl) rfl (by kernel_rfl))) (t' := .u (.c (.sl true 6 (([] : List S30).map eE)))) (by kernel_rfl))) (en (en (en (en (.cons (fun σ hc => e_eq (os_toG (os_plain rfl rfl (s_appendM (i := 68) (sz := 6) (rows := ([] : List S30).map eE) (rows2 := v13.l.map eE) rfl sliceZ22 (by kernel_rfl) (.v1 (r := 0) (lo := 0) (n := (v13.l.map eE).length) (off := 0) (s := .d) (p := []) (c := bufC v13) (cs := [.sl true 6 (v13.l.map eE), .v (.bool v13.b)]) (own := true) (rows := v13.l.map eE) (by kernel_rfl) (by kernel_rfl) rfl rfl rows_all) (copy_map eE_copy) (lenMap2 hg19) (Nat.le_of_ble_eq_true rfl) rfl (by kernel_rfl))) (t' := .u (.c (.sl true 6 ((([] : List S30) ++ v13.l).map eE)))) (by simp only [List.map_append])) (call_overD (D := [72]) hc rfl rfl (by kernel_rfl) rfl)) (en (.cons (fun σ hc => e_put hc rfl rfl (os_toG (os_plain rfl rfl (s_buildSlice (sz := 6) (len := 1) (us := [(0, .agg [.v (.int .i64 a1.f0), .v (.int .i64 a1.f1), .v (.int .i64 a1.f2), .v (.int .i64 a1.f3), .v (.bool a1.f4), .v (.bool a1.f5)])]) (cs := [.v (.int .i64 a1.f0), .v (.int .i64 a1.f1), .v (.int .i64 a1.f2), .v (.int .i64 a1.f3), .v (.bool a1.f4), .v (.bool a1.f5)]) rfl sliceZ22 (.cons (.copy (by kernel_rfl) (by kernel_rfl) (by kernel_rfl)) .nil) (by kernel_rfl) (Nat.le_of_ble_eq_true rfl) rfl (by kernel_rfl))) (t' := .u (.c (.sl true 6 ([a1].map eE)))) (by kernel_rfl))) (.cons (fun σ hc => e_eq (os_toG (os_plain rfl rfl (s_appendM (i := 73) (sz := 6) (rows := (([] : List S30) ++ v13.l).map eE) (rows2 := [a1].map eE) rfl sliceZ22 (by kernel_rfl) (.v0 (r := 75) (lo := 0) (n := ([a1].map eE).length) (own := true) (rows := [a1].map eE) (by kernel_rfl) (by kernel_rfl) rows_all) (copy_map eE_copy) (lenMap2 hg20) (Nat.le_of_ble_eq_true rfl) rfl (by kernel_rfl))) (t' := .u (.c (.sl true 6 (((([] : List S30) ++ v13.l) ++ [a1]).map eE)))) (by simp only [List.map_append])) (call_overD (D := [72]) hc rfl rfl (by kernel_rfl) rfl)) (en (en (.cons (fun σ hc => e_eq (os_plain rfl rfl (s_store (n := 1) (r := 0) (off := 0) (s := .d) (p := []) (c := bufC v13) (cs := [.sl true 6 (v13.l.map eE), .v (.bool v13.b)]) (u := .c (.sl true 6 (((([] : List S30) ++ v13.l) ++ [a1]).map eE))) (l := [76]) rfl (by kernel_rfl) (by kernel_rfl) (.move (by kernel_rfl) (by kernel_rfl)) (by kernel_rfl) rfl rfl rfl (Nat.le_of_ble_eq_true rfl) (by kernel_rfl) rfl)) (kill_junks_overD (l := [76]) (D := [72]) hc rfl (by kernel_rfl) rfl)) .nil))))))))))))) (by kernel_rfl) ?_
  obtain rfl := Option.some.inj h
  exact ⟨.inl rfl, _, _, .nil, rfl, outs_of ⟨⟨rfl, rfl⟩, trivial⟩⟩
def RDrop.l1 (k : Nat) (a0 : Buf) (a1 : Int) (a2 : Int) : Nat → Buf → (List S30) → Int → Option (Buf)
  | 0, _, _, _ => none
  | n1 + 1, v1, v2, v3 => (bif decide (v3 < (v1.l.length : Int)) then (bif decide (0 ≤ v3) && decide (v3 < (v1.l.length : Int)) then (paviorref05_Is.f ((v1.l.getD ((v3).toNat) z30).f0) ((v1.l.getD ((v3).toNat) z30).f1) ((v1.l.getD ((v3).toNat) z30).f2) ((v1.l.getD ((v3).toNat) z30).f3) ((v1.l.getD ((v3).toNat) z30).f4) ((v1.l.getD ((v3).toNat) z30).f5) a1 a2).bind fun (r5 : Bool) => (bif !r5 then (bif decide (a2 < 0) then (bif decide (0 ≤ v3) && decide (v3 < (v1.l.length : Int)) then (bif !(((v1.l.getD ((v3).toNat) z30).f0) == a1) then (bif decide (0 ≤ v3) && decide (v3 < (v1.l.length : Int)) then (bif decide (v2.length + [(v1.l.getD ((v3).toNat) z30)].length ≤ 1000000) then RDrop.l1 k a0 a1 a2 n1 v1 (v2 ++ [(v1.l.getD ((v3).toNat) z30)]) (i64.wrap (v3 + 1)) else none) else none) else RDrop.l1 k a0 a1 a2 n1 v1 v2 (i64.wrap (v3 + 1))) else none) else (bif decide (0 ≤ v3) && decide (v3 < (v1.l.length : Int)) then (bif decide (v2.length + [(v1.l.getD ((v3).toNat) z30)].length ≤ 1000000) then RDrop.l1 k a0 a1 a2 n1 v1 (v2 ++ [(v1.l.getD ((v3).toNat) z30)]) (i64.wrap (v3 + 1)) else none) else none)) else RDrop.l1 k a0 a1 a2 n1 v1 v2 (i64.wrap (v3 + 1))) else none) else some (⟨v2, v1.b⟩ : Buf))
set_option maxHeartbeats 4000000 in
def RDrop.f (k : Nat) (a0 : Buf) (a1 : Int) (a2 : Int) : Option (Buf) :=
  RDrop.l1 k a0 a1 a2 k a0 [] 0
set_option maxHeartbeats 4000000 in
theorem RDrop.ac (k : Nat) (a0 : Buf) (a1 : Int) (a2 : Int) (r : Buf) (h : RDrop.f k a0 a1 a2 = some r) : AC Try.prog 48 19 [.c (bufC a0), .c (.v (.int .i64 a1)), .c (.v (.int .i64 a2))] [some (.c (bufC r)), none, none] [] := by
  unfold RDrop.f at h
  refine ac_intro (fn := Try.f19) (pins := [0]) (rts := []) Try.func19 rfl Try.ntmps19 rfl (Nat.le_of_ble_eq_true rfl) (pins_lt rfl) rfl (fun w R E vs => ?_)
  refine r_weak (of_weak (l := [(0, .u (.c (bufC a0))), (1, tI a1), (2, tI a2)]) (by kernel_rfl)) ?_
  refine r_seq ?_
  refine rr [(0, .u (.c (bufC a0))), (1, tI a1), (2, tI a2), (6, .u (.c (.sl true 6 ([].map eE))))] (cot 1 (os_plain rfl rfl (s_take (.inr rfl) (.sl 6) rfl (by kernel_rfl))) .nil) ?_
  refine r_seq ?_
  refine r_seq ?_
  refine rr [(0, .u (.c (bufC a0))), (1, tI a1), (2, tI a2), (6, .u (.c (.sl true 6 ([].map eE)))), (7, tI 0)] (cgt 1 [7] .nil) ?_
  refine r_block ?_
  refine r_weak (of_weak (l := [(0, .u (.c (bufC a0))), (1, tI a1), (2, tI a2), (6, .u (.c (.sl true 6 ([].map eE)))), (7, tI 0)]) (by kernel_rfl)) ?_
  refine r_loopI (α := Buf × (List S30) × Int) (fun x => [(0, .u (.c (bufC x.1))), (1, tI a1), (2, tI a2), (6, .u (.c (.sl true 6 (x.2.1.map eE)))), (7, tI x.2.2)]) (fun n x => RDrop.l1 k a0 a1 a2 n x.1 x.2.1 x.2.2 = some r) k (a0, [], 0) h (by intro x h; unfold RDrop.l1 at h; cases h) ?_
  rintro n1 ⟨v1, v2, v3⟩ h
  replace h : RDrop.l1 k a0 a1 a2 (n1 + 1) v1 v2 v3 = some r := h
  unfold RDrop.l1 at h
  show Run _ _ _ (St.of [(0, .u (.c (bufC v1))), (1, tI a1), (2, tI a2), (6, .u (.c (.sl true 6 (v2.map eE)))), (7, tI v3)]) _
  refine r_seq ?_
  refine r_seq ?_
  refine rr [(0, .u (.c (bufC v1))), (1, tI a1), (2, tI a2), (6, .u (.c (.sl true 6 (v2.map eE)))), (7, tI v3), (15, tB (decide (v3 < (v1.l.length : Int))))] (cgt 5 [9, 10, 11, 12, 13] (cot 6 (os_to (os_plain rfl rfl (s_lenV (r := 0) (lo := 0) (n := (v1.l.map eE).length) (pl := (some (.d, [], 0))) (sz := 6) rfl sl22 (by kernel_rfl) rfl (by kernel_rfl))) (t' := tI (v1.l.length : Int)) (by rw [List.length_map])) (cgt 7 [15] .nil))) ?_
  rcases Bool.eq_false_or_eq_true (decide (v3 < (v1.l.length : Int))) with hb | hb
  · have h := cond_t hb h
    refine r_condT hb rfl ?_
    refine r_skip ?_
    refine r_seq ?_
    refine r_block ?_
    refine r_seq ?_
    obtain ⟨hg4, h⟩ := guard_some h
    simp only [Bool.and_eq_true, decide_eq_true_eq] at hg4
    obtain ⟨r5, hr5, h⟩ := bind_some h
    refine rr [(0, .u (.c (bufC v1))), (1, tI a1), (2, tI a2), (6, .u (.c (.sl true 6 (v2.map eE)))), (7, tI v3), (8, tB r5)] (cgt 5 [18, 19, 20, 21, 22] (cot 6 (os_plain rfl rfl (s_indexV (r := 0) (lo := 0) (n := (v1.l.map eE).length) (pl := (some (.d, [], 0))) (sz := 6) (e := v3) (ik := .i64) (k := (v3).toNat) rfl sl22 (by kernel_rfl) (.tmp (by kernel_rfl)) hg4.1 (by rw [List.length_map]; exact hg4.2) (Nat.zero_add _) rfl (by kernel_rfl) (by kernel_rfl))) (cot 7 (os_plain rfl rfl (s_loadA (n := 6) (xs := [.v (.int .i64 ((v1.l.getD ((v3).toNat) z30).f0)), .v (.int .i64 ((v1.l.getD ((v3).toNat) z30).f1)), .v (.int .i64 ((v1.l.getD ((v3).toNat) z30).f2)), .v (.int .i64 ((v1.l.getD ((v3).toNat) z30).f3)), .v (.bool ((v1.l.getD ((v3).toNat) z30).f4)), .v (.bool ((v1.l.getD ((v3).toNat) z30).f5))]) (r := 0) (off := 0) (s := .d) (p := [(0, .i ((v3).toNat) 6)]) (c := bufC v1) (cs := (eE (v1.l.getD ((v3).toNat) z30))) rfl (aggB_ok (by kernel_rfl)) (by kernel_rfl) (by kernel_rfl) (getP_in (c' := .sl true 6 (v1.l.map eE)) rfl (getP_map (f := eE) (own := true) (xs := v1.l) (k := (v3).toNat) z30 (by have := hg4; omega))) rfl rfl rfl rfl (by kernel_rfl))) (cgt 9 [25, 26] (cot 10 (os_plain rfl rfl (c_callQ (AC.k (paviorref05_Is.ac (h := hr5))) ⟨_, Try.func37, rfl, by kernel_rfl⟩ rfl (.cons (.copy (by kernel_rfl) rfl) (.cons (.copy (by kernel_rfl) rfl) (.cons (.copy (by kernel_rfl) rfl) .nil))) (by kernel_rfl))) (cgt 11 [8] .nil)))))) ?_
    refine r_seq ?_
    rcases Bool.eq_false_or_eq_true (!r5) with hb | hb
    · have h := cond_t hb h
      have hs6 := hb
      rcases Bool.eq_false_or_eq_true (decide (a2 < 0)) with hb | hb
      · have h := cond_t hb h
        have hs7 := hb
        obtain ⟨hg8, h⟩ := guard_some h
        simp only [Bool.and_eq_true, decide_eq_true_eq] at hg8
        refine rr [(0, .u (.c (bufC v1))), (1, tI a1), (2, tI a2), (6, .u (.c (.sl true 6 (v2.map eE)))), (7, tI v3), (46, tB (!(((v1.l.getD ((v3).toNat) z30).f0) == a1)))] (cgt 2 [28, 29] (cot 3 (os_ge (d := 30) (t := tB (!r5)) (t' := tB true) (by kernel_rfl) (by rw [hs6])) (cgt 5 [31, 32] (cot 6 (os_ge (d := 33) (t := tB (decide (a2 < 0))) (t' := tB true) (by kernel_rfl) (by rw [hs7])) (cgt 11 [34, 35, 36, 37, 38] (cot 12 (os_gy rfl rfl rfl (by kernel_rfl) (s_indexV (r := 0) (lo := 0) (n := (v1.l.map eE).length) (pl := (some (.d, [], 0))) (sz := 6) (e := v3) (ik := .i64) (k := (v3).toNat) rfl sl22 (by kernel_rfl) (.tmp (by kernel_rfl)) hg8.1 (by rw [List.length_map]; exact hg8.2) (Nat.zero_add _) rfl (by kernel_rfl) (by kernel_rfl))) (cgt 13 [40] (cot 14 (os_gy rfl rfl rfl (by kernel_rfl) (s_load1 (x := .v (.int .i64 ((v1.l.getD ((v3).toNat) z30).f0))) (r := 0) (off := 0) (s := .d) (p := [(0, .i ((v3).toNat) 6)]) (c := bufC v1) (cs := (eE (v1.l.getD ((v3).toNat) z30))) rfl (oneB_ok (by kernel_rfl)) (by kernel_rfl) (by kernel_rfl) (getP_in (c' := .sl true 6 (v1.l.map eE)) rfl (getP_map (f := eE) (own := true) (xs := v1.l) (k := (v3).toNat) z30 (by have := hg8; omega))) rfl rfl rfl (by kernel_rfl))) (cgt 19 [42, 43, 44, 45, 46] .nil))))))))) ?_
        rcases Bool.eq_false_or_eq_true (!(((v1.l.getD ((v3).toNat) z30).f0) == a1)) with hb | hb
        · have h := cond_t hb h
          refine r_condT hb rfl ?_
          obtain ⟨hg9, h⟩ := guard_some h
          simp only [Bool.and_eq_true, decide_eq_true_eq] at hg9
          obtain ⟨hg10, h⟩ := guard_some h
          simp only [decide_eq_true_eq] at hg10
          refine rr [(0, .u (.c (bufC v1))), (1, tI a1), (2, tI a2), (6, .u (.c (.sl true 6 ((v2 ++ [(v1.l.getD ((v3).toNat) z30)]).map eE)))), (7, tI v3)] (cot 1 (os_plain rfl rfl (s_take (u := .c (.sl true 6 (v2.map eE))) (.inl rfl) (.move (by kernel_rfl) rfl) rfl (by kernel_rfl))) (cgt 6 [48, 49, 50, 51, 52] (cot 7 (os_plain rfl rfl (s_indexV (r := 0) (lo := 0) (n := (v1.l.map eE).length) (pl := (some (.d, [], 0))) (sz := 6) (e := v3) (ik := .i64) (k := (v3).toNat) rfl sl22 (by kernel_rfl) (.tmp (by kernel_rfl)) hg9.1 (by rw [List.length_map]; exact hg9.2) (Nat.zero_add _) rfl (by kernel_rfl) (by kernel_rfl))) (cot 8 (os_plain rfl rfl (s_loadA (n := 6) (xs := [.v (.int .i64 ((v1.l.getD ((v3).toNat) z30).f0)), .v (.int .i64 ((v1.l.getD ((v3).toNat) z30).f1)), .v (.int .i64 ((v1.l.getD ((v3).toNat) z30).f2)), .v (.int .i64 ((v1.l.getD ((v3).toNat) z30).f3)), .v (.bool ((v1.l.getD ((v3).toNat) z30).f4)), .v (.bool ((v1.l.getD ((v3).toNat) z30).f5))]) (r := 0) (off := 0) (s := .d) (p := [(0, .i ((v3).toNat) 6)]) (c := bufC v1) (cs := (eE (v1.l.getD ((v3).toNat) z30))) rfl (aggB_ok (by kernel_rfl)) (by kernel_rfl) (by kernel_rfl) (getP_in (c' := .sl true 6 (v1.l.map eE)) rfl (getP_map (f := eE) (own := true) (xs := v1.l) (k := (v3).toNat) z30 (by have := hg9; omega))) rfl rfl rfl rfl (by kernel_rfl))) (cot 9 (os_toG (os_plain rfl rfl (s_buildSlice (sz := 6) (len := 1) (us := [(0, .agg [.v (.int .i64 ((v1.l.getD ((v3).toNat) z30).f0)), .v (.int .i64 ((v1.l.getD ((v3).toNat) z30).f1)), .v (.int .i64 ((v1.l.getD ((v3).toNat) z30).f2)), .v (.int .i64 ((v1.l.getD ((v3).toNat) z30).f3)), .v (.bool ((v1.l.getD ((v3).toNat) z30).f4)), .v (.bool ((v1.l.getD ((v3).toNat) z30).f5))])]) (cs := [.v (.int .i64 ((v1.l.getD ((v3).toNat) z30).f0)), .v (.int .i64 ((v1.l.getD ((v3).toNat) z30).f1)), .v (.int .i64 ((v1.l.getD ((v3).toNat) z30).f2)), .v (.int .i64 ((v1.l.getD ((v3).toNat) z30).f3)), .v (.bool ((v1.l.getD ((v3).toNat) z30).f4)), .v (.bool ((v1.l.getD ((v3).toNat) z30).f5))]) rfl sliceZ22 (.cons (.copy (by kernel_rfl) (by kernel_rfl) (by kernel_rfl)) .nil) (by kernel_rfl) (Nat.le_of_ble_eq_true rfl) rfl (by kernel_rfl))) (t' := .u (.c (.sl true 6 ([(v1.l.getD ((v3).toNat) z30)].map eE)))) (by kernel_rfl)) (cot 10 (os_toG (os_plain rfl rfl (s_appendM (i := 47) (sz := 6) (rows := v2.map eE) (rows2 := [(v1.l.getD ((v3).toNat) z30)].map eE) rfl sliceZ22 (by kernel_rfl) (.v0 (r := 55) (lo := 0) (n := ([(v1.l.getD ((v3).toNat) z30)].map eE).length) (own := true) (rows := [(v1.l.getD ((v3).toNat) z30)].map eE) (by kernel_rfl) (by kernel_rfl) rows_all) (copy_map eE_copy) (lenMap2 hg10) (Nat.le_of_ble_eq_true rfl) rfl (by kernel_rfl))) (t' := .u (.c (.sl true 6 ((v2 ++ [(v1.l.getD ((v3).toNat) z30)]).map eE)))) (by simp only [List.map_append])) (cot 11 (os_plain rfl rfl (s_take (u := .c (.sl true 6 ((v2 ++ [(v1.l.getD ((v3).toNat) z30)]).map eE))) (.inr rfl) (.move (by kernel_rfl) rfl) rfl (by kernel_rfl))) .nil))))))) ?_
          refine rr [(0, .u (.c (bufC v1))), (1, tI a1), (2, tI a2), (6, .u (.c (.sl true 6 ((v2 ++ [(v1.l.getD ((v3).toNat) z30)]).map eE)))), (7, tI (i64.wrap (v3 + 1)))] (cgt 3 [16, 17, 7] .nil) ?_
          exact ⟨(v1, (v2 ++ [(v1.l.getD ((v3).toNat) z30)]), i64.wrap (v3 + 1)), h, of_weak (by kernel_rfl)⟩
        have h := cond_f hb h
        refine r_condF hb rfl ?_
        refine r_skip ?_
        refine rr [(0, .u (.c (bufC v1))), (1, tI a1), (2, tI a2), (6, .u (.c (.sl true 6 (v2.map eE)))), (7, tI (i64.wrap (v3 + 1)))] (cgt 3 [16, 17, 7] .nil) ?_
        exact ⟨(v1, v2, i64.wrap (v3 + 1)), h, of_weak (by kernel_rfl)⟩
      have h := cond_f hb h
      have hs11 := hb
      refine rr [(0, .u (.c (bufC v1))), (1, tI a1), (2, tI a2), (6, .u (.c (.sl true 6 (v2.map eE)))), (7, tI v3), (46, tB true)] (cgt 2 [28, 29] (cot 3 (os_ge (d := 30) (t := tB (!r5)) (t' := tB true) (by kernel_rfl) (by rw [hs6])) (cgt 5 [31, 32] (cot 6 (os_ge (d := 33) (t := tB (decide (a2 < 0))) (t' := tB false) (by kernel_rfl) (by rw [hs11])) (cgt 19 [34, 35, 36, 37, 38, 39, 40, 41, 42, 43, 44, 45, 46] .nil))))) ?_
      refine r_condT rfl rfl ?_
      obtain ⟨hg12, h⟩ := guard_some h
      simp only [Bool.and_eq_true, decide_eq_true_eq] at hg12
      obtain ⟨hg13, h⟩ := guard_some h
      simp only [decide_eq_true_eq] at hg13
      refine rr [(0, .u (.c (bufC v1))), (1, tI a1), (2, tI a2), (6, .u (.c (.sl true 6 ((v2 ++ [(v1.l.getD ((v3).toNat) z30)]).map eE)))), (7, tI v3)] (cot 1 (os_plain rfl rfl (s_take (u := .c (.sl true 6 (v2.map eE))) (.inl rfl) (.move (by kernel_rfl) rfl) rfl (by kernel_rfl))) (cgt 6 [48, 49, 50, 51, 52] (cot 7 (os_plain rfl rfl (s_indexV (r := 0) (lo := 0) (n := (v1.l.map eE).length) (pl := (some (.d, [], 0))) (sz := 6) (e := v3) (ik := .i64) (k := (v3).toNat) rfl sl22 (by kernel_rfl) (.tmp (by kernel_rfl)) hg12.1 (by rw [List.length_map]; exact hg12.2) (Nat.zero_add _) rfl (by kernel_rfl) (by kernel_rfl))) (cot 8 (os_plain rfl rfl (s_loadA (n := 6) (xs := [.v (.int .i64 ((v1.l.getD ((v3).toNat) z30).f0)), .v (.int .i64 ((v1.l.getD ((v3).toNat) z30).f1)), .v (.int .i64 ((v1.l.getD ((v3).toNat) z30).f2)), .v (.int .i64 ((v1.l.getD ((v3).toNat) z30).f3)), .v (.bool ((v1.l.getD ((v3).toNat) z30).f4)), .v (.bool ((v1.l.getD ((v3).toNat) z30).f5))]) (r := 0) (off := 0) (s := .d) (p := [(0, .i ((v3).toNat) 6)]) (c := bufC v1) (cs := (eE (v1.l.getD ((v3).toNat) z30))) rfl (aggB_ok (by kernel_rfl)) (by kernel_rfl) (by kernel_rfl) (getP_in (c' := .sl true 6 (v1.l.map eE)) rfl (getP_map (f := eE) (own := true) (xs := v1.l) (k := (v3).toNat) z30 (by have := hg12; omega))) rfl rfl rfl rfl (by kernel_rfl))) (cot 9 (os_toG (os_plain rfl rfl (s_buildSlice (sz := 6) (len := 1) (us := [(0, .agg [.v (.int .i64 ((v1.l.getD ((v3).toNat) z30).f0)), .v (.int .i64 ((v1.l.getD ((v3).toNat) z30).f1)), .v (.int .i64 ((v1.l.getD ((v3).toNat) z30).f2)), .v (.int .i64 ((v1.l.getD ((v3).toNat) z30).f3)), .v (.bool ((v1.l.getD ((v3).toNat) z30).f4)), .v (.bool ((v1.l.getD ((v3).toNat) z30).f5))])]) (cs := [.v (.int .i64 ((v1.l.getD ((v3).toNat) z30).f0)), .v (.int .i64 ((v1.l.getD ((v3).toNat) z30).f1)), .v (.int .i64 ((v1.l.getD ((v3).toNat) z30).f2)), .v (.int .i64 ((v1.l.getD ((v3).toNat) z30).f3)), .v (.bool ((v1.l.getD ((v3).toNat) z30).f4)), .v (.bool ((v1.l.getD ((v3).toNat) z30).f5))]) rfl sliceZ22 (.cons (.copy (by kernel_rfl) (by kernel_rfl) (by kernel_rfl)) .nil) (by kernel_rfl) (Nat.le_of_ble_eq_true rfl) rfl (by kernel_rfl))) (t' := .u (.c (.sl true 6 ([(v1.l.getD ((v3).toNat) z30)].map eE)))) (by kernel_rfl)) (cot 10 (os_toG (os_plain rfl rfl (s_appendM (i := 47) (sz := 6) (rows := v2.map eE) (rows2 := [(v1.l.getD ((v3).toNat) z30)].map eE) rfl sliceZ22 (by kernel_rfl) (.v0 (r := 55) (lo := 0) (n := ([(v1.l.getD ((v3).toNat) z30)].map eE).length) (own := true) (rows := [(v1.l.getD ((v3).toNat) z30)].map eE) (by kernel_rfl) (by kernel_rfl) rows_all) (copy_map eE_copy) (lenMap2 hg13) (Nat.le_of_ble_eq_true rfl) rfl (by kernel_rfl))) (t' := .u (.c (.sl true 6 ((v2 ++ [(v1.l.getD ((v3).toNat) z30)]).map eE)))) (by simp only [List.map_append])) (cot 11 (os_plain rfl rfl (s_take (u := .c (.sl true 6 ((v2 ++ [(v1.l.getD ((v3).toNat) z30)]).map eE))) (.inr rfl) (.move (by kernel_rfl) rfl) rfl (by kernel_rfl))) .nil))))))) ?_
      refine rr [(0, .u (.c (bufC v1))), (1, tI a1), (2, tI a2), (6, .u (.c (.sl true 6 ((v2 ++ [(v1.l.getD ((v3).toNat) z30)]).map eE)))), (7, tI (i64.wrap (v3 + 1)))] (cgt 3 [16, 17, 7] .nil) ?_
      exact ⟨(v1, (v2 ++ [(v1.l.getD ((v3).toNat) z30)]), i64.wrap (v3 + 1)), h, of_weak (by kernel_rfl)⟩
    have h := cond_f hb h
    have hs14 := hb
    refine rr [(0, .u (.c (bufC v1))), (1, tI a1), (2, tI a2), (6, .u (.c (.sl true 6 (v2.map eE)))), (7, tI v3), (46, tB false)] (cgt 2 [28, 29] (cot 3 (os_ge (d := 30) (t := tB (!r5)) (t' := tB false) (by kernel_rfl) (by rw [hs14])) (cgt 19 [31, 32, 33, 34, 35, 36, 37, 38, 39, 40, 41, 42, 43, 44, 45, 46] .nil))) ?_
    refine r_condF rfl rfl ?_
    refine r_skip ?_
    refine rr [(0, .u (.c (bufC v1))), (1, tI a1), (2, tI a2), (6, .u (.c (.sl true 6 (v2.map eE)))), (7, tI (i64.wrap (v3 + 1)))] (cgt 3 [16, 17, 7] .nil) ?_
    exact ⟨(v1, v2, i64.wrap (v3 + 1)), h, of_weak (by kernel_rfl)⟩
  have h := cond_f hb h
  refine r_condF hb rfl ?_
  refine r_exit ?_
  refine rr [(0, .u (.c (.pt true [.sl true 6 (v2.map eE), .v (.bool v1.b)])))] (cgt 1 [57] (cot 2 (os_plain rfl rfl (s_take (u := .c (.sl true 6 (v2.map eE))) (.inl rfl) (.move (by kernel_rfl) rfl) rfl (by kernel_rfl))) (cgt 4 [59, 60] (cot 5 (os_plain rfl rfl (s_store (n := 1) (r := 0) (off := 0) (s := .d) (p := []) (c := bufC v1) (cs := [.sl true 6 (v1.l.map eE), .v (.bool v1.b)]) (u := .c (.sl true 6 (v2.map eE))) (l := [58]) rfl (by kernel_rfl) (by kernel_rfl) (.move (by kernel_rfl) (by kernel_rfl)) (by kernel_rfl) rfl rfl rfl (Nat.le_of_ble_eq_true rfl) (by kernel_rfl) rfl)) .nil)))) ?_
  obtain rfl := Option.some.inj h
  exact ⟨.inl rfl, _, _, .nil, rfl, outs_of ⟨⟨rfl, rfl⟩, trivial⟩⟩
def RFind.l1 (k : Nat) (a0 : Buf) (a1 : Int) (a2 : Int) : Nat → Buf → Int → Option (Buf × S30 × Bool)
  | 0, _, _ => none
  | n1 + 1, v1, v2 => (bif decide (v2 < (v1.l.length : Int)) then (bif decide (0 ≤ v2) && decide (v2 < (v1.l.length : Int)) then (paviorref05_Is.f ((v1.l.getD ((v2).toNat) z30).f0) ((v1.l.getD ((v2).toNat) z30).f1) ((v1.l.getD ((v2).toNat) z30).f2) ((v1.l.getD ((v2).toNat) z30).f3) ((v1.l.getD ((v2).toNat) z30).f4) ((v1.l.getD ((v2).toNat) z30).f5) a1 a2).bind fun (r4 : Bool) => (bif r4 then (bif decide (0 ≤ v2) && decide (v2 < (v1.l.length : Int)) then some (v1, (v1.l.getD ((v2).toNat) z30), true) else none) else RFind.l1 k a0 a1 a2 n1 v1 (i64.wrap (v2 + 1))) else none) else some (v1, (⟨0, 0, 0, 0, false, false⟩ : S30), false))
set_option maxHeartbeats 4000000 in
def RFind.f (k : Nat) (a0 : Buf) (a1 : Int) (a2 : Int) : Option (Buf × S30 × Bool) :=
  RFind.l1 k a0 a1 a2 k a0 0
set_option maxHeartbeats 4000000 in
theorem RFind.ac (k : Nat) (a0 : Buf) (a1 : Int) (a2 : Int) (r : Buf × S30 × Bool) (h : RFind.f k a0 a1 a2 = some r) : AC Try.prog 48 21 [.c (bufC a0), .c (.v (.int .i64 a1)), .c (.v (.int .i64 a2))] [some (.c (bufC r.1)), none, none] [.agg [.v (.int .i64 r.2.1.f0), .v (.int .i64 r.2.1.f1), .v (.int .i64 r.2.1.f2), .v (.int .i64 r.2.1.f3), .v (.bool r.2.1.f4), .v (.bool r.2.1.f5)], .c (.v (.bool r.2.2))] := by
  unfold RFind.f at h
  refine ac_introCT (fn := Try.f21) (pins := [0]) (b := 6) (t := 30) (c2 := 7) Try.func21 rfl Try.ntmps21 rfl (Nat.le_of_ble_eq_true rfl) (pins_lt rfl) rfl (fun w R E vs => ?_)
  refine r_weak (of_weak (l := [(0, .u (.c (bufC a0))), (1, tI a1), (2, tI a2)]) (by kernel_rfl)) ?_
  refine r_seq ?_
  refine rr [(0, .u (.c (bufC a0))), (1, tI a1), (2, tI a2), (6, .u (.c (.pt true [.v (.int .i64 0), .v (.int .i64 0), .v (.int .i64 0), .v (.int .i64 0), .v (.bool false), .v (.bool false)])))] (cot 1 (os_plain rfl rfl (s_alloc rfl zero30 rfl (by kernel_rfl))) (cgt 2 [7] .nil)) ?_
  refine r_seq ?_
  refine r_seq ?_
  refine rr [(0, .u (.c (bufC a0))), (1, tI a1), (2, tI a2), (6, .u (.c (.pt true [.v (.int .i64 0), .v (.int .i64 0), .v (.int .i64 0), .v (.int .i64 0), .v (.bool false), .v (.bool false)]))), (8, tI 0)] (cgt 1 [8] .nil) ?_
  refine r_block ?_
  refine r_weak (of_weak (l := [(0, .u (.c (bufC a0))), (1, tI a1), (2, tI a2), (6, .u (.c (.pt true [.v (.int .i64 0), .v (.int .i64 0), .v (.int .i64 0), .v (.int .i64 0), .v (.bool false), .v (.bool false)]))), (8, tI 0)]) (by kernel_rfl)) ?_
  refine r_loopI (α := Buf × Int) (fun x => [(0, .u (.c (bufC x.1))), (1, tI a1), (2, tI a2), (6, .u (.c (.pt true [.v (.int .i64 0), .v (.int .i64 0), .v (.int .i64 0), .v (.int .i64 0), .v (.bool false), .v (.bool false)]))), (8, tI x.2)]) (fun n x => RFind.l1 k a0 a1 a2 n x.1 x.2 = some r) k (a0, 0) h (by intro x h; unfold RFind.l1 at h; cases h) ?_
  rintro n1 ⟨v1, v2⟩ h
  replace h : RFind.l1 k a0 a1 a2 (n1 + 1) v1 v2 = some r := h
  unfold RFind.l1 at h
  show Run _ _ _ (St.of [(0, .u (.c (bufC v1))), (1, tI a1), (2, tI a2), (6, .u (.c (.pt true [.v (.int .i64 0), .v (.int .i64 0), .v (.int .i64 0), .v (.int .i64 0), .v (.bool false), .v (.bool false)]))), (8, tI v2)]) _
  refine r_seq ?_
  refine r_seq ?_
  refine rr [(0, .u (.c (bufC v1))), (1, tI a1), (2, tI a2), (6, .u (.c (.pt true [.v (.int .i64 0), .v (.int .i64 0), .v (.int .i64 0), .v (.int .i64 0), .v (.bool false), .v (.bool false)]))), (8, tI v2), (16, tB (decide (v2 < (v1.l.length : Int))))] (cgt 5 [10, 11, 12, 13, 14] (cot 6 (os_to (os_plain rfl rfl (s_lenV (r := 0) (lo := 0) (n := (v1.l.map eE).length) (pl := (some (.d, [], 0))) (sz := 6) rfl sl22 (by kernel_rfl) rfl (by kernel_rfl))) (t' := tI (v1.l.length : Int)) (by rw [List.length_map])) (cgt 7 [16] .nil))) ?_
  rcases Bool.eq_false_or_eq_true (decide (v2 < (v1.l.length : Int))) with hb | hb
  · have h := cond_t hb h
    refine r_condT hb rfl ?_
    refine r_skip ?_
    refine r_seq ?_
    refine r_block ?_
    refine r_seq ?_
    obtain ⟨hg3, h⟩ := guard_some h
    simp only [Bool.and_eq_true, decide_eq_true_eq] at hg3
    obtain ⟨r4, hr4, h⟩ := bind_some h
    refine rr [(0, .u (.c (bufC v1))), (1, tI a1), (2, tI a2), (6, .u (.c (.pt true [.v (.int .i64 0), .v (.int .i64 0), .v (.int .i64 0), .v (.int .i64 0), .v (.bool false), .v (.bool false)]))), (8, tI v2), (9, tB r4)] (cgt 5 [19, 20, 21, 22, 23] (cot 6 (os_plain rfl rfl (s_indexV (r := 0) (lo := 0) (n := (v1.l.map eE).length) (pl := (some (.d, [], 0))) (sz := 6) (e := v2) (ik := .i64) (k := (v2).toNat) rfl sl22 (by kernel_rfl) (.tmp (by kernel_rfl)) hg3.1 (by rw [List.length_map]; exact hg3.2) (Nat.zero_add _) rfl (by kernel_rfl) (by kernel_rfl))) (cot 7 (os_plain rfl rfl (s_loadA (n := 6) (xs := [.v (.int .i64 ((v1.l.getD ((v2).toNat) z30).f0)), .v (.int .i64 ((v1.l.getD ((v2).toNat) z30).f1)), .v (.int .i64 ((v1.l.getD ((v2).toNat) z30).f2)), .v (.int .i64 ((v1.l.getD ((v2).toNat) z30).f3)), .v (.bool ((v1.l.getD ((v2).toNat) z30).f4)), .v (.bool ((v1.l.getD ((v2).toNat) z30).f5))]) (r := 0) (off := 0) (s := .d) (p := [(0, .i ((v2).toNat) 6)]) (c := bufC v1) (cs := (eE (v1.l.getD ((v2).toNat) z30))) rfl (aggB_ok (by kernel_rfl)) (by kernel_rfl) (by kernel_rfl) (getP_in (c' := .sl true 6 (v1.l.map eE)) rfl (getP_map (f := eE) (own := true) (xs := v1.l) (k := (v2).toNat) z30 (by have := hg3; omega))) rfl rfl rfl rfl (by kernel_rfl))) (cgt 9 [26, 27] (cot 10 (os_plain rfl rfl (c_callQ (AC.k (paviorref05_Is.ac (h := hr4))) ⟨_, Try.func37, rfl, by kernel_rfl⟩ rfl (.cons (.copy (by kernel_rfl) rfl) (.cons (.copy (by kernel_rfl) rfl) (.cons (.copy (by kernel_rfl) rfl) .nil))) (by kernel_rfl))) (cgt 11 [9] .nil)))))) ?_
    refine r_seq ?_
    refine rr [(0, .u (.c (bufC v1))), (1, tI a1), (2, tI a2), (6, .u (.c (.pt true [.v (.int .i64 0), .v (.int .i64 0), .v (.int .i64 0), .v (.int .i64 0), .v (.bool false), .v (.bool false)]))), (8, tI v2), (29, tB r4)] (cgt 1 [29] .nil) ?_
    rcases Bool.eq_false_or_eq_true (r4) with hb | hb
    · have h := cond_t hb h
      refine r_condT hb rfl ?_
      refine r_seq ?_
      obtain ⟨hg5, h⟩ := guard_some h
      simp only [Bool.and_eq_true, decide_eq_true_eq] at hg5
      refine rr [(0, .u (.c (bufC v1))), (6, .u (.c (.pt true [.v (.int .i64 ((v1.l.getD ((v2).toNat) z30).f0)), .v (.int .i64 ((v1.l.getD ((v2).toNat) z30).f1)), .v (.int .i64 ((v1.l.getD ((v2).toNat) z30).f2)), .v (.int .i64 ((v1.l.getD ((v2).toNat) z30).f3)), .v (.bool ((v1.l.getD ((v2).toNat) z30).f4)), .v (.bool ((v1.l.getD ((v2).toNat) z30).f5))]))), (7, tB true)] (cgt 5 [30, 31, 32, 33, 34] (cot 6 (os_plain rfl rfl (s_indexV (r := 0) (lo := 0) (n := (v1.l.map eE).length) (pl := (some (.d, [], 0))) (sz := 6) (e := v2) (ik := .i64) (k := (v2).toNat) rfl sl22 (by kernel_rfl) (.tmp (by kernel_rfl)) hg5.1 (by rw [List.length_map]; exact hg5.2) (Nat.zero_add _) rfl (by kernel_rfl) (by kernel_rfl))) (cot 7 (os_plain rfl rfl (s_loadA (n := 6) (xs := [.v (.int .i64 ((v1.l.getD ((v2).toNat) z30).f0)), .v (.int .i64 ((v1.l.getD ((v2).toNat) z30).f1)), .v (.int .i64 ((v1.l.getD ((v2).toNat) z30).f2)), .v (.int .i64 ((v1.l.getD ((v2).toNat) z30).f3)), .v (.bool ((v1.l.getD ((v2).toNat) z30).f4)), .v (.bool ((v1.l.getD ((v2).toNat) z30).f5))]) (r := 0) (off := 0) (s := .d) (p := [(0, .i ((v2).toNat) 6)]) (c := bufC v1) (cs := (eE (v1.l.getD ((v2).toNat) z30))) rfl (aggB_ok (by kernel_rfl)) (by kernel_rfl) (by kernel_rfl) (getP_in (c' := .sl true 6 (v1.l.map eE)) rfl (getP_map (f := eE) (own := true) (xs := v1.l) (k := (v2).toNat) z30 (by have := hg5; omega))) rfl rfl rfl rfl (by kernel_rfl))) (cot 8 (os_plain rfl rfl (s_storeS (n := 6) (r := 6) (off := 0) (s := .d) (p := []) (c := .pt true [.v (.int .i64 0), .v (.int .i64 0), .v (.int .i64 0), .v (.int .i64 0), .v (.bool false), .v (.bool false)]) (cs := [.v (.int .i64 0), .v (.int .i64 0), .v (.int .i64 0), .v (.int .i64 0), .v (.bool false), .v (.bool false)]) (u := .agg [.v (.int .i64 ((v1.l.getD ((v2).toNat) z30).f0)), .v (.int .i64 ((v1.l.getD ((v2).toNat) z30).f1)), .v (.int .i64 ((v1.l.getD ((v2).toNat) z30).f2)), .v (.int .i64 ((v1.l.getD ((v2).toNat) z30).f3)), .v (.bool ((v1.l.getD ((v2).toNat) z30).f4)), .v (.bool ((v1.l.getD ((v2).toNat) z30).f5))]) rfl (by kernel_rfl) (by kernel_rfl) (by kernel_rfl) rfl (by kernel_rfl) rfl rfl rfl rfl (Nat.le_of_ble_eq_true rfl) (by kernel_rfl) (by kernel_rfl) rfl rfl)) (cgt 9 [7] .nil))))) ?_
      refine r_ret ?_
      obtain rfl := Option.some.inj h
      exact e_leafCT (.inr rfl) (by kernel_rfl) (by kernel_rfl) rfl (by kernel_rfl) ⟨⟨rfl, rfl⟩, trivial⟩
    have h := cond_f hb h
    refine r_condF hb rfl ?_
    refine r_skip ?_
    refine rr [(0, .u (.c (bufC v1))), (1, tI a1), (2, tI a2), (6, .u (.c (.pt true [.v (.int .i64 0), .v (.int .i64 0), .v (.int .i64 0), .v (.int .i64 0), .v (.bool false), .v (.bool false)]))), (8, tI (i64.wrap (v2 + 1)))] (cgt 3 [17, 18, 8] .nil) ?_
    exact ⟨(v1, i64.wrap (v2 + 1)), h, of_weak (by kernel_rfl)⟩
  have h := cond_f hb h
  refine r_condF hb rfl ?_
  refine r_exit ?_
  refine r_seq ?_
  refine rr [(0, .u (.c (bufC v1))), (6, .u (.c (.pt true [.v (.int .i64 0), .v (.int .i64 0), .v (.int .i64 0), .v (.int .i64 0), .v (.bool false), .v (.bool false)]))), (7, tB false)] (cot 1 (os_plain rfl rfl (s_build (us := []) (zs := [.v (.int .i64 0), .v (.int .i64 0), .v (.int .i64 0), .v (.int .i64 0), .v (.bool false), .v (.bool false)]) (cs := [.v (.int .i64 0), .v (.int .i64 0), .v (.int .i64 0), .v (.int .i64 0), .v (.bool false), .v (.bool false)]) rfl build30 zero30 .nil (by kernel_rfl) rfl (by kernel_rfl))) (cot 2 (os_plain rfl rfl (s_storeS (n := 6) (r := 6) (off := 0) (s := .d) (p := []) (c := .pt true [.v (.int .i64 0), .v (.int .i64 0), .v (.int .i64 0), .v (.int .i64 0), .v (.bool false), .v (.bool false)]) (cs := [.v (.int .i64 0), .v (.int .i64 0), .v (.int .i64 0), .v (.int .i64 0), .v (.bool false), .v (.bool false)]) (u := .agg [.v (.int .i64 0), .v (.int .i64 0), .v (.int .i64 0), .v (.int .i64 0), .v (.bool false), .v (.bool false)]) rfl (by kernel_rfl) (by kernel_rfl) (by kernel_rfl) rfl (by kernel_rfl) rfl rfl rfl rfl (Nat.le_of_ble_eq_true rfl) (by kernel_rfl) (by kernel_rfl) rfl rfl)) (cgt 3 [7] .nil))) ?_
  refine r_ret ?_
  obtain rfl := Option.some.inj h
  exact e_leafCT (.inr rfl) (by kernel_rfl) (by kernel_rfl) rfl (by kernel_rfl) ⟨⟨rfl, rfl⟩, trivial⟩
def same.l1 (k : Nat) (a0 : Buf) (a1 : Buf) (r1 : Buf × (List S30)) : Nat → Buf → Buf → Int → Option (Buf × Buf × Bool)
  | 0, _, _, _ => none
  | n1 + 1, v5, v6, v7 => (bif decide (v7 < (r1.2.length : Int)) then (bif decide (0 ≤ v7) && decide (v7 < (r1.2.length : Int)) then (bif decide (0 ≤ v7) && decide (v7 < (v6.l.length : Int)) then (bif !(((r1.2.getD ((v7).toNat) z30).f0) == ((v6.l.getD ((v7).toNat) z30).f0) && (((r1.2.getD ((v7).toNat) z30).f1) == ((v6.l.getD ((v7).toNat) z30).f1) && (((r1.2.getD ((v7).toNat) z30).f2) == ((v6.l.getD ((v7).toNat) z30).f2) && (((r1.2.getD ((v7).toNat) z30).f3) == ((v6.l.getD ((v7).toNat) z30).f3) && (((r1.2.getD ((v7).toNat) z30).f4) == ((v6.l.getD ((v7).toNat) z30).f4) && (((r1.2.getD ((v7).toNat) z30).f5) == ((v6.l.getD ((v7).toNat) z30).f5))))))) then some (v5, v6, false) else same.l1 k a0 a1 r1 n1 v5 v6 (i64.wrap (v7 + 1))) else none) else none) else some (v5, v6, true))
set_option maxHeartbeats 4000000 in
def same.f (k : Nat) (a0 : Buf) (a1 : Buf) : Option (Buf × Buf × Bool) :=
  (Entries.f k a0).bind fun (r1 : Buf × (List S30)) => (bif (r1.2.length : Int) != (a1.l.length : Int) then some (r1.1, a1, false) else (Broken.f k r1.1).bind fun (r4 : Buf × Bool) => (bif !(r4.2 == a1.b) then some (r4.1, a1, false) else same.l1 k a0 a1 r1 k r4.1 a1 0))
set_option maxHeartbeats 4000000 in
theorem same.ac (k : Nat) (a0 : Buf) (a1 : Buf) (r : Buf × Buf × Bool) (h : same.f k a0 a1 = some r) : AC Try.prog 48 22 [.c (bufC a0), .c (bufC a1)] [some (.c (bufC r.1)), some (.c (bufC r.2.1))] [.c (.v (.bool r.2.2))] := by
  unfold same.f at h
  refine ac_intro (fn := Try.f22) (pins := [0, 1]) (rts := [4]) Try.func22 rfl Try.ntmps22 rfl (Nat.le_of_ble_eq_true rfl) (pins_lt rfl) rfl (fun w R E vs => ?_)
  refine r_weak (of_weak (l := [(0, .u (.c (bufC a0))), (1, .u (.c (bufC a1)))]) (by kernel_rfl)) ?_
  refine r_seq ?_
  refine rr [(0, .u (.c (bufC a0))), (1, .u (.c (bufC a1)))] (cgt 1 [4] .nil) ?_
  refine r_seq ?_
  obtain ⟨r1, hr1, h⟩ := bind_some h
  refine rr [(0, .u (.c (bufC r1.1))), (1, .u (.c (bufC a1))), (5, .u (.c (.sl true 6 (r1.2.map eE))))] (cgt 1 [7] (cot 2 (os_plain rfl rfl (c_call (AC.k (Entries.ac (h := hr1))) ⟨_, Try.func9, rfl, by kernel_rfl⟩ rfl (hand_root (r := 0) (c := bufC a0) (by kernel_rfl) (by kernel_rfl) rfl .nil) rfl (by kernel_rfl))) (cot 3 (os_plain rfl rfl (s_take (u := .c (.sl true 6 (r1.2.map eE))) (.inr rfl) (.move (by kernel_rfl) rfl) rfl (by kernel_rfl))) .nil))) ?_
  refine r_seq ?_
  refine r_seq ?_
  rcases Bool.eq_false_or_eq_true ((r1.2.length : Int) != (a1.l.length : Int)) with hb | hb
  · have h := cond_t hb h
    have hs2 := hb
    refine r_weak (of_weak (l := [(0, .u (.c (bufC r1.1))), (1, .u (.c (bufC a1))), (5, .u (.c (.sl true 6 (r1.2.map eE))))]) (by kernel_rfl)) ?_
    refine r_anyW (l := [(0, .u (.c (bufC r1.1))), (1, .u (.c (bufC a1))), (5, .u (.c (.sl true 6 (r1.2.map eE)))), (25, tB true)]) (tab := [[], [0], [], [2], [3], [4], [5], [1, 6], [7], [8], [9, 8, 8], [8], [11, 8], [12, 8], [13, 8], [10, 14, 8], [8, 15]]) [ev [] [5] 9 (.whole 5 none 6 ((r1.2.map eE).length)), ev [0] [5, 9] 10 (tI (r1.2.length : Int)), ev [] [1] 11 (.addr 1 (.d) [] 0), ev [2] [11] 12 (.addr 1 (.d) [] 0), ev [2, 3] [12] 13 (.addr 1 (.d) [] 0), ev [2, 3, 4] [1, 13] 14 (.whole 1 (some (.d, [], 0)) 6 ((a1.l.map eE).length)), ev [2, 3, 4, 5] [1, 14] 15 (tI (a1.l.length : Int)), eu 7 [10, 15] 16 (tB ((r1.2.length : Int) != (a1.l.length : Int))), eu 8 [16] 17 (tB true), eu 9 [17] 18 (.tup []), eu 10 [17] 19 (.tup []), eu 9 [17] 20 (.tup []), ev [0, 1, 2, 3, 4, 5, 6, 7, 8, 11] [17] 21 (.tup []), ev [0, 1, 2, 3, 4, 5, 6, 7, 8, 11, 12] [17] 22 (.tup []), ev [0, 1, 2, 3, 4, 5, 6, 7, 8, 11, 12, 13] [17] 23 (.tup []), eu 15 [17] 24 (.tup []), eu 16 [17] 25 (tB true)] hm (by kernel_rfl) (by kernel_rfl) (by kernel_rfl) (en (.cons (fun σ hc => e_put hc rfl rfl (os_to (os_plain rfl rfl (s_lenV (r := 5) (lo := 0) (n := (r1.2.map eE).length) (pl := none) (sz := 6) rfl sl22 (by kernel_rfl) rfl (by kernel_rfl))) (t' := tI (r1.2.length : Int)) (by rw [List.length_map]))) (en (en (en (en (.cons (fun σ hc => e_put hc rfl rfl (os_to (os_plain rfl rfl (s_lenV (r := 1) (lo := 0) (n := (a1.l.map eE).length) (pl := (some (.d, [], 0))) (sz := 6) rfl sl22 (by kernel_rfl) rfl (by kernel_rfl))) (t' := tI (a1.l.length : Int)) (by rw [List.length_map]))) (en (.cons (fun σ hc => e_put hc rfl rfl (os_ge (d := 17) (t := tB ((r1.2.length : Int) != (a1.l.length : Int))) (t' := tB true) (by kernel_rfl) (by rw [hs2]))) (en (en (en (en (en (en (en (en .nil))))))))))))))))) (by kernel_rfl) ?_
    refine r_condT rfl rfl ?_
    refine r_seq ?_
    refine rr [(0, .u (.c (bufC r1.1))), (1, .u (.c (bufC a1))), (4, tB false)] (cgt 1 [4] .nil) ?_
    refine r_ret ?_
    obtain rfl := Option.some.inj h
    exact ⟨.inr rfl, _, _, .cons (.copy rfl rfl rfl) .nil, rfl, outs_of ⟨⟨rfl, rfl⟩, ⟨⟨rfl, rfl⟩, trivial⟩⟩⟩
  have h := cond_f hb h
  have hs3 := hb
  obtain ⟨r4, hr4, h⟩ := bind_some h
  refine r_weak (of_weak (l := [(0, .u (.c (bufC r1.1))), (1, .u (.c (bufC a1))), (5, .u (.c (.sl true 6 (r1.2.map eE))))]) (by kernel_rfl)) ?_
  refine r_anyW (l := [(0, .u (.c (bufC r4.1))), (1, .u (.c (bufC a1))), (5, .u (.c (.sl true 6 (r1.2.map eE)))), (25, tB (!(r4.2 == a1.b)))]) (tab := [[], [0], [], [2], [3], [4], [5], [1, 6], [7], [8], [9, 8, 8], [8], [11, 8], [12, 8], [13, 8], [10, 14, 8], [8, 15]]) [ev [] [5] 9 (.whole 5 none 6 ((r1.2.map eE).length)), ev [0] [5, 9] 10 (tI (r1.2.length : Int)), ev [] [1] 11 (.addr 1 (.d) [] 0), ev [2] [11] 12 (.addr 1 (.d) [] 0), ev [2, 3] [12] 13 (.addr 1 (.d) [] 0), ev [2, 3, 4] [1, 13] 14 (.whole 1 (some (.d, [], 0)) 6 ((a1.l.map eE).length)), ev [2, 3, 4, 5] [1, 14] 15 (tI (a1.l.length : Int)), eu 7 [10, 15] 16 (tB ((r1.2.length : Int) != (a1.l.length : Int))), eu 8 [16] 17 (tB false), eu 9 [0, 17] 18 (.addr 0 (.d) [] 0), ⟨List.range 10, [0, 14, 17, 18], [(19, tB r4.2), (0, .u (.c (bufC r4.1))), (14, .junk)], some 19, true⟩, eu 9 [1, 17] 20 (.addr 1 (.d) [] 0), ev [0, 1, 2, 3, 4, 5, 6, 7, 8, 11] [17, 20] 21 (.addr 1 (.d) [] 0), ev [0, 1, 2, 3, 4, 5, 6, 7, 8, 11, 12] [17, 21] 22 (.addr 1 (.d) [] 1), ev [0, 1, 2, 3, 4, 5, 6, 7, 8, 11, 12, 13] [1, 17, 22] 23 (tB a1.b), eu 15 [17, 19, 23] 24 (tB (!(r4.2 == a1.b))), eu 16 [17, 24] 25 (tB (!(r4.2 == a1.b)))] hm (by kernel_rfl) (by kernel_rfl) (by kernel_rfl) (en (.cons (fun σ hc => e_put hc rfl rfl (os_to (os_plain rfl rfl (s_lenV (r := 5) (lo := 0) (n := (r1.2.map eE).length) (pl := none) (sz := 6) rfl sl22 (by kernel_rfl) rfl (by kernel_rfl))) (t' := tI (r1.2.length : Int)) (by rw [List.length_map]))) (en (en (en (en (.cons (fun σ hc => e_put hc rfl rfl (os_to (os_plain rfl rfl (s_lenV (r := 1) (lo := 0) (n := (a1.l.map eE).length) (pl := (some (.d, [], 0))) (sz := 6) rfl sl22 (by kernel_rfl) rfl (by kernel_rfl))) (t' := tI (a1.l.length : Int)) (by rw [List.length_map]))) (en (.cons (fun σ hc => e_put hc rfl rfl (os_ge (d := 17) (t := tB ((r1.2.length : Int) != (a1.l.length : Int))) (t' := tB false) (by kernel_rfl) (by rw [hs3]))) (en (.cons (fun σ hc => e_eq (os_gy rfl rfl rfl (by kernel_rfl) (c_call (outs := [some (.c (bufC r4.1))]) (res := [.c (.v (.bool r4.2))]) (AC.k (Broken.ac (h := hr4))) ⟨_, Try.func12, rfl, by kernel_rfl⟩ rfl (hand_root (r := 0) (c := bufC r1.1) (by kernel_rfl) (by kernel_rfl) rfl .nil) rfl (by kernel_rfl))) (hand_put_overD (D := [14]) hc rfl rfl rfl (by kernel_rfl) rfl)) (en (en (en (en (en (en .nil))))))))))))))))) (by kernel_rfl) ?_
  rcases Bool.eq_false_or_eq_true (!(r4.2 == a1.b)) with hb | hb
  · have h := cond_t hb h
    refine r_condT hb rfl ?_
    refine r_seq ?_
    refine rr [(0, .u (.c (bufC r4.1))), (1, .u (.c (bufC a1))), (4, tB false)] (cgt 1 [4] .nil) ?_
    refine r_ret ?_
    obtain rfl := Option.some.inj h
    exact ⟨.inr rfl, _, _, .cons (.copy rfl rfl rfl) .nil, rfl, outs_of ⟨⟨rfl, rfl⟩, ⟨⟨rfl, rfl⟩, trivial⟩⟩⟩
  have h := cond_f hb h
  refine r_condF hb rfl ?_
  refine r_skip ?_
  refine r_seq ?_
  refine r_seq ?_
  refine rr [(0, .u (.c (bufC r4.1))), (1, .u (.c (bufC a1))), (5, .u (.c (.sl true 6 (r1.2.map eE)))), (6, tI 0)] (cgt 1 [6] .nil) ?_
  refine r_block ?_
  refine r_weak (of_weak (l := [(0, .u (.c (bufC r4.1))), (1, .u (.c (bufC a1))), (5, .u (.c (.sl true 6 (r1.2.map eE)))), (6, tI 0)]) (by kernel_rfl)) ?_
  refine r_loopI (α := Buf × Buf × Int) (fun x => [(0, .u (.c (bufC x.1))), (1, .u (.c (bufC x.2.1))), (5, .u (.c (.sl true 6 (r1.2.map eE)))), (6, tI x.2.2)]) (fun n x => same.l1 k a0 a1 r1 n x.1 x.2.1 x.2.2 = some r) k (r4.1, a1, 0) h (by intro x h; unfold same.l1 at h; cases h) ?_
  rintro n1 ⟨v5, v6, v7⟩ h
  replace h : same.l1 k a0 a1 r1 (n1 + 1) v5 v6 v7 = some r := h
  unfold same.l1 at h
  show Run _ _ _ (St.of [(0, .u (.c (bufC v5))), (1, .u (.c (bufC v6))), (5, .u (.c (.sl true 6 (r1.2.map eE)))), (6, tI v7)]) _
  refine r_seq ?_
  refine r_seq ?_
  refine rr [(0, .u (.c (bufC v5))), (1, .u (.c (bufC v6))), (5, .u (.c (.sl true 6 (r1.2.map eE)))), (6, tI v7), (29, tB (decide (v7 < (r1.2.length : Int))))] (cgt 2 [26, 27] (cot 3 (os_to (os_plain rfl rfl (s_lenV (r := 5) (lo := 0) (n := (r1.2.map eE).length) (pl := none) (sz := 6) rfl sl22 (by kernel_rfl) rfl (by kernel_rfl))) (t' := tI (r1.2.length : Int)) (by rw [List.length_map])) (cgt 4 [29] .nil))) ?_
  rcases Bool.eq_false_or_eq_true (decide (v7 < (r1.2.length : Int))) with hb | hb
  · have h := cond_t hb h
    refine r_condT hb rfl ?_
    refine r_skip ?_
    refine r_seq ?_
    refine r_block ?_
    refine r_seq ?_
    obtain ⟨hg8, h⟩ := guard_some h
    simp only [Bool.and_eq_true, decide_eq_true_eq] at hg8
    obtain ⟨hg9, h⟩ := guard_some h
    simp only [Bool.and_eq_true, decide_eq_true_eq] at hg9
    refine r_weak (of_weak (l := [(0, .u (.c (bufC v5))), (1, .u (.c (bufC v6))), (5, .u (.c (.sl true 6 (r1.2.map eE)))), (6, tI v7), (29, tB (decide (v7 < (r1.2.length : Int))))]) (by kernel_rfl)) ?_
    refine r_anyW (l := [(0, .u (.c (bufC v5))), (1, .u (.c (bufC v6))), (5, .u (.c (.sl true 6 (r1.2.map eE)))), (6, tI v7), (43, tB (!(((r1.2.getD ((v7).toNat) z30).f0) == ((v6.l.getD ((v7).toNat) z30).f0) && (((r1.2.getD ((v7).toNat) z30).f1) == ((v6.l.getD ((v7).toNat) z30).f1) && (((r1.2.getD ((v7).toNat) z30).f2) == ((v6.l.getD ((v7).toNat) z30).f2) && (((r1.2.getD ((v7).toNat) z30).f3) == ((v6.l.getD ((v7).toNat) z30).f3) && (((r1.2.getD ((v7).toNat) z30).f4) == ((v6.l.getD ((v7).toNat) z30).f4) && (((r1.2.getD ((v7).toNat) z30).f5) == ((v6.l.getD ((v7).toNat) z30).f5)))))))))]) (tab := [[], [], [0, 1], [2], [], [4], [5], [6], [], [7, 8], [9], [3, 10]]) [ev [] [5] 32 (.whole 5 none 6 ((r1.2.map eE).length)), ev [] [6] 33 (tI v7), ev [0, 1] [5, 32, 33] 34 (.addr 5 (.i ((v7).toNat) 6) [] 0), ev [0, 1, 2] [5, 34] 35 (.u (.agg [.v (.int .i64 ((r1.2.getD ((v7).toNat) z30).f0)), .v (.int .i64 ((r1.2.getD ((v7).toNat) z30).f1)), .v (.int .i64 ((r1.2.getD ((v7).toNat) z30).f2)), .v (.int .i64 ((r1.2.getD ((v7).toNat) z30).f3)), .v (.bool ((r1.2.getD ((v7).toNat) z30).f4)), .v (.bool ((r1.2.getD ((v7).toNat) z30).f5))])), ev [] [1] 36 (.addr 1 (.d) [] 0), ev [4] [36] 37 (.addr 1 (.d) [] 0), ev [4, 5] [37] 38 (.addr 1 (.d) [] 0), ev [4, 5, 6] [1, 38] 39 (.whole 1 (some (.d, [], 0)) 6 ((v6.l.map eE).length)), ev [] [6] 40 (tI v7), ev [4, 5, 6, 7, 8] [1, 39, 40] 41 (.addr 1 (.d) [(0, .i ((v7).toNat) 6)] 0), ev [4, 5, 6, 7, 8, 9] [1, 41] 42 (.u (.agg [.v (.int .i64 ((v6.l.getD ((v7).toNat) z30).f0)), .v (.int .i64 ((v6.l.getD ((v7).toNat) z30).f1)), .v (.int .i64 ((v6.l.getD ((v7).toNat) z30).f2)), .v (.int .i64 ((v6.l.getD ((v7).toNat) z30).f3)), .v (.bool ((v6.l.getD ((v7).toNat) z30).f4)), .v (.bool ((v6.l.getD ((v7).toNat) z30).f5))])), eu 11 [35, 42] 43 (tB (!(((r1.2.getD ((v7).toNat) z30).f0) == ((v6.l.getD ((v7).toNat) z30).f0) && (((r1.2.getD ((v7).toNat) z30).f1) == ((v6.l.getD ((v7).toNat) z30).f1) && (((r1.2.getD ((v7).toNat) z30).f2) == ((v6.l.getD ((v7).toNat) z30).f2) && (((r1.2.getD ((v7).toNat) z30).f3) == ((v6.l.getD ((v7).toNat) z30).f3) && (((r1.2.getD ((v7).toNat) z30).f4) == ((v6.l.getD ((v7).toNat) z30).f4) && (((r1.2.getD ((v7).toNat) z30).f5) == ((v6.l.getD ((v7).toNat) z30).f5)))))))))] hm (by kernel_rfl) (by kernel_rfl) (by kernel_rfl) (en (en (.cons (fun σ hc => e_put hc rfl rfl (os_plain rfl rfl (s_indexV (r := 5) (lo := 0) (n := (r1.2.map eE).length) (pl := none) (sz := 6) (e := v7) (ik := .i64) (k := (v7).toNat) rfl sl22 (by kernel_rfl) (.tmp (by kernel_rfl)) hg8.1 (by rw [List.length_map]; exact hg8.2) (Nat.zero_add _) rfl (by kernel_rfl) (by kernel_rfl)))) (.cons (fun σ hc => e_put hc rfl rfl (os_plain rfl rfl (s_loadA (n := 6) (xs := [.v (.int .i64 ((r1.2.getD ((v7).toNat) z30).f0)), .v (.int .i64 ((r1.2.getD ((v7).toNat) z30).f1)), .v (.int .i64 ((r1.2.getD ((v7).toNat) z30).f2)), .v (.int .i64 ((r1.2.getD ((v7).toNat) z30).f3)), .v (.bool ((r1.2.getD ((v7).toNat) z30).f4)), .v (.bool ((r1.2.getD ((v7).toNat) z30).f5))]) (r := 5) (off := 0) (s := .i ((v7).toNat) 6) (p := []) (c := .sl true 6 (r1.2.map eE)) (cs := eE (r1.2.getD ((v7).toNat) z30)) rfl (aggB_ok (by kernel_rfl)) (by kernel_rfl) (by kernel_rfl) (getP_map z30 (by have := hg8; omega)) rfl rfl rfl rfl (by kernel_rfl)))) (en (en (en (en (en (.cons (fun σ hc => e_put hc rfl rfl (os_plain rfl rfl (s_indexV (r := 1) (lo := 0) (n := (v6.l.map eE).length) (pl := (some (.d, [], 0))) (sz := 6) (e := v7) (ik := .i64) (k := (v7).toNat) rfl sl22 (by kernel_rfl) (.tmp (by kernel_rfl)) hg9.1 (by rw [List.length_map]; exact hg9.2) (Nat.zero_add _) rfl (by kernel_rfl) (by kernel_rfl)))) (.cons (fun σ hc => e_put hc rfl rfl (os_plain rfl rfl (s_loadA (n := 6) (xs := [.v (.int .i64 ((v6.l.getD ((v7).toNat) z30).f0)), .v (.int .i64 ((v6.l.getD ((v7).toNat) z30).f1)), .v (.int .i64 ((v6.l.getD ((v7).toNat) z30).f2)), .v (.int .i64 ((v6.l.getD ((v7).toNat) z30).f3)), .v (.bool ((v6.l.getD ((v7).toNat) z30).f4)), .v (.bool ((v6.l.getD ((v7).toNat) z30).f5))]) (r := 1) (off := 0) (s := .d) (p := [(0, .i ((v7).toNat) 6)]) (c := bufC v6) (cs := (eE (v6.l.getD ((v7).toNat) z30))) rfl (aggB_ok (by kernel_rfl)) (by kernel_rfl) (by kernel_rfl) (getP_in (c' := .sl true 6 (v6.l.map eE)) rfl (getP_map (f := eE) (own := true) (xs := v6.l) (k := (v7).toNat) z30 (by have := hg9; omega))) rfl rfl rfl rfl (by kernel_rfl)))) (.cons (fun σ hc => e_put hc rfl rfl (os_plain rfl rfl (s_eqA (b := ((r1.2.getD ((v7).toNat) z30).f0) == ((v6.l.getD ((v7).toNat) z30).f0) && (((r1.2.getD ((v7).toNat) z30).f1) == ((v6.l.getD ((v7).toNat) z30).f1) && (((r1.2.getD ((v7).toNat) z30).f2) == ((v6.l.getD ((v7).toNat) z30).f2) && (((r1.2.getD ((v7).toNat) z30).f3) == ((v6.l.getD ((v7).toNat) z30).f3) && (((r1.2.getD ((v7).toNat) z30).f4) == ((v6.l.getD ((v7).toNat) z30).f4) && (((r1.2.getD ((v7).toNat) z30).f5) == ((v6.l.getD ((v7).toNat) z30).f5))))))) rfl (.inr rfl) eqAgg30 (by kernel_rfl) rfl rfl rfl rfl rfl rfl (by kernel_rfl)))) .nil)))))))))))) (by kernel_rfl) ?_
    rcases Bool.eq_false_or_eq_true (!(((r1.2.getD ((v7).toNat) z30).f0) == ((v6.l.getD ((v7).toNat) z30).f0) && (((r1.2.getD ((v7).toNat) z30).f1) == ((v6.l.getD ((v7).toNat) z30).f1) && (((r1.2.getD ((v7).toNat) z30).f2) == ((v6.l.getD ((v7).toNat) z30).f2) && (((r1.2.getD ((v7).toNat) z30).f3) == ((v6.l.getD ((v7).toNat) z30).f3) && (((r1.2.getD ((v7).toNat) z30).f4) == ((v6.l.getD ((v7).toNat) z30).f4) && (((r1.2.getD ((v7).toNat) z30).f5) == ((v6.l.getD ((v7).toNat) z30).f5)))))))) with hb | hb
    · have h := cond_t hb h
      refine r_condT hb rfl ?_
      refine r_seq ?_
      refine rr [(0, .u (.c (bufC v5))), (1, .u (.c (bufC v6))), (4, tB false)] (cgt 1 [4] .nil) ?_
      refine r_ret ?_
      obtain rfl := Option.some.inj h
      exact ⟨.inr rfl, _, _, .cons (.copy rfl rfl rfl) .nil, rfl, outs_of ⟨⟨rfl, rfl⟩, ⟨⟨rfl, rfl⟩, trivial⟩⟩⟩
    have h := cond_f hb h
    refine r_condF hb rfl ?_
    refine r_skip ?_
    refine rr [(0, .u (.c (bufC v5))), (1, .u (.c (bufC v6))), (5, .u (.c (.sl true 6 (r1.2.map eE)))), (6, tI (i64.wrap (v7 + 1)))] (cgt 3 [30, 31, 6] .nil) ?_
    exact ⟨(v5, v6, i64.wrap (v7 + 1)), h, of_weak (by kernel_rfl)⟩
  have h := cond_f hb h
  refine r_condF hb rfl ?_
  refine r_exit ?_
  refine r_seq ?_
  refine rr [(0, .u (.c (bufC v5))), (1, .u (.c (bufC v6))), (4, tB true)] (cgt 1 [4] .nil) ?_
  refine r_ret ?_
  obtain rfl := Option.some.inj h
  exact ⟨.inr rfl, _, _, .cons (.copy rfl rfl rfl) .nil, rfl, outs_of ⟨⟨rfl, rfl⟩, ⟨⟨rfl, rfl⟩, trivial⟩⟩⟩
end Go.Proofs.Ytfbjhioefkimbaa.V
