import Derived.Test.YtmjnenjeckeklaaDoorB0
import Derived.Test.YtmjnenjeckeklaaDoorBIns
import Derived.Test.YtmjnenjeckeklaaDoorQx1
import Derived.Test.YtmjnenjeckeklaaDoorWEqStruct
namespace Go.Proofs.YtmjnenjeckeklaaDoor.V
open Go Go.RowKit Go.Proofs Go.Proofs.YtmjnenjeckeklaaDoor.Q Go.Proofs.YtmjnenjeckeklaaDoorW.PrintWords
open Go.IntKind (i64)
set_option linter.unusedVariables false
set_option linter.unusedSimpArgs false
set_option maxRecDepth 100000
structure Pr where
  a : Int
  b : Int
def eP (x : Pr) : List C := [.v (.int .i64 x.a), .v (.int .i64 x.b)]
abbrev zP : Pr := ⟨0, 0⟩
theorem eP_copy (x : Pr) : (eP x).all copyC = true := rfl
theorem errW_eq (a : Unit) : a = () := rfl
def TabQ (o : Option Obj) : Prop := ∃ W : World, W.heap[1]? = o ∧ Tab W
abbrev ACD := ACT 1 TabQ
theorem tab_of {R : Nat → Prop} {w : World} (h : LaidT 1 TabQ R w) : Tab w := by
  obtain ⟨_, W, hW, h1, h2⟩ := h
  refine ⟨?_, fun i hi => ?_⟩
  · rcases Nat.lt_or_ge 1 w.heap.size with h | h
    · exact h
    · rw [Array.getElem?_eq_none h, Array.getElem?_eq_getElem h1] at hW; cases hW
  · rw [← h2 i hi]
    exact cell_blk (ad := ⟨1, i, none⟩) hW.symm
theorem laidT_of {R : Nat → Prop} {w : World} (hR : R 1) (h : Tab w) : LaidT 1 TabQ R w := ⟨hR, w, rfl, h⟩
theorem bits_TrailingZeros.ac (a0 r : Int) (h : bits_TrailingZeros.f a0 = some r) : ACD Tryd.prog 28 61 [.c (.v (.int .u64 a0))] [none] [.c (.v (.int .i64 r))] :=
  act_of rfl (fun w R => RepR.one (RepU.c (RepC.v rfl))) (fun R w hT => (bits_TrailingZeros.calls a0 r w (tab_of hT) h).mono (fun e w' hh => hh))
theorem eqA39 (d : Nat) (w : World) (x0 y0 : Int) (x1 y1 : Int) :
    (Op.equalIn (d + 2) 39 (.agg #[.int .i64 x0, .int .i64 x1]) (.agg #[.int .i64 y0, .int .i64 y1])).run Tryd.prog w = .ok (x0 == y0 && (x1 == y1)) w := by
  refine eqA_of Tryd.underlying39 (by kernel_rfl) ?_
  refine eqf_cons (by rfl) (by go_simp; rfl) (by go_simp; rfl) (by go_simp) ?_
  exact eqf_last (by rfl) (by go_simp; rfl) (by go_simp; rfl) (by go_simp)
def eqf39 : List Value → List Value → Option Bool
  | [.int .i64 x0, .int .i64 x1], [.int .i64 y0, .int .i64 y1] => some (x0 == y0 && (x1 == y1))
  | _, _ => none
theorem eqAgg39 : EqAgg Tryd.prog 39 eqf39 := by
  intro xs ys b w h
  unfold eqf39 at h
  split at h
  · injection h with h; subst h; exact equal_at (fun n => eqA39 n w _ _ _ _)
  · cases h
theorem zero81 : ZeroT Tryd.prog 81 [.v (.int .i64 0), .v (.int .i64 0)] := zeroB_ok (vs := [(.int .i64 0), (.int .i64 0)]) (by kernel_rfl) (fun _ _ _ => .cons (F := []) (.v rfl) (.cons (F := []) (.v rfl) (.nil)))
theorem sliceZ78 : SliceZ Tryd.prog 78 2 16 [.v (.int .i64 0), .v (.int .i64 0)] := slZ_ok (vs := [(.int .i64 0), (.int .i64 0)]) (by kernel_rfl) (by kernel_rfl) rfl (fun _ _ _ => .cons (F := []) (.v rfl) (.cons (F := []) (.v rfl) (.nil)))
theorem build72 : BuildT Tryd.prog 72 [(0, 1), (1, 1)] := buildB_ok (by kernel_rfl)
theorem zero72 : ZeroT Tryd.prog 72 [.v (.int .i64 0), .sl true 2 ([].map eR)] := zeroB_ok (vs := [(.int .i64 0), (.slice none 0 0)]) (by kernel_rfl) (fun _ _ _ => .cons (F := []) (.v rfl) (.cons (F := []) (.nil _ _) (.nil)))
theorem sl78 : SliceT Tryd.prog 78 2 16 := slB_ok (by kernel_rfl)
theorem build39 : BuildT Tryd.prog 39 [(0, 1), (1, 1)] := buildB_ok (by kernel_rfl)
theorem zero39 : ZeroT Tryd.prog 39 [.v (.int .i64 0), .v (.int .i64 0)] := zeroB_ok (vs := [(.int .i64 0), (.int .i64 0)]) (by kernel_rfl) (fun _ _ _ => .cons (F := []) (.v rfl) (.cons (F := []) (.v rfl) (.nil)))
theorem bits_Len.ac (a0 : Int) (r : Int) (h : bits_Len.f a0 = some r) : AC Tryd.prog 28 62 [.c (.v (.int .u64 a0))] [none] [.c (.v (.int .i64 r))] :=
  ac_of rfl (fun w R => RepR.one (RepU.c (RepC.v rfl))) (fun w => (bits_Len.calls a0 r w h).mono (fun e w' hh => ⟨by simpa only [errW_eq] using hh.1, hh.2.below⟩))
theorem paviorref01_Power.ac (k : Nat) (a0 : Int) (r : Int) (h : paviorref01_Power.f k a0 = some r) : AC Tryd.prog 28 42 [.c (.v (.int .i64 a0))] [none] [.c (.v (.int .i64 r))] :=
  ac_of rfl (fun w R => RepR.one (RepU.c (RepC.v rfl))) (fun w => (paviorref01_Power.calls k a0 r w h).mono (fun e w' hh => ⟨by simpa only [errW_eq] using hh.1, hh.2.below⟩))
theorem paviorlaw08_pick.ac (a0 : Int) (a1 : Int) (r : Int) (h : paviorlaw08_pick.f a0 a1 = some r) : AC Tryd.prog 28 12 [.c (.v (.int .i64 a0)), .c (.v (.int .i64 a1))] [none, none] [.c (.v (.int .i64 r))] :=
  ac_of rfl (fun w R => RepR.one (RepU.c (RepC.v rfl))) (fun w => (paviorlaw08_pick.calls a0 a1 r w h).mono (fun e w' hh => ⟨by simpa only [errW_eq] using hh.1, hh.2.below⟩))
set_option maxHeartbeats 4000000 in
def isNaN.f (a0 : Int) : Option (Bool) :=
  some (a0 != a0)
set_option maxHeartbeats 4000000 in
theorem isNaN.ac (a0 : Int) (r : Bool) (h : isNaN.f a0 = some r) : AC Tryd.prog 28 63 [.c (.v (.int .i64 a0))] [none] [.c (.v (.bool r))] := by
  unfold isNaN.f at h
  refine ac_intro (fn := Tryd.f63) (pins := []) (rts := [2]) Tryd.func63 rfl Tryd.ntmps63 rfl (Nat.le_of_ble_eq_true rfl) (pins_lt rfl) rfl (fun w R E vs => ?_)
  refine r_weak (of_weak (l := [(0, tI a0)]) (by kernel_rfl)) ?_
  refine r_seq ?_
  refine rr [(0, tI a0)] (cgt 1 [2] .nil) ?_
  refine r_seq ?_
  refine rr [(2, tB (a0 != a0))] (cgt 4 [3, 4, 5, 2] .nil) ?_
  refine r_ret ?_
  obtain rfl := Option.some.inj h
  exact ⟨.inr rfl, _, _, .cons (.copy rfl rfl rfl) .nil, rfl, outs_of trivial⟩
set_option maxHeartbeats 4000000 in
def cmpI.f (a0 : Int) (a1 : Int) : Option (Int) :=
  (isNaN.f a0).bind fun (r1 : Bool) => (isNaN.f a1).bind fun (r2 : Bool) => (bif r1 then (bif r2 then some 0 else some (-1)) else (bif r2 then some 1 else (bif decide (a0 < a1) then some (-1) else (bif decide (a0 > a1) then some 1 else some 0))))
set_option maxHeartbeats 4000000 in
theorem cmpI.ac (a0 : Int) (a1 : Int) (r : Int) (h : cmpI.f a0 a1 = some r) : AC Tryd.prog 28 59 [.c (.v (.int .i64 a0)), .c (.v (.int .i64 a1))] [none, none] [.c (.v (.int .i64 r))] := by
  unfold cmpI.f at h
  refine ac_intro (fn := Tryd.f59) (pins := []) (rts := [4]) Tryd.func59 rfl Tryd.ntmps59 rfl (Nat.le_of_ble_eq_true rfl) (pins_lt rfl) rfl (fun w R E vs => ?_)
  refine r_weak (of_weak (l := [(0, tI a0), (1, tI a1)]) (by kernel_rfl)) ?_
  refine r_seq ?_
  refine rr [(0, tI a0), (1, tI a1)] (cgt 1 [4] .nil) ?_
  refine r_seq ?_
  obtain ⟨r1, hr1, h⟩ := bind_some h
  refine rr [(0, tI a0), (1, tI a1), (5, tB r1)] (cgt 1 [7] (cot 2 (os_plain rfl rfl (c_callQ (AC.k (isNaN.ac (h := hr1))) ⟨_, Tryd.func63, rfl, by kernel_rfl⟩ rfl (.cons (.copy (by kernel_rfl) rfl) .nil) (by kernel_rfl))) (cgt 3 [5] .nil))) ?_
  refine r_seq ?_
  obtain ⟨r2, hr2, h⟩ := bind_some h
  refine rr [(0, tI a0), (1, tI a1), (5, tB r1), (6, tB r2)] (cgt 1 [9] (cot 2 (os_plain rfl rfl (c_callQ (AC.k (isNaN.ac (h := hr2))) ⟨_, Tryd.func63, rfl, by kernel_rfl⟩ rfl (.cons (.copy (by kernel_rfl) rfl) .nil) (by kernel_rfl))) (cgt 3 [6] .nil))) ?_
  refine r_seq ?_
  refine r_seq ?_
  refine rr [(0, tI a0), (1, tI a1), (6, tB r2), (11, tB r1)] (cgt 1 [11] .nil) ?_
  rcases Bool.eq_false_or_eq_true (r1) with hb | hb
  · have h := cond_t hb h
    refine r_condT hb rfl ?_
    refine r_seq ?_
    refine r_seq ?_
    refine rr [(12, tB r2)] (cgt 1 [12] .nil) ?_
    rcases Bool.eq_false_or_eq_true (r2) with hb | hb
    · have h := cond_t hb h
      refine r_condT hb rfl ?_
      refine r_seq ?_
      refine rr [(4, tI 0)] (cgt 1 [4] .nil) ?_
      refine r_ret ?_
      obtain rfl := Option.some.inj h
      exact ⟨.inr rfl, _, _, .cons (.copy rfl rfl rfl) .nil, rfl, outs_of trivial⟩
    have h := cond_f hb h
    refine r_condF hb rfl ?_
    refine r_skip ?_
    refine r_seq ?_
    refine rr [(4, tI (-1))] (cgt 1 [4] .nil) ?_
    refine r_ret ?_
    obtain rfl := Option.some.inj h
    exact ⟨.inr rfl, _, _, .cons (.copy rfl rfl rfl) .nil, rfl, outs_of trivial⟩
  have h := cond_f hb h
  refine r_condF hb rfl ?_
  refine r_skip ?_
  refine r_seq ?_
  refine r_seq ?_
  refine rr [(0, tI a0), (1, tI a1), (13, tB r2)] (cgt 1 [13] .nil) ?_
  rcases Bool.eq_false_or_eq_true (r2) with hb | hb
  · have h := cond_t hb h
    refine r_condT hb rfl ?_
    refine r_seq ?_
    refine rr [(4, tI 1)] (cgt 1 [4] .nil) ?_
    refine r_ret ?_
    obtain rfl := Option.some.inj h
    exact ⟨.inr rfl, _, _, .cons (.copy rfl rfl rfl) .nil, rfl, outs_of trivial⟩
  have h := cond_f hb h
  refine r_condF hb rfl ?_
  refine r_skip ?_
  refine r_seq ?_
  refine r_seq ?_
  refine rr [(0, tI a0), (1, tI a1), (16, tB (decide (a0 < a1)))] (cgt 3 [14, 15, 16] .nil) ?_
  rcases Bool.eq_false_or_eq_true (decide (a0 < a1)) with hb | hb
  · have h := cond_t hb h
    refine r_condT hb rfl ?_
    refine r_seq ?_
    refine rr [(4, tI (-1))] (cgt 1 [4] .nil) ?_
    refine r_ret ?_
    obtain rfl := Option.some.inj h
    exact ⟨.inr rfl, _, _, .cons (.copy rfl rfl rfl) .nil, rfl, outs_of trivial⟩
  have h := cond_f hb h
  refine r_condF hb rfl ?_
  refine r_skip ?_
  refine r_seq ?_
  refine r_seq ?_
  refine rr [(19, tB (decide (a0 > a1)))] (cgt 3 [17, 18, 19] .nil) ?_
  rcases Bool.eq_false_or_eq_true (decide (a0 > a1)) with hb | hb
  · have h := cond_t hb h
    refine r_condT hb rfl ?_
    refine r_seq ?_
    refine rr [(4, tI 1)] (cgt 1 [4] .nil) ?_
    refine r_ret ?_
    obtain rfl := Option.some.inj h
    exact ⟨.inr rfl, _, _, .cons (.copy rfl rfl rfl) .nil, rfl, outs_of trivial⟩
  have h := cond_f hb h
  refine r_condF hb rfl ?_
  refine r_skip ?_
  refine r_seq ?_
  refine rr [(4, tI 0)] (cgt 1 [4] .nil) ?_
  refine r_ret ?_
  obtain rfl := Option.some.inj h
  exact ⟨.inr rfl, _, _, .cons (.copy rfl rfl rfl) .nil, rfl, outs_of trivial⟩
set_option maxHeartbeats 4000000 in
def cmpL.f (a0 : Blk) (a1 : Blk) : Option (Int) :=
  (cmpI.f a0.f a1.f).bind fun (r1 : Int) => some r1
set_option maxHeartbeats 4000000 in
theorem cmpL.ac (a0 : Blk) (a1 : Blk) (r : Int) (h : cmpL.f a0 a1 = some r) : AC Tryd.prog 28 58 [.agg [.v (.int .i64 a0.f), .v (.int .i64 a0.o)], .agg [.v (.int .i64 a1.f), .v (.int .i64 a1.o)]] [none, none] [.c (.v (.int .i64 r))] := by
  unfold cmpL.f at h
  refine ac_intro (fn := Tryd.f58) (pins := []) (rts := [4]) Tryd.func58 rfl Tryd.ntmps58 rfl (Nat.le_of_ble_eq_true rfl) (pins_lt rfl) rfl (fun w R E vs => ?_)
  refine r_weak (of_weak (l := [(0, .u (.agg [.v (.int .i64 a0.f), .v (.int .i64 a0.o)])), (1, .u (.agg [.v (.int .i64 a1.f), .v (.int .i64 a1.o)]))]) (by kernel_rfl)) ?_
  refine r_seq ?_
  refine rr [(2, .u (.c (.pt true [.v (.int .i64 a0.f), .v (.int .i64 a0.o)]))), (3, .u (.c (.pt true [.v (.int .i64 a1.f), .v (.int .i64 a1.o)])))] (cot 1 (os_plain rfl rfl (s_box (u := .agg [.v (.int .i64 a0.f), .v (.int .i64 a0.o)]) rfl (.copy (by kernel_rfl) (by kernel_rfl) (by kernel_rfl)) rfl (by kernel_rfl))) (cot 2 (os_plain rfl rfl (s_box (u := .agg [.v (.int .i64 a1.f), .v (.int .i64 a1.o)]) rfl (.copy (by kernel_rfl) (by kernel_rfl) (by kernel_rfl)) rfl (by kernel_rfl))) (cgt 3 [4] .nil))) ?_
  refine r_seq ?_
  obtain ⟨r1, hr1, h⟩ := bind_some h
  refine rr [(4, tI r1)] (cgt 4 [5, 6, 7, 8] (cot 5 (os_plain rfl rfl (c_callQ (AC.k (cmpI.ac (h := hr1))) ⟨_, Tryd.func59, rfl, by kernel_rfl⟩ rfl (.cons (.copy (by kernel_rfl) rfl) (.cons (.copy (by kernel_rfl) rfl) .nil)) (by kernel_rfl))) (cgt 6 [4] .nil))) ?_
  refine r_ret ?_
  obtain rfl := Option.some.inj h
  exact ⟨.inr rfl, _, _, .cons (.copy rfl rfl rfl) .nil, rfl, outs_of trivial⟩
def Search.l1 (k : Nat) (a0 : List Blk) (a1 : Blk) (a2 : Blk → Blk → Option Int) : Nat → Int → Int → Option (Int × Bool)
  | 0, _, _ => none
  | n1 + 1, v1, v2 => (bif decide (v1 < v2) then (bif decide (0 ≤ (i64.wrap ((IntKind.u64.wrap (i64.wrap (v1 + v2))).fdiv (2 ^ min (1 : Int).toNat (IntKind.u64).bits)))) && decide ((i64.wrap ((IntKind.u64.wrap (i64.wrap (v1 + v2))).fdiv (2 ^ min (1 : Int).toNat (IntKind.u64).bits))) < (a0.length : Int)) then (a2 (a0.getD ((i64.wrap ((IntKind.u64.wrap (i64.wrap (v1 + v2))).fdiv (2 ^ min (1 : Int).toNat (IntKind.u64).bits))).toNat) zR) a1).bind fun (r4 : Int) => (bif decide (r4 < 0) then Search.l1 k a0 a1 a2 n1 (i64.wrap ((i64.wrap ((IntKind.u64.wrap (i64.wrap (v1 + v2))).fdiv (2 ^ min (1 : Int).toNat (IntKind.u64).bits))) + 1)) v2 else Search.l1 k a0 a1 a2 n1 v1 (i64.wrap ((IntKind.u64.wrap (i64.wrap (v1 + v2))).fdiv (2 ^ min (1 : Int).toNat (IntKind.u64).bits)))) else none) else (bif decide (v1 < (a0.length : Int)) then (bif decide (0 ≤ v1) && decide (v1 < (a0.length : Int)) then (a2 (a0.getD v1.toNat zR) a1).bind fun (r7 : Int) => some (v1, r7 == 0) else none) else some (v1, false)))
set_option maxHeartbeats 4000000 in
def Search.f (k : Nat) (a0 : List Blk) (a1 : Blk) (a2 : Blk → Blk → Option Int) : Option (Int × Bool) :=
  Search.l1 k a0 a1 a2 k 0 (a0.length : Int)
set_option maxHeartbeats 4000000 in
theorem Search.ac (k : Nat) (a0 : List Blk) (a1 : Blk) (a2 : Blk → Blk → Option Int) (a2F : FnI2 Tryd.prog 28 encR a2) (r : Int × Bool) (h : Search.f k a0 a1 a2 = some r) : AC Tryd.prog 28 57 [.c (.sl false 2 (a0.map eR)), .agg [.v (.int .i64 a1.f), .v (.int .i64 a1.o)], .fn a2F.f a2F.caps] [none, none, none] [.c (.v (.int .i64 r.1)), .c (.v (.bool r.2))] := by
  unfold Search.f at h
  refine ac_intro (fn := Tryd.f57) (pins := []) (rts := [6, 7]) Tryd.func57 rfl Tryd.ntmps57 rfl (Nat.le_of_ble_eq_true rfl) (pins_lt rfl) rfl (fun w R E vs => ?_)
  refine r_weak (of_weak (l := [(0, .u (.c (.sl false 2 (a0.map eR)))), (1, .u (.agg [.v (.int .i64 a1.f), .v (.int .i64 a1.o)])), (2, .u (.fn a2F.f a2F.caps))]) (by kernel_rfl)) ?_
  refine r_seq ?_
  refine rr [(0, .u (.c (.sl false 2 (a0.map eR)))), (2, .u (.fn a2F.f a2F.caps)), (4, .u (.c (.pt true [.v (.int .i64 a1.f), .v (.int .i64 a1.o)])))] (cot 1 (os_plain rfl rfl (s_box (u := .agg [.v (.int .i64 a1.f), .v (.int .i64 a1.o)]) rfl (.copy (by kernel_rfl) (by kernel_rfl) (by kernel_rfl)) rfl (by kernel_rfl))) (cgt 3 [6, 7] .nil)) ?_
  refine r_seq ?_
  refine rr [(0, .u (.c (.sl false 2 (a0.map eR)))), (2, .u (.fn a2F.f a2F.caps)), (4, .u (.c (.pt true [.v (.int .i64 a1.f), .v (.int .i64 a1.o)]))), (8, tI (a0.length : Int))] (cgt 1 [12] (cot 2 (os_to (os_plain rfl rfl (s_lenU (own := false) (sz := 2) (rows := (a0.map eR)) rfl sl36 (by kernel_rfl) rfl (by kernel_rfl))) (t' := tI (a0.length : Int)) (by rw [List.length_map])) (cgt 3 [8] .nil))) ?_
  refine r_seq ?_
  refine rr [(0, .u (.c (.sl false 2 (a0.map eR)))), (2, .u (.fn a2F.f a2F.caps)), (4, .u (.c (.pt true [.v (.int .i64 a1.f), .v (.int .i64 a1.o)]))), (8, tI (a0.length : Int)), (9, tI 0), (10, tI (a0.length : Int))] (cgt 3 [14, 9, 10] .nil) ?_
  refine r_seq ?_
  refine r_block ?_
  refine r_weak (of_weak (l := [(0, .u (.c (.sl false 2 (a0.map eR)))), (2, .u (.fn a2F.f a2F.caps)), (4, .u (.c (.pt true [.v (.int .i64 a1.f), .v (.int .i64 a1.o)]))), (8, tI (a0.length : Int)), (9, tI 0), (10, tI (a0.length : Int))]) (by kernel_rfl)) ?_
  refine r_loopI (α := Int × Int) (fun x => [(0, .u (.c (.sl false 2 (a0.map eR)))), (2, .u (.fn a2F.f a2F.caps)), (4, .u (.c (.pt true [.v (.int .i64 a1.f), .v (.int .i64 a1.o)]))), (8, tI (a0.length : Int)), (9, tI x.1), (10, tI x.2)]) (fun n x => Search.l1 k a0 a1 a2 n x.1 x.2 = some r) k (0, (a0.length : Int)) h (by intro x h; unfold Search.l1 at h; cases h) ?_
  rintro n1 ⟨v1, v2⟩ h
  replace h : Search.l1 k a0 a1 a2 (n1 + 1) v1 v2 = some r := h
  unfold Search.l1 at h
  show Run _ _ _ (St.of [(0, .u (.c (.sl false 2 (a0.map eR)))), (2, .u (.fn a2F.f a2F.caps)), (4, .u (.c (.pt true [.v (.int .i64 a1.f), .v (.int .i64 a1.o)]))), (8, tI (a0.length : Int)), (9, tI v1), (10, tI v2)]) _
  refine r_seq ?_
  refine r_seq ?_
  refine rr [(0, .u (.c (.sl false 2 (a0.map eR)))), (2, .u (.fn a2F.f a2F.caps)), (4, .u (.c (.pt true [.v (.int .i64 a1.f), .v (.int .i64 a1.o)]))), (8, tI (a0.length : Int)), (9, tI v1), (10, tI v2), (17, tB (decide (v1 < v2)))] (cgt 3 [15, 16, 17] .nil) ?_
  rcases Bool.eq_false_or_eq_true (decide (v1 < v2)) with hb | hb
  · have h := cond_t hb h
    refine r_condT hb rfl ?_
    refine r_skip ?_
    refine r_block ?_
    refine r_seq ?_
    refine rr [(0, .u (.c (.sl false 2 (a0.map eR)))), (2, .u (.fn a2F.f a2F.caps)), (4, .u (.c (.pt true [.v (.int .i64 a1.f), .v (.int .i64 a1.o)]))), (8, tI (a0.length : Int)), (9, tI v1), (10, tI v2), (11, tI (i64.wrap ((IntKind.u64.wrap (i64.wrap (v1 + v2))).fdiv (2 ^ min (1 : Int).toNat (IntKind.u64).bits))))] (cgt 3 [18, 19, 20] (cot 4 (os_plain rfl rfl (s_conv (k := .i64) (k' := .u64) (p := i64.wrap (v1 + v2)) rfl (k2 := .i64) (by unfold IntT; kernel_rfl) (by unfold IntT; kernel_rfl) (by kernel_rfl) rfl (by kernel_rfl))) (cot 5 (os_to (os_plain rfl rfl (s_shift (op := .shr) (k := .u64) (p := (IntKind.u64.wrap (i64.wrap (v1 + v2)))) (q := 1) (yk := .u64) rfl (.inr rfl) (by kernel_rfl) (by kernel_rfl) (by decide) rfl (by kernel_rfl))) (t' := tW ((IntKind.u64.wrap (i64.wrap (v1 + v2))).fdiv (2 ^ min (1 : Int).toNat (IntKind.u64).bits))) (by kernel_rfl)) (cot 6 (os_plain rfl rfl (s_conv (k := .u64) (k' := .i64) (p := ((IntKind.u64.wrap (i64.wrap (v1 + v2))).fdiv (2 ^ min (1 : Int).toNat (IntKind.u64).bits))) rfl (k2 := .u64) (by unfold IntT; kernel_rfl) (by unfold IntT; kernel_rfl) (by kernel_rfl) rfl (by kernel_rfl))) (cgt 7 [11] .nil))))) ?_
    refine r_seq ?_
    obtain ⟨hg3, h⟩ := guard_some h
    simp only [Bool.and_eq_true, decide_eq_true_eq] at hg3
    obtain ⟨r4, hr4, h⟩ := bind_some h
    refine r_weak (of_weak (l := [(0, .u (.c (.sl false 2 (a0.map eR)))), (2, .u (.fn a2F.f a2F.caps)), (4, .u (.c (.pt true [.v (.int .i64 a1.f), .v (.int .i64 a1.o)]))), (8, tI (a0.length : Int)), (9, tI v1), (10, tI v2), (11, tI (i64.wrap ((IntKind.u64.wrap (i64.wrap (v1 + v2))).fdiv (2 ^ min (1 : Int).toNat (IntKind.u64).bits))))]) (by kernel_rfl)) ?_
    refine r_anyW (l := [(0, .u (.c (.sl false 2 (a0.map eR)))), (2, .u (.fn a2F.f a2F.caps)), (4, .u (.c (.pt true [.v (.int .i64 a1.f), .v (.int .i64 a1.o)]))), (8, tI (a0.length : Int)), (9, tI v1), (10, tI v2), (11, tI (i64.wrap ((IntKind.u64.wrap (i64.wrap (v1 + v2))).fdiv (2 ^ min (1 : Int).toNat (IntKind.u64).bits)))), (31, tB (decide (r4 < 0)))]) (tab := [[], [], [], [1, 2], [3], [], [0, 4, 5], [6]]) [ev [] [2] 24 (.u (.fn a2F.f a2F.caps)), ev [] [0] 25 (.u (.c (.sl false 2 (a0.map eR)))), ev [] [11] 26 (tI (i64.wrap ((IntKind.u64.wrap (i64.wrap (v1 + v2))).fdiv (2 ^ min (1 : Int).toNat (IntKind.u64).bits)))), ev [1, 2] [25, 26] 27 (.addr 25 (.i ((i64.wrap ((IntKind.u64.wrap (i64.wrap (v1 + v2))).fdiv (2 ^ min (1 : Int).toNat (IntKind.u64).bits))).toNat) 2) [] 0), ev [1, 2, 3] [25, 27] 28 (.u (.agg [.v (.int .i64 ((a0.getD ((i64.wrap ((IntKind.u64.wrap (i64.wrap (v1 + v2))).fdiv (2 ^ min (1 : Int).toNat (IntKind.u64).bits))).toNat) zR).f)), .v (.int .i64 ((a0.getD ((i64.wrap ((IntKind.u64.wrap (i64.wrap (v1 + v2))).fdiv (2 ^ min (1 : Int).toNat (IntKind.u64).bits))).toNat) zR).o))])), ev [] [4] 29 (.u (.agg [.v (.int .i64 a1.f), .v (.int .i64 a1.o)])), eu 6 [24, 28, 29] 30 (tI r4), eu 7 [30] 31 (tB (decide (r4 < 0)))] hm (by kernel_rfl) (by kernel_rfl) (by kernel_rfl) (en (en (en (.cons (fun σ hc => e_put hc rfl rfl (os_plain rfl rfl (s_indexU (own := false) (sz := 2) (rows := (a0.map eR)) (e := (i64.wrap ((IntKind.u64.wrap (i64.wrap (v1 + v2))).fdiv (2 ^ min (1 : Int).toNat (IntKind.u64).bits)))) (ik := .i64) rfl sl36 (by kernel_rfl) (.tmp (by kernel_rfl)) hg3.1 (by rw [List.length_map]; exact hg3.2) rfl (by kernel_rfl) (by kernel_rfl)))) (.cons (fun σ hc => e_put hc rfl rfl (os_plain rfl rfl (s_loadA (n := 2) (xs := [.v (.int .i64 ((a0.getD ((i64.wrap ((IntKind.u64.wrap (i64.wrap (v1 + v2))).fdiv (2 ^ min (1 : Int).toNat (IntKind.u64).bits))).toNat) zR).f)), .v (.int .i64 ((a0.getD ((i64.wrap ((IntKind.u64.wrap (i64.wrap (v1 + v2))).fdiv (2 ^ min (1 : Int).toNat (IntKind.u64).bits))).toNat) zR).o))]) (r := 25) (off := 0) (s := .i ((i64.wrap ((IntKind.u64.wrap (i64.wrap (v1 + v2))).fdiv (2 ^ min (1 : Int).toNat (IntKind.u64).bits))).toNat) 2) (p := []) (c := .sl false 2 (a0.map eR)) (cs := eR (a0.getD ((i64.wrap ((IntKind.u64.wrap (i64.wrap (v1 + v2))).fdiv (2 ^ min (1 : Int).toNat (IntKind.u64).bits))).toNat) zR)) rfl (aggB_ok (by kernel_rfl)) (by kernel_rfl) (by kernel_rfl) (getP_map zR (by have := hg3; omega)) rfl rfl rfl rfl (by kernel_rfl)))) (en (.cons (fun σ hc => e_put hc rfl rfl (os_plain rfl rfl (s_callQ (res := [.c (.v (.int .i64 r4))]) rfl a2F.ok (.u (by kernel_rfl)) (.cons (.copy (by kernel_rfl) rfl) (.cons (.copy (by kernel_rfl) rfl) .nil)) (AC.k (a2F.ac _ _ _ hr4)) (by kernel_rfl)))) (en .nil)))))))) (by kernel_rfl) ?_
    rcases Bool.eq_false_or_eq_true (decide (r4 < 0)) with hb | hb
    · have h := cond_t hb h
      refine r_condT hb rfl ?_
      refine rr [(0, .u (.c (.sl false 2 (a0.map eR)))), (2, .u (.fn a2F.f a2F.caps)), (4, .u (.c (.pt true [.v (.int .i64 a1.f), .v (.int .i64 a1.o)]))), (8, tI (a0.length : Int)), (9, tI (i64.wrap ((i64.wrap ((IntKind.u64.wrap (i64.wrap (v1 + v2))).fdiv (2 ^ min (1 : Int).toNat (IntKind.u64).bits))) + 1))), (10, tI v2)] (cgt 3 [32, 33, 9] .nil) ?_
      exact ⟨(i64.wrap ((i64.wrap ((IntKind.u64.wrap (i64.wrap (v1 + v2))).fdiv (2 ^ min (1 : Int).toNat (IntKind.u64).bits))) + 1), v2), h, of_weak (by kernel_rfl)⟩
    have h := cond_f hb h
    refine r_condF hb rfl ?_
    refine rr [(0, .u (.c (.sl false 2 (a0.map eR)))), (2, .u (.fn a2F.f a2F.caps)), (4, .u (.c (.pt true [.v (.int .i64 a1.f), .v (.int .i64 a1.o)]))), (8, tI (a0.length : Int)), (9, tI v1), (10, tI (i64.wrap ((IntKind.u64.wrap (i64.wrap (v1 + v2))).fdiv (2 ^ min (1 : Int).toNat (IntKind.u64).bits))))] (cgt 2 [34, 10] .nil) ?_
    exact ⟨(v1, i64.wrap ((IntKind.u64.wrap (i64.wrap (v1 + v2))).fdiv (2 ^ min (1 : Int).toNat (IntKind.u64).bits))), h, of_weak (by kernel_rfl)⟩
  have h := cond_f hb h
  refine r_condF hb rfl ?_
  refine r_exit ?_
  refine r_seq ?_
  rcases Bool.eq_false_or_eq_true (decide (v1 < (a0.length : Int))) with hb | hb
  · have h := cond_t hb h
    have hs5 := hb
    obtain ⟨hg6, h⟩ := guard_some h
    simp only [Bool.and_eq_true, decide_eq_true_eq] at hg6
    obtain ⟨r7, hr7, h⟩ := bind_some h
    refine r_weak (of_weak (l := [(0, .u (.c (.sl false 2 (a0.map eR)))), (2, .u (.fn a2F.f a2F.caps)), (4, .u (.c (.pt true [.v (.int .i64 a1.f), .v (.int .i64 a1.o)]))), (8, tI (a0.length : Int)), (9, tI v1), (10, tI v2), (17, tB (decide (v1 < v2)))]) (by kernel_rfl)) ?_
    refine r_anyW (l := [(6, tI v1), (7, tB (r7 == 0))]) (tab := [[], [], [], [1, 2], [3], [4], [4], [4], [6, 7, 4], [8, 4], [4], [5, 9, 10, 4, 4], [11, 4], [4, 12], [0, 11, 0], [13, 14, 0, 1, 2, 3, 4, 5, 6, 7, 8, 9, 10, 11, 12, 13, 14]]) [ev [] [9] 35 (tI v1), ev [] [9] 36 (tI v1), ev [] [8] 37 (tI (a0.length : Int)), ev [1, 2] [36, 37] 38 (tB (decide (v1 < (a0.length : Int)))), ev [1, 2, 3] [38] 39 (tB true), ev [1, 2, 3, 4] [2, 39] 40 (.u (.fn a2F.f a2F.caps)), ev [1, 2, 3, 4] [0, 39] 41 (.u (.c (.sl false 2 (a0.map eR)))), ev [1, 2, 3, 4] [9, 39] 42 (tI v1), ev [1, 2, 3, 4, 6, 7] [39, 41, 42] 43 (.addr 41 (.i v1.toNat 2) [] 0), ev [1, 2, 3, 4, 6, 7, 8] [39, 41, 43] 44 (.u (.agg [.v (.int .i64 ((a0.getD v1.toNat zR).f)), .v (.int .i64 ((a0.getD v1.toNat zR).o))])), ev [1, 2, 3, 4] [4, 39] 45 (.u (.agg [.v (.int .i64 a1.f), .v (.int .i64 a1.o)])), ev [1, 2, 3, 4, 5, 6, 7, 8, 9, 10] [39, 40, 44, 45] 46 (tI r7), ev [1, 2, 3, 4, 5, 6, 7, 8, 9, 10, 11] [39, 46] 47 (tB (r7 == 0)), ev [1, 2, 3, 4, 5, 6, 7, 8, 9, 10, 11, 12] [39, 47] 48 (tB (r7 == 0)), eu 12 [35] 6 (tI v1), eu 15 [48] 7 (tB (r7 == 0))] hm (by kernel_rfl) (by kernel_rfl) (by kernel_rfl) (en (en (en (en (.cons (fun σ hc => e_put hc rfl rfl (os_ge (d := 39) (t := tB (decide (v1 < (a0.length : Int)))) (t' := tB true) (by kernel_rfl) (by rw [hs5]))) (en (en (en (.cons (fun σ hc => e_put hc rfl rfl (os_gy rfl rfl rfl (by kernel_rfl) (s_indexU (own := false) (sz := 2) (rows := (a0.map eR)) (e := v1) (ik := .i64) rfl sl36 (by kernel_rfl) (.tmp (by kernel_rfl)) hg6.1 (by rw [List.length_map]; exact hg6.2) rfl (by kernel_rfl) (by kernel_rfl)))) (.cons (fun σ hc => e_put hc rfl rfl (os_gy rfl rfl rfl (by kernel_rfl) (s_loadA (n := 2) (xs := [.v (.int .i64 ((a0.getD v1.toNat zR).f)), .v (.int .i64 ((a0.getD v1.toNat zR).o))]) (r := 41) (off := 0) (s := .i v1.toNat 2) (p := []) (c := .sl false 2 (a0.map eR)) (cs := eR (a0.getD v1.toNat zR)) rfl (aggB_ok (by kernel_rfl)) (by kernel_rfl) (by kernel_rfl) (getP_map zR (by have := hg6; omega)) rfl rfl rfl rfl (by kernel_rfl)))) (en (.cons (fun σ hc => e_put hc rfl rfl (os_gy rfl rfl rfl (by kernel_rfl) (s_callQ (res := [.c (.v (.int .i64 r7))]) rfl a2F.ok (.u (by kernel_rfl)) (.cons (.copy (by kernel_rfl) rfl) (.cons (.copy (by kernel_rfl) rfl) .nil)) (AC.k (a2F.ac _ _ _ hr7)) (by kernel_rfl)))) (en (en (en (en .nil)))))))))))))))) (by kernel_rfl) ?_
    refine r_ret ?_
    obtain rfl := Option.some.inj h
    exact ⟨.inr rfl, _, _, .cons (.copy rfl rfl rfl) (.cons (.copy rfl rfl rfl) .nil), rfl, outs_of trivial⟩
  have h := cond_f hb h
  have hs8 := hb
  refine r_weak (of_weak (l := [(0, .u (.c (.sl false 2 (a0.map eR)))), (2, .u (.fn a2F.f a2F.caps)), (4, .u (.c (.pt true [.v (.int .i64 a1.f), .v (.int .i64 a1.o)]))), (8, tI (a0.length : Int)), (9, tI v1), (10, tI v2), (17, tB (decide (v1 < v2)))]) (by kernel_rfl)) ?_
  refine r_anyW (l := [(6, tI v1), (7, tB false)]) (tab := [[], [], [], [1, 2], [3], [4], [4], [4], [6, 7, 4], [8, 4], [4], [5, 9, 10, 4, 4], [11, 4], [4, 12], [0, 11, 0], [13, 14, 0, 1, 2, 3, 4, 5, 6, 7, 8, 9, 10, 11, 12, 13, 14]]) [ev [] [9] 35 (tI v1), ev [] [9] 36 (tI v1), ev [] [8] 37 (tI (a0.length : Int)), ev [1, 2] [36, 37] 38 (tB (decide (v1 < (a0.length : Int)))), ev [1, 2, 3] [38] 39 (tB false), ev [1, 2, 3, 4] [39] 40 (.tup []), ev [1, 2, 3, 4] [39] 41 (.tup []), ev [1, 2, 3, 4] [39] 42 (.tup []), ev [1, 2, 3, 4, 6, 7] [39] 43 (.tup []), ev [1, 2, 3, 4, 6, 7, 8] [39] 44 (.tup []), ev [1, 2, 3, 4] [39] 45 (.tup []), ev [1, 2, 3, 4, 5, 6, 7, 8, 9, 10] [39] 46 (.tup []), ev [1, 2, 3, 4, 5, 6, 7, 8, 9, 10, 11] [39] 47 (.tup []), ev [1, 2, 3, 4, 5, 6, 7, 8, 9, 10, 11, 12] [39] 48 (tB false), eu 12 [35] 6 (tI v1), eu 15 [48] 7 (tB false)] hm (by kernel_rfl) (by kernel_rfl) (by kernel_rfl) (en (en (en (en (.cons (fun σ hc => e_put hc rfl rfl (os_ge (d := 39) (t := tB (decide (v1 < (a0.length : Int)))) (t' := tB false) (by kernel_rfl) (by rw [hs8]))) (en (en (en (en (en (en (en (en (en (en (en .nil)))))))))))))))) (by kernel_rfl) ?_
  refine r_ret ?_
  obtain rfl := Option.some.inj h
  exact ⟨.inr rfl, _, _, .cons (.copy rfl rfl rfl) (.cons (.copy rfl rfl rfl) .nil), rfl, outs_of trivial⟩
def Index.l1 (k : Nat) (a0 : List Blk) (a1 : Blk) : Nat → Int → Option (Int)
  | 0, _ => none
  | n1 + 1, v1 => (bif decide (v1 < (a0.length : Int)) then (bif decide (0 ≤ v1) && decide (v1 < (a0.length : Int)) then (bif a1.f == ((a0.getD v1.toNat zR).f) && (a1.o == ((a0.getD v1.toNat zR).o)) then some v1 else Index.l1 k a0 a1 n1 (i64.wrap (v1 + 1))) else none) else some (-1))
set_option maxHeartbeats 4000000 in
def Index.f (k : Nat) (a0 : List Blk) (a1 : Blk) : Option (Int) :=
  Index.l1 k a0 a1 k 0
set_option maxHeartbeats 4000000 in
theorem Index.ac (k : Nat) (a0 : List Blk) (a1 : Blk) (r : Int) (h : Index.f k a0 a1 = some r) : AC Tryd.prog 28 49 [.c (.sl false 2 (a0.map eR)), .agg [.v (.int .i64 a1.f), .v (.int .i64 a1.o)]] [none, none] [.c (.v (.int .i64 r))] := by
  unfold Index.f at h
  refine ac_intro (fn := Tryd.f49) (pins := []) (rts := [4]) Tryd.func49 rfl Tryd.ntmps49 rfl (Nat.le_of_ble_eq_true rfl) (pins_lt rfl) rfl (fun w R E vs => ?_)
  refine r_weak (of_weak (l := [(0, .u (.c (.sl false 2 (a0.map eR)))), (1, .u (.agg [.v (.int .i64 a1.f), .v (.int .i64 a1.o)]))]) (by kernel_rfl)) ?_
  refine r_seq ?_
  refine rr [(0, .u (.c (.sl false 2 (a0.map eR)))), (3, .u (.c (.pt true [.v (.int .i64 a1.f), .v (.int .i64 a1.o)])))] (cot 1 (os_plain rfl rfl (s_box (u := .agg [.v (.int .i64 a1.f), .v (.int .i64 a1.o)]) rfl (.copy (by kernel_rfl) (by kernel_rfl) (by kernel_rfl)) rfl (by kernel_rfl))) (cgt 2 [4] .nil)) ?_
  refine r_seq ?_
  refine r_seq ?_
  refine rr [(0, .u (.c (.sl false 2 (a0.map eR)))), (3, .u (.c (.pt true [.v (.int .i64 a1.f), .v (.int .i64 a1.o)]))), (7, tI (a0.length : Int)), (8, tI 0)] (cgt 1 [6] (cot 2 (os_to (os_plain rfl rfl (s_lenU (own := false) (sz := 2) (rows := (a0.map eR)) rfl sl36 (by kernel_rfl) rfl (by kernel_rfl))) (t' := tI (a0.length : Int)) (by rw [List.length_map])) (cgt 3 [8] .nil))) ?_
  refine r_block ?_
  refine r_weak (of_weak (l := [(0, .u (.c (.sl false 2 (a0.map eR)))), (3, .u (.c (.pt true [.v (.int .i64 a1.f), .v (.int .i64 a1.o)]))), (7, tI (a0.length : Int)), (8, tI 0)]) (by kernel_rfl)) ?_
  refine r_loopI (α := Int) (fun x => [(0, .u (.c (.sl false 2 (a0.map eR)))), (3, .u (.c (.pt true [.v (.int .i64 a1.f), .v (.int .i64 a1.o)]))), (7, tI (a0.length : Int)), (8, tI x)]) (fun n x => Index.l1 k a0 a1 n x = some r) k 0 h (by intro x h; unfold Index.l1 at h; cases h) ?_
  rintro n1 v1 h
  replace h : Index.l1 k a0 a1 (n1 + 1) v1 = some r := h
  unfold Index.l1 at h
  show Run _ _ _ (St.of [(0, .u (.c (.sl false 2 (a0.map eR)))), (3, .u (.c (.pt true [.v (.int .i64 a1.f), .v (.int .i64 a1.o)]))), (7, tI (a0.length : Int)), (8, tI v1)]) _
  refine r_seq ?_
  refine rr [(0, .u (.c (.sl false 2 (a0.map eR)))), (3, .u (.c (.pt true [.v (.int .i64 a1.f), .v (.int .i64 a1.o)]))), (7, tI (a0.length : Int)), (8, tI v1), (9, tB (decide (v1 < (a0.length : Int))))] (cgt 1 [9] .nil) ?_
  refine r_seq ?_
  rcases Bool.eq_false_or_eq_true (decide (v1 < (a0.length : Int))) with hb | hb
  · have h := cond_t hb h
    refine r_condT hb rfl ?_
    refine r_skip ?_
    refine r_seq ?_
    refine r_block ?_
    refine r_seq ?_
    refine rr [(0, .u (.c (.sl false 2 (a0.map eR)))), (3, .u (.c (.pt true [.v (.int .i64 a1.f), .v (.int .i64 a1.o)]))), (5, tI v1), (7, tI (a0.length : Int)), (8, tI v1)] (cgt 2 [10, 5] .nil) ?_
    refine r_seq ?_
    obtain ⟨hg2, h⟩ := guard_some h
    simp only [Bool.and_eq_true, decide_eq_true_eq] at hg2
    refine r_weak (of_weak (l := [(0, .u (.c (.sl false 2 (a0.map eR)))), (3, .u (.c (.pt true [.v (.int .i64 a1.f), .v (.int .i64 a1.o)]))), (5, tI v1), (7, tI (a0.length : Int)), (8, tI v1)]) (by kernel_rfl)) ?_
    refine r_anyW (l := [(0, .u (.c (.sl false 2 (a0.map eR)))), (3, .u (.c (.pt true [.v (.int .i64 a1.f), .v (.int .i64 a1.o)]))), (5, tI v1), (7, tI (a0.length : Int)), (8, tI v1), (16, tB (a1.f == ((a0.getD v1.toNat zR).f) && (a1.o == ((a0.getD v1.toNat zR).o))))]) (tab := [[], [], [], [1, 2], [3], [0, 4]]) [ev [] [3] 11 (.u (.agg [.v (.int .i64 a1.f), .v (.int .i64 a1.o)])), ev [] [0] 12 (.u (.c (.sl false 2 (a0.map eR)))), ev [] [5] 13 (tI v1), ev [1, 2] [12, 13] 14 (.addr 12 (.i v1.toNat 2) [] 0), ev [1, 2, 3] [12, 14] 15 (.u (.agg [.v (.int .i64 ((a0.getD v1.toNat zR).f)), .v (.int .i64 ((a0.getD v1.toNat zR).o))])), ev [0, 1, 2, 3, 4] [11, 15] 16 (tB (a1.f == ((a0.getD v1.toNat zR).f) && (a1.o == ((a0.getD v1.toNat zR).o))))] hm (by kernel_rfl) (by kernel_rfl) (by kernel_rfl) (en (en (en (.cons (fun σ hc => e_put hc rfl rfl (os_plain rfl rfl (s_indexU (own := false) (sz := 2) (rows := (a0.map eR)) (e := v1) (ik := .i64) rfl sl36 (by kernel_rfl) (.tmp (by kernel_rfl)) hg2.1 (by rw [List.length_map]; exact hg2.2) rfl (by kernel_rfl) (by kernel_rfl)))) (.cons (fun σ hc => e_put hc rfl rfl (os_plain rfl rfl (s_loadA (n := 2) (xs := [.v (.int .i64 ((a0.getD v1.toNat zR).f)), .v (.int .i64 ((a0.getD v1.toNat zR).o))]) (r := 12) (off := 0) (s := .i v1.toNat 2) (p := []) (c := .sl false 2 (a0.map eR)) (cs := eR (a0.getD v1.toNat zR)) rfl (aggB_ok (by kernel_rfl)) (by kernel_rfl) (by kernel_rfl) (getP_map zR (by have := hg2; omega)) rfl rfl rfl rfl (by kernel_rfl)))) (.cons (fun σ hc => e_put hc rfl rfl (os_plain rfl rfl (s_eqA (b := a1.f == ((a0.getD v1.toNat zR).f) && (a1.o == ((a0.getD v1.toNat zR).o))) rfl (.inl rfl) eqAgg39 (by kernel_rfl) rfl rfl rfl rfl rfl rfl (by kernel_rfl)))) .nil)))))) (by kernel_rfl) ?_
    rcases Bool.eq_false_or_eq_true (a1.f == ((a0.getD v1.toNat zR).f) && (a1.o == ((a0.getD v1.toNat zR).o))) with hb | hb
    · have h := cond_t hb h
      refine r_condT hb rfl ?_
      refine r_seq ?_
      refine rr [(4, tI v1)] (cgt 2 [17, 4] .nil) ?_
      refine r_ret ?_
      obtain rfl := Option.some.inj h
      exact ⟨.inr rfl, _, _, .cons (.copy rfl rfl rfl) .nil, rfl, outs_of trivial⟩
    have h := cond_f hb h
    refine r_condF hb rfl ?_
    refine r_skip ?_
    refine rr [(0, .u (.c (.sl false 2 (a0.map eR)))), (3, .u (.c (.pt true [.v (.int .i64 a1.f), .v (.int .i64 a1.o)]))), (7, tI (a0.length : Int)), (8, tI (i64.wrap (v1 + 1)))] (cgt 2 [18, 8] .nil) ?_
    exact ⟨i64.wrap (v1 + 1), h, of_weak (by kernel_rfl)⟩
  have h := cond_f hb h
  refine r_condF hb rfl ?_
  refine r_exit ?_
  refine r_seq ?_
  refine rr [(4, tI (-1))] (cgt 1 [4] .nil) ?_
  refine r_ret ?_
  obtain rfl := Option.some.inj h
  exact ⟨.inr rfl, _, _, .cons (.copy rfl rfl rfl) .nil, rfl, outs_of trivial⟩
def IndexFunc.l1 (k : Nat) (a0 : List Blk) (a1 : Blk → Option Bool) : Nat → Int → Option (Int)
  | 0, _ => none
  | n1 + 1, v1 => (bif decide (v1 < (a0.length : Int)) then (bif decide (0 ≤ v1) && decide (v1 < (a0.length : Int)) then (a1 (a0.getD v1.toNat zR)).bind fun (r3 : Bool) => (bif r3 then some v1 else IndexFunc.l1 k a0 a1 n1 (i64.wrap (v1 + 1))) else none) else some (-1))
set_option maxHeartbeats 4000000 in
def IndexFunc.f (k : Nat) (a0 : List Blk) (a1 : Blk → Option Bool) : Option (Int) :=
  IndexFunc.l1 k a0 a1 k 0
set_option maxHeartbeats 4000000 in
theorem IndexFunc.ac (k : Nat) (a0 : List Blk) (a1 : Blk → Option Bool) (a1F : FnB Tryd.prog 28 encR a1) (r : Int) (h : IndexFunc.f k a0 a1 = some r) : AC Tryd.prog 28 54 [.c (.sl false 2 (a0.map eR)), .fn a1F.f a1F.caps] [none, none] [.c (.v (.int .i64 r))] := by
  unfold IndexFunc.f at h
  refine ac_intro (fn := Tryd.f54) (pins := []) (rts := [4]) Tryd.func54 rfl Tryd.ntmps54 rfl (Nat.le_of_ble_eq_true rfl) (pins_lt rfl) rfl (fun w R E vs => ?_)
  refine r_weak (of_weak (l := [(0, .u (.c (.sl false 2 (a0.map eR)))), (1, .u (.fn a1F.f a1F.caps))]) (by kernel_rfl)) ?_
  refine r_seq ?_
  refine rr [(0, .u (.c (.sl false 2 (a0.map eR)))), (1, .u (.fn a1F.f a1F.caps))] (cgt 1 [4] .nil) ?_
  refine r_seq ?_
  refine r_seq ?_
  refine rr [(0, .u (.c (.sl false 2 (a0.map eR)))), (1, .u (.fn a1F.f a1F.caps)), (7, tI (a0.length : Int)), (8, tI 0)] (cgt 1 [6] (cot 2 (os_to (os_plain rfl rfl (s_lenU (own := false) (sz := 2) (rows := (a0.map eR)) rfl sl36 (by kernel_rfl) rfl (by kernel_rfl))) (t' := tI (a0.length : Int)) (by rw [List.length_map])) (cgt 3 [8] .nil))) ?_
  refine r_block ?_
  refine r_weak (of_weak (l := [(0, .u (.c (.sl false 2 (a0.map eR)))), (1, .u (.fn a1F.f a1F.caps)), (7, tI (a0.length : Int)), (8, tI 0)]) (by kernel_rfl)) ?_
  refine r_loopI (α := Int) (fun x => [(0, .u (.c (.sl false 2 (a0.map eR)))), (1, .u (.fn a1F.f a1F.caps)), (7, tI (a0.length : Int)), (8, tI x)]) (fun n x => IndexFunc.l1 k a0 a1 n x = some r) k 0 h (by intro x h; unfold IndexFunc.l1 at h; cases h) ?_
  rintro n1 v1 h
  replace h : IndexFunc.l1 k a0 a1 (n1 + 1) v1 = some r := h
  unfold IndexFunc.l1 at h
  show Run _ _ _ (St.of [(0, .u (.c (.sl false 2 (a0.map eR)))), (1, .u (.fn a1F.f a1F.caps)), (7, tI (a0.length : Int)), (8, tI v1)]) _
  refine r_seq ?_
  refine rr [(0, .u (.c (.sl false 2 (a0.map eR)))), (1, .u (.fn a1F.f a1F.caps)), (7, tI (a0.length : Int)), (8, tI v1), (9, tB (decide (v1 < (a0.length : Int))))] (cgt 1 [9] .nil) ?_
  refine r_seq ?_
  rcases Bool.eq_false_or_eq_true (decide (v1 < (a0.length : Int))) with hb | hb
  · have h := cond_t hb h
    refine r_condT hb rfl ?_
    refine r_skip ?_
    refine r_seq ?_
    refine r_block ?_
    refine r_seq ?_
    refine rr [(0, .u (.c (.sl false 2 (a0.map eR)))), (1, .u (.fn a1F.f a1F.caps)), (5, tI v1), (7, tI (a0.length : Int)), (8, tI v1)] (cgt 2 [10, 5] .nil) ?_
    refine r_seq ?_
    obtain ⟨hg2, h⟩ := guard_some h
    simp only [Bool.and_eq_true, decide_eq_true_eq] at hg2
    obtain ⟨r3, hr3, h⟩ := bind_some h
    refine rr [(0, .u (.c (.sl false 2 (a0.map eR)))), (1, .u (.fn a1F.f a1F.caps)), (5, tI v1), (7, tI (a0.length : Int)), (8, tI v1), (16, tB r3)] (cgt 3 [11, 12, 13] (cot 4 (os_plain rfl rfl (s_indexU (own := false) (sz := 2) (rows := (a0.map eR)) (e := v1) (ik := .i64) rfl sl36 (by kernel_rfl) (.tmp (by kernel_rfl)) hg2.1 (by rw [List.length_map]; exact hg2.2) rfl (by kernel_rfl) (by kernel_rfl))) (cot 5 (os_plain rfl rfl (s_loadA (n := 2) (xs := [.v (.int .i64 ((a0.getD v1.toNat zR).f)), .v (.int .i64 ((a0.getD v1.toNat zR).o))]) (r := 12) (off := 0) (s := .i v1.toNat 2) (p := []) (c := .sl false 2 (a0.map eR)) (cs := eR (a0.getD v1.toNat zR)) rfl (aggB_ok (by kernel_rfl)) (by kernel_rfl) (by kernel_rfl) (getP_map zR (by have := hg2; omega)) rfl rfl rfl rfl (by kernel_rfl))) (cot 6 (os_plain rfl rfl (s_callQ (res := [.c (.v (.bool r3))]) rfl a1F.ok (.u (by kernel_rfl)) (.cons (.copy (by kernel_rfl) rfl) .nil) (AC.k (a1F.ac _ _ hr3)) (by kernel_rfl))) .nil)))) ?_
    rcases Bool.eq_false_or_eq_true (r3) with hb | hb
    · have h := cond_t hb h
      refine r_condT hb rfl ?_
      refine r_seq ?_
      refine rr [(4, tI v1)] (cgt 2 [17, 4] .nil) ?_
      refine r_ret ?_
      obtain rfl := Option.some.inj h
      exact ⟨.inr rfl, _, _, .cons (.copy rfl rfl rfl) .nil, rfl, outs_of trivial⟩
    have h := cond_f hb h
    refine r_condF hb rfl ?_
    refine r_skip ?_
    refine rr [(0, .u (.c (.sl false 2 (a0.map eR)))), (1, .u (.fn a1F.f a1F.caps)), (7, tI (a0.length : Int)), (8, tI (i64.wrap (v1 + 1)))] (cgt 2 [18, 8] .nil) ?_
    exact ⟨i64.wrap (v1 + 1), h, of_weak (by kernel_rfl)⟩
  have h := cond_f hb h
  refine r_condF hb rfl ?_
  refine r_exit ?_
  refine r_seq ?_
  refine rr [(4, tI (-1))] (cgt 1 [4] .nil) ?_
  refine r_ret ?_
  obtain rfl := Option.some.inj h
  exact ⟨.inr rfl, _, _, .cons (.copy rfl rfl rfl) .nil, rfl, outs_of trivial⟩
set_option maxHeartbeats 4000000 in
def inL.f (a0 : Blk) (a1 : Int) : Option (Bool) :=
  (bif decide (a1 ≥ a0.f) then (bif decide (0 ≤ a0.o) then some (decide (a1 < (i64.wrap (a0.f + (i64.wrap (1 * 2 ^ min (a0.o).toNat (IntKind.i64).bits)))))) else none) else some false)
set_option maxHeartbeats 4000000 in
theorem inL.ac (a0 : Blk) (a1 : Int) (r : Bool) (h : inL.f a0 a1 = some r) : AC Tryd.prog 28 55 [.agg [.v (.int .i64 a0.f), .v (.int .i64 a0.o)], .c (.pt false [.v (.int .i64 a1)])] [none, none] [.c (.v (.bool r))] := by
  unfold inL.f at h
  refine ac_intro (fn := Tryd.f55) (pins := []) (rts := [3]) Tryd.func55 rfl Tryd.ntmps55 rfl (Nat.le_of_ble_eq_true rfl) (pins_lt rfl) rfl (fun w R E vs => ?_)
  refine r_weak (of_weak (l := [(0, .u (.agg [.v (.int .i64 a0.f), .v (.int .i64 a0.o)])), (1, .u (.c (.pt false [.v (.int .i64 a1)])))]) (by kernel_rfl)) ?_
  refine r_seq ?_
  refine rr [(1, .u (.c (.pt false [.v (.int .i64 a1)]))), (2, .u (.c (.pt true [.v (.int .i64 a0.f), .v (.int .i64 a0.o)])))] (cot 1 (os_plain rfl rfl (s_box (u := .agg [.v (.int .i64 a0.f), .v (.int .i64 a0.o)]) rfl (.copy (by kernel_rfl) (by kernel_rfl) (by kernel_rfl)) rfl (by kernel_rfl))) (cgt 2 [3] .nil)) ?_
  refine r_seq ?_
  rcases Bool.eq_false_or_eq_true (decide (a1 ≥ a0.f)) with hb | hb
  · have h := cond_t hb h
    have hs1 := hb
    obtain ⟨hg2, h⟩ := guard_some h
    simp only [decide_eq_true_eq] at hg2
    refine r_weak (of_weak (l := [(1, .u (.c (.pt false [.v (.int .i64 a1)]))), (2, .u (.c (.pt true [.v (.int .i64 a0.f), .v (.int .i64 a0.o)])))]) (by kernel_rfl)) ?_
    refine r_anyW (l := [(3, tB (decide (a1 < (i64.wrap (a0.f + (i64.wrap (1 * 2 ^ min (a0.o).toNat (IntKind.i64).bits)))))))]) (tab := [[], [], [1], [0, 2], [3], [4], [4], [6, 4], [4], [8, 4], [9, 4], [7, 10, 4], [5, 11, 4], [4, 12], [13, 4, 0, 1, 2, 3, 4, 5, 6, 7, 8, 9, 10, 11, 12, 13]]) [ev [] [1] 4 (tI a1), ev [] [2] 5 (.addr 2 (.d) [] 0), ev [1] [2, 5] 6 (tI a0.f), ev [0, 1, 2] [4, 6] 7 (tB (decide (a1 ≥ a0.f))), ev [0, 1, 2, 3] [7] 8 (tB true), ev [0, 1, 2, 3, 4] [1, 8] 9 (tI a1), ev [0, 1, 2, 3, 4] [2, 8] 10 (.addr 2 (.d) [] 0), ev [0, 1, 2, 3, 4, 6] [2, 8, 10] 11 (tI a0.f), ev [0, 1, 2, 3, 4] [2, 8] 12 (.addr 2 (.d) [] 1), ev [0, 1, 2, 3, 4, 8] [2, 8, 12] 13 (tI a0.o), ev [0, 1, 2, 3, 4, 8, 9] [8, 13] 14 (tI (i64.wrap (1 * 2 ^ min (a0.o).toNat (IntKind.i64).bits))), ev [0, 1, 2, 3, 4, 6, 7, 8, 9, 10] [8, 11, 14] 15 (tI (i64.wrap (a0.f + (i64.wrap (1 * 2 ^ min (a0.o).toNat (IntKind.i64).bits))))), eu 12 [8, 9, 15] 16 (tB (decide (a1 < (i64.wrap (a0.f + (i64.wrap (1 * 2 ^ min (a0.o).toNat (IntKind.i64).bits))))))), eu 13 [8, 16] 17 (tB (decide (a1 < (i64.wrap (a0.f + (i64.wrap (1 * 2 ^ min (a0.o).toNat (IntKind.i64).bits))))))), eu 14 [17] 3 (tB (decide (a1 < (i64.wrap (a0.f + (i64.wrap (1 * 2 ^ min (a0.o).toNat (IntKind.i64).bits)))))))] hm (by kernel_rfl) (by kernel_rfl) (by kernel_rfl) (.cons (fun σ hc => e_put hc rfl rfl (os_plain rfl rfl (s_loadR1 (x := .v (.int .i64 a1)) (cs := [.v (.int .i64 a1)]) rfl (oneB_ok (by kernel_rfl)) (by kernel_rfl) rfl rfl rfl (by kernel_rfl)))) (en (en (en (.cons (fun σ hc => e_put hc rfl rfl (os_ge (d := 8) (t := tB (decide (a1 ≥ a0.f))) (t' := tB true) (by kernel_rfl) (by rw [hs1]))) (.cons (fun σ hc => e_put hc rfl rfl (os_gy rfl rfl rfl (by kernel_rfl) (s_loadR1 (x := .v (.int .i64 a1)) (cs := [.v (.int .i64 a1)]) rfl (oneB_ok (by kernel_rfl)) (by kernel_rfl) rfl rfl rfl (by kernel_rfl)))) (en (en (en (en (.cons (fun σ hc => e_put hc rfl rfl (os_to (os_gy rfl rfl rfl (by kernel_rfl) (s_shift (op := .shl) (k := .i64) (p := 1) (q := a0.o) (yk := .i64) rfl (.inl rfl) (by kernel_rfl) (by kernel_rfl) hg2 rfl (by kernel_rfl))) (t' := tI (i64.wrap (1 * 2 ^ min (a0.o).toNat (IntKind.i64).bits))) (by kernel_rfl))) (en (en (en (en .nil))))))))))))))) (by kernel_rfl) ?_
    refine r_ret ?_
    obtain rfl := Option.some.inj h
    exact ⟨.inr rfl, _, _, .cons (.copy rfl rfl rfl) .nil, rfl, outs_of trivial⟩
  have h := cond_f hb h
  have hs3 := hb
  refine r_weak (of_weak (l := [(1, .u (.c (.pt false [.v (.int .i64 a1)]))), (2, .u (.c (.pt true [.v (.int .i64 a0.f), .v (.int .i64 a0.o)])))]) (by kernel_rfl)) ?_
  refine r_anyW (l := [(3, tB false)]) (tab := [[], [], [1], [0, 2], [3], [4], [4], [6, 4], [4], [8, 4], [9, 4], [7, 10, 4], [5, 11, 4], [4, 12], [13, 4, 0, 1, 2, 3, 4, 5, 6, 7, 8, 9, 10, 11, 12, 13]]) [ev [] [1] 4 (tI a1), ev [] [2] 5 (.addr 2 (.d) [] 0), ev [1] [2, 5] 6 (tI a0.f), ev [0, 1, 2] [4, 6] 7 (tB (decide (a1 ≥ a0.f))), ev [0, 1, 2, 3] [7] 8 (tB false), ev [0, 1, 2, 3, 4] [8] 9 (.tup []), ev [0, 1, 2, 3, 4] [8] 10 (.tup []), ev [0, 1, 2, 3, 4, 6] [8] 11 (.tup []), ev [0, 1, 2, 3, 4] [8] 12 (.tup []), ev [0, 1, 2, 3, 4, 8] [8] 13 (.tup []), ev [0, 1, 2, 3, 4, 8, 9] [8] 14 (.tup []), ev [0, 1, 2, 3, 4, 6, 7, 8, 9, 10] [8] 15 (.tup []), eu 12 [8] 16 (.tup []), eu 13 [8] 17 (tB false), eu 14 [17] 3 (tB false)] hm (by kernel_rfl) (by kernel_rfl) (by kernel_rfl) (.cons (fun σ hc => e_put hc rfl rfl (os_plain rfl rfl (s_loadR1 (x := .v (.int .i64 a1)) (cs := [.v (.int .i64 a1)]) rfl (oneB_ok (by kernel_rfl)) (by kernel_rfl) rfl rfl rfl (by kernel_rfl)))) (en (en (en (.cons (fun σ hc => e_put hc rfl rfl (os_ge (d := 8) (t := tB (decide (a1 ≥ a0.f))) (t' := tB false) (by kernel_rfl) (by rw [hs3]))) (en (en (en (en (en (en (en (en (en (en .nil))))))))))))))) (by kernel_rfl) ?_
  refine r_ret ?_
  obtain rfl := Option.some.inj h
  exact ⟨.inr rfl, _, _, .cons (.copy rfl rfl rfl) .nil, rfl, outs_of trivial⟩
def Cut.l1 (k : Nat) (a0 : Int) (a1 : Int) : Nat → Int → (List Pr) → Option ((List Pr) × (Option Int))
  | 0, _, _ => none
  | n1 + 1, v5, v6 => (bif decide (v5 < a1) then (bits_TrailingZeros.f (IntKind.u64.wrap v5)).bind fun (r7 : Int) => (bits_Len.f (IntKind.u64.wrap (i64.wrap (a1 - v5)))).bind fun (r8 : Int) => (bif decide (v6.length + [(⟨v5, (if 20 < (if i64.wrap (r8 - 1) < r7 then i64.wrap (r8 - 1) else r7) then 20 else (if i64.wrap (r8 - 1) < r7 then i64.wrap (r8 - 1) else r7))⟩ : Pr)].length ≤ 1000000) then (bif decide (0 ≤ (if 20 < (if i64.wrap (r8 - 1) < r7 then i64.wrap (r8 - 1) else r7) then 20 else (if i64.wrap (r8 - 1) < r7 then i64.wrap (r8 - 1) else r7))) then Cut.l1 k a0 a1 n1 (i64.wrap (v5 + (i64.wrap (1 * 2 ^ min ((if 20 < (if i64.wrap (r8 - 1) < r7 then i64.wrap (r8 - 1) else r7) then 20 else (if i64.wrap (r8 - 1) < r7 then i64.wrap (r8 - 1) else r7))).toNat (IntKind.i64).bits)))) (v6 ++ [(⟨v5, (if 20 < (if i64.wrap (r8 - 1) < r7 then i64.wrap (r8 - 1) else r7) then 20 else (if i64.wrap (r8 - 1) < r7 then i64.wrap (r8 - 1) else r7))⟩ : Pr)]) else none) else none) else some (v6, none))
set_option maxHeartbeats 4000000 in
def Cut.f (k : Nat) (a0 : Int) (a1 : Int) : Option ((List Pr) × (Option Int)) :=
  (bif decide (a0 < 0) then some ([], (some 1)) else (bif decide (a1 < a0) then some ([], (some 1)) else (bif decide (a1 > 1048576) then some ([], (some 1)) else Cut.l1 k a0 a1 k a0 [])))
set_option maxHeartbeats 4000000 in
theorem Cut.ac (k : Nat) (a0 : Int) (a1 : Int) (r : (List Pr) × (Option Int)) (h : Cut.f k a0 a1 = some r) : ACD Tryd.prog 28 52 [.c (.v (.int .i64 a0)), .c (.v (.int .i64 a1))] [none, none] [.c (.sl true 2 (r.1.map eP)), .c (.err r.2)] := by
  unfold Cut.f at h
  refine act_intro (fn := Tryd.f52) (pins := []) (rts := [4, 5]) Tryd.func52 rfl Tryd.ntmps52 rfl (Nat.le_of_ble_eq_true rfl) (pins_lt rfl) rfl (fun w R E vs hT => ?_)
  refine r_weak (of_weak (l := [(0, tI a0), (1, tI a1)]) (by kernel_rfl)) ?_
  refine r_seq ?_
  refine rr [(0, tI a0), (1, tI a1)] (cot 1 (os_plain rfl rfl (s_take (.inr rfl) (.sl 2) rfl (by kernel_rfl))) (cgt 2 [5] .nil)) ?_
  refine r_seq ?_
  refine r_seq ?_
  rcases Bool.eq_false_or_eq_true (decide (a0 < 0)) with hb | hb
  · have h := cond_t hb h
    have hs1 := hb
    refine rr [(0, tI a0), (1, tI a1), (18, tB true)] (cgt 2 [8, 9] (cot 3 (os_ge (d := 10) (t := tB (decide (a0 < 0))) (t' := tB true) (by kernel_rfl) (by rw [hs1])) (cgt 11 [11, 12, 13, 14, 15, 16, 17, 18] .nil))) ?_
    refine r_condT rfl rfl ?_
    refine r_seq ?_
    refine rr [(4, .u (.c (.sl true 2 ([].map eP)))), (5, .u (.c (.err (some 1))))] (cot 1 (os_plain rfl rfl (s_iface (n := 1) rfl (errB_ok (by kernel_rfl)) rfl (by kernel_rfl) rfl (by kernel_rfl))) (cot 2 (os_plain rfl rfl (s_take (.inr rfl) (.sl 2) rfl (by kernel_rfl))) (cgt 3 [5] .nil))) ?_
    refine r_ret ?_
    obtain rfl := Option.some.inj h
    exact ⟨.inr rfl, _, _, .cons (.move rfl rfl) (.cons (.copy rfl rfl rfl) .nil), rfl, outs_of trivial⟩
  have h := cond_f hb h
  have hs2 := hb
  rcases Bool.eq_false_or_eq_true (decide (a1 < a0)) with hb | hb
  · have h := cond_t hb h
    have hs3 := hb
    refine rr [(0, tI a0), (1, tI a1), (18, tB true)] (cgt 2 [8, 9] (cot 3 (os_ge (d := 10) (t := tB (decide (a0 < 0))) (t' := tB false) (by kernel_rfl) (by rw [hs2])) (cgt 7 [11, 12, 13, 14] (cot 8 (os_ge (d := 15) (t := tB (decide (a1 < a0))) (t' := tB true) (by kernel_rfl) (by rw [hs3])) (cgt 11 [16, 17, 18] .nil))))) ?_
    refine r_condT rfl rfl ?_
    refine r_seq ?_
    refine rr [(4, .u (.c (.sl true 2 ([].map eP)))), (5, .u (.c (.err (some 1))))] (cot 1 (os_plain rfl rfl (s_iface (n := 1) rfl (errB_ok (by kernel_rfl)) rfl (by kernel_rfl) rfl (by kernel_rfl))) (cot 2 (os_plain rfl rfl (s_take (.inr rfl) (.sl 2) rfl (by kernel_rfl))) (cgt 3 [5] .nil))) ?_
    refine r_ret ?_
    obtain rfl := Option.some.inj h
    exact ⟨.inr rfl, _, _, .cons (.move rfl rfl) (.cons (.copy rfl rfl rfl) .nil), rfl, outs_of trivial⟩
  have h := cond_f hb h
  have hs4 := hb
  refine rr [(0, tI a0), (1, tI a1), (18, tB (decide (a1 > 1048576)))] (cgt 2 [8, 9] (cot 3 (os_ge (d := 10) (t := tB (decide (a0 < 0))) (t' := tB false) (by kernel_rfl) (by rw [hs2])) (cgt 7 [11, 12, 13, 14] (cot 8 (os_ge (d := 15) (t := tB (decide (a1 < a0))) (t' := tB false) (by kernel_rfl) (by rw [hs4])) (cgt 11 [16, 17, 18] .nil))))) ?_
  rcases Bool.eq_false_or_eq_true (decide (a1 > 1048576)) with hb | hb
  · have h := cond_t hb h
    refine r_condT hb rfl ?_
    refine r_seq ?_
    refine rr [(4, .u (.c (.sl true 2 ([].map eP)))), (5, .u (.c (.err (some 1))))] (cot 1 (os_plain rfl rfl (s_iface (n := 1) rfl (errB_ok (by kernel_rfl)) rfl (by kernel_rfl) rfl (by kernel_rfl))) (cot 2 (os_plain rfl rfl (s_take (.inr rfl) (.sl 2) rfl (by kernel_rfl))) (cgt 3 [5] .nil))) ?_
    refine r_ret ?_
    obtain rfl := Option.some.inj h
    exact ⟨.inr rfl, _, _, .cons (.move rfl rfl) (.cons (.copy rfl rfl rfl) .nil), rfl, outs_of trivial⟩
  have h := cond_f hb h
  refine r_condF hb rfl ?_
  refine r_skip ?_
  refine r_seq ?_
  refine rr [(0, tI a0), (1, tI a1), (6, .u (.c (.sl true 2 ([].map eP))))] (cot 1 (os_plain rfl rfl (s_take (.inr rfl) (.sl 2) rfl (by kernel_rfl))) .nil) ?_
  refine r_seq ?_
  refine r_block ?_
  refine r_weak (of_weak (l := [(0, tI a0), (1, tI a1), (6, .u (.c (.sl true 2 ([].map eP))))]) (by kernel_rfl)) ?_
  refine r_loopI (α := Int × (List Pr)) (fun x => [(0, tI x.1), (1, tI a1), (6, .u (.c (.sl true 2 (x.2.map eP))))]) (fun n x => Cut.l1 k a0 a1 n x.1 x.2 = some r) k (a0, []) h (by intro x h; unfold Cut.l1 at h; cases h) ?_
  rintro n1 ⟨v5, v6⟩ h
  replace h : Cut.l1 k a0 a1 (n1 + 1) v5 v6 = some r := h
  unfold Cut.l1 at h
  show Run _ _ _ (St.of [(0, tI v5), (1, tI a1), (6, .u (.c (.sl true 2 (v6.map eP))))]) _
  refine r_seq ?_
  refine r_seq ?_
  refine rr [(0, tI v5), (1, tI a1), (6, .u (.c (.sl true 2 (v6.map eP)))), (22, tB (decide (v5 < a1)))] (cgt 3 [20, 21, 22] .nil) ?_
  rcases Bool.eq_false_or_eq_true (decide (v5 < a1)) with hb | hb
  · have h := cond_t hb h
    refine r_condT hb rfl ?_
    refine r_skip ?_
    refine r_block ?_
    refine r_seq ?_
    obtain ⟨r7, hr7, h⟩ := bind_some h
    obtain ⟨r8, hr8, h⟩ := bind_some h
    refine rr [(0, tI v5), (1, tI a1), (6, .u (.c (.sl true 2 (v6.map eP)))), (7, tI (if 20 < (if i64.wrap (r8 - 1) < r7 then i64.wrap (r8 - 1) else r7) then 20 else (if i64.wrap (r8 - 1) < r7 then i64.wrap (r8 - 1) else r7)))] (cgt 1 [23] (cot 2 (os_plain rfl rfl (s_conv (k := .i64) (k' := .u64) (p := v5) rfl (k2 := .i64) (by unfold IntT; kernel_rfl) (by unfold IntT; kernel_rfl) (by kernel_rfl) rfl (by kernel_rfl))) (cot 3 (os_plain rfl rfl (c_callQ (ACT.k hT (bits_TrailingZeros.ac (h := hr7))) ⟨_, Tryd.func61, rfl, by kernel_rfl⟩ rfl (.cons (.copy (by kernel_rfl) rfl) .nil) (by kernel_rfl))) (cgt 6 [26, 27, 28] (cot 7 (os_plain rfl rfl (s_conv (k := .i64) (k' := .u64) (p := i64.wrap (a1 - v5)) rfl (k2 := .i64) (by unfold IntT; kernel_rfl) (by unfold IntT; kernel_rfl) (by kernel_rfl) rfl (by kernel_rfl))) (cot 8 (os_plain rfl rfl (c_callQ (AC.k (bits_Len.ac (h := hr8))) ⟨_, Tryd.func62, rfl, by kernel_rfl⟩ rfl (.cons (.copy (by kernel_rfl) rfl) .nil) (by kernel_rfl))) (cgt 9 [31] (cot 10 (os_plain rfl rfl (s_min3 (k := .i64) (p := r7) (q := i64.wrap (r8 - 1)) (r := 20) rfl (by kernel_rfl) (by kernel_rfl) (by kernel_rfl) rfl (by kernel_rfl))) (cgt 11 [7] .nil))))))))) ?_
    refine r_seq ?_
    obtain ⟨hg9, h⟩ := guard_some h
    simp only [decide_eq_true_eq] at hg9
    refine rr [(0, tI v5), (1, tI a1), (6, .u (.c (.sl true 2 ((v6 ++ [(⟨v5, (if 20 < (if i64.wrap (r8 - 1) < r7 then i64.wrap (r8 - 1) else r7) then 20 else (if i64.wrap (r8 - 1) < r7 then i64.wrap (r8 - 1) else r7))⟩ : Pr)]).map eP)))), (7, tI (if 20 < (if i64.wrap (r8 - 1) < r7 then i64.wrap (r8 - 1) else r7) then 20 else (if i64.wrap (r8 - 1) < r7 then i64.wrap (r8 - 1) else r7)))] (cot 1 (os_plain rfl rfl (s_take (u := .c (.sl true 2 (v6.map eP))) (.inl rfl) (.move (by kernel_rfl) rfl) rfl (by kernel_rfl))) (cgt 3 [34, 35] (cot 4 (os_plain rfl rfl (s_buildA (len := 2) (sz := 1) (us := [(0, .c (.v (.int .i64 v5))), (1, .c (.v (.int .i64 (if 20 < (if i64.wrap (r8 - 1) < r7 then i64.wrap (r8 - 1) else r7) then 20 else (if i64.wrap (r8 - 1) < r7 then i64.wrap (r8 - 1) else r7)))))]) (zs := [.v (.int .i64 0), .v (.int .i64 0)]) (cs := [.v (.int .i64 v5), .v (.int .i64 (if 20 < (if i64.wrap (r8 - 1) < r7 then i64.wrap (r8 - 1) else r7) then 20 else (if i64.wrap (r8 - 1) < r7 then i64.wrap (r8 - 1) else r7)))]) rfl (arrB_ok (by kernel_rfl)) zero81 (.cons (.copy (by kernel_rfl) (by kernel_rfl) (by kernel_rfl)) (.cons (.copy (by kernel_rfl) (by kernel_rfl) (by kernel_rfl)) .nil)) (by kernel_rfl) rfl (by kernel_rfl))) (cot 5 (os_toG (os_plain rfl rfl (s_buildSlice (sz := 2) (len := 1) (us := [(0, .agg [.v (.int .i64 v5), .v (.int .i64 (if 20 < (if i64.wrap (r8 - 1) < r7 then i64.wrap (r8 - 1) else r7) then 20 else (if i64.wrap (r8 - 1) < r7 then i64.wrap (r8 - 1) else r7)))])]) (cs := [.v (.int .i64 v5), .v (.int .i64 (if 20 < (if i64.wrap (r8 - 1) < r7 then i64.wrap (r8 - 1) else r7) then 20 else (if i64.wrap (r8 - 1) < r7 then i64.wrap (r8 - 1) else r7)))]) rfl sliceZ78 (.cons (.copy (by kernel_rfl) (by kernel_rfl) (by kernel_rfl)) .nil) (by kernel_rfl) (Nat.le_of_ble_eq_true rfl) rfl (by kernel_rfl))) (t' := .u (.c (.sl true 2 ([(⟨v5, (if 20 < (if i64.wrap (r8 - 1) < r7 then i64.wrap (r8 - 1) else r7) then 20 else (if i64.wrap (r8 - 1) < r7 then i64.wrap (r8 - 1) else r7))⟩ : Pr)].map eP)))) (by kernel_rfl)) (cot 6 (os_toG (os_plain rfl rfl (s_appendM (i := 33) (sz := 2) (rows := v6.map eP) (rows2 := [(⟨v5, (if 20 < (if i64.wrap (r8 - 1) < r7 then i64.wrap (r8 - 1) else r7) then 20 else (if i64.wrap (r8 - 1) < r7 then i64.wrap (r8 - 1) else r7))⟩ : Pr)].map eP) rfl sliceZ78 (by kernel_rfl) (.v0 (r := 37) (lo := 0) (n := ([(⟨v5, (if 20 < (if i64.wrap (r8 - 1) < r7 then i64.wrap (r8 - 1) else r7) then 20 else (if i64.wrap (r8 - 1) < r7 then i64.wrap (r8 - 1) else r7))⟩ : Pr)].map eP).length) (own := true) (rows := [(⟨v5, (if 20 < (if i64.wrap (r8 - 1) < r7 then i64.wrap (r8 - 1) else r7) then 20 else (if i64.wrap (r8 - 1) < r7 then i64.wrap (r8 - 1) else r7))⟩ : Pr)].map eP) (by kernel_rfl) (by kernel_rfl) rows_all) (copy_map eP_copy) (lenMap2 hg9) (Nat.le_of_ble_eq_true rfl) rfl (by kernel_rfl))) (t' := .u (.c (.sl true 2 ((v6 ++ [(⟨v5, (if 20 < (if i64.wrap (r8 - 1) < r7 then i64.wrap (r8 - 1) else r7) then 20 else (if i64.wrap (r8 - 1) < r7 then i64.wrap (r8 - 1) else r7))⟩ : Pr)]).map eP)))) (by simp only [List.map_append])) (cot 7 (os_plain rfl rfl (s_take (u := .c (.sl true 2 ((v6 ++ [(⟨v5, (if 20 < (if i64.wrap (r8 - 1) < r7 then i64.wrap (r8 - 1) else r7) then 20 else (if i64.wrap (r8 - 1) < r7 then i64.wrap (r8 - 1) else r7))⟩ : Pr)]).map eP))) (.inr rfl) (.move (by kernel_rfl) rfl) rfl (by kernel_rfl))) .nil)))))) ?_
    obtain ⟨hg10, h⟩ := guard_some h
    simp only [decide_eq_true_eq] at hg10
    refine rr [(0, tI (i64.wrap (v5 + (i64.wrap (1 * 2 ^ min ((if 20 < (if i64.wrap (r8 - 1) < r7 then i64.wrap (r8 - 1) else r7) then 20 else (if i64.wrap (r8 - 1) < r7 then i64.wrap (r8 - 1) else r7))).toNat (IntKind.i64).bits))))), (1, tI a1), (6, .u (.c (.sl true 2 ((v6 ++ [(⟨v5, (if 20 < (if i64.wrap (r8 - 1) < r7 then i64.wrap (r8 - 1) else r7) then 20 else (if i64.wrap (r8 - 1) < r7 then i64.wrap (r8 - 1) else r7))⟩ : Pr)]).map eP))))] (cgt 2 [39, 40] (cot 3 (os_to (os_plain rfl rfl (s_shift (op := .shl) (k := .i64) (p := 1) (q := (if 20 < (if i64.wrap (r8 - 1) < r7 then i64.wrap (r8 - 1) else r7) then 20 else (if i64.wrap (r8 - 1) < r7 then i64.wrap (r8 - 1) else r7))) (yk := .i64) rfl (.inl rfl) (by kernel_rfl) (by kernel_rfl) hg10 rfl (by kernel_rfl))) (t' := tI (i64.wrap (1 * 2 ^ min ((if 20 < (if i64.wrap (r8 - 1) < r7 then i64.wrap (r8 - 1) else r7) then 20 else (if i64.wrap (r8 - 1) < r7 then i64.wrap (r8 - 1) else r7))).toNat (IntKind.i64).bits))) (by kernel_rfl)) (cgt 5 [42, 0] .nil))) ?_
    exact ⟨(i64.wrap (v5 + (i64.wrap (1 * 2 ^ min ((if 20 < (if i64.wrap (r8 - 1) < r7 then i64.wrap (r8 - 1) else r7) then 20 else (if i64.wrap (r8 - 1) < r7 then i64.wrap (r8 - 1) else r7))).toNat (IntKind.i64).bits))), (v6 ++ [(⟨v5, (if 20 < (if i64.wrap (r8 - 1) < r7 then i64.wrap (r8 - 1) else r7) then 20 else (if i64.wrap (r8 - 1) < r7 then i64.wrap (r8 - 1) else r7))⟩ : Pr)])), h, of_weak (by kernel_rfl)⟩
  have h := cond_f hb h
  refine r_condF hb rfl ?_
  refine r_exit ?_
  refine r_seq ?_
  refine rr [(4, .u (.c (.sl true 2 (v6.map eP)))), (5, .u (.c (.err none)))] (cot 1 (os_plain rfl rfl (s_take (u := .c (.sl true 2 (v6.map eP))) (.inl rfl) (.move (by kernel_rfl) rfl) rfl (by kernel_rfl))) (cot 2 (os_plain rfl rfl (s_take (u := .c (.sl true 2 (v6.map eP))) (.inr rfl) (.move (by kernel_rfl) rfl) rfl (by kernel_rfl))) (cgt 3 [5] .nil))) ?_
  refine r_ret ?_
  obtain rfl := Option.some.inj h
  exact ⟨.inr rfl, _, _, .cons (.move rfl rfl) (.cons (.copy rfl rfl rfl) .nil), rfl, outs_of trivial⟩
set_option maxHeartbeats 4000000 in
def inn.f (k : Nat) (a0 : Sto) (a1 : Int) : Option (Sto × Int) :=
  (IndexFunc.f k a0.l (fun (x0 : Blk) => inL.f x0 a1)).bind fun (r1 : Int) => some (a0, r1)
set_option maxHeartbeats 4000000 in
theorem inn.ac (k : Nat) (a0 : Sto) (a1 : Int) (r : Sto × Int) (h : inn.f k a0 a1 = some r) : AC Tryd.prog 28 46 [.c (storeC a0), .c (.v (.int .i64 a1))] [some (.c (storeC r.1)), none] [.c (.v (.int .i64 r.2))] := by
  unfold inn.f at h
  refine ac_intro (fn := Tryd.f46) (pins := [0]) (rts := [4]) Tryd.func46 rfl Tryd.ntmps46 rfl (Nat.le_of_ble_eq_true rfl) (pins_lt rfl) rfl (fun w R E vs => ?_)
  refine r_weak (of_weak (l := [(0, .u (.c (storeC a0))), (1, tI a1)]) (by kernel_rfl)) ?_
  refine r_seq ?_
  refine rr [(0, .u (.c (storeC a0))), (3, .u (.c (.pt true [.v (.int .i64 a1)])))] (cot 1 (os_plain rfl rfl (s_box (u := .c (.v (.int .i64 a1))) rfl (.copy (by kernel_rfl) (by kernel_rfl) (by kernel_rfl)) rfl (by kernel_rfl))) (cgt 2 [4] .nil)) ?_
  refine r_seq ?_
  obtain ⟨r1, hr1, h⟩ := bind_some h
  refine rr [(0, .u (.c (storeC a0))), (4, tI r1)] (cgt 4 [5, 6, 7, 8] (cot 5 (os_plain rfl rfl (s_makeFunc (is := [3]) rfl rfl rfl (by kernel_rfl) (by kernel_rfl))) (cot 6 (os_plain rfl rfl (c_callQL (res := [.c (.v (.int .i64 r1))]) (AC.k (IndexFunc.ac (a1F := ⟨55, [.pt false [.v (.int .i64 a1)]], ⟨_, Tryd.func55, rfl, by kernel_rfl⟩, fun x0 r h => inL.ac x0 a1 r h⟩) (h := hr1))) ⟨_, Tryd.func54, rfl, by kernel_rfl⟩ rfl (.cons (.view (.v1 (r := 0) (lo := 0) (n := (a0.l.map eR).length) (off := 1) (s := .d) (p := []) (c := storeC a0) (cs := [.v (.int .i64 a0.n), .sl true 2 (a0.l.map eR)]) (own := true) (rows := a0.l.map eR) (by kernel_rfl) (by kernel_rfl) rfl rfl rows_all) (copy_map eR_copy)) (.cons (.fn (f := 55) (caps := [.ref 3]) (by kernel_rfl) (.ref (r := 3) (own := true) (ds := [.v (.int .i64 a1)]) (by kernel_rfl) (by simp [flatL, flatC]) rfl .nil)) .nil)) (⟨trivial, trivial⟩) (by kernel_rfl))) (cgt 7 [4] .nil)))) ?_
  refine r_ret ?_
  obtain rfl := Option.some.inj h
  exact ⟨.inr rfl, _, _, .cons (.copy rfl rfl rfl) .nil, rfl, outs_of ⟨⟨rfl, rfl⟩, trivial⟩⟩
set_option maxHeartbeats 4000000 in
def IsFree.f (k : Nat) (a0 : Sto) (a1 : Int) : Option (Sto × Bool) :=
  (inn.f k a0 a1).bind fun (r1 : Sto × Int) => some (r1.1, decide (r1.2 ≥ 0))
set_option maxHeartbeats 4000000 in
theorem IsFree.ac (k : Nat) (a0 : Sto) (a1 : Int) (r : Sto × Bool) (h : IsFree.f k a0 a1 = some r) : AC Tryd.prog 28 40 [.c (storeC a0), .c (.v (.int .i64 a1))] [some (.c (storeC r.1)), none] [.c (.v (.bool r.2))] := by
  unfold IsFree.f at h
  refine ac_intro (fn := Tryd.f40) (pins := [0]) (rts := [4]) Tryd.func40 rfl Tryd.ntmps40 rfl (Nat.le_of_ble_eq_true rfl) (pins_lt rfl) rfl (fun w R E vs => ?_)
  refine r_weak (of_weak (l := [(0, .u (.c (storeC a0))), (1, tI a1)]) (by kernel_rfl)) ?_
  refine r_seq ?_
  refine rr [(0, .u (.c (storeC a0))), (1, tI a1)] (cgt 1 [4] .nil) ?_
  refine r_seq ?_
  obtain ⟨r1, hr1, h⟩ := bind_some h
  refine rr [(0, .u (.c (storeC r1.1))), (4, tB (decide (r1.2 ≥ 0)))] (cgt 2 [5, 6] (cot 3 (os_plain rfl rfl (c_call (AC.k (inn.ac (h := hr1))) ⟨_, Tryd.func46, rfl, by kernel_rfl⟩ rfl (hand_root (r := 0) (c := storeC a0) (by kernel_rfl) (by kernel_rfl) rfl (.rd (.copy (by kernel_rfl) rfl) .nil)) rfl (by kernel_rfl))) (cgt 5 [8, 4] .nil))) ?_
  refine r_ret ?_
  obtain rfl := Option.some.inj h
  exact ⟨.inr rfl, _, _, .cons (.copy rfl rfl rfl) .nil, rfl, outs_of ⟨⟨rfl, rfl⟩, trivial⟩⟩
set_option maxHeartbeats 4000000 in
def Free.f (k : Nat) (a0 : Sto) : Option (Sto × (List Blk)) :=
  (Clone.f k a0.l).bind fun (r1 : (List Blk)) => some (a0, r1)
set_option maxHeartbeats 4000000 in
theorem Free.ac (k : Nat) (a0 : Sto) (r : Sto × (List Blk)) (h : Free.f k a0 = some r) : AC Tryd.prog 28 34 [.c (storeC a0)] [some (.c (storeC r.1))] [.c (.sl true 2 (r.2.map eR))] := by
  unfold Free.f at h
  refine ac_intro (fn := Tryd.f34) (pins := [0]) (rts := [2]) Tryd.func34 rfl Tryd.ntmps34 rfl (Nat.le_of_ble_eq_true rfl) (pins_lt rfl) rfl (fun w R E vs => ?_)
  refine r_weak (of_weak (l := [(0, .u (.c (storeC a0)))]) (by kernel_rfl)) ?_
  refine r_seq ?_
  refine rr [(0, .u (.c (storeC a0)))] (cot 1 (os_plain rfl rfl (s_take (.inr rfl) (.sl 2) rfl (by kernel_rfl))) .nil) ?_
  refine r_seq ?_
  obtain ⟨r1, hr1, h⟩ := bind_some h
  refine rr [(0, .u (.c (storeC a0))), (2, .u (.c (.sl true 2 (r1.map eR))))] (cgt 4 [3, 4, 5, 6] (cot 5 (os_plain rfl rfl (c_callQL (res := [.c (.sl true 2 (r1.map eR))]) (AC.k (Clone.ac (h := hr1))) ⟨_, Tryd.func48, rfl, by kernel_rfl⟩ rfl (.cons (.view (.v1 (r := 0) (lo := 0) (n := (a0.l.map eR).length) (off := 1) (s := .d) (p := []) (c := storeC a0) (cs := [.v (.int .i64 a0.n), .sl true 2 (a0.l.map eR)]) (own := true) (rows := a0.l.map eR) (by kernel_rfl) (by kernel_rfl) rfl rfl rows_all) (copy_map eR_copy)) .nil) (⟨⟨rfl, mine_map (fun _ => rfl)⟩, trivial⟩) (by kernel_rfl))) (cot 6 (os_plain rfl rfl (s_take (u := .c (.sl true 2 (r1.map eR))) (.inr rfl) (.move (by kernel_rfl) rfl) rfl (by kernel_rfl))) .nil))) ?_
  refine r_ret ?_
  obtain rfl := Option.some.inj h
  exact ⟨.inr rfl, _, _, .cons (.move rfl rfl) .nil, rfl, outs_of ⟨⟨rfl, rfl⟩, trivial⟩⟩
set_option maxHeartbeats 4000000 in
def SClone.f (k : Nat) (a0 : Sto) : Option (Sto × Sto) :=
  (Clone.f k a0.l).bind fun (r1 : (List Blk)) => some (a0, (⟨a0.n, r1⟩ : Sto))
set_option maxHeartbeats 4000000 in
set_option maxHeartbeats 4000000 in
def order.f (a0 : Int) : Option (Bool) :=
  (bif decide (a0 ≥ 0) then some (decide (a0 ≤ 5)) else some false)
set_option maxHeartbeats 4000000 in
theorem order.ac (a0 : Int) (r : Bool) (h : order.f a0 = some r) : AC Tryd.prog 28 53 [.c (.v (.int .i64 a0))] [none] [.c (.v (.bool r))] := by
  unfold order.f at h
  refine ac_intro (fn := Tryd.f53) (pins := []) (rts := [2]) Tryd.func53 rfl Tryd.ntmps53 rfl (Nat.le_of_ble_eq_true rfl) (pins_lt rfl) rfl (fun w R E vs => ?_)
  refine r_weak (of_weak (l := [(0, tI a0)]) (by kernel_rfl)) ?_
  refine r_seq ?_
  refine rr [(0, tI a0)] (cgt 1 [2] .nil) ?_
  refine r_seq ?_
  rcases Bool.eq_false_or_eq_true (decide (a0 ≥ 0)) with hb | hb
  · have h := cond_t hb h
    have hs1 := hb
    refine rr [(2, tB (decide (a0 ≤ 5)))] (cgt 2 [3, 4] (cot 3 (os_ge (d := 5) (t := tB (decide (a0 ≥ 0))) (t' := tB true) (by kernel_rfl) (by rw [hs1])) (cgt 7 [6, 7, 8, 2] .nil))) ?_
    refine r_ret ?_
    obtain rfl := Option.some.inj h
    exact ⟨.inr rfl, _, _, .cons (.copy rfl rfl rfl) .nil, rfl, outs_of trivial⟩
  have h := cond_f hb h
  have hs2 := hb
  refine rr [(2, tB false)] (cgt 2 [3, 4] (cot 3 (os_ge (d := 5) (t := tB (decide (a0 ≥ 0))) (t' := tB false) (by kernel_rfl) (by rw [hs2])) (cgt 7 [6, 7, 8, 2] .nil))) ?_
  refine r_ret ?_
  obtain rfl := Option.some.inj h
  exact ⟨.inr rfl, _, _, .cons (.copy rfl rfl rfl) .nil, rfl, outs_of trivial⟩
set_option maxHeartbeats 4000000 in
def block.f (k : Nat) (a0 : Sto) (a1 : Int) (a2 : Int) : Option (Sto × Bool) :=
  (order.f a2).bind fun (r1 : Bool) => (bif r1 then (bif decide (a1 ≥ 0) then (bif decide (a1 < a0.n) then (bif decide (0 ≤ a2) then (bif decide ((i64.wrap (1 * 2 ^ min (a2).toNat (IntKind.i64).bits)) ≠ 0) then (bif (a1.tmod (i64.wrap (1 * 2 ^ min (a2).toNat (IntKind.i64).bits))) == 0 then (bif decide (0 ≤ a2) then some (a0, decide ((i64.wrap (a1 + (i64.wrap (1 * 2 ^ min (a2).toNat (IntKind.i64).bits)))) ≤ a0.n)) else none) else some (a0, false)) else none) else none) else some (a0, false)) else some (a0, false)) else some (a0, false))
set_option maxHeartbeats 4000000 in
theorem block.ac (k : Nat) (a0 : Sto) (a1 : Int) (a2 : Int) (r : Sto × Bool) (h : block.f k a0 a1 a2 = some r) : AC Tryd.prog 28 45 [.c (storeC a0), .c (.v (.int .i64 a1)), .c (.v (.int .i64 a2))] [some (.c (storeC r.1)), none, none] [.c (.v (.bool r.2))] := by
  unfold block.f at h
  refine ac_intro (fn := Tryd.f45) (pins := [0]) (rts := [6]) Tryd.func45 rfl Tryd.ntmps45 rfl (Nat.le_of_ble_eq_true rfl) (pins_lt rfl) rfl (fun w R E vs => ?_)
  refine r_weak (of_weak (l := [(0, .u (.c (storeC a0))), (1, tI a1), (2, tI a2)]) (by kernel_rfl)) ?_
  refine r_seq ?_
  refine rr [(0, .u (.c (storeC a0))), (1, tI a1), (2, tI a2)] (cgt 1 [6] .nil) ?_
  refine r_seq ?_
  obtain ⟨r1, hr1, h⟩ := bind_some h
  rcases Bool.eq_false_or_eq_true (r1) with hb | hb
  · have h := cond_t hb h
    have hs2 := hb
    rcases Bool.eq_false_or_eq_true (decide (a1 ≥ 0)) with hb | hb
    · have h := cond_t hb h
      have hs3 := hb
      rcases Bool.eq_false_or_eq_true (decide (a1 < a0.n)) with hb | hb
      · have h := cond_t hb h
        have hs4 := hb
        obtain ⟨hg5, h⟩ := guard_some h
        simp only [decide_eq_true_eq] at hg5
        obtain ⟨hg6, h⟩ := guard_some h
        simp only [decide_eq_true_eq] at hg6
        rcases Bool.eq_false_or_eq_true ((a1.tmod (i64.wrap (1 * 2 ^ min (a2).toNat (IntKind.i64).bits))) == 0) with hb | hb
        · have h := cond_t hb h
          have hs7 := hb
          obtain ⟨hg8, h⟩ := guard_some h
          simp only [decide_eq_true_eq] at hg8
          refine r_weak (of_weak (l := [(0, .u (.c (storeC a0))), (1, tI a1), (2, tI a2)]) (by kernel_rfl)) ?_
          refine r_anyW (l := [(0, .u (.c (storeC a0))), (6, tB (decide ((i64.wrap (a1 + (i64.wrap (1 * 2 ^ min (a2).toNat (IntKind.i64).bits)))) ≤ a0.n)))]) (tab := [[], [0], [1, 1], [2], [3, 2], [2, 4], [5, 2], [6], [6], [8, 6], [9, 6], [10, 6], [7, 11, 6], [6, 12], [13, 6], [14], [14], [16, 14], [15, 17, 14], [18, 14], [14, 19], [20, 14], [21], [21], [23, 21], [22, 24, 21], [21], [26, 21], [27, 21], [28, 21], [25, 29, 21], [21, 30], [31, 21, 0, 1, 2, 3, 4, 5, 6, 7, 8, 9, 10, 11, 12, 13, 14, 15, 16, 17, 18, 19, 20, 21, 22, 23, 24, 25, 26, 27, 28, 29, 30, 31]]) [ev [] [2] 7 (tI a2), ev [0] [7] 8 (tB r1), ev [0, 1] [8] 9 (tB true), ev [0, 1, 2] [1, 9] 10 (tI a1), ev [0, 1, 2, 3] [9, 10] 11 (tB (decide (a1 ≥ 0))), ev [0, 1, 2, 3, 4] [9, 11] 12 (tB (decide (a1 ≥ 0))), eu 6 [12] 13 (tB true), eu 7 [1, 13] 14 (tI a1), eu 7 [0, 13] 15 (.addr 0 (.d) [] 0), ev [0, 1, 2, 3, 4, 5, 6, 8] [13, 15] 16 (.addr 0 (.d) [] 0), ev [0, 1, 2, 3, 4, 5, 6, 8, 9] [13, 16] 17 (.addr 0 (.d) [] 0), ev [0, 1, 2, 3, 4, 5, 6, 8, 9, 10] [0, 13, 17] 18 (tI a0.n), eu 12 [13, 14, 18] 19 (tB (decide (a1 < a0.n))), eu 13 [13, 19] 20 (tB (decide (a1 < a0.n))), eu 14 [20] 21 (tB true), eu 15 [1, 21] 22 (tI a1), eu 15 [2, 21] 23 (tI a2), ev [0, 1, 2, 3, 4, 5, 6, 7, 8, 9, 10, 11, 12, 13, 14, 16] [21, 23] 24 (tI (i64.wrap (1 * 2 ^ min (a2).toNat (IntKind.i64).bits))), eu 18 [21, 22, 24] 25 (tI (a1.tmod (i64.wrap (1 * 2 ^ min (a2).toNat (IntKind.i64).bits)))), eu 19 [21, 25] 26 (tB ((a1.tmod (i64.wrap (1 * 2 ^ min (a2).toNat (IntKind.i64).bits))) == 0)), eu 20 [21, 26] 27 (tB ((a1.tmod (i64.wrap (1 * 2 ^ min (a2).toNat (IntKind.i64).bits))) == 0)), eu 21 [27] 28 (tB true), eu 22 [1, 28] 29 (tI a1), eu 22 [2, 28] 30 (tI a2), ev [0, 1, 2, 3, 4, 5, 6, 7, 8, 9, 10, 11, 12, 13, 14, 15, 16, 17, 18, 19, 20, 21, 23] [28, 30] 31 (tI (i64.wrap (1 * 2 ^ min (a2).toNat (IntKind.i64).bits))), eu 25 [28, 29, 31] 32 (tI (i64.wrap (a1 + (i64.wrap (1 * 2 ^ min (a2).toNat (IntKind.i64).bits))))), eu 22 [0, 28] 33 (.addr 0 (.d) [] 0), ev [0, 1, 2, 3, 4, 5, 6, 7, 8, 9, 10, 11, 12, 13, 14, 15, 16, 17, 18, 19, 20, 21, 26] [28, 33] 34 (.addr 0 (.d) [] 0), ev [0, 1, 2, 3, 4, 5, 6, 7, 8, 9, 10, 11, 12, 13, 14, 15, 16, 17, 18, 19, 20, 21, 26, 27] [28, 34] 35 (.addr 0 (.d) [] 0), ev [0, 1, 2, 3, 4, 5, 6, 7, 8, 9, 10, 11, 12, 13, 14, 15, 16, 17, 18, 19, 20, 21, 26, 27, 28] [0, 28, 35] 36 (tI a0.n), eu 30 [28, 32, 36] 37 (tB (decide ((i64.wrap (a1 + (i64.wrap (1 * 2 ^ min (a2).toNat (IntKind.i64).bits)))) ≤ a0.n))), eu 31 [28, 37] 38 (tB (decide ((i64.wrap (a1 + (i64.wrap (1 * 2 ^ min (a2).toNat (IntKind.i64).bits)))) ≤ a0.n))), eu 32 [38] 6 (tB (decide ((i64.wrap (a1 + (i64.wrap (1 * 2 ^ min (a2).toNat (IntKind.i64).bits)))) ≤ a0.n)))] hm (by kernel_rfl) (by kernel_rfl) (by kernel_rfl) (en (.cons (fun σ hc => e_put hc rfl rfl (os_plain rfl rfl (c_callQ (res := [.c (.v (.bool r1))]) (AC.k (order.ac (h := hr1))) ⟨_, Tryd.func53, rfl, by kernel_rfl⟩ rfl (.cons (.copy (by kernel_rfl) rfl) .nil) (by kernel_rfl)))) (.cons (fun σ hc => e_put hc rfl rfl (os_ge (d := 9) (t := tB r1) (t' := tB true) (by kernel_rfl) (by rw [hs2]))) (en (en (en (.cons (fun σ hc => e_put hc rfl rfl (os_ge (d := 13) (t := tB (decide (a1 ≥ 0))) (t' := tB true) (by kernel_rfl) (by rw [hs3]))) (en (en (en (en (en (en (en (.cons (fun σ hc => e_put hc rfl rfl (os_ge (d := 21) (t := tB (decide (a1 < a0.n))) (t' := tB true) (by kernel_rfl) (by rw [hs4]))) (en (en (.cons (fun σ hc => e_put hc rfl rfl (os_to (os_gy rfl rfl rfl (by kernel_rfl) (s_shift (op := .shl) (k := .i64) (p := 1) (q := a2) (yk := .i64) rfl (.inl rfl) (by kernel_rfl) (by kernel_rfl) hg5 rfl (by kernel_rfl))) (t' := tI (i64.wrap (1 * 2 ^ min (a2).toNat (IntKind.i64).bits))) (by kernel_rfl))) (.cons (fun σ hc => e_put hc rfl rfl (os_to (os_gy rfl rfl rfl (by kernel_rfl) (s_div (op := .rem) (k := .i64) (p := a1) (q := (i64.wrap (1 * 2 ^ min (a2).toNat (IntKind.i64).bits))) rfl (.inr rfl) (by kernel_rfl) (by kernel_rfl) hg6 rfl (by kernel_rfl))) (t' := tI (a1.tmod (i64.wrap (1 * 2 ^ min (a2).toNat (IntKind.i64).bits)))) (by kernel_rfl))) (en (en (.cons (fun σ hc => e_put hc rfl rfl (os_ge (d := 28) (t := tB ((a1.tmod (i64.wrap (1 * 2 ^ min (a2).toNat (IntKind.i64).bits))) == 0)) (t' := tB true) (by kernel_rfl) (by rw [hs7]))) (en (en (.cons (fun σ hc => e_put hc rfl rfl (os_to (os_gy rfl rfl rfl (by kernel_rfl) (s_shift (op := .shl) (k := .i64) (p := 1) (q := a2) (yk := .i64) rfl (.inl rfl) (by kernel_rfl) (by kernel_rfl) hg8 rfl (by kernel_rfl))) (t' := tI (i64.wrap (1 * 2 ^ min (a2).toNat (IntKind.i64).bits))) (by kernel_rfl))) (en (en (en (en (en (en (en (en .nil))))))))))))))))))))))))))))))))) (by kernel_rfl) ?_
          refine r_ret ?_
          obtain rfl := Option.some.inj h
          exact ⟨.inr rfl, _, _, .cons (.copy rfl rfl rfl) .nil, rfl, outs_of ⟨⟨rfl, rfl⟩, trivial⟩⟩
        have h := cond_f hb h
        have hs9 := hb
        refine r_weak (of_weak (l := [(0, .u (.c (storeC a0))), (1, tI a1), (2, tI a2)]) (by kernel_rfl)) ?_
        refine r_anyW (l := [(0, .u (.c (storeC a0))), (6, tB false)]) (tab := [[], [0], [1, 1], [2], [3, 2], [2, 4], [5, 2], [6], [6], [8, 6], [9, 6], [10, 6], [7, 11, 6], [6, 12], [13, 6], [14], [14], [16, 14], [15, 17, 14], [18, 14], [14, 19], [20, 14], [21], [21], [23, 21], [22, 24, 21], [21], [26, 21], [27, 21], [28, 21], [25, 29, 21], [21, 30], [31, 21, 0, 1, 2, 3, 4, 5, 6, 7, 8, 9, 10, 11, 12, 13, 14, 15, 16, 17, 18, 19, 20, 21, 22, 23, 24, 25, 26, 27, 28, 29, 30, 31]]) [ev [] [2] 7 (tI a2), ev [0] [7] 8 (tB r1), ev [0, 1] [8] 9 (tB true), ev [0, 1, 2] [1, 9] 10 (tI a1), ev [0, 1, 2, 3] [9, 10] 11 (tB (decide (a1 ≥ 0))), ev [0, 1, 2, 3, 4] [9, 11] 12 (tB (decide (a1 ≥ 0))), eu 6 [12] 13 (tB true), eu 7 [1, 13] 14 (tI a1), eu 7 [0, 13] 15 (.addr 0 (.d) [] 0), ev [0, 1, 2, 3, 4, 5, 6, 8] [13, 15] 16 (.addr 0 (.d) [] 0), ev [0, 1, 2, 3, 4, 5, 6, 8, 9] [13, 16] 17 (.addr 0 (.d) [] 0), ev [0, 1, 2, 3, 4, 5, 6, 8, 9, 10] [0, 13, 17] 18 (tI a0.n), eu 12 [13, 14, 18] 19 (tB (decide (a1 < a0.n))), eu 13 [13, 19] 20 (tB (decide (a1 < a0.n))), eu 14 [20] 21 (tB true), eu 15 [1, 21] 22 (tI a1), eu 15 [2, 21] 23 (tI a2), ev [0, 1, 2, 3, 4, 5, 6, 7, 8, 9, 10, 11, 12, 13, 14, 16] [21, 23] 24 (tI (i64.wrap (1 * 2 ^ min (a2).toNat (IntKind.i64).bits))), eu 18 [21, 22, 24] 25 (tI (a1.tmod (i64.wrap (1 * 2 ^ min (a2).toNat (IntKind.i64).bits)))), eu 19 [21, 25] 26 (tB ((a1.tmod (i64.wrap (1 * 2 ^ min (a2).toNat (IntKind.i64).bits))) == 0)), eu 20 [21, 26] 27 (tB ((a1.tmod (i64.wrap (1 * 2 ^ min (a2).toNat (IntKind.i64).bits))) == 0)), eu 21 [27] 28 (tB false), eu 22 [28] 29 (.tup []), eu 22 [28] 30 (.tup []), ev [0, 1, 2, 3, 4, 5, 6, 7, 8, 9, 10, 11, 12, 13, 14, 15, 16, 17, 18, 19, 20, 21, 23] [28] 31 (.tup []), eu 25 [28] 32 (.tup []), eu 22 [28] 33 (.tup []), ev [0, 1, 2, 3, 4, 5, 6, 7, 8, 9, 10, 11, 12, 13, 14, 15, 16, 17, 18, 19, 20, 21, 26] [28] 34 (.tup []), ev [0, 1, 2, 3, 4, 5, 6, 7, 8, 9, 10, 11, 12, 13, 14, 15, 16, 17, 18, 19, 20, 21, 26, 27] [28] 35 (.tup []), ev [0, 1, 2, 3, 4, 5, 6, 7, 8, 9, 10, 11, 12, 13, 14, 15, 16, 17, 18, 19, 20, 21, 26, 27, 28] [28] 36 (.tup []), eu 30 [28] 37 (.tup []), eu 31 [28] 38 (tB false), eu 32 [38] 6 (tB false)] hm (by kernel_rfl) (by kernel_rfl) (by kernel_rfl) (en (.cons (fun σ hc => e_put hc rfl rfl (os_plain rfl rfl (c_callQ (res := [.c (.v (.bool r1))]) (AC.k (order.ac (h := hr1))) ⟨_, Tryd.func53, rfl, by kernel_rfl⟩ rfl (.cons (.copy (by kernel_rfl) rfl) .nil) (by kernel_rfl)))) (.cons (fun σ hc => e_put hc rfl rfl (os_ge (d := 9) (t := tB r1) (t' := tB true) (by kernel_rfl) (by rw [hs2]))) (en (en (en (.cons (fun σ hc => e_put hc rfl rfl (os_ge (d := 13) (t := tB (decide (a1 ≥ 0))) (t' := tB true) (by kernel_rfl) (by rw [hs3]))) (en (en (en (en (en (en (en (.cons (fun σ hc => e_put hc rfl rfl (os_ge (d := 21) (t := tB (decide (a1 < a0.n))) (t' := tB true) (by kernel_rfl) (by rw [hs4]))) (en (en (.cons (fun σ hc => e_put hc rfl rfl (os_to (os_gy rfl rfl rfl (by kernel_rfl) (s_shift (op := .shl) (k := .i64) (p := 1) (q := a2) (yk := .i64) rfl (.inl rfl) (by kernel_rfl) (by kernel_rfl) hg5 rfl (by kernel_rfl))) (t' := tI (i64.wrap (1 * 2 ^ min (a2).toNat (IntKind.i64).bits))) (by kernel_rfl))) (.cons (fun σ hc => e_put hc rfl rfl (os_to (os_gy rfl rfl rfl (by kernel_rfl) (s_div (op := .rem) (k := .i64) (p := a1) (q := (i64.wrap (1 * 2 ^ min (a2).toNat (IntKind.i64).bits))) rfl (.inr rfl) (by kernel_rfl) (by kernel_rfl) hg6 rfl (by kernel_rfl))) (t' := tI (a1.tmod (i64.wrap (1 * 2 ^ min (a2).toNat (IntKind.i64).bits)))) (by kernel_rfl))) (en (en (.cons (fun σ hc => e_put hc rfl rfl (os_ge (d := 28) (t := tB ((a1.tmod (i64.wrap (1 * 2 ^ min (a2).toNat (IntKind.i64).bits))) == 0)) (t' := tB false) (by kernel_rfl) (by rw [hs9]))) (en (en (en (en (en (en (en (en (en (en (en .nil))))))))))))))))))))))))))))))))) (by kernel_rfl) ?_
        refine r_ret ?_
        obtain rfl := Option.some.inj h
        exact ⟨.inr rfl, _, _, .cons (.copy rfl rfl rfl) .nil, rfl, outs_of ⟨⟨rfl, rfl⟩, trivial⟩⟩
      have h := cond_f hb h
      have hs10 := hb
      refine r_weak (of_weak (l := [(0, .u (.c (storeC a0))), (1, tI a1), (2, tI a2)]) (by kernel_rfl)) ?_
      refine r_anyW (l := [(0, .u (.c (storeC a0))), (6, tB false)]) (tab := [[], [0], [1, 1], [2], [3, 2], [2, 4], [5, 2], [6], [6], [8, 6], [9, 6], [10, 6], [7, 11, 6], [6, 12], [13, 6], [14], [14], [16, 14], [15, 17, 14], [18, 14], [14, 19], [20, 14], [21], [21], [23, 21], [22, 24, 21], [21], [26, 21], [27, 21], [28, 21], [25, 29, 21], [21, 30], [31, 21, 0, 1, 2, 3, 4, 5, 6, 7, 8, 9, 10, 11, 12, 13, 14, 15, 16, 17, 18, 19, 20, 21, 22, 23, 24, 25, 26, 27, 28, 29, 30, 31]]) [ev [] [2] 7 (tI a2), ev [0] [7] 8 (tB r1), ev [0, 1] [8] 9 (tB true), ev [0, 1, 2] [1, 9] 10 (tI a1), ev [0, 1, 2, 3] [9, 10] 11 (tB (decide (a1 ≥ 0))), ev [0, 1, 2, 3, 4] [9, 11] 12 (tB (decide (a1 ≥ 0))), eu 6 [12] 13 (tB true), eu 7 [1, 13] 14 (tI a1), eu 7 [0, 13] 15 (.addr 0 (.d) [] 0), ev [0, 1, 2, 3, 4, 5, 6, 8] [13, 15] 16 (.addr 0 (.d) [] 0), ev [0, 1, 2, 3, 4, 5, 6, 8, 9] [13, 16] 17 (.addr 0 (.d) [] 0), ev [0, 1, 2, 3, 4, 5, 6, 8, 9, 10] [0, 13, 17] 18 (tI a0.n), eu 12 [13, 14, 18] 19 (tB (decide (a1 < a0.n))), eu 13 [13, 19] 20 (tB (decide (a1 < a0.n))), eu 14 [20] 21 (tB false), eu 15 [21] 22 (.tup []), eu 15 [21] 23 (.tup []), ev [0, 1, 2, 3, 4, 5, 6, 7, 8, 9, 10, 11, 12, 13, 14, 16] [21] 24 (.tup []), eu 18 [21] 25 (.tup []), eu 19 [21] 26 (.tup []), eu 20 [21] 27 (tB false), eu 21 [27] 28 (tB false), eu 22 [28] 29 (.tup []), eu 22 [28] 30 (.tup []), ev [0, 1, 2, 3, 4, 5, 6, 7, 8, 9, 10, 11, 12, 13, 14, 15, 16, 17, 18, 19, 20, 21, 23] [28] 31 (.tup []), eu 25 [28] 32 (.tup []), eu 22 [28] 33 (.tup []), ev [0, 1, 2, 3, 4, 5, 6, 7, 8, 9, 10, 11, 12, 13, 14, 15, 16, 17, 18, 19, 20, 21, 26] [28] 34 (.tup []), ev [0, 1, 2, 3, 4, 5, 6, 7, 8, 9, 10, 11, 12, 13, 14, 15, 16, 17, 18, 19, 20, 21, 26, 27] [28] 35 (.tup []), ev [0, 1, 2, 3, 4, 5, 6, 7, 8, 9, 10, 11, 12, 13, 14, 15, 16, 17, 18, 19, 20, 21, 26, 27, 28] [28] 36 (.tup []), eu 30 [28] 37 (.tup []), eu 31 [28] 38 (tB false), eu 32 [38] 6 (tB false)] hm (by kernel_rfl) (by kernel_rfl) (by kernel_rfl) (en (.cons (fun σ hc => e_put hc rfl rfl (os_plain rfl rfl (c_callQ (res := [.c (.v (.bool r1))]) (AC.k (order.ac (h := hr1))) ⟨_, Tryd.func53, rfl, by kernel_rfl⟩ rfl (.cons (.copy (by kernel_rfl) rfl) .nil) (by kernel_rfl)))) (.cons (fun σ hc => e_put hc rfl rfl (os_ge (d := 9) (t := tB r1) (t' := tB true) (by kernel_rfl) (by rw [hs2]))) (en (en (en (.cons (fun σ hc => e_put hc rfl rfl (os_ge (d := 13) (t := tB (decide (a1 ≥ 0))) (t' := tB true) (by kernel_rfl) (by rw [hs3]))) (en (en (en (en (en (en (en (.cons (fun σ hc => e_put hc rfl rfl (os_ge (d := 21) (t := tB (decide (a1 < a0.n))) (t' := tB false) (by kernel_rfl) (by rw [hs10]))) (en (en (en (en (en (en (en (en (en (en (en (en (en (en (en (en (en (en .nil))))))))))))))))))))))))))))))))) (by kernel_rfl) ?_
      refine r_ret ?_
      obtain rfl := Option.some.inj h
      exact ⟨.inr rfl, _, _, .cons (.copy rfl rfl rfl) .nil, rfl, outs_of ⟨⟨rfl, rfl⟩, trivial⟩⟩
    have h := cond_f hb h
    have hs11 := hb
    refine r_weak (of_weak (l := [(0, .u (.c (storeC a0))), (1, tI a1), (2, tI a2)]) (by kernel_rfl)) ?_
    refine r_anyW (l := [(0, .u (.c (storeC a0))), (6, tB false)]) (tab := [[], [0], [1, 1], [2], [3, 2], [2, 4], [5, 2], [6], [6], [8, 6], [9, 6], [10, 6], [7, 11, 6], [6, 12], [13, 6], [14], [14], [16, 14], [15, 17, 14], [18, 14], [14, 19], [20, 14], [21], [21], [23, 21], [22, 24, 21], [21], [26, 21], [27, 21], [28, 21], [25, 29, 21], [21, 30], [31, 21, 0, 1, 2, 3, 4, 5, 6, 7, 8, 9, 10, 11, 12, 13, 14, 15, 16, 17, 18, 19, 20, 21, 22, 23, 24, 25, 26, 27, 28, 29, 30, 31]]) [ev [] [2] 7 (tI a2), ev [0] [7] 8 (tB r1), ev [0, 1] [8] 9 (tB true), ev [0, 1, 2] [1, 9] 10 (tI a1), ev [0, 1, 2, 3] [9, 10] 11 (tB (decide (a1 ≥ 0))), ev [0, 1, 2, 3, 4] [9, 11] 12 (tB (decide (a1 ≥ 0))), eu 6 [12] 13 (tB false), eu 7 [13] 14 (.tup []), eu 7 [13] 15 (.tup []), ev [0, 1, 2, 3, 4, 5, 6, 8] [13] 16 (.tup []), ev [0, 1, 2, 3, 4, 5, 6, 8, 9] [13] 17 (.tup []), ev [0, 1, 2, 3, 4, 5, 6, 8, 9, 10] [13] 18 (.tup []), eu 12 [13] 19 (.tup []), eu 13 [13] 20 (tB false), eu 14 [20] 21 (tB false), eu 15 [21] 22 (.tup []), eu 15 [21] 23 (.tup []), ev [0, 1, 2, 3, 4, 5, 6, 7, 8, 9, 10, 11, 12, 13, 14, 16] [21] 24 (.tup []), eu 18 [21] 25 (.tup []), eu 19 [21] 26 (.tup []), eu 20 [21] 27 (tB false), eu 21 [27] 28 (tB false), eu 22 [28] 29 (.tup []), eu 22 [28] 30 (.tup []), ev [0, 1, 2, 3, 4, 5, 6, 7, 8, 9, 10, 11, 12, 13, 14, 15, 16, 17, 18, 19, 20, 21, 23] [28] 31 (.tup []), eu 25 [28] 32 (.tup []), eu 22 [28] 33 (.tup []), ev [0, 1, 2, 3, 4, 5, 6, 7, 8, 9, 10, 11, 12, 13, 14, 15, 16, 17, 18, 19, 20, 21, 26] [28] 34 (.tup []), ev [0, 1, 2, 3, 4, 5, 6, 7, 8, 9, 10, 11, 12, 13, 14, 15, 16, 17, 18, 19, 20, 21, 26, 27] [28] 35 (.tup []), ev [0, 1, 2, 3, 4, 5, 6, 7, 8, 9, 10, 11, 12, 13, 14, 15, 16, 17, 18, 19, 20, 21, 26, 27, 28] [28] 36 (.tup []), eu 30 [28] 37 (.tup []), eu 31 [28] 38 (tB false), eu 32 [38] 6 (tB false)] hm (by kernel_rfl) (by kernel_rfl) (by kernel_rfl) (en (.cons (fun σ hc => e_put hc rfl rfl (os_plain rfl rfl (c_callQ (res := [.c (.v (.bool r1))]) (AC.k (order.ac (h := hr1))) ⟨_, Tryd.func53, rfl, by kernel_rfl⟩ rfl (.cons (.copy (by kernel_rfl) rfl) .nil) (by kernel_rfl)))) (.cons (fun σ hc => e_put hc rfl rfl (os_ge (d := 9) (t := tB r1) (t' := tB true) (by kernel_rfl) (by rw [hs2]))) (en (en (en (.cons (fun σ hc => e_put hc rfl rfl (os_ge (d := 13) (t := tB (decide (a1 ≥ 0))) (t' := tB false) (by kernel_rfl) (by rw [hs11]))) (en (en (en (en (en (en (en (en (en (en (en (en (en (en (en (en (en (en (en (en (en (en (en (en (en (en .nil))))))))))))))))))))))))))))))))) (by kernel_rfl) ?_
    refine r_ret ?_
    obtain rfl := Option.some.inj h
    exact ⟨.inr rfl, _, _, .cons (.copy rfl rfl rfl) .nil, rfl, outs_of ⟨⟨rfl, rfl⟩, trivial⟩⟩
  have h := cond_f hb h
  have hs12 := hb
  refine r_weak (of_weak (l := [(0, .u (.c (storeC a0))), (1, tI a1), (2, tI a2)]) (by kernel_rfl)) ?_
  refine r_anyW (l := [(0, .u (.c (storeC a0))), (6, tB false)]) (tab := [[], [0], [1, 1], [2], [3, 2], [2, 4], [5, 2], [6], [6], [8, 6], [9, 6], [10, 6], [7, 11, 6], [6, 12], [13, 6], [14], [14], [16, 14], [15, 17, 14], [18, 14], [14, 19], [20, 14], [21], [21], [23, 21], [22, 24, 21], [21], [26, 21], [27, 21], [28, 21], [25, 29, 21], [21, 30], [31, 21, 0, 1, 2, 3, 4, 5, 6, 7, 8, 9, 10, 11, 12, 13, 14, 15, 16, 17, 18, 19, 20, 21, 22, 23, 24, 25, 26, 27, 28, 29, 30, 31]]) [ev [] [2] 7 (tI a2), ev [0] [7] 8 (tB r1), ev [0, 1] [8] 9 (tB false), ev [0, 1, 2] [9] 10 (.tup []), ev [0, 1, 2, 3] [9] 11 (.tup []), ev [0, 1, 2, 3, 4] [9] 12 (tB false), eu 6 [12] 13 (tB false), eu 7 [13] 14 (.tup []), eu 7 [13] 15 (.tup []), ev [0, 1, 2, 3, 4, 5, 6, 8] [13] 16 (.tup []), ev [0, 1, 2, 3, 4, 5, 6, 8, 9] [13] 17 (.tup []), ev [0, 1, 2, 3, 4, 5, 6, 8, 9, 10] [13] 18 (.tup []), eu 12 [13] 19 (.tup []), eu 13 [13] 20 (tB false), eu 14 [20] 21 (tB false), eu 15 [21] 22 (.tup []), eu 15 [21] 23 (.tup []), ev [0, 1, 2, 3, 4, 5, 6, 7, 8, 9, 10, 11, 12, 13, 14, 16] [21] 24 (.tup []), eu 18 [21] 25 (.tup []), eu 19 [21] 26 (.tup []), eu 20 [21] 27 (tB false), eu 21 [27] 28 (tB false), eu 22 [28] 29 (.tup []), eu 22 [28] 30 (.tup []), ev [0, 1, 2, 3, 4, 5, 6, 7, 8, 9, 10, 11, 12, 13, 14, 15, 16, 17, 18, 19, 20, 21, 23] [28] 31 (.tup []), eu 25 [28] 32 (.tup []), eu 22 [28] 33 (.tup []), ev [0, 1, 2, 3, 4, 5, 6, 7, 8, 9, 10, 11, 12, 13, 14, 15, 16, 17, 18, 19, 20, 21, 26] [28] 34 (.tup []), ev [0, 1, 2, 3, 4, 5, 6, 7, 8, 9, 10, 11, 12, 13, 14, 15, 16, 17, 18, 19, 20, 21, 26, 27] [28] 35 (.tup []), ev [0, 1, 2, 3, 4, 5, 6, 7, 8, 9, 10, 11, 12, 13, 14, 15, 16, 17, 18, 19, 20, 21, 26, 27, 28] [28] 36 (.tup []), eu 30 [28] 37 (.tup []), eu 31 [28] 38 (tB false), eu 32 [38] 6 (tB false)] hm (by kernel_rfl) (by kernel_rfl) (by kernel_rfl) (en (.cons (fun σ hc => e_put hc rfl rfl (os_plain rfl rfl (c_callQ (res := [.c (.v (.bool r1))]) (AC.k (order.ac (h := hr1))) ⟨_, Tryd.func53, rfl, by kernel_rfl⟩ rfl (.cons (.copy (by kernel_rfl) rfl) .nil) (by kernel_rfl)))) (.cons (fun σ hc => e_put hc rfl rfl (os_ge (d := 9) (t := tB r1) (t' := tB false) (by kernel_rfl) (by rw [hs12]))) (en (en (en (en (en (en (en (en (en (en (en (en (en (en (en (en (en (en (en (en (en (en (en (en (en (en (en (en (en (en .nil))))))))))))))))))))))))))))))))) (by kernel_rfl) ?_
  refine r_ret ?_
  obtain rfl := Option.some.inj h
  exact ⟨.inr rfl, _, _, .cons (.copy rfl rfl rfl) .nil, rfl, outs_of ⟨⟨rfl, rfl⟩, trivial⟩⟩
set_option maxHeartbeats 4000000 in
def drop.f (k : Nat) (a0 : Sto) (a1 : Int) : Option (Sto) :=
  (Clone.f k a0.l).bind fun (r1 : (List Blk)) => (Delete.f k r1 a1 (i64.wrap (a1 + 1))).bind fun (r2 : (List Blk)) => some (⟨a0.n, r2⟩ : Sto)
set_option maxHeartbeats 4000000 in
theorem drop.ac (k : Nat) (a0 : Sto) (a1 : Int) (r : Sto) (h : drop.f k a0 a1 = some r) : AC Tryd.prog 28 47 [.c (storeC a0), .c (.v (.int .i64 a1))] [some (.c (storeC r)), none] [] := by
  unfold drop.f at h
  refine ac_intro (fn := Tryd.f47) (pins := [0]) (rts := []) Tryd.func47 rfl Tryd.ntmps47 rfl (Nat.le_of_ble_eq_true rfl) (pins_lt rfl) rfl (fun w R E vs => ?_)
  refine r_weak (of_weak (l := [(0, .u (.c (storeC a0))), (1, tI a1)]) (by kernel_rfl)) ?_
  obtain ⟨r1, hr1, h⟩ := bind_some h
  obtain ⟨r2, hr2, h⟩ := bind_some h
  refine rr [(0, .u (.c (.pt true [.v (.int .i64 a0.n), .sl true 2 (r2.map eR)])))] (cgt 5 [4, 5, 6, 7, 8] (cot 6 (os_plain rfl rfl (c_callQL (res := [.c (.sl true 2 (r1.map eR))]) (AC.k (Clone.ac (h := hr1))) ⟨_, Tryd.func48, rfl, by kernel_rfl⟩ rfl (.cons (.view (.v1 (r := 0) (lo := 0) (n := (a0.l.map eR).length) (off := 1) (s := .d) (p := []) (c := storeC a0) (cs := [.v (.int .i64 a0.n), .sl true 2 (a0.l.map eR)]) (own := true) (rows := a0.l.map eR) (by kernel_rfl) (by kernel_rfl) rfl rfl rows_all) (copy_map eR_copy)) .nil) (⟨⟨rfl, mine_map (fun _ => rfl)⟩, trivial⟩) (by kernel_rfl))) (cgt 9 [10, 11, 12] (cot 10 (os_plain rfl rfl (c_call (AC.k (Delete.ac (h := hr2))) ⟨_, Tryd.func56, rfl, by kernel_rfl⟩ rfl (Args.move (by kernel_rfl) (.rd (.copy (by kernel_rfl) rfl) (.rd (.copy (by kernel_rfl) rfl) .nil))) rfl (by kernel_rfl))) (cgt 12 [14, 15] (cot 13 (os_plain rfl rfl (s_store (n := 1) (r := 0) (off := 1) (s := .d) (p := []) (c := storeC a0) (cs := [.v (.int .i64 a0.n), .sl true 2 (a0.l.map eR)]) (u := .c (.sl true 2 (r2.map eR))) (l := [13]) rfl (by kernel_rfl) (by kernel_rfl) (.move (by kernel_rfl) (by kernel_rfl)) (by kernel_rfl) rfl rfl rfl (Nat.le_of_ble_eq_true rfl) (by kernel_rfl) rfl)) .nil)))))) ?_
  obtain rfl := Option.some.inj h
  exact ⟨.inl rfl, _, _, .nil, rfl, outs_of ⟨⟨rfl, rfl⟩, trivial⟩⟩
set_option maxHeartbeats 4000000 in
def putb.f (k : Nat) (a0 : Sto) (a1 : Blk) : Option (Sto) :=
  (Search.f k a0.l a1 (cmpL.f)).bind fun (r1 : Int × Bool) => (Clone.f k a0.l).bind fun (r2 : (List Blk)) => (Ins.f r2 r1.1 a1).bind fun (r3 : (List Blk)) => some (⟨a0.n, r3⟩ : Sto)
set_option maxHeartbeats 4000000 in
theorem putb.ac (k : Nat) (a0 : Sto) (a1 : Blk) (r : Sto) (h : putb.f k a0 a1 = some r) : AC Tryd.prog 28 50 [.c (storeC a0), .agg [.v (.int .i64 a1.f), .v (.int .i64 a1.o)]] [some (.c (storeC r)), none] [] := by
  unfold putb.f at h
  refine ac_intro (fn := Tryd.f50) (pins := [0]) (rts := []) Tryd.func50 rfl Tryd.ntmps50 rfl (Nat.le_of_ble_eq_true rfl) (pins_lt rfl) rfl (fun w R E vs => ?_)
  refine r_weak (of_weak (l := [(0, .u (.c (storeC a0))), (1, .u (.agg [.v (.int .i64 a1.f), .v (.int .i64 a1.o)]))]) (by kernel_rfl)) ?_
  refine r_seq ?_
  refine rr [(0, .u (.c (storeC a0))), (3, .u (.c (.pt true [.v (.int .i64 a1.f), .v (.int .i64 a1.o)])))] (cot 1 (os_plain rfl rfl (s_box (u := .agg [.v (.int .i64 a1.f), .v (.int .i64 a1.o)]) rfl (.copy (by kernel_rfl) (by kernel_rfl) (by kernel_rfl)) rfl (by kernel_rfl))) .nil) ?_
  refine r_seq ?_
  obtain ⟨r1, hr1, h⟩ := bind_some h
  refine r_weak (of_weak (l := [(0, .u (.c (storeC a0))), (3, .u (.c (.pt true [.v (.int .i64 a1.f), .v (.int .i64 a1.o)])))]) (by kernel_rfl)) ?_
  refine r_anyW (l := [(0, .u (.c (storeC a0))), (3, .u (.c (.pt true [.v (.int .i64 a1.f), .v (.int .i64 a1.o)]))), (4, tI r1.1)]) (tab := [[], [0], [1], [2], [], [3, 4], [5], [6], [6], [7, 5, 0, 1, 2, 3, 4, 5, 6, 7], [8, 9, 0, 1, 2, 3, 4, 5, 6, 7, 8, 9]]) [ev [] [0] 7 (.addr 0 (.d) [] 0), ev [0] [7] 8 (.addr 0 (.d) [] 0), ev [0, 1] [8] 9 (.addr 0 (.d) [] 1), ev [0, 1, 2] [0, 9] 10 (.whole 0 (some (.d, [], 1)) 2 ((a0.l.map eR).length)), ev [] [3] 11 (.u (.agg [.v (.int .i64 a1.f), .v (.int .i64 a1.o)])), ev [0, 1, 2, 3, 4] [0, 10, 11] 12 (.tup [.c (.v (.int .i64 r1.1)), .c (.v (.bool r1.2))]), ⟨List.range 6, [12], [(6, .tup [.c (.v (.int .i64 r1.1)), .c (.v (.bool r1.2))]), (12, .junk)], some 6, false⟩, eu 7 [6] 13 (tI r1.1), eu 7 [6] 14 (tB r1.2), eu 8 [13] 4 (tI r1.1), eu 10 [14] 5 (tB r1.2)] hm (by kernel_rfl) (by kernel_rfl) (by kernel_rfl) (en (en (en (en (en (.cons (fun σ hc => e_put hc rfl rfl (os_plain rfl rfl (c_callQL (res := [.c (.v (.int .i64 r1.1)), .c (.v (.bool r1.2))]) (AC.k (Search.ac (a2F := ⟨58, [], ⟨_, Tryd.func58, rfl, by kernel_rfl⟩, fun _ _ _ h => cmpL.ac (h := h)⟩) (h := hr1))) ⟨_, Tryd.func57, rfl, by kernel_rfl⟩ rfl (.cons (.view (.v1 (r := 0) (lo := 0) (n := (a0.l.map eR).length) (off := 1) (s := .d) (p := []) (c := storeC a0) (cs := [.v (.int .i64 a0.n), .sl true 2 (a0.l.map eR)]) (own := true) (rows := a0.l.map eR) (by kernel_rfl) (by kernel_rfl) rfl rfl rows_all) (copy_map eR_copy)) (.cons (.copy (.copy (by kernel_rfl) rfl)) (.cons (.copy .func) .nil))) (⟨trivial, trivial, trivial⟩) (by kernel_rfl)))) (.cons (fun σ hc => e_eq (os_plain rfl rfl (s_moveT (us := [.c (.v (.int .i64 r1.1)), .c (.v (.bool r1.2))]) (.inl rfl) (by kernel_rfl) rfl (by kernel_rfl))) (put_upd_over hc rfl rfl)) (en (en (en (en .nil))))))))))) (by kernel_rfl) ?_
  obtain ⟨r2, hr2, h⟩ := bind_some h
  obtain ⟨r3, hr3, h⟩ := bind_some h
  refine r_weak (of_weak (l := [(0, .u (.c (storeC a0))), (3, .u (.c (.pt true [.v (.int .i64 a1.f), .v (.int .i64 a1.o)]))), (4, tI r1.1)]) (by kernel_rfl)) ?_
  refine r_anyW (l := [(0, .u (.c (.pt true [.v (.int .i64 a0.n), .sl true 2 (r3.map eR)])))]) (tab := [[], [], [1], [2], [3], [4], [], [], [7], [5, 6, 8, 5], [0, 0, 1, 2, 3, 4, 5, 6, 7, 8, 9], [10, 0, 1, 2, 3, 4, 5, 6, 7, 8, 9], [11, 9, 9, 0, 1, 2, 3, 4, 5, 6, 7, 8, 9]]) [ev [] [0] 15 (.addr 0 (.d) [] 0), ev [] [0] 16 (.addr 0 (.d) [] 0), ev [1] [16] 17 (.addr 0 (.d) [] 0), ev [1, 2] [17] 18 (.addr 0 (.d) [] 1), ev [1, 2, 3] [0, 18] 19 (.whole 0 (some (.d, [], 1)) 2 ((a0.l.map eR).length)), ev [1, 2, 3, 4] [0, 19] 20 (.u (.c (.sl true 2 (r2.map eR)))), ev [] [4] 21 (tI r1.1), ev [] [3] 22 (.u (.agg [.v (.int .i64 a1.f), .v (.int .i64 a1.o)])), ev [7] [22] 23 (.u (.c (.sl true 2 ([a1].map eR)))), ⟨[1, 2, 3, 4, 5, 6, 7, 8], [19, 20, 21, 23], [(24, .u (.c (.sl true 2 (r3.map eR)))), (20, .junk), (23, .junk), (19, .junk)], some 24, true⟩, eu 10 [15] 25 (.addr 0 (.d) [] 0), eu 11 [25] 26 (.addr 0 (.d) [] 1), ⟨List.range 12, [0, 19, 24, 26], [(0, .u (.c (.pt true [.v (.int .i64 a0.n), .sl true 2 (r3.map eR)]))), (24, .junk), (19, .junk)], none, true⟩] hm (by kernel_rfl) (by kernel_rfl) (by kernel_rfl) (en (en (en (en (en (.cons (fun σ hc => e_put hc rfl rfl (os_plain rfl rfl (c_callQL (res := [.c (.sl true 2 (r2.map eR))]) (AC.k (Clone.ac (h := hr2))) ⟨_, Tryd.func48, rfl, by kernel_rfl⟩ rfl (.cons (.view (.v1 (r := 0) (lo := 0) (n := (a0.l.map eR).length) (off := 1) (s := .d) (p := []) (c := storeC a0) (cs := [.v (.int .i64 a0.n), .sl true 2 (a0.l.map eR)]) (own := true) (rows := a0.l.map eR) (by kernel_rfl) (by kernel_rfl) rfl rfl rows_all) (copy_map eR_copy)) .nil) (⟨⟨rfl, mine_map (fun _ => rfl)⟩, trivial⟩) (by kernel_rfl)))) (en (en (.cons (fun σ hc => e_put hc rfl rfl (os_toG (os_plain rfl rfl (s_buildSlice (sz := 2) (len := 1) (us := [(0, .agg [.v (.int .i64 a1.f), .v (.int .i64 a1.o)])]) (cs := [.v (.int .i64 a1.f), .v (.int .i64 a1.o)]) rfl sliceZ36 (.cons (.copy (by kernel_rfl) (by kernel_rfl) (by kernel_rfl)) .nil) (by kernel_rfl) (Nat.le_of_ble_eq_true rfl) rfl (by kernel_rfl))) (t' := .u (.c (.sl true 2 ([a1].map eR)))) (by kernel_rfl))) (.cons (fun σ hc => e_eq (os_plain rfl rfl (c_call (AC.k (Ins.ac (h := hr3))) ⟨_, Tryd.func60, rfl, by kernel_rfl⟩ rfl (Args.move (by kernel_rfl) (.rd (.copy (by kernel_rfl) rfl) (Args.move (by kernel_rfl) .nil))) rfl (by kernel_rfl))) (call_over2D (D := [19]) hc rfl rfl (by kernel_rfl) rfl)) (en (en (.cons (fun σ hc => e_eq (os_plain rfl rfl (s_store (n := 1) (r := 0) (off := 1) (s := .d) (p := []) (c := storeC a0) (cs := [.v (.int .i64 a0.n), .sl true 2 (a0.l.map eR)]) (u := .c (.sl true 2 (r3.map eR))) (l := [24]) rfl (by kernel_rfl) (by kernel_rfl) (.move (by kernel_rfl) (by kernel_rfl)) (by kernel_rfl) rfl rfl rfl (Nat.le_of_ble_eq_true rfl) (by kernel_rfl) rfl)) (kill_junks_overD (l := [24]) (D := [19]) hc rfl (by kernel_rfl) rfl)) .nil))))))))))))) (by kernel_rfl) ?_
  obtain rfl := Option.some.inj h
  exact ⟨.inl rfl, _, _, .nil, rfl, outs_of ⟨⟨rfl, rfl⟩, trivial⟩⟩
def add.l2 (k : Nat) (a0 : Sto) (a1 : Int) (a2 : Int) (r1 : (List Pr) × (Option Int)) (v2 : Sto) (v3 : Int) : Nat → Sto → Int → Option (Sto × Int)
  | 0, _, _ => none
  | n2 + 1, v5, v6 => (bif decide (0 ≤ ((r1.1.getD ((v3).toNat) zP).b)) then (bif decide (v6 < (i64.wrap (((r1.1.getD ((v3).toNat) zP).a) + (i64.wrap (1 * 2 ^ min ((r1.1.getD ((v3).toNat) zP).b).toNat (IntKind.i64).bits))))) then (putb.f k v5 (⟨v6, (if 5 < (r1.1.getD ((v3).toNat) zP).b then 5 else (r1.1.getD ((v3).toNat) zP).b)⟩ : Blk)).bind fun (r9 : Sto) => (bif decide (0 ≤ (if 5 < (r1.1.getD ((v3).toNat) zP).b then 5 else (r1.1.getD ((v3).toNat) zP).b)) then add.l2 k a0 a1 a2 r1 v2 v3 n2 r9 (i64.wrap (v6 + (i64.wrap (1 * 2 ^ min ((if 5 < (r1.1.getD ((v3).toNat) zP).b then 5 else (r1.1.getD ((v3).toNat) zP).b)).toNat (IntKind.i64).bits)))) else none) else some (v5, v6)) else none)
def add.l1 (k : Nat) (a0 : Sto) (a1 : Int) (a2 : Int) (r1 : (List Pr) × (Option Int)) : Nat → Sto → Int → Option (Sto)
  | 0, _, _ => none
  | n1 + 1, v2, v3 => (bif decide (v3 < (r1.1.length : Int)) then (bif decide (0 ≤ v3) && decide (v3 < (r1.1.length : Int)) then (add.l2 k a0 a1 a2 r1 v2 v3 k v2 ((r1.1.getD ((v3).toNat) zP).a)).bind fun (y7 : Sto × Int) => add.l1 k a0 a1 a2 r1 n1 y7.1 (i64.wrap (v3 + 1)) else none) else some v2)
set_option maxHeartbeats 4000000 in
def add.f (k : Nat) (a0 : Sto) (a1 : Int) (a2 : Int) : Option (Sto) :=
  (Cut.f k a1 a2).bind fun (r1 : (List Pr) × (Option Int)) => (bif !(r1.2 == none) then some a0 else add.l1 k a0 a1 a2 r1 k a0 0)
set_option maxHeartbeats 4000000 in
theorem add.ac (k : Nat) (a0 : Sto) (a1 : Int) (a2 : Int) (r : Sto) (h : add.f k a0 a1 a2 = some r) : ACD Tryd.prog 28 44 [.c (storeC a0), .c (.v (.int .i64 a1)), .c (.v (.int .i64 a2))] [some (.c (storeC r)), none, none] [] := by
  unfold add.f at h
  refine act_intro (fn := Tryd.f44) (pins := [0]) (rts := []) Tryd.func44 rfl Tryd.ntmps44 rfl (Nat.le_of_ble_eq_true rfl) (pins_lt rfl) rfl (fun w R E vs hT => ?_)
  refine r_weak (of_weak (l := [(0, .u (.c (storeC a0))), (1, tI a1), (2, tI a2)]) (by kernel_rfl)) ?_
  refine r_seq ?_
  obtain ⟨r1, hr1, h⟩ := bind_some h
  refine rr [(0, .u (.c (storeC a0))), (6, .u (.c (.sl true 2 (r1.1.map eP)))), (7, .u (.c (.err r1.2)))] (cgt 2 [13, 14] (cot 3 (os_plain rfl rfl (c_callQ (ACT.k hT (Cut.ac (h := hr1))) ⟨_, Tryd.func52, rfl, by kernel_rfl⟩ rfl (.cons (.copy (by kernel_rfl) rfl) (.cons (.copy (by kernel_rfl) rfl) .nil)) (by kernel_rfl))) (cot 4 (os_plain rfl rfl (s_moveT (us := [.c (.sl true 2 (r1.1.map eP)), .c (.err r1.2)]) (.inl rfl) (by kernel_rfl) rfl (by kernel_rfl))) (cot 5 (os_plain rfl rfl (s_xmove (us := [.c (.sl true 2 (r1.1.map eP)), .c (.err r1.2)]) rfl (by kernel_rfl) rfl rfl (by kernel_rfl))) (cgt 6 [17] (cot 7 (os_plain rfl rfl (s_take (u := .c (.sl true 2 (r1.1.map eP))) (.inr rfl) (.move (by kernel_rfl) rfl) rfl (by kernel_rfl))) (cgt 8 [7] .nil))))))) ?_
  refine r_seq ?_
  refine r_seq ?_
  refine rr [(0, .u (.c (storeC a0))), (6, .u (.c (.sl true 2 (r1.1.map eP)))), (19, tB (!(r1.2 == none)))] (cgt 2 [18, 19] .nil) ?_
  rcases Bool.eq_false_or_eq_true (!(r1.2 == none)) with hb | hb
  · have h := cond_t hb h
    refine r_condT hb rfl ?_
    refine r_ret ?_
    obtain rfl := Option.some.inj h
    exact ⟨.inr rfl, _, _, .nil, rfl, outs_of ⟨⟨rfl, rfl⟩, trivial⟩⟩
  have h := cond_f hb h
  refine r_condF hb rfl ?_
  refine r_skip ?_
  refine r_seq ?_
  refine rr [(0, .u (.c (storeC a0))), (20, .u (.c (.sl true 2 (r1.1.map eP)))), (21, tI (r1.1.length : Int)), (22, tI 0)] (cot 1 (os_plain rfl rfl (s_take (u := .c (.sl true 2 (r1.1.map eP))) (.inl rfl) (.move (by kernel_rfl) rfl) rfl (by kernel_rfl))) (cot 2 (os_to (os_plain rfl rfl (s_lenV (r := 20) (lo := 0) (n := (r1.1.map eP).length) (pl := none) (sz := 2) rfl sl78 (by kernel_rfl) rfl (by kernel_rfl))) (t' := tI (r1.1.length : Int)) (by rw [List.length_map])) (cgt 3 [22] .nil))) ?_
  refine r_block ?_
  refine r_weak (of_weak (l := [(0, .u (.c (storeC a0))), (20, .u (.c (.sl true 2 (r1.1.map eP)))), (21, tI (r1.1.length : Int)), (22, tI 0)]) (by kernel_rfl)) ?_
  refine r_loopI (α := Sto × Int) (fun x => [(0, .u (.c (storeC x.1))), (20, .u (.c (.sl true 2 (r1.1.map eP)))), (21, tI (r1.1.length : Int)), (22, tI x.2)]) (fun n x => add.l1 k a0 a1 a2 r1 n x.1 x.2 = some r) k (a0, 0) h (by intro x h; unfold add.l1 at h; cases h) ?_
  rintro n1 ⟨v2, v3⟩ h
  replace h : add.l1 k a0 a1 a2 r1 (n1 + 1) v2 v3 = some r := h
  unfold add.l1 at h
  show Run _ _ _ (St.of [(0, .u (.c (storeC v2))), (20, .u (.c (.sl true 2 (r1.1.map eP)))), (21, tI (r1.1.length : Int)), (22, tI v3)]) _
  refine r_seq ?_
  refine rr [(0, .u (.c (storeC v2))), (20, .u (.c (.sl true 2 (r1.1.map eP)))), (21, tI (r1.1.length : Int)), (22, tI v3), (23, tB (decide (v3 < (r1.1.length : Int))))] (cgt 1 [23] .nil) ?_
  refine r_seq ?_
  rcases Bool.eq_false_or_eq_true (decide (v3 < (r1.1.length : Int))) with hb | hb
  · have h := cond_t hb h
    refine r_condT hb rfl ?_
    refine r_skip ?_
    refine r_seq ?_
    refine r_block ?_
    refine r_seq ?_
    obtain ⟨hg4, h⟩ := guard_some h
    simp only [Bool.and_eq_true, decide_eq_true_eq] at hg4
    refine rr [(0, .u (.c (storeC v2))), (9, .u (.c (.pt true [.v (.int .i64 ((r1.1.getD ((v3).toNat) zP).a)), .v (.int .i64 ((r1.1.getD ((v3).toNat) zP).b))]))), (20, .u (.c (.sl true 2 (r1.1.map eP)))), (21, tI (r1.1.length : Int)), (22, tI v3)] (cot 1 (os_plain rfl rfl (s_indexV (r := 20) (lo := 0) (n := (r1.1.map eP).length) (pl := none) (sz := 2) (e := v3) (ik := .i64) (k := (v3).toNat) rfl sl78 (by kernel_rfl) (.tmp (by kernel_rfl)) hg4.1 (by rw [List.length_map]; exact hg4.2) (Nat.zero_add _) rfl (by kernel_rfl) (by kernel_rfl))) (cot 2 (os_plain rfl rfl (s_loadA (n := 2) (xs := [.v (.int .i64 ((r1.1.getD ((v3).toNat) zP).a)), .v (.int .i64 ((r1.1.getD ((v3).toNat) zP).b))]) (r := 20) (off := 0) (s := .i ((v3).toNat) 2) (p := []) (c := .sl true 2 (r1.1.map eP)) (cs := eP (r1.1.getD ((v3).toNat) zP)) rfl (aggB_ok (by kernel_rfl)) (by kernel_rfl) (by kernel_rfl) (getP_map zP (by have := hg4; omega)) rfl rfl rfl rfl (by kernel_rfl))) (cot 3 (os_plain rfl rfl (s_alloc rfl zero81 rfl (by kernel_rfl))) (cot 4 (os_plain rfl rfl (s_storeS (n := 2) (r := 9) (off := 0) (s := .d) (p := []) (c := .pt true [.v (.int .i64 0), .v (.int .i64 0)]) (cs := [.v (.int .i64 0), .v (.int .i64 0)]) (u := .agg [.v (.int .i64 ((r1.1.getD ((v3).toNat) zP).a)), .v (.int .i64 ((r1.1.getD ((v3).toNat) zP).b))]) rfl (by kernel_rfl) (by kernel_rfl) (by kernel_rfl) rfl (by kernel_rfl) rfl rfl rfl rfl (Nat.le_of_ble_eq_true rfl) (by kernel_rfl) (by kernel_rfl) rfl rfl)) .nil)))) ?_
    refine r_seq ?_
    refine rr [(0, .u (.c (storeC v2))), (9, .u (.c (.pt true [.v (.int .i64 ((r1.1.getD ((v3).toNat) zP).a)), .v (.int .i64 ((r1.1.getD ((v3).toNat) zP).b))]))), (10, tI (if 5 < (r1.1.getD ((v3).toNat) zP).b then 5 else (r1.1.getD ((v3).toNat) zP).b)), (20, .u (.c (.sl true 2 (r1.1.map eP)))), (21, tI (r1.1.length : Int)), (22, tI v3)] (cot 1 (os_plain rfl rfl (s_indexA (r := 9) (off := 0) (sl := .d) (p := []) (sz := 1) (len := 2) (ik := .i64) (e := 1) (k := 1) rfl (arrB_ok (by kernel_rfl)) (by kernel_rfl) (by kernel_rfl) (by decide) (by decide) rfl rfl (by kernel_rfl) (by kernel_rfl))) (cgt 2 [27] (cot 3 (os_plain rfl rfl (s_min (k := .i64) (p := (r1.1.getD ((v3).toNat) zP).b) (q := 5) rfl (by kernel_rfl) (by kernel_rfl) rfl (by kernel_rfl))) (cgt 4 [10] .nil)))) ?_
    refine r_seq ?_
    refine rr [(0, .u (.c (storeC v2))), (9, .u (.c (.pt true [.v (.int .i64 ((r1.1.getD ((v3).toNat) zP).a)), .v (.int .i64 ((r1.1.getD ((v3).toNat) zP).b))]))), (10, tI (if 5 < (r1.1.getD ((v3).toNat) zP).b then 5 else (r1.1.getD ((v3).toNat) zP).b)), (11, tI ((r1.1.getD ((v3).toNat) zP).a)), (20, .u (.c (.sl true 2 (r1.1.map eP)))), (21, tI (r1.1.length : Int)), (22, tI v3)] (cot 1 (os_plain rfl rfl (s_indexA (r := 9) (off := 0) (sl := .d) (p := []) (sz := 1) (len := 2) (ik := .i64) (e := 0) (k := 0) rfl (arrB_ok (by kernel_rfl)) (by kernel_rfl) (by kernel_rfl) (by decide) (by decide) rfl rfl (by kernel_rfl) (by kernel_rfl))) (cgt 3 [30, 11] .nil)) ?_
    refine r_block ?_
    refine r_weak (of_weak (l := [(0, .u (.c (storeC v2))), (9, .u (.c (.pt true [.v (.int .i64 ((r1.1.getD ((v3).toNat) zP).a)), .v (.int .i64 ((r1.1.getD ((v3).toNat) zP).b))]))), (10, tI (if 5 < (r1.1.getD ((v3).toNat) zP).b then 5 else (r1.1.getD ((v3).toNat) zP).b)), (11, tI ((r1.1.getD ((v3).toNat) zP).a)), (20, .u (.c (.sl true 2 (r1.1.map eP)))), (21, tI (r1.1.length : Int)), (22, tI v3)]) (by kernel_rfl)) ?_
    obtain ⟨y7, hy7, h_y7⟩ := bind_some h
    refine r_loopI (α := Sto × Int) (fun x => [(0, .u (.c (storeC x.1))), (9, .u (.c (.pt true [.v (.int .i64 ((r1.1.getD ((v3).toNat) zP).a)), .v (.int .i64 ((r1.1.getD ((v3).toNat) zP).b))]))), (10, tI (if 5 < (r1.1.getD ((v3).toNat) zP).b then 5 else (r1.1.getD ((v3).toNat) zP).b)), (11, tI x.2), (20, .u (.c (.sl true 2 (r1.1.map eP)))), (21, tI (r1.1.length : Int)), (22, tI v3)]) (fun n x => add.l2 k a0 a1 a2 r1 v2 v3 n x.1 x.2 = some y7) k (v2, (r1.1.getD ((v3).toNat) zP).a) hy7 (by intro x h; unfold add.l2 at h; cases h) ?_
    rintro n2 ⟨v5, v6⟩ h
    replace h : add.l2 k a0 a1 a2 r1 v2 v3 (n2 + 1) v5 v6 = some y7 := h
    unfold add.l2 at h
    show Run _ _ _ (St.of [(0, .u (.c (storeC v5))), (9, .u (.c (.pt true [.v (.int .i64 ((r1.1.getD ((v3).toNat) zP).a)), .v (.int .i64 ((r1.1.getD ((v3).toNat) zP).b))]))), (10, tI (if 5 < (r1.1.getD ((v3).toNat) zP).b then 5 else (r1.1.getD ((v3).toNat) zP).b)), (11, tI v6), (20, .u (.c (.sl true 2 (r1.1.map eP)))), (21, tI (r1.1.length : Int)), (22, tI v3)]) _
    refine r_seq ?_
    refine r_seq ?_
    obtain ⟨hg8, h⟩ := guard_some h
    simp only [decide_eq_true_eq] at hg8
    refine r_weak (of_weak (l := [(0, .u (.c (storeC v5))), (9, .u (.c (.pt true [.v (.int .i64 ((r1.1.getD ((v3).toNat) zP).a)), .v (.int .i64 ((r1.1.getD ((v3).toNat) zP).b))]))), (10, tI (if 5 < (r1.1.getD ((v3).toNat) zP).b then 5 else (r1.1.getD ((v3).toNat) zP).b)), (11, tI v6), (20, .u (.c (.sl true 2 (r1.1.map eP)))), (21, tI (r1.1.length : Int)), (22, tI v3)]) (by kernel_rfl)) ?_
    refine r_anyW (l := [(0, .u (.c (storeC v5))), (9, .u (.c (.pt true [.v (.int .i64 ((r1.1.getD ((v3).toNat) zP).a)), .v (.int .i64 ((r1.1.getD ((v3).toNat) zP).b))]))), (10, tI (if 5 < (r1.1.getD ((v3).toNat) zP).b then 5 else (r1.1.getD ((v3).toNat) zP).b)), (11, tI v6), (20, .u (.c (.sl true 2 (r1.1.map eP)))), (21, tI (r1.1.length : Int)), (22, tI v3), (38, tB (decide (v6 < (i64.wrap (((r1.1.getD ((v3).toNat) zP).a) + (i64.wrap (1 * 2 ^ min ((r1.1.getD ((v3).toNat) zP).b).toNat (IntKind.i64).bits)))))))]) (tab := [[], [], [1], [], [3], [4], [2, 5], [0, 6]]) [ev [] [11] 31 (tI v6), ev [] [9] 32 (.addr 9 (.d) [] 0), ev [1] [9, 32] 33 (tI ((r1.1.getD ((v3).toNat) zP).a)), ev [] [9] 34 (.addr 9 (.d) [] 1), ev [3] [9, 34] 35 (tI ((r1.1.getD ((v3).toNat) zP).b)), ev [3, 4] [35] 36 (tI (i64.wrap (1 * 2 ^ min ((r1.1.getD ((v3).toNat) zP).b).toNat (IntKind.i64).bits))), ev [1, 2, 3, 4, 5] [33, 36] 37 (tI (i64.wrap (((r1.1.getD ((v3).toNat) zP).a) + (i64.wrap (1 * 2 ^ min ((r1.1.getD ((v3).toNat) zP).b).toNat (IntKind.i64).bits))))), eu 7 [31, 37] 38 (tB (decide (v6 < (i64.wrap (((r1.1.getD ((v3).toNat) zP).a) + (i64.wrap (1 * 2 ^ min ((r1.1.getD ((v3).toNat) zP).b).toNat (IntKind.i64).bits)))))))] hm (by kernel_rfl) (by kernel_rfl) (by kernel_rfl) (en (.cons (fun σ hc => e_put hc rfl rfl (os_plain rfl rfl (s_indexA (r := 9) (off := 0) (sl := .d) (p := []) (sz := 1) (len := 2) (ik := .i64) (e := 0) (k := 0) rfl (arrB_ok (by kernel_rfl)) (by kernel_rfl) (by kernel_rfl) (by decide) (by decide) rfl rfl (by kernel_rfl) (by kernel_rfl)))) (en (.cons (fun σ hc => e_put hc rfl rfl (os_plain rfl rfl (s_indexA (r := 9) (off := 0) (sl := .d) (p := []) (sz := 1) (len := 2) (ik := .i64) (e := 1) (k := 1) rfl (arrB_ok (by kernel_rfl)) (by kernel_rfl) (by kernel_rfl) (by decide) (by decide) rfl rfl (by kernel_rfl) (by kernel_rfl)))) (en (.cons (fun σ hc => e_put hc rfl rfl (os_to (os_plain rfl rfl (s_shift (op := .shl) (k := .i64) (p := 1) (q := (r1.1.getD ((v3).toNat) zP).b) (yk := .i64) rfl (.inl rfl) (by kernel_rfl) (by kernel_rfl) hg8 rfl (by kernel_rfl))) (t' := tI (i64.wrap (1 * 2 ^ min ((r1.1.getD ((v3).toNat) zP).b).toNat (IntKind.i64).bits))) (by kernel_rfl))) (en (en .nil)))))))) (by kernel_rfl) ?_
    rcases Bool.eq_false_or_eq_true (decide (v6 < (i64.wrap (((r1.1.getD ((v3).toNat) zP).a) + (i64.wrap (1 * 2 ^ min ((r1.1.getD ((v3).toNat) zP).b).toNat (IntKind.i64).bits)))))) with hb | hb
    · have h := cond_t hb h
      refine r_condT hb rfl ?_
      refine r_skip ?_
      refine r_seq ?_
      refine r_block ?_
      obtain ⟨r9, hr9, h⟩ := bind_some h
      refine rr [(0, .u (.c (storeC r9))), (9, .u (.c (.pt true [.v (.int .i64 ((r1.1.getD ((v3).toNat) zP).a)), .v (.int .i64 ((r1.1.getD ((v3).toNat) zP).b))]))), (10, tI (if 5 < (r1.1.getD ((v3).toNat) zP).b then 5 else (r1.1.getD ((v3).toNat) zP).b)), (11, tI v6), (20, .u (.c (.sl true 2 (r1.1.map eP)))), (21, tI (r1.1.length : Int)), (22, tI v3)] (cgt 3 [43, 44, 45] (cot 4 (os_plain rfl rfl (s_build (us := [(0, .c (.v (.int .i64 v6))), (1, .c (.v (.int .i64 (if 5 < (r1.1.getD ((v3).toNat) zP).b then 5 else (r1.1.getD ((v3).toNat) zP).b))))]) (zs := [.v (.int .i64 0), .v (.int .i64 0)]) (cs := [.v (.int .i64 v6), .v (.int .i64 (if 5 < (r1.1.getD ((v3).toNat) zP).b then 5 else (r1.1.getD ((v3).toNat) zP).b))]) rfl build39 zero39 (.cons (.copy (by kernel_rfl) (by kernel_rfl) (by kernel_rfl)) (.cons (.copy (by kernel_rfl) (by kernel_rfl) (by kernel_rfl)) .nil)) (by kernel_rfl) rfl (by kernel_rfl))) (cot 5 (os_plain rfl rfl (c_call (AC.k (putb.ac (h := hr9))) ⟨_, Tryd.func50, rfl, by kernel_rfl⟩ rfl (hand_root (r := 0) (c := storeC v5) (by kernel_rfl) (by kernel_rfl) rfl (.rd (.copy (by kernel_rfl) rfl) .nil)) rfl (by kernel_rfl))) .nil))) ?_
      obtain ⟨hg10, h⟩ := guard_some h
      simp only [decide_eq_true_eq] at hg10
      refine rr [(0, .u (.c (storeC r9))), (9, .u (.c (.pt true [.v (.int .i64 ((r1.1.getD ((v3).toNat) zP).a)), .v (.int .i64 ((r1.1.getD ((v3).toNat) zP).b))]))), (10, tI (if 5 < (r1.1.getD ((v3).toNat) zP).b then 5 else (r1.1.getD ((v3).toNat) zP).b)), (11, tI (i64.wrap (v6 + (i64.wrap (1 * 2 ^ min ((if 5 < (r1.1.getD ((v3).toNat) zP).b then 5 else (r1.1.getD ((v3).toNat) zP).b)).toNat (IntKind.i64).bits))))), (20, .u (.c (.sl true 2 (r1.1.map eP)))), (21, tI (r1.1.length : Int)), (22, tI v3)] (cgt 2 [39, 40] (cot 3 (os_to (os_plain rfl rfl (s_shift (op := .shl) (k := .i64) (p := 1) (q := (if 5 < (r1.1.getD ((v3).toNat) zP).b then 5 else (r1.1.getD ((v3).toNat) zP).b)) (yk := .i64) rfl (.inl rfl) (by kernel_rfl) (by kernel_rfl) hg10 rfl (by kernel_rfl))) (t' := tI (i64.wrap (1 * 2 ^ min ((if 5 < (r1.1.getD ((v3).toNat) zP).b then 5 else (r1.1.getD ((v3).toNat) zP).b)).toNat (IntKind.i64).bits))) (by kernel_rfl)) (cgt 5 [42, 11] .nil))) ?_
      exact ⟨(r9, i64.wrap (v6 + (i64.wrap (1 * 2 ^ min ((if 5 < (r1.1.getD ((v3).toNat) zP).b then 5 else (r1.1.getD ((v3).toNat) zP).b)).toNat (IntKind.i64).bits)))), h, of_weak (by kernel_rfl)⟩
    have h := cond_f hb h
    refine r_condF hb rfl ?_
    refine r_weak (of_weak (l := [(0, .u (.c (storeC v5))), (20, .u (.c (.sl true 2 (r1.1.map eP)))), (21, tI (r1.1.length : Int)), (22, tI v3)]) (by kernel_rfl)) ?_
    refine run_cast (α := Sto × Int) (fun x => [(0, .u (.c (storeC x.1))), (20, .u (.c (.sl true 2 (r1.1.map eP)))), (21, tI (r1.1.length : Int)), (22, tI v3)]) (x := (v5, v6)) (y := y7) (Option.some.inj h) ?_
    refine r_exit ?_
    replace h := h_y7
    refine rr [(0, .u (.c (storeC y7.1))), (20, .u (.c (.sl true 2 (r1.1.map eP)))), (21, tI (r1.1.length : Int)), (22, tI (i64.wrap (v3 + 1)))] (cgt 2 [48, 22] .nil) ?_
    exact ⟨(y7.1, i64.wrap (v3 + 1)), h, of_weak (by kernel_rfl)⟩
  have h := cond_f hb h
  refine r_condF hb rfl ?_
  refine r_exit ?_
  obtain rfl := Option.some.inj h
  exact ⟨.inl rfl, _, _, .nil, rfl, outs_of ⟨⟨rfl, rfl⟩, trivial⟩⟩
set_option maxHeartbeats 4000000 in
def New.f (k : Nat) (a0 : Int) : Option (Sto × (Option Int)) :=
  (bif decide (a0 < 1) then none else (bif decide (a0 > 512) then none else (add.f k (⟨a0, []⟩ : Sto) 0 a0).bind fun (r3 : Sto) => some (r3, none)))
set_option maxHeartbeats 4000000 in
theorem New.ac (k : Nat) (a0 : Int) (r : Sto × (Option Int)) (h : New.f k a0 = some r) : ACD Tryd.prog 28 29 [.c (.v (.int .i64 a0))] [none] [.c (storeC r.1), .c (.err r.2)] := by
  unfold New.f at h
  refine act_intro (fn := Tryd.f29) (pins := []) (rts := [2, 3]) Tryd.func29 rfl Tryd.ntmps29 rfl (Nat.le_of_ble_eq_true rfl) (pins_lt rfl) rfl (fun w R E vs hT => ?_)
  refine r_weak (of_weak (l := [(0, tI a0)]) (by kernel_rfl)) ?_
  refine r_seq ?_
  refine rr [(0, tI a0)] (cgt 2 [2, 3] .nil) ?_
  refine r_seq ?_
  refine r_seq ?_
  rcases Bool.eq_false_or_eq_true (decide (a0 < 1)) with hb | hb
  · have h := cond_t hb h
    have hs1 := hb
    refine rr [(0, tI a0), (10, tB true)] (cgt 2 [5, 6] (cot 3 (os_ge (d := 7) (t := tB (decide (a0 < 1))) (t' := tB true) (by kernel_rfl) (by rw [hs1])) (cgt 6 [8, 9, 10] .nil))) ?_
    refine r_condT rfl rfl ?_
    refine r_seq ?_
    refine rr [(2, .u (.c (.v (.pointer none)))), (3, .u (.c (.err (some 1))))] (cot 1 (os_plain rfl rfl (s_iface (n := 1) rfl (errB_ok (by kernel_rfl)) rfl (by kernel_rfl) rfl (by kernel_rfl))) (cgt 3 [2, 3] .nil)) ?_
    refine r_ret ?_
    cases h
  have h := cond_f hb h
  have hs2 := hb
  refine rr [(0, tI a0), (10, tB (decide (a0 > 512)))] (cgt 2 [5, 6] (cot 3 (os_ge (d := 7) (t := tB (decide (a0 < 1))) (t' := tB false) (by kernel_rfl) (by rw [hs2])) (cgt 6 [8, 9, 10] .nil))) ?_
  rcases Bool.eq_false_or_eq_true (decide (a0 > 512)) with hb | hb
  · have h := cond_t hb h
    refine r_condT hb rfl ?_
    refine r_seq ?_
    refine rr [(2, .u (.c (.v (.pointer none)))), (3, .u (.c (.err (some 1))))] (cot 1 (os_plain rfl rfl (s_iface (n := 1) rfl (errB_ok (by kernel_rfl)) rfl (by kernel_rfl) rfl (by kernel_rfl))) (cgt 3 [2, 3] .nil)) ?_
    refine r_ret ?_
    cases h
  have h := cond_f hb h
  refine r_condF hb rfl ?_
  refine r_skip ?_
  refine r_seq ?_
  refine rr [(0, tI a0), (4, .u (.c (.pt true [.v (.int .i64 a0), .sl true 2 ([].map eR)])))] (cgt 1 [12] (cot 2 (os_plain rfl rfl (s_build (us := [(0, .c (.v (.int .i64 a0)))]) (zs := [.v (.int .i64 0), .sl true 2 ([].map eR)]) (cs := [.v (.int .i64 a0), .sl true 2 ([].map eR)]) rfl build72 zero72 (.cons (.copy (by kernel_rfl) (by kernel_rfl) (by kernel_rfl)) .nil) (by kernel_rfl) rfl (by kernel_rfl))) (cot 3 (os_plain rfl rfl (s_box (u := .agg [.v (.int .i64 a0), .sl true 2 ([].map eR)]) rfl (.move (by kernel_rfl) (by kernel_rfl)) rfl (by kernel_rfl))) (cot 4 (os_plain rfl rfl (s_take (u := .c (.pt true [.v (.int .i64 a0), .sl true 2 ([].map eR)])) (.inr rfl) (.move (by kernel_rfl) rfl) rfl (by kernel_rfl))) .nil)))) ?_
  refine r_seq ?_
  obtain ⟨r3, hr3, h⟩ := bind_some h
  refine rr [(4, .u (.c (storeC r3)))] (cgt 2 [15, 16] (cot 3 (os_plain rfl rfl (c_call (ACT.k hT (add.ac (h := hr3))) ⟨_, Tryd.func44, rfl, by kernel_rfl⟩ rfl (hand_root (r := 4) (c := .pt true [.v (.int .i64 a0), .sl true 2 ([].map eR)]) (by kernel_rfl) (by kernel_rfl) rfl (.rd (.copy (by kernel_rfl) rfl) (.rd (.copy (by kernel_rfl) rfl) .nil))) rfl (by kernel_rfl))) .nil)) ?_
  refine r_seq ?_
  refine rr [(2, .u (.c (storeC r3))), (3, .u (.c (.err none)))] (cot 1 (os_plain rfl rfl (s_take (u := .c (storeC r3)) (.inl rfl) (.move (by kernel_rfl) rfl) rfl (by kernel_rfl))) (cot 2 (os_plain rfl rfl (s_take (u := .c (storeC r3)) (.inr rfl) (.move (by kernel_rfl) rfl) rfl (by kernel_rfl))) (cgt 3 [3] .nil))) ?_
  refine r_ret ?_
  obtain rfl := Option.some.inj h
  exact ⟨.inr rfl, _, _, .cons (.move rfl rfl) (.cons (.copy rfl rfl rfl) .nil), rfl, outs_of trivial⟩
def TakeAt.l2 (k : Nat) (a0 : Sto) (a1 : Int) (a2 : Int) (r1 : Sto × Bool) (v3 : Sto) (v4 : Int) : Nat → Sto → Int → Option (Sto × (Option Int))
  | 0, _, _ => none
  | n2 + 1, v6, v7 => (bif decide (v7 < (i64.wrap (a1 + (i64.wrap (1 * 2 ^ min (a2).toNat (IntKind.i64).bits))))) then (inn.f k v6 v7).bind fun (r8 : Sto × Int) => (bif decide (r8.2 < 0) then some (r8.1, (some 7)) else (bif decide (0 ≤ r8.2) && decide (r8.2 < (r8.1.l.length : Int)) then (bif decide (0 ≤ ((r8.1.l.getD ((r8.2).toNat) zR).o)) then (drop.f k r8.1 r8.2).bind fun (r11 : Sto) => (add.f k r11 ((r8.1.l.getD ((r8.2).toNat) zR).f) (if a1 > (r8.1.l.getD ((r8.2).toNat) zR).f then a1 else (r8.1.l.getD ((r8.2).toNat) zR).f)).bind fun (r12 : Sto) => (add.f k r12 (if i64.wrap (a1 + (i64.wrap (1 * 2 ^ min (a2).toNat (IntKind.i64).bits))) < i64.wrap (((r8.1.l.getD ((r8.2).toNat) zR).f) + (i64.wrap (1 * 2 ^ min ((r8.1.l.getD ((r8.2).toNat) zR).o).toNat (IntKind.i64).bits))) then i64.wrap (a1 + (i64.wrap (1 * 2 ^ min (a2).toNat (IntKind.i64).bits))) else i64.wrap (((r8.1.l.getD ((r8.2).toNat) zR).f) + (i64.wrap (1 * 2 ^ min ((r8.1.l.getD ((r8.2).toNat) zR).o).toNat (IntKind.i64).bits)))) (i64.wrap (((r8.1.l.getD ((r8.2).toNat) zR).f) + (i64.wrap (1 * 2 ^ min ((r8.1.l.getD ((r8.2).toNat) zR).o).toNat (IntKind.i64).bits))))).bind fun (r13 : Sto) => TakeAt.l2 k a0 a1 a2 r1 v3 v4 n2 r13 (i64.wrap (((r8.1.l.getD ((r8.2).toNat) zR).f) + (i64.wrap (1 * 2 ^ min ((r8.1.l.getD ((r8.2).toNat) zR).o).toNat (IntKind.i64).bits)))) else none) else none)) else some (v6, none))
def TakeAt.l1 (k : Nat) (a0 : Sto) (a1 : Int) (a2 : Int) (r1 : Sto × Bool) : Nat → Sto → Int → Option (Sto × (Option Int))
  | 0, _, _ => none
  | n1 + 1, v3, v4 => (bif decide (v4 < (i64.wrap (a1 + (i64.wrap (1 * 2 ^ min (a2).toNat (IntKind.i64).bits))))) then (IsFree.f k v3 v4).bind fun (r5 : Sto × Bool) => (bif !r5.2 then some (r5.1, (some 7)) else TakeAt.l1 k a0 a1 a2 r1 n1 r5.1 (i64.wrap (v4 + 1))) else TakeAt.l2 k a0 a1 a2 r1 v3 v4 k v3 a1)
set_option maxHeartbeats 4000000 in
def TakeAt.f (k : Nat) (a0 : Sto) (a1 : Int) (a2 : Int) : Option (Sto × (Option Int)) :=
  (block.f k a0 a1 a2).bind fun (r1 : Sto × Bool) => (bif !r1.2 then some (r1.1, (some 1)) else (bif decide (0 ≤ a2) then TakeAt.l1 k a0 a1 a2 r1 k r1.1 a1 else none))
set_option maxHeartbeats 4000000 in
theorem TakeAt.ac (k : Nat) (a0 : Sto) (a1 : Int) (a2 : Int) (r : Sto × (Option Int)) (h : TakeAt.f k a0 a1 a2 = some r) : ACD Tryd.prog 28 33 [.c (storeC a0), .c (.v (.int .i64 a1)), .c (.v (.int .i64 a2))] [some (.c (storeC r.1)), none, none] [.c (.err r.2)] := by
  unfold TakeAt.f at h
  refine act_intro (fn := Tryd.f33) (pins := [0]) (rts := [6]) Tryd.func33 rfl Tryd.ntmps33 rfl (Nat.le_of_ble_eq_true rfl) (pins_lt rfl) rfl (fun w R E vs hT => ?_)
  refine r_weak (of_weak (l := [(0, .u (.c (storeC a0))), (1, tI a1), (2, tI a2)]) (by kernel_rfl)) ?_
  refine r_seq ?_
  refine rr [(0, .u (.c (storeC a0))), (1, tI a1), (2, tI a2)] (cgt 1 [6] .nil) ?_
  refine r_seq ?_
  refine r_seq ?_
  obtain ⟨r1, hr1, h⟩ := bind_some h
  refine rr [(0, .u (.c (storeC r1.1))), (1, tI a1), (2, tI a2), (17, tB (!r1.2))] (cgt 3 [13, 14, 15] (cot 4 (os_plain rfl rfl (c_call (AC.k (block.ac (h := hr1))) ⟨_, Tryd.func45, rfl, by kernel_rfl⟩ rfl (hand_root (r := 0) (c := storeC a0) (by kernel_rfl) (by kernel_rfl) rfl (.rd (.copy (by kernel_rfl) rfl) (.rd (.copy (by kernel_rfl) rfl) .nil))) rfl (by kernel_rfl))) (cgt 5 [17] .nil))) ?_
  rcases Bool.eq_false_or_eq_true (!r1.2) with hb | hb
  · have h := cond_t hb h
    refine r_condT hb rfl ?_
    refine r_seq ?_
    refine rr [(0, .u (.c (storeC r1.1))), (6, .u (.c (.err (some 1))))] (cot 1 (os_plain rfl rfl (s_iface (n := 1) rfl (errB_ok (by kernel_rfl)) rfl (by kernel_rfl) rfl (by kernel_rfl))) (cgt 2 [6] .nil)) ?_
    refine r_ret ?_
    obtain rfl := Option.some.inj h
    exact ⟨.inr rfl, _, _, .cons (.copy rfl rfl rfl) .nil, rfl, outs_of ⟨⟨rfl, rfl⟩, trivial⟩⟩
  have h := cond_f hb h
  refine r_condF hb rfl ?_
  refine r_skip ?_
  refine r_seq ?_
  obtain ⟨hg2, h⟩ := guard_some h
  simp only [decide_eq_true_eq] at hg2
  refine rr [(0, .u (.c (storeC r1.1))), (1, tI a1), (7, tI (i64.wrap (a1 + (i64.wrap (1 * 2 ^ min (a2).toNat (IntKind.i64).bits)))))] (cgt 2 [19, 20] (cot 3 (os_to (os_plain rfl rfl (s_shift (op := .shl) (k := .i64) (p := 1) (q := a2) (yk := .i64) rfl (.inl rfl) (by kernel_rfl) (by kernel_rfl) hg2 rfl (by kernel_rfl))) (t' := tI (i64.wrap (1 * 2 ^ min (a2).toNat (IntKind.i64).bits))) (by kernel_rfl)) (cgt 5 [22, 7] .nil))) ?_
  refine r_seq ?_
  refine r_seq ?_
  refine rr [(0, .u (.c (storeC r1.1))), (1, tI a1), (7, tI (i64.wrap (a1 + (i64.wrap (1 * 2 ^ min (a2).toNat (IntKind.i64).bits))))), (8, tI a1)] (cgt 2 [23, 8] .nil) ?_
  refine r_block ?_
  refine r_weak (of_weak (l := [(0, .u (.c (storeC r1.1))), (1, tI a1), (7, tI (i64.wrap (a1 + (i64.wrap (1 * 2 ^ min (a2).toNat (IntKind.i64).bits))))), (8, tI a1)]) (by kernel_rfl)) ?_
  refine r_loopI (α := Sto × Int) (fun x => [(0, .u (.c (storeC x.1))), (1, tI a1), (7, tI (i64.wrap (a1 + (i64.wrap (1 * 2 ^ min (a2).toNat (IntKind.i64).bits))))), (8, tI x.2)]) (fun n x => TakeAt.l1 k a0 a1 a2 r1 n x.1 x.2 = some r) k (r1.1, a1) h (by intro x h; unfold TakeAt.l1 at h; cases h) ?_
  rintro n1 ⟨v3, v4⟩ h
  replace h : TakeAt.l1 k a0 a1 a2 r1 (n1 + 1) v3 v4 = some r := h
  unfold TakeAt.l1 at h
  show Run _ _ _ (St.of [(0, .u (.c (storeC v3))), (1, tI a1), (7, tI (i64.wrap (a1 + (i64.wrap (1 * 2 ^ min (a2).toNat (IntKind.i64).bits))))), (8, tI v4)]) _
  refine r_seq ?_
  refine r_seq ?_
  refine rr [(0, .u (.c (storeC v3))), (1, tI a1), (7, tI (i64.wrap (a1 + (i64.wrap (1 * 2 ^ min (a2).toNat (IntKind.i64).bits))))), (8, tI v4), (26, tB (decide (v4 < (i64.wrap (a1 + (i64.wrap (1 * 2 ^ min (a2).toNat (IntKind.i64).bits)))))))] (cgt 3 [24, 25, 26] .nil) ?_
  rcases Bool.eq_false_or_eq_true (decide (v4 < (i64.wrap (a1 + (i64.wrap (1 * 2 ^ min (a2).toNat (IntKind.i64).bits)))))) with hb | hb
  · have h := cond_t hb h
    refine r_condT hb rfl ?_
    refine r_skip ?_
    refine r_seq ?_
    refine r_block ?_
    refine r_seq ?_
    obtain ⟨r5, hr5, h⟩ := bind_some h
    refine rr [(0, .u (.c (storeC r5.1))), (1, tI a1), (7, tI (i64.wrap (a1 + (i64.wrap (1 * 2 ^ min (a2).toNat (IntKind.i64).bits))))), (8, tI v4), (32, tB (!r5.2))] (cgt 2 [29, 30] (cot 3 (os_plain rfl rfl (c_call (AC.k (IsFree.ac (h := hr5))) ⟨_, Tryd.func40, rfl, by kernel_rfl⟩ rfl (hand_root (r := 0) (c := storeC v3) (by kernel_rfl) (by kernel_rfl) rfl (.rd (.copy (by kernel_rfl) rfl) .nil)) rfl (by kernel_rfl))) (cgt 4 [32] .nil))) ?_
    rcases Bool.eq_false_or_eq_true (!r5.2) with hb | hb
    · have h := cond_t hb h
      refine r_condT hb rfl ?_
      refine r_seq ?_
      refine rr [(0, .u (.c (storeC r5.1))), (6, .u (.c (.err (some 7))))] (cot 1 (os_plain rfl rfl (s_iface (n := 7) rfl (errB_ok (by kernel_rfl)) rfl (by kernel_rfl) rfl (by kernel_rfl))) (cgt 2 [6] .nil)) ?_
      refine r_ret ?_
      obtain rfl := Option.some.inj h
      exact ⟨.inr rfl, _, _, .cons (.copy rfl rfl rfl) .nil, rfl, outs_of ⟨⟨rfl, rfl⟩, trivial⟩⟩
    have h := cond_f hb h
    refine r_condF hb rfl ?_
    refine r_skip ?_
    refine rr [(0, .u (.c (storeC r5.1))), (1, tI a1), (7, tI (i64.wrap (a1 + (i64.wrap (1 * 2 ^ min (a2).toNat (IntKind.i64).bits))))), (8, tI (i64.wrap (v4 + 1)))] (cgt 3 [27, 28, 8] .nil) ?_
    exact ⟨(r5.1, i64.wrap (v4 + 1)), h, of_weak (by kernel_rfl)⟩
  have h := cond_f hb h
  refine r_condF hb rfl ?_
  refine r_exit ?_
  refine r_seq ?_
  refine r_seq ?_
  refine rr [(0, .u (.c (storeC v3))), (1, tI a1), (7, tI (i64.wrap (a1 + (i64.wrap (1 * 2 ^ min (a2).toNat (IntKind.i64).bits))))), (9, tI a1)] (cgt 2 [34, 9] .nil) ?_
  refine r_block ?_
  refine r_weak (of_weak (l := [(0, .u (.c (storeC v3))), (1, tI a1), (7, tI (i64.wrap (a1 + (i64.wrap (1 * 2 ^ min (a2).toNat (IntKind.i64).bits))))), (9, tI a1)]) (by kernel_rfl)) ?_
  refine r_loopI (α := Sto × Int) (fun x => [(0, .u (.c (storeC x.1))), (1, tI a1), (7, tI (i64.wrap (a1 + (i64.wrap (1 * 2 ^ min (a2).toNat (IntKind.i64).bits))))), (9, tI x.2)]) (fun n x => TakeAt.l2 k a0 a1 a2 r1 v3 v4 n x.1 x.2 = some r) k (v3, a1) h (by intro x h; unfold TakeAt.l2 at h; cases h) ?_
  rintro n2 ⟨v6, v7⟩ h
  replace h : TakeAt.l2 k a0 a1 a2 r1 v3 v4 (n2 + 1) v6 v7 = some r := h
  unfold TakeAt.l2 at h
  show Run _ _ _ (St.of [(0, .u (.c (storeC v6))), (1, tI a1), (7, tI (i64.wrap (a1 + (i64.wrap (1 * 2 ^ min (a2).toNat (IntKind.i64).bits))))), (9, tI v7)]) _
  refine r_seq ?_
  refine r_seq ?_
  refine rr [(0, .u (.c (storeC v6))), (1, tI a1), (7, tI (i64.wrap (a1 + (i64.wrap (1 * 2 ^ min (a2).toNat (IntKind.i64).bits))))), (9, tI v7), (37, tB (decide (v7 < (i64.wrap (a1 + (i64.wrap (1 * 2 ^ min (a2).toNat (IntKind.i64).bits)))))))] (cgt 3 [35, 36, 37] .nil) ?_
  rcases Bool.eq_false_or_eq_true (decide (v7 < (i64.wrap (a1 + (i64.wrap (1 * 2 ^ min (a2).toNat (IntKind.i64).bits)))))) with hb | hb
  · have h := cond_t hb h
    refine r_condT hb rfl ?_
    refine r_skip ?_
    refine r_block ?_
    refine r_seq ?_
    obtain ⟨r8, hr8, h⟩ := bind_some h
    refine rr [(0, .u (.c (storeC r8.1))), (1, tI a1), (7, tI (i64.wrap (a1 + (i64.wrap (1 * 2 ^ min (a2).toNat (IntKind.i64).bits))))), (10, tI r8.2)] (cgt 2 [38, 39] (cot 3 (os_plain rfl rfl (c_call (AC.k (inn.ac (h := hr8))) ⟨_, Tryd.func46, rfl, by kernel_rfl⟩ rfl (hand_root (r := 0) (c := storeC v6) (by kernel_rfl) (by kernel_rfl) rfl (.rd (.copy (by kernel_rfl) rfl) .nil)) rfl (by kernel_rfl))) (cgt 4 [10] .nil))) ?_
    refine r_seq ?_
    refine r_seq ?_
    refine rr [(0, .u (.c (storeC r8.1))), (1, tI a1), (7, tI (i64.wrap (a1 + (i64.wrap (1 * 2 ^ min (a2).toNat (IntKind.i64).bits))))), (10, tI r8.2), (42, tB (decide (r8.2 < 0)))] (cgt 2 [41, 42] .nil) ?_
    rcases Bool.eq_false_or_eq_true (decide (r8.2 < 0)) with hb | hb
    · have h := cond_t hb h
      refine r_condT hb rfl ?_
      refine r_seq ?_
      refine rr [(0, .u (.c (storeC r8.1))), (6, .u (.c (.err (some 7))))] (cot 1 (os_plain rfl rfl (s_iface (n := 7) rfl (errB_ok (by kernel_rfl)) rfl (by kernel_rfl) rfl (by kernel_rfl))) (cgt 2 [6] .nil)) ?_
      refine r_ret ?_
      obtain rfl := Option.some.inj h
      exact ⟨.inr rfl, _, _, .cons (.copy rfl rfl rfl) .nil, rfl, outs_of ⟨⟨rfl, rfl⟩, trivial⟩⟩
    have h := cond_f hb h
    refine r_condF hb rfl ?_
    refine r_skip ?_
    refine r_seq ?_
    obtain ⟨hg9, h⟩ := guard_some h
    simp only [Bool.and_eq_true, decide_eq_true_eq] at hg9
    refine rr [(0, .u (.c (storeC r8.1))), (1, tI a1), (7, tI (i64.wrap (a1 + (i64.wrap (1 * 2 ^ min (a2).toNat (IntKind.i64).bits))))), (10, tI r8.2), (11, .u (.c (.pt true [.v (.int .i64 ((r8.1.l.getD ((r8.2).toNat) zR).f)), .v (.int .i64 ((r8.1.l.getD ((r8.2).toNat) zR).o))])))] (cgt 5 [44, 45, 46, 47, 48] (cot 6 (os_plain rfl rfl (s_indexV (r := 0) (lo := 0) (n := (r8.1.l.map eR).length) (pl := (some (.d, [], 1))) (sz := 2) (e := r8.2) (ik := .i64) (k := (r8.2).toNat) rfl sl36 (by kernel_rfl) (.tmp (by kernel_rfl)) hg9.1 (by rw [List.length_map]; exact hg9.2) (Nat.zero_add _) rfl (by kernel_rfl) (by kernel_rfl))) (cot 7 (os_plain rfl rfl (s_loadA (n := 2) (xs := [.v (.int .i64 ((r8.1.l.getD ((r8.2).toNat) zR).f)), .v (.int .i64 ((r8.1.l.getD ((r8.2).toNat) zR).o))]) (r := 0) (off := 0) (s := .d) (p := [(1, .i ((r8.2).toNat) 2)]) (c := storeC r8.1) (cs := (eR (r8.1.l.getD ((r8.2).toNat) zR))) rfl (aggB_ok (by kernel_rfl)) (by kernel_rfl) (by kernel_rfl) (getP_in (c' := .sl true 2 (r8.1.l.map eR)) rfl (getP_map (f := eR) (own := true) (xs := r8.1.l) (k := (r8.2).toNat) zR (by have := hg9; omega))) rfl rfl rfl rfl (by kernel_rfl))) (cot 8 (os_plain rfl rfl (s_alloc rfl zero39 rfl (by kernel_rfl))) (cot 9 (os_plain rfl rfl (s_storeS (n := 2) (r := 11) (off := 0) (s := .d) (p := []) (c := .pt true [.v (.int .i64 0), .v (.int .i64 0)]) (cs := [.v (.int .i64 0), .v (.int .i64 0)]) (u := .agg [.v (.int .i64 ((r8.1.l.getD ((r8.2).toNat) zR).f)), .v (.int .i64 ((r8.1.l.getD ((r8.2).toNat) zR).o))]) rfl (by kernel_rfl) (by kernel_rfl) (by kernel_rfl) rfl (by kernel_rfl) rfl rfl rfl rfl (Nat.le_of_ble_eq_true rfl) (by kernel_rfl) (by kernel_rfl) rfl rfl)) .nil))))) ?_
    refine r_seq ?_
    obtain ⟨hg10, h⟩ := guard_some h
    simp only [decide_eq_true_eq] at hg10
    refine r_weak (of_weak (l := [(0, .u (.c (storeC r8.1))), (1, tI a1), (7, tI (i64.wrap (a1 + (i64.wrap (1 * 2 ^ min (a2).toNat (IntKind.i64).bits))))), (10, tI r8.2), (11, .u (.c (.pt true [.v (.int .i64 ((r8.1.l.getD ((r8.2).toNat) zR).f)), .v (.int .i64 ((r8.1.l.getD ((r8.2).toNat) zR).o))])))]) (by kernel_rfl)) ?_
    refine r_anyW (l := [(0, .u (.c (storeC r8.1))), (1, tI a1), (7, tI (i64.wrap (a1 + (i64.wrap (1 * 2 ^ min (a2).toNat (IntKind.i64).bits))))), (10, tI r8.2), (11, .u (.c (.pt true [.v (.int .i64 ((r8.1.l.getD ((r8.2).toNat) zR).f)), .v (.int .i64 ((r8.1.l.getD ((r8.2).toNat) zR).o))]))), (12, tI (i64.wrap (((r8.1.l.getD ((r8.2).toNat) zR).f) + (i64.wrap (1 * 2 ^ min ((r8.1.l.getD ((r8.2).toNat) zR).o).toNat (IntKind.i64).bits)))))]) (tab := [[], [0], [], [2], [3], [1, 4], [5, 0, 1, 2, 3, 4, 5]]) [ev [] [11] 51 (.addr 11 (.d) [] 0), ev [0] [11, 51] 52 (tI ((r8.1.l.getD ((r8.2).toNat) zR).f)), ev [] [11] 53 (.addr 11 (.d) [] 1), ev [2] [11, 53] 54 (tI ((r8.1.l.getD ((r8.2).toNat) zR).o)), ev [2, 3] [54] 55 (tI (i64.wrap (1 * 2 ^ min ((r8.1.l.getD ((r8.2).toNat) zR).o).toNat (IntKind.i64).bits))), ev [0, 1, 2, 3, 4] [52, 55] 56 (tI (i64.wrap (((r8.1.l.getD ((r8.2).toNat) zR).f) + (i64.wrap (1 * 2 ^ min ((r8.1.l.getD ((r8.2).toNat) zR).o).toNat (IntKind.i64).bits))))), eu 6 [56] 12 (tI (i64.wrap (((r8.1.l.getD ((r8.2).toNat) zR).f) + (i64.wrap (1 * 2 ^ min ((r8.1.l.getD ((r8.2).toNat) zR).o).toNat (IntKind.i64).bits)))))] hm (by kernel_rfl) (by kernel_rfl) (by kernel_rfl) (en (en (en (en (.cons (fun σ hc => e_put hc rfl rfl (os_to (os_plain rfl rfl (s_shift (op := .shl) (k := .i64) (p := 1) (q := (r8.1.l.getD ((r8.2).toNat) zR).o) (yk := .i64) rfl (.inl rfl) (by kernel_rfl) (by kernel_rfl) hg10 rfl (by kernel_rfl))) (t' := tI (i64.wrap (1 * 2 ^ min ((r8.1.l.getD ((r8.2).toNat) zR).o).toNat (IntKind.i64).bits))) (by kernel_rfl))) (en (en .nil))))))) (by kernel_rfl) ?_
    refine r_seq ?_
    obtain ⟨r11, hr11, h⟩ := bind_some h
    refine rr [(0, .u (.c (storeC r11))), (1, tI a1), (7, tI (i64.wrap (a1 + (i64.wrap (1 * 2 ^ min (a2).toNat (IntKind.i64).bits))))), (11, .u (.c (.pt true [.v (.int .i64 ((r8.1.l.getD ((r8.2).toNat) zR).f)), .v (.int .i64 ((r8.1.l.getD ((r8.2).toNat) zR).o))]))), (12, tI (i64.wrap (((r8.1.l.getD ((r8.2).toNat) zR).f) + (i64.wrap (1 * 2 ^ min ((r8.1.l.getD ((r8.2).toNat) zR).o).toNat (IntKind.i64).bits)))))] (cgt 2 [57, 58] (cot 3 (os_plain rfl rfl (c_call (AC.k (drop.ac (h := hr11))) ⟨_, Tryd.func47, rfl, by kernel_rfl⟩ rfl (hand_root (r := 0) (c := storeC r8.1) (by kernel_rfl) (by kernel_rfl) rfl (.rd (.copy (by kernel_rfl) rfl) .nil)) rfl (by kernel_rfl))) .nil)) ?_
    refine r_seq ?_
    obtain ⟨r12, hr12, h⟩ := bind_some h
    refine rr [(0, .u (.c (storeC r12))), (1, tI a1), (7, tI (i64.wrap (a1 + (i64.wrap (1 * 2 ^ min (a2).toNat (IntKind.i64).bits))))), (12, tI (i64.wrap (((r8.1.l.getD ((r8.2).toNat) zR).f) + (i64.wrap (1 * 2 ^ min ((r8.1.l.getD ((r8.2).toNat) zR).o).toNat (IntKind.i64).bits)))))] (cgt 6 [60, 61, 62, 63, 64, 65] (cot 7 (os_plain rfl rfl (s_max (k := .i64) (p := (r8.1.l.getD ((r8.2).toNat) zR).f) (q := a1) rfl (by kernel_rfl) (by kernel_rfl) rfl (by kernel_rfl))) (cot 8 (os_plain rfl rfl (c_call (ACT.k hT (add.ac (h := hr12))) ⟨_, Tryd.func44, rfl, by kernel_rfl⟩ rfl (hand_root (r := 0) (c := storeC r11) (by kernel_rfl) (by kernel_rfl) rfl (.rd (.copy (by kernel_rfl) rfl) (.rd (.copy (by kernel_rfl) rfl) .nil))) rfl (by kernel_rfl))) .nil))) ?_
    refine r_seq ?_
    obtain ⟨r13, hr13, h⟩ := bind_some h
    refine rr [(0, .u (.c (storeC r13))), (1, tI a1), (7, tI (i64.wrap (a1 + (i64.wrap (1 * 2 ^ min (a2).toNat (IntKind.i64).bits))))), (12, tI (i64.wrap (((r8.1.l.getD ((r8.2).toNat) zR).f) + (i64.wrap (1 * 2 ^ min ((r8.1.l.getD ((r8.2).toNat) zR).o).toNat (IntKind.i64).bits)))))] (cgt 3 [68, 69, 70] (cot 4 (os_plain rfl rfl (s_min (k := .i64) (p := i64.wrap (((r8.1.l.getD ((r8.2).toNat) zR).f) + (i64.wrap (1 * 2 ^ min ((r8.1.l.getD ((r8.2).toNat) zR).o).toNat (IntKind.i64).bits)))) (q := i64.wrap (a1 + (i64.wrap (1 * 2 ^ min (a2).toNat (IntKind.i64).bits)))) rfl (by kernel_rfl) (by kernel_rfl) rfl (by kernel_rfl))) (cgt 5 [72] (cot 6 (os_plain rfl rfl (c_call (ACT.k hT (add.ac (h := hr13))) ⟨_, Tryd.func44, rfl, by kernel_rfl⟩ rfl (hand_root (r := 0) (c := storeC r12) (by kernel_rfl) (by kernel_rfl) rfl (.rd (.copy (by kernel_rfl) rfl) (.rd (.copy (by kernel_rfl) rfl) .nil))) rfl (by kernel_rfl))) .nil)))) ?_
    refine rr [(0, .u (.c (storeC r13))), (1, tI a1), (7, tI (i64.wrap (a1 + (i64.wrap (1 * 2 ^ min (a2).toNat (IntKind.i64).bits))))), (9, tI (i64.wrap (((r8.1.l.getD ((r8.2).toNat) zR).f) + (i64.wrap (1 * 2 ^ min ((r8.1.l.getD ((r8.2).toNat) zR).o).toNat (IntKind.i64).bits)))))] (cgt 2 [74, 9] .nil) ?_
    exact ⟨(r13, i64.wrap (((r8.1.l.getD ((r8.2).toNat) zR).f) + (i64.wrap (1 * 2 ^ min ((r8.1.l.getD ((r8.2).toNat) zR).o).toNat (IntKind.i64).bits)))), h, of_weak (by kernel_rfl)⟩
  have h := cond_f hb h
  refine r_condF hb rfl ?_
  refine r_exit ?_
  refine r_seq ?_
  refine rr [(0, .u (.c (storeC v6))), (6, .u (.c (.err none)))] (cgt 1 [6] .nil) ?_
  refine r_ret ?_
  obtain rfl := Option.some.inj h
  exact ⟨.inr rfl, _, _, .cons (.copy rfl rfl rfl) .nil, rfl, outs_of ⟨⟨rfl, rfl⟩, trivial⟩⟩
def Give.l2 (k : Nat) (a0 : Sto) (a1 : Int) (a2 : Int) (r1 : Sto × Bool) (v2 : Sto) (v3 : Int) : Nat → Sto → Blk → Option (Sto × (Option Int))
  | 0, _, _ => none
  | n2 + 1, v6, v7 => (bif decide (v7.o < 5) then (bif decide (0 ≤ v7.o) then (Index.f k v6.l (⟨bitI .xor .i64 v7.f (i64.wrap (1 * 2 ^ min (v7.o).toNat (IntKind.i64).bits)), v7.o⟩ : Blk)).bind fun (r9 : Int) => (bif decide (r9 < 0) then (putb.f k v6 v7).bind fun (r10 : Sto) => some (r10, none) else (bif decide (0 ≤ r9) && decide (r9 < (v6.l.length : Int)) then (drop.f k v6 r9).bind fun (r12 : Sto) => Give.l2 k a0 a1 a2 r1 v2 v3 n2 r12 (⟨(if (v6.l.getD ((r9).toNat) zR).f < v7.f then (v6.l.getD ((r9).toNat) zR).f else v7.f), i64.wrap (v7.o + 1)⟩ : Blk) else none)) else none) else (putb.f k v6 v7).bind fun (r13 : Sto) => some (r13, none))
def Give.l1 (k : Nat) (a0 : Sto) (a1 : Int) (a2 : Int) (r1 : Sto × Bool) : Nat → Sto → Int → Option (Sto × (Option Int))
  | 0, _, _ => none
  | n1 + 1, v2, v3 => (bif decide (0 ≤ a2) then (bif decide (v3 < (i64.wrap (a1 + (i64.wrap (1 * 2 ^ min (a2).toNat (IntKind.i64).bits))))) then (IsFree.f k v2 v3).bind fun (r5 : Sto × Bool) => (bif r5.2 then some (r5.1, (some 7)) else Give.l1 k a0 a1 a2 r1 n1 r5.1 (i64.wrap (v3 + 1))) else Give.l2 k a0 a1 a2 r1 v2 v3 k v2 (⟨a1, a2⟩ : Blk)) else none)
set_option maxHeartbeats 4000000 in
def Give.f (k : Nat) (a0 : Sto) (a1 : Int) (a2 : Int) : Option (Sto × (Option Int)) :=
  (block.f k a0 a1 a2).bind fun (r1 : Sto × Bool) => (bif !r1.2 then some (r1.1, (some 1)) else Give.l1 k a0 a1 a2 r1 k r1.1 a1)
set_option maxHeartbeats 4000000 in
theorem Give.ac (k : Nat) (a0 : Sto) (a1 : Int) (a2 : Int) (r : Sto × (Option Int)) (h : Give.f k a0 a1 a2 = some r) : AC Tryd.prog 28 41 [.c (storeC a0), .c (.v (.int .i64 a1)), .c (.v (.int .i64 a2))] [some (.c (storeC r.1)), none, none] [.c (.err r.2)] := by
  unfold Give.f at h
  refine ac_intro (fn := Tryd.f41) (pins := [0]) (rts := [6]) Tryd.func41 rfl Tryd.ntmps41 rfl (Nat.le_of_ble_eq_true rfl) (pins_lt rfl) rfl (fun w R E vs => ?_)
  refine r_weak (of_weak (l := [(0, .u (.c (storeC a0))), (1, tI a1), (2, tI a2)]) (by kernel_rfl)) ?_
  refine r_seq ?_
  refine rr [(0, .u (.c (storeC a0))), (1, tI a1), (2, tI a2)] (cgt 1 [6] .nil) ?_
  refine r_seq ?_
  refine r_seq ?_
  obtain ⟨r1, hr1, h⟩ := bind_some h
  refine rr [(0, .u (.c (storeC r1.1))), (1, tI a1), (2, tI a2), (14, tB (!r1.2))] (cgt 3 [10, 11, 12] (cot 4 (os_plain rfl rfl (c_call (AC.k (block.ac (h := hr1))) ⟨_, Tryd.func45, rfl, by kernel_rfl⟩ rfl (hand_root (r := 0) (c := storeC a0) (by kernel_rfl) (by kernel_rfl) rfl (.rd (.copy (by kernel_rfl) rfl) (.rd (.copy (by kernel_rfl) rfl) .nil))) rfl (by kernel_rfl))) (cgt 5 [14] .nil))) ?_
  rcases Bool.eq_false_or_eq_true (!r1.2) with hb | hb
  · have h := cond_t hb h
    refine r_condT hb rfl ?_
    refine r_seq ?_
    refine rr [(0, .u (.c (storeC r1.1))), (6, .u (.c (.err (some 1))))] (cot 1 (os_plain rfl rfl (s_iface (n := 1) rfl (errB_ok (by kernel_rfl)) rfl (by kernel_rfl) rfl (by kernel_rfl))) (cgt 2 [6] .nil)) ?_
    refine r_ret ?_
    obtain rfl := Option.some.inj h
    exact ⟨.inr rfl, _, _, .cons (.copy rfl rfl rfl) .nil, rfl, outs_of ⟨⟨rfl, rfl⟩, trivial⟩⟩
  have h := cond_f hb h
  refine r_condF hb rfl ?_
  refine r_skip ?_
  refine r_seq ?_
  refine r_seq ?_
  refine rr [(0, .u (.c (storeC r1.1))), (1, tI a1), (2, tI a2), (7, tI a1)] (cgt 2 [16, 7] .nil) ?_
  refine r_block ?_
  refine r_weak (of_weak (l := [(0, .u (.c (storeC r1.1))), (1, tI a1), (2, tI a2), (7, tI a1)]) (by kernel_rfl)) ?_
  refine r_loopI (α := Sto × Int) (fun x => [(0, .u (.c (storeC x.1))), (1, tI a1), (2, tI a2), (7, tI x.2)]) (fun n x => Give.l1 k a0 a1 a2 r1 n x.1 x.2 = some r) k (r1.1, a1) h (by intro x h; unfold Give.l1 at h; cases h) ?_
  rintro n1 ⟨v2, v3⟩ h
  replace h : Give.l1 k a0 a1 a2 r1 (n1 + 1) v2 v3 = some r := h
  unfold Give.l1 at h
  show Run _ _ _ (St.of [(0, .u (.c (storeC v2))), (1, tI a1), (2, tI a2), (7, tI v3)]) _
  refine r_seq ?_
  refine r_seq ?_
  obtain ⟨hg4, h⟩ := guard_some h
  simp only [decide_eq_true_eq] at hg4
  refine rr [(0, .u (.c (storeC v2))), (1, tI a1), (2, tI a2), (7, tI v3), (22, tB (decide (v3 < (i64.wrap (a1 + (i64.wrap (1 * 2 ^ min (a2).toNat (IntKind.i64).bits)))))))] (cgt 3 [17, 18, 19] (cot 4 (os_to (os_plain rfl rfl (s_shift (op := .shl) (k := .i64) (p := 1) (q := a2) (yk := .i64) rfl (.inl rfl) (by kernel_rfl) (by kernel_rfl) hg4 rfl (by kernel_rfl))) (t' := tI (i64.wrap (1 * 2 ^ min (a2).toNat (IntKind.i64).bits))) (by kernel_rfl)) (cgt 6 [21, 22] .nil))) ?_
  rcases Bool.eq_false_or_eq_true (decide (v3 < (i64.wrap (a1 + (i64.wrap (1 * 2 ^ min (a2).toNat (IntKind.i64).bits)))))) with hb | hb
  · have h := cond_t hb h
    refine r_condT hb rfl ?_
    refine r_skip ?_
    refine r_seq ?_
    refine r_block ?_
    refine r_seq ?_
    obtain ⟨r5, hr5, h⟩ := bind_some h
    refine rr [(0, .u (.c (storeC r5.1))), (1, tI a1), (2, tI a2), (7, tI v3), (27, tB r5.2)] (cgt 2 [25, 26] (cot 3 (os_plain rfl rfl (c_call (AC.k (IsFree.ac (h := hr5))) ⟨_, Tryd.func40, rfl, by kernel_rfl⟩ rfl (hand_root (r := 0) (c := storeC v2) (by kernel_rfl) (by kernel_rfl) rfl (.rd (.copy (by kernel_rfl) rfl) .nil)) rfl (by kernel_rfl))) .nil)) ?_
    rcases Bool.eq_false_or_eq_true (r5.2) with hb | hb
    · have h := cond_t hb h
      refine r_condT hb rfl ?_
      refine r_seq ?_
      refine rr [(0, .u (.c (storeC r5.1))), (6, .u (.c (.err (some 7))))] (cot 1 (os_plain rfl rfl (s_iface (n := 7) rfl (errB_ok (by kernel_rfl)) rfl (by kernel_rfl) rfl (by kernel_rfl))) (cgt 2 [6] .nil)) ?_
      refine r_ret ?_
      obtain rfl := Option.some.inj h
      exact ⟨.inr rfl, _, _, .cons (.copy rfl rfl rfl) .nil, rfl, outs_of ⟨⟨rfl, rfl⟩, trivial⟩⟩
    have h := cond_f hb h
    refine r_condF hb rfl ?_
    refine r_skip ?_
    refine rr [(0, .u (.c (storeC r5.1))), (1, tI a1), (2, tI a2), (7, tI (i64.wrap (v3 + 1)))] (cgt 3 [23, 24, 7] .nil) ?_
    exact ⟨(r5.1, i64.wrap (v3 + 1)), h, of_weak (by kernel_rfl)⟩
  have h := cond_f hb h
  refine r_condF hb rfl ?_
  refine r_exit ?_
  refine r_seq ?_
  refine rr [(0, .u (.c (storeC v2))), (8, .u (.c (.pt true [.v (.int .i64 a1), .v (.int .i64 a2)])))] (cgt 2 [29, 30] (cot 3 (os_plain rfl rfl (s_build (us := [(0, .c (.v (.int .i64 a1))), (1, .c (.v (.int .i64 a2)))]) (zs := [.v (.int .i64 0), .v (.int .i64 0)]) (cs := [.v (.int .i64 a1), .v (.int .i64 a2)]) rfl build39 zero39 (.cons (.copy (by kernel_rfl) (by kernel_rfl) (by kernel_rfl)) (.cons (.copy (by kernel_rfl) (by kernel_rfl) (by kernel_rfl)) .nil)) (by kernel_rfl) rfl (by kernel_rfl))) (cot 4 (os_plain rfl rfl (s_alloc rfl zero39 rfl (by kernel_rfl))) (cot 5 (os_plain rfl rfl (s_storeS (n := 2) (r := 8) (off := 0) (s := .d) (p := []) (c := .pt true [.v (.int .i64 0), .v (.int .i64 0)]) (cs := [.v (.int .i64 0), .v (.int .i64 0)]) (u := .agg [.v (.int .i64 a1), .v (.int .i64 a2)]) rfl (by kernel_rfl) (by kernel_rfl) (by kernel_rfl) rfl (by kernel_rfl) rfl rfl rfl rfl (Nat.le_of_ble_eq_true rfl) (by kernel_rfl) (by kernel_rfl) rfl rfl)) .nil)))) ?_
  refine r_seq ?_
  refine r_block ?_
  refine r_weak (of_weak (l := [(0, .u (.c (storeC v2))), (8, .u (.c (.pt true [.v (.int .i64 a1), .v (.int .i64 a2)])))]) (by kernel_rfl)) ?_
  refine r_loopI (α := Sto × Blk) (fun x => [(0, .u (.c (storeC x.1))), (8, .u (.c (.pt true [.v (.int .i64 x.2.f), .v (.int .i64 x.2.o)])))]) (fun n x => Give.l2 k a0 a1 a2 r1 v2 v3 n x.1 x.2 = some r) k (v2, (⟨a1, a2⟩ : Blk)) h (by intro x h; unfold Give.l2 at h; cases h) ?_
  rintro n2 ⟨v6, v7⟩ h
  replace h : Give.l2 k a0 a1 a2 r1 v2 v3 (n2 + 1) v6 v7 = some r := h
  unfold Give.l2 at h
  show Run _ _ _ (St.of [(0, .u (.c (storeC v6))), (8, .u (.c (.pt true [.v (.int .i64 v7.f), .v (.int .i64 v7.o)])))]) _
  refine r_seq ?_
  refine r_seq ?_
  refine rr [(0, .u (.c (storeC v6))), (8, .u (.c (.pt true [.v (.int .i64 v7.f), .v (.int .i64 v7.o)]))), (34, tB (decide (v7.o < 5)))] (cgt 3 [32, 33, 34] .nil) ?_
  rcases Bool.eq_false_or_eq_true (decide (v7.o < 5)) with hb | hb
  · have h := cond_t hb h
    refine r_condT hb rfl ?_
    refine r_skip ?_
    refine r_block ?_
    refine r_seq ?_
    obtain ⟨hg8, h⟩ := guard_some h
    simp only [decide_eq_true_eq] at hg8
    obtain ⟨r9, hr9, h⟩ := bind_some h
    refine r_weak (of_weak (l := [(0, .u (.c (storeC v6))), (8, .u (.c (.pt true [.v (.int .i64 v7.f), .v (.int .i64 v7.o)]))), (34, tB (decide (v7.o < 5)))]) (by kernel_rfl)) ?_
    refine r_anyW (l := [(0, .u (.c (storeC v6))), (8, .u (.c (.pt true [.v (.int .i64 v7.f), .v (.int .i64 v7.o)]))), (9, tI r9)]) (tab := [[], [0], [1], [2], [], [4], [], [6], [7], [5, 8], [], [10], [9, 11], [3, 12], [13, 13, 0, 1, 2, 3, 4, 5, 6, 7, 8, 9, 10, 11, 12, 13]]) [ev [] [0] 35 (.addr 0 (.d) [] 0), ev [0] [35] 36 (.addr 0 (.d) [] 0), ev [0, 1] [36] 37 (.addr 0 (.d) [] 1), ev [0, 1, 2] [0, 37] 38 (.whole 0 (some (.d, [], 1)) 2 ((v6.l.map eR).length)), ev [] [8] 39 (.addr 8 (.d) [] 0), ev [4] [8, 39] 40 (tI v7.f), ev [] [8] 41 (.addr 8 (.d) [] 1), ev [6] [8, 41] 42 (tI v7.o), ev [6, 7] [42] 43 (tI (i64.wrap (1 * 2 ^ min (v7.o).toNat (IntKind.i64).bits))), ev [4, 5, 6, 7, 8] [40, 43] 44 (tI (bitI .xor .i64 v7.f (i64.wrap (1 * 2 ^ min (v7.o).toNat (IntKind.i64).bits)))), ev [] [8] 45 (.addr 8 (.d) [] 1), ev [10] [8, 45] 46 (tI v7.o), ev [4, 5, 6, 7, 8, 9, 10, 11] [44, 46] 47 (.u (.agg [.v (.int .i64 (bitI .xor .i64 v7.f (i64.wrap (1 * 2 ^ min (v7.o).toNat (IntKind.i64).bits)))), .v (.int .i64 v7.o)])), eu 13 [0, 38, 47] 48 (tI r9), eu 14 [48] 9 (tI r9)] hm (by kernel_rfl) (by kernel_rfl) (by kernel_rfl) (en (en (en (en (en (en (en (en (.cons (fun σ hc => e_put hc rfl rfl (os_to (os_plain rfl rfl (s_shift (op := .shl) (k := .i64) (p := 1) (q := v7.o) (yk := .i64) rfl (.inl rfl) (by kernel_rfl) (by kernel_rfl) hg8 rfl (by kernel_rfl))) (t' := tI (i64.wrap (1 * 2 ^ min (v7.o).toNat (IntKind.i64).bits))) (by kernel_rfl))) (en (en (en (.cons (fun σ hc => e_eq (os_plain rfl rfl (s_build (us := [(0, .c (.v (.int .i64 (bitI .xor .i64 v7.f (i64.wrap (1 * 2 ^ min (v7.o).toNat (IntKind.i64).bits)))))), (1, .c (.v (.int .i64 v7.o)))]) (zs := [.v (.int .i64 0), .v (.int .i64 0)]) (cs := [.v (.int .i64 (bitI .xor .i64 v7.f (i64.wrap (1 * 2 ^ min (v7.o).toNat (IntKind.i64).bits)))), .v (.int .i64 v7.o)]) rfl build39 zero39 (.cons (.copy (by kernel_rfl) (by kernel_rfl) (by kernel_rfl)) (.cons (.copy (by kernel_rfl) (by kernel_rfl) (by kernel_rfl)) .nil)) (by kernel_rfl) rfl (by kernel_rfl))) (put_junks_over (l := []) hc rfl)) (.cons (fun σ hc => e_put hc rfl rfl (os_plain rfl rfl (c_callQL (res := [.c (.v (.int .i64 r9))]) (AC.k (Index.ac (h := hr9))) ⟨_, Tryd.func49, rfl, by kernel_rfl⟩ rfl (.cons (.view (.v1 (r := 0) (lo := 0) (n := (v6.l.map eR).length) (off := 1) (s := .d) (p := []) (c := storeC v6) (cs := [.v (.int .i64 v6.n), .sl true 2 (v6.l.map eR)]) (own := true) (rows := v6.l.map eR) (by kernel_rfl) (by kernel_rfl) rfl rfl rows_all) (copy_map eR_copy)) (.cons (.copy (.copy (by kernel_rfl) rfl)) .nil)) (⟨trivial, trivial⟩) (by kernel_rfl)))) (en .nil))))))))))))))) (by kernel_rfl) ?_
    refine r_seq ?_
    refine r_seq ?_
    refine rr [(0, .u (.c (storeC v6))), (8, .u (.c (.pt true [.v (.int .i64 v7.f), .v (.int .i64 v7.o)]))), (9, tI r9), (50, tB (decide (r9 < 0)))] (cgt 2 [49, 50] .nil) ?_
    rcases Bool.eq_false_or_eq_true (decide (r9 < 0)) with hb | hb
    · have h := cond_t hb h
      refine r_condT hb rfl ?_
      refine r_exit ?_
      refine r_seq ?_
      obtain ⟨r10, hr10, h⟩ := bind_some h
      refine rr [(0, .u (.c (storeC r10)))] (cgt 2 [69, 70] (cot 3 (os_plain rfl rfl (c_call (AC.k (putb.ac (h := hr10))) ⟨_, Tryd.func50, rfl, by kernel_rfl⟩ rfl (hand_root (r := 0) (c := storeC v6) (by kernel_rfl) (by kernel_rfl) rfl (.rd (.copy (by kernel_rfl) rfl) .nil)) rfl (by kernel_rfl))) .nil)) ?_
      refine r_seq ?_
      refine rr [(0, .u (.c (storeC r10))), (6, .u (.c (.err none)))] (cgt 1 [6] .nil) ?_
      refine r_ret ?_
      obtain rfl := Option.some.inj h
      exact ⟨.inr rfl, _, _, .cons (.copy rfl rfl rfl) .nil, rfl, outs_of ⟨⟨rfl, rfl⟩, trivial⟩⟩
    have h := cond_f hb h
    refine r_condF hb rfl ?_
    refine r_skip ?_
    refine r_seq ?_
    obtain ⟨hg11, h⟩ := guard_some h
    simp only [Bool.and_eq_true, decide_eq_true_eq] at hg11
    refine r_weak (of_weak (l := [(0, .u (.c (storeC v6))), (8, .u (.c (.pt true [.v (.int .i64 v7.f), .v (.int .i64 v7.o)]))), (9, tI r9), (50, tB (decide (r9 < 0)))]) (by kernel_rfl)) ?_
    refine r_anyW (l := [(0, .u (.c (storeC v6))), (8, .u (.c (.pt true [.v (.int .i64 (if (v6.l.getD ((r9).toNat) zR).f < v7.f then (v6.l.getD ((r9).toNat) zR).f else v7.f)), .v (.int .i64 (i64.wrap (v7.o + 1)))]))), (9, tI r9)]) (tab := [[], [0], [], [2], [3], [4], [], [5, 6], [7], [8], [1, 9], [], [11], [12], [10, 13], [14, 0, 1, 2, 3, 4, 5, 6, 7, 8, 9, 10, 11, 12, 13, 14]]) [ev [] [8] 51 (.addr 8 (.d) [] 0), ev [0] [8, 51] 52 (tI v7.f), ev [] [0] 53 (.addr 0 (.d) [] 0), ev [2] [53] 54 (.addr 0 (.d) [] 0), ev [2, 3] [54] 55 (.addr 0 (.d) [] 1), ev [2, 3, 4] [0, 55] 56 (.whole 0 (some (.d, [], 1)) 2 ((v6.l.map eR).length)), ev [] [9] 57 (tI r9), ev [2, 3, 4, 5, 6] [0, 56, 57] 58 (.addr 0 (.d) [(1, .i ((r9).toNat) 2)] 0), ev [2, 3, 4, 5, 6, 7] [58] 59 (.addr 0 (.d) [(1, .i ((r9).toNat) 2)] 0), ev [2, 3, 4, 5, 6, 7, 8] [0, 59] 60 (tI ((v6.l.getD ((r9).toNat) zR).f)), eu 10 [52, 60] 61 (tI (if (v6.l.getD ((r9).toNat) zR).f < v7.f then (v6.l.getD ((r9).toNat) zR).f else v7.f)), ev [] [8] 62 (.addr 8 (.d) [] 1), ev [11] [8, 62] 63 (tI v7.o), ev [11, 12] [63] 64 (tI (i64.wrap (v7.o + 1))), eu 14 [61, 64] 65 (.u (.agg [.v (.int .i64 (if (v6.l.getD ((r9).toNat) zR).f < v7.f then (v6.l.getD ((r9).toNat) zR).f else v7.f)), .v (.int .i64 (i64.wrap (v7.o + 1)))])), ⟨List.range 15, [8, 65], [(8, .u (.c (.pt true [.v (.int .i64 (if (v6.l.getD ((r9).toNat) zR).f < v7.f then (v6.l.getD ((r9).toNat) zR).f else v7.f)), .v (.int .i64 (i64.wrap (v7.o + 1)))])))], none, false⟩] hm (by kernel_rfl) (by kernel_rfl) (by kernel_rfl) (en (en (en (en (en (en (en (.cons (fun σ hc => e_put hc rfl rfl (os_plain rfl rfl (s_indexV (r := 0) (lo := 0) (n := (v6.l.map eR).length) (pl := (some (.d, [], 1))) (sz := 2) (e := r9) (ik := .i64) (k := (r9).toNat) rfl sl36 (by kernel_rfl) (.tmp (by kernel_rfl)) hg11.1 (by rw [List.length_map]; exact hg11.2) (Nat.zero_add _) rfl (by kernel_rfl) (by kernel_rfl)))) (en (.cons (fun σ hc => e_put hc rfl rfl (os_plain rfl rfl (s_load1 (x := .v (.int .i64 ((v6.l.getD ((r9).toNat) zR).f))) (r := 0) (off := 0) (s := .d) (p := [(1, .i ((r9).toNat) 2)]) (c := storeC v6) (cs := (eR (v6.l.getD ((r9).toNat) zR))) rfl (oneB_ok (by kernel_rfl)) (by kernel_rfl) (by kernel_rfl) (getP_in (c' := .sl true 2 (v6.l.map eR)) rfl (getP_map (f := eR) (own := true) (xs := v6.l) (k := (r9).toNat) zR (by have := hg11; omega))) rfl rfl rfl (by kernel_rfl)))) (.cons (fun σ hc => e_put hc rfl rfl (os_plain rfl rfl (s_min (k := .i64) (p := v7.f) (q := (v6.l.getD ((r9).toNat) zR).f) rfl (by kernel_rfl) (by kernel_rfl) rfl (by kernel_rfl)))) (en (en (en (.cons (fun σ hc => e_eq (os_plain rfl rfl (s_build (us := [(0, .c (.v (.int .i64 (if (v6.l.getD ((r9).toNat) zR).f < v7.f then (v6.l.getD ((r9).toNat) zR).f else v7.f)))), (1, .c (.v (.int .i64 (i64.wrap (v7.o + 1)))))]) (zs := [.v (.int .i64 0), .v (.int .i64 0)]) (cs := [.v (.int .i64 (if (v6.l.getD ((r9).toNat) zR).f < v7.f then (v6.l.getD ((r9).toNat) zR).f else v7.f)), .v (.int .i64 (i64.wrap (v7.o + 1)))]) rfl build39 zero39 (.cons (.copy (by kernel_rfl) (by kernel_rfl) (by kernel_rfl)) (.cons (.copy (by kernel_rfl) (by kernel_rfl) (by kernel_rfl)) .nil)) (by kernel_rfl) rfl (by kernel_rfl))) (put_junks_over (l := []) hc rfl)) (.cons (fun σ hc => e_eq (os_plain rfl rfl (s_storeS (n := 2) (r := 8) (off := 0) (s := .d) (p := []) (c := .pt true [.v (.int .i64 v7.f), .v (.int .i64 v7.o)]) (cs := [.v (.int .i64 v7.f), .v (.int .i64 v7.o)]) (u := .agg [.v (.int .i64 (if (v6.l.getD ((r9).toNat) zR).f < v7.f then (v6.l.getD ((r9).toNat) zR).f else v7.f)), .v (.int .i64 (i64.wrap (v7.o + 1)))]) rfl (by kernel_rfl) (by kernel_rfl) (by kernel_rfl) rfl (by kernel_rfl) rfl rfl rfl rfl (Nat.le_of_ble_eq_true rfl) (by kernel_rfl) (by kernel_rfl) rfl rfl)) (upd_junks_over (l := []))) .nil)))))))))))))))) (by kernel_rfl) ?_
    obtain ⟨r12, hr12, h⟩ := bind_some h
    refine rr [(0, .u (.c (storeC r12))), (8, .u (.c (.pt true [.v (.int .i64 (if (v6.l.getD ((r9).toNat) zR).f < v7.f then (v6.l.getD ((r9).toNat) zR).f else v7.f)), .v (.int .i64 (i64.wrap (v7.o + 1)))])))] (cgt 2 [66, 67] (cot 3 (os_plain rfl rfl (c_call (AC.k (drop.ac (h := hr12))) ⟨_, Tryd.func47, rfl, by kernel_rfl⟩ rfl (hand_root (r := 0) (c := storeC v6) (by kernel_rfl) (by kernel_rfl) rfl (.rd (.copy (by kernel_rfl) rfl) .nil)) rfl (by kernel_rfl))) .nil)) ?_
    exact ⟨(r12, (⟨(if (v6.l.getD ((r9).toNat) zR).f < v7.f then (v6.l.getD ((r9).toNat) zR).f else v7.f), i64.wrap (v7.o + 1)⟩ : Blk)), h, of_weak (by kernel_rfl)⟩
  have h := cond_f hb h
  refine r_condF hb rfl ?_
  refine r_exit ?_
  refine r_seq ?_
  obtain ⟨r13, hr13, h⟩ := bind_some h
  refine rr [(0, .u (.c (storeC r13)))] (cgt 2 [69, 70] (cot 3 (os_plain rfl rfl (c_call (AC.k (putb.ac (h := hr13))) ⟨_, Tryd.func50, rfl, by kernel_rfl⟩ rfl (hand_root (r := 0) (c := storeC v6) (by kernel_rfl) (by kernel_rfl) rfl (.rd (.copy (by kernel_rfl) rfl) .nil)) rfl (by kernel_rfl))) .nil)) ?_
  refine r_seq ?_
  refine rr [(0, .u (.c (storeC r13))), (6, .u (.c (.err none)))] (cgt 1 [6] .nil) ?_
  refine r_ret ?_
  obtain rfl := Option.some.inj h
  exact ⟨.inr rfl, _, _, .cons (.copy rfl rfl rfl) .nil, rfl, outs_of ⟨⟨rfl, rfl⟩, trivial⟩⟩
end Go.Proofs.YtmjnenjeckeklaaDoor.V
