import Derived.Test.YtmjnenjeckeklaaDoorB2
namespace Go.Proofs.YtmjnenjeckeklaaDoor.V
open Go Go.RowKit Go.Proofs Go.Proofs.YtmjnenjeckeklaaDoor.Q Go.Proofs.YtmjnenjeckeklaaDoorW.PrintWords
set_option linter.unusedVariables false
set_option linter.unusedSimpArgs false
set_option maxRecDepth 100000
structure D4 where
  w : Int
  s : Int
  o : Int
  a : Int
def eD (x : D4) : List C := [.v (.int .i64 x.w), .v (.int .i64 x.s), .v (.int .i64 x.o), .v (.int .i64 x.a)]
abbrev zD : D4 := ⟨0, 0, 0, 0⟩
theorem sl45 : SliceT Tryd.prog 45 4 32 := slB_ok (by kernel_rfl)
theorem zero47 : ZeroT Tryd.prog 47 [.v (.int .i64 0), .v (.int .i64 0), .v (.int .i64 0), .v (.int .i64 0)] := zeroB_ok (vs := [(.int .i64 0), (.int .i64 0), (.int .i64 0), (.int .i64 0)]) (by kernel_rfl) (fun _ _ _ => .cons (F := []) (.v rfl) (.cons (F := []) (.v rfl) (.cons (F := []) (.v rfl) (.cons (F := []) (.v rfl) (.nil)))))
def ZoneApart.l4 (k : Nat) (a0 : Int) (a1 : List D4) (r1 : Bool) (r2 : Int) (r3 : Zon × (Option Int)) (v4 : Zon) (v5 : Int) (r8 : Int) (r12 : Int) (r13 : Int) (v14 : Zon) (v15 : List Int) (v16 : Bool) (v17 : Int) (r19 : Zon × Int) (r20 : Zon × Int × (Option Int)) (r22 : Zon × Bool) (v23 : Zon) (v24 : Bool) (v25 : Int) : Nat → Zon → Bool → Int → Option (Zon × Bool × Int)
  | 0, _, _, _ => none
  | n4 + 1, v33, v34, v35 => (bif decide (0 ≤ r13) then (bif decide (v35 < (IntKind.i64.wrap (1 * 2 ^ min (r13).toNat (IntKind.i64).bits))) then (bif v34 then (ZIsFree.f k v33 (IntKind.i64.wrap (v25 + v35))).bind fun (r39 : Zon × Bool) => ZoneApart.l4 k a0 a1 r1 r2 r3 v4 v5 r8 r12 r13 v14 v15 v16 v17 r19 r20 r22 v23 v24 v25 n4 r39.1 r39.2 (IntKind.i64.wrap (v35 + 1)) else some (v33, v34, v35)) else some (v33, v34, v35)) else none)
def ZoneApart.l5 (k : Nat) (a0 : Int) (a1 : List D4) (r1 : Bool) (r2 : Int) (r3 : Zon × (Option Int)) (v4 : Zon) (v5 : Int) (r8 : Int) (r12 : Int) (r13 : Int) (v14 : Zon) (v15 : List Int) (v16 : Bool) (v17 : Int) (r19 : Zon × Int) (r20 : Zon × Int × (Option Int)) (r22 : Zon × Bool) (v23 : Zon) (v24 : Bool) (v25 : Int) : Nat → Zon → Bool → Int → Option (Zon × Bool × Int)
  | 0, _, _, _ => none
  | n5 + 1, v44, v45, v46 => (bif decide (0 ≤ r13) then (bif decide (v46 < (IntKind.i64.wrap (1 * 2 ^ min (r13).toNat (IntKind.i64).bits))) then (bif v45 then (ZIsFree.f k v44 (IntKind.i64.wrap (v25 + v46))).bind fun (r50 : Zon × Bool) => ZoneApart.l5 k a0 a1 r1 r2 r3 v4 v5 r8 r12 r13 v14 v15 v16 v17 r19 r20 r22 v23 v24 v25 n5 r50.1 r50.2 (IntKind.i64.wrap (v46 + 1)) else some (v44, v45, v46)) else some (v44, v45, v46)) else none)
def ZoneApart.l3 (k : Nat) (a0 : Int) (a1 : List D4) (r1 : Bool) (r2 : Int) (r3 : Zon × (Option Int)) (v4 : Zon) (v5 : Int) (r8 : Int) (r12 : Int) (r13 : Int) (v14 : Zon) (v15 : List Int) (v16 : Bool) (v17 : Int) (r19 : Zon × Int) (r20 : Zon × Int × (Option Int)) (r22 : Zon × Bool) : Nat → Zon → Bool → Int → Option (Zon × Bool × Int)
  | 0, _, _, _ => none
  | n3 + 1, v23, v24, v25 => (bif decide (v25 < (IntKind.i64.wrap ((IntKind.i64.wrap (v17 * 8)) + 8))) then (bif !r22.2 then (bif r20.2.1 == r12 then (bif decide (0 ≤ r13) then (bif decide ((IntKind.i64.wrap (1 * 2 ^ min (r13).toNat (IntKind.i64).bits)) ≠ 0) then (bif (v25.tmod (IntKind.i64.wrap (1 * 2 ^ min (r13).toNat (IntKind.i64).bits))) == 0 then (bif decide (0 ≤ r13) then (ZoneApart.l4 k a0 a1 r1 r2 r3 v4 v5 r8 r12 r13 v14 v15 v16 v17 r19 r20 r22 v23 v24 v25 k v23 (decide ((IntKind.i64.wrap (v25 + (IntKind.i64.wrap (1 * 2 ^ min (r13).toNat (IntKind.i64).bits)))) ≤ (IntKind.i64.wrap ((IntKind.i64.wrap (v17 * 8)) + 8)))) 0).bind fun (y36 : Zon × Bool × Int) => (bif v24 then ZoneApart.l3 k a0 a1 r1 r2 r3 v4 v5 r8 r12 r13 v14 v15 v16 v17 r19 r20 r22 n3 y36.1 true (IntKind.i64.wrap (v25 + 1)) else ZoneApart.l3 k a0 a1 r1 r2 r3 v4 v5 r8 r12 r13 v14 v15 v16 v17 r19 r20 r22 n3 y36.1 y36.2.1 (IntKind.i64.wrap (v25 + 1))) else none) else (ZoneApart.l5 k a0 a1 r1 r2 r3 v4 v5 r8 r12 r13 v14 v15 v16 v17 r19 r20 r22 v23 v24 v25 k v23 false 0).bind fun (y47 : Zon × Bool × Int) => (bif v24 then ZoneApart.l3 k a0 a1 r1 r2 r3 v4 v5 r8 r12 r13 v14 v15 v16 v17 r19 r20 r22 n3 y47.1 true (IntKind.i64.wrap (v25 + 1)) else ZoneApart.l3 k a0 a1 r1 r2 r3 v4 v5 r8 r12 r13 v14 v15 v16 v17 r19 r20 r22 n3 y47.1 y47.2.1 (IntKind.i64.wrap (v25 + 1)))) else none) else none) else some (v23, v24, v25)) else some (v23, v24, v25)) else some (v23, v24, v25))
def ZoneApart.l6 (k : Nat) (a0 : Int) (a1 : List D4) (r1 : Bool) (r2 : Int) (r3 : Zon × (Option Int)) (v4 : Zon) (v5 : Int) (r8 : Int) (r12 : Int) (r13 : Int) (y18v : Zon × (List Int) × Bool × Int) (r56 : Zon × Int × (Option Int)) (r59 : Zon × Int × (Option Int)) (r62 : Zon × Bool) : Nat → Zon → Int → Option (Sum (Zon × Int) (Bool))
  | 0, _, _ => none
  | n6 + 1, v69, v70 => (bif decide (v70 < (y18v.2.1.length : Int)) then (ZSort.f k v69 v70).bind fun (r72 : Zon × Int × (Option Int)) => (bif !(r72.2.2 == none) then some (Sum.inr false) else (bif v70 != (IntKind.i64.wrap (r56.2.1.tdiv 8)) then (bif decide (0 ≤ v70) && decide (v70 < (y18v.2.1.length : Int)) then (bif r72.2.1 != (y18v.2.1.getD ((v70).toNat) (0 : Int)) then some (Sum.inr false) else ZoneApart.l6 k a0 a1 r1 r2 r3 v4 v5 r8 r12 r13 y18v r56 r59 r62 n6 r72.1 (IntKind.i64.wrap (v70 + 1))) else none) else ZoneApart.l6 k a0 a1 r1 r2 r3 v4 v5 r8 r12 r13 y18v r56 r59 r62 n6 r72.1 (IntKind.i64.wrap (v70 + 1)))) else some (Sum.inl (v69, v70)))
def ZoneApart.l7 (k : Nat) (a0 : Int) (a1 : List D4) (r1 : Bool) (r2 : Int) (r3 : Zon × (Option Int)) (v4 : Zon) (v5 : Int) (r8 : Int) (r12 : Int) (r13 : Int) (y18v : Zon × (List Int) × Bool × Int) (r56 : Zon × Int × (Option Int)) (r59 : Zon × Int × (Option Int)) (r62 : Zon × Bool) : Nat → Zon → Int → Option (Sum (Zon × Int) (Bool))
  | 0, _, _ => none
  | n7 + 1, v79, v80 => (bif decide (v80 < (y18v.2.1.length : Int)) then (ZSort.f k v79 v80).bind fun (r82 : Zon × Int × (Option Int)) => (bif !(r82.2.2 == none) then some (Sum.inr false) else (bif v80 != (IntKind.i64.wrap (r56.2.1.tdiv 8)) then (bif decide (0 ≤ v80) && decide (v80 < (y18v.2.1.length : Int)) then (bif r82.2.1 != (y18v.2.1.getD ((v80).toNat) (0 : Int)) then some (Sum.inr false) else ZoneApart.l7 k a0 a1 r1 r2 r3 v4 v5 r8 r12 r13 y18v r56 r59 r62 n7 r82.1 (IntKind.i64.wrap (v80 + 1))) else none) else ZoneApart.l7 k a0 a1 r1 r2 r3 v4 v5 r8 r12 r13 y18v r56 r59 r62 n7 r82.1 (IntKind.i64.wrap (v80 + 1)))) else some (Sum.inl (v79, v80)))
def ZoneApart.l2 (k : Nat) (a0 : Int) (a1 : List D4) (r1 : Bool) (r2 : Int) (r3 : Zon × (Option Int)) (v4 : Zon) (v5 : Int) (r8 : Int) (r12 : Int) (r13 : Int) : Nat → Zon → (List Int) → Bool → Int → Option (Sum (Zon × (List Int) × Bool × Int) (Bool))
  | 0, _, _, _, _ => none
  | n2 + 1, v14, v15, v16, v17 => (ZGroups.f k v14).bind fun (r19 : Zon × Int) => (bif decide (v17 < r19.2) then (ZSort.f k r19.1 v17).bind fun (r20 : Zon × Int × (Option Int)) => (bif !(r20.2.2 == none) then some (Sum.inr false) else (bif decide (v15.length + [r20.2.1].length ≤ 1000000) then (ZClosed.f k r20.1 v17).bind fun (r22 : Zon × Bool) => (ZoneApart.l3 k a0 a1 r1 r2 r3 v4 v5 r8 r12 r13 v14 v15 v16 v17 r19 r20 r22 k r22.1 v16 (IntKind.i64.wrap (v17 * 8))).bind fun (y26 : Zon × Bool × Int) => ZoneApart.l2 k a0 a1 r1 r2 r3 v4 v5 r8 r12 r13 n2 y26.1 (v15 ++ [r20.2.1]) y26.2.1 (IntKind.i64.wrap (v17 + 1)) else none)) else some (Sum.inl (r19.1, v15, v16, v17)))
def ZoneApart.l1 (k : Nat) (a0 : Int) (a1 : List D4) (r1 : Bool) (r2 : Int) (r3 : Zon × (Option Int)) : Nat → Zon → Int → Option (Bool)
  | 0, _, _ => none
  | n1 + 1, v4, v5 => (bif decide (v5 < (a1.length : Int)) then (bif decide (v5 < 60) then (bif decide (0 ≤ v5) && decide (v5 < (a1.length : Int)) then (paviorlaw08_pick.f ((a1.getD v5.toNat zD).w) 4).bind fun (r8 : Int) => (bif r8 == 0 then (ZClosed.f k v4 ((a1.getD v5.toNat zD).a)).bind fun (r9 : Zon × Bool) => (bif r9.2 then (ZOpen.f k r9.1 ((a1.getD v5.toNat zD).a)).bind fun (r10 : Zon × (Option Int)) => ZoneApart.l1 k a0 a1 r1 r2 r3 n1 r10.1 (IntKind.i64.wrap (v5 + 1)) else (ZClose.f k r9.1 ((a1.getD v5.toNat zD).a)).bind fun (r11 : Zon × (Option Int)) => ZoneApart.l1 k a0 a1 r1 r2 r3 n1 r11.1 (IntKind.i64.wrap (v5 + 1))) else (paviorlaw08_pick.f ((a1.getD v5.toNat zD).s) 2).bind fun (r12 : Int) => (paviorlaw08_pick.f ((a1.getD v5.toNat zD).o) 4).bind fun (r13 : Int) => (ZoneApart.l2 k a0 a1 r1 r2 r3 v4 v5 r8 r12 r13 k v4 [] false 0).bind fun (y18 : Sum (Zon × (List Int) × Bool × Int) (Bool)) => Sum.elim (fun (y18v : Zon × (List Int) × Bool × Int) => (ZTake.f k y18v.1 r12 r13).bind fun (r56 : Zon × Int × (Option Int)) => (bif !(r56.2.2 == none) then (bif y18v.2.2.1 then some false else ZoneApart.l1 k a0 a1 r1 r2 r3 n1 r56.1 (IntKind.i64.wrap (v5 + 1))) else (bif decide (r56.2.1 < 0) then some false else (bif decide ((IntKind.i64.wrap (r56.2.1.tdiv 8)) ≥ (y18v.2.1.length : Int)) then some false else (ZSort.f k r56.1 (IntKind.i64.wrap (r56.2.1.tdiv 8))).bind fun (r59 : Zon × Int × (Option Int)) => (bif !(r59.2.2 == none) then some false else (ZClosed.f k r59.1 (IntKind.i64.wrap (r56.2.1.tdiv 8))).bind fun (r62 : Zon × Bool) => (bif r62.2 then some false else (bif y18v.2.2.1 then (bif decide (0 ≤ (IntKind.i64.wrap (r56.2.1.tdiv 8))) && decide ((IntKind.i64.wrap (r56.2.1.tdiv 8)) < (y18v.2.1.length : Int)) then (bif (y18v.2.1.getD (((IntKind.i64.wrap (r56.2.1.tdiv 8))).toNat) (0 : Int)) != r12 then some false else (bif r59.2.1 != r12 then some false else (ZoneApart.l6 k a0 a1 r1 r2 r3 v4 v5 r8 r12 r13 y18v r56 r59 r62 k r62.1 0).bind fun (y71 : Sum (Zon × Int) (Bool)) => Sum.elim (fun (y71v : Zon × Int) => ZoneApart.l1 k a0 a1 r1 r2 r3 n1 y71v.1 (IntKind.i64.wrap (v5 + 1))) some y71)) else none) else (bif r59.2.1 != r12 then some false else (ZoneApart.l7 k a0 a1 r1 r2 r3 v4 v5 r8 r12 r13 y18v r56 r59 r62 k r62.1 0).bind fun (y81 : Sum (Zon × Int) (Bool)) => Sum.elim (fun (y81v : Zon × Int) => ZoneApart.l1 k a0 a1 r1 r2 r3 n1 y81v.1 (IntKind.i64.wrap (v5 + 1))) some y81)))))))) some y18) else none) else some r1) else some r1)
set_option maxHeartbeats 4000000 in
def ZoneApart.f (k : Nat) (a0 : Int) (a1 : List D4) : Option (Bool) :=
  (up.f k).bind fun (r1 : Bool) => (paviorlaw08_pick.f a0 70).bind fun (r2 : Int) => (ZNew.f k (IntKind.i64.wrap (1 + r2))).bind fun (r3 : Zon × (Option Int)) => (bif !(r3.2 == none) then some false else ZoneApart.l1 k a0 a1 r1 r2 r3 k r3.1 0)
set_option maxHeartbeats 4000000 in
theorem ZoneApart.ac (k : Nat) (a0 : Int) (a1 : List D4) (r : Bool) (h : ZoneApart.f k a0 a1 = some r) : ACD Tryd.prog 28 5 [.c (.v (.int .i64 a0)), .c (.sl false 4 (a1.map eD))] [none, none] [.c (.v (.bool r))] := by
  unfold ZoneApart.f at h
  refine act_intro (fn := Tryd.f5) (pins := []) (rts := [4]) Tryd.func5 rfl Tryd.ntmps5 rfl (Nat.le_of_ble_eq_true rfl) (pins_lt rfl) rfl (fun w R E vs hT => ?_)
  refine r_weak (of_weak (l := [(0, .u (.c (.v (.int .i64 a0)))), (1, .u (.c (.sl false 4 (a1.map eD))))]) (by kernel_rfl)) ?_
  refine r_seq ?_
  refine r_reg (l := [(0, .u (.c (.v (.int .i64 a0)))), (1, .u (.c (.sl false 4 (a1.map eD))))]) (cg_then (ds := [4]) 1 rfl (by kernel_rfl) (.nil)) rfl (by kernel_rfl) ?_
  refine r_seq ?_
  obtain ⟨r1, hr1, h⟩ := bind_some h
  refine r_reg (l := [(0, .u (.c (.v (.int .i64 a0)))), (1, .u (.c (.sl false 4 (a1.map eD)))), (5, .u (.c (.v (.bool r1))))]) (co_then 1 rfl (os_plain rfl rfl (c_callQ (ACT.k hT (up.ac (h := hr1))) ⟨_, Tryd.func8, rfl, by kernel_rfl⟩ rfl (.nil) (by kernel_rfl))) (cg_then (ds := [5]) 2 rfl (by kernel_rfl) (.nil))) rfl (by kernel_rfl) ?_
  refine r_seq ?_
  obtain ⟨r2, hr2, h⟩ := bind_some h
  refine r_reg (l := [(0, .u (.c (.v (.int .i64 (IntKind.i64.wrap (1 + r2)))))), (1, .u (.c (.sl false 4 (a1.map eD)))), (5, .u (.c (.v (.bool r1))))]) (cg_then (ds := [29]) 1 rfl (by kernel_rfl) (co_then 2 rfl (os_plain rfl rfl (c_callQ (AC.k (paviorlaw08_pick.ac (h := hr2))) ⟨_, Tryd.func12, rfl, by kernel_rfl⟩ rfl (.cons (.copy (by kernel_rfl) rfl) (.cons (.copy (by kernel_rfl) rfl) (.nil))) (by kernel_rfl))) (cg_then (ds := [31, 0]) 4 rfl (by kernel_rfl) (.nil)))) rfl (by kernel_rfl) ?_
  refine r_seq ?_
  obtain ⟨r3, hr3, h⟩ := bind_some h
  refine r_reg (l := [(1, .u (.c (.sl false 4 (a1.map eD)))), (5, .u (.c (.v (.bool r1)))), (6, .u (.c (zoneC r3.1))), (7, .u (.c (.err r3.2)))]) (cg_then (ds := [33]) 1 rfl (by kernel_rfl) (co_then 2 rfl (os_plain rfl rfl (c_callQ (ACT.k hT (ZNew.ac (h := hr3))) ⟨_, Tryd.func9, rfl, by kernel_rfl⟩ rfl (.cons (.copy (by kernel_rfl) rfl) (.nil)) (by kernel_rfl))) (co_then 3 rfl (os_plain rfl rfl (s_moveT (us := [.c (zoneC r3.1), .c (.err r3.2)]) (.inl rfl) (by kernel_rfl) rfl (by kernel_rfl))) (co_then 4 rfl (os_plain rfl rfl (s_xmove (us := [.c (zoneC r3.1), .c (.err r3.2)]) rfl (by kernel_rfl) rfl rfl (by kernel_rfl))) (cg_then (ds := [36]) 5 rfl (by kernel_rfl) (co_then 6 rfl (os_plain rfl rfl (s_take (u := .c (zoneC r3.1)) (.inr rfl) (.move (by kernel_rfl) rfl) rfl (by kernel_rfl))) (cg_then (ds := [7]) 7 rfl (by kernel_rfl) (.nil)))))))) rfl (by kernel_rfl) ?_
  refine r_seq ?_
  refine r_seq ?_
  refine r_reg (l := [(1, .u (.c (.sl false 4 (a1.map eD)))), (5, .u (.c (.v (.bool r1)))), (6, .u (.c (zoneC r3.1))), (42, .u (.c (.v (.bool (!(r3.2 == none))))))]) (cg_then (ds := [37, 38, 39, 40, 41, 42]) 6 rfl (by kernel_rfl) (.nil)) rfl (by kernel_rfl) ?_
  rcases Bool.eq_false_or_eq_true (!(r3.2 == none)) with hb | hb
  · have h := cond_t hb h
    refine r_condT hb rfl ?_
    refine r_seq ?_
    refine r_reg (l := [(4, .u (.c (.v (.bool false))))]) (cg_then (ds := [4]) 1 rfl (by kernel_rfl) (.nil)) rfl (by kernel_rfl) ?_
    refine r_ret ?_
    obtain rfl := Option.some.inj h
    exact ⟨.inr rfl, _, _, .cons (.copy rfl rfl rfl) (.nil), rfl, outs_of trivial⟩
  · have h := cond_f hb h
    refine r_condF hb rfl ?_
    refine r_skip ?_
    refine r_seq ?_
    refine r_seq ?_
    refine r_reg (l := [(1, .u (.c (.sl false 4 (a1.map eD)))), (5, .u (.c (.v (.bool r1)))), (6, .u (.c (zoneC r3.1))), (8, .u (.c (.v (.int .i64 0))))]) (cg_then (ds := [8]) 1 rfl (by kernel_rfl) (.nil)) rfl (by kernel_rfl) ?_
    refine r_block ?_
    refine r_weak (of_weak (l := [(1, .u (.c (.sl false 4 (a1.map eD)))), (5, .u (.c (.v (.bool r1)))), (6, .u (.c (zoneC r3.1))), (8, .u (.c (.v (.int .i64 0))))]) (by kernel_rfl)) ?_
    refine r_loopI (α := Zon × Int) (fun x => [(1, .u (.c (.sl false 4 (a1.map eD)))), (5, .u (.c (.v (.bool r1)))), (6, .u (.c (zoneC x.1))), (8, .u (.c (.v (.int .i64 x.2))))]) (fun n x => ZoneApart.l1 k a0 a1 r1 r2 r3 n x.1 x.2 = some r) k (r3.1, 0) h (by intro x h; unfold ZoneApart.l1 at h; cases h) ?_
    rintro n1 ⟨v4, v5⟩ h
    replace h : ZoneApart.l1 k a0 a1 r1 r2 r3 (n1 + 1) v4 v5 = some r := h
    unfold ZoneApart.l1 at h
    show Run _ _ _ (St.of [(1, .u (.c (.sl false 4 (a1.map eD)))), (5, .u (.c (.v (.bool r1)))), (6, .u (.c (zoneC v4))), (8, .u (.c (.v (.int .i64 v5))))]) _
    refine r_seq ?_
    refine r_seq ?_
    rcases Bool.eq_false_or_eq_true (decide (v5 < (a1.length : Int))) with hb | hb
    · have h := cond_t hb h
      have hs6 := hb
      refine r_reg (l := [(1, .u (.c (.sl false 4 (a1.map eD)))), (5, .u (.c (.v (.bool r1)))), (6, .u (.c (zoneC v4))), (8, .u (.c (.v (.int .i64 v5)))), (50, .u (.c (.v (.bool (decide (v5 < 60))))))]) (cg_then (ds := [43, 44]) 2 rfl (by kernel_rfl) (co_then 3 rfl (os_to (os_plain rfl rfl (s_lenU (own := false) (sz := 4) (rows := (a1.map eD)) rfl sl45 (by kernel_rfl) rfl (by kernel_rfl))) (t' := .u (.c (.v (.int .i64 (a1.length : Int))))) (by rw [List.length_map])) (cg_then (ds := [46]) 4 rfl (by kernel_rfl) (co_then 5 rfl (os_ge (d := 47) (t := .u (.c (.v (.bool (decide (v5 < (a1.length : Int))))))) (t' := .u (.c (.v (.bool true)))) (by kernel_rfl) (by rw [hs6])) (cg_then (ds := [48, 49, 50]) 8 rfl (by kernel_rfl) (.nil)))))) rfl (by kernel_rfl) ?_
      rcases Bool.eq_false_or_eq_true (decide (v5 < 60)) with hb | hb
      · have h := cond_t hb h
        refine r_condT hb rfl ?_
        refine r_skip ?_
        refine r_seq ?_
        refine r_block ?_
        refine r_seq ?_
        obtain ⟨hg7, h⟩ := guard_some h
        simp only [Bool.and_eq_true, decide_eq_true_eq] at hg7
        refine r_reg (l := [(1, .u (.c (.sl false 4 (a1.map eD)))), (5, .u (.c (.v (.bool r1)))), (6, .u (.c (zoneC v4))), (8, .u (.c (.v (.int .i64 v5)))), (9, .u (.c (.pt true [.v (.int .i64 ((a1.getD v5.toNat zD).w)), .v (.int .i64 ((a1.getD v5.toNat zD).s)), .v (.int .i64 ((a1.getD v5.toNat zD).o)), .v (.int .i64 ((a1.getD v5.toNat zD).a))])))]) (cg_then (ds := [53, 54]) 2 rfl (by kernel_rfl) (co_then 3 rfl (os_plain rfl rfl (s_indexU (own := false) (sz := 4) (rows := (a1.map eD)) (e := v5) (ik := .i64) rfl sl45 (by kernel_rfl) (.tmp (by kernel_rfl)) hg7.1 (by rw [List.length_map]; exact hg7.2) rfl (by kernel_rfl) (by kernel_rfl))) (co_then 4 rfl (os_plain rfl rfl (s_loadA (n := 4) (xs := [.v (.int .i64 ((a1.getD v5.toNat zD).w)), .v (.int .i64 ((a1.getD v5.toNat zD).s)), .v (.int .i64 ((a1.getD v5.toNat zD).o)), .v (.int .i64 ((a1.getD v5.toNat zD).a))]) (r := 53) (off := 0) (s := .i v5.toNat 4) (p := []) (c := .sl false 4 (a1.map eD)) (cs := eD (a1.getD v5.toNat zD)) rfl (aggB_ok (by kernel_rfl)) (by kernel_rfl) (by kernel_rfl) (getP_map zD (by have := hg7; omega)) rfl rfl rfl rfl (by kernel_rfl))) (co_then 5 rfl (os_plain rfl rfl (s_alloc rfl zero47 rfl (by kernel_rfl))) (co_then 6 rfl (os_plain rfl rfl (s_storeS (n := 4) (r := 9) (off := 0) (s := .d) (p := []) (c := .pt true [.v (.int .i64 0), .v (.int .i64 0), .v (.int .i64 0), .v (.int .i64 0)]) (cs := [.v (.int .i64 0), .v (.int .i64 0), .v (.int .i64 0), .v (.int .i64 0)]) (u := .agg [.v (.int .i64 ((a1.getD v5.toNat zD).w)), .v (.int .i64 ((a1.getD v5.toNat zD).s)), .v (.int .i64 ((a1.getD v5.toNat zD).o)), .v (.int .i64 ((a1.getD v5.toNat zD).a))]) rfl (by kernel_rfl) (by kernel_rfl) (by kernel_rfl) rfl (by kernel_rfl) rfl rfl rfl rfl (Nat.le_of_ble_eq_true rfl) (by kernel_rfl) (by kernel_rfl) rfl rfl)) (.nil)))))) rfl (by kernel_rfl) ?_
        refine r_seq ?_
        refine r_seq ?_
        obtain ⟨r8, hr8, h⟩ := bind_some h
        refine r_reg (l := [(1, .u (.c (.sl false 4 (a1.map eD)))), (5, .u (.c (.v (.bool r1)))), (6, .u (.c (zoneC v4))), (8, .u (.c (.v (.int .i64 v5)))), (9, .u (.c (.pt true [.v (.int .i64 ((a1.getD v5.toNat zD).w)), .v (.int .i64 ((a1.getD v5.toNat zD).s)), .v (.int .i64 ((a1.getD v5.toNat zD).o)), .v (.int .i64 ((a1.getD v5.toNat zD).a))]))), (60, .u (.c (.v (.bool (r8 == 0)))))]) (cg_then (ds := [57, 58]) 2 rfl (by kernel_rfl) (co_then 3 rfl (os_plain rfl rfl (c_callQ (AC.k (paviorlaw08_pick.ac (h := hr8))) ⟨_, Tryd.func12, rfl, by kernel_rfl⟩ rfl (.cons (.copy (by kernel_rfl) rfl) (.cons (.copy (by kernel_rfl) rfl) (.nil))) (by kernel_rfl))) (cg_then (ds := [60]) 4 rfl (by kernel_rfl) (.nil)))) rfl (by kernel_rfl) ?_
        rcases Bool.eq_false_or_eq_true (r8 == 0) with hb | hb
        · have h := cond_t hb h
          refine r_condT hb rfl ?_
          refine r_seq ?_
          refine r_seq ?_
          obtain ⟨r9, hr9, h⟩ := bind_some h
          refine r_reg (l := [(1, .u (.c (.sl false 4 (a1.map eD)))), (5, .u (.c (.v (.bool r1)))), (6, .u (.c (zoneC r9.1))), (8, .u (.c (.v (.int .i64 v5)))), (9, .u (.c (.pt true [.v (.int .i64 ((a1.getD v5.toNat zD).w)), .v (.int .i64 ((a1.getD v5.toNat zD).s)), .v (.int .i64 ((a1.getD v5.toNat zD).o)), .v (.int .i64 ((a1.getD v5.toNat zD).a))]))), (64, .u (.c (.v (.bool r9.2))))]) (cg_then (ds := [61, 62, 63]) 3 rfl (by kernel_rfl) (co_then 4 rfl (os_plain rfl rfl (c_call (AC.k (ZClosed.ac (h := hr9))) ⟨_, Tryd.func18, rfl, by kernel_rfl⟩ rfl (hand_root (r := 6) (c := zoneC v4) (by kernel_rfl) (by kernel_rfl) rfl (.rd (.copy (by kernel_rfl) rfl) (.nil))) rfl (by kernel_rfl))) (.nil))) rfl (by kernel_rfl) ?_
          rcases Bool.eq_false_or_eq_true (r9.2) with hb | hb
          · have h := cond_t hb h
            refine r_condT hb rfl ?_
            obtain ⟨r10, hr10, h⟩ := bind_some h
            refine r_reg (l := [(1, .u (.c (.sl false 4 (a1.map eD)))), (5, .u (.c (.v (.bool r1)))), (6, .u (.c (zoneC r10.1))), (8, .u (.c (.v (.int .i64 v5))))]) (cg_then (ds := [65, 66, 67]) 3 rfl (by kernel_rfl) (co_then 4 rfl (os_plain rfl rfl (c_call (AC.k (ZOpen.ac (h := hr10))) ⟨_, Tryd.func20, rfl, by kernel_rfl⟩ rfl (hand_root (r := 6) (c := zoneC r9.1) (by kernel_rfl) (by kernel_rfl) rfl (.rd (.copy (by kernel_rfl) rfl) (.nil))) rfl (by kernel_rfl))) (.nil))) rfl (by kernel_rfl) ?_
            refine r_exit ?_
            refine r_reg (l := [(1, .u (.c (.sl false 4 (a1.map eD)))), (5, .u (.c (.v (.bool r1)))), (6, .u (.c (zoneC r10.1))), (8, .u (.c (.v (.int .i64 (IntKind.i64.wrap (v5 + 1))))))]) (cg_then (ds := [51, 52, 8]) 3 rfl (by kernel_rfl) (.nil)) rfl (by kernel_rfl) ?_
            exact ⟨(r10.1, IntKind.i64.wrap (v5 + 1)), h, of_weak (by kernel_rfl)⟩
          · have h := cond_f hb h
            refine r_condF hb rfl ?_
            obtain ⟨r11, hr11, h⟩ := bind_some h
            refine r_reg (l := [(1, .u (.c (.sl false 4 (a1.map eD)))), (5, .u (.c (.v (.bool r1)))), (6, .u (.c (zoneC r11.1))), (8, .u (.c (.v (.int .i64 v5))))]) (cg_then (ds := [69, 70, 71]) 3 rfl (by kernel_rfl) (co_then 4 rfl (os_plain rfl rfl (c_call (AC.k (ZClose.ac (h := hr11))) ⟨_, Tryd.func17, rfl, by kernel_rfl⟩ rfl (hand_root (r := 6) (c := zoneC r9.1) (by kernel_rfl) (by kernel_rfl) rfl (.rd (.copy (by kernel_rfl) rfl) (.nil))) rfl (by kernel_rfl))) (.nil))) rfl (by kernel_rfl) ?_
            refine r_exit ?_
            refine r_reg (l := [(1, .u (.c (.sl false 4 (a1.map eD)))), (5, .u (.c (.v (.bool r1)))), (6, .u (.c (zoneC r11.1))), (8, .u (.c (.v (.int .i64 (IntKind.i64.wrap (v5 + 1))))))]) (cg_then (ds := [51, 52, 8]) 3 rfl (by kernel_rfl) (.nil)) rfl (by kernel_rfl) ?_
            exact ⟨(r11.1, IntKind.i64.wrap (v5 + 1)), h, of_weak (by kernel_rfl)⟩
        · have h := cond_f hb h
          refine r_condF hb rfl ?_
          refine r_skip ?_
          refine r_seq ?_
          obtain ⟨r12, hr12, h⟩ := bind_some h
          refine r_reg (l := [(1, .u (.c (.sl false 4 (a1.map eD)))), (5, .u (.c (.v (.bool r1)))), (6, .u (.c (zoneC v4))), (8, .u (.c (.v (.int .i64 v5)))), (9, .u (.c (.pt true [.v (.int .i64 ((a1.getD v5.toNat zD).w)), .v (.int .i64 ((a1.getD v5.toNat zD).s)), .v (.int .i64 ((a1.getD v5.toNat zD).o)), .v (.int .i64 ((a1.getD v5.toNat zD).a))]))), (10, .u (.c (.v (.int .i64 r12))))]) (cg_then (ds := [73, 74]) 2 rfl (by kernel_rfl) (co_then 3 rfl (os_plain rfl rfl (c_callQ (AC.k (paviorlaw08_pick.ac (h := hr12))) ⟨_, Tryd.func12, rfl, by kernel_rfl⟩ rfl (.cons (.copy (by kernel_rfl) rfl) (.cons (.copy (by kernel_rfl) rfl) (.nil))) (by kernel_rfl))) (cg_then (ds := [10]) 4 rfl (by kernel_rfl) (.nil)))) rfl (by kernel_rfl) ?_
          refine r_seq ?_
          obtain ⟨r13, hr13, h⟩ := bind_some h
          refine r_reg (l := [(1, .u (.c (.sl false 4 (a1.map eD)))), (5, .u (.c (.v (.bool r1)))), (6, .u (.c (zoneC v4))), (8, .u (.c (.v (.int .i64 v5)))), (10, .u (.c (.v (.int .i64 r12)))), (11, .u (.c (.v (.int .i64 r13))))]) (cg_then (ds := [76, 77]) 2 rfl (by kernel_rfl) (co_then 3 rfl (os_plain rfl rfl (c_callQ (AC.k (paviorlaw08_pick.ac (h := hr13))) ⟨_, Tryd.func12, rfl, by kernel_rfl⟩ rfl (.cons (.copy (by kernel_rfl) rfl) (.cons (.copy (by kernel_rfl) rfl) (.nil))) (by kernel_rfl))) (cg_then (ds := [11]) 4 rfl (by kernel_rfl) (.nil)))) rfl (by kernel_rfl) ?_
          refine r_seq ?_
          refine r_reg (l := [(1, .u (.c (.sl false 4 (a1.map eD)))), (5, .u (.c (.v (.bool r1)))), (6, .u (.c (zoneC v4))), (8, .u (.c (.v (.int .i64 v5)))), (10, .u (.c (.v (.int .i64 r12)))), (11, .u (.c (.v (.int .i64 r13)))), (12, .u (.c (.sl true 1 ([].map eI))))]) (co_then 1 rfl (os_plain rfl rfl (s_take (.inr rfl) (.sl 1) rfl (by kernel_rfl))) (.nil)) rfl (by kernel_rfl) ?_
          refine r_seq ?_
          refine r_reg (l := [(1, .u (.c (.sl false 4 (a1.map eD)))), (5, .u (.c (.v (.bool r1)))), (6, .u (.c (zoneC v4))), (8, .u (.c (.v (.int .i64 v5)))), (10, .u (.c (.v (.int .i64 r12)))), (11, .u (.c (.v (.int .i64 r13)))), (12, .u (.c (.sl true 1 ([].map eI)))), (13, .u (.c (.v (.bool false))))]) (cg_then (ds := [13]) 1 rfl (by kernel_rfl) (.nil)) rfl (by kernel_rfl) ?_
          refine r_seq ?_
          refine r_seq ?_
          refine r_reg (l := [(1, .u (.c (.sl false 4 (a1.map eD)))), (5, .u (.c (.v (.bool r1)))), (6, .u (.c (zoneC v4))), (8, .u (.c (.v (.int .i64 v5)))), (10, .u (.c (.v (.int .i64 r12)))), (11, .u (.c (.v (.int .i64 r13)))), (12, .u (.c (.sl true 1 ([].map eI)))), (13, .u (.c (.v (.bool false)))), (14, .u (.c (.v (.int .i64 0))))]) (cg_then (ds := [14]) 1 rfl (by kernel_rfl) (.nil)) rfl (by kernel_rfl) ?_
          refine r_block ?_
          refine r_weak (of_weak (l := [(1, .u (.c (.sl false 4 (a1.map eD)))), (5, .u (.c (.v (.bool r1)))), (6, .u (.c (zoneC v4))), (8, .u (.c (.v (.int .i64 v5)))), (10, .u (.c (.v (.int .i64 r12)))), (11, .u (.c (.v (.int .i64 r13)))), (12, .u (.c (.sl true 1 ([].map eI)))), (13, .u (.c (.v (.bool false)))), (14, .u (.c (.v (.int .i64 0))))]) (by kernel_rfl)) ?_
          obtain ⟨y18, hy18, h_y18⟩ := bind_some h
          refine r_loopI (α := Zon × (List Int) × Bool × Int) (fun x => [(1, .u (.c (.sl false 4 (a1.map eD)))), (5, .u (.c (.v (.bool r1)))), (6, .u (.c (zoneC x.1))), (8, .u (.c (.v (.int .i64 v5)))), (10, .u (.c (.v (.int .i64 r12)))), (11, .u (.c (.v (.int .i64 r13)))), (12, .u (.c (.sl true 1 (x.2.1.map eI)))), (13, .u (.c (.v (.bool x.2.2.1)))), (14, .u (.c (.v (.int .i64 x.2.2.2))))]) (fun n x => ZoneApart.l2 k a0 a1 r1 r2 r3 v4 v5 r8 r12 r13 n x.1 x.2.1 x.2.2.1 x.2.2.2 = some y18) k (v4, [], false, 0) hy18 (by intro x h; unfold ZoneApart.l2 at h; cases h) ?_
          rintro n2 ⟨v14, v15, v16, v17⟩ h
          replace h : ZoneApart.l2 k a0 a1 r1 r2 r3 v4 v5 r8 r12 r13 (n2 + 1) v14 v15 v16 v17 = some y18 := h
          unfold ZoneApart.l2 at h
          show Run _ _ _ (St.of [(1, .u (.c (.sl false 4 (a1.map eD)))), (5, .u (.c (.v (.bool r1)))), (6, .u (.c (zoneC v14))), (8, .u (.c (.v (.int .i64 v5)))), (10, .u (.c (.v (.int .i64 r12)))), (11, .u (.c (.v (.int .i64 r13)))), (12, .u (.c (.sl true 1 (v15.map eI)))), (13, .u (.c (.v (.bool v16)))), (14, .u (.c (.v (.int .i64 v17))))]) _
          refine r_seq ?_
          refine r_seq ?_
          obtain ⟨r19, hr19, h⟩ := bind_some h
          refine r_reg (l := [(1, .u (.c (.sl false 4 (a1.map eD)))), (5, .u (.c (.v (.bool r1)))), (6, .u (.c (zoneC r19.1))), (8, .u (.c (.v (.int .i64 v5)))), (10, .u (.c (.v (.int .i64 r12)))), (11, .u (.c (.v (.int .i64 r13)))), (12, .u (.c (.sl true 1 (v15.map eI)))), (13, .u (.c (.v (.bool v16)))), (14, .u (.c (.v (.int .i64 v17)))), (82, .u (.c (.v (.bool (decide (v17 < r19.2))))))]) (cg_then (ds := [79, 80]) 2 rfl (by kernel_rfl) (co_then 3 rfl (os_plain rfl rfl (c_call (AC.k (ZGroups.ac (h := hr19))) ⟨_, Tryd.func16, rfl, by kernel_rfl⟩ rfl (hand_root (r := 6) (c := zoneC v14) (by kernel_rfl) (by kernel_rfl) rfl (.nil)) rfl (by kernel_rfl))) (cg_then (ds := [82]) 4 rfl (by kernel_rfl) (.nil)))) rfl (by kernel_rfl) ?_
          rcases Bool.eq_false_or_eq_true (decide (v17 < r19.2)) with hb | hb
          · have h := cond_t hb h
            refine r_condT hb rfl ?_
            refine r_skip ?_
            refine r_seq ?_
            refine r_block ?_
            refine r_seq ?_
            obtain ⟨r20, hr20, h⟩ := bind_some h
            refine r_reg (l := [(1, .u (.c (.sl false 4 (a1.map eD)))), (5, .u (.c (.v (.bool r1)))), (6, .u (.c (zoneC r20.1))), (8, .u (.c (.v (.int .i64 v5)))), (10, .u (.c (.v (.int .i64 r12)))), (11, .u (.c (.v (.int .i64 r13)))), (12, .u (.c (.sl true 1 (v15.map eI)))), (13, .u (.c (.v (.bool v16)))), (14, .u (.c (.v (.int .i64 v17)))), (15, .u (.c (.v (.int .i64 r20.2.1)))), (16, .u (.c (.err r20.2.2)))]) (cg_then (ds := [86, 87]) 2 rfl (by kernel_rfl) (co_then 3 rfl (os_plain rfl rfl (c_call (AC.k (ZSort.ac (h := hr20))) ⟨_, Tryd.func19, rfl, by kernel_rfl⟩ rfl (hand_root (r := 6) (c := zoneC r19.1) (by kernel_rfl) (by kernel_rfl) rfl (.rd (.copy (by kernel_rfl) rfl) (.nil))) rfl (by kernel_rfl))) (co_then 4 rfl (os_plain rfl rfl (s_moveT (us := [.c (.v (.int .i64 r20.2.1)), .c (.err r20.2.2)]) (.inl rfl) (by kernel_rfl) rfl (by kernel_rfl))) (cg_then (ds := [89, 90, 15, 16]) 8 rfl (by kernel_rfl) (.nil))))) rfl (by kernel_rfl) ?_
            refine r_seq ?_
            refine r_seq ?_
            refine r_reg (l := [(1, .u (.c (.sl false 4 (a1.map eD)))), (5, .u (.c (.v (.bool r1)))), (6, .u (.c (zoneC r20.1))), (8, .u (.c (.v (.int .i64 v5)))), (10, .u (.c (.v (.int .i64 r12)))), (11, .u (.c (.v (.int .i64 r13)))), (12, .u (.c (.sl true 1 (v15.map eI)))), (13, .u (.c (.v (.bool v16)))), (14, .u (.c (.v (.int .i64 v17)))), (15, .u (.c (.v (.int .i64 r20.2.1)))), (92, .u (.c (.v (.bool (!(r20.2.2 == none))))))]) (cg_then (ds := [91, 92]) 2 rfl (by kernel_rfl) (.nil)) rfl (by kernel_rfl) ?_
            rcases Bool.eq_false_or_eq_true (!(r20.2.2 == none)) with hb | hb
            · have h := cond_t hb h
              refine r_condT hb rfl ?_
              refine r_seq ?_
              refine r_reg (l := [(4, .u (.c (.v (.bool false))))]) (cg_then (ds := [4]) 1 rfl (by kernel_rfl) (.nil)) rfl (by kernel_rfl) ?_
              obtain rfl := Option.some.inj h
              have h : Option.some _ = Option.some r := h_y18
              refine r_ret ?_
              obtain rfl := Option.some.inj h
              exact ⟨.inr rfl, _, _, .cons (.copy rfl rfl rfl) (.nil), rfl, outs_of trivial⟩
            · have h := cond_f hb h
              refine r_condF hb rfl ?_
              refine r_skip ?_
              refine r_seq ?_
              obtain ⟨hg21, h⟩ := guard_some h
              simp only [decide_eq_true_eq] at hg21
              refine r_reg (l := [(1, .u (.c (.sl false 4 (a1.map eD)))), (5, .u (.c (.v (.bool r1)))), (6, .u (.c (zoneC r20.1))), (8, .u (.c (.v (.int .i64 v5)))), (10, .u (.c (.v (.int .i64 r12)))), (11, .u (.c (.v (.int .i64 r13)))), (12, .u (.c (.sl true 1 ((v15 ++ [r20.2.1]).map eI)))), (13, .u (.c (.v (.bool v16)))), (14, .u (.c (.v (.int .i64 v17)))), (15, .u (.c (.v (.int .i64 r20.2.1))))]) (co_then 1 rfl (os_plain rfl rfl (s_take (u := .c (.sl true 1 (v15.map eI))) (.inl rfl) (.move (by kernel_rfl) rfl) rfl (by kernel_rfl))) (cg_then (ds := [94]) 2 rfl (by kernel_rfl) (co_then 3 rfl (os_toG (os_plain rfl rfl (s_buildSlice (sz := 1) (len := 1) (us := [(0, .c (.v (.int .i64 r20.2.1)))]) (cs := [.v (.int .i64 r20.2.1)]) rfl sliceZ48 (.cons (.copy (by kernel_rfl) (by kernel_rfl) (by kernel_rfl)) (.nil)) (by kernel_rfl) (Nat.le_of_ble_eq_true rfl) rfl (by kernel_rfl))) (t' := .u (.c (.sl true 1 ([r20.2.1].map eI)))) (by kernel_rfl)) (co_then 4 rfl (os_toG (os_plain rfl rfl (s_appendM (i := 93) (sz := 1) (rows := v15.map eI) (rows2 := [r20.2.1].map eI) rfl sliceZ48 (by kernel_rfl) (.v0 (r := 95) (lo := 0) (n := ([r20.2.1].map eI).length) (own := true) (rows := [r20.2.1].map eI) (by kernel_rfl) (by kernel_rfl) rows_all) (copy_map eI_copy) (lenMap2 hg21) (Nat.le_of_ble_eq_true rfl) rfl (by kernel_rfl))) (t' := .u (.c (.sl true 1 ((v15 ++ [r20.2.1]).map eI)))) (by simp only [List.map_append])) (co_then 5 rfl (os_plain rfl rfl (s_take (u := .c (.sl true 1 ((v15 ++ [r20.2.1]).map eI))) (.inr rfl) (.move (by kernel_rfl) rfl) rfl (by kernel_rfl))) (.nil)))))) rfl (by kernel_rfl) ?_
              refine r_seq ?_
              obtain ⟨r22, hr22, h⟩ := bind_some h
              refine r_reg (l := [(1, .u (.c (.sl false 4 (a1.map eD)))), (5, .u (.c (.v (.bool r1)))), (6, .u (.c (zoneC r22.1))), (8, .u (.c (.v (.int .i64 v5)))), (10, .u (.c (.v (.int .i64 r12)))), (11, .u (.c (.v (.int .i64 r13)))), (12, .u (.c (.sl true 1 ((v15 ++ [r20.2.1]).map eI)))), (13, .u (.c (.v (.bool v16)))), (14, .u (.c (.v (.int .i64 v17)))), (15, .u (.c (.v (.int .i64 r20.2.1)))), (17, .u (.c (.v (.bool r22.2))))]) (cg_then (ds := [97, 98]) 2 rfl (by kernel_rfl) (co_then 3 rfl (os_plain rfl rfl (c_call (AC.k (ZClosed.ac (h := hr22))) ⟨_, Tryd.func18, rfl, by kernel_rfl⟩ rfl (hand_root (r := 6) (c := zoneC r20.1) (by kernel_rfl) (by kernel_rfl) rfl (.rd (.copy (by kernel_rfl) rfl) (.nil))) rfl (by kernel_rfl))) (cg_then (ds := [17]) 4 rfl (by kernel_rfl) (.nil)))) rfl (by kernel_rfl) ?_
              refine r_seq ?_
              refine r_reg (l := [(1, .u (.c (.sl false 4 (a1.map eD)))), (5, .u (.c (.v (.bool r1)))), (6, .u (.c (zoneC r22.1))), (8, .u (.c (.v (.int .i64 v5)))), (10, .u (.c (.v (.int .i64 r12)))), (11, .u (.c (.v (.int .i64 r13)))), (12, .u (.c (.sl true 1 ((v15 ++ [r20.2.1]).map eI)))), (13, .u (.c (.v (.bool v16)))), (14, .u (.c (.v (.int .i64 v17)))), (15, .u (.c (.v (.int .i64 r20.2.1)))), (17, .u (.c (.v (.bool r22.2)))), (18, .u (.c (.v (.int .i64 (IntKind.i64.wrap (v17 * 8))))))]) (cg_then (ds := [100, 101, 18]) 3 rfl (by kernel_rfl) (.nil)) rfl (by kernel_rfl) ?_
              refine r_block ?_
              refine r_weak (of_weak (l := [(1, .u (.c (.sl false 4 (a1.map eD)))), (5, .u (.c (.v (.bool r1)))), (6, .u (.c (zoneC r22.1))), (8, .u (.c (.v (.int .i64 v5)))), (10, .u (.c (.v (.int .i64 r12)))), (11, .u (.c (.v (.int .i64 r13)))), (12, .u (.c (.sl true 1 ((v15 ++ [r20.2.1]).map eI)))), (13, .u (.c (.v (.bool v16)))), (14, .u (.c (.v (.int .i64 v17)))), (15, .u (.c (.v (.int .i64 r20.2.1)))), (17, .u (.c (.v (.bool r22.2)))), (18, .u (.c (.v (.int .i64 (IntKind.i64.wrap (v17 * 8))))))]) (by kernel_rfl)) ?_
              obtain ⟨y26, hy26, h_y26⟩ := bind_some h
              refine r_loopI (α := Zon × Bool × Int) (fun x => [(1, .u (.c (.sl false 4 (a1.map eD)))), (5, .u (.c (.v (.bool r1)))), (6, .u (.c (zoneC x.1))), (8, .u (.c (.v (.int .i64 v5)))), (10, .u (.c (.v (.int .i64 r12)))), (11, .u (.c (.v (.int .i64 r13)))), (12, .u (.c (.sl true 1 ((v15 ++ [r20.2.1]).map eI)))), (13, .u (.c (.v (.bool x.2.1)))), (14, .u (.c (.v (.int .i64 v17)))), (15, .u (.c (.v (.int .i64 r20.2.1)))), (17, .u (.c (.v (.bool r22.2)))), (18, .u (.c (.v (.int .i64 x.2.2))))]) (fun n x => ZoneApart.l3 k a0 a1 r1 r2 r3 v4 v5 r8 r12 r13 v14 v15 v16 v17 r19 r20 r22 n x.1 x.2.1 x.2.2 = some y26) k (r22.1, v16, IntKind.i64.wrap (v17 * 8)) hy26 (by intro x h; unfold ZoneApart.l3 at h; cases h) ?_
              rintro n3 ⟨v23, v24, v25⟩ h
              replace h : ZoneApart.l3 k a0 a1 r1 r2 r3 v4 v5 r8 r12 r13 v14 v15 v16 v17 r19 r20 r22 (n3 + 1) v23 v24 v25 = some y26 := h
              unfold ZoneApart.l3 at h
              show Run _ _ _ (St.of [(1, .u (.c (.sl false 4 (a1.map eD)))), (5, .u (.c (.v (.bool r1)))), (6, .u (.c (zoneC v23))), (8, .u (.c (.v (.int .i64 v5)))), (10, .u (.c (.v (.int .i64 r12)))), (11, .u (.c (.v (.int .i64 r13)))), (12, .u (.c (.sl true 1 ((v15 ++ [r20.2.1]).map eI)))), (13, .u (.c (.v (.bool v24)))), (14, .u (.c (.v (.int .i64 v17)))), (15, .u (.c (.v (.int .i64 r20.2.1)))), (17, .u (.c (.v (.bool r22.2)))), (18, .u (.c (.v (.int .i64 v25))))]) _
              refine r_seq ?_
              refine r_seq ?_
              rcases Bool.eq_false_or_eq_true (decide (v25 < (IntKind.i64.wrap ((IntKind.i64.wrap (v17 * 8)) + 8)))) with hb | hb
              · have h := cond_t hb h
                have hs27 := hb
                rcases Bool.eq_false_or_eq_true (!r22.2) with hb | hb
                · have h := cond_t hb h
                  have hs28 := hb
                  refine r_reg (l := [(1, .u (.c (.sl false 4 (a1.map eD)))), (5, .u (.c (.v (.bool r1)))), (6, .u (.c (zoneC v23))), (8, .u (.c (.v (.int .i64 v5)))), (10, .u (.c (.v (.int .i64 r12)))), (11, .u (.c (.v (.int .i64 r13)))), (12, .u (.c (.sl true 1 ((v15 ++ [r20.2.1]).map eI)))), (13, .u (.c (.v (.bool v24)))), (14, .u (.c (.v (.int .i64 v17)))), (15, .u (.c (.v (.int .i64 r20.2.1)))), (17, .u (.c (.v (.bool r22.2)))), (18, .u (.c (.v (.int .i64 v25)))), (115, .u (.c (.v (.bool (r20.2.1 == r12)))))]) (cg_then (ds := [102, 103, 104, 105, 106]) 5 rfl (by kernel_rfl) (co_then 6 rfl (os_ge (d := 107) (t := .u (.c (.v (.bool (decide (v25 < (IntKind.i64.wrap ((IntKind.i64.wrap (v17 * 8)) + 8)))))))) (t' := .u (.c (.v (.bool true)))) (by kernel_rfl) (by rw [hs27])) (cg_then (ds := [108, 109, 110]) 9 rfl (by kernel_rfl) (co_then 10 rfl (os_ge (d := 111) (t := .u (.c (.v (.bool (!r22.2))))) (t' := .u (.c (.v (.bool true)))) (by kernel_rfl) (by rw [hs28])) (cg_then (ds := [112, 113, 114, 115]) 14 rfl (by kernel_rfl) (.nil)))))) rfl (by kernel_rfl) ?_
                  rcases Bool.eq_false_or_eq_true (r20.2.1 == r12) with hb | hb
                  · have h := cond_t hb h
                    refine r_condT hb rfl ?_
                    refine r_skip ?_
                    refine r_seq ?_
                    refine r_block ?_
                    refine r_seq ?_
                    obtain ⟨hg29, h⟩ := guard_some h
                    simp only [decide_eq_true_eq] at hg29
                    obtain ⟨hg30, h⟩ := guard_some h
                    simp only [decide_eq_true_eq] at hg30
                    rcases Bool.eq_false_or_eq_true ((v25.tmod (IntKind.i64.wrap (1 * 2 ^ min (r13).toNat (IntKind.i64).bits))) == 0) with hb | hb
                    · have h := cond_t hb h
                      have hs31 := hb
                      obtain ⟨hg32, h⟩ := guard_some h
                      simp only [decide_eq_true_eq] at hg32
                      refine r_reg (l := [(1, .u (.c (.sl false 4 (a1.map eD)))), (5, .u (.c (.v (.bool r1)))), (6, .u (.c (zoneC v23))), (8, .u (.c (.v (.int .i64 v5)))), (10, .u (.c (.v (.int .i64 r12)))), (11, .u (.c (.v (.int .i64 r13)))), (12, .u (.c (.sl true 1 ((v15 ++ [r20.2.1]).map eI)))), (13, .u (.c (.v (.bool v24)))), (14, .u (.c (.v (.int .i64 v17)))), (15, .u (.c (.v (.int .i64 r20.2.1)))), (17, .u (.c (.v (.bool r22.2)))), (18, .u (.c (.v (.int .i64 v25)))), (19, .u (.c (.v (.bool (decide ((IntKind.i64.wrap (v25 + (IntKind.i64.wrap (1 * 2 ^ min (r13).toNat (IntKind.i64).bits)))) ≤ (IntKind.i64.wrap ((IntKind.i64.wrap (v17 * 8)) + 8))))))))]) (cg_then (ds := [118, 119]) 2 rfl (by kernel_rfl) (co_then 3 rfl (os_to (os_plain rfl rfl (s_shift (op := .shl) (k := .i64) (p := 1) (q := r13) (yk := .i64) rfl (.inl rfl) (by kernel_rfl) (by kernel_rfl) hg29 rfl (by kernel_rfl))) (t' := .u (.c (.v (.int .i64 (IntKind.i64.wrap (1 * 2 ^ min (r13).toNat (IntKind.i64).bits)))))) (by kernel_rfl)) (co_then 4 rfl (os_to (os_plain rfl rfl (s_div (op := .rem) (k := .i64) (p := v25) (q := (IntKind.i64.wrap (1 * 2 ^ min (r13).toNat (IntKind.i64).bits))) rfl (.inr rfl) (by kernel_rfl) (by kernel_rfl) hg30 rfl (by kernel_rfl))) (t' := .u (.c (.v (.int .i64 (v25.tmod (IntKind.i64.wrap (1 * 2 ^ min (r13).toNat (IntKind.i64).bits))))))) (by kernel_rfl)) (cg_then (ds := [122]) 5 rfl (by kernel_rfl) (co_then 6 rfl (os_ge (d := 123) (t := .u (.c (.v (.bool ((v25.tmod (IntKind.i64.wrap (1 * 2 ^ min (r13).toNat (IntKind.i64).bits))) == 0))))) (t' := .u (.c (.v (.bool true)))) (by kernel_rfl) (by rw [hs31])) (cg_then (ds := [124, 125]) 8 rfl (by kernel_rfl) (co_then 9 rfl (os_to (os_gy rfl rfl rfl (by kernel_rfl) (s_shift (op := .shl) (k := .i64) (p := 1) (q := r13) (yk := .i64) rfl (.inl rfl) (by kernel_rfl) (by kernel_rfl) hg32 rfl (by kernel_rfl))) (t' := .u (.c (.v (.int .i64 (IntKind.i64.wrap (1 * 2 ^ min (r13).toNat (IntKind.i64).bits)))))) (by kernel_rfl)) (cg_then (ds := [127, 128, 129, 130, 131, 132, 19]) 16 rfl (by kernel_rfl) (.nil))))))))) rfl (by kernel_rfl) ?_
                      refine r_seq ?_
                      refine r_seq ?_
                      refine r_reg (l := [(1, .u (.c (.sl false 4 (a1.map eD)))), (5, .u (.c (.v (.bool r1)))), (6, .u (.c (zoneC v23))), (8, .u (.c (.v (.int .i64 v5)))), (10, .u (.c (.v (.int .i64 r12)))), (11, .u (.c (.v (.int .i64 r13)))), (12, .u (.c (.sl true 1 ((v15 ++ [r20.2.1]).map eI)))), (13, .u (.c (.v (.bool v24)))), (14, .u (.c (.v (.int .i64 v17)))), (15, .u (.c (.v (.int .i64 r20.2.1)))), (17, .u (.c (.v (.bool r22.2)))), (18, .u (.c (.v (.int .i64 v25)))), (19, .u (.c (.v (.bool (decide ((IntKind.i64.wrap (v25 + (IntKind.i64.wrap (1 * 2 ^ min (r13).toNat (IntKind.i64).bits)))) ≤ (IntKind.i64.wrap ((IntKind.i64.wrap (v17 * 8)) + 8)))))))), (20, .u (.c (.v (.int .i64 0))))]) (cg_then (ds := [20]) 1 rfl (by kernel_rfl) (.nil)) rfl (by kernel_rfl) ?_
                      refine r_block ?_
                      refine r_weak (of_weak (l := [(1, .u (.c (.sl false 4 (a1.map eD)))), (5, .u (.c (.v (.bool r1)))), (6, .u (.c (zoneC v23))), (8, .u (.c (.v (.int .i64 v5)))), (10, .u (.c (.v (.int .i64 r12)))), (11, .u (.c (.v (.int .i64 r13)))), (12, .u (.c (.sl true 1 ((v15 ++ [r20.2.1]).map eI)))), (13, .u (.c (.v (.bool v24)))), (14, .u (.c (.v (.int .i64 v17)))), (15, .u (.c (.v (.int .i64 r20.2.1)))), (17, .u (.c (.v (.bool r22.2)))), (18, .u (.c (.v (.int .i64 v25)))), (19, .u (.c (.v (.bool (decide ((IntKind.i64.wrap (v25 + (IntKind.i64.wrap (1 * 2 ^ min (r13).toNat (IntKind.i64).bits)))) ≤ (IntKind.i64.wrap ((IntKind.i64.wrap (v17 * 8)) + 8)))))))), (20, .u (.c (.v (.int .i64 0))))]) (by kernel_rfl)) ?_
                      obtain ⟨y36, hy36, h_y36⟩ := bind_some h
                      refine r_loopI (α := Zon × Bool × Int) (fun x => [(1, .u (.c (.sl false 4 (a1.map eD)))), (5, .u (.c (.v (.bool r1)))), (6, .u (.c (zoneC x.1))), (8, .u (.c (.v (.int .i64 v5)))), (10, .u (.c (.v (.int .i64 r12)))), (11, .u (.c (.v (.int .i64 r13)))), (12, .u (.c (.sl true 1 ((v15 ++ [r20.2.1]).map eI)))), (13, .u (.c (.v (.bool v24)))), (14, .u (.c (.v (.int .i64 v17)))), (15, .u (.c (.v (.int .i64 r20.2.1)))), (17, .u (.c (.v (.bool r22.2)))), (18, .u (.c (.v (.int .i64 v25)))), (19, .u (.c (.v (.bool x.2.1)))), (20, .u (.c (.v (.int .i64 x.2.2))))]) (fun n x => ZoneApart.l4 k a0 a1 r1 r2 r3 v4 v5 r8 r12 r13 v14 v15 v16 v17 r19 r20 r22 v23 v24 v25 n x.1 x.2.1 x.2.2 = some y36) k (v23, decide ((IntKind.i64.wrap (v25 + (IntKind.i64.wrap (1 * 2 ^ min (r13).toNat (IntKind.i64).bits)))) ≤ (IntKind.i64.wrap ((IntKind.i64.wrap (v17 * 8)) + 8))), 0) hy36 (by intro x h; unfold ZoneApart.l4 at h; cases h) ?_
                      rintro n4 ⟨v33, v34, v35⟩ h
                      replace h : ZoneApart.l4 k a0 a1 r1 r2 r3 v4 v5 r8 r12 r13 v14 v15 v16 v17 r19 r20 r22 v23 v24 v25 (n4 + 1) v33 v34 v35 = some y36 := h
                      unfold ZoneApart.l4 at h
                      show Run _ _ _ (St.of [(1, .u (.c (.sl false 4 (a1.map eD)))), (5, .u (.c (.v (.bool r1)))), (6, .u (.c (zoneC v33))), (8, .u (.c (.v (.int .i64 v5)))), (10, .u (.c (.v (.int .i64 r12)))), (11, .u (.c (.v (.int .i64 r13)))), (12, .u (.c (.sl true 1 ((v15 ++ [r20.2.1]).map eI)))), (13, .u (.c (.v (.bool v24)))), (14, .u (.c (.v (.int .i64 v17)))), (15, .u (.c (.v (.int .i64 r20.2.1)))), (17, .u (.c (.v (.bool r22.2)))), (18, .u (.c (.v (.int .i64 v25)))), (19, .u (.c (.v (.bool v34)))), (20, .u (.c (.v (.int .i64 v35))))]) _
                      refine r_seq ?_
                      refine r_seq ?_
                      obtain ⟨hg37, h⟩ := guard_some h
                      simp only [decide_eq_true_eq] at hg37
                      rcases Bool.eq_false_or_eq_true (decide (v35 < (IntKind.i64.wrap (1 * 2 ^ min (r13).toNat (IntKind.i64).bits)))) with hb | hb
                      · have h := cond_t hb h
                        have hs38 := hb
                        refine r_reg (l := [(1, .u (.c (.sl false 4 (a1.map eD)))), (5, .u (.c (.v (.bool r1)))), (6, .u (.c (zoneC v33))), (8, .u (.c (.v (.int .i64 v5)))), (10, .u (.c (.v (.int .i64 r12)))), (11, .u (.c (.v (.int .i64 r13)))), (12, .u (.c (.sl true 1 ((v15 ++ [r20.2.1]).map eI)))), (13, .u (.c (.v (.bool v24)))), (14, .u (.c (.v (.int .i64 v17)))), (15, .u (.c (.v (.int .i64 r20.2.1)))), (17, .u (.c (.v (.bool r22.2)))), (18, .u (.c (.v (.int .i64 v25)))), (19, .u (.c (.v (.bool v34)))), (20, .u (.c (.v (.int .i64 v35)))), (139, .u (.c (.v (.bool v34))))]) (cg_then (ds := [133, 134]) 2 rfl (by kernel_rfl) (co_then 3 rfl (os_to (os_plain rfl rfl (s_shift (op := .shl) (k := .i64) (p := 1) (q := r13) (yk := .i64) rfl (.inl rfl) (by kernel_rfl) (by kernel_rfl) hg37 rfl (by kernel_rfl))) (t' := .u (.c (.v (.int .i64 (IntKind.i64.wrap (1 * 2 ^ min (r13).toNat (IntKind.i64).bits)))))) (by kernel_rfl)) (cg_then (ds := [136]) 4 rfl (by kernel_rfl) (co_then 5 rfl (os_ge (d := 137) (t := .u (.c (.v (.bool (decide (v35 < (IntKind.i64.wrap (1 * 2 ^ min (r13).toNat (IntKind.i64).bits)))))))) (t' := .u (.c (.v (.bool true)))) (by kernel_rfl) (by rw [hs38])) (cg_then (ds := [138, 139]) 7 rfl (by kernel_rfl) (.nil)))))) rfl (by kernel_rfl) ?_
                        rcases Bool.eq_false_or_eq_true (v34) with hb | hb
                        · have h := cond_t hb h
                          refine r_condT hb rfl ?_
                          refine r_skip ?_
                          refine r_seq ?_
                          refine r_block ?_
                          obtain ⟨r39, hr39, h⟩ := bind_some h
                          refine r_reg (l := [(1, .u (.c (.sl false 4 (a1.map eD)))), (5, .u (.c (.v (.bool r1)))), (6, .u (.c (zoneC r39.1))), (8, .u (.c (.v (.int .i64 v5)))), (10, .u (.c (.v (.int .i64 r12)))), (11, .u (.c (.v (.int .i64 r13)))), (12, .u (.c (.sl true 1 ((v15 ++ [r20.2.1]).map eI)))), (13, .u (.c (.v (.bool v24)))), (14, .u (.c (.v (.int .i64 v17)))), (15, .u (.c (.v (.int .i64 r20.2.1)))), (17, .u (.c (.v (.bool r22.2)))), (18, .u (.c (.v (.int .i64 v25)))), (19, .u (.c (.v (.bool r39.2)))), (20, .u (.c (.v (.int .i64 v35))))]) (cg_then (ds := [142, 143, 144, 145]) 4 rfl (by kernel_rfl) (co_then 5 rfl (os_plain rfl rfl (c_call (AC.k (ZIsFree.ac (h := hr39))) ⟨_, Tryd.func21, rfl, by kernel_rfl⟩ rfl (hand_root (r := 6) (c := zoneC v33) (by kernel_rfl) (by kernel_rfl) rfl (.rd (.copy (by kernel_rfl) rfl) (.nil))) rfl (by kernel_rfl))) (cg_then (ds := [19]) 6 rfl (by kernel_rfl) (.nil)))) rfl (by kernel_rfl) ?_
                          refine r_reg (l := [(1, .u (.c (.sl false 4 (a1.map eD)))), (5, .u (.c (.v (.bool r1)))), (6, .u (.c (zoneC r39.1))), (8, .u (.c (.v (.int .i64 v5)))), (10, .u (.c (.v (.int .i64 r12)))), (11, .u (.c (.v (.int .i64 r13)))), (12, .u (.c (.sl true 1 ((v15 ++ [r20.2.1]).map eI)))), (13, .u (.c (.v (.bool v24)))), (14, .u (.c (.v (.int .i64 v17)))), (15, .u (.c (.v (.int .i64 r20.2.1)))), (17, .u (.c (.v (.bool r22.2)))), (18, .u (.c (.v (.int .i64 v25)))), (19, .u (.c (.v (.bool r39.2)))), (20, .u (.c (.v (.int .i64 (IntKind.i64.wrap (v35 + 1))))))]) (cg_then (ds := [140, 141, 20]) 3 rfl (by kernel_rfl) (.nil)) rfl (by kernel_rfl) ?_
                          exact ⟨(r39.1, r39.2, IntKind.i64.wrap (v35 + 1)), h, of_weak (by kernel_rfl)⟩
                        · have h := cond_f hb h
                          refine r_condF hb rfl ?_
                          refine r_weak (of_weak (l := [(1, .u (.c (.sl false 4 (a1.map eD)))), (5, .u (.c (.v (.bool r1)))), (6, .u (.c (zoneC v33))), (8, .u (.c (.v (.int .i64 v5)))), (10, .u (.c (.v (.int .i64 r12)))), (11, .u (.c (.v (.int .i64 r13)))), (12, .u (.c (.sl true 1 ((v15 ++ [r20.2.1]).map eI)))), (13, .u (.c (.v (.bool v24)))), (14, .u (.c (.v (.int .i64 v17)))), (15, .u (.c (.v (.int .i64 r20.2.1)))), (17, .u (.c (.v (.bool r22.2)))), (18, .u (.c (.v (.int .i64 v25)))), (19, .u (.c (.v (.bool v34))))]) (by kernel_rfl)) ?_
                          refine run_cast (α := Zon × Bool × Int) (fun x => [(1, .u (.c (.sl false 4 (a1.map eD)))), (5, .u (.c (.v (.bool r1)))), (6, .u (.c (zoneC x.1))), (8, .u (.c (.v (.int .i64 v5)))), (10, .u (.c (.v (.int .i64 r12)))), (11, .u (.c (.v (.int .i64 r13)))), (12, .u (.c (.sl true 1 ((v15 ++ [r20.2.1]).map eI)))), (13, .u (.c (.v (.bool v24)))), (14, .u (.c (.v (.int .i64 v17)))), (15, .u (.c (.v (.int .i64 r20.2.1)))), (17, .u (.c (.v (.bool r22.2)))), (18, .u (.c (.v (.int .i64 v25)))), (19, .u (.c (.v (.bool x.2.1))))]) (x := (v33, v34, v35)) (y := y36) (Option.some.inj h) ?_
                          refine r_exit ?_
                          replace h := h_y36
                          rcases Bool.eq_false_or_eq_true (v24) with hb | hb
                          · have h := cond_t hb h
                            have hs40 := hb
                            refine r_reg (l := [(1, .u (.c (.sl false 4 (a1.map eD)))), (5, .u (.c (.v (.bool r1)))), (6, .u (.c (zoneC y36.1))), (8, .u (.c (.v (.int .i64 v5)))), (10, .u (.c (.v (.int .i64 r12)))), (11, .u (.c (.v (.int .i64 r13)))), (12, .u (.c (.sl true 1 ((v15 ++ [r20.2.1]).map eI)))), (13, .u (.c (.v (.bool true)))), (14, .u (.c (.v (.int .i64 v17)))), (15, .u (.c (.v (.int .i64 r20.2.1)))), (17, .u (.c (.v (.bool r22.2)))), (18, .u (.c (.v (.int .i64 v25))))]) (cg_then (ds := [147]) 1 rfl (by kernel_rfl) (co_then 2 rfl (os_ge (d := 148) (t := .u (.c (.v (.bool v24)))) (t' := .u (.c (.v (.bool true)))) (by kernel_rfl) (by rw [hs40])) (cg_then (ds := [149, 150, 13]) 5 rfl (by kernel_rfl) (.nil)))) rfl (by kernel_rfl) ?_
                            refine r_reg (l := [(1, .u (.c (.sl false 4 (a1.map eD)))), (5, .u (.c (.v (.bool r1)))), (6, .u (.c (zoneC y36.1))), (8, .u (.c (.v (.int .i64 v5)))), (10, .u (.c (.v (.int .i64 r12)))), (11, .u (.c (.v (.int .i64 r13)))), (12, .u (.c (.sl true 1 ((v15 ++ [r20.2.1]).map eI)))), (13, .u (.c (.v (.bool true)))), (14, .u (.c (.v (.int .i64 v17)))), (15, .u (.c (.v (.int .i64 r20.2.1)))), (17, .u (.c (.v (.bool r22.2)))), (18, .u (.c (.v (.int .i64 (IntKind.i64.wrap (v25 + 1))))))]) (cg_then (ds := [116, 117, 18]) 3 rfl (by kernel_rfl) (.nil)) rfl (by kernel_rfl) ?_
                            exact ⟨(y36.1, true, IntKind.i64.wrap (v25 + 1)), h, of_weak (by kernel_rfl)⟩
                          · have h := cond_f hb h
                            have hs41 := hb
                            refine r_reg (l := [(1, .u (.c (.sl false 4 (a1.map eD)))), (5, .u (.c (.v (.bool r1)))), (6, .u (.c (zoneC y36.1))), (8, .u (.c (.v (.int .i64 v5)))), (10, .u (.c (.v (.int .i64 r12)))), (11, .u (.c (.v (.int .i64 r13)))), (12, .u (.c (.sl true 1 ((v15 ++ [r20.2.1]).map eI)))), (13, .u (.c (.v (.bool y36.2.1)))), (14, .u (.c (.v (.int .i64 v17)))), (15, .u (.c (.v (.int .i64 r20.2.1)))), (17, .u (.c (.v (.bool r22.2)))), (18, .u (.c (.v (.int .i64 v25))))]) (cg_then (ds := [147]) 1 rfl (by kernel_rfl) (co_then 2 rfl (os_ge (d := 148) (t := .u (.c (.v (.bool v24)))) (t' := .u (.c (.v (.bool false)))) (by kernel_rfl) (by rw [hs41])) (cg_then (ds := [149, 150, 13]) 5 rfl (by kernel_rfl) (.nil)))) rfl (by kernel_rfl) ?_
                            refine r_reg (l := [(1, .u (.c (.sl false 4 (a1.map eD)))), (5, .u (.c (.v (.bool r1)))), (6, .u (.c (zoneC y36.1))), (8, .u (.c (.v (.int .i64 v5)))), (10, .u (.c (.v (.int .i64 r12)))), (11, .u (.c (.v (.int .i64 r13)))), (12, .u (.c (.sl true 1 ((v15 ++ [r20.2.1]).map eI)))), (13, .u (.c (.v (.bool y36.2.1)))), (14, .u (.c (.v (.int .i64 v17)))), (15, .u (.c (.v (.int .i64 r20.2.1)))), (17, .u (.c (.v (.bool r22.2)))), (18, .u (.c (.v (.int .i64 (IntKind.i64.wrap (v25 + 1))))))]) (cg_then (ds := [116, 117, 18]) 3 rfl (by kernel_rfl) (.nil)) rfl (by kernel_rfl) ?_
                            exact ⟨(y36.1, y36.2.1, IntKind.i64.wrap (v25 + 1)), h, of_weak (by kernel_rfl)⟩
                      · have h := cond_f hb h
                        have hs42 := hb
                        refine r_reg (l := [(1, .u (.c (.sl false 4 (a1.map eD)))), (5, .u (.c (.v (.bool r1)))), (6, .u (.c (zoneC v33))), (8, .u (.c (.v (.int .i64 v5)))), (10, .u (.c (.v (.int .i64 r12)))), (11, .u (.c (.v (.int .i64 r13)))), (12, .u (.c (.sl true 1 ((v15 ++ [r20.2.1]).map eI)))), (13, .u (.c (.v (.bool v24)))), (14, .u (.c (.v (.int .i64 v17)))), (15, .u (.c (.v (.int .i64 r20.2.1)))), (17, .u (.c (.v (.bool r22.2)))), (18, .u (.c (.v (.int .i64 v25)))), (19, .u (.c (.v (.bool v34)))), (20, .u (.c (.v (.int .i64 v35)))), (139, .u (.c (.v (.bool false))))]) (cg_then (ds := [133, 134]) 2 rfl (by kernel_rfl) (co_then 3 rfl (os_to (os_plain rfl rfl (s_shift (op := .shl) (k := .i64) (p := 1) (q := r13) (yk := .i64) rfl (.inl rfl) (by kernel_rfl) (by kernel_rfl) hg37 rfl (by kernel_rfl))) (t' := .u (.c (.v (.int .i64 (IntKind.i64.wrap (1 * 2 ^ min (r13).toNat (IntKind.i64).bits)))))) (by kernel_rfl)) (cg_then (ds := [136]) 4 rfl (by kernel_rfl) (co_then 5 rfl (os_ge (d := 137) (t := .u (.c (.v (.bool (decide (v35 < (IntKind.i64.wrap (1 * 2 ^ min (r13).toNat (IntKind.i64).bits)))))))) (t' := .u (.c (.v (.bool false)))) (by kernel_rfl) (by rw [hs42])) (cg_then (ds := [138, 139]) 7 rfl (by kernel_rfl) (.nil)))))) rfl (by kernel_rfl) ?_
                        refine r_condF rfl rfl ?_
                        refine r_weak (of_weak (l := [(1, .u (.c (.sl false 4 (a1.map eD)))), (5, .u (.c (.v (.bool r1)))), (6, .u (.c (zoneC v33))), (8, .u (.c (.v (.int .i64 v5)))), (10, .u (.c (.v (.int .i64 r12)))), (11, .u (.c (.v (.int .i64 r13)))), (12, .u (.c (.sl true 1 ((v15 ++ [r20.2.1]).map eI)))), (13, .u (.c (.v (.bool v24)))), (14, .u (.c (.v (.int .i64 v17)))), (15, .u (.c (.v (.int .i64 r20.2.1)))), (17, .u (.c (.v (.bool r22.2)))), (18, .u (.c (.v (.int .i64 v25)))), (19, .u (.c (.v (.bool v34))))]) (by kernel_rfl)) ?_
                        refine run_cast (α := Zon × Bool × Int) (fun x => [(1, .u (.c (.sl false 4 (a1.map eD)))), (5, .u (.c (.v (.bool r1)))), (6, .u (.c (zoneC x.1))), (8, .u (.c (.v (.int .i64 v5)))), (10, .u (.c (.v (.int .i64 r12)))), (11, .u (.c (.v (.int .i64 r13)))), (12, .u (.c (.sl true 1 ((v15 ++ [r20.2.1]).map eI)))), (13, .u (.c (.v (.bool v24)))), (14, .u (.c (.v (.int .i64 v17)))), (15, .u (.c (.v (.int .i64 r20.2.1)))), (17, .u (.c (.v (.bool r22.2)))), (18, .u (.c (.v (.int .i64 v25)))), (19, .u (.c (.v (.bool x.2.1))))]) (x := (v33, v34, v35)) (y := y36) (Option.some.inj h) ?_
                        refine r_exit ?_
                        replace h := h_y36
                        rcases Bool.eq_false_or_eq_true (v24) with hb | hb
                        · have h := cond_t hb h
                          have hs40 := hb
                          refine r_reg (l := [(1, .u (.c (.sl false 4 (a1.map eD)))), (5, .u (.c (.v (.bool r1)))), (6, .u (.c (zoneC y36.1))), (8, .u (.c (.v (.int .i64 v5)))), (10, .u (.c (.v (.int .i64 r12)))), (11, .u (.c (.v (.int .i64 r13)))), (12, .u (.c (.sl true 1 ((v15 ++ [r20.2.1]).map eI)))), (13, .u (.c (.v (.bool true)))), (14, .u (.c (.v (.int .i64 v17)))), (15, .u (.c (.v (.int .i64 r20.2.1)))), (17, .u (.c (.v (.bool r22.2)))), (18, .u (.c (.v (.int .i64 v25))))]) (cg_then (ds := [147]) 1 rfl (by kernel_rfl) (co_then 2 rfl (os_ge (d := 148) (t := .u (.c (.v (.bool v24)))) (t' := .u (.c (.v (.bool true)))) (by kernel_rfl) (by rw [hs40])) (cg_then (ds := [149, 150, 13]) 5 rfl (by kernel_rfl) (.nil)))) rfl (by kernel_rfl) ?_
                          refine r_reg (l := [(1, .u (.c (.sl false 4 (a1.map eD)))), (5, .u (.c (.v (.bool r1)))), (6, .u (.c (zoneC y36.1))), (8, .u (.c (.v (.int .i64 v5)))), (10, .u (.c (.v (.int .i64 r12)))), (11, .u (.c (.v (.int .i64 r13)))), (12, .u (.c (.sl true 1 ((v15 ++ [r20.2.1]).map eI)))), (13, .u (.c (.v (.bool true)))), (14, .u (.c (.v (.int .i64 v17)))), (15, .u (.c (.v (.int .i64 r20.2.1)))), (17, .u (.c (.v (.bool r22.2)))), (18, .u (.c (.v (.int .i64 (IntKind.i64.wrap (v25 + 1))))))]) (cg_then (ds := [116, 117, 18]) 3 rfl (by kernel_rfl) (.nil)) rfl (by kernel_rfl) ?_
                          exact ⟨(y36.1, true, IntKind.i64.wrap (v25 + 1)), h, of_weak (by kernel_rfl)⟩
                        · have h := cond_f hb h
                          have hs41 := hb
                          refine r_reg (l := [(1, .u (.c (.sl false 4 (a1.map eD)))), (5, .u (.c (.v (.bool r1)))), (6, .u (.c (zoneC y36.1))), (8, .u (.c (.v (.int .i64 v5)))), (10, .u (.c (.v (.int .i64 r12)))), (11, .u (.c (.v (.int .i64 r13)))), (12, .u (.c (.sl true 1 ((v15 ++ [r20.2.1]).map eI)))), (13, .u (.c (.v (.bool y36.2.1)))), (14, .u (.c (.v (.int .i64 v17)))), (15, .u (.c (.v (.int .i64 r20.2.1)))), (17, .u (.c (.v (.bool r22.2)))), (18, .u (.c (.v (.int .i64 v25))))]) (cg_then (ds := [147]) 1 rfl (by kernel_rfl) (co_then 2 rfl (os_ge (d := 148) (t := .u (.c (.v (.bool v24)))) (t' := .u (.c (.v (.bool false)))) (by kernel_rfl) (by rw [hs41])) (cg_then (ds := [149, 150, 13]) 5 rfl (by kernel_rfl) (.nil)))) rfl (by kernel_rfl) ?_
                          refine r_reg (l := [(1, .u (.c (.sl false 4 (a1.map eD)))), (5, .u (.c (.v (.bool r1)))), (6, .u (.c (zoneC y36.1))), (8, .u (.c (.v (.int .i64 v5)))), (10, .u (.c (.v (.int .i64 r12)))), (11, .u (.c (.v (.int .i64 r13)))), (12, .u (.c (.sl true 1 ((v15 ++ [r20.2.1]).map eI)))), (13, .u (.c (.v (.bool y36.2.1)))), (14, .u (.c (.v (.int .i64 v17)))), (15, .u (.c (.v (.int .i64 r20.2.1)))), (17, .u (.c (.v (.bool r22.2)))), (18, .u (.c (.v (.int .i64 (IntKind.i64.wrap (v25 + 1))))))]) (cg_then (ds := [116, 117, 18]) 3 rfl (by kernel_rfl) (.nil)) rfl (by kernel_rfl) ?_
                          exact ⟨(y36.1, y36.2.1, IntKind.i64.wrap (v25 + 1)), h, of_weak (by kernel_rfl)⟩
                    · have h := cond_f hb h
                      have hs43 := hb
                      refine r_reg (l := [(1, .u (.c (.sl false 4 (a1.map eD)))), (5, .u (.c (.v (.bool r1)))), (6, .u (.c (zoneC v23))), (8, .u (.c (.v (.int .i64 v5)))), (10, .u (.c (.v (.int .i64 r12)))), (11, .u (.c (.v (.int .i64 r13)))), (12, .u (.c (.sl true 1 ((v15 ++ [r20.2.1]).map eI)))), (13, .u (.c (.v (.bool v24)))), (14, .u (.c (.v (.int .i64 v17)))), (15, .u (.c (.v (.int .i64 r20.2.1)))), (17, .u (.c (.v (.bool r22.2)))), (18, .u (.c (.v (.int .i64 v25)))), (19, .u (.c (.v (.bool false))))]) (cg_then (ds := [118, 119]) 2 rfl (by kernel_rfl) (co_then 3 rfl (os_to (os_plain rfl rfl (s_shift (op := .shl) (k := .i64) (p := 1) (q := r13) (yk := .i64) rfl (.inl rfl) (by kernel_rfl) (by kernel_rfl) hg29 rfl (by kernel_rfl))) (t' := .u (.c (.v (.int .i64 (IntKind.i64.wrap (1 * 2 ^ min (r13).toNat (IntKind.i64).bits)))))) (by kernel_rfl)) (co_then 4 rfl (os_to (os_plain rfl rfl (s_div (op := .rem) (k := .i64) (p := v25) (q := (IntKind.i64.wrap (1 * 2 ^ min (r13).toNat (IntKind.i64).bits))) rfl (.inr rfl) (by kernel_rfl) (by kernel_rfl) hg30 rfl (by kernel_rfl))) (t' := .u (.c (.v (.int .i64 (v25.tmod (IntKind.i64.wrap (1 * 2 ^ min (r13).toNat (IntKind.i64).bits))))))) (by kernel_rfl)) (cg_then (ds := [122]) 5 rfl (by kernel_rfl) (co_then 6 rfl (os_ge (d := 123) (t := .u (.c (.v (.bool ((v25.tmod (IntKind.i64.wrap (1 * 2 ^ min (r13).toNat (IntKind.i64).bits))) == 0))))) (t' := .u (.c (.v (.bool false)))) (by kernel_rfl) (by rw [hs43])) (cg_then (ds := [124, 125, 126, 127, 128, 129, 130, 131, 132, 19]) 16 rfl (by kernel_rfl) (.nil))))))) rfl (by kernel_rfl) ?_
                      refine r_seq ?_
                      refine r_seq ?_
                      refine r_reg (l := [(1, .u (.c (.sl false 4 (a1.map eD)))), (5, .u (.c (.v (.bool r1)))), (6, .u (.c (zoneC v23))), (8, .u (.c (.v (.int .i64 v5)))), (10, .u (.c (.v (.int .i64 r12)))), (11, .u (.c (.v (.int .i64 r13)))), (12, .u (.c (.sl true 1 ((v15 ++ [r20.2.1]).map eI)))), (13, .u (.c (.v (.bool v24)))), (14, .u (.c (.v (.int .i64 v17)))), (15, .u (.c (.v (.int .i64 r20.2.1)))), (17, .u (.c (.v (.bool r22.2)))), (18, .u (.c (.v (.int .i64 v25)))), (19, .u (.c (.v (.bool false)))), (20, .u (.c (.v (.int .i64 0))))]) (cg_then (ds := [20]) 1 rfl (by kernel_rfl) (.nil)) rfl (by kernel_rfl) ?_
                      refine r_block ?_
                      refine r_weak (of_weak (l := [(1, .u (.c (.sl false 4 (a1.map eD)))), (5, .u (.c (.v (.bool r1)))), (6, .u (.c (zoneC v23))), (8, .u (.c (.v (.int .i64 v5)))), (10, .u (.c (.v (.int .i64 r12)))), (11, .u (.c (.v (.int .i64 r13)))), (12, .u (.c (.sl true 1 ((v15 ++ [r20.2.1]).map eI)))), (13, .u (.c (.v (.bool v24)))), (14, .u (.c (.v (.int .i64 v17)))), (15, .u (.c (.v (.int .i64 r20.2.1)))), (17, .u (.c (.v (.bool r22.2)))), (18, .u (.c (.v (.int .i64 v25)))), (19, .u (.c (.v (.bool false)))), (20, .u (.c (.v (.int .i64 0))))]) (by kernel_rfl)) ?_
                      obtain ⟨y47, hy47, h_y47⟩ := bind_some h
                      refine r_loopI (α := Zon × Bool × Int) (fun x => [(1, .u (.c (.sl false 4 (a1.map eD)))), (5, .u (.c (.v (.bool r1)))), (6, .u (.c (zoneC x.1))), (8, .u (.c (.v (.int .i64 v5)))), (10, .u (.c (.v (.int .i64 r12)))), (11, .u (.c (.v (.int .i64 r13)))), (12, .u (.c (.sl true 1 ((v15 ++ [r20.2.1]).map eI)))), (13, .u (.c (.v (.bool v24)))), (14, .u (.c (.v (.int .i64 v17)))), (15, .u (.c (.v (.int .i64 r20.2.1)))), (17, .u (.c (.v (.bool r22.2)))), (18, .u (.c (.v (.int .i64 v25)))), (19, .u (.c (.v (.bool x.2.1)))), (20, .u (.c (.v (.int .i64 x.2.2))))]) (fun n x => ZoneApart.l5 k a0 a1 r1 r2 r3 v4 v5 r8 r12 r13 v14 v15 v16 v17 r19 r20 r22 v23 v24 v25 n x.1 x.2.1 x.2.2 = some y47) k (v23, false, 0) hy47 (by intro x h; unfold ZoneApart.l5 at h; cases h) ?_
                      rintro n5 ⟨v44, v45, v46⟩ h
                      replace h : ZoneApart.l5 k a0 a1 r1 r2 r3 v4 v5 r8 r12 r13 v14 v15 v16 v17 r19 r20 r22 v23 v24 v25 (n5 + 1) v44 v45 v46 = some y47 := h
                      unfold ZoneApart.l5 at h
                      show Run _ _ _ (St.of [(1, .u (.c (.sl false 4 (a1.map eD)))), (5, .u (.c (.v (.bool r1)))), (6, .u (.c (zoneC v44))), (8, .u (.c (.v (.int .i64 v5)))), (10, .u (.c (.v (.int .i64 r12)))), (11, .u (.c (.v (.int .i64 r13)))), (12, .u (.c (.sl true 1 ((v15 ++ [r20.2.1]).map eI)))), (13, .u (.c (.v (.bool v24)))), (14, .u (.c (.v (.int .i64 v17)))), (15, .u (.c (.v (.int .i64 r20.2.1)))), (17, .u (.c (.v (.bool r22.2)))), (18, .u (.c (.v (.int .i64 v25)))), (19, .u (.c (.v (.bool v45)))), (20, .u (.c (.v (.int .i64 v46))))]) _
                      refine r_seq ?_
                      refine r_seq ?_
                      obtain ⟨hg48, h⟩ := guard_some h
                      simp only [decide_eq_true_eq] at hg48
                      rcases Bool.eq_false_or_eq_true (decide (v46 < (IntKind.i64.wrap (1 * 2 ^ min (r13).toNat (IntKind.i64).bits)))) with hb | hb
                      · have h := cond_t hb h
                        have hs49 := hb
                        refine r_reg (l := [(1, .u (.c (.sl false 4 (a1.map eD)))), (5, .u (.c (.v (.bool r1)))), (6, .u (.c (zoneC v44))), (8, .u (.c (.v (.int .i64 v5)))), (10, .u (.c (.v (.int .i64 r12)))), (11, .u (.c (.v (.int .i64 r13)))), (12, .u (.c (.sl true 1 ((v15 ++ [r20.2.1]).map eI)))), (13, .u (.c (.v (.bool v24)))), (14, .u (.c (.v (.int .i64 v17)))), (15, .u (.c (.v (.int .i64 r20.2.1)))), (17, .u (.c (.v (.bool r22.2)))), (18, .u (.c (.v (.int .i64 v25)))), (19, .u (.c (.v (.bool v45)))), (20, .u (.c (.v (.int .i64 v46)))), (139, .u (.c (.v (.bool v45))))]) (cg_then (ds := [133, 134]) 2 rfl (by kernel_rfl) (co_then 3 rfl (os_to (os_plain rfl rfl (s_shift (op := .shl) (k := .i64) (p := 1) (q := r13) (yk := .i64) rfl (.inl rfl) (by kernel_rfl) (by kernel_rfl) hg48 rfl (by kernel_rfl))) (t' := .u (.c (.v (.int .i64 (IntKind.i64.wrap (1 * 2 ^ min (r13).toNat (IntKind.i64).bits)))))) (by kernel_rfl)) (cg_then (ds := [136]) 4 rfl (by kernel_rfl) (co_then 5 rfl (os_ge (d := 137) (t := .u (.c (.v (.bool (decide (v46 < (IntKind.i64.wrap (1 * 2 ^ min (r13).toNat (IntKind.i64).bits)))))))) (t' := .u (.c (.v (.bool true)))) (by kernel_rfl) (by rw [hs49])) (cg_then (ds := [138, 139]) 7 rfl (by kernel_rfl) (.nil)))))) rfl (by kernel_rfl) ?_
                        rcases Bool.eq_false_or_eq_true (v45) with hb | hb
                        · have h := cond_t hb h
                          refine r_condT hb rfl ?_
                          refine r_skip ?_
                          refine r_seq ?_
                          refine r_block ?_
                          obtain ⟨r50, hr50, h⟩ := bind_some h
                          refine r_reg (l := [(1, .u (.c (.sl false 4 (a1.map eD)))), (5, .u (.c (.v (.bool r1)))), (6, .u (.c (zoneC r50.1))), (8, .u (.c (.v (.int .i64 v5)))), (10, .u (.c (.v (.int .i64 r12)))), (11, .u (.c (.v (.int .i64 r13)))), (12, .u (.c (.sl true 1 ((v15 ++ [r20.2.1]).map eI)))), (13, .u (.c (.v (.bool v24)))), (14, .u (.c (.v (.int .i64 v17)))), (15, .u (.c (.v (.int .i64 r20.2.1)))), (17, .u (.c (.v (.bool r22.2)))), (18, .u (.c (.v (.int .i64 v25)))), (19, .u (.c (.v (.bool r50.2)))), (20, .u (.c (.v (.int .i64 v46))))]) (cg_then (ds := [142, 143, 144, 145]) 4 rfl (by kernel_rfl) (co_then 5 rfl (os_plain rfl rfl (c_call (AC.k (ZIsFree.ac (h := hr50))) ⟨_, Tryd.func21, rfl, by kernel_rfl⟩ rfl (hand_root (r := 6) (c := zoneC v44) (by kernel_rfl) (by kernel_rfl) rfl (.rd (.copy (by kernel_rfl) rfl) (.nil))) rfl (by kernel_rfl))) (cg_then (ds := [19]) 6 rfl (by kernel_rfl) (.nil)))) rfl (by kernel_rfl) ?_
                          refine r_reg (l := [(1, .u (.c (.sl false 4 (a1.map eD)))), (5, .u (.c (.v (.bool r1)))), (6, .u (.c (zoneC r50.1))), (8, .u (.c (.v (.int .i64 v5)))), (10, .u (.c (.v (.int .i64 r12)))), (11, .u (.c (.v (.int .i64 r13)))), (12, .u (.c (.sl true 1 ((v15 ++ [r20.2.1]).map eI)))), (13, .u (.c (.v (.bool v24)))), (14, .u (.c (.v (.int .i64 v17)))), (15, .u (.c (.v (.int .i64 r20.2.1)))), (17, .u (.c (.v (.bool r22.2)))), (18, .u (.c (.v (.int .i64 v25)))), (19, .u (.c (.v (.bool r50.2)))), (20, .u (.c (.v (.int .i64 (IntKind.i64.wrap (v46 + 1))))))]) (cg_then (ds := [140, 141, 20]) 3 rfl (by kernel_rfl) (.nil)) rfl (by kernel_rfl) ?_
                          exact ⟨(r50.1, r50.2, IntKind.i64.wrap (v46 + 1)), h, of_weak (by kernel_rfl)⟩
                        · have h := cond_f hb h
                          refine r_condF hb rfl ?_
                          refine r_weak (of_weak (l := [(1, .u (.c (.sl false 4 (a1.map eD)))), (5, .u (.c (.v (.bool r1)))), (6, .u (.c (zoneC v44))), (8, .u (.c (.v (.int .i64 v5)))), (10, .u (.c (.v (.int .i64 r12)))), (11, .u (.c (.v (.int .i64 r13)))), (12, .u (.c (.sl true 1 ((v15 ++ [r20.2.1]).map eI)))), (13, .u (.c (.v (.bool v24)))), (14, .u (.c (.v (.int .i64 v17)))), (15, .u (.c (.v (.int .i64 r20.2.1)))), (17, .u (.c (.v (.bool r22.2)))), (18, .u (.c (.v (.int .i64 v25)))), (19, .u (.c (.v (.bool v45))))]) (by kernel_rfl)) ?_
                          refine run_cast (α := Zon × Bool × Int) (fun x => [(1, .u (.c (.sl false 4 (a1.map eD)))), (5, .u (.c (.v (.bool r1)))), (6, .u (.c (zoneC x.1))), (8, .u (.c (.v (.int .i64 v5)))), (10, .u (.c (.v (.int .i64 r12)))), (11, .u (.c (.v (.int .i64 r13)))), (12, .u (.c (.sl true 1 ((v15 ++ [r20.2.1]).map eI)))), (13, .u (.c (.v (.bool v24)))), (14, .u (.c (.v (.int .i64 v17)))), (15, .u (.c (.v (.int .i64 r20.2.1)))), (17, .u (.c (.v (.bool r22.2)))), (18, .u (.c (.v (.int .i64 v25)))), (19, .u (.c (.v (.bool x.2.1))))]) (x := (v44, v45, v46)) (y := y47) (Option.some.inj h) ?_
                          refine r_exit ?_
                          replace h := h_y47
                          rcases Bool.eq_false_or_eq_true (v24) with hb | hb
                          · have h := cond_t hb h
                            have hs51 := hb
                            refine r_reg (l := [(1, .u (.c (.sl false 4 (a1.map eD)))), (5, .u (.c (.v (.bool r1)))), (6, .u (.c (zoneC y47.1))), (8, .u (.c (.v (.int .i64 v5)))), (10, .u (.c (.v (.int .i64 r12)))), (11, .u (.c (.v (.int .i64 r13)))), (12, .u (.c (.sl true 1 ((v15 ++ [r20.2.1]).map eI)))), (13, .u (.c (.v (.bool true)))), (14, .u (.c (.v (.int .i64 v17)))), (15, .u (.c (.v (.int .i64 r20.2.1)))), (17, .u (.c (.v (.bool r22.2)))), (18, .u (.c (.v (.int .i64 v25))))]) (cg_then (ds := [147]) 1 rfl (by kernel_rfl) (co_then 2 rfl (os_ge (d := 148) (t := .u (.c (.v (.bool v24)))) (t' := .u (.c (.v (.bool true)))) (by kernel_rfl) (by rw [hs51])) (cg_then (ds := [149, 150, 13]) 5 rfl (by kernel_rfl) (.nil)))) rfl (by kernel_rfl) ?_
                            refine r_reg (l := [(1, .u (.c (.sl false 4 (a1.map eD)))), (5, .u (.c (.v (.bool r1)))), (6, .u (.c (zoneC y47.1))), (8, .u (.c (.v (.int .i64 v5)))), (10, .u (.c (.v (.int .i64 r12)))), (11, .u (.c (.v (.int .i64 r13)))), (12, .u (.c (.sl true 1 ((v15 ++ [r20.2.1]).map eI)))), (13, .u (.c (.v (.bool true)))), (14, .u (.c (.v (.int .i64 v17)))), (15, .u (.c (.v (.int .i64 r20.2.1)))), (17, .u (.c (.v (.bool r22.2)))), (18, .u (.c (.v (.int .i64 (IntKind.i64.wrap (v25 + 1))))))]) (cg_then (ds := [116, 117, 18]) 3 rfl (by kernel_rfl) (.nil)) rfl (by kernel_rfl) ?_
                            exact ⟨(y47.1, true, IntKind.i64.wrap (v25 + 1)), h, of_weak (by kernel_rfl)⟩
                          · have h := cond_f hb h
                            have hs52 := hb
                            refine r_reg (l := [(1, .u (.c (.sl false 4 (a1.map eD)))), (5, .u (.c (.v (.bool r1)))), (6, .u (.c (zoneC y47.1))), (8, .u (.c (.v (.int .i64 v5)))), (10, .u (.c (.v (.int .i64 r12)))), (11, .u (.c (.v (.int .i64 r13)))), (12, .u (.c (.sl true 1 ((v15 ++ [r20.2.1]).map eI)))), (13, .u (.c (.v (.bool y47.2.1)))), (14, .u (.c (.v (.int .i64 v17)))), (15, .u (.c (.v (.int .i64 r20.2.1)))), (17, .u (.c (.v (.bool r22.2)))), (18, .u (.c (.v (.int .i64 v25))))]) (cg_then (ds := [147]) 1 rfl (by kernel_rfl) (co_then 2 rfl (os_ge (d := 148) (t := .u (.c (.v (.bool v24)))) (t' := .u (.c (.v (.bool false)))) (by kernel_rfl) (by rw [hs52])) (cg_then (ds := [149, 150, 13]) 5 rfl (by kernel_rfl) (.nil)))) rfl (by kernel_rfl) ?_
                            refine r_reg (l := [(1, .u (.c (.sl false 4 (a1.map eD)))), (5, .u (.c (.v (.bool r1)))), (6, .u (.c (zoneC y47.1))), (8, .u (.c (.v (.int .i64 v5)))), (10, .u (.c (.v (.int .i64 r12)))), (11, .u (.c (.v (.int .i64 r13)))), (12, .u (.c (.sl true 1 ((v15 ++ [r20.2.1]).map eI)))), (13, .u (.c (.v (.bool y47.2.1)))), (14, .u (.c (.v (.int .i64 v17)))), (15, .u (.c (.v (.int .i64 r20.2.1)))), (17, .u (.c (.v (.bool r22.2)))), (18, .u (.c (.v (.int .i64 (IntKind.i64.wrap (v25 + 1))))))]) (cg_then (ds := [116, 117, 18]) 3 rfl (by kernel_rfl) (.nil)) rfl (by kernel_rfl) ?_
                            exact ⟨(y47.1, y47.2.1, IntKind.i64.wrap (v25 + 1)), h, of_weak (by kernel_rfl)⟩
                      · have h := cond_f hb h
                        have hs53 := hb
                        refine r_reg (l := [(1, .u (.c (.sl false 4 (a1.map eD)))), (5, .u (.c (.v (.bool r1)))), (6, .u (.c (zoneC v44))), (8, .u (.c (.v (.int .i64 v5)))), (10, .u (.c (.v (.int .i64 r12)))), (11, .u (.c (.v (.int .i64 r13)))), (12, .u (.c (.sl true 1 ((v15 ++ [r20.2.1]).map eI)))), (13, .u (.c (.v (.bool v24)))), (14, .u (.c (.v (.int .i64 v17)))), (15, .u (.c (.v (.int .i64 r20.2.1)))), (17, .u (.c (.v (.bool r22.2)))), (18, .u (.c (.v (.int .i64 v25)))), (19, .u (.c (.v (.bool v45)))), (20, .u (.c (.v (.int .i64 v46)))), (139, .u (.c (.v (.bool false))))]) (cg_then (ds := [133, 134]) 2 rfl (by kernel_rfl) (co_then 3 rfl (os_to (os_plain rfl rfl (s_shift (op := .shl) (k := .i64) (p := 1) (q := r13) (yk := .i64) rfl (.inl rfl) (by kernel_rfl) (by kernel_rfl) hg48 rfl (by kernel_rfl))) (t' := .u (.c (.v (.int .i64 (IntKind.i64.wrap (1 * 2 ^ min (r13).toNat (IntKind.i64).bits)))))) (by kernel_rfl)) (cg_then (ds := [136]) 4 rfl (by kernel_rfl) (co_then 5 rfl (os_ge (d := 137) (t := .u (.c (.v (.bool (decide (v46 < (IntKind.i64.wrap (1 * 2 ^ min (r13).toNat (IntKind.i64).bits)))))))) (t' := .u (.c (.v (.bool false)))) (by kernel_rfl) (by rw [hs53])) (cg_then (ds := [138, 139]) 7 rfl (by kernel_rfl) (.nil)))))) rfl (by kernel_rfl) ?_
                        refine r_condF rfl rfl ?_
                        refine r_weak (of_weak (l := [(1, .u (.c (.sl false 4 (a1.map eD)))), (5, .u (.c (.v (.bool r1)))), (6, .u (.c (zoneC v44))), (8, .u (.c (.v (.int .i64 v5)))), (10, .u (.c (.v (.int .i64 r12)))), (11, .u (.c (.v (.int .i64 r13)))), (12, .u (.c (.sl true 1 ((v15 ++ [r20.2.1]).map eI)))), (13, .u (.c (.v (.bool v24)))), (14, .u (.c (.v (.int .i64 v17)))), (15, .u (.c (.v (.int .i64 r20.2.1)))), (17, .u (.c (.v (.bool r22.2)))), (18, .u (.c (.v (.int .i64 v25)))), (19, .u (.c (.v (.bool v45))))]) (by kernel_rfl)) ?_
                        refine run_cast (α := Zon × Bool × Int) (fun x => [(1, .u (.c (.sl false 4 (a1.map eD)))), (5, .u (.c (.v (.bool r1)))), (6, .u (.c (zoneC x.1))), (8, .u (.c (.v (.int .i64 v5)))), (10, .u (.c (.v (.int .i64 r12)))), (11, .u (.c (.v (.int .i64 r13)))), (12, .u (.c (.sl true 1 ((v15 ++ [r20.2.1]).map eI)))), (13, .u (.c (.v (.bool v24)))), (14, .u (.c (.v (.int .i64 v17)))), (15, .u (.c (.v (.int .i64 r20.2.1)))), (17, .u (.c (.v (.bool r22.2)))), (18, .u (.c (.v (.int .i64 v25)))), (19, .u (.c (.v (.bool x.2.1))))]) (x := (v44, v45, v46)) (y := y47) (Option.some.inj h) ?_
                        refine r_exit ?_
                        replace h := h_y47
                        rcases Bool.eq_false_or_eq_true (v24) with hb | hb
                        · have h := cond_t hb h
                          have hs51 := hb
                          refine r_reg (l := [(1, .u (.c (.sl false 4 (a1.map eD)))), (5, .u (.c (.v (.bool r1)))), (6, .u (.c (zoneC y47.1))), (8, .u (.c (.v (.int .i64 v5)))), (10, .u (.c (.v (.int .i64 r12)))), (11, .u (.c (.v (.int .i64 r13)))), (12, .u (.c (.sl true 1 ((v15 ++ [r20.2.1]).map eI)))), (13, .u (.c (.v (.bool true)))), (14, .u (.c (.v (.int .i64 v17)))), (15, .u (.c (.v (.int .i64 r20.2.1)))), (17, .u (.c (.v (.bool r22.2)))), (18, .u (.c (.v (.int .i64 v25))))]) (cg_then (ds := [147]) 1 rfl (by kernel_rfl) (co_then 2 rfl (os_ge (d := 148) (t := .u (.c (.v (.bool v24)))) (t' := .u (.c (.v (.bool true)))) (by kernel_rfl) (by rw [hs51])) (cg_then (ds := [149, 150, 13]) 5 rfl (by kernel_rfl) (.nil)))) rfl (by kernel_rfl) ?_
                          refine r_reg (l := [(1, .u (.c (.sl false 4 (a1.map eD)))), (5, .u (.c (.v (.bool r1)))), (6, .u (.c (zoneC y47.1))), (8, .u (.c (.v (.int .i64 v5)))), (10, .u (.c (.v (.int .i64 r12)))), (11, .u (.c (.v (.int .i64 r13)))), (12, .u (.c (.sl true 1 ((v15 ++ [r20.2.1]).map eI)))), (13, .u (.c (.v (.bool true)))), (14, .u (.c (.v (.int .i64 v17)))), (15, .u (.c (.v (.int .i64 r20.2.1)))), (17, .u (.c (.v (.bool r22.2)))), (18, .u (.c (.v (.int .i64 (IntKind.i64.wrap (v25 + 1))))))]) (cg_then (ds := [116, 117, 18]) 3 rfl (by kernel_rfl) (.nil)) rfl (by kernel_rfl) ?_
                          exact ⟨(y47.1, true, IntKind.i64.wrap (v25 + 1)), h, of_weak (by kernel_rfl)⟩
                        · have h := cond_f hb h
                          have hs52 := hb
                          refine r_reg (l := [(1, .u (.c (.sl false 4 (a1.map eD)))), (5, .u (.c (.v (.bool r1)))), (6, .u (.c (zoneC y47.1))), (8, .u (.c (.v (.int .i64 v5)))), (10, .u (.c (.v (.int .i64 r12)))), (11, .u (.c (.v (.int .i64 r13)))), (12, .u (.c (.sl true 1 ((v15 ++ [r20.2.1]).map eI)))), (13, .u (.c (.v (.bool y47.2.1)))), (14, .u (.c (.v (.int .i64 v17)))), (15, .u (.c (.v (.int .i64 r20.2.1)))), (17, .u (.c (.v (.bool r22.2)))), (18, .u (.c (.v (.int .i64 v25))))]) (cg_then (ds := [147]) 1 rfl (by kernel_rfl) (co_then 2 rfl (os_ge (d := 148) (t := .u (.c (.v (.bool v24)))) (t' := .u (.c (.v (.bool false)))) (by kernel_rfl) (by rw [hs52])) (cg_then (ds := [149, 150, 13]) 5 rfl (by kernel_rfl) (.nil)))) rfl (by kernel_rfl) ?_
                          refine r_reg (l := [(1, .u (.c (.sl false 4 (a1.map eD)))), (5, .u (.c (.v (.bool r1)))), (6, .u (.c (zoneC y47.1))), (8, .u (.c (.v (.int .i64 v5)))), (10, .u (.c (.v (.int .i64 r12)))), (11, .u (.c (.v (.int .i64 r13)))), (12, .u (.c (.sl true 1 ((v15 ++ [r20.2.1]).map eI)))), (13, .u (.c (.v (.bool y47.2.1)))), (14, .u (.c (.v (.int .i64 v17)))), (15, .u (.c (.v (.int .i64 r20.2.1)))), (17, .u (.c (.v (.bool r22.2)))), (18, .u (.c (.v (.int .i64 (IntKind.i64.wrap (v25 + 1))))))]) (cg_then (ds := [116, 117, 18]) 3 rfl (by kernel_rfl) (.nil)) rfl (by kernel_rfl) ?_
                          exact ⟨(y47.1, y47.2.1, IntKind.i64.wrap (v25 + 1)), h, of_weak (by kernel_rfl)⟩
                  · have h := cond_f hb h
                    refine r_condF hb rfl ?_
                    refine r_weak (of_weak (l := [(1, .u (.c (.sl false 4 (a1.map eD)))), (5, .u (.c (.v (.bool r1)))), (6, .u (.c (zoneC v23))), (8, .u (.c (.v (.int .i64 v5)))), (10, .u (.c (.v (.int .i64 r12)))), (11, .u (.c (.v (.int .i64 r13)))), (12, .u (.c (.sl true 1 ((v15 ++ [r20.2.1]).map eI)))), (13, .u (.c (.v (.bool v24)))), (14, .u (.c (.v (.int .i64 v17))))]) (by kernel_rfl)) ?_
                    refine run_cast (α := Zon × Bool × Int) (fun x => [(1, .u (.c (.sl false 4 (a1.map eD)))), (5, .u (.c (.v (.bool r1)))), (6, .u (.c (zoneC x.1))), (8, .u (.c (.v (.int .i64 v5)))), (10, .u (.c (.v (.int .i64 r12)))), (11, .u (.c (.v (.int .i64 r13)))), (12, .u (.c (.sl true 1 ((v15 ++ [r20.2.1]).map eI)))), (13, .u (.c (.v (.bool x.2.1)))), (14, .u (.c (.v (.int .i64 v17))))]) (x := (v23, v24, v25)) (y := y26) (Option.some.inj h) ?_
                    refine r_exit ?_
                    replace h := h_y26
                    refine r_reg (l := [(1, .u (.c (.sl false 4 (a1.map eD)))), (5, .u (.c (.v (.bool r1)))), (6, .u (.c (zoneC y26.1))), (8, .u (.c (.v (.int .i64 v5)))), (10, .u (.c (.v (.int .i64 r12)))), (11, .u (.c (.v (.int .i64 r13)))), (12, .u (.c (.sl true 1 ((v15 ++ [r20.2.1]).map eI)))), (13, .u (.c (.v (.bool y26.2.1)))), (14, .u (.c (.v (.int .i64 (IntKind.i64.wrap (v17 + 1))))))]) (cg_then (ds := [83, 84, 14]) 3 rfl (by kernel_rfl) (.nil)) rfl (by kernel_rfl) ?_
                    exact ⟨(y26.1, (v15 ++ [r20.2.1]), y26.2.1, IntKind.i64.wrap (v17 + 1)), h, of_weak (by kernel_rfl)⟩
                · have h := cond_f hb h
                  have hs54 := hb
                  refine r_reg (l := [(1, .u (.c (.sl false 4 (a1.map eD)))), (5, .u (.c (.v (.bool r1)))), (6, .u (.c (zoneC v23))), (8, .u (.c (.v (.int .i64 v5)))), (10, .u (.c (.v (.int .i64 r12)))), (11, .u (.c (.v (.int .i64 r13)))), (12, .u (.c (.sl true 1 ((v15 ++ [r20.2.1]).map eI)))), (13, .u (.c (.v (.bool v24)))), (14, .u (.c (.v (.int .i64 v17)))), (15, .u (.c (.v (.int .i64 r20.2.1)))), (17, .u (.c (.v (.bool r22.2)))), (18, .u (.c (.v (.int .i64 v25)))), (115, .u (.c (.v (.bool false))))]) (cg_then (ds := [102, 103, 104, 105, 106]) 5 rfl (by kernel_rfl) (co_then 6 rfl (os_ge (d := 107) (t := .u (.c (.v (.bool (decide (v25 < (IntKind.i64.wrap ((IntKind.i64.wrap (v17 * 8)) + 8)))))))) (t' := .u (.c (.v (.bool true)))) (by kernel_rfl) (by rw [hs27])) (cg_then (ds := [108, 109, 110]) 9 rfl (by kernel_rfl) (co_then 10 rfl (os_ge (d := 111) (t := .u (.c (.v (.bool (!r22.2))))) (t' := .u (.c (.v (.bool false)))) (by kernel_rfl) (by rw [hs54])) (cg_then (ds := [112, 113, 114, 115]) 14 rfl (by kernel_rfl) (.nil)))))) rfl (by kernel_rfl) ?_
                  refine r_condF rfl rfl ?_
                  refine r_weak (of_weak (l := [(1, .u (.c (.sl false 4 (a1.map eD)))), (5, .u (.c (.v (.bool r1)))), (6, .u (.c (zoneC v23))), (8, .u (.c (.v (.int .i64 v5)))), (10, .u (.c (.v (.int .i64 r12)))), (11, .u (.c (.v (.int .i64 r13)))), (12, .u (.c (.sl true 1 ((v15 ++ [r20.2.1]).map eI)))), (13, .u (.c (.v (.bool v24)))), (14, .u (.c (.v (.int .i64 v17))))]) (by kernel_rfl)) ?_
                  refine run_cast (α := Zon × Bool × Int) (fun x => [(1, .u (.c (.sl false 4 (a1.map eD)))), (5, .u (.c (.v (.bool r1)))), (6, .u (.c (zoneC x.1))), (8, .u (.c (.v (.int .i64 v5)))), (10, .u (.c (.v (.int .i64 r12)))), (11, .u (.c (.v (.int .i64 r13)))), (12, .u (.c (.sl true 1 ((v15 ++ [r20.2.1]).map eI)))), (13, .u (.c (.v (.bool x.2.1)))), (14, .u (.c (.v (.int .i64 v17))))]) (x := (v23, v24, v25)) (y := y26) (Option.some.inj h) ?_
                  refine r_exit ?_
                  replace h := h_y26
                  refine r_reg (l := [(1, .u (.c (.sl false 4 (a1.map eD)))), (5, .u (.c (.v (.bool r1)))), (6, .u (.c (zoneC y26.1))), (8, .u (.c (.v (.int .i64 v5)))), (10, .u (.c (.v (.int .i64 r12)))), (11, .u (.c (.v (.int .i64 r13)))), (12, .u (.c (.sl true 1 ((v15 ++ [r20.2.1]).map eI)))), (13, .u (.c (.v (.bool y26.2.1)))), (14, .u (.c (.v (.int .i64 (IntKind.i64.wrap (v17 + 1))))))]) (cg_then (ds := [83, 84, 14]) 3 rfl (by kernel_rfl) (.nil)) rfl (by kernel_rfl) ?_
                  exact ⟨(y26.1, (v15 ++ [r20.2.1]), y26.2.1, IntKind.i64.wrap (v17 + 1)), h, of_weak (by kernel_rfl)⟩
              · have h := cond_f hb h
                have hs55 := hb
                refine r_reg (l := [(1, .u (.c (.sl false 4 (a1.map eD)))), (5, .u (.c (.v (.bool r1)))), (6, .u (.c (zoneC v23))), (8, .u (.c (.v (.int .i64 v5)))), (10, .u (.c (.v (.int .i64 r12)))), (11, .u (.c (.v (.int .i64 r13)))), (12, .u (.c (.sl true 1 ((v15 ++ [r20.2.1]).map eI)))), (13, .u (.c (.v (.bool v24)))), (14, .u (.c (.v (.int .i64 v17)))), (15, .u (.c (.v (.int .i64 r20.2.1)))), (17, .u (.c (.v (.bool r22.2)))), (18, .u (.c (.v (.int .i64 v25)))), (115, .u (.c (.v (.bool false))))]) (cg_then (ds := [102, 103, 104, 105, 106]) 5 rfl (by kernel_rfl) (co_then 6 rfl (os_ge (d := 107) (t := .u (.c (.v (.bool (decide (v25 < (IntKind.i64.wrap ((IntKind.i64.wrap (v17 * 8)) + 8)))))))) (t' := .u (.c (.v (.bool false)))) (by kernel_rfl) (by rw [hs55])) (cg_then (ds := [108, 109, 110, 111, 112, 113, 114, 115]) 14 rfl (by kernel_rfl) (.nil)))) rfl (by kernel_rfl) ?_
                refine r_condF rfl rfl ?_
                refine r_weak (of_weak (l := [(1, .u (.c (.sl false 4 (a1.map eD)))), (5, .u (.c (.v (.bool r1)))), (6, .u (.c (zoneC v23))), (8, .u (.c (.v (.int .i64 v5)))), (10, .u (.c (.v (.int .i64 r12)))), (11, .u (.c (.v (.int .i64 r13)))), (12, .u (.c (.sl true 1 ((v15 ++ [r20.2.1]).map eI)))), (13, .u (.c (.v (.bool v24)))), (14, .u (.c (.v (.int .i64 v17))))]) (by kernel_rfl)) ?_
                refine run_cast (α := Zon × Bool × Int) (fun x => [(1, .u (.c (.sl false 4 (a1.map eD)))), (5, .u (.c (.v (.bool r1)))), (6, .u (.c (zoneC x.1))), (8, .u (.c (.v (.int .i64 v5)))), (10, .u (.c (.v (.int .i64 r12)))), (11, .u (.c (.v (.int .i64 r13)))), (12, .u (.c (.sl true 1 ((v15 ++ [r20.2.1]).map eI)))), (13, .u (.c (.v (.bool x.2.1)))), (14, .u (.c (.v (.int .i64 v17))))]) (x := (v23, v24, v25)) (y := y26) (Option.some.inj h) ?_
                refine r_exit ?_
                replace h := h_y26
                refine r_reg (l := [(1, .u (.c (.sl false 4 (a1.map eD)))), (5, .u (.c (.v (.bool r1)))), (6, .u (.c (zoneC y26.1))), (8, .u (.c (.v (.int .i64 v5)))), (10, .u (.c (.v (.int .i64 r12)))), (11, .u (.c (.v (.int .i64 r13)))), (12, .u (.c (.sl true 1 ((v15 ++ [r20.2.1]).map eI)))), (13, .u (.c (.v (.bool y26.2.1)))), (14, .u (.c (.v (.int .i64 (IntKind.i64.wrap (v17 + 1))))))]) (cg_then (ds := [83, 84, 14]) 3 rfl (by kernel_rfl) (.nil)) rfl (by kernel_rfl) ?_
                exact ⟨(y26.1, (v15 ++ [r20.2.1]), y26.2.1, IntKind.i64.wrap (v17 + 1)), h, of_weak (by kernel_rfl)⟩
          · have h := cond_f hb h
            refine r_condF hb rfl ?_
            refine r_weak (of_weak (l := [(1, .u (.c (.sl false 4 (a1.map eD)))), (5, .u (.c (.v (.bool r1)))), (6, .u (.c (zoneC r19.1))), (8, .u (.c (.v (.int .i64 v5)))), (10, .u (.c (.v (.int .i64 r12)))), (11, .u (.c (.v (.int .i64 r13)))), (12, .u (.c (.sl true 1 (v15.map eI)))), (13, .u (.c (.v (.bool v16))))]) (by kernel_rfl)) ?_
            obtain rfl := Option.some.inj h
            obtain ⟨y18v, hhy18v, h⟩ := elim_inl h_y18
            try dsimp only at h
            refine run_cast (α := Zon × (List Int) × Bool × Int) (fun x => [(1, .u (.c (.sl false 4 (a1.map eD)))), (5, .u (.c (.v (.bool r1)))), (6, .u (.c (zoneC x.1))), (8, .u (.c (.v (.int .i64 v5)))), (10, .u (.c (.v (.int .i64 r12)))), (11, .u (.c (.v (.int .i64 r13)))), (12, .u (.c (.sl true 1 (x.2.1.map eI)))), (13, .u (.c (.v (.bool x.2.2.1))))]) (x := (r19.1, v15, v16, v17)) (y := y18v) hhy18v ?_
            refine r_exit ?_
            refine r_seq ?_
            obtain ⟨r56, hr56, h⟩ := bind_some h
            refine r_reg (l := [(1, .u (.c (.sl false 4 (a1.map eD)))), (5, .u (.c (.v (.bool r1)))), (6, .u (.c (zoneC r56.1))), (8, .u (.c (.v (.int .i64 v5)))), (10, .u (.c (.v (.int .i64 r12)))), (12, .u (.c (.sl true 1 (y18v.2.1.map eI)))), (13, .u (.c (.v (.bool y18v.2.2.1)))), (21, .u (.c (.v (.int .i64 r56.2.1)))), (22, .u (.c (.err r56.2.2)))]) (cg_then (ds := [152, 153, 154]) 3 rfl (by kernel_rfl) (co_then 4 rfl (os_plain rfl rfl (c_call (ACT.k hT (ZTake.ac (h := hr56))) ⟨_, Tryd.func13, rfl, by kernel_rfl⟩ rfl (hand_root (r := 6) (c := zoneC y18v.1) (by kernel_rfl) (by kernel_rfl) rfl (.rd (.copy (by kernel_rfl) rfl) (.rd (.copy (by kernel_rfl) rfl) (.nil)))) rfl (by kernel_rfl))) (co_then 5 rfl (os_plain rfl rfl (s_moveT (us := [.c (.v (.int .i64 r56.2.1)), .c (.err r56.2.2)]) (.inl rfl) (by kernel_rfl) rfl (by kernel_rfl))) (cg_then (ds := [156, 157, 21, 22]) 9 rfl (by kernel_rfl) (.nil))))) rfl (by kernel_rfl) ?_
            refine r_seq ?_
            refine r_seq ?_
            refine r_reg (l := [(1, .u (.c (.sl false 4 (a1.map eD)))), (5, .u (.c (.v (.bool r1)))), (6, .u (.c (zoneC r56.1))), (8, .u (.c (.v (.int .i64 v5)))), (10, .u (.c (.v (.int .i64 r12)))), (12, .u (.c (.sl true 1 (y18v.2.1.map eI)))), (13, .u (.c (.v (.bool y18v.2.2.1)))), (21, .u (.c (.v (.int .i64 r56.2.1)))), (159, .u (.c (.v (.bool (!(r56.2.2 == none))))))]) (cg_then (ds := [158, 159]) 2 rfl (by kernel_rfl) (.nil)) rfl (by kernel_rfl) ?_
            rcases Bool.eq_false_or_eq_true (!(r56.2.2 == none)) with hb | hb
            · have h := cond_t hb h
              refine r_condT hb rfl ?_
              refine r_seq ?_
              refine r_seq ?_
              refine r_reg (l := [(1, .u (.c (.sl false 4 (a1.map eD)))), (5, .u (.c (.v (.bool r1)))), (6, .u (.c (zoneC r56.1))), (8, .u (.c (.v (.int .i64 v5)))), (160, .u (.c (.v (.bool y18v.2.2.1))))]) (cg_then (ds := [160]) 1 rfl (by kernel_rfl) (.nil)) rfl (by kernel_rfl) ?_
              rcases Bool.eq_false_or_eq_true (y18v.2.2.1) with hb | hb
              · have h := cond_t hb h
                refine r_condT hb rfl ?_
                refine r_seq ?_
                refine r_reg (l := [(4, .u (.c (.v (.bool false))))]) (cg_then (ds := [4]) 1 rfl (by kernel_rfl) (.nil)) rfl (by kernel_rfl) ?_
                refine r_ret ?_
                obtain rfl := Option.some.inj h
                exact ⟨.inr rfl, _, _, .cons (.copy rfl rfl rfl) (.nil), rfl, outs_of trivial⟩
              · have h := cond_f hb h
                refine r_condF hb rfl ?_
                refine r_skip ?_
                refine r_exit ?_
                refine r_reg (l := [(1, .u (.c (.sl false 4 (a1.map eD)))), (5, .u (.c (.v (.bool r1)))), (6, .u (.c (zoneC r56.1))), (8, .u (.c (.v (.int .i64 (IntKind.i64.wrap (v5 + 1))))))]) (cg_then (ds := [51, 52, 8]) 3 rfl (by kernel_rfl) (.nil)) rfl (by kernel_rfl) ?_
                exact ⟨(r56.1, IntKind.i64.wrap (v5 + 1)), h, of_weak (by kernel_rfl)⟩
            · have h := cond_f hb h
              refine r_condF hb rfl ?_
              refine r_skip ?_
              refine r_seq ?_
              refine r_seq ?_
              rcases Bool.eq_false_or_eq_true (decide (r56.2.1 < 0)) with hb | hb
              · have h := cond_t hb h
                have hs57 := hb
                refine r_reg (l := [(1, .u (.c (.sl false 4 (a1.map eD)))), (5, .u (.c (.v (.bool r1)))), (6, .u (.c (zoneC r56.1))), (8, .u (.c (.v (.int .i64 v5)))), (10, .u (.c (.v (.int .i64 r12)))), (12, .u (.c (.sl true 1 (y18v.2.1.map eI)))), (13, .u (.c (.v (.bool y18v.2.2.1)))), (21, .u (.c (.v (.int .i64 r56.2.1)))), (169, .u (.c (.v (.bool true))))]) (cg_then (ds := [161, 162]) 2 rfl (by kernel_rfl) (co_then 3 rfl (os_ge (d := 163) (t := .u (.c (.v (.bool (decide (r56.2.1 < 0)))))) (t' := .u (.c (.v (.bool true)))) (by kernel_rfl) (by rw [hs57])) (cg_then (ds := [164, 165, 166, 167, 168, 169]) 9 rfl (by kernel_rfl) (.nil)))) rfl (by kernel_rfl) ?_
                refine r_condT rfl rfl ?_
                refine r_seq ?_
                refine r_reg (l := [(4, .u (.c (.v (.bool false))))]) (cg_then (ds := [4]) 1 rfl (by kernel_rfl) (.nil)) rfl (by kernel_rfl) ?_
                refine r_ret ?_
                obtain rfl := Option.some.inj h
                exact ⟨.inr rfl, _, _, .cons (.copy rfl rfl rfl) (.nil), rfl, outs_of trivial⟩
              · have h := cond_f hb h
                have hs58 := hb
                refine r_reg (l := [(1, .u (.c (.sl false 4 (a1.map eD)))), (5, .u (.c (.v (.bool r1)))), (6, .u (.c (zoneC r56.1))), (8, .u (.c (.v (.int .i64 v5)))), (10, .u (.c (.v (.int .i64 r12)))), (12, .u (.c (.sl true 1 (y18v.2.1.map eI)))), (13, .u (.c (.v (.bool y18v.2.2.1)))), (21, .u (.c (.v (.int .i64 r56.2.1)))), (169, .u (.c (.v (.bool (decide ((IntKind.i64.wrap (r56.2.1.tdiv 8)) ≥ (y18v.2.1.length : Int)))))))]) (cg_then (ds := [161, 162]) 2 rfl (by kernel_rfl) (co_then 3 rfl (os_ge (d := 163) (t := .u (.c (.v (.bool (decide (r56.2.1 < 0)))))) (t' := .u (.c (.v (.bool false)))) (by kernel_rfl) (by rw [hs58])) (cg_then (ds := [164]) 4 rfl (by kernel_rfl) (co_then 5 rfl (os_to (os_gy rfl rfl rfl (by kernel_rfl) (s_div (op := .quo) (k := .i64) (p := r56.2.1) (q := 8) rfl (.inl rfl) (by kernel_rfl) (by kernel_rfl) (by decide) rfl (by kernel_rfl))) (t' := .u (.c (.v (.int .i64 (IntKind.i64.wrap (r56.2.1.tdiv 8)))))) (by kernel_rfl)) (cg_then (ds := [166]) 6 rfl (by kernel_rfl) (co_then 7 rfl (os_to (os_gy rfl rfl rfl (by kernel_rfl) (s_lenV (r := 12) (lo := 0) (n := (y18v.2.1.map eI).length) (pl := none) (sz := 1) rfl sl48 (by kernel_rfl) rfl (by kernel_rfl))) (t' := .u (.c (.v (.int .i64 (y18v.2.1.length : Int))))) (by rw [List.length_map])) (cg_then (ds := [168, 169]) 9 rfl (by kernel_rfl) (.nil)))))))) rfl (by kernel_rfl) ?_
                rcases Bool.eq_false_or_eq_true (decide ((IntKind.i64.wrap (r56.2.1.tdiv 8)) ≥ (y18v.2.1.length : Int))) with hb | hb
                · have h := cond_t hb h
                  refine r_condT hb rfl ?_
                  refine r_seq ?_
                  refine r_reg (l := [(4, .u (.c (.v (.bool false))))]) (cg_then (ds := [4]) 1 rfl (by kernel_rfl) (.nil)) rfl (by kernel_rfl) ?_
                  refine r_ret ?_
                  obtain rfl := Option.some.inj h
                  exact ⟨.inr rfl, _, _, .cons (.copy rfl rfl rfl) (.nil), rfl, outs_of trivial⟩
                · have h := cond_f hb h
                  refine r_condF hb rfl ?_
                  refine r_skip ?_
                  refine r_seq ?_
                  obtain ⟨r59, hr59, h⟩ := bind_some h
                  refine r_reg (l := [(1, .u (.c (.sl false 4 (a1.map eD)))), (5, .u (.c (.v (.bool r1)))), (6, .u (.c (zoneC r59.1))), (8, .u (.c (.v (.int .i64 v5)))), (10, .u (.c (.v (.int .i64 r12)))), (12, .u (.c (.sl true 1 (y18v.2.1.map eI)))), (13, .u (.c (.v (.bool y18v.2.2.1)))), (21, .u (.c (.v (.int .i64 r56.2.1)))), (23, .u (.c (.v (.int .i64 r59.2.1)))), (24, .u (.c (.err r59.2.2)))]) (cg_then (ds := [171, 172]) 2 rfl (by kernel_rfl) (co_then 3 rfl (os_to (os_plain rfl rfl (s_div (op := .quo) (k := .i64) (p := r56.2.1) (q := 8) rfl (.inl rfl) (by kernel_rfl) (by kernel_rfl) (by decide) rfl (by kernel_rfl))) (t' := .u (.c (.v (.int .i64 (IntKind.i64.wrap (r56.2.1.tdiv 8)))))) (by kernel_rfl)) (co_then 4 rfl (os_plain rfl rfl (c_call (AC.k (ZSort.ac (h := hr59))) ⟨_, Tryd.func19, rfl, by kernel_rfl⟩ rfl (hand_root (r := 6) (c := zoneC r56.1) (by kernel_rfl) (by kernel_rfl) rfl (.rd (.copy (by kernel_rfl) rfl) (.nil))) rfl (by kernel_rfl))) (co_then 5 rfl (os_plain rfl rfl (s_moveT (us := [.c (.v (.int .i64 r59.2.1)), .c (.err r59.2.2)]) (.inl rfl) (by kernel_rfl) rfl (by kernel_rfl))) (cg_then (ds := [175, 176, 23, 24]) 9 rfl (by kernel_rfl) (.nil)))))) rfl (by kernel_rfl) ?_
                  refine r_seq ?_
                  refine r_seq ?_
                  rcases Bool.eq_false_or_eq_true (!(r59.2.2 == none)) with hb | hb
                  · have h := cond_t hb h
                    have hs60 := hb
                    refine r_reg (l := [(1, .u (.c (.sl false 4 (a1.map eD)))), (5, .u (.c (.v (.bool r1)))), (6, .u (.c (zoneC r59.1))), (8, .u (.c (.v (.int .i64 v5)))), (12, .u (.c (.sl true 1 (y18v.2.1.map eI)))), (21, .u (.c (.v (.int .i64 r56.2.1)))), (201, .u (.c (.v (.bool true))))]) (cg_then (ds := [177, 178]) 2 rfl (by kernel_rfl) (co_then 3 rfl (os_ge (d := 179) (t := .u (.c (.v (.bool (!(r59.2.2 == none)))))) (t' := .u (.c (.v (.bool true)))) (by kernel_rfl) (by rw [hs60])) (cg_then (ds := [180, 181, 182, 183, 184, 185, 186, 187, 188, 189, 190, 191, 192, 193, 194, 195, 196, 197, 198, 199, 200, 201]) 25 rfl (by kernel_rfl) (.nil)))) rfl (by kernel_rfl) ?_
                    refine r_condT rfl rfl ?_
                    refine r_seq ?_
                    refine r_reg (l := [(4, .u (.c (.v (.bool false))))]) (cg_then (ds := [4]) 1 rfl (by kernel_rfl) (.nil)) rfl (by kernel_rfl) ?_
                    refine r_ret ?_
                    obtain rfl := Option.some.inj h
                    exact ⟨.inr rfl, _, _, .cons (.copy rfl rfl rfl) (.nil), rfl, outs_of trivial⟩
                  · have h := cond_f hb h
                    have hs61 := hb
                    obtain ⟨r62, hr62, h⟩ := bind_some h
                    rcases Bool.eq_false_or_eq_true (r62.2) with hb | hb
                    · have h := cond_t hb h
                      have hs63 := hb
                      refine r_reg (l := [(1, .u (.c (.sl false 4 (a1.map eD)))), (5, .u (.c (.v (.bool r1)))), (6, .u (.c (zoneC r62.1))), (8, .u (.c (.v (.int .i64 v5)))), (12, .u (.c (.sl true 1 (y18v.2.1.map eI)))), (21, .u (.c (.v (.int .i64 r56.2.1)))), (201, .u (.c (.v (.bool true))))]) (cg_then (ds := [177, 178]) 2 rfl (by kernel_rfl) (co_then 3 rfl (os_ge (d := 179) (t := .u (.c (.v (.bool (!(r59.2.2 == none)))))) (t' := .u (.c (.v (.bool false)))) (by kernel_rfl) (by rw [hs61])) (cg_then (ds := [180, 181]) 5 rfl (by kernel_rfl) (co_then 6 rfl (os_to (os_gy rfl rfl rfl (by kernel_rfl) (s_div (op := .quo) (k := .i64) (p := r56.2.1) (q := 8) rfl (.inl rfl) (by kernel_rfl) (by kernel_rfl) (by decide) rfl (by kernel_rfl))) (t' := .u (.c (.v (.int .i64 (IntKind.i64.wrap (r56.2.1.tdiv 8)))))) (by kernel_rfl)) (co_then 7 rfl (os_gy rfl rfl rfl (by kernel_rfl) (c_call (AC.k (ZClosed.ac (h := hr62))) ⟨_, Tryd.func18, rfl, by kernel_rfl⟩ rfl (hand_root (r := 6) (c := zoneC r59.1) (by kernel_rfl) (by kernel_rfl) rfl (.rd (.copy (by kernel_rfl) rfl) (.nil))) rfl (by kernel_rfl))) (cg_then (ds := [184]) 8 rfl (by kernel_rfl) (co_then 9 rfl (os_ge (d := 185) (t := .u (.c (.v (.bool r62.2)))) (t' := .u (.c (.v (.bool true)))) (by kernel_rfl) (by rw [hs63])) (cg_then (ds := [186, 187, 188, 189, 190, 191, 192, 193, 194, 195, 196, 197, 198, 199, 200, 201]) 25 rfl (by kernel_rfl) (.nil))))))))) rfl (by kernel_rfl) ?_
                      refine r_condT rfl rfl ?_
                      refine r_seq ?_
                      refine r_reg (l := [(4, .u (.c (.v (.bool false))))]) (cg_then (ds := [4]) 1 rfl (by kernel_rfl) (.nil)) rfl (by kernel_rfl) ?_
                      refine r_ret ?_
                      obtain rfl := Option.some.inj h
                      exact ⟨.inr rfl, _, _, .cons (.copy rfl rfl rfl) (.nil), rfl, outs_of trivial⟩
                    · have h := cond_f hb h
                      have hs64 := hb
                      rcases Bool.eq_false_or_eq_true (y18v.2.2.1) with hb | hb
                      · have h := cond_t hb h
                        have hs65 := hb
                        obtain ⟨hg66, h⟩ := guard_some h
                        simp only [Bool.and_eq_true, decide_eq_true_eq] at hg66
                        rcases Bool.eq_false_or_eq_true ((y18v.2.1.getD (((IntKind.i64.wrap (r56.2.1.tdiv 8))).toNat) (0 : Int)) != r12) with hb | hb
                        · have h := cond_t hb h
                          have hs67 := hb
                          refine r_reg (l := [(1, .u (.c (.sl false 4 (a1.map eD)))), (5, .u (.c (.v (.bool r1)))), (6, .u (.c (zoneC r62.1))), (8, .u (.c (.v (.int .i64 v5)))), (12, .u (.c (.sl true 1 (y18v.2.1.map eI)))), (21, .u (.c (.v (.int .i64 r56.2.1)))), (201, .u (.c (.v (.bool true))))]) (cg_then (ds := [177, 178]) 2 rfl (by kernel_rfl) (co_then 3 rfl (os_ge (d := 179) (t := .u (.c (.v (.bool (!(r59.2.2 == none)))))) (t' := .u (.c (.v (.bool false)))) (by kernel_rfl) (by rw [hs61])) (cg_then (ds := [180, 181]) 5 rfl (by kernel_rfl) (co_then 6 rfl (os_to (os_gy rfl rfl rfl (by kernel_rfl) (s_div (op := .quo) (k := .i64) (p := r56.2.1) (q := 8) rfl (.inl rfl) (by kernel_rfl) (by kernel_rfl) (by decide) rfl (by kernel_rfl))) (t' := .u (.c (.v (.int .i64 (IntKind.i64.wrap (r56.2.1.tdiv 8)))))) (by kernel_rfl)) (co_then 7 rfl (os_gy rfl rfl rfl (by kernel_rfl) (c_call (AC.k (ZClosed.ac (h := hr62))) ⟨_, Tryd.func18, rfl, by kernel_rfl⟩ rfl (hand_root (r := 6) (c := zoneC r59.1) (by kernel_rfl) (by kernel_rfl) rfl (.rd (.copy (by kernel_rfl) rfl) (.nil))) rfl (by kernel_rfl))) (cg_then (ds := [184]) 8 rfl (by kernel_rfl) (co_then 9 rfl (os_ge (d := 185) (t := .u (.c (.v (.bool r62.2)))) (t' := .u (.c (.v (.bool false)))) (by kernel_rfl) (by rw [hs64])) (cg_then (ds := [186]) 10 rfl (by kernel_rfl) (co_then 11 rfl (os_ge (d := 187) (t := .u (.c (.v (.bool y18v.2.2.1)))) (t' := .u (.c (.v (.bool true)))) (by kernel_rfl) (by rw [hs65])) (cg_then (ds := [188, 189]) 13 rfl (by kernel_rfl) (co_then 14 rfl (os_to (os_gy rfl rfl rfl (by kernel_rfl) (s_div (op := .quo) (k := .i64) (p := r56.2.1) (q := 8) rfl (.inl rfl) (by kernel_rfl) (by kernel_rfl) (by decide) rfl (by kernel_rfl))) (t' := .u (.c (.v (.int .i64 (IntKind.i64.wrap (r56.2.1.tdiv 8)))))) (by kernel_rfl)) (co_then 15 rfl (os_gy rfl rfl rfl (by kernel_rfl) (s_indexV (r := 12) (lo := 0) (n := (y18v.2.1.map eI).length) (pl := none) (sz := 1) (e := (IntKind.i64.wrap (r56.2.1.tdiv 8))) (ik := .i64) (k := ((IntKind.i64.wrap (r56.2.1.tdiv 8))).toNat) rfl sl48 (by kernel_rfl) (.tmp (by kernel_rfl)) hg66.1 (by rw [List.length_map]; exact hg66.2) (Nat.zero_add _) rfl (by kernel_rfl) (by kernel_rfl))) (co_then 16 rfl (os_gy rfl rfl rfl (by kernel_rfl) (s_load1 (x := .v (.int .i64 (y18v.2.1.getD (((IntKind.i64.wrap (r56.2.1.tdiv 8))).toNat) (0 : Int)))) (r := 12) (off := 0) (s := .i (((IntKind.i64.wrap (r56.2.1.tdiv 8))).toNat) 1) (p := []) (c := .sl true 1 (y18v.2.1.map eI)) (cs := eI (y18v.2.1.getD (((IntKind.i64.wrap (r56.2.1.tdiv 8))).toNat) (0 : Int))) rfl (oneB_ok (by kernel_rfl)) (by kernel_rfl) (by kernel_rfl) (getP_map (0 : Int) (by have := hg66; omega)) rfl rfl rfl (by kernel_rfl))) (cg_then (ds := [193, 194, 195, 196]) 20 rfl (by kernel_rfl) (co_then 21 rfl (os_ge (d := 197) (t := .u (.c (.v (.bool ((y18v.2.1.getD (((IntKind.i64.wrap (r56.2.1.tdiv 8))).toNat) (0 : Int)) != r12))))) (t' := .u (.c (.v (.bool true)))) (by kernel_rfl) (by rw [hs67])) (cg_then (ds := [198, 199, 200, 201]) 25 rfl (by kernel_rfl) (.nil))))))))))))))))) rfl (by kernel_rfl) ?_
                          refine r_condT rfl rfl ?_
                          refine r_seq ?_
                          refine r_reg (l := [(4, .u (.c (.v (.bool false))))]) (cg_then (ds := [4]) 1 rfl (by kernel_rfl) (.nil)) rfl (by kernel_rfl) ?_
                          refine r_ret ?_
                          obtain rfl := Option.some.inj h
                          exact ⟨.inr rfl, _, _, .cons (.copy rfl rfl rfl) (.nil), rfl, outs_of trivial⟩
                        · have h := cond_f hb h
                          have hs68 := hb
                          refine r_reg (l := [(1, .u (.c (.sl false 4 (a1.map eD)))), (5, .u (.c (.v (.bool r1)))), (6, .u (.c (zoneC r62.1))), (8, .u (.c (.v (.int .i64 v5)))), (12, .u (.c (.sl true 1 (y18v.2.1.map eI)))), (21, .u (.c (.v (.int .i64 r56.2.1)))), (201, .u (.c (.v (.bool (r59.2.1 != r12)))))]) (cg_then (ds := [177, 178]) 2 rfl (by kernel_rfl) (co_then 3 rfl (os_ge (d := 179) (t := .u (.c (.v (.bool (!(r59.2.2 == none)))))) (t' := .u (.c (.v (.bool false)))) (by kernel_rfl) (by rw [hs61])) (cg_then (ds := [180, 181]) 5 rfl (by kernel_rfl) (co_then 6 rfl (os_to (os_gy rfl rfl rfl (by kernel_rfl) (s_div (op := .quo) (k := .i64) (p := r56.2.1) (q := 8) rfl (.inl rfl) (by kernel_rfl) (by kernel_rfl) (by decide) rfl (by kernel_rfl))) (t' := .u (.c (.v (.int .i64 (IntKind.i64.wrap (r56.2.1.tdiv 8)))))) (by kernel_rfl)) (co_then 7 rfl (os_gy rfl rfl rfl (by kernel_rfl) (c_call (AC.k (ZClosed.ac (h := hr62))) ⟨_, Tryd.func18, rfl, by kernel_rfl⟩ rfl (hand_root (r := 6) (c := zoneC r59.1) (by kernel_rfl) (by kernel_rfl) rfl (.rd (.copy (by kernel_rfl) rfl) (.nil))) rfl (by kernel_rfl))) (cg_then (ds := [184]) 8 rfl (by kernel_rfl) (co_then 9 rfl (os_ge (d := 185) (t := .u (.c (.v (.bool r62.2)))) (t' := .u (.c (.v (.bool false)))) (by kernel_rfl) (by rw [hs64])) (cg_then (ds := [186]) 10 rfl (by kernel_rfl) (co_then 11 rfl (os_ge (d := 187) (t := .u (.c (.v (.bool y18v.2.2.1)))) (t' := .u (.c (.v (.bool true)))) (by kernel_rfl) (by rw [hs65])) (cg_then (ds := [188, 189]) 13 rfl (by kernel_rfl) (co_then 14 rfl (os_to (os_gy rfl rfl rfl (by kernel_rfl) (s_div (op := .quo) (k := .i64) (p := r56.2.1) (q := 8) rfl (.inl rfl) (by kernel_rfl) (by kernel_rfl) (by decide) rfl (by kernel_rfl))) (t' := .u (.c (.v (.int .i64 (IntKind.i64.wrap (r56.2.1.tdiv 8)))))) (by kernel_rfl)) (co_then 15 rfl (os_gy rfl rfl rfl (by kernel_rfl) (s_indexV (r := 12) (lo := 0) (n := (y18v.2.1.map eI).length) (pl := none) (sz := 1) (e := (IntKind.i64.wrap (r56.2.1.tdiv 8))) (ik := .i64) (k := ((IntKind.i64.wrap (r56.2.1.tdiv 8))).toNat) rfl sl48 (by kernel_rfl) (.tmp (by kernel_rfl)) hg66.1 (by rw [List.length_map]; exact hg66.2) (Nat.zero_add _) rfl (by kernel_rfl) (by kernel_rfl))) (co_then 16 rfl (os_gy rfl rfl rfl (by kernel_rfl) (s_load1 (x := .v (.int .i64 (y18v.2.1.getD (((IntKind.i64.wrap (r56.2.1.tdiv 8))).toNat) (0 : Int)))) (r := 12) (off := 0) (s := .i (((IntKind.i64.wrap (r56.2.1.tdiv 8))).toNat) 1) (p := []) (c := .sl true 1 (y18v.2.1.map eI)) (cs := eI (y18v.2.1.getD (((IntKind.i64.wrap (r56.2.1.tdiv 8))).toNat) (0 : Int))) rfl (oneB_ok (by kernel_rfl)) (by kernel_rfl) (by kernel_rfl) (getP_map (0 : Int) (by have := hg66; omega)) rfl rfl rfl (by kernel_rfl))) (cg_then (ds := [193, 194, 195, 196]) 20 rfl (by kernel_rfl) (co_then 21 rfl (os_ge (d := 197) (t := .u (.c (.v (.bool ((y18v.2.1.getD (((IntKind.i64.wrap (r56.2.1.tdiv 8))).toNat) (0 : Int)) != r12))))) (t' := .u (.c (.v (.bool false)))) (by kernel_rfl) (by rw [hs68])) (cg_then (ds := [198, 199, 200, 201]) 25 rfl (by kernel_rfl) (.nil))))))))))))))))) rfl (by kernel_rfl) ?_
                          rcases Bool.eq_false_or_eq_true (r59.2.1 != r12) with hb | hb
                          · have h := cond_t hb h
                            refine r_condT hb rfl ?_
                            refine r_seq ?_
                            refine r_reg (l := [(4, .u (.c (.v (.bool false))))]) (cg_then (ds := [4]) 1 rfl (by kernel_rfl) (.nil)) rfl (by kernel_rfl) ?_
                            refine r_ret ?_
                            obtain rfl := Option.some.inj h
                            exact ⟨.inr rfl, _, _, .cons (.copy rfl rfl rfl) (.nil), rfl, outs_of trivial⟩
                          · have h := cond_f hb h
                            refine r_condF hb rfl ?_
                            refine r_skip ?_
                            refine r_seq ?_
                            refine r_reg (l := [(1, .u (.c (.sl false 4 (a1.map eD)))), (5, .u (.c (.v (.bool r1)))), (6, .u (.c (zoneC r62.1))), (8, .u (.c (.v (.int .i64 v5)))), (12, .u (.c (.sl true 1 (y18v.2.1.map eI)))), (21, .u (.c (.v (.int .i64 r56.2.1)))), (25, .u (.c (.v (.int .i64 0))))]) (cg_then (ds := [25]) 1 rfl (by kernel_rfl) (.nil)) rfl (by kernel_rfl) ?_
                            refine r_block ?_
                            refine r_weak (of_weak (l := [(1, .u (.c (.sl false 4 (a1.map eD)))), (5, .u (.c (.v (.bool r1)))), (6, .u (.c (zoneC r62.1))), (8, .u (.c (.v (.int .i64 v5)))), (12, .u (.c (.sl true 1 (y18v.2.1.map eI)))), (21, .u (.c (.v (.int .i64 r56.2.1)))), (25, .u (.c (.v (.int .i64 0))))]) (by kernel_rfl)) ?_
                            obtain ⟨y71, hy71, h_y71⟩ := bind_some h
                            refine r_loopI (α := Zon × Int) (fun x => [(1, .u (.c (.sl false 4 (a1.map eD)))), (5, .u (.c (.v (.bool r1)))), (6, .u (.c (zoneC x.1))), (8, .u (.c (.v (.int .i64 v5)))), (12, .u (.c (.sl true 1 (y18v.2.1.map eI)))), (21, .u (.c (.v (.int .i64 r56.2.1)))), (25, .u (.c (.v (.int .i64 x.2))))]) (fun n x => ZoneApart.l6 k a0 a1 r1 r2 r3 v4 v5 r8 r12 r13 y18v r56 r59 r62 n x.1 x.2 = some y71) k (r62.1, 0) hy71 (by intro x h; unfold ZoneApart.l6 at h; cases h) ?_
                            rintro n6 ⟨v69, v70⟩ h
                            replace h : ZoneApart.l6 k a0 a1 r1 r2 r3 v4 v5 r8 r12 r13 y18v r56 r59 r62 (n6 + 1) v69 v70 = some y71 := h
                            unfold ZoneApart.l6 at h
                            show Run _ _ _ (St.of [(1, .u (.c (.sl false 4 (a1.map eD)))), (5, .u (.c (.v (.bool r1)))), (6, .u (.c (zoneC v69))), (8, .u (.c (.v (.int .i64 v5)))), (12, .u (.c (.sl true 1 (y18v.2.1.map eI)))), (21, .u (.c (.v (.int .i64 r56.2.1)))), (25, .u (.c (.v (.int .i64 v70))))]) _
                            refine r_seq ?_
                            refine r_seq ?_
                            refine r_reg (l := [(1, .u (.c (.sl false 4 (a1.map eD)))), (5, .u (.c (.v (.bool r1)))), (6, .u (.c (zoneC v69))), (8, .u (.c (.v (.int .i64 v5)))), (12, .u (.c (.sl true 1 (y18v.2.1.map eI)))), (21, .u (.c (.v (.int .i64 r56.2.1)))), (25, .u (.c (.v (.int .i64 v70)))), (205, .u (.c (.v (.bool (decide (v70 < (y18v.2.1.length : Int)))))))]) (cg_then (ds := [202, 203]) 2 rfl (by kernel_rfl) (co_then 3 rfl (os_to (os_plain rfl rfl (s_lenV (r := 12) (lo := 0) (n := (y18v.2.1.map eI).length) (pl := none) (sz := 1) rfl sl48 (by kernel_rfl) rfl (by kernel_rfl))) (t' := .u (.c (.v (.int .i64 (y18v.2.1.length : Int))))) (by rw [List.length_map])) (cg_then (ds := [205]) 4 rfl (by kernel_rfl) (.nil)))) rfl (by kernel_rfl) ?_
                            rcases Bool.eq_false_or_eq_true (decide (v70 < (y18v.2.1.length : Int))) with hb | hb
                            · have h := cond_t hb h
                              refine r_condT hb rfl ?_
                              refine r_skip ?_
                              refine r_seq ?_
                              refine r_block ?_
                              refine r_seq ?_
                              obtain ⟨r72, hr72, h⟩ := bind_some h
                              refine r_reg (l := [(1, .u (.c (.sl false 4 (a1.map eD)))), (5, .u (.c (.v (.bool r1)))), (6, .u (.c (zoneC r72.1))), (8, .u (.c (.v (.int .i64 v5)))), (12, .u (.c (.sl true 1 (y18v.2.1.map eI)))), (21, .u (.c (.v (.int .i64 r56.2.1)))), (25, .u (.c (.v (.int .i64 v70)))), (26, .u (.c (.v (.int .i64 r72.2.1)))), (27, .u (.c (.err r72.2.2)))]) (cg_then (ds := [209, 210]) 2 rfl (by kernel_rfl) (co_then 3 rfl (os_plain rfl rfl (c_call (AC.k (ZSort.ac (h := hr72))) ⟨_, Tryd.func19, rfl, by kernel_rfl⟩ rfl (hand_root (r := 6) (c := zoneC v69) (by kernel_rfl) (by kernel_rfl) rfl (.rd (.copy (by kernel_rfl) rfl) (.nil))) rfl (by kernel_rfl))) (co_then 4 rfl (os_plain rfl rfl (s_moveT (us := [.c (.v (.int .i64 r72.2.1)), .c (.err r72.2.2)]) (.inl rfl) (by kernel_rfl) rfl (by kernel_rfl))) (cg_then (ds := [212, 213, 26, 27]) 8 rfl (by kernel_rfl) (.nil))))) rfl (by kernel_rfl) ?_
                              refine r_seq ?_
                              rcases Bool.eq_false_or_eq_true (!(r72.2.2 == none)) with hb | hb
                              · have h := cond_t hb h
                                have hs73 := hb
                                refine r_reg (l := [(1, .u (.c (.sl false 4 (a1.map eD)))), (5, .u (.c (.v (.bool r1)))), (6, .u (.c (zoneC r72.1))), (8, .u (.c (.v (.int .i64 v5)))), (12, .u (.c (.sl true 1 (y18v.2.1.map eI)))), (21, .u (.c (.v (.int .i64 r56.2.1)))), (25, .u (.c (.v (.int .i64 v70)))), (229, .u (.c (.v (.bool true))))]) (cg_then (ds := [214, 215]) 2 rfl (by kernel_rfl) (co_then 3 rfl (os_ge (d := 216) (t := .u (.c (.v (.bool (!(r72.2.2 == none)))))) (t' := .u (.c (.v (.bool true)))) (by kernel_rfl) (by rw [hs73])) (cg_then (ds := [217, 218, 219, 220, 221, 222, 223, 224, 225, 226, 227, 228, 229]) 16 rfl (by kernel_rfl) (.nil)))) rfl (by kernel_rfl) ?_
                                refine r_condT rfl rfl ?_
                                refine r_seq ?_
                                refine r_reg (l := [(4, .u (.c (.v (.bool false))))]) (cg_then (ds := [4]) 1 rfl (by kernel_rfl) (.nil)) rfl (by kernel_rfl) ?_
                                obtain rfl := Option.some.inj h
                                have h : Option.some _ = Option.some r := h_y71
                                refine r_ret ?_
                                obtain rfl := Option.some.inj h
                                exact ⟨.inr rfl, _, _, .cons (.copy rfl rfl rfl) (.nil), rfl, outs_of trivial⟩
                              · have h := cond_f hb h
                                have hs74 := hb
                                rcases Bool.eq_false_or_eq_true (v70 != (IntKind.i64.wrap (r56.2.1.tdiv 8))) with hb | hb
                                · have h := cond_t hb h
                                  have hs75 := hb
                                  obtain ⟨hg76, h⟩ := guard_some h
                                  simp only [Bool.and_eq_true, decide_eq_true_eq] at hg76
                                  refine r_reg (l := [(1, .u (.c (.sl false 4 (a1.map eD)))), (5, .u (.c (.v (.bool r1)))), (6, .u (.c (zoneC r72.1))), (8, .u (.c (.v (.int .i64 v5)))), (12, .u (.c (.sl true 1 (y18v.2.1.map eI)))), (21, .u (.c (.v (.int .i64 r56.2.1)))), (25, .u (.c (.v (.int .i64 v70)))), (229, .u (.c (.v (.bool (r72.2.1 != (y18v.2.1.getD ((v70).toNat) (0 : Int)))))))]) (cg_then (ds := [214, 215]) 2 rfl (by kernel_rfl) (co_then 3 rfl (os_ge (d := 216) (t := .u (.c (.v (.bool (!(r72.2.2 == none)))))) (t' := .u (.c (.v (.bool false)))) (by kernel_rfl) (by rw [hs74])) (cg_then (ds := [217, 218]) 5 rfl (by kernel_rfl) (co_then 6 rfl (os_to (os_gy rfl rfl rfl (by kernel_rfl) (s_div (op := .quo) (k := .i64) (p := r56.2.1) (q := 8) rfl (.inl rfl) (by kernel_rfl) (by kernel_rfl) (by decide) rfl (by kernel_rfl))) (t' := .u (.c (.v (.int .i64 (IntKind.i64.wrap (r56.2.1.tdiv 8)))))) (by kernel_rfl)) (cg_then (ds := [220]) 7 rfl (by kernel_rfl) (co_then 8 rfl (os_ge (d := 221) (t := .u (.c (.v (.bool (v70 != (IntKind.i64.wrap (r56.2.1.tdiv 8))))))) (t' := .u (.c (.v (.bool true)))) (by kernel_rfl) (by rw [hs75])) (cg_then (ds := [222, 223, 224]) 11 rfl (by kernel_rfl) (co_then 12 rfl (os_gy rfl rfl rfl (by kernel_rfl) (s_indexV (r := 12) (lo := 0) (n := (y18v.2.1.map eI).length) (pl := none) (sz := 1) (e := v70) (ik := .i64) (k := (v70).toNat) rfl sl48 (by kernel_rfl) (.tmp (by kernel_rfl)) hg76.1 (by rw [List.length_map]; exact hg76.2) (Nat.zero_add _) rfl (by kernel_rfl) (by kernel_rfl))) (co_then 13 rfl (os_gy rfl rfl rfl (by kernel_rfl) (s_load1 (x := .v (.int .i64 (y18v.2.1.getD ((v70).toNat) (0 : Int)))) (r := 12) (off := 0) (s := .i ((v70).toNat) 1) (p := []) (c := .sl true 1 (y18v.2.1.map eI)) (cs := eI (y18v.2.1.getD ((v70).toNat) (0 : Int))) rfl (oneB_ok (by kernel_rfl)) (by kernel_rfl) (by kernel_rfl) (getP_map (0 : Int) (by have := hg76; omega)) rfl rfl rfl (by kernel_rfl))) (cg_then (ds := [227, 228, 229]) 16 rfl (by kernel_rfl) (.nil))))))))))) rfl (by kernel_rfl) ?_
                                  rcases Bool.eq_false_or_eq_true (r72.2.1 != (y18v.2.1.getD ((v70).toNat) (0 : Int))) with hb | hb
                                  · have h := cond_t hb h
                                    refine r_condT hb rfl ?_
                                    refine r_seq ?_
                                    refine r_reg (l := [(4, .u (.c (.v (.bool false))))]) (cg_then (ds := [4]) 1 rfl (by kernel_rfl) (.nil)) rfl (by kernel_rfl) ?_
                                    obtain rfl := Option.some.inj h
                                    have h : Option.some _ = Option.some r := h_y71
                                    refine r_ret ?_
                                    obtain rfl := Option.some.inj h
                                    exact ⟨.inr rfl, _, _, .cons (.copy rfl rfl rfl) (.nil), rfl, outs_of trivial⟩
                                  · have h := cond_f hb h
                                    refine r_condF hb rfl ?_
                                    refine r_skip ?_
                                    refine r_reg (l := [(1, .u (.c (.sl false 4 (a1.map eD)))), (5, .u (.c (.v (.bool r1)))), (6, .u (.c (zoneC r72.1))), (8, .u (.c (.v (.int .i64 v5)))), (12, .u (.c (.sl true 1 (y18v.2.1.map eI)))), (21, .u (.c (.v (.int .i64 r56.2.1)))), (25, .u (.c (.v (.int .i64 (IntKind.i64.wrap (v70 + 1))))))]) (cg_then (ds := [206, 207, 25]) 3 rfl (by kernel_rfl) (.nil)) rfl (by kernel_rfl) ?_
                                    exact ⟨(r72.1, IntKind.i64.wrap (v70 + 1)), h, of_weak (by kernel_rfl)⟩
                                · have h := cond_f hb h
                                  have hs77 := hb
                                  refine r_reg (l := [(1, .u (.c (.sl false 4 (a1.map eD)))), (5, .u (.c (.v (.bool r1)))), (6, .u (.c (zoneC r72.1))), (8, .u (.c (.v (.int .i64 v5)))), (12, .u (.c (.sl true 1 (y18v.2.1.map eI)))), (21, .u (.c (.v (.int .i64 r56.2.1)))), (25, .u (.c (.v (.int .i64 v70)))), (229, .u (.c (.v (.bool false))))]) (cg_then (ds := [214, 215]) 2 rfl (by kernel_rfl) (co_then 3 rfl (os_ge (d := 216) (t := .u (.c (.v (.bool (!(r72.2.2 == none)))))) (t' := .u (.c (.v (.bool false)))) (by kernel_rfl) (by rw [hs74])) (cg_then (ds := [217, 218]) 5 rfl (by kernel_rfl) (co_then 6 rfl (os_to (os_gy rfl rfl rfl (by kernel_rfl) (s_div (op := .quo) (k := .i64) (p := r56.2.1) (q := 8) rfl (.inl rfl) (by kernel_rfl) (by kernel_rfl) (by decide) rfl (by kernel_rfl))) (t' := .u (.c (.v (.int .i64 (IntKind.i64.wrap (r56.2.1.tdiv 8)))))) (by kernel_rfl)) (cg_then (ds := [220]) 7 rfl (by kernel_rfl) (co_then 8 rfl (os_ge (d := 221) (t := .u (.c (.v (.bool (v70 != (IntKind.i64.wrap (r56.2.1.tdiv 8))))))) (t' := .u (.c (.v (.bool false)))) (by kernel_rfl) (by rw [hs77])) (cg_then (ds := [222, 223, 224, 225, 226, 227, 228, 229]) 16 rfl (by kernel_rfl) (.nil)))))))) rfl (by kernel_rfl) ?_
                                  refine r_condF rfl rfl ?_
                                  refine r_skip ?_
                                  refine r_reg (l := [(1, .u (.c (.sl false 4 (a1.map eD)))), (5, .u (.c (.v (.bool r1)))), (6, .u (.c (zoneC r72.1))), (8, .u (.c (.v (.int .i64 v5)))), (12, .u (.c (.sl true 1 (y18v.2.1.map eI)))), (21, .u (.c (.v (.int .i64 r56.2.1)))), (25, .u (.c (.v (.int .i64 (IntKind.i64.wrap (v70 + 1))))))]) (cg_then (ds := [206, 207, 25]) 3 rfl (by kernel_rfl) (.nil)) rfl (by kernel_rfl) ?_
                                  exact ⟨(r72.1, IntKind.i64.wrap (v70 + 1)), h, of_weak (by kernel_rfl)⟩
                            · have h := cond_f hb h
                              refine r_condF hb rfl ?_
                              refine r_weak (of_weak (l := [(1, .u (.c (.sl false 4 (a1.map eD)))), (5, .u (.c (.v (.bool r1)))), (6, .u (.c (zoneC v69))), (8, .u (.c (.v (.int .i64 v5))))]) (by kernel_rfl)) ?_
                              obtain rfl := Option.some.inj h
                              obtain ⟨y71v, hhy71v, h⟩ := elim_inl h_y71
                              try dsimp only at h
                              refine run_cast (α := Zon × Int) (fun x => [(1, .u (.c (.sl false 4 (a1.map eD)))), (5, .u (.c (.v (.bool r1)))), (6, .u (.c (zoneC x.1))), (8, .u (.c (.v (.int .i64 v5))))]) (x := (v69, v70)) (y := y71v) hhy71v ?_
                              refine r_exit ?_
                              refine r_reg (l := [(1, .u (.c (.sl false 4 (a1.map eD)))), (5, .u (.c (.v (.bool r1)))), (6, .u (.c (zoneC y71v.1))), (8, .u (.c (.v (.int .i64 (IntKind.i64.wrap (v5 + 1))))))]) (cg_then (ds := [51, 52, 8]) 3 rfl (by kernel_rfl) (.nil)) rfl (by kernel_rfl) ?_
                              exact ⟨(y71v.1, IntKind.i64.wrap (v5 + 1)), h, of_weak (by kernel_rfl)⟩
                      · have h := cond_f hb h
                        have hs78 := hb
                        refine r_reg (l := [(1, .u (.c (.sl false 4 (a1.map eD)))), (5, .u (.c (.v (.bool r1)))), (6, .u (.c (zoneC r62.1))), (8, .u (.c (.v (.int .i64 v5)))), (12, .u (.c (.sl true 1 (y18v.2.1.map eI)))), (21, .u (.c (.v (.int .i64 r56.2.1)))), (201, .u (.c (.v (.bool (r59.2.1 != r12)))))]) (cg_then (ds := [177, 178]) 2 rfl (by kernel_rfl) (co_then 3 rfl (os_ge (d := 179) (t := .u (.c (.v (.bool (!(r59.2.2 == none)))))) (t' := .u (.c (.v (.bool false)))) (by kernel_rfl) (by rw [hs61])) (cg_then (ds := [180, 181]) 5 rfl (by kernel_rfl) (co_then 6 rfl (os_to (os_gy rfl rfl rfl (by kernel_rfl) (s_div (op := .quo) (k := .i64) (p := r56.2.1) (q := 8) rfl (.inl rfl) (by kernel_rfl) (by kernel_rfl) (by decide) rfl (by kernel_rfl))) (t' := .u (.c (.v (.int .i64 (IntKind.i64.wrap (r56.2.1.tdiv 8)))))) (by kernel_rfl)) (co_then 7 rfl (os_gy rfl rfl rfl (by kernel_rfl) (c_call (AC.k (ZClosed.ac (h := hr62))) ⟨_, Tryd.func18, rfl, by kernel_rfl⟩ rfl (hand_root (r := 6) (c := zoneC r59.1) (by kernel_rfl) (by kernel_rfl) rfl (.rd (.copy (by kernel_rfl) rfl) (.nil))) rfl (by kernel_rfl))) (cg_then (ds := [184]) 8 rfl (by kernel_rfl) (co_then 9 rfl (os_ge (d := 185) (t := .u (.c (.v (.bool r62.2)))) (t' := .u (.c (.v (.bool false)))) (by kernel_rfl) (by rw [hs64])) (cg_then (ds := [186]) 10 rfl (by kernel_rfl) (co_then 11 rfl (os_ge (d := 187) (t := .u (.c (.v (.bool y18v.2.2.1)))) (t' := .u (.c (.v (.bool false)))) (by kernel_rfl) (by rw [hs78])) (cg_then (ds := [188, 189, 190, 191, 192, 193, 194, 195, 196, 197, 198, 199, 200, 201]) 25 rfl (by kernel_rfl) (.nil))))))))))) rfl (by kernel_rfl) ?_
                        rcases Bool.eq_false_or_eq_true (r59.2.1 != r12) with hb | hb
                        · have h := cond_t hb h
                          refine r_condT hb rfl ?_
                          refine r_seq ?_
                          refine r_reg (l := [(4, .u (.c (.v (.bool false))))]) (cg_then (ds := [4]) 1 rfl (by kernel_rfl) (.nil)) rfl (by kernel_rfl) ?_
                          refine r_ret ?_
                          obtain rfl := Option.some.inj h
                          exact ⟨.inr rfl, _, _, .cons (.copy rfl rfl rfl) (.nil), rfl, outs_of trivial⟩
                        · have h := cond_f hb h
                          refine r_condF hb rfl ?_
                          refine r_skip ?_
                          refine r_seq ?_
                          refine r_reg (l := [(1, .u (.c (.sl false 4 (a1.map eD)))), (5, .u (.c (.v (.bool r1)))), (6, .u (.c (zoneC r62.1))), (8, .u (.c (.v (.int .i64 v5)))), (12, .u (.c (.sl true 1 (y18v.2.1.map eI)))), (21, .u (.c (.v (.int .i64 r56.2.1)))), (25, .u (.c (.v (.int .i64 0))))]) (cg_then (ds := [25]) 1 rfl (by kernel_rfl) (.nil)) rfl (by kernel_rfl) ?_
                          refine r_block ?_
                          refine r_weak (of_weak (l := [(1, .u (.c (.sl false 4 (a1.map eD)))), (5, .u (.c (.v (.bool r1)))), (6, .u (.c (zoneC r62.1))), (8, .u (.c (.v (.int .i64 v5)))), (12, .u (.c (.sl true 1 (y18v.2.1.map eI)))), (21, .u (.c (.v (.int .i64 r56.2.1)))), (25, .u (.c (.v (.int .i64 0))))]) (by kernel_rfl)) ?_
                          obtain ⟨y81, hy81, h_y81⟩ := bind_some h
                          refine r_loopI (α := Zon × Int) (fun x => [(1, .u (.c (.sl false 4 (a1.map eD)))), (5, .u (.c (.v (.bool r1)))), (6, .u (.c (zoneC x.1))), (8, .u (.c (.v (.int .i64 v5)))), (12, .u (.c (.sl true 1 (y18v.2.1.map eI)))), (21, .u (.c (.v (.int .i64 r56.2.1)))), (25, .u (.c (.v (.int .i64 x.2))))]) (fun n x => ZoneApart.l7 k a0 a1 r1 r2 r3 v4 v5 r8 r12 r13 y18v r56 r59 r62 n x.1 x.2 = some y81) k (r62.1, 0) hy81 (by intro x h; unfold ZoneApart.l7 at h; cases h) ?_
                          rintro n7 ⟨v79, v80⟩ h
                          replace h : ZoneApart.l7 k a0 a1 r1 r2 r3 v4 v5 r8 r12 r13 y18v r56 r59 r62 (n7 + 1) v79 v80 = some y81 := h
                          unfold ZoneApart.l7 at h
                          show Run _ _ _ (St.of [(1, .u (.c (.sl false 4 (a1.map eD)))), (5, .u (.c (.v (.bool r1)))), (6, .u (.c (zoneC v79))), (8, .u (.c (.v (.int .i64 v5)))), (12, .u (.c (.sl true 1 (y18v.2.1.map eI)))), (21, .u (.c (.v (.int .i64 r56.2.1)))), (25, .u (.c (.v (.int .i64 v80))))]) _
                          refine r_seq ?_
                          refine r_seq ?_
                          refine r_reg (l := [(1, .u (.c (.sl false 4 (a1.map eD)))), (5, .u (.c (.v (.bool r1)))), (6, .u (.c (zoneC v79))), (8, .u (.c (.v (.int .i64 v5)))), (12, .u (.c (.sl true 1 (y18v.2.1.map eI)))), (21, .u (.c (.v (.int .i64 r56.2.1)))), (25, .u (.c (.v (.int .i64 v80)))), (205, .u (.c (.v (.bool (decide (v80 < (y18v.2.1.length : Int)))))))]) (cg_then (ds := [202, 203]) 2 rfl (by kernel_rfl) (co_then 3 rfl (os_to (os_plain rfl rfl (s_lenV (r := 12) (lo := 0) (n := (y18v.2.1.map eI).length) (pl := none) (sz := 1) rfl sl48 (by kernel_rfl) rfl (by kernel_rfl))) (t' := .u (.c (.v (.int .i64 (y18v.2.1.length : Int))))) (by rw [List.length_map])) (cg_then (ds := [205]) 4 rfl (by kernel_rfl) (.nil)))) rfl (by kernel_rfl) ?_
                          rcases Bool.eq_false_or_eq_true (decide (v80 < (y18v.2.1.length : Int))) with hb | hb
                          · have h := cond_t hb h
                            refine r_condT hb rfl ?_
                            refine r_skip ?_
                            refine r_seq ?_
                            refine r_block ?_
                            refine r_seq ?_
                            obtain ⟨r82, hr82, h⟩ := bind_some h
                            refine r_reg (l := [(1, .u (.c (.sl false 4 (a1.map eD)))), (5, .u (.c (.v (.bool r1)))), (6, .u (.c (zoneC r82.1))), (8, .u (.c (.v (.int .i64 v5)))), (12, .u (.c (.sl true 1 (y18v.2.1.map eI)))), (21, .u (.c (.v (.int .i64 r56.2.1)))), (25, .u (.c (.v (.int .i64 v80)))), (26, .u (.c (.v (.int .i64 r82.2.1)))), (27, .u (.c (.err r82.2.2)))]) (cg_then (ds := [209, 210]) 2 rfl (by kernel_rfl) (co_then 3 rfl (os_plain rfl rfl (c_call (AC.k (ZSort.ac (h := hr82))) ⟨_, Tryd.func19, rfl, by kernel_rfl⟩ rfl (hand_root (r := 6) (c := zoneC v79) (by kernel_rfl) (by kernel_rfl) rfl (.rd (.copy (by kernel_rfl) rfl) (.nil))) rfl (by kernel_rfl))) (co_then 4 rfl (os_plain rfl rfl (s_moveT (us := [.c (.v (.int .i64 r82.2.1)), .c (.err r82.2.2)]) (.inl rfl) (by kernel_rfl) rfl (by kernel_rfl))) (cg_then (ds := [212, 213, 26, 27]) 8 rfl (by kernel_rfl) (.nil))))) rfl (by kernel_rfl) ?_
                            refine r_seq ?_
                            rcases Bool.eq_false_or_eq_true (!(r82.2.2 == none)) with hb | hb
                            · have h := cond_t hb h
                              have hs83 := hb
                              refine r_reg (l := [(1, .u (.c (.sl false 4 (a1.map eD)))), (5, .u (.c (.v (.bool r1)))), (6, .u (.c (zoneC r82.1))), (8, .u (.c (.v (.int .i64 v5)))), (12, .u (.c (.sl true 1 (y18v.2.1.map eI)))), (21, .u (.c (.v (.int .i64 r56.2.1)))), (25, .u (.c (.v (.int .i64 v80)))), (229, .u (.c (.v (.bool true))))]) (cg_then (ds := [214, 215]) 2 rfl (by kernel_rfl) (co_then 3 rfl (os_ge (d := 216) (t := .u (.c (.v (.bool (!(r82.2.2 == none)))))) (t' := .u (.c (.v (.bool true)))) (by kernel_rfl) (by rw [hs83])) (cg_then (ds := [217, 218, 219, 220, 221, 222, 223, 224, 225, 226, 227, 228, 229]) 16 rfl (by kernel_rfl) (.nil)))) rfl (by kernel_rfl) ?_
                              refine r_condT rfl rfl ?_
                              refine r_seq ?_
                              refine r_reg (l := [(4, .u (.c (.v (.bool false))))]) (cg_then (ds := [4]) 1 rfl (by kernel_rfl) (.nil)) rfl (by kernel_rfl) ?_
                              obtain rfl := Option.some.inj h
                              have h : Option.some _ = Option.some r := h_y81
                              refine r_ret ?_
                              obtain rfl := Option.some.inj h
                              exact ⟨.inr rfl, _, _, .cons (.copy rfl rfl rfl) (.nil), rfl, outs_of trivial⟩
                            · have h := cond_f hb h
                              have hs84 := hb
                              rcases Bool.eq_false_or_eq_true (v80 != (IntKind.i64.wrap (r56.2.1.tdiv 8))) with hb | hb
                              · have h := cond_t hb h
                                have hs85 := hb
                                obtain ⟨hg86, h⟩ := guard_some h
                                simp only [Bool.and_eq_true, decide_eq_true_eq] at hg86
                                refine r_reg (l := [(1, .u (.c (.sl false 4 (a1.map eD)))), (5, .u (.c (.v (.bool r1)))), (6, .u (.c (zoneC r82.1))), (8, .u (.c (.v (.int .i64 v5)))), (12, .u (.c (.sl true 1 (y18v.2.1.map eI)))), (21, .u (.c (.v (.int .i64 r56.2.1)))), (25, .u (.c (.v (.int .i64 v80)))), (229, .u (.c (.v (.bool (r82.2.1 != (y18v.2.1.getD ((v80).toNat) (0 : Int)))))))]) (cg_then (ds := [214, 215]) 2 rfl (by kernel_rfl) (co_then 3 rfl (os_ge (d := 216) (t := .u (.c (.v (.bool (!(r82.2.2 == none)))))) (t' := .u (.c (.v (.bool false)))) (by kernel_rfl) (by rw [hs84])) (cg_then (ds := [217, 218]) 5 rfl (by kernel_rfl) (co_then 6 rfl (os_to (os_gy rfl rfl rfl (by kernel_rfl) (s_div (op := .quo) (k := .i64) (p := r56.2.1) (q := 8) rfl (.inl rfl) (by kernel_rfl) (by kernel_rfl) (by decide) rfl (by kernel_rfl))) (t' := .u (.c (.v (.int .i64 (IntKind.i64.wrap (r56.2.1.tdiv 8)))))) (by kernel_rfl)) (cg_then (ds := [220]) 7 rfl (by kernel_rfl) (co_then 8 rfl (os_ge (d := 221) (t := .u (.c (.v (.bool (v80 != (IntKind.i64.wrap (r56.2.1.tdiv 8))))))) (t' := .u (.c (.v (.bool true)))) (by kernel_rfl) (by rw [hs85])) (cg_then (ds := [222, 223, 224]) 11 rfl (by kernel_rfl) (co_then 12 rfl (os_gy rfl rfl rfl (by kernel_rfl) (s_indexV (r := 12) (lo := 0) (n := (y18v.2.1.map eI).length) (pl := none) (sz := 1) (e := v80) (ik := .i64) (k := (v80).toNat) rfl sl48 (by kernel_rfl) (.tmp (by kernel_rfl)) hg86.1 (by rw [List.length_map]; exact hg86.2) (Nat.zero_add _) rfl (by kernel_rfl) (by kernel_rfl))) (co_then 13 rfl (os_gy rfl rfl rfl (by kernel_rfl) (s_load1 (x := .v (.int .i64 (y18v.2.1.getD ((v80).toNat) (0 : Int)))) (r := 12) (off := 0) (s := .i ((v80).toNat) 1) (p := []) (c := .sl true 1 (y18v.2.1.map eI)) (cs := eI (y18v.2.1.getD ((v80).toNat) (0 : Int))) rfl (oneB_ok (by kernel_rfl)) (by kernel_rfl) (by kernel_rfl) (getP_map (0 : Int) (by have := hg86; omega)) rfl rfl rfl (by kernel_rfl))) (cg_then (ds := [227, 228, 229]) 16 rfl (by kernel_rfl) (.nil))))))))))) rfl (by kernel_rfl) ?_
                                rcases Bool.eq_false_or_eq_true (r82.2.1 != (y18v.2.1.getD ((v80).toNat) (0 : Int))) with hb | hb
                                · have h := cond_t hb h
                                  refine r_condT hb rfl ?_
                                  refine r_seq ?_
                                  refine r_reg (l := [(4, .u (.c (.v (.bool false))))]) (cg_then (ds := [4]) 1 rfl (by kernel_rfl) (.nil)) rfl (by kernel_rfl) ?_
                                  obtain rfl := Option.some.inj h
                                  have h : Option.some _ = Option.some r := h_y81
                                  refine r_ret ?_
                                  obtain rfl := Option.some.inj h
                                  exact ⟨.inr rfl, _, _, .cons (.copy rfl rfl rfl) (.nil), rfl, outs_of trivial⟩
                                · have h := cond_f hb h
                                  refine r_condF hb rfl ?_
                                  refine r_skip ?_
                                  refine r_reg (l := [(1, .u (.c (.sl false 4 (a1.map eD)))), (5, .u (.c (.v (.bool r1)))), (6, .u (.c (zoneC r82.1))), (8, .u (.c (.v (.int .i64 v5)))), (12, .u (.c (.sl true 1 (y18v.2.1.map eI)))), (21, .u (.c (.v (.int .i64 r56.2.1)))), (25, .u (.c (.v (.int .i64 (IntKind.i64.wrap (v80 + 1))))))]) (cg_then (ds := [206, 207, 25]) 3 rfl (by kernel_rfl) (.nil)) rfl (by kernel_rfl) ?_
                                  exact ⟨(r82.1, IntKind.i64.wrap (v80 + 1)), h, of_weak (by kernel_rfl)⟩
                              · have h := cond_f hb h
                                have hs87 := hb
                                refine r_reg (l := [(1, .u (.c (.sl false 4 (a1.map eD)))), (5, .u (.c (.v (.bool r1)))), (6, .u (.c (zoneC r82.1))), (8, .u (.c (.v (.int .i64 v5)))), (12, .u (.c (.sl true 1 (y18v.2.1.map eI)))), (21, .u (.c (.v (.int .i64 r56.2.1)))), (25, .u (.c (.v (.int .i64 v80)))), (229, .u (.c (.v (.bool false))))]) (cg_then (ds := [214, 215]) 2 rfl (by kernel_rfl) (co_then 3 rfl (os_ge (d := 216) (t := .u (.c (.v (.bool (!(r82.2.2 == none)))))) (t' := .u (.c (.v (.bool false)))) (by kernel_rfl) (by rw [hs84])) (cg_then (ds := [217, 218]) 5 rfl (by kernel_rfl) (co_then 6 rfl (os_to (os_gy rfl rfl rfl (by kernel_rfl) (s_div (op := .quo) (k := .i64) (p := r56.2.1) (q := 8) rfl (.inl rfl) (by kernel_rfl) (by kernel_rfl) (by decide) rfl (by kernel_rfl))) (t' := .u (.c (.v (.int .i64 (IntKind.i64.wrap (r56.2.1.tdiv 8)))))) (by kernel_rfl)) (cg_then (ds := [220]) 7 rfl (by kernel_rfl) (co_then 8 rfl (os_ge (d := 221) (t := .u (.c (.v (.bool (v80 != (IntKind.i64.wrap (r56.2.1.tdiv 8))))))) (t' := .u (.c (.v (.bool false)))) (by kernel_rfl) (by rw [hs87])) (cg_then (ds := [222, 223, 224, 225, 226, 227, 228, 229]) 16 rfl (by kernel_rfl) (.nil)))))))) rfl (by kernel_rfl) ?_
                                refine r_condF rfl rfl ?_
                                refine r_skip ?_
                                refine r_reg (l := [(1, .u (.c (.sl false 4 (a1.map eD)))), (5, .u (.c (.v (.bool r1)))), (6, .u (.c (zoneC r82.1))), (8, .u (.c (.v (.int .i64 v5)))), (12, .u (.c (.sl true 1 (y18v.2.1.map eI)))), (21, .u (.c (.v (.int .i64 r56.2.1)))), (25, .u (.c (.v (.int .i64 (IntKind.i64.wrap (v80 + 1))))))]) (cg_then (ds := [206, 207, 25]) 3 rfl (by kernel_rfl) (.nil)) rfl (by kernel_rfl) ?_
                                exact ⟨(r82.1, IntKind.i64.wrap (v80 + 1)), h, of_weak (by kernel_rfl)⟩
                          · have h := cond_f hb h
                            refine r_condF hb rfl ?_
                            refine r_weak (of_weak (l := [(1, .u (.c (.sl false 4 (a1.map eD)))), (5, .u (.c (.v (.bool r1)))), (6, .u (.c (zoneC v79))), (8, .u (.c (.v (.int .i64 v5))))]) (by kernel_rfl)) ?_
                            obtain rfl := Option.some.inj h
                            obtain ⟨y81v, hhy81v, h⟩ := elim_inl h_y81
                            try dsimp only at h
                            refine run_cast (α := Zon × Int) (fun x => [(1, .u (.c (.sl false 4 (a1.map eD)))), (5, .u (.c (.v (.bool r1)))), (6, .u (.c (zoneC x.1))), (8, .u (.c (.v (.int .i64 v5))))]) (x := (v79, v80)) (y := y81v) hhy81v ?_
                            refine r_exit ?_
                            refine r_reg (l := [(1, .u (.c (.sl false 4 (a1.map eD)))), (5, .u (.c (.v (.bool r1)))), (6, .u (.c (zoneC y81v.1))), (8, .u (.c (.v (.int .i64 (IntKind.i64.wrap (v5 + 1))))))]) (cg_then (ds := [51, 52, 8]) 3 rfl (by kernel_rfl) (.nil)) rfl (by kernel_rfl) ?_
                            exact ⟨(y81v.1, IntKind.i64.wrap (v5 + 1)), h, of_weak (by kernel_rfl)⟩
      · have h := cond_f hb h
        refine r_condF hb rfl ?_
        refine r_exit ?_
        refine r_seq ?_
        refine r_reg (l := [(4, .u (.c (.v (.bool r1))))]) (cg_then (ds := [230, 4]) 2 rfl (by kernel_rfl) (.nil)) rfl (by kernel_rfl) ?_
        refine r_ret ?_
        obtain rfl := Option.some.inj h
        exact ⟨.inr rfl, _, _, .cons (.copy rfl rfl rfl) (.nil), rfl, outs_of trivial⟩
    · have h := cond_f hb h
      have hs88 := hb
      refine r_reg (l := [(1, .u (.c (.sl false 4 (a1.map eD)))), (5, .u (.c (.v (.bool r1)))), (6, .u (.c (zoneC v4))), (8, .u (.c (.v (.int .i64 v5)))), (50, .u (.c (.v (.bool false))))]) (cg_then (ds := [43, 44]) 2 rfl (by kernel_rfl) (co_then 3 rfl (os_to (os_plain rfl rfl (s_lenU (own := false) (sz := 4) (rows := (a1.map eD)) rfl sl45 (by kernel_rfl) rfl (by kernel_rfl))) (t' := .u (.c (.v (.int .i64 (a1.length : Int))))) (by rw [List.length_map])) (cg_then (ds := [46]) 4 rfl (by kernel_rfl) (co_then 5 rfl (os_ge (d := 47) (t := .u (.c (.v (.bool (decide (v5 < (a1.length : Int))))))) (t' := .u (.c (.v (.bool false)))) (by kernel_rfl) (by rw [hs88])) (cg_then (ds := [48, 49, 50]) 8 rfl (by kernel_rfl) (.nil)))))) rfl (by kernel_rfl) ?_
      refine r_condF rfl rfl ?_
      refine r_exit ?_
      refine r_seq ?_
      refine r_reg (l := [(4, .u (.c (.v (.bool r1))))]) (cg_then (ds := [230, 4]) 2 rfl (by kernel_rfl) (.nil)) rfl (by kernel_rfl) ?_
      refine r_ret ?_
      obtain rfl := Option.some.inj h
      exact ⟨.inr rfl, _, _, .cons (.copy rfl rfl rfl) (.nil), rfl, outs_of trivial⟩
end Go.Proofs.YtmjnenjeckeklaaDoor.V
