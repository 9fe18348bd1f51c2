import Derived.Test.YtmjnenjeckeklaaDoorB2
namespace Go.Proofs.YtmjnenjeckeklaaDoor.V
open Go Go.RowKit Go.Proofs Go.Proofs.YtmjnenjeckeklaaDoor.Q Go.Proofs.YtmjnenjeckeklaaDoorW.PrintWords
set_option linter.unusedVariables false
set_option linter.unusedSimpArgs false
set_option maxRecDepth 100000
structure D4 where
  w : Int
  s : Int
  o : Int
  a : Int
def eD (x : D4) : List C := [.v (.int .i64 x.w), .v (.int .i64 x.s), .v (.int .i64 x.o), .v (.int .i64 x.a)]
abbrev zD : D4 := ⟨0, 0, 0, 0⟩
theorem sl45 : SliceT Tryd.prog 45 4 32 := slB_ok (by kernel_rfl)
def ZoneBack.l2 (k : Nat) (a0 : Int) (a1 : List D4) (a2 : Int) (a3 : Int) (r1 : Bool) (r2 : Int) (r3 : Zon × (Option Int)) (v4 : Zon) (v5 : Int) (r12 : Zon × (List Blk)) (r13 : Int) (r14 : Int) (r15 : Zon × Int × (Option Int)) (r20 : Zon × Bool) (r21 : Zon × Int × (Option Int)) (r22 : Zon × (Option Int)) (r27 : Zon × (List Blk)) : Nat → Int → Option (Bool)
  | 0, _ => none
  | n2 + 1, v28 => (bif decide (v28 < (r27.2.length : Int)) then (bif decide (0 ≤ v28) && decide (v28 < (r27.2.length : Int)) then (bif decide (0 ≤ v28) && decide (v28 < (r12.2.length : Int)) then (bif !(((r27.2.getD ((v28).toNat) zR).f) == ((r12.2.getD ((v28).toNat) zR).f) && (((r27.2.getD ((v28).toNat) zR).o) == ((r12.2.getD ((v28).toNat) zR).o))) then some false else ZoneBack.l2 k a0 a1 a2 a3 r1 r2 r3 v4 v5 r12 r13 r14 r15 r20 r21 r22 r27 n2 (IntKind.i64.wrap (v28 + 1))) else none) else none) else some r1)
def ZoneBack.l3 (k : Nat) (a0 : Int) (a1 : List D4) (a2 : Int) (a3 : Int) (r1 : Bool) (r2 : Int) (r3 : Zon × (Option Int)) (v4 : Zon) (v5 : Int) (r12 : Zon × (List Blk)) (r13 : Int) (r14 : Int) (r15 : Zon × Int × (Option Int)) (r31 : Zon × (List Blk)) : Nat → Int → Option (Bool)
  | 0, _ => none
  | n3 + 1, v32 => (bif decide (v32 < (r31.2.length : Int)) then (bif decide (0 ≤ v32) && decide (v32 < (r31.2.length : Int)) then (bif decide (0 ≤ v32) && decide (v32 < (r12.2.length : Int)) then (bif !(((r31.2.getD ((v32).toNat) zR).f) == ((r12.2.getD ((v32).toNat) zR).f) && (((r31.2.getD ((v32).toNat) zR).o) == ((r12.2.getD ((v32).toNat) zR).o))) then some false else ZoneBack.l3 k a0 a1 a2 a3 r1 r2 r3 v4 v5 r12 r13 r14 r15 r31 n3 (IntKind.i64.wrap (v32 + 1))) else none) else none) else some r1)
def ZoneBack.l4 (k : Nat) (a0 : Int) (a1 : List D4) (a2 : Int) (a3 : Int) (r1 : Bool) (r2 : Int) (r3 : Zon × (Option Int)) (v4 : Zon) (v5 : Int) (r36 : Zon × (List Blk)) (r37 : Int) (r38 : Int) (r39 : Zon × Int × (Option Int)) (r44 : Zon × Bool) (r45 : Zon × Int × (Option Int)) (r46 : Zon × (Option Int)) (r51 : Zon × (List Blk)) : Nat → Int → Option (Bool)
  | 0, _ => none
  | n4 + 1, v52 => (bif decide (v52 < (r51.2.length : Int)) then (bif decide (0 ≤ v52) && decide (v52 < (r51.2.length : Int)) then (bif decide (0 ≤ v52) && decide (v52 < (r36.2.length : Int)) then (bif !(((r51.2.getD ((v52).toNat) zR).f) == ((r36.2.getD ((v52).toNat) zR).f) && (((r51.2.getD ((v52).toNat) zR).o) == ((r36.2.getD ((v52).toNat) zR).o))) then some false else ZoneBack.l4 k a0 a1 a2 a3 r1 r2 r3 v4 v5 r36 r37 r38 r39 r44 r45 r46 r51 n4 (IntKind.i64.wrap (v52 + 1))) else none) else none) else some r1)
def ZoneBack.l5 (k : Nat) (a0 : Int) (a1 : List D4) (a2 : Int) (a3 : Int) (r1 : Bool) (r2 : Int) (r3 : Zon × (Option Int)) (v4 : Zon) (v5 : Int) (r36 : Zon × (List Blk)) (r37 : Int) (r38 : Int) (r39 : Zon × Int × (Option Int)) (r55 : Zon × (List Blk)) : Nat → Int → Option (Bool)
  | 0, _ => none
  | n5 + 1, v56 => (bif decide (v56 < (r55.2.length : Int)) then (bif decide (0 ≤ v56) && decide (v56 < (r55.2.length : Int)) then (bif decide (0 ≤ v56) && decide (v56 < (r36.2.length : Int)) then (bif !(((r55.2.getD ((v56).toNat) zR).f) == ((r36.2.getD ((v56).toNat) zR).f) && (((r55.2.getD ((v56).toNat) zR).o) == ((r36.2.getD ((v56).toNat) zR).o))) then some false else ZoneBack.l5 k a0 a1 a2 a3 r1 r2 r3 v4 v5 r36 r37 r38 r39 r55 n5 (IntKind.i64.wrap (v56 + 1))) else none) else none) else some r1)
def ZoneBack.l1 (k : Nat) (a0 : Int) (a1 : List D4) (a2 : Int) (a3 : Int) (r1 : Bool) (r2 : Int) (r3 : Zon × (Option Int)) : Nat → Zon → Int → Option (Bool)
  | 0, _, _ => none
  | n1 + 1, v4, v5 => (bif decide (v5 < (a1.length : Int)) then (bif decide (v5 < 30) then (bif decide (0 ≤ v5) && decide (v5 < (a1.length : Int)) then (paviorlaw08_pick.f ((a1.getD v5.toNat zD).s) 2).bind fun (r8 : Int) => (bif decide (0 ≤ v5) && decide (v5 < (a1.length : Int)) then (paviorlaw08_pick.f ((a1.getD v5.toNat zD).o) 4).bind fun (r10 : Int) => (ZTake.f k v4 r8 r10).bind fun (r11 : Zon × Int × (Option Int)) => ZoneBack.l1 k a0 a1 a2 a3 r1 r2 r3 n1 r11.1 (IntKind.i64.wrap (v5 + 1)) else none) else none) else (ZFree.f k v4).bind fun (r12 : Zon × (List Blk)) => (paviorlaw08_pick.f a2 2).bind fun (r13 : Int) => (paviorlaw08_pick.f a3 4).bind fun (r14 : Int) => (ZTake.f k r12.1 r13 r14).bind fun (r15 : Zon × Int × (Option Int)) => (bif r15.2.2 == none then (bif decide (0 ≤ r14) then (bif decide ((IntKind.i64.wrap (1 * 2 ^ min (r14).toNat (IntKind.i64).bits)) ≠ 0) then (bif (r15.2.1.tmod (IntKind.i64.wrap (1 * 2 ^ min (r14).toNat (IntKind.i64).bits))) != 0 then some false else (ZIsFree.f k r15.1 r15.2.1).bind fun (r20 : Zon × Bool) => (bif r20.2 then some false else (ZSort.f k r20.1 (IntKind.i64.wrap (r15.2.1.tdiv 8))).bind fun (r21 : Zon × Int × (Option Int)) => (ZGive.f k r21.1 r15.2.1 r14).bind fun (r22 : Zon × (Option Int)) => (bif !(r22.2 == none) then some false else (bif !(r21.2.2 == none) then some false else (bif r21.2.1 != r13 then some false else (ZFree.f k r22.1).bind fun (r27 : Zon × (List Blk)) => (bif (r27.2.length : Int) != (r12.2.length : Int) then some false else ZoneBack.l2 k a0 a1 a2 a3 r1 r2 r3 v4 v5 r12 r13 r14 r15 r20 r21 r22 r27 k 0)))))) else none) else none) else (ZFree.f k r15.1).bind fun (r31 : Zon × (List Blk)) => (bif (r31.2.length : Int) != (r12.2.length : Int) then some false else ZoneBack.l3 k a0 a1 a2 a3 r1 r2 r3 v4 v5 r12 r13 r14 r15 r31 k 0))) else (ZFree.f k v4).bind fun (r36 : Zon × (List Blk)) => (paviorlaw08_pick.f a2 2).bind fun (r37 : Int) => (paviorlaw08_pick.f a3 4).bind fun (r38 : Int) => (ZTake.f k r36.1 r37 r38).bind fun (r39 : Zon × Int × (Option Int)) => (bif r39.2.2 == none then (bif decide (0 ≤ r38) then (bif decide ((IntKind.i64.wrap (1 * 2 ^ min (r38).toNat (IntKind.i64).bits)) ≠ 0) then (bif (r39.2.1.tmod (IntKind.i64.wrap (1 * 2 ^ min (r38).toNat (IntKind.i64).bits))) != 0 then some false else (ZIsFree.f k r39.1 r39.2.1).bind fun (r44 : Zon × Bool) => (bif r44.2 then some false else (ZSort.f k r44.1 (IntKind.i64.wrap (r39.2.1.tdiv 8))).bind fun (r45 : Zon × Int × (Option Int)) => (ZGive.f k r45.1 r39.2.1 r38).bind fun (r46 : Zon × (Option Int)) => (bif !(r46.2 == none) then some false else (bif !(r45.2.2 == none) then some false else (bif r45.2.1 != r37 then some false else (ZFree.f k r46.1).bind fun (r51 : Zon × (List Blk)) => (bif (r51.2.length : Int) != (r36.2.length : Int) then some false else ZoneBack.l4 k a0 a1 a2 a3 r1 r2 r3 v4 v5 r36 r37 r38 r39 r44 r45 r46 r51 k 0)))))) else none) else none) else (ZFree.f k r39.1).bind fun (r55 : Zon × (List Blk)) => (bif (r55.2.length : Int) != (r36.2.length : Int) then some false else ZoneBack.l5 k a0 a1 a2 a3 r1 r2 r3 v4 v5 r36 r37 r38 r39 r55 k 0)))
set_option maxHeartbeats 4000000 in
def ZoneBack.f (k : Nat) (a0 : Int) (a1 : List D4) (a2 : Int) (a3 : Int) : Option (Bool) :=
  (up.f k).bind fun (r1 : Bool) => (paviorlaw08_pick.f a0 70).bind fun (r2 : Int) => (ZNew.f k (IntKind.i64.wrap (1 + r2))).bind fun (r3 : Zon × (Option Int)) => (bif !(r3.2 == none) then some false else ZoneBack.l1 k a0 a1 a2 a3 r1 r2 r3 k r3.1 0)
set_option maxHeartbeats 4000000 in
theorem ZoneBack.ac (k : Nat) (a0 : Int) (a1 : List D4) (a2 : Int) (a3 : Int) (r : Bool) (h : ZoneBack.f k a0 a1 a2 a3 = some r) : ACD Tryd.prog 28 6 [.c (.v (.int .i64 a0)), .c (.sl false 4 (a1.map eD)), .c (.v (.int .i64 a2)), .c (.v (.int .i64 a3))] [none, none, none, none] [.c (.v (.bool r))] := by
  unfold ZoneBack.f at h
  refine act_intro (fn := Tryd.f6) (pins := []) (rts := [8]) Tryd.func6 rfl Tryd.ntmps6 rfl (Nat.le_of_ble_eq_true rfl) (pins_lt rfl) rfl (fun w R E vs hT => ?_)
  refine r_weak (of_weak (l := [(0, .u (.c (.v (.int .i64 a0)))), (1, .u (.c (.sl false 4 (a1.map eD)))), (2, .u (.c (.v (.int .i64 a2)))), (3, .u (.c (.v (.int .i64 a3))))]) (by kernel_rfl)) ?_
  refine r_seq ?_
  refine r_reg (l := [(0, .u (.c (.v (.int .i64 a0)))), (1, .u (.c (.sl false 4 (a1.map eD)))), (2, .u (.c (.v (.int .i64 a2)))), (3, .u (.c (.v (.int .i64 a3))))]) (cg_then (ds := [8]) 1 rfl (by kernel_rfl) (.nil)) rfl (by kernel_rfl) ?_
  refine r_seq ?_
  obtain ⟨r1, hr1, h⟩ := bind_some h
  refine r_reg (l := [(0, .u (.c (.v (.int .i64 a0)))), (1, .u (.c (.sl false 4 (a1.map eD)))), (2, .u (.c (.v (.int .i64 a2)))), (3, .u (.c (.v (.int .i64 a3)))), (9, .u (.c (.v (.bool r1))))]) (co_then 1 rfl (os_plain rfl rfl (c_callQ (ACT.k hT (up.ac (h := hr1))) ⟨_, Tryd.func8, rfl, by kernel_rfl⟩ rfl (.nil) (by kernel_rfl))) (cg_then (ds := [9]) 2 rfl (by kernel_rfl) (.nil))) rfl (by kernel_rfl) ?_
  refine r_seq ?_
  obtain ⟨r2, hr2, h⟩ := bind_some h
  refine r_reg (l := [(0, .u (.c (.v (.int .i64 (IntKind.i64.wrap (1 + r2)))))), (1, .u (.c (.sl false 4 (a1.map eD)))), (2, .u (.c (.v (.int .i64 a2)))), (3, .u (.c (.v (.int .i64 a3)))), (9, .u (.c (.v (.bool r1))))]) (cg_then (ds := [22]) 1 rfl (by kernel_rfl) (co_then 2 rfl (os_plain rfl rfl (c_callQ (AC.k (paviorlaw08_pick.ac (h := hr2))) ⟨_, Tryd.func12, rfl, by kernel_rfl⟩ rfl (.cons (.copy (by kernel_rfl) rfl) (.cons (.copy (by kernel_rfl) rfl) (.nil))) (by kernel_rfl))) (cg_then (ds := [24, 0]) 4 rfl (by kernel_rfl) (.nil)))) rfl (by kernel_rfl) ?_
  refine r_seq ?_
  obtain ⟨r3, hr3, h⟩ := bind_some h
  refine r_reg (l := [(1, .u (.c (.sl false 4 (a1.map eD)))), (2, .u (.c (.v (.int .i64 a2)))), (3, .u (.c (.v (.int .i64 a3)))), (9, .u (.c (.v (.bool r1)))), (10, .u (.c (zoneC r3.1))), (11, .u (.c (.err r3.2)))]) (cg_then (ds := [26]) 1 rfl (by kernel_rfl) (co_then 2 rfl (os_plain rfl rfl (c_callQ (ACT.k hT (ZNew.ac (h := hr3))) ⟨_, Tryd.func9, rfl, by kernel_rfl⟩ rfl (.cons (.copy (by kernel_rfl) rfl) (.nil)) (by kernel_rfl))) (co_then 3 rfl (os_plain rfl rfl (s_moveT (us := [.c (zoneC r3.1), .c (.err r3.2)]) (.inl rfl) (by kernel_rfl) rfl (by kernel_rfl))) (co_then 4 rfl (os_plain rfl rfl (s_xmove (us := [.c (zoneC r3.1), .c (.err r3.2)]) rfl (by kernel_rfl) rfl rfl (by kernel_rfl))) (cg_then (ds := [29]) 5 rfl (by kernel_rfl) (co_then 6 rfl (os_plain rfl rfl (s_take (u := .c (zoneC r3.1)) (.inr rfl) (.move (by kernel_rfl) rfl) rfl (by kernel_rfl))) (cg_then (ds := [11]) 7 rfl (by kernel_rfl) (.nil)))))))) rfl (by kernel_rfl) ?_
  refine r_seq ?_
  refine r_seq ?_
  refine r_reg (l := [(1, .u (.c (.sl false 4 (a1.map eD)))), (2, .u (.c (.v (.int .i64 a2)))), (3, .u (.c (.v (.int .i64 a3)))), (9, .u (.c (.v (.bool r1)))), (10, .u (.c (zoneC r3.1))), (35, .u (.c (.v (.bool (!(r3.2 == none))))))]) (cg_then (ds := [30, 31, 32, 33, 34, 35]) 6 rfl (by kernel_rfl) (.nil)) rfl (by kernel_rfl) ?_
  rcases Bool.eq_false_or_eq_true (!(r3.2 == none)) with hb | hb
  · have h := cond_t hb h
    refine r_condT hb rfl ?_
    refine r_seq ?_
    refine r_reg (l := [(8, .u (.c (.v (.bool false))))]) (cg_then (ds := [8]) 1 rfl (by kernel_rfl) (.nil)) rfl (by kernel_rfl) ?_
    refine r_ret ?_
    obtain rfl := Option.some.inj h
    exact ⟨.inr rfl, _, _, .cons (.copy rfl rfl rfl) (.nil), rfl, outs_of trivial⟩
  · have h := cond_f hb h
    refine r_condF hb rfl ?_
    refine r_skip ?_
    refine r_seq ?_
    refine r_seq ?_
    refine r_reg (l := [(1, .u (.c (.sl false 4 (a1.map eD)))), (2, .u (.c (.v (.int .i64 a2)))), (3, .u (.c (.v (.int .i64 a3)))), (9, .u (.c (.v (.bool r1)))), (10, .u (.c (zoneC r3.1))), (12, .u (.c (.v (.int .i64 0))))]) (cg_then (ds := [12]) 1 rfl (by kernel_rfl) (.nil)) rfl (by kernel_rfl) ?_
    refine r_block ?_
    refine r_weak (of_weak (l := [(1, .u (.c (.sl false 4 (a1.map eD)))), (2, .u (.c (.v (.int .i64 a2)))), (3, .u (.c (.v (.int .i64 a3)))), (9, .u (.c (.v (.bool r1)))), (10, .u (.c (zoneC r3.1))), (12, .u (.c (.v (.int .i64 0))))]) (by kernel_rfl)) ?_
    refine r_loopI (α := Zon × Int) (fun x => [(1, .u (.c (.sl false 4 (a1.map eD)))), (2, .u (.c (.v (.int .i64 a2)))), (3, .u (.c (.v (.int .i64 a3)))), (9, .u (.c (.v (.bool r1)))), (10, .u (.c (zoneC x.1))), (12, .u (.c (.v (.int .i64 x.2))))]) (fun n x => ZoneBack.l1 k a0 a1 a2 a3 r1 r2 r3 n x.1 x.2 = some r) k (r3.1, 0) h (by intro x h; unfold ZoneBack.l1 at h; cases h) ?_
    rintro n1 ⟨v4, v5⟩ h
    replace h : ZoneBack.l1 k a0 a1 a2 a3 r1 r2 r3 (n1 + 1) v4 v5 = some r := h
    unfold ZoneBack.l1 at h
    show Run _ _ _ (St.of [(1, .u (.c (.sl false 4 (a1.map eD)))), (2, .u (.c (.v (.int .i64 a2)))), (3, .u (.c (.v (.int .i64 a3)))), (9, .u (.c (.v (.bool r1)))), (10, .u (.c (zoneC v4))), (12, .u (.c (.v (.int .i64 v5))))]) _
    refine r_seq ?_
    refine r_seq ?_
    rcases Bool.eq_false_or_eq_true (decide (v5 < (a1.length : Int))) with hb | hb
    · have h := cond_t hb h
      have hs6 := hb
      refine r_reg (l := [(1, .u (.c (.sl false 4 (a1.map eD)))), (2, .u (.c (.v (.int .i64 a2)))), (3, .u (.c (.v (.int .i64 a3)))), (9, .u (.c (.v (.bool r1)))), (10, .u (.c (zoneC v4))), (12, .u (.c (.v (.int .i64 v5)))), (43, .u (.c (.v (.bool (decide (v5 < 30))))))]) (cg_then (ds := [36, 37]) 2 rfl (by kernel_rfl) (co_then 3 rfl (os_to (os_plain rfl rfl (s_lenU (own := false) (sz := 4) (rows := (a1.map eD)) rfl sl45 (by kernel_rfl) rfl (by kernel_rfl))) (t' := .u (.c (.v (.int .i64 (a1.length : Int))))) (by rw [List.length_map])) (cg_then (ds := [39]) 4 rfl (by kernel_rfl) (co_then 5 rfl (os_ge (d := 40) (t := .u (.c (.v (.bool (decide (v5 < (a1.length : Int))))))) (t' := .u (.c (.v (.bool true)))) (by kernel_rfl) (by rw [hs6])) (cg_then (ds := [41, 42, 43]) 8 rfl (by kernel_rfl) (.nil)))))) rfl (by kernel_rfl) ?_
      rcases Bool.eq_false_or_eq_true (decide (v5 < 30)) with hb | hb
      · have h := cond_t hb h
        refine r_condT hb rfl ?_
        refine r_skip ?_
        refine r_seq ?_
        refine r_block ?_
        obtain ⟨hg7, h⟩ := guard_some h
        simp only [Bool.and_eq_true, decide_eq_true_eq] at hg7
        obtain ⟨r8, hr8, h⟩ := bind_some h
        obtain ⟨hg9, h⟩ := guard_some h
        simp only [Bool.and_eq_true, decide_eq_true_eq] at hg9
        obtain ⟨r10, hr10, h⟩ := bind_some h
        obtain ⟨r11, hr11, h⟩ := bind_some h
        refine r_weak (of_weak (l := [(1, .u (.c (.sl false 4 (a1.map eD)))), (2, .u (.c (.v (.int .i64 a2)))), (3, .u (.c (.v (.int .i64 a3)))), (9, .u (.c (.v (.bool r1)))), (10, .u (.c (zoneC v4))), (12, .u (.c (.v (.int .i64 v5)))), (43, .u (.c (.v (.bool (decide (v5 < 30))))))]) (by kernel_rfl)) ?_
        refine r_anyW (l := [(1, .u (.c (.sl false 4 (a1.map eD)))), (2, .u (.c (.v (.int .i64 a2)))), (3, .u (.c (.v (.int .i64 a3)))), (9, .u (.c (.v (.bool r1)))), (10, .u (.c (zoneC r11.1))), (12, .u (.c (.v (.int .i64 v5))))]) (tab := [[], [], [], [1, 2], [3], [4], [5], [], [], [7, 8], [9], [10], [11, 6], [0, 6, 12, 12]]) [⟨[], [10], [(46, .addr 10 (.d) [] 0)], some 46, false⟩, ⟨[], [1], [(47, .u (.c (.sl false 4 (a1.map eD))))], some 47, false⟩, ⟨[], [12], [(48, .u (.c (.v (.int .i64 v5))))], some 48, false⟩, ⟨[1, 2], [47, 48], [(49, .addr 47 (.i v5.toNat 4) [] 0)], some 49, false⟩, ⟨[1, 2, 3], [49], [(50, .addr 47 (.i v5.toNat 4) [] 1)], some 50, false⟩, ⟨[1, 2, 3, 4], [47, 50], [(51, .u (.c (.v (.int .i64 ((a1.getD v5.toNat zD).s)))))], some 51, false⟩, ⟨[1, 2, 3, 4, 5], [51], [(52, .u (.c (.v (.int .i64 r8))))], some 52, false⟩, ⟨[], [1], [(53, .u (.c (.sl false 4 (a1.map eD))))], some 53, false⟩, ⟨[], [12], [(54, .u (.c (.v (.int .i64 v5))))], some 54, false⟩, ⟨[7, 8], [53, 54], [(55, .addr 53 (.i v5.toNat 4) [] 0)], some 55, false⟩, ⟨[7, 8, 9], [55], [(56, .addr 53 (.i v5.toNat 4) [] 2)], some 56, false⟩, ⟨[7, 8, 9, 10], [53, 56], [(57, .u (.c (.v (.int .i64 ((a1.getD v5.toNat zD).o)))))], some 57, false⟩, ⟨[1, 2, 3, 4, 5, 6, 7, 8, 9, 10, 11], [57], [(58, .u (.c (.v (.int .i64 r10))))], some 58, false⟩, ⟨[0, 1, 2, 3, 4, 5, 6, 7, 8, 9, 10, 11, 12], [10, 46, 52, 58], [(59, .tup [.c (.v (.int .i64 r11.2.1)), .c (.err r11.2.2)]), (10, .u (.c (zoneC r11.1)))], some 59, true⟩] hm (by kernel_rfl) (by kernel_rfl) (by kernel_rfl) (.cons (fun σ hc => e_g (d := 46) (t := .addr 10 (.d) [] 0) hc rfl rfl (by kernel_rfl)) (.cons (fun σ hc => e_g (d := 47) (t := .u (.c (.sl false 4 (a1.map eD)))) hc rfl rfl (by kernel_rfl)) (.cons (fun σ hc => e_g (d := 48) (t := .u (.c (.v (.int .i64 v5)))) hc rfl rfl (by kernel_rfl)) (.cons (fun σ hc => e_put hc rfl rfl (os_plain rfl rfl (s_indexU (own := false) (sz := 4) (rows := (a1.map eD)) (e := v5) (ik := .i64) rfl sl45 (by kernel_rfl) (.tmp (by kernel_rfl)) hg7.1 (by rw [List.length_map]; exact hg7.2) rfl (by kernel_rfl) (by kernel_rfl)))) (.cons (fun σ hc => e_g (d := 50) (t := .addr 47 (.i v5.toNat 4) [] 1) hc rfl rfl (by kernel_rfl)) (.cons (fun σ hc => e_put hc rfl rfl (os_plain rfl rfl (s_load1 (x := .v (.int .i64 ((a1.getD v5.toNat zD).s))) (r := 47) (off := 1) (s := .i v5.toNat 4) (p := []) (c := .sl false 4 (a1.map eD)) (cs := eD (a1.getD v5.toNat zD)) rfl (oneB_ok (by kernel_rfl)) (by kernel_rfl) (by kernel_rfl) (getP_map zD (by have := hg7; omega)) rfl rfl rfl (by kernel_rfl)))) (.cons (fun σ hc => e_put hc rfl rfl (os_plain rfl rfl (c_callQ (res := [.c (.v (.int .i64 r8))]) (AC.k (paviorlaw08_pick.ac (h := hr8))) ⟨_, Tryd.func12, rfl, by kernel_rfl⟩ rfl (.cons (.copy (by kernel_rfl) rfl) (.cons (.copy (by kernel_rfl) rfl) (.nil))) (by kernel_rfl)))) (.cons (fun σ hc => e_g (d := 53) (t := .u (.c (.sl false 4 (a1.map eD)))) hc rfl rfl (by kernel_rfl)) (.cons (fun σ hc => e_g (d := 54) (t := .u (.c (.v (.int .i64 v5)))) hc rfl rfl (by kernel_rfl)) (.cons (fun σ hc => e_put hc rfl rfl (os_plain rfl rfl (s_indexU (own := false) (sz := 4) (rows := (a1.map eD)) (e := v5) (ik := .i64) rfl sl45 (by kernel_rfl) (.tmp (by kernel_rfl)) hg9.1 (by rw [List.length_map]; exact hg9.2) rfl (by kernel_rfl) (by kernel_rfl)))) (.cons (fun σ hc => e_g (d := 56) (t := .addr 53 (.i v5.toNat 4) [] 2) hc rfl rfl (by kernel_rfl)) (.cons (fun σ hc => e_put hc rfl rfl (os_plain rfl rfl (s_load1 (x := .v (.int .i64 ((a1.getD v5.toNat zD).o))) (r := 53) (off := 2) (s := .i v5.toNat 4) (p := []) (c := .sl false 4 (a1.map eD)) (cs := eD (a1.getD v5.toNat zD)) rfl (oneB_ok (by kernel_rfl)) (by kernel_rfl) (by kernel_rfl) (getP_map zD (by have := hg9; omega)) rfl rfl rfl (by kernel_rfl)))) (.cons (fun σ hc => e_put hc rfl rfl (os_plain rfl rfl (c_callQ (res := [.c (.v (.int .i64 r10))]) (AC.k (paviorlaw08_pick.ac (h := hr10))) ⟨_, Tryd.func12, rfl, by kernel_rfl⟩ rfl (.cons (.copy (by kernel_rfl) rfl) (.cons (.copy (by kernel_rfl) rfl) (.nil))) (by kernel_rfl)))) (.cons (fun σ hc => e_eq (os_plain rfl rfl (c_call (outs := [some (.c (zoneC r11.1)), none, none]) (res := [.c (.v (.int .i64 r11.2.1)), .c (.err r11.2.2)]) (ACT.k hT (ZTake.ac (h := hr11))) ⟨_, Tryd.func13, rfl, by kernel_rfl⟩ rfl (hand_root (r := 10) (c := zoneC v4) (by kernel_rfl) (by kernel_rfl) rfl (.rd (.copy (by kernel_rfl) rfl) (.rd (.copy (by kernel_rfl) rfl) (.nil)))) rfl (by kernel_rfl))) (hand_put_over hc rfl rfl rfl rfl)) (.nil))))))))))))))) (by kernel_rfl) ?_
        refine r_reg (l := [(1, .u (.c (.sl false 4 (a1.map eD)))), (2, .u (.c (.v (.int .i64 a2)))), (3, .u (.c (.v (.int .i64 a3)))), (9, .u (.c (.v (.bool r1)))), (10, .u (.c (zoneC r11.1))), (12, .u (.c (.v (.int .i64 (IntKind.i64.wrap (v5 + 1))))))]) (cg_then (ds := [44, 45, 12]) 3 rfl (by kernel_rfl) (.nil)) rfl (by kernel_rfl) ?_
        exact ⟨(r11.1, IntKind.i64.wrap (v5 + 1)), h, of_weak (by kernel_rfl)⟩
      · have h := cond_f hb h
        refine r_condF hb rfl ?_
        refine r_exit ?_
        refine r_seq ?_
        obtain ⟨r12, hr12, h⟩ := bind_some h
        refine r_reg (l := [(2, .u (.c (.v (.int .i64 a2)))), (3, .u (.c (.v (.int .i64 a3)))), (9, .u (.c (.v (.bool r1)))), (10, .u (.c (zoneC r12.1))), (13, .u (.c (.sl true 2 (r12.2.map eR))))]) (cg_then (ds := [60]) 1 rfl (by kernel_rfl) (co_then 2 rfl (os_plain rfl rfl (c_call (AC.k (ZFree.ac (h := hr12))) ⟨_, Tryd.func14, rfl, by kernel_rfl⟩ rfl (hand_root (r := 10) (c := zoneC v4) (by kernel_rfl) (by kernel_rfl) rfl (.nil)) rfl (by kernel_rfl))) (co_then 3 rfl (os_plain rfl rfl (s_take (u := .c (.sl true 2 (r12.2.map eR))) (.inr rfl) (.move (by kernel_rfl) rfl) rfl (by kernel_rfl))) (.nil)))) rfl (by kernel_rfl) ?_
        refine r_seq ?_
        obtain ⟨r13, hr13, h⟩ := bind_some h
        refine r_reg (l := [(2, .u (.c (.v (.int .i64 r13)))), (3, .u (.c (.v (.int .i64 a3)))), (9, .u (.c (.v (.bool r1)))), (10, .u (.c (zoneC r12.1))), (13, .u (.c (.sl true 2 (r12.2.map eR))))]) (cg_then (ds := [62]) 1 rfl (by kernel_rfl) (co_then 2 rfl (os_plain rfl rfl (c_callQ (AC.k (paviorlaw08_pick.ac (h := hr13))) ⟨_, Tryd.func12, rfl, by kernel_rfl⟩ rfl (.cons (.copy (by kernel_rfl) rfl) (.cons (.copy (by kernel_rfl) rfl) (.nil))) (by kernel_rfl))) (cg_then (ds := [2]) 3 rfl (by kernel_rfl) (.nil)))) rfl (by kernel_rfl) ?_
        refine r_seq ?_
        obtain ⟨r14, hr14, h⟩ := bind_some h
        refine r_reg (l := [(2, .u (.c (.v (.int .i64 r13)))), (3, .u (.c (.v (.int .i64 r14)))), (9, .u (.c (.v (.bool r1)))), (10, .u (.c (zoneC r12.1))), (13, .u (.c (.sl true 2 (r12.2.map eR))))]) (cg_then (ds := [64]) 1 rfl (by kernel_rfl) (co_then 2 rfl (os_plain rfl rfl (c_callQ (AC.k (paviorlaw08_pick.ac (h := hr14))) ⟨_, Tryd.func12, rfl, by kernel_rfl⟩ rfl (.cons (.copy (by kernel_rfl) rfl) (.cons (.copy (by kernel_rfl) rfl) (.nil))) (by kernel_rfl))) (cg_then (ds := [3]) 3 rfl (by kernel_rfl) (.nil)))) rfl (by kernel_rfl) ?_
        refine r_seq ?_
        obtain ⟨r15, hr15, h⟩ := bind_some h
        refine r_reg (l := [(2, .u (.c (.v (.int .i64 r13)))), (3, .u (.c (.v (.int .i64 r14)))), (9, .u (.c (.v (.bool r1)))), (10, .u (.c (zoneC r15.1))), (13, .u (.c (.sl true 2 (r12.2.map eR)))), (14, .u (.c (.v (.int .i64 r15.2.1)))), (15, .u (.c (.err r15.2.2)))]) (cg_then (ds := [67, 68, 69]) 3 rfl (by kernel_rfl) (co_then 4 rfl (os_plain rfl rfl (c_call (ACT.k hT (ZTake.ac (h := hr15))) ⟨_, Tryd.func13, rfl, by kernel_rfl⟩ rfl (hand_root (r := 10) (c := zoneC r12.1) (by kernel_rfl) (by kernel_rfl) rfl (.rd (.copy (by kernel_rfl) rfl) (.rd (.copy (by kernel_rfl) rfl) (.nil)))) rfl (by kernel_rfl))) (co_then 5 rfl (os_plain rfl rfl (s_moveT (us := [.c (.v (.int .i64 r15.2.1)), .c (.err r15.2.2)]) (.inl rfl) (by kernel_rfl) rfl (by kernel_rfl))) (cg_then (ds := [71, 72, 14, 15]) 9 rfl (by kernel_rfl) (.nil))))) rfl (by kernel_rfl) ?_
        refine r_seq ?_
        refine r_seq ?_
        refine r_reg (l := [(2, .u (.c (.v (.int .i64 r13)))), (3, .u (.c (.v (.int .i64 r14)))), (9, .u (.c (.v (.bool r1)))), (10, .u (.c (zoneC r15.1))), (13, .u (.c (.sl true 2 (r12.2.map eR)))), (14, .u (.c (.v (.int .i64 r15.2.1)))), (74, .u (.c (.v (.bool (r15.2.2 == none)))))]) (cg_then (ds := [73, 74]) 2 rfl (by kernel_rfl) (.nil)) rfl (by kernel_rfl) ?_
        rcases Bool.eq_false_or_eq_true (r15.2.2 == none) with hb | hb
        · have h := cond_t hb h
          refine r_condT hb rfl ?_
          refine r_seq ?_
          refine r_seq ?_
          obtain ⟨hg16, h⟩ := guard_some h
          simp only [decide_eq_true_eq] at hg16
          obtain ⟨hg17, h⟩ := guard_some h
          simp only [decide_eq_true_eq] at hg17
          rcases Bool.eq_false_or_eq_true ((r15.2.1.tmod (IntKind.i64.wrap (1 * 2 ^ min (r14).toNat (IntKind.i64).bits))) != 0) with hb | hb
          · have h := cond_t hb h
            have hs18 := hb
            refine r_reg (l := [(2, .u (.c (.v (.int .i64 r13)))), (3, .u (.c (.v (.int .i64 r14)))), (9, .u (.c (.v (.bool r1)))), (10, .u (.c (zoneC r15.1))), (13, .u (.c (.sl true 2 (r12.2.map eR)))), (14, .u (.c (.v (.int .i64 r15.2.1)))), (84, .u (.c (.v (.bool true))))]) (cg_then (ds := [75, 76]) 2 rfl (by kernel_rfl) (co_then 3 rfl (os_to (os_plain rfl rfl (s_shift (op := .shl) (k := .i64) (p := 1) (q := r14) (yk := .i64) rfl (.inl rfl) (by kernel_rfl) (by kernel_rfl) hg16 rfl (by kernel_rfl))) (t' := .u (.c (.v (.int .i64 (IntKind.i64.wrap (1 * 2 ^ min (r14).toNat (IntKind.i64).bits)))))) (by kernel_rfl)) (co_then 4 rfl (os_to (os_plain rfl rfl (s_div (op := .rem) (k := .i64) (p := r15.2.1) (q := (IntKind.i64.wrap (1 * 2 ^ min (r14).toNat (IntKind.i64).bits))) rfl (.inr rfl) (by kernel_rfl) (by kernel_rfl) hg17 rfl (by kernel_rfl))) (t' := .u (.c (.v (.int .i64 (r15.2.1.tmod (IntKind.i64.wrap (1 * 2 ^ min (r14).toNat (IntKind.i64).bits))))))) (by kernel_rfl)) (cg_then (ds := [79]) 5 rfl (by kernel_rfl) (co_then 6 rfl (os_ge (d := 80) (t := .u (.c (.v (.bool ((r15.2.1.tmod (IntKind.i64.wrap (1 * 2 ^ min (r14).toNat (IntKind.i64).bits))) != 0))))) (t' := .u (.c (.v (.bool true)))) (by kernel_rfl) (by rw [hs18])) (cg_then (ds := [81, 82, 83, 84]) 10 rfl (by kernel_rfl) (.nil))))))) rfl (by kernel_rfl) ?_
            refine r_condT rfl rfl ?_
            refine r_seq ?_
            refine r_reg (l := [(8, .u (.c (.v (.bool false))))]) (cg_then (ds := [8]) 1 rfl (by kernel_rfl) (.nil)) rfl (by kernel_rfl) ?_
            refine r_ret ?_
            obtain rfl := Option.some.inj h
            exact ⟨.inr rfl, _, _, .cons (.copy rfl rfl rfl) (.nil), rfl, outs_of trivial⟩
          · have h := cond_f hb h
            have hs19 := hb
            obtain ⟨r20, hr20, h⟩ := bind_some h
            refine r_reg (l := [(2, .u (.c (.v (.int .i64 r13)))), (3, .u (.c (.v (.int .i64 r14)))), (9, .u (.c (.v (.bool r1)))), (10, .u (.c (zoneC r20.1))), (13, .u (.c (.sl true 2 (r12.2.map eR)))), (14, .u (.c (.v (.int .i64 r15.2.1)))), (84, .u (.c (.v (.bool r20.2))))]) (cg_then (ds := [75, 76]) 2 rfl (by kernel_rfl) (co_then 3 rfl (os_to (os_plain rfl rfl (s_shift (op := .shl) (k := .i64) (p := 1) (q := r14) (yk := .i64) rfl (.inl rfl) (by kernel_rfl) (by kernel_rfl) hg16 rfl (by kernel_rfl))) (t' := .u (.c (.v (.int .i64 (IntKind.i64.wrap (1 * 2 ^ min (r14).toNat (IntKind.i64).bits)))))) (by kernel_rfl)) (co_then 4 rfl (os_to (os_plain rfl rfl (s_div (op := .rem) (k := .i64) (p := r15.2.1) (q := (IntKind.i64.wrap (1 * 2 ^ min (r14).toNat (IntKind.i64).bits))) rfl (.inr rfl) (by kernel_rfl) (by kernel_rfl) hg17 rfl (by kernel_rfl))) (t' := .u (.c (.v (.int .i64 (r15.2.1.tmod (IntKind.i64.wrap (1 * 2 ^ min (r14).toNat (IntKind.i64).bits))))))) (by kernel_rfl)) (cg_then (ds := [79]) 5 rfl (by kernel_rfl) (co_then 6 rfl (os_ge (d := 80) (t := .u (.c (.v (.bool ((r15.2.1.tmod (IntKind.i64.wrap (1 * 2 ^ min (r14).toNat (IntKind.i64).bits))) != 0))))) (t' := .u (.c (.v (.bool false)))) (by kernel_rfl) (by rw [hs19])) (cg_then (ds := [81, 82]) 8 rfl (by kernel_rfl) (co_then 9 rfl (os_gy rfl rfl rfl (by kernel_rfl) (c_call (AC.k (ZIsFree.ac (h := hr20))) ⟨_, Tryd.func21, rfl, by kernel_rfl⟩ rfl (hand_root (r := 10) (c := zoneC r15.1) (by kernel_rfl) (by kernel_rfl) rfl (.rd (.copy (by kernel_rfl) rfl) (.nil))) rfl (by kernel_rfl))) (cg_then (ds := [84]) 10 rfl (by kernel_rfl) (.nil))))))))) rfl (by kernel_rfl) ?_
            rcases Bool.eq_false_or_eq_true (r20.2) with hb | hb
            · have h := cond_t hb h
              refine r_condT hb rfl ?_
              refine r_seq ?_
              refine r_reg (l := [(8, .u (.c (.v (.bool false))))]) (cg_then (ds := [8]) 1 rfl (by kernel_rfl) (.nil)) rfl (by kernel_rfl) ?_
              refine r_ret ?_
              obtain rfl := Option.some.inj h
              exact ⟨.inr rfl, _, _, .cons (.copy rfl rfl rfl) (.nil), rfl, outs_of trivial⟩
            · have h := cond_f hb h
              refine r_condF hb rfl ?_
              refine r_skip ?_
              refine r_seq ?_
              obtain ⟨r21, hr21, h⟩ := bind_some h
              refine r_reg (l := [(2, .u (.c (.v (.int .i64 r13)))), (3, .u (.c (.v (.int .i64 r14)))), (9, .u (.c (.v (.bool r1)))), (10, .u (.c (zoneC r21.1))), (13, .u (.c (.sl true 2 (r12.2.map eR)))), (14, .u (.c (.v (.int .i64 r15.2.1)))), (16, .u (.c (.v (.int .i64 r21.2.1)))), (17, .u (.c (.err r21.2.2)))]) (cg_then (ds := [86, 87]) 2 rfl (by kernel_rfl) (co_then 3 rfl (os_to (os_plain rfl rfl (s_div (op := .quo) (k := .i64) (p := r15.2.1) (q := 8) rfl (.inl rfl) (by kernel_rfl) (by kernel_rfl) (by decide) rfl (by kernel_rfl))) (t' := .u (.c (.v (.int .i64 (IntKind.i64.wrap (r15.2.1.tdiv 8)))))) (by kernel_rfl)) (co_then 4 rfl (os_plain rfl rfl (c_call (AC.k (ZSort.ac (h := hr21))) ⟨_, Tryd.func19, rfl, by kernel_rfl⟩ rfl (hand_root (r := 10) (c := zoneC r20.1) (by kernel_rfl) (by kernel_rfl) rfl (.rd (.copy (by kernel_rfl) rfl) (.nil))) rfl (by kernel_rfl))) (co_then 5 rfl (os_plain rfl rfl (s_moveT (us := [.c (.v (.int .i64 r21.2.1)), .c (.err r21.2.2)]) (.inl rfl) (by kernel_rfl) rfl (by kernel_rfl))) (cg_then (ds := [90, 91, 16, 17]) 9 rfl (by kernel_rfl) (.nil)))))) rfl (by kernel_rfl) ?_
              refine r_seq ?_
              obtain ⟨r22, hr22, h⟩ := bind_some h
              refine r_reg (l := [(2, .u (.c (.v (.int .i64 r13)))), (9, .u (.c (.v (.bool r1)))), (10, .u (.c (zoneC r22.1))), (13, .u (.c (.sl true 2 (r12.2.map eR)))), (16, .u (.c (.v (.int .i64 r21.2.1)))), (17, .u (.c (.err r21.2.2))), (18, .u (.c (.err r22.2)))]) (cg_then (ds := [92, 93, 94]) 3 rfl (by kernel_rfl) (co_then 4 rfl (os_plain rfl rfl (c_call (AC.k (ZGive.ac (h := hr22))) ⟨_, Tryd.func22, rfl, by kernel_rfl⟩ rfl (hand_root (r := 10) (c := zoneC r21.1) (by kernel_rfl) (by kernel_rfl) rfl (.rd (.copy (by kernel_rfl) rfl) (.rd (.copy (by kernel_rfl) rfl) (.nil)))) rfl (by kernel_rfl))) (cg_then (ds := [18]) 5 rfl (by kernel_rfl) (.nil)))) rfl (by kernel_rfl) ?_
              refine r_seq ?_
              rcases Bool.eq_false_or_eq_true (!(r22.2 == none)) with hb | hb
              · have h := cond_t hb h
                have hs23 := hb
                refine r_reg (l := [(9, .u (.c (.v (.bool r1)))), (10, .u (.c (zoneC r22.1))), (13, .u (.c (.sl true 2 (r12.2.map eR)))), (106, .u (.c (.v (.bool true))))]) (cg_then (ds := [96, 97]) 2 rfl (by kernel_rfl) (co_then 3 rfl (os_ge (d := 98) (t := .u (.c (.v (.bool (!(r22.2 == none)))))) (t' := .u (.c (.v (.bool true)))) (by kernel_rfl) (by rw [hs23])) (cg_then (ds := [99, 100, 101, 102, 103, 104, 105, 106]) 11 rfl (by kernel_rfl) (.nil)))) rfl (by kernel_rfl) ?_
                refine r_condT rfl rfl ?_
                refine r_seq ?_
                refine r_reg (l := [(8, .u (.c (.v (.bool false))))]) (cg_then (ds := [8]) 1 rfl (by kernel_rfl) (.nil)) rfl (by kernel_rfl) ?_
                refine r_ret ?_
                obtain rfl := Option.some.inj h
                exact ⟨.inr rfl, _, _, .cons (.copy rfl rfl rfl) (.nil), rfl, outs_of trivial⟩
              · have h := cond_f hb h
                have hs24 := hb
                rcases Bool.eq_false_or_eq_true (!(r21.2.2 == none)) with hb | hb
                · have h := cond_t hb h
                  have hs25 := hb
                  refine r_reg (l := [(9, .u (.c (.v (.bool r1)))), (10, .u (.c (zoneC r22.1))), (13, .u (.c (.sl true 2 (r12.2.map eR)))), (106, .u (.c (.v (.bool true))))]) (cg_then (ds := [96, 97]) 2 rfl (by kernel_rfl) (co_then 3 rfl (os_ge (d := 98) (t := .u (.c (.v (.bool (!(r22.2 == none)))))) (t' := .u (.c (.v (.bool false)))) (by kernel_rfl) (by rw [hs24])) (cg_then (ds := [99, 100, 101]) 6 rfl (by kernel_rfl) (co_then 7 rfl (os_ge (d := 102) (t := .u (.c (.v (.bool (!(r21.2.2 == none)))))) (t' := .u (.c (.v (.bool true)))) (by kernel_rfl) (by rw [hs25])) (cg_then (ds := [103, 104, 105, 106]) 11 rfl (by kernel_rfl) (.nil)))))) rfl (by kernel_rfl) ?_
                  refine r_condT rfl rfl ?_
                  refine r_seq ?_
                  refine r_reg (l := [(8, .u (.c (.v (.bool false))))]) (cg_then (ds := [8]) 1 rfl (by kernel_rfl) (.nil)) rfl (by kernel_rfl) ?_
                  refine r_ret ?_
                  obtain rfl := Option.some.inj h
                  exact ⟨.inr rfl, _, _, .cons (.copy rfl rfl rfl) (.nil), rfl, outs_of trivial⟩
                · have h := cond_f hb h
                  have hs26 := hb
                  refine r_reg (l := [(9, .u (.c (.v (.bool r1)))), (10, .u (.c (zoneC r22.1))), (13, .u (.c (.sl true 2 (r12.2.map eR)))), (106, .u (.c (.v (.bool (r21.2.1 != r13)))))]) (cg_then (ds := [96, 97]) 2 rfl (by kernel_rfl) (co_then 3 rfl (os_ge (d := 98) (t := .u (.c (.v (.bool (!(r22.2 == none)))))) (t' := .u (.c (.v (.bool false)))) (by kernel_rfl) (by rw [hs24])) (cg_then (ds := [99, 100, 101]) 6 rfl (by kernel_rfl) (co_then 7 rfl (os_ge (d := 102) (t := .u (.c (.v (.bool (!(r21.2.2 == none)))))) (t' := .u (.c (.v (.bool false)))) (by kernel_rfl) (by rw [hs26])) (cg_then (ds := [103, 104, 105, 106]) 11 rfl (by kernel_rfl) (.nil)))))) rfl (by kernel_rfl) ?_
                  rcases Bool.eq_false_or_eq_true (r21.2.1 != r13) with hb | hb
                  · have h := cond_t hb h
                    refine r_condT hb rfl ?_
                    refine r_seq ?_
                    refine r_reg (l := [(8, .u (.c (.v (.bool false))))]) (cg_then (ds := [8]) 1 rfl (by kernel_rfl) (.nil)) rfl (by kernel_rfl) ?_
                    refine r_ret ?_
                    obtain rfl := Option.some.inj h
                    exact ⟨.inr rfl, _, _, .cons (.copy rfl rfl rfl) (.nil), rfl, outs_of trivial⟩
                  · have h := cond_f hb h
                    refine r_condF hb rfl ?_
                    refine r_skip ?_
                    refine r_seq ?_
                    obtain ⟨r27, hr27, h⟩ := bind_some h
                    refine r_reg (l := [(9, .u (.c (.v (.bool r1)))), (13, .u (.c (.sl true 2 (r12.2.map eR)))), (19, .u (.c (.sl true 2 (r27.2.map eR))))]) (co_then 1 rfl (os_plain rfl rfl (s_take (u := .c (zoneC r22.1)) (.inl rfl) (.move (by kernel_rfl) rfl) rfl (by kernel_rfl))) (co_then 2 rfl (os_plain rfl rfl (c_call (AC.k (ZFree.ac (h := hr27))) ⟨_, Tryd.func14, rfl, by kernel_rfl⟩ rfl (hand_root (r := 107) (c := zoneC r22.1) (by kernel_rfl) (by kernel_rfl) rfl (.nil)) rfl (by kernel_rfl))) (co_then 3 rfl (os_plain rfl rfl (s_take (u := .c (.sl true 2 (r27.2.map eR))) (.inr rfl) (.move (by kernel_rfl) rfl) rfl (by kernel_rfl))) (.nil)))) rfl (by kernel_rfl) ?_
                    refine r_seq ?_
                    refine r_seq ?_
                    refine r_reg (l := [(9, .u (.c (.v (.bool r1)))), (13, .u (.c (.sl true 2 (r12.2.map eR)))), (19, .u (.c (.sl true 2 (r27.2.map eR)))), (113, .u (.c (.v (.bool ((r27.2.length : Int) != (r12.2.length : Int))))))]) (cg_then (ds := [109]) 1 rfl (by kernel_rfl) (co_then 2 rfl (os_to (os_plain rfl rfl (s_lenV (r := 19) (lo := 0) (n := (r27.2.map eR).length) (pl := none) (sz := 2) rfl sl36 (by kernel_rfl) rfl (by kernel_rfl))) (t' := .u (.c (.v (.int .i64 (r27.2.length : Int))))) (by rw [List.length_map])) (cg_then (ds := [111]) 3 rfl (by kernel_rfl) (co_then 4 rfl (os_to (os_plain rfl rfl (s_lenV (r := 13) (lo := 0) (n := (r12.2.map eR).length) (pl := none) (sz := 2) rfl sl36 (by kernel_rfl) rfl (by kernel_rfl))) (t' := .u (.c (.v (.int .i64 (r12.2.length : Int))))) (by rw [List.length_map])) (cg_then (ds := [113]) 5 rfl (by kernel_rfl) (.nil)))))) rfl (by kernel_rfl) ?_
                    rcases Bool.eq_false_or_eq_true ((r27.2.length : Int) != (r12.2.length : Int)) with hb | hb
                    · have h := cond_t hb h
                      refine r_condT hb rfl ?_
                      refine r_seq ?_
                      refine r_reg (l := [(8, .u (.c (.v (.bool false))))]) (cg_then (ds := [8]) 1 rfl (by kernel_rfl) (.nil)) rfl (by kernel_rfl) ?_
                      refine r_ret ?_
                      obtain rfl := Option.some.inj h
                      exact ⟨.inr rfl, _, _, .cons (.copy rfl rfl rfl) (.nil), rfl, outs_of trivial⟩
                    · have h := cond_f hb h
                      refine r_condF hb rfl ?_
                      refine r_skip ?_
                      refine r_seq ?_
                      refine r_seq ?_
                      refine r_reg (l := [(9, .u (.c (.v (.bool r1)))), (13, .u (.c (.sl true 2 (r12.2.map eR)))), (19, .u (.c (.sl true 2 (r27.2.map eR)))), (20, .u (.c (.v (.int .i64 0))))]) (cg_then (ds := [20]) 1 rfl (by kernel_rfl) (.nil)) rfl (by kernel_rfl) ?_
                      refine r_block ?_
                      refine r_weak (of_weak (l := [(9, .u (.c (.v (.bool r1)))), (13, .u (.c (.sl true 2 (r12.2.map eR)))), (19, .u (.c (.sl true 2 (r27.2.map eR)))), (20, .u (.c (.v (.int .i64 0))))]) (by kernel_rfl)) ?_
                      refine r_loopI (α := Int) (fun x => [(9, .u (.c (.v (.bool r1)))), (13, .u (.c (.sl true 2 (r12.2.map eR)))), (19, .u (.c (.sl true 2 (r27.2.map eR)))), (20, .u (.c (.v (.int .i64 x))))]) (fun n x => ZoneBack.l2 k a0 a1 a2 a3 r1 r2 r3 v4 v5 r12 r13 r14 r15 r20 r21 r22 r27 n x = some r) k 0 h (by intro x h; unfold ZoneBack.l2 at h; cases h) ?_
                      rintro n2 v28 h
                      replace h : ZoneBack.l2 k a0 a1 a2 a3 r1 r2 r3 v4 v5 r12 r13 r14 r15 r20 r21 r22 r27 (n2 + 1) v28 = some r := h
                      unfold ZoneBack.l2 at h
                      show Run _ _ _ (St.of [(9, .u (.c (.v (.bool r1)))), (13, .u (.c (.sl true 2 (r12.2.map eR)))), (19, .u (.c (.sl true 2 (r27.2.map eR)))), (20, .u (.c (.v (.int .i64 v28))))]) _
                      refine r_seq ?_
                      refine r_seq ?_
                      refine r_reg (l := [(9, .u (.c (.v (.bool r1)))), (13, .u (.c (.sl true 2 (r12.2.map eR)))), (19, .u (.c (.sl true 2 (r27.2.map eR)))), (20, .u (.c (.v (.int .i64 v28)))), (117, .u (.c (.v (.bool (decide (v28 < (r27.2.length : Int)))))))]) (cg_then (ds := [114, 115]) 2 rfl (by kernel_rfl) (co_then 3 rfl (os_to (os_plain rfl rfl (s_lenV (r := 19) (lo := 0) (n := (r27.2.map eR).length) (pl := none) (sz := 2) rfl sl36 (by kernel_rfl) rfl (by kernel_rfl))) (t' := .u (.c (.v (.int .i64 (r27.2.length : Int))))) (by rw [List.length_map])) (cg_then (ds := [117]) 4 rfl (by kernel_rfl) (.nil)))) rfl (by kernel_rfl) ?_
                      rcases Bool.eq_false_or_eq_true (decide (v28 < (r27.2.length : Int))) with hb | hb
                      · have h := cond_t hb h
                        refine r_condT hb rfl ?_
                        refine r_skip ?_
                        refine r_seq ?_
                        refine r_block ?_
                        refine r_seq ?_
                        obtain ⟨hg29, h⟩ := guard_some h
                        simp only [Bool.and_eq_true, decide_eq_true_eq] at hg29
                        obtain ⟨hg30, h⟩ := guard_some h
                        simp only [Bool.and_eq_true, decide_eq_true_eq] at hg30
                        refine r_weak (of_weak (l := [(9, .u (.c (.v (.bool r1)))), (13, .u (.c (.sl true 2 (r12.2.map eR)))), (19, .u (.c (.sl true 2 (r27.2.map eR)))), (20, .u (.c (.v (.int .i64 v28)))), (117, .u (.c (.v (.bool (decide (v28 < (r27.2.length : Int)))))))]) (by kernel_rfl)) ?_
                        refine r_anyW (l := [(9, .u (.c (.v (.bool r1)))), (13, .u (.c (.sl true 2 (r12.2.map eR)))), (19, .u (.c (.sl true 2 (r27.2.map eR)))), (20, .u (.c (.v (.int .i64 v28)))), (128, .u (.c (.v (.bool (!(((r27.2.getD ((v28).toNat) zR).f) == ((r12.2.getD ((v28).toNat) zR).f) && (((r27.2.getD ((v28).toNat) zR).o) == ((r12.2.getD ((v28).toNat) zR).o))))))))]) (tab := [[], [], [0, 1], [2], [], [], [4, 5], [6], [3, 7]]) [⟨[], [19], [(120, .whole 19 none 2 ((r27.2.map eR).length))], some 120, false⟩, ⟨[], [20], [(121, .u (.c (.v (.int .i64 v28))))], some 121, false⟩, ⟨[0, 1], [19, 120, 121], [(122, .addr 19 (.i ((v28).toNat) 2) [] 0)], some 122, false⟩, ⟨[0, 1, 2], [19, 122], [(123, .u (.agg [.v (.int .i64 ((r27.2.getD ((v28).toNat) zR).f)), .v (.int .i64 ((r27.2.getD ((v28).toNat) zR).o))]))], some 123, false⟩, ⟨[], [13], [(124, .whole 13 none 2 ((r12.2.map eR).length))], some 124, false⟩, ⟨[], [20], [(125, .u (.c (.v (.int .i64 v28))))], some 125, false⟩, ⟨[4, 5], [13, 124, 125], [(126, .addr 13 (.i ((v28).toNat) 2) [] 0)], some 126, false⟩, ⟨[4, 5, 6], [13, 126], [(127, .u (.agg [.v (.int .i64 ((r12.2.getD ((v28).toNat) zR).f)), .v (.int .i64 ((r12.2.getD ((v28).toNat) zR).o))]))], some 127, false⟩, ⟨[0, 1, 2, 3, 4, 5, 6, 7], [123, 127], [(128, .u (.c (.v (.bool (!(((r27.2.getD ((v28).toNat) zR).f) == ((r12.2.getD ((v28).toNat) zR).f) && (((r27.2.getD ((v28).toNat) zR).o) == ((r12.2.getD ((v28).toNat) zR).o))))))))], some 128, false⟩] hm (by kernel_rfl) (by kernel_rfl) (by kernel_rfl) (.cons (fun σ hc => e_g (d := 120) (t := .whole 19 none 2 ((r27.2.map eR).length)) hc rfl rfl (by kernel_rfl)) (.cons (fun σ hc => e_g (d := 121) (t := .u (.c (.v (.int .i64 v28)))) hc rfl rfl (by kernel_rfl)) (.cons (fun σ hc => e_put hc rfl rfl (os_plain rfl rfl (s_indexV (r := 19) (lo := 0) (n := (r27.2.map eR).length) (pl := none) (sz := 2) (e := v28) (ik := .i64) (k := (v28).toNat) rfl sl36 (by kernel_rfl) (.tmp (by kernel_rfl)) hg29.1 (by rw [List.length_map]; exact hg29.2) (Nat.zero_add _) rfl (by kernel_rfl) (by kernel_rfl)))) (.cons (fun σ hc => e_put hc rfl rfl (os_plain rfl rfl (s_loadA (n := 2) (xs := [.v (.int .i64 ((r27.2.getD ((v28).toNat) zR).f)), .v (.int .i64 ((r27.2.getD ((v28).toNat) zR).o))]) (r := 19) (off := 0) (s := .i ((v28).toNat) 2) (p := []) (c := .sl true 2 (r27.2.map eR)) (cs := eR (r27.2.getD ((v28).toNat) zR)) rfl (aggB_ok (by kernel_rfl)) (by kernel_rfl) (by kernel_rfl) (getP_map zR (by have := hg29; omega)) rfl rfl rfl rfl (by kernel_rfl)))) (.cons (fun σ hc => e_g (d := 124) (t := .whole 13 none 2 ((r12.2.map eR).length)) hc rfl rfl (by kernel_rfl)) (.cons (fun σ hc => e_g (d := 125) (t := .u (.c (.v (.int .i64 v28)))) hc rfl rfl (by kernel_rfl)) (.cons (fun σ hc => e_put hc rfl rfl (os_plain rfl rfl (s_indexV (r := 13) (lo := 0) (n := (r12.2.map eR).length) (pl := none) (sz := 2) (e := v28) (ik := .i64) (k := (v28).toNat) rfl sl36 (by kernel_rfl) (.tmp (by kernel_rfl)) hg30.1 (by rw [List.length_map]; exact hg30.2) (Nat.zero_add _) rfl (by kernel_rfl) (by kernel_rfl)))) (.cons (fun σ hc => e_put hc rfl rfl (os_plain rfl rfl (s_loadA (n := 2) (xs := [.v (.int .i64 ((r12.2.getD ((v28).toNat) zR).f)), .v (.int .i64 ((r12.2.getD ((v28).toNat) zR).o))]) (r := 13) (off := 0) (s := .i ((v28).toNat) 2) (p := []) (c := .sl true 2 (r12.2.map eR)) (cs := eR (r12.2.getD ((v28).toNat) zR)) rfl (aggB_ok (by kernel_rfl)) (by kernel_rfl) (by kernel_rfl) (getP_map zR (by have := hg30; omega)) rfl rfl rfl rfl (by kernel_rfl)))) (.cons (fun σ hc => e_put hc rfl rfl (os_plain rfl rfl (s_eqA (b := ((r27.2.getD ((v28).toNat) zR).f) == ((r12.2.getD ((v28).toNat) zR).f) && (((r27.2.getD ((v28).toNat) zR).o) == ((r12.2.getD ((v28).toNat) zR).o))) rfl (.inr rfl) eqAgg39 (by kernel_rfl) rfl rfl rfl rfl rfl rfl (by kernel_rfl)))) (.nil)))))))))) (by kernel_rfl) ?_
                        rcases Bool.eq_false_or_eq_true (!(((r27.2.getD ((v28).toNat) zR).f) == ((r12.2.getD ((v28).toNat) zR).f) && (((r27.2.getD ((v28).toNat) zR).o) == ((r12.2.getD ((v28).toNat) zR).o)))) with hb | hb
                        · have h := cond_t hb h
                          refine r_condT hb rfl ?_
                          refine r_seq ?_
                          refine r_reg (l := [(8, .u (.c (.v (.bool false))))]) (cg_then (ds := [8]) 1 rfl (by kernel_rfl) (.nil)) rfl (by kernel_rfl) ?_
                          refine r_ret ?_
                          obtain rfl := Option.some.inj h
                          exact ⟨.inr rfl, _, _, .cons (.copy rfl rfl rfl) (.nil), rfl, outs_of trivial⟩
                        · have h := cond_f hb h
                          refine r_condF hb rfl ?_
                          refine r_skip ?_
                          refine r_reg (l := [(9, .u (.c (.v (.bool r1)))), (13, .u (.c (.sl true 2 (r12.2.map eR)))), (19, .u (.c (.sl true 2 (r27.2.map eR)))), (20, .u (.c (.v (.int .i64 (IntKind.i64.wrap (v28 + 1))))))]) (cg_then (ds := [118, 119, 20]) 3 rfl (by kernel_rfl) (.nil)) rfl (by kernel_rfl) ?_
                          exact ⟨IntKind.i64.wrap (v28 + 1), h, of_weak (by kernel_rfl)⟩
                      · have h := cond_f hb h
                        refine r_condF hb rfl ?_
                        refine r_exit ?_
                        refine r_seq ?_
                        refine r_reg (l := [(8, .u (.c (.v (.bool r1))))]) (cg_then (ds := [129, 8]) 2 rfl (by kernel_rfl) (.nil)) rfl (by kernel_rfl) ?_
                        refine r_ret ?_
                        obtain rfl := Option.some.inj h
                        exact ⟨.inr rfl, _, _, .cons (.copy rfl rfl rfl) (.nil), rfl, outs_of trivial⟩
        · have h := cond_f hb h
          refine r_condF hb rfl ?_
          refine r_skip ?_
          refine r_seq ?_
          obtain ⟨r31, hr31, h⟩ := bind_some h
          refine r_reg (l := [(9, .u (.c (.v (.bool r1)))), (13, .u (.c (.sl true 2 (r12.2.map eR)))), (19, .u (.c (.sl true 2 (r31.2.map eR))))]) (co_then 1 rfl (os_plain rfl rfl (s_take (u := .c (zoneC r15.1)) (.inl rfl) (.move (by kernel_rfl) rfl) rfl (by kernel_rfl))) (co_then 2 rfl (os_plain rfl rfl (c_call (AC.k (ZFree.ac (h := hr31))) ⟨_, Tryd.func14, rfl, by kernel_rfl⟩ rfl (hand_root (r := 107) (c := zoneC r15.1) (by kernel_rfl) (by kernel_rfl) rfl (.nil)) rfl (by kernel_rfl))) (co_then 3 rfl (os_plain rfl rfl (s_take (u := .c (.sl true 2 (r31.2.map eR))) (.inr rfl) (.move (by kernel_rfl) rfl) rfl (by kernel_rfl))) (.nil)))) rfl (by kernel_rfl) ?_
          refine r_seq ?_
          refine r_seq ?_
          refine r_reg (l := [(9, .u (.c (.v (.bool r1)))), (13, .u (.c (.sl true 2 (r12.2.map eR)))), (19, .u (.c (.sl true 2 (r31.2.map eR)))), (113, .u (.c (.v (.bool ((r31.2.length : Int) != (r12.2.length : Int))))))]) (cg_then (ds := [109]) 1 rfl (by kernel_rfl) (co_then 2 rfl (os_to (os_plain rfl rfl (s_lenV (r := 19) (lo := 0) (n := (r31.2.map eR).length) (pl := none) (sz := 2) rfl sl36 (by kernel_rfl) rfl (by kernel_rfl))) (t' := .u (.c (.v (.int .i64 (r31.2.length : Int))))) (by rw [List.length_map])) (cg_then (ds := [111]) 3 rfl (by kernel_rfl) (co_then 4 rfl (os_to (os_plain rfl rfl (s_lenV (r := 13) (lo := 0) (n := (r12.2.map eR).length) (pl := none) (sz := 2) rfl sl36 (by kernel_rfl) rfl (by kernel_rfl))) (t' := .u (.c (.v (.int .i64 (r12.2.length : Int))))) (by rw [List.length_map])) (cg_then (ds := [113]) 5 rfl (by kernel_rfl) (.nil)))))) rfl (by kernel_rfl) ?_
          rcases Bool.eq_false_or_eq_true ((r31.2.length : Int) != (r12.2.length : Int)) with hb | hb
          · have h := cond_t hb h
            refine r_condT hb rfl ?_
            refine r_seq ?_
            refine r_reg (l := [(8, .u (.c (.v (.bool false))))]) (cg_then (ds := [8]) 1 rfl (by kernel_rfl) (.nil)) rfl (by kernel_rfl) ?_
            refine r_ret ?_
            obtain rfl := Option.some.inj h
            exact ⟨.inr rfl, _, _, .cons (.copy rfl rfl rfl) (.nil), rfl, outs_of trivial⟩
          · have h := cond_f hb h
            refine r_condF hb rfl ?_
            refine r_skip ?_
            refine r_seq ?_
            refine r_seq ?_
            refine r_reg (l := [(9, .u (.c (.v (.bool r1)))), (13, .u (.c (.sl true 2 (r12.2.map eR)))), (19, .u (.c (.sl true 2 (r31.2.map eR)))), (20, .u (.c (.v (.int .i64 0))))]) (cg_then (ds := [20]) 1 rfl (by kernel_rfl) (.nil)) rfl (by kernel_rfl) ?_
            refine r_block ?_
            refine r_weak (of_weak (l := [(9, .u (.c (.v (.bool r1)))), (13, .u (.c (.sl true 2 (r12.2.map eR)))), (19, .u (.c (.sl true 2 (r31.2.map eR)))), (20, .u (.c (.v (.int .i64 0))))]) (by kernel_rfl)) ?_
            refine r_loopI (α := Int) (fun x => [(9, .u (.c (.v (.bool r1)))), (13, .u (.c (.sl true 2 (r12.2.map eR)))), (19, .u (.c (.sl true 2 (r31.2.map eR)))), (20, .u (.c (.v (.int .i64 x))))]) (fun n x => ZoneBack.l3 k a0 a1 a2 a3 r1 r2 r3 v4 v5 r12 r13 r14 r15 r31 n x = some r) k 0 h (by intro x h; unfold ZoneBack.l3 at h; cases h) ?_
            rintro n3 v32 h
            replace h : ZoneBack.l3 k a0 a1 a2 a3 r1 r2 r3 v4 v5 r12 r13 r14 r15 r31 (n3 + 1) v32 = some r := h
            unfold ZoneBack.l3 at h
            show Run _ _ _ (St.of [(9, .u (.c (.v (.bool r1)))), (13, .u (.c (.sl true 2 (r12.2.map eR)))), (19, .u (.c (.sl true 2 (r31.2.map eR)))), (20, .u (.c (.v (.int .i64 v32))))]) _
            refine r_seq ?_
            refine r_seq ?_
            refine r_reg (l := [(9, .u (.c (.v (.bool r1)))), (13, .u (.c (.sl true 2 (r12.2.map eR)))), (19, .u (.c (.sl true 2 (r31.2.map eR)))), (20, .u (.c (.v (.int .i64 v32)))), (117, .u (.c (.v (.bool (decide (v32 < (r31.2.length : Int)))))))]) (cg_then (ds := [114, 115]) 2 rfl (by kernel_rfl) (co_then 3 rfl (os_to (os_plain rfl rfl (s_lenV (r := 19) (lo := 0) (n := (r31.2.map eR).length) (pl := none) (sz := 2) rfl sl36 (by kernel_rfl) rfl (by kernel_rfl))) (t' := .u (.c (.v (.int .i64 (r31.2.length : Int))))) (by rw [List.length_map])) (cg_then (ds := [117]) 4 rfl (by kernel_rfl) (.nil)))) rfl (by kernel_rfl) ?_
            rcases Bool.eq_false_or_eq_true (decide (v32 < (r31.2.length : Int))) with hb | hb
            · have h := cond_t hb h
              refine r_condT hb rfl ?_
              refine r_skip ?_
              refine r_seq ?_
              refine r_block ?_
              refine r_seq ?_
              obtain ⟨hg33, h⟩ := guard_some h
              simp only [Bool.and_eq_true, decide_eq_true_eq] at hg33
              obtain ⟨hg34, h⟩ := guard_some h
              simp only [Bool.and_eq_true, decide_eq_true_eq] at hg34
              refine r_weak (of_weak (l := [(9, .u (.c (.v (.bool r1)))), (13, .u (.c (.sl true 2 (r12.2.map eR)))), (19, .u (.c (.sl true 2 (r31.2.map eR)))), (20, .u (.c (.v (.int .i64 v32)))), (117, .u (.c (.v (.bool (decide (v32 < (r31.2.length : Int)))))))]) (by kernel_rfl)) ?_
              refine r_anyW (l := [(9, .u (.c (.v (.bool r1)))), (13, .u (.c (.sl true 2 (r12.2.map eR)))), (19, .u (.c (.sl true 2 (r31.2.map eR)))), (20, .u (.c (.v (.int .i64 v32)))), (128, .u (.c (.v (.bool (!(((r31.2.getD ((v32).toNat) zR).f) == ((r12.2.getD ((v32).toNat) zR).f) && (((r31.2.getD ((v32).toNat) zR).o) == ((r12.2.getD ((v32).toNat) zR).o))))))))]) (tab := [[], [], [0, 1], [2], [], [], [4, 5], [6], [3, 7]]) [⟨[], [19], [(120, .whole 19 none 2 ((r31.2.map eR).length))], some 120, false⟩, ⟨[], [20], [(121, .u (.c (.v (.int .i64 v32))))], some 121, false⟩, ⟨[0, 1], [19, 120, 121], [(122, .addr 19 (.i ((v32).toNat) 2) [] 0)], some 122, false⟩, ⟨[0, 1, 2], [19, 122], [(123, .u (.agg [.v (.int .i64 ((r31.2.getD ((v32).toNat) zR).f)), .v (.int .i64 ((r31.2.getD ((v32).toNat) zR).o))]))], some 123, false⟩, ⟨[], [13], [(124, .whole 13 none 2 ((r12.2.map eR).length))], some 124, false⟩, ⟨[], [20], [(125, .u (.c (.v (.int .i64 v32))))], some 125, false⟩, ⟨[4, 5], [13, 124, 125], [(126, .addr 13 (.i ((v32).toNat) 2) [] 0)], some 126, false⟩, ⟨[4, 5, 6], [13, 126], [(127, .u (.agg [.v (.int .i64 ((r12.2.getD ((v32).toNat) zR).f)), .v (.int .i64 ((r12.2.getD ((v32).toNat) zR).o))]))], some 127, false⟩, ⟨[0, 1, 2, 3, 4, 5, 6, 7], [123, 127], [(128, .u (.c (.v (.bool (!(((r31.2.getD ((v32).toNat) zR).f) == ((r12.2.getD ((v32).toNat) zR).f) && (((r31.2.getD ((v32).toNat) zR).o) == ((r12.2.getD ((v32).toNat) zR).o))))))))], some 128, false⟩] hm (by kernel_rfl) (by kernel_rfl) (by kernel_rfl) (.cons (fun σ hc => e_g (d := 120) (t := .whole 19 none 2 ((r31.2.map eR).length)) hc rfl rfl (by kernel_rfl)) (.cons (fun σ hc => e_g (d := 121) (t := .u (.c (.v (.int .i64 v32)))) hc rfl rfl (by kernel_rfl)) (.cons (fun σ hc => e_put hc rfl rfl (os_plain rfl rfl (s_indexV (r := 19) (lo := 0) (n := (r31.2.map eR).length) (pl := none) (sz := 2) (e := v32) (ik := .i64) (k := (v32).toNat) rfl sl36 (by kernel_rfl) (.tmp (by kernel_rfl)) hg33.1 (by rw [List.length_map]; exact hg33.2) (Nat.zero_add _) rfl (by kernel_rfl) (by kernel_rfl)))) (.cons (fun σ hc => e_put hc rfl rfl (os_plain rfl rfl (s_loadA (n := 2) (xs := [.v (.int .i64 ((r31.2.getD ((v32).toNat) zR).f)), .v (.int .i64 ((r31.2.getD ((v32).toNat) zR).o))]) (r := 19) (off := 0) (s := .i ((v32).toNat) 2) (p := []) (c := .sl true 2 (r31.2.map eR)) (cs := eR (r31.2.getD ((v32).toNat) zR)) rfl (aggB_ok (by kernel_rfl)) (by kernel_rfl) (by kernel_rfl) (getP_map zR (by have := hg33; omega)) rfl rfl rfl rfl (by kernel_rfl)))) (.cons (fun σ hc => e_g (d := 124) (t := .whole 13 none 2 ((r12.2.map eR).length)) hc rfl rfl (by kernel_rfl)) (.cons (fun σ hc => e_g (d := 125) (t := .u (.c (.v (.int .i64 v32)))) hc rfl rfl (by kernel_rfl)) (.cons (fun σ hc => e_put hc rfl rfl (os_plain rfl rfl (s_indexV (r := 13) (lo := 0) (n := (r12.2.map eR).length) (pl := none) (sz := 2) (e := v32) (ik := .i64) (k := (v32).toNat) rfl sl36 (by kernel_rfl) (.tmp (by kernel_rfl)) hg34.1 (by rw [List.length_map]; exact hg34.2) (Nat.zero_add _) rfl (by kernel_rfl) (by kernel_rfl)))) (.cons (fun σ hc => e_put hc rfl rfl (os_plain rfl rfl (s_loadA (n := 2) (xs := [.v (.int .i64 ((r12.2.getD ((v32).toNat) zR).f)), .v (.int .i64 ((r12.2.getD ((v32).toNat) zR).o))]) (r := 13) (off := 0) (s := .i ((v32).toNat) 2) (p := []) (c := .sl true 2 (r12.2.map eR)) (cs := eR (r12.2.getD ((v32).toNat) zR)) rfl (aggB_ok (by kernel_rfl)) (by kernel_rfl) (by kernel_rfl) (getP_map zR (by have := hg34; omega)) rfl rfl rfl rfl (by kernel_rfl)))) (.cons (fun σ hc => e_put hc rfl rfl (os_plain rfl rfl (s_eqA (b := ((r31.2.getD ((v32).toNat) zR).f) == ((r12.2.getD ((v32).toNat) zR).f) && (((r31.2.getD ((v32).toNat) zR).o) == ((r12.2.getD ((v32).toNat) zR).o))) rfl (.inr rfl) eqAgg39 (by kernel_rfl) rfl rfl rfl rfl rfl rfl (by kernel_rfl)))) (.nil)))))))))) (by kernel_rfl) ?_
              rcases Bool.eq_false_or_eq_true (!(((r31.2.getD ((v32).toNat) zR).f) == ((r12.2.getD ((v32).toNat) zR).f) && (((r31.2.getD ((v32).toNat) zR).o) == ((r12.2.getD ((v32).toNat) zR).o)))) with hb | hb
              · have h := cond_t hb h
                refine r_condT hb rfl ?_
                refine r_seq ?_
                refine r_reg (l := [(8, .u (.c (.v (.bool false))))]) (cg_then (ds := [8]) 1 rfl (by kernel_rfl) (.nil)) rfl (by kernel_rfl) ?_
                refine r_ret ?_
                obtain rfl := Option.some.inj h
                exact ⟨.inr rfl, _, _, .cons (.copy rfl rfl rfl) (.nil), rfl, outs_of trivial⟩
              · have h := cond_f hb h
                refine r_condF hb rfl ?_
                refine r_skip ?_
                refine r_reg (l := [(9, .u (.c (.v (.bool r1)))), (13, .u (.c (.sl true 2 (r12.2.map eR)))), (19, .u (.c (.sl true 2 (r31.2.map eR)))), (20, .u (.c (.v (.int .i64 (IntKind.i64.wrap (v32 + 1))))))]) (cg_then (ds := [118, 119, 20]) 3 rfl (by kernel_rfl) (.nil)) rfl (by kernel_rfl) ?_
                exact ⟨IntKind.i64.wrap (v32 + 1), h, of_weak (by kernel_rfl)⟩
            · have h := cond_f hb h
              refine r_condF hb rfl ?_
              refine r_exit ?_
              refine r_seq ?_
              refine r_reg (l := [(8, .u (.c (.v (.bool r1))))]) (cg_then (ds := [129, 8]) 2 rfl (by kernel_rfl) (.nil)) rfl (by kernel_rfl) ?_
              refine r_ret ?_
              obtain rfl := Option.some.inj h
              exact ⟨.inr rfl, _, _, .cons (.copy rfl rfl rfl) (.nil), rfl, outs_of trivial⟩
    · have h := cond_f hb h
      have hs35 := hb
      refine r_reg (l := [(1, .u (.c (.sl false 4 (a1.map eD)))), (2, .u (.c (.v (.int .i64 a2)))), (3, .u (.c (.v (.int .i64 a3)))), (9, .u (.c (.v (.bool r1)))), (10, .u (.c (zoneC v4))), (12, .u (.c (.v (.int .i64 v5)))), (43, .u (.c (.v (.bool false))))]) (cg_then (ds := [36, 37]) 2 rfl (by kernel_rfl) (co_then 3 rfl (os_to (os_plain rfl rfl (s_lenU (own := false) (sz := 4) (rows := (a1.map eD)) rfl sl45 (by kernel_rfl) rfl (by kernel_rfl))) (t' := .u (.c (.v (.int .i64 (a1.length : Int))))) (by rw [List.length_map])) (cg_then (ds := [39]) 4 rfl (by kernel_rfl) (co_then 5 rfl (os_ge (d := 40) (t := .u (.c (.v (.bool (decide (v5 < (a1.length : Int))))))) (t' := .u (.c (.v (.bool false)))) (by kernel_rfl) (by rw [hs35])) (cg_then (ds := [41, 42, 43]) 8 rfl (by kernel_rfl) (.nil)))))) rfl (by kernel_rfl) ?_
      refine r_condF rfl rfl ?_
      refine r_exit ?_
      refine r_seq ?_
      obtain ⟨r36, hr36, h⟩ := bind_some h
      refine r_reg (l := [(2, .u (.c (.v (.int .i64 a2)))), (3, .u (.c (.v (.int .i64 a3)))), (9, .u (.c (.v (.bool r1)))), (10, .u (.c (zoneC r36.1))), (13, .u (.c (.sl true 2 (r36.2.map eR))))]) (cg_then (ds := [60]) 1 rfl (by kernel_rfl) (co_then 2 rfl (os_plain rfl rfl (c_call (AC.k (ZFree.ac (h := hr36))) ⟨_, Tryd.func14, rfl, by kernel_rfl⟩ rfl (hand_root (r := 10) (c := zoneC v4) (by kernel_rfl) (by kernel_rfl) rfl (.nil)) rfl (by kernel_rfl))) (co_then 3 rfl (os_plain rfl rfl (s_take (u := .c (.sl true 2 (r36.2.map eR))) (.inr rfl) (.move (by kernel_rfl) rfl) rfl (by kernel_rfl))) (.nil)))) rfl (by kernel_rfl) ?_
      refine r_seq ?_
      obtain ⟨r37, hr37, h⟩ := bind_some h
      refine r_reg (l := [(2, .u (.c (.v (.int .i64 r37)))), (3, .u (.c (.v (.int .i64 a3)))), (9, .u (.c (.v (.bool r1)))), (10, .u (.c (zoneC r36.1))), (13, .u (.c (.sl true 2 (r36.2.map eR))))]) (cg_then (ds := [62]) 1 rfl (by kernel_rfl) (co_then 2 rfl (os_plain rfl rfl (c_callQ (AC.k (paviorlaw08_pick.ac (h := hr37))) ⟨_, Tryd.func12, rfl, by kernel_rfl⟩ rfl (.cons (.copy (by kernel_rfl) rfl) (.cons (.copy (by kernel_rfl) rfl) (.nil))) (by kernel_rfl))) (cg_then (ds := [2]) 3 rfl (by kernel_rfl) (.nil)))) rfl (by kernel_rfl) ?_
      refine r_seq ?_
      obtain ⟨r38, hr38, h⟩ := bind_some h
      refine r_reg (l := [(2, .u (.c (.v (.int .i64 r37)))), (3, .u (.c (.v (.int .i64 r38)))), (9, .u (.c (.v (.bool r1)))), (10, .u (.c (zoneC r36.1))), (13, .u (.c (.sl true 2 (r36.2.map eR))))]) (cg_then (ds := [64]) 1 rfl (by kernel_rfl) (co_then 2 rfl (os_plain rfl rfl (c_callQ (AC.k (paviorlaw08_pick.ac (h := hr38))) ⟨_, Tryd.func12, rfl, by kernel_rfl⟩ rfl (.cons (.copy (by kernel_rfl) rfl) (.cons (.copy (by kernel_rfl) rfl) (.nil))) (by kernel_rfl))) (cg_then (ds := [3]) 3 rfl (by kernel_rfl) (.nil)))) rfl (by kernel_rfl) ?_
      refine r_seq ?_
      obtain ⟨r39, hr39, h⟩ := bind_some h
      refine r_reg (l := [(2, .u (.c (.v (.int .i64 r37)))), (3, .u (.c (.v (.int .i64 r38)))), (9, .u (.c (.v (.bool r1)))), (10, .u (.c (zoneC r39.1))), (13, .u (.c (.sl true 2 (r36.2.map eR)))), (14, .u (.c (.v (.int .i64 r39.2.1)))), (15, .u (.c (.err r39.2.2)))]) (cg_then (ds := [67, 68, 69]) 3 rfl (by kernel_rfl) (co_then 4 rfl (os_plain rfl rfl (c_call (ACT.k hT (ZTake.ac (h := hr39))) ⟨_, Tryd.func13, rfl, by kernel_rfl⟩ rfl (hand_root (r := 10) (c := zoneC r36.1) (by kernel_rfl) (by kernel_rfl) rfl (.rd (.copy (by kernel_rfl) rfl) (.rd (.copy (by kernel_rfl) rfl) (.nil)))) rfl (by kernel_rfl))) (co_then 5 rfl (os_plain rfl rfl (s_moveT (us := [.c (.v (.int .i64 r39.2.1)), .c (.err r39.2.2)]) (.inl rfl) (by kernel_rfl) rfl (by kernel_rfl))) (cg_then (ds := [71, 72, 14, 15]) 9 rfl (by kernel_rfl) (.nil))))) rfl (by kernel_rfl) ?_
      refine r_seq ?_
      refine r_seq ?_
      refine r_reg (l := [(2, .u (.c (.v (.int .i64 r37)))), (3, .u (.c (.v (.int .i64 r38)))), (9, .u (.c (.v (.bool r1)))), (10, .u (.c (zoneC r39.1))), (13, .u (.c (.sl true 2 (r36.2.map eR)))), (14, .u (.c (.v (.int .i64 r39.2.1)))), (74, .u (.c (.v (.bool (r39.2.2 == none)))))]) (cg_then (ds := [73, 74]) 2 rfl (by kernel_rfl) (.nil)) rfl (by kernel_rfl) ?_
      rcases Bool.eq_false_or_eq_true (r39.2.2 == none) with hb | hb
      · have h := cond_t hb h
        refine r_condT hb rfl ?_
        refine r_seq ?_
        refine r_seq ?_
        obtain ⟨hg40, h⟩ := guard_some h
        simp only [decide_eq_true_eq] at hg40
        obtain ⟨hg41, h⟩ := guard_some h
        simp only [decide_eq_true_eq] at hg41
        rcases Bool.eq_false_or_eq_true ((r39.2.1.tmod (IntKind.i64.wrap (1 * 2 ^ min (r38).toNat (IntKind.i64).bits))) != 0) with hb | hb
        · have h := cond_t hb h
          have hs42 := hb
          refine r_reg (l := [(2, .u (.c (.v (.int .i64 r37)))), (3, .u (.c (.v (.int .i64 r38)))), (9, .u (.c (.v (.bool r1)))), (10, .u (.c (zoneC r39.1))), (13, .u (.c (.sl true 2 (r36.2.map eR)))), (14, .u (.c (.v (.int .i64 r39.2.1)))), (84, .u (.c (.v (.bool true))))]) (cg_then (ds := [75, 76]) 2 rfl (by kernel_rfl) (co_then 3 rfl (os_to (os_plain rfl rfl (s_shift (op := .shl) (k := .i64) (p := 1) (q := r38) (yk := .i64) rfl (.inl rfl) (by kernel_rfl) (by kernel_rfl) hg40 rfl (by kernel_rfl))) (t' := .u (.c (.v (.int .i64 (IntKind.i64.wrap (1 * 2 ^ min (r38).toNat (IntKind.i64).bits)))))) (by kernel_rfl)) (co_then 4 rfl (os_to (os_plain rfl rfl (s_div (op := .rem) (k := .i64) (p := r39.2.1) (q := (IntKind.i64.wrap (1 * 2 ^ min (r38).toNat (IntKind.i64).bits))) rfl (.inr rfl) (by kernel_rfl) (by kernel_rfl) hg41 rfl (by kernel_rfl))) (t' := .u (.c (.v (.int .i64 (r39.2.1.tmod (IntKind.i64.wrap (1 * 2 ^ min (r38).toNat (IntKind.i64).bits))))))) (by kernel_rfl)) (cg_then (ds := [79]) 5 rfl (by kernel_rfl) (co_then 6 rfl (os_ge (d := 80) (t := .u (.c (.v (.bool ((r39.2.1.tmod (IntKind.i64.wrap (1 * 2 ^ min (r38).toNat (IntKind.i64).bits))) != 0))))) (t' := .u (.c (.v (.bool true)))) (by kernel_rfl) (by rw [hs42])) (cg_then (ds := [81, 82, 83, 84]) 10 rfl (by kernel_rfl) (.nil))))))) rfl (by kernel_rfl) ?_
          refine r_condT rfl rfl ?_
          refine r_seq ?_
          refine r_reg (l := [(8, .u (.c (.v (.bool false))))]) (cg_then (ds := [8]) 1 rfl (by kernel_rfl) (.nil)) rfl (by kernel_rfl) ?_
          refine r_ret ?_
          obtain rfl := Option.some.inj h
          exact ⟨.inr rfl, _, _, .cons (.copy rfl rfl rfl) (.nil), rfl, outs_of trivial⟩
        · have h := cond_f hb h
          have hs43 := hb
          obtain ⟨r44, hr44, h⟩ := bind_some h
          refine r_reg (l := [(2, .u (.c (.v (.int .i64 r37)))), (3, .u (.c (.v (.int .i64 r38)))), (9, .u (.c (.v (.bool r1)))), (10, .u (.c (zoneC r44.1))), (13, .u (.c (.sl true 2 (r36.2.map eR)))), (14, .u (.c (.v (.int .i64 r39.2.1)))), (84, .u (.c (.v (.bool r44.2))))]) (cg_then (ds := [75, 76]) 2 rfl (by kernel_rfl) (co_then 3 rfl (os_to (os_plain rfl rfl (s_shift (op := .shl) (k := .i64) (p := 1) (q := r38) (yk := .i64) rfl (.inl rfl) (by kernel_rfl) (by kernel_rfl) hg40 rfl (by kernel_rfl))) (t' := .u (.c (.v (.int .i64 (IntKind.i64.wrap (1 * 2 ^ min (r38).toNat (IntKind.i64).bits)))))) (by kernel_rfl)) (co_then 4 rfl (os_to (os_plain rfl rfl (s_div (op := .rem) (k := .i64) (p := r39.2.1) (q := (IntKind.i64.wrap (1 * 2 ^ min (r38).toNat (IntKind.i64).bits))) rfl (.inr rfl) (by kernel_rfl) (by kernel_rfl) hg41 rfl (by kernel_rfl))) (t' := .u (.c (.v (.int .i64 (r39.2.1.tmod (IntKind.i64.wrap (1 * 2 ^ min (r38).toNat (IntKind.i64).bits))))))) (by kernel_rfl)) (cg_then (ds := [79]) 5 rfl (by kernel_rfl) (co_then 6 rfl (os_ge (d := 80) (t := .u (.c (.v (.bool ((r39.2.1.tmod (IntKind.i64.wrap (1 * 2 ^ min (r38).toNat (IntKind.i64).bits))) != 0))))) (t' := .u (.c (.v (.bool false)))) (by kernel_rfl) (by rw [hs43])) (cg_then (ds := [81, 82]) 8 rfl (by kernel_rfl) (co_then 9 rfl (os_gy rfl rfl rfl (by kernel_rfl) (c_call (AC.k (ZIsFree.ac (h := hr44))) ⟨_, Tryd.func21, rfl, by kernel_rfl⟩ rfl (hand_root (r := 10) (c := zoneC r39.1) (by kernel_rfl) (by kernel_rfl) rfl (.rd (.copy (by kernel_rfl) rfl) (.nil))) rfl (by kernel_rfl))) (cg_then (ds := [84]) 10 rfl (by kernel_rfl) (.nil))))))))) rfl (by kernel_rfl) ?_
          rcases Bool.eq_false_or_eq_true (r44.2) with hb | hb
          · have h := cond_t hb h
            refine r_condT hb rfl ?_
            refine r_seq ?_
            refine r_reg (l := [(8, .u (.c (.v (.bool false))))]) (cg_then (ds := [8]) 1 rfl (by kernel_rfl) (.nil)) rfl (by kernel_rfl) ?_
            refine r_ret ?_
            obtain rfl := Option.some.inj h
            exact ⟨.inr rfl, _, _, .cons (.copy rfl rfl rfl) (.nil), rfl, outs_of trivial⟩
          · have h := cond_f hb h
            refine r_condF hb rfl ?_
            refine r_skip ?_
            refine r_seq ?_
            obtain ⟨r45, hr45, h⟩ := bind_some h
            refine r_reg (l := [(2, .u (.c (.v (.int .i64 r37)))), (3, .u (.c (.v (.int .i64 r38)))), (9, .u (.c (.v (.bool r1)))), (10, .u (.c (zoneC r45.1))), (13, .u (.c (.sl true 2 (r36.2.map eR)))), (14, .u (.c (.v (.int .i64 r39.2.1)))), (16, .u (.c (.v (.int .i64 r45.2.1)))), (17, .u (.c (.err r45.2.2)))]) (cg_then (ds := [86, 87]) 2 rfl (by kernel_rfl) (co_then 3 rfl (os_to (os_plain rfl rfl (s_div (op := .quo) (k := .i64) (p := r39.2.1) (q := 8) rfl (.inl rfl) (by kernel_rfl) (by kernel_rfl) (by decide) rfl (by kernel_rfl))) (t' := .u (.c (.v (.int .i64 (IntKind.i64.wrap (r39.2.1.tdiv 8)))))) (by kernel_rfl)) (co_then 4 rfl (os_plain rfl rfl (c_call (AC.k (ZSort.ac (h := hr45))) ⟨_, Tryd.func19, rfl, by kernel_rfl⟩ rfl (hand_root (r := 10) (c := zoneC r44.1) (by kernel_rfl) (by kernel_rfl) rfl (.rd (.copy (by kernel_rfl) rfl) (.nil))) rfl (by kernel_rfl))) (co_then 5 rfl (os_plain rfl rfl (s_moveT (us := [.c (.v (.int .i64 r45.2.1)), .c (.err r45.2.2)]) (.inl rfl) (by kernel_rfl) rfl (by kernel_rfl))) (cg_then (ds := [90, 91, 16, 17]) 9 rfl (by kernel_rfl) (.nil)))))) rfl (by kernel_rfl) ?_
            refine r_seq ?_
            obtain ⟨r46, hr46, h⟩ := bind_some h
            refine r_reg (l := [(2, .u (.c (.v (.int .i64 r37)))), (9, .u (.c (.v (.bool r1)))), (10, .u (.c (zoneC r46.1))), (13, .u (.c (.sl true 2 (r36.2.map eR)))), (16, .u (.c (.v (.int .i64 r45.2.1)))), (17, .u (.c (.err r45.2.2))), (18, .u (.c (.err r46.2)))]) (cg_then (ds := [92, 93, 94]) 3 rfl (by kernel_rfl) (co_then 4 rfl (os_plain rfl rfl (c_call (AC.k (ZGive.ac (h := hr46))) ⟨_, Tryd.func22, rfl, by kernel_rfl⟩ rfl (hand_root (r := 10) (c := zoneC r45.1) (by kernel_rfl) (by kernel_rfl) rfl (.rd (.copy (by kernel_rfl) rfl) (.rd (.copy (by kernel_rfl) rfl) (.nil)))) rfl (by kernel_rfl))) (cg_then (ds := [18]) 5 rfl (by kernel_rfl) (.nil)))) rfl (by kernel_rfl) ?_
            refine r_seq ?_
            rcases Bool.eq_false_or_eq_true (!(r46.2 == none)) with hb | hb
            · have h := cond_t hb h
              have hs47 := hb
              refine r_reg (l := [(9, .u (.c (.v (.bool r1)))), (10, .u (.c (zoneC r46.1))), (13, .u (.c (.sl true 2 (r36.2.map eR)))), (106, .u (.c (.v (.bool true))))]) (cg_then (ds := [96, 97]) 2 rfl (by kernel_rfl) (co_then 3 rfl (os_ge (d := 98) (t := .u (.c (.v (.bool (!(r46.2 == none)))))) (t' := .u (.c (.v (.bool true)))) (by kernel_rfl) (by rw [hs47])) (cg_then (ds := [99, 100, 101, 102, 103, 104, 105, 106]) 11 rfl (by kernel_rfl) (.nil)))) rfl (by kernel_rfl) ?_
              refine r_condT rfl rfl ?_
              refine r_seq ?_
              refine r_reg (l := [(8, .u (.c (.v (.bool false))))]) (cg_then (ds := [8]) 1 rfl (by kernel_rfl) (.nil)) rfl (by kernel_rfl) ?_
              refine r_ret ?_
              obtain rfl := Option.some.inj h
              exact ⟨.inr rfl, _, _, .cons (.copy rfl rfl rfl) (.nil), rfl, outs_of trivial⟩
            · have h := cond_f hb h
              have hs48 := hb
              rcases Bool.eq_false_or_eq_true (!(r45.2.2 == none)) with hb | hb
              · have h := cond_t hb h
                have hs49 := hb
                refine r_reg (l := [(9, .u (.c (.v (.bool r1)))), (10, .u (.c (zoneC r46.1))), (13, .u (.c (.sl true 2 (r36.2.map eR)))), (106, .u (.c (.v (.bool true))))]) (cg_then (ds := [96, 97]) 2 rfl (by kernel_rfl) (co_then 3 rfl (os_ge (d := 98) (t := .u (.c (.v (.bool (!(r46.2 == none)))))) (t' := .u (.c (.v (.bool false)))) (by kernel_rfl) (by rw [hs48])) (cg_then (ds := [99, 100, 101]) 6 rfl (by kernel_rfl) (co_then 7 rfl (os_ge (d := 102) (t := .u (.c (.v (.bool (!(r45.2.2 == none)))))) (t' := .u (.c (.v (.bool true)))) (by kernel_rfl) (by rw [hs49])) (cg_then (ds := [103, 104, 105, 106]) 11 rfl (by kernel_rfl) (.nil)))))) rfl (by kernel_rfl) ?_
                refine r_condT rfl rfl ?_
                refine r_seq ?_
                refine r_reg (l := [(8, .u (.c (.v (.bool false))))]) (cg_then (ds := [8]) 1 rfl (by kernel_rfl) (.nil)) rfl (by kernel_rfl) ?_
                refine r_ret ?_
                obtain rfl := Option.some.inj h
                exact ⟨.inr rfl, _, _, .cons (.copy rfl rfl rfl) (.nil), rfl, outs_of trivial⟩
              · have h := cond_f hb h
                have hs50 := hb
                refine r_reg (l := [(9, .u (.c (.v (.bool r1)))), (10, .u (.c (zoneC r46.1))), (13, .u (.c (.sl true 2 (r36.2.map eR)))), (106, .u (.c (.v (.bool (r45.2.1 != r37)))))]) (cg_then (ds := [96, 97]) 2 rfl (by kernel_rfl) (co_then 3 rfl (os_ge (d := 98) (t := .u (.c (.v (.bool (!(r46.2 == none)))))) (t' := .u (.c (.v (.bool false)))) (by kernel_rfl) (by rw [hs48])) (cg_then (ds := [99, 100, 101]) 6 rfl (by kernel_rfl) (co_then 7 rfl (os_ge (d := 102) (t := .u (.c (.v (.bool (!(r45.2.2 == none)))))) (t' := .u (.c (.v (.bool false)))) (by kernel_rfl) (by rw [hs50])) (cg_then (ds := [103, 104, 105, 106]) 11 rfl (by kernel_rfl) (.nil)))))) rfl (by kernel_rfl) ?_
                rcases Bool.eq_false_or_eq_true (r45.2.1 != r37) with hb | hb
                · have h := cond_t hb h
                  refine r_condT hb rfl ?_
                  refine r_seq ?_
                  refine r_reg (l := [(8, .u (.c (.v (.bool false))))]) (cg_then (ds := [8]) 1 rfl (by kernel_rfl) (.nil)) rfl (by kernel_rfl) ?_
                  refine r_ret ?_
                  obtain rfl := Option.some.inj h
                  exact ⟨.inr rfl, _, _, .cons (.copy rfl rfl rfl) (.nil), rfl, outs_of trivial⟩
                · have h := cond_f hb h
                  refine r_condF hb rfl ?_
                  refine r_skip ?_
                  refine r_seq ?_
                  obtain ⟨r51, hr51, h⟩ := bind_some h
                  refine r_reg (l := [(9, .u (.c (.v (.bool r1)))), (13, .u (.c (.sl true 2 (r36.2.map eR)))), (19, .u (.c (.sl true 2 (r51.2.map eR))))]) (co_then 1 rfl (os_plain rfl rfl (s_take (u := .c (zoneC r46.1)) (.inl rfl) (.move (by kernel_rfl) rfl) rfl (by kernel_rfl))) (co_then 2 rfl (os_plain rfl rfl (c_call (AC.k (ZFree.ac (h := hr51))) ⟨_, Tryd.func14, rfl, by kernel_rfl⟩ rfl (hand_root (r := 107) (c := zoneC r46.1) (by kernel_rfl) (by kernel_rfl) rfl (.nil)) rfl (by kernel_rfl))) (co_then 3 rfl (os_plain rfl rfl (s_take (u := .c (.sl true 2 (r51.2.map eR))) (.inr rfl) (.move (by kernel_rfl) rfl) rfl (by kernel_rfl))) (.nil)))) rfl (by kernel_rfl) ?_
                  refine r_seq ?_
                  refine r_seq ?_
                  refine r_reg (l := [(9, .u (.c (.v (.bool r1)))), (13, .u (.c (.sl true 2 (r36.2.map eR)))), (19, .u (.c (.sl true 2 (r51.2.map eR)))), (113, .u (.c (.v (.bool ((r51.2.length : Int) != (r36.2.length : Int))))))]) (cg_then (ds := [109]) 1 rfl (by kernel_rfl) (co_then 2 rfl (os_to (os_plain rfl rfl (s_lenV (r := 19) (lo := 0) (n := (r51.2.map eR).length) (pl := none) (sz := 2) rfl sl36 (by kernel_rfl) rfl (by kernel_rfl))) (t' := .u (.c (.v (.int .i64 (r51.2.length : Int))))) (by rw [List.length_map])) (cg_then (ds := [111]) 3 rfl (by kernel_rfl) (co_then 4 rfl (os_to (os_plain rfl rfl (s_lenV (r := 13) (lo := 0) (n := (r36.2.map eR).length) (pl := none) (sz := 2) rfl sl36 (by kernel_rfl) rfl (by kernel_rfl))) (t' := .u (.c (.v (.int .i64 (r36.2.length : Int))))) (by rw [List.length_map])) (cg_then (ds := [113]) 5 rfl (by kernel_rfl) (.nil)))))) rfl (by kernel_rfl) ?_
                  rcases Bool.eq_false_or_eq_true ((r51.2.length : Int) != (r36.2.length : Int)) with hb | hb
                  · have h := cond_t hb h
                    refine r_condT hb rfl ?_
                    refine r_seq ?_
                    refine r_reg (l := [(8, .u (.c (.v (.bool false))))]) (cg_then (ds := [8]) 1 rfl (by kernel_rfl) (.nil)) rfl (by kernel_rfl) ?_
                    refine r_ret ?_
                    obtain rfl := Option.some.inj h
                    exact ⟨.inr rfl, _, _, .cons (.copy rfl rfl rfl) (.nil), rfl, outs_of trivial⟩
                  · have h := cond_f hb h
                    refine r_condF hb rfl ?_
                    refine r_skip ?_
                    refine r_seq ?_
                    refine r_seq ?_
                    refine r_reg (l := [(9, .u (.c (.v (.bool r1)))), (13, .u (.c (.sl true 2 (r36.2.map eR)))), (19, .u (.c (.sl true 2 (r51.2.map eR)))), (20, .u (.c (.v (.int .i64 0))))]) (cg_then (ds := [20]) 1 rfl (by kernel_rfl) (.nil)) rfl (by kernel_rfl) ?_
                    refine r_block ?_
                    refine r_weak (of_weak (l := [(9, .u (.c (.v (.bool r1)))), (13, .u (.c (.sl true 2 (r36.2.map eR)))), (19, .u (.c (.sl true 2 (r51.2.map eR)))), (20, .u (.c (.v (.int .i64 0))))]) (by kernel_rfl)) ?_
                    refine r_loopI (α := Int) (fun x => [(9, .u (.c (.v (.bool r1)))), (13, .u (.c (.sl true 2 (r36.2.map eR)))), (19, .u (.c (.sl true 2 (r51.2.map eR)))), (20, .u (.c (.v (.int .i64 x))))]) (fun n x => ZoneBack.l4 k a0 a1 a2 a3 r1 r2 r3 v4 v5 r36 r37 r38 r39 r44 r45 r46 r51 n x = some r) k 0 h (by intro x h; unfold ZoneBack.l4 at h; cases h) ?_
                    rintro n4 v52 h
                    replace h : ZoneBack.l4 k a0 a1 a2 a3 r1 r2 r3 v4 v5 r36 r37 r38 r39 r44 r45 r46 r51 (n4 + 1) v52 = some r := h
                    unfold ZoneBack.l4 at h
                    show Run _ _ _ (St.of [(9, .u (.c (.v (.bool r1)))), (13, .u (.c (.sl true 2 (r36.2.map eR)))), (19, .u (.c (.sl true 2 (r51.2.map eR)))), (20, .u (.c (.v (.int .i64 v52))))]) _
                    refine r_seq ?_
                    refine r_seq ?_
                    refine r_reg (l := [(9, .u (.c (.v (.bool r1)))), (13, .u (.c (.sl true 2 (r36.2.map eR)))), (19, .u (.c (.sl true 2 (r51.2.map eR)))), (20, .u (.c (.v (.int .i64 v52)))), (117, .u (.c (.v (.bool (decide (v52 < (r51.2.length : Int)))))))]) (cg_then (ds := [114, 115]) 2 rfl (by kernel_rfl) (co_then 3 rfl (os_to (os_plain rfl rfl (s_lenV (r := 19) (lo := 0) (n := (r51.2.map eR).length) (pl := none) (sz := 2) rfl sl36 (by kernel_rfl) rfl (by kernel_rfl))) (t' := .u (.c (.v (.int .i64 (r51.2.length : Int))))) (by rw [List.length_map])) (cg_then (ds := [117]) 4 rfl (by kernel_rfl) (.nil)))) rfl (by kernel_rfl) ?_
                    rcases Bool.eq_false_or_eq_true (decide (v52 < (r51.2.length : Int))) with hb | hb
                    · have h := cond_t hb h
                      refine r_condT hb rfl ?_
                      refine r_skip ?_
                      refine r_seq ?_
                      refine r_block ?_
                      refine r_seq ?_
                      obtain ⟨hg53, h⟩ := guard_some h
                      simp only [Bool.and_eq_true, decide_eq_true_eq] at hg53
                      obtain ⟨hg54, h⟩ := guard_some h
                      simp only [Bool.and_eq_true, decide_eq_true_eq] at hg54
                      refine r_weak (of_weak (l := [(9, .u (.c (.v (.bool r1)))), (13, .u (.c (.sl true 2 (r36.2.map eR)))), (19, .u (.c (.sl true 2 (r51.2.map eR)))), (20, .u (.c (.v (.int .i64 v52)))), (117, .u (.c (.v (.bool (decide (v52 < (r51.2.length : Int)))))))]) (by kernel_rfl)) ?_
                      refine r_anyW (l := [(9, .u (.c (.v (.bool r1)))), (13, .u (.c (.sl true 2 (r36.2.map eR)))), (19, .u (.c (.sl true 2 (r51.2.map eR)))), (20, .u (.c (.v (.int .i64 v52)))), (128, .u (.c (.v (.bool (!(((r51.2.getD ((v52).toNat) zR).f) == ((r36.2.getD ((v52).toNat) zR).f) && (((r51.2.getD ((v52).toNat) zR).o) == ((r36.2.getD ((v52).toNat) zR).o))))))))]) (tab := [[], [], [0, 1], [2], [], [], [4, 5], [6], [3, 7]]) [⟨[], [19], [(120, .whole 19 none 2 ((r51.2.map eR).length))], some 120, false⟩, ⟨[], [20], [(121, .u (.c (.v (.int .i64 v52))))], some 121, false⟩, ⟨[0, 1], [19, 120, 121], [(122, .addr 19 (.i ((v52).toNat) 2) [] 0)], some 122, false⟩, ⟨[0, 1, 2], [19, 122], [(123, .u (.agg [.v (.int .i64 ((r51.2.getD ((v52).toNat) zR).f)), .v (.int .i64 ((r51.2.getD ((v52).toNat) zR).o))]))], some 123, false⟩, ⟨[], [13], [(124, .whole 13 none 2 ((r36.2.map eR).length))], some 124, false⟩, ⟨[], [20], [(125, .u (.c (.v (.int .i64 v52))))], some 125, false⟩, ⟨[4, 5], [13, 124, 125], [(126, .addr 13 (.i ((v52).toNat) 2) [] 0)], some 126, false⟩, ⟨[4, 5, 6], [13, 126], [(127, .u (.agg [.v (.int .i64 ((r36.2.getD ((v52).toNat) zR).f)), .v (.int .i64 ((r36.2.getD ((v52).toNat) zR).o))]))], some 127, false⟩, ⟨[0, 1, 2, 3, 4, 5, 6, 7], [123, 127], [(128, .u (.c (.v (.bool (!(((r51.2.getD ((v52).toNat) zR).f) == ((r36.2.getD ((v52).toNat) zR).f) && (((r51.2.getD ((v52).toNat) zR).o) == ((r36.2.getD ((v52).toNat) zR).o))))))))], some 128, false⟩] hm (by kernel_rfl) (by kernel_rfl) (by kernel_rfl) (.cons (fun σ hc => e_g (d := 120) (t := .whole 19 none 2 ((r51.2.map eR).length)) hc rfl rfl (by kernel_rfl)) (.cons (fun σ hc => e_g (d := 121) (t := .u (.c (.v (.int .i64 v52)))) hc rfl rfl (by kernel_rfl)) (.cons (fun σ hc => e_put hc rfl rfl (os_plain rfl rfl (s_indexV (r := 19) (lo := 0) (n := (r51.2.map eR).length) (pl := none) (sz := 2) (e := v52) (ik := .i64) (k := (v52).toNat) rfl sl36 (by kernel_rfl) (.tmp (by kernel_rfl)) hg53.1 (by rw [List.length_map]; exact hg53.2) (Nat.zero_add _) rfl (by kernel_rfl) (by kernel_rfl)))) (.cons (fun σ hc => e_put hc rfl rfl (os_plain rfl rfl (s_loadA (n := 2) (xs := [.v (.int .i64 ((r51.2.getD ((v52).toNat) zR).f)), .v (.int .i64 ((r51.2.getD ((v52).toNat) zR).o))]) (r := 19) (off := 0) (s := .i ((v52).toNat) 2) (p := []) (c := .sl true 2 (r51.2.map eR)) (cs := eR (r51.2.getD ((v52).toNat) zR)) rfl (aggB_ok (by kernel_rfl)) (by kernel_rfl) (by kernel_rfl) (getP_map zR (by have := hg53; omega)) rfl rfl rfl rfl (by kernel_rfl)))) (.cons (fun σ hc => e_g (d := 124) (t := .whole 13 none 2 ((r36.2.map eR).length)) hc rfl rfl (by kernel_rfl)) (.cons (fun σ hc => e_g (d := 125) (t := .u (.c (.v (.int .i64 v52)))) hc rfl rfl (by kernel_rfl)) (.cons (fun σ hc => e_put hc rfl rfl (os_plain rfl rfl (s_indexV (r := 13) (lo := 0) (n := (r36.2.map eR).length) (pl := none) (sz := 2) (e := v52) (ik := .i64) (k := (v52).toNat) rfl sl36 (by kernel_rfl) (.tmp (by kernel_rfl)) hg54.1 (by rw [List.length_map]; exact hg54.2) (Nat.zero_add _) rfl (by kernel_rfl) (by kernel_rfl)))) (.cons (fun σ hc => e_put hc rfl rfl (os_plain rfl rfl (s_loadA (n := 2) (xs := [.v (.int .i64 ((r36.2.getD ((v52).toNat) zR).f)), .v (.int .i64 ((r36.2.getD ((v52).toNat) zR).o))]) (r := 13) (off := 0) (s := .i ((v52).toNat) 2) (p := []) (c := .sl true 2 (r36.2.map eR)) (cs := eR (r36.2.getD ((v52).toNat) zR)) rfl (aggB_ok (by kernel_rfl)) (by kernel_rfl) (by kernel_rfl) (getP_map zR (by have := hg54; omega)) rfl rfl rfl rfl (by kernel_rfl)))) (.cons (fun σ hc => e_put hc rfl rfl (os_plain rfl rfl (s_eqA (b := ((r51.2.getD ((v52).toNat) zR).f) == ((r36.2.getD ((v52).toNat) zR).f) && (((r51.2.getD ((v52).toNat) zR).o) == ((r36.2.getD ((v52).toNat) zR).o))) rfl (.inr rfl) eqAgg39 (by kernel_rfl) rfl rfl rfl rfl rfl rfl (by kernel_rfl)))) (.nil)))))))))) (by kernel_rfl) ?_
                      rcases Bool.eq_false_or_eq_true (!(((r51.2.getD ((v52).toNat) zR).f) == ((r36.2.getD ((v52).toNat) zR).f) && (((r51.2.getD ((v52).toNat) zR).o) == ((r36.2.getD ((v52).toNat) zR).o)))) with hb | hb
                      · have h := cond_t hb h
                        refine r_condT hb rfl ?_
                        refine r_seq ?_
                        refine r_reg (l := [(8, .u (.c (.v (.bool false))))]) (cg_then (ds := [8]) 1 rfl (by kernel_rfl) (.nil)) rfl (by kernel_rfl) ?_
                        refine r_ret ?_
                        obtain rfl := Option.some.inj h
                        exact ⟨.inr rfl, _, _, .cons (.copy rfl rfl rfl) (.nil), rfl, outs_of trivial⟩
                      · have h := cond_f hb h
                        refine r_condF hb rfl ?_
                        refine r_skip ?_
                        refine r_reg (l := [(9, .u (.c (.v (.bool r1)))), (13, .u (.c (.sl true 2 (r36.2.map eR)))), (19, .u (.c (.sl true 2 (r51.2.map eR)))), (20, .u (.c (.v (.int .i64 (IntKind.i64.wrap (v52 + 1))))))]) (cg_then (ds := [118, 119, 20]) 3 rfl (by kernel_rfl) (.nil)) rfl (by kernel_rfl) ?_
                        exact ⟨IntKind.i64.wrap (v52 + 1), h, of_weak (by kernel_rfl)⟩
                    · have h := cond_f hb h
                      refine r_condF hb rfl ?_
                      refine r_exit ?_
                      refine r_seq ?_
                      refine r_reg (l := [(8, .u (.c (.v (.bool r1))))]) (cg_then (ds := [129, 8]) 2 rfl (by kernel_rfl) (.nil)) rfl (by kernel_rfl) ?_
                      refine r_ret ?_
                      obtain rfl := Option.some.inj h
                      exact ⟨.inr rfl, _, _, .cons (.copy rfl rfl rfl) (.nil), rfl, outs_of trivial⟩
      · have h := cond_f hb h
        refine r_condF hb rfl ?_
        refine r_skip ?_
        refine r_seq ?_
        obtain ⟨r55, hr55, h⟩ := bind_some h
        refine r_reg (l := [(9, .u (.c (.v (.bool r1)))), (13, .u (.c (.sl true 2 (r36.2.map eR)))), (19, .u (.c (.sl true 2 (r55.2.map eR))))]) (co_then 1 rfl (os_plain rfl rfl (s_take (u := .c (zoneC r39.1)) (.inl rfl) (.move (by kernel_rfl) rfl) rfl (by kernel_rfl))) (co_then 2 rfl (os_plain rfl rfl (c_call (AC.k (ZFree.ac (h := hr55))) ⟨_, Tryd.func14, rfl, by kernel_rfl⟩ rfl (hand_root (r := 107) (c := zoneC r39.1) (by kernel_rfl) (by kernel_rfl) rfl (.nil)) rfl (by kernel_rfl))) (co_then 3 rfl (os_plain rfl rfl (s_take (u := .c (.sl true 2 (r55.2.map eR))) (.inr rfl) (.move (by kernel_rfl) rfl) rfl (by kernel_rfl))) (.nil)))) rfl (by kernel_rfl) ?_
        refine r_seq ?_
        refine r_seq ?_
        refine r_reg (l := [(9, .u (.c (.v (.bool r1)))), (13, .u (.c (.sl true 2 (r36.2.map eR)))), (19, .u (.c (.sl true 2 (r55.2.map eR)))), (113, .u (.c (.v (.bool ((r55.2.length : Int) != (r36.2.length : Int))))))]) (cg_then (ds := [109]) 1 rfl (by kernel_rfl) (co_then 2 rfl (os_to (os_plain rfl rfl (s_lenV (r := 19) (lo := 0) (n := (r55.2.map eR).length) (pl := none) (sz := 2) rfl sl36 (by kernel_rfl) rfl (by kernel_rfl))) (t' := .u (.c (.v (.int .i64 (r55.2.length : Int))))) (by rw [List.length_map])) (cg_then (ds := [111]) 3 rfl (by kernel_rfl) (co_then 4 rfl (os_to (os_plain rfl rfl (s_lenV (r := 13) (lo := 0) (n := (r36.2.map eR).length) (pl := none) (sz := 2) rfl sl36 (by kernel_rfl) rfl (by kernel_rfl))) (t' := .u (.c (.v (.int .i64 (r36.2.length : Int))))) (by rw [List.length_map])) (cg_then (ds := [113]) 5 rfl (by kernel_rfl) (.nil)))))) rfl (by kernel_rfl) ?_
        rcases Bool.eq_false_or_eq_true ((r55.2.length : Int) != (r36.2.length : Int)) with hb | hb
        · have h := cond_t hb h
          refine r_condT hb rfl ?_
          refine r_seq ?_
          refine r_reg (l := [(8, .u (.c (.v (.bool false))))]) (cg_then (ds := [8]) 1 rfl (by kernel_rfl) (.nil)) rfl (by kernel_rfl) ?_
          refine r_ret ?_
          obtain rfl := Option.some.inj h
          exact ⟨.inr rfl, _, _, .cons (.copy rfl rfl rfl) (.nil), rfl, outs_of trivial⟩
        · have h := cond_f hb h
          refine r_condF hb rfl ?_
          refine r_skip ?_
          refine r_seq ?_
          refine r_seq ?_
          refine r_reg (l := [(9, .u (.c (.v (.bool r1)))), (13, .u (.c (.sl true 2 (r36.2.map eR)))), (19, .u (.c (.sl true 2 (r55.2.map eR)))), (20, .u (.c (.v (.int .i64 0))))]) (cg_then (ds := [20]) 1 rfl (by kernel_rfl) (.nil)) rfl (by kernel_rfl) ?_
          refine r_block ?_
          refine r_weak (of_weak (l := [(9, .u (.c (.v (.bool r1)))), (13, .u (.c (.sl true 2 (r36.2.map eR)))), (19, .u (.c (.sl true 2 (r55.2.map eR)))), (20, .u (.c (.v (.int .i64 0))))]) (by kernel_rfl)) ?_
          refine r_loopI (α := Int) (fun x => [(9, .u (.c (.v (.bool r1)))), (13, .u (.c (.sl true 2 (r36.2.map eR)))), (19, .u (.c (.sl true 2 (r55.2.map eR)))), (20, .u (.c (.v (.int .i64 x))))]) (fun n x => ZoneBack.l5 k a0 a1 a2 a3 r1 r2 r3 v4 v5 r36 r37 r38 r39 r55 n x = some r) k 0 h (by intro x h; unfold ZoneBack.l5 at h; cases h) ?_
          rintro n5 v56 h
          replace h : ZoneBack.l5 k a0 a1 a2 a3 r1 r2 r3 v4 v5 r36 r37 r38 r39 r55 (n5 + 1) v56 = some r := h
          unfold ZoneBack.l5 at h
          show Run _ _ _ (St.of [(9, .u (.c (.v (.bool r1)))), (13, .u (.c (.sl true 2 (r36.2.map eR)))), (19, .u (.c (.sl true 2 (r55.2.map eR)))), (20, .u (.c (.v (.int .i64 v56))))]) _
          refine r_seq ?_
          refine r_seq ?_
          refine r_reg (l := [(9, .u (.c (.v (.bool r1)))), (13, .u (.c (.sl true 2 (r36.2.map eR)))), (19, .u (.c (.sl true 2 (r55.2.map eR)))), (20, .u (.c (.v (.int .i64 v56)))), (117, .u (.c (.v (.bool (decide (v56 < (r55.2.length : Int)))))))]) (cg_then (ds := [114, 115]) 2 rfl (by kernel_rfl) (co_then 3 rfl (os_to (os_plain rfl rfl (s_lenV (r := 19) (lo := 0) (n := (r55.2.map eR).length) (pl := none) (sz := 2) rfl sl36 (by kernel_rfl) rfl (by kernel_rfl))) (t' := .u (.c (.v (.int .i64 (r55.2.length : Int))))) (by rw [List.length_map])) (cg_then (ds := [117]) 4 rfl (by kernel_rfl) (.nil)))) rfl (by kernel_rfl) ?_
          rcases Bool.eq_false_or_eq_true (decide (v56 < (r55.2.length : Int))) with hb | hb
          · have h := cond_t hb h
            refine r_condT hb rfl ?_
            refine r_skip ?_
            refine r_seq ?_
            refine r_block ?_
            refine r_seq ?_
            obtain ⟨hg57, h⟩ := guard_some h
            simp only [Bool.and_eq_true, decide_eq_true_eq] at hg57
            obtain ⟨hg58, h⟩ := guard_some h
            simp only [Bool.and_eq_true, decide_eq_true_eq] at hg58
            refine r_weak (of_weak (l := [(9, .u (.c (.v (.bool r1)))), (13, .u (.c (.sl true 2 (r36.2.map eR)))), (19, .u (.c (.sl true 2 (r55.2.map eR)))), (20, .u (.c (.v (.int .i64 v56)))), (117, .u (.c (.v (.bool (decide (v56 < (r55.2.length : Int)))))))]) (by kernel_rfl)) ?_
            refine r_anyW (l := [(9, .u (.c (.v (.bool r1)))), (13, .u (.c (.sl true 2 (r36.2.map eR)))), (19, .u (.c (.sl true 2 (r55.2.map eR)))), (20, .u (.c (.v (.int .i64 v56)))), (128, .u (.c (.v (.bool (!(((r55.2.getD ((v56).toNat) zR).f) == ((r36.2.getD ((v56).toNat) zR).f) && (((r55.2.getD ((v56).toNat) zR).o) == ((r36.2.getD ((v56).toNat) zR).o))))))))]) (tab := [[], [], [0, 1], [2], [], [], [4, 5], [6], [3, 7]]) [⟨[], [19], [(120, .whole 19 none 2 ((r55.2.map eR).length))], some 120, false⟩, ⟨[], [20], [(121, .u (.c (.v (.int .i64 v56))))], some 121, false⟩, ⟨[0, 1], [19, 120, 121], [(122, .addr 19 (.i ((v56).toNat) 2) [] 0)], some 122, false⟩, ⟨[0, 1, 2], [19, 122], [(123, .u (.agg [.v (.int .i64 ((r55.2.getD ((v56).toNat) zR).f)), .v (.int .i64 ((r55.2.getD ((v56).toNat) zR).o))]))], some 123, false⟩, ⟨[], [13], [(124, .whole 13 none 2 ((r36.2.map eR).length))], some 124, false⟩, ⟨[], [20], [(125, .u (.c (.v (.int .i64 v56))))], some 125, false⟩, ⟨[4, 5], [13, 124, 125], [(126, .addr 13 (.i ((v56).toNat) 2) [] 0)], some 126, false⟩, ⟨[4, 5, 6], [13, 126], [(127, .u (.agg [.v (.int .i64 ((r36.2.getD ((v56).toNat) zR).f)), .v (.int .i64 ((r36.2.getD ((v56).toNat) zR).o))]))], some 127, false⟩, ⟨[0, 1, 2, 3, 4, 5, 6, 7], [123, 127], [(128, .u (.c (.v (.bool (!(((r55.2.getD ((v56).toNat) zR).f) == ((r36.2.getD ((v56).toNat) zR).f) && (((r55.2.getD ((v56).toNat) zR).o) == ((r36.2.getD ((v56).toNat) zR).o))))))))], some 128, false⟩] hm (by kernel_rfl) (by kernel_rfl) (by kernel_rfl) (.cons (fun σ hc => e_g (d := 120) (t := .whole 19 none 2 ((r55.2.map eR).length)) hc rfl rfl (by kernel_rfl)) (.cons (fun σ hc => e_g (d := 121) (t := .u (.c (.v (.int .i64 v56)))) hc rfl rfl (by kernel_rfl)) (.cons (fun σ hc => e_put hc rfl rfl (os_plain rfl rfl (s_indexV (r := 19) (lo := 0) (n := (r55.2.map eR).length) (pl := none) (sz := 2) (e := v56) (ik := .i64) (k := (v56).toNat) rfl sl36 (by kernel_rfl) (.tmp (by kernel_rfl)) hg57.1 (by rw [List.length_map]; exact hg57.2) (Nat.zero_add _) rfl (by kernel_rfl) (by kernel_rfl)))) (.cons (fun σ hc => e_put hc rfl rfl (os_plain rfl rfl (s_loadA (n := 2) (xs := [.v (.int .i64 ((r55.2.getD ((v56).toNat) zR).f)), .v (.int .i64 ((r55.2.getD ((v56).toNat) zR).o))]) (r := 19) (off := 0) (s := .i ((v56).toNat) 2) (p := []) (c := .sl true 2 (r55.2.map eR)) (cs := eR (r55.2.getD ((v56).toNat) zR)) rfl (aggB_ok (by kernel_rfl)) (by kernel_rfl) (by kernel_rfl) (getP_map zR (by have := hg57; omega)) rfl rfl rfl rfl (by kernel_rfl)))) (.cons (fun σ hc => e_g (d := 124) (t := .whole 13 none 2 ((r36.2.map eR).length)) hc rfl rfl (by kernel_rfl)) (.cons (fun σ hc => e_g (d := 125) (t := .u (.c (.v (.int .i64 v56)))) hc rfl rfl (by kernel_rfl)) (.cons (fun σ hc => e_put hc rfl rfl (os_plain rfl rfl (s_indexV (r := 13) (lo := 0) (n := (r36.2.map eR).length) (pl := none) (sz := 2) (e := v56) (ik := .i64) (k := (v56).toNat) rfl sl36 (by kernel_rfl) (.tmp (by kernel_rfl)) hg58.1 (by rw [List.length_map]; exact hg58.2) (Nat.zero_add _) rfl (by kernel_rfl) (by kernel_rfl)))) (.cons (fun σ hc => e_put hc rfl rfl (os_plain rfl rfl (s_loadA (n := 2) (xs := [.v (.int .i64 ((r36.2.getD ((v56).toNat) zR).f)), .v (.int .i64 ((r36.2.getD ((v56).toNat) zR).o))]) (r := 13) (off := 0) (s := .i ((v56).toNat) 2) (p := []) (c := .sl true 2 (r36.2.map eR)) (cs := eR (r36.2.getD ((v56).toNat) zR)) rfl (aggB_ok (by kernel_rfl)) (by kernel_rfl) (by kernel_rfl) (getP_map zR (by have := hg58; omega)) rfl rfl rfl rfl (by kernel_rfl)))) (.cons (fun σ hc => e_put hc rfl rfl (os_plain rfl rfl (s_eqA (b := ((r55.2.getD ((v56).toNat) zR).f) == ((r36.2.getD ((v56).toNat) zR).f) && (((r55.2.getD ((v56).toNat) zR).o) == ((r36.2.getD ((v56).toNat) zR).o))) rfl (.inr rfl) eqAgg39 (by kernel_rfl) rfl rfl rfl rfl rfl rfl (by kernel_rfl)))) (.nil)))))))))) (by kernel_rfl) ?_
            rcases Bool.eq_false_or_eq_true (!(((r55.2.getD ((v56).toNat) zR).f) == ((r36.2.getD ((v56).toNat) zR).f) && (((r55.2.getD ((v56).toNat) zR).o) == ((r36.2.getD ((v56).toNat) zR).o)))) with hb | hb
            · have h := cond_t hb h
              refine r_condT hb rfl ?_
              refine r_seq ?_
              refine r_reg (l := [(8, .u (.c (.v (.bool false))))]) (cg_then (ds := [8]) 1 rfl (by kernel_rfl) (.nil)) rfl (by kernel_rfl) ?_
              refine r_ret ?_
              obtain rfl := Option.some.inj h
              exact ⟨.inr rfl, _, _, .cons (.copy rfl rfl rfl) (.nil), rfl, outs_of trivial⟩
            · have h := cond_f hb h
              refine r_condF hb rfl ?_
              refine r_skip ?_
              refine r_reg (l := [(9, .u (.c (.v (.bool r1)))), (13, .u (.c (.sl true 2 (r36.2.map eR)))), (19, .u (.c (.sl true 2 (r55.2.map eR)))), (20, .u (.c (.v (.int .i64 (IntKind.i64.wrap (v56 + 1))))))]) (cg_then (ds := [118, 119, 20]) 3 rfl (by kernel_rfl) (.nil)) rfl (by kernel_rfl) ?_
              exact ⟨IntKind.i64.wrap (v56 + 1), h, of_weak (by kernel_rfl)⟩
          · have h := cond_f hb h
            refine r_condF hb rfl ?_
            refine r_exit ?_
            refine r_seq ?_
            refine r_reg (l := [(8, .u (.c (.v (.bool r1))))]) (cg_then (ds := [129, 8]) 2 rfl (by kernel_rfl) (.nil)) rfl (by kernel_rfl) ?_
            refine r_ret ?_
            obtain rfl := Option.some.inj h
            exact ⟨.inr rfl, _, _, .cons (.copy rfl rfl rfl) (.nil), rfl, outs_of trivial⟩
end Go.Proofs.YtmjnenjeckeklaaDoor.V
