import Derived.Test.YtehbhpkmlmeblaaDoorB1
namespace Go.Proofs.YtehbhpkmlmeblaaDoor.V
open Go Go.RowKit Go.Proofs Go.Proofs.YtehbhpkmlmeblaaDoor.Q Go.Proofs.YtehbhpkmlmeblaaDoorW.PrintWords
set_option linter.unusedVariables false
set_option linter.unusedSimpArgs false
set_option maxRecDepth 100000
abbrev eB (b : Bool) : List C := [.v (.bool b)]
structure D3 where
  w : Int
  f : Int
  o : Int
def eD (x : D3) : List C := [.v (.int .i64 x.w), .v (.int .i64 x.f), .v (.int .i64 x.o)]
abbrev zD : D3 := ⟨0, 0, 0⟩
theorem sl44 : SliceT Tryd.prog 44 3 24 := slB_ok (by kernel_rfl)
def BuddyTakes.l3 (k : Nat) (a0 : Int) (a1 : List D3) (a2 : Int) (a3 : Int) (r1 : Bool) (r2 : Int) (r3 : Sto × (Option Int)) (y6 : Sto × Int) (r11 : Int) (r12 : Int) (r13 : Sto × (List Blk)) (r14 : Sto × Sto) (r15 : Sto × Int × (Option Int)) (v19 : Sto) (v20 : Sto) (v21 : Int) (r26 : Sto × (Option Int)) (r27 : Sto × (Option Int)) (r28 : Sto × (Option Int)) (r29 : Sto × (List Blk)) : Nat → Int → Option (Bool)
  | 0, _ => none
  | n3 + 1, v30 => (bif decide (v30 < (r29.2.length : Int)) then (bif decide (0 ≤ v30) && decide (v30 < (r29.2.length : Int)) then (bif decide (0 ≤ v30) && decide (v30 < (r13.2.length : Int)) then (bif !(((r29.2.getD ((v30).toNat) zR).f) == ((r13.2.getD ((v30).toNat) zR).f) && (((r29.2.getD ((v30).toNat) zR).o) == ((r13.2.getD ((v30).toNat) zR).o))) then some false else BuddyTakes.l3 k a0 a1 a2 a3 r1 r2 r3 y6 r11 r12 r13 r14 r15 v19 v20 v21 r26 r27 r28 r29 n3 (IntKind.i64.wrap (v30 + 1))) else none) else none) else some r1)
def BuddyTakes.l4 (k : Nat) (a0 : Int) (a1 : List D3) (a2 : Int) (a3 : Int) (r1 : Bool) (r2 : Int) (r3 : Sto × (Option Int)) (y6 : Sto × Int) (r11 : Int) (r12 : Int) (r13 : Sto × (List Blk)) (r14 : Sto × Sto) (r15 : Sto × Int × (Option Int)) (v19 : Sto) (v20 : Sto) (v21 : Int) (r26 : Sto × (Option Int)) (r27 : Sto × (Option Int)) (r33 : Sto × (List Blk)) : Nat → Int → Option (Bool)
  | 0, _ => none
  | n4 + 1, v34 => (bif decide (v34 < (r33.2.length : Int)) then (bif decide (0 ≤ v34) && decide (v34 < (r33.2.length : Int)) then (bif decide (0 ≤ v34) && decide (v34 < (r13.2.length : Int)) then (bif !(((r33.2.getD ((v34).toNat) zR).f) == ((r13.2.getD ((v34).toNat) zR).f) && (((r33.2.getD ((v34).toNat) zR).o) == ((r13.2.getD ((v34).toNat) zR).o))) then some false else BuddyTakes.l4 k a0 a1 a2 a3 r1 r2 r3 y6 r11 r12 r13 r14 r15 v19 v20 v21 r26 r27 r33 n4 (IntKind.i64.wrap (v34 + 1))) else none) else none) else some r1)
def BuddyTakes.l2 (k : Nat) (a0 : Int) (a1 : List D3) (a2 : Int) (a3 : Int) (r1 : Bool) (r2 : Int) (r3 : Sto × (Option Int)) (y6 : Sto × Int) (r11 : Int) (r12 : Int) (r13 : Sto × (List Blk)) (r14 : Sto × Sto) (r15 : Sto × Int × (Option Int)) : Nat → Sto → Sto → Int → Option (Bool)
  | 0, _, _, _ => none
  | n2 + 1, v19, v20, v21 => (bif decide (v21 < r12) then (IsFree.f k v20 (IntKind.i64.wrap (r15.2.1 + v21))).bind fun (r22 : Sto × Bool) => (bif !r22.2 then some false else (IsFree.f k v19 (IntKind.i64.wrap (r15.2.1 + v21))).bind fun (r25 : Sto × Bool) => (bif r25.2 then some false else BuddyTakes.l2 k a0 a1 a2 a3 r1 r2 r3 y6 r11 r12 r13 r14 r15 n2 r25.1 r22.1 (IntKind.i64.wrap (v21 + 1)))) else (Give.f k v19 r15.2.1 r11).bind fun (r26 : Sto × (Option Int)) => (bif !(r26.2 == none) then some false else (TakeAt.f k r26.1 a3 r11).bind fun (r27 : Sto × (Option Int)) => (bif r27.2 == none then (Give.f k r27.1 a3 r11).bind fun (r28 : Sto × (Option Int)) => (bif !(r28.2 == none) then some false else (Free.f k r28.1).bind fun (r29 : Sto × (List Blk)) => (bif (r29.2.length : Int) != (r13.2.length : Int) then some false else BuddyTakes.l3 k a0 a1 a2 a3 r1 r2 r3 y6 r11 r12 r13 r14 r15 v19 v20 v21 r26 r27 r28 r29 k 0)) else (Free.f k r27.1).bind fun (r33 : Sto × (List Blk)) => (bif (r33.2.length : Int) != (r13.2.length : Int) then some false else BuddyTakes.l4 k a0 a1 a2 a3 r1 r2 r3 y6 r11 r12 r13 r14 r15 v19 v20 v21 r26 r27 r33 k 0))))
def BuddyTakes.l5 (k : Nat) (a0 : Int) (a1 : List D3) (a2 : Int) (a3 : Int) (r1 : Bool) (r2 : Int) (r3 : Sto × (Option Int)) (y6 : Sto × Int) (r11 : Int) (r12 : Int) (r13 : Sto × (List Blk)) (r14 : Sto × Sto) (r15 : Sto × Int × (Option Int)) (r37 : Sto × (Option Int)) (r38 : Sto × (Option Int)) (r39 : Sto × (List Blk)) : Nat → Int → Option (Bool)
  | 0, _ => none
  | n5 + 1, v40 => (bif decide (v40 < (r39.2.length : Int)) then (bif decide (0 ≤ v40) && decide (v40 < (r39.2.length : Int)) then (bif decide (0 ≤ v40) && decide (v40 < (r13.2.length : Int)) then (bif !(((r39.2.getD ((v40).toNat) zR).f) == ((r13.2.getD ((v40).toNat) zR).f) && (((r39.2.getD ((v40).toNat) zR).o) == ((r13.2.getD ((v40).toNat) zR).o))) then some false else BuddyTakes.l5 k a0 a1 a2 a3 r1 r2 r3 y6 r11 r12 r13 r14 r15 r37 r38 r39 n5 (IntKind.i64.wrap (v40 + 1))) else none) else none) else some r1)
def BuddyTakes.l6 (k : Nat) (a0 : Int) (a1 : List D3) (a2 : Int) (a3 : Int) (r1 : Bool) (r2 : Int) (r3 : Sto × (Option Int)) (y6 : Sto × Int) (r11 : Int) (r12 : Int) (r13 : Sto × (List Blk)) (r14 : Sto × Sto) (r15 : Sto × Int × (Option Int)) (r37 : Sto × (Option Int)) (r43 : Sto × (List Blk)) : Nat → Int → Option (Bool)
  | 0, _ => none
  | n6 + 1, v44 => (bif decide (v44 < (r43.2.length : Int)) then (bif decide (0 ≤ v44) && decide (v44 < (r43.2.length : Int)) then (bif decide (0 ≤ v44) && decide (v44 < (r13.2.length : Int)) then (bif !(((r43.2.getD ((v44).toNat) zR).f) == ((r13.2.getD ((v44).toNat) zR).f) && (((r43.2.getD ((v44).toNat) zR).o) == ((r13.2.getD ((v44).toNat) zR).o))) then some false else BuddyTakes.l6 k a0 a1 a2 a3 r1 r2 r3 y6 r11 r12 r13 r14 r15 r37 r43 n6 (IntKind.i64.wrap (v44 + 1))) else none) else none) else some r1)
def BuddyTakes.l1 (k : Nat) (a0 : Int) (a1 : List D3) (a2 : Int) (a3 : Int) (r1 : Bool) (r2 : Int) (r3 : Sto × (Option Int)) : Nat → Sto → Int → Option (Sto × Int)
  | 0, _, _ => none
  | n1 + 1, v4, v5 => (bif decide (v5 < (a1.length : Int)) then (bif decide (v5 < 40) then (bif decide (0 ≤ v5) && decide (v5 < (a1.length : Int)) then (paviorlaw07_pick.f ((a1.getD v5.toNat zD).o) 6).bind fun (r9 : Int) => (Take.f k v4 r9).bind fun (r10 : Sto × Int × (Option Int)) => BuddyTakes.l1 k a0 a1 a2 a3 r1 r2 r3 n1 r10.1 (IntKind.i64.wrap (v5 + 1)) else none) else some (v4, v5)) else some (v4, v5))
set_option maxHeartbeats 4000000 in
def BuddyTakes.f (k : Nat) (a0 : Int) (a1 : List D3) (a2 : Int) (a3 : Int) : Option (Bool) :=
  (up.f k).bind fun (r1 : Bool) => (paviorlaw07_pick.f a0 200).bind fun (r2 : Int) => (New.f k (IntKind.i64.wrap (1 + r2))).bind fun (r3 : Sto × (Option Int)) => (bif !(r3.2 == none) then some false else (BuddyTakes.l1 k a0 a1 a2 a3 r1 r2 r3 k r3.1 0).bind fun (y6 : Sto × Int) => (paviorlaw07_pick.f a2 6).bind fun (r11 : Int) => (paviorref01_Power.f k r11).bind fun (r12 : Int) => (Free.f k y6.1).bind fun (r13 : Sto × (List Blk)) => (SClone.f k r13.1).bind fun (r14 : Sto × Sto) => (Take.f k r14.1 r11).bind fun (r15 : Sto × Int × (Option Int)) => (bif r15.2.2 == none then (bif decide (r15.2.1 < 0) then some false else (bif decide (r12 ≠ 0) then (bif (r15.2.1.tmod r12) != 0 then some false else BuddyTakes.l2 k a0 a1 a2 a3 r1 r2 r3 y6 r11 r12 r13 r14 r15 k r15.1 r14.2 0) else none)) else (TakeAt.f k r15.1 a3 r11).bind fun (r37 : Sto × (Option Int)) => (bif r37.2 == none then (Give.f k r37.1 a3 r11).bind fun (r38 : Sto × (Option Int)) => (bif !(r38.2 == none) then some false else (Free.f k r38.1).bind fun (r39 : Sto × (List Blk)) => (bif (r39.2.length : Int) != (r13.2.length : Int) then some false else BuddyTakes.l5 k a0 a1 a2 a3 r1 r2 r3 y6 r11 r12 r13 r14 r15 r37 r38 r39 k 0)) else (Free.f k r37.1).bind fun (r43 : Sto × (List Blk)) => (bif (r43.2.length : Int) != (r13.2.length : Int) then some false else BuddyTakes.l6 k a0 a1 a2 a3 r1 r2 r3 y6 r11 r12 r13 r14 r15 r37 r43 k 0))))
set_option maxHeartbeats 4000000 in
theorem BuddyTakes.ac (k : Nat) (a0 : Int) (a1 : List D3) (a2 : Int) (a3 : Int) (r : Bool) (h : BuddyTakes.f k a0 a1 a2 a3 = some r) : ACD Tryd.prog 38 6 [.c (.v (.int .i64 a0)), .c (.sl false 3 (a1.map eD)), .c (.v (.int .i64 a2)), .c (.v (.int .i64 a3))] [none, none, none, none] [.c (.v (.bool r))] := by
  unfold BuddyTakes.f at h
  refine act_intro (fn := Tryd.f6) (pins := []) (rts := [8]) Tryd.func6 rfl Tryd.ntmps6 rfl (Nat.le_of_ble_eq_true rfl) (pins_lt rfl) rfl (fun w R E vs hT => ?_)
  refine r_weak (of_weak (l := [(0, .u (.c (.v (.int .i64 a0)))), (1, .u (.c (.sl false 3 (a1.map eD)))), (2, .u (.c (.v (.int .i64 a2)))), (3, .u (.c (.v (.int .i64 a3))))]) (by kernel_rfl)) ?_
  refine r_seq ?_
  refine r_reg (l := [(0, .u (.c (.v (.int .i64 a0)))), (1, .u (.c (.sl false 3 (a1.map eD)))), (2, .u (.c (.v (.int .i64 a2)))), (3, .u (.c (.v (.int .i64 a3))))]) (cg_then (ds := [8]) 1 rfl (by kernel_rfl) (.nil)) rfl (by kernel_rfl) ?_
  refine r_seq ?_
  obtain ⟨r1, hr1, h⟩ := bind_some h
  refine r_reg (l := [(0, .u (.c (.v (.int .i64 a0)))), (1, .u (.c (.sl false 3 (a1.map eD)))), (2, .u (.c (.v (.int .i64 a2)))), (3, .u (.c (.v (.int .i64 a3)))), (9, .u (.c (.v (.bool r1))))]) (co_then 1 rfl (os_plain rfl rfl (c_callQ (ACT.k hT (up.ac (h := hr1))) ⟨_, Tryd.func8, rfl, by kernel_rfl⟩ rfl (.nil) (by kernel_rfl))) (cg_then (ds := [9]) 2 rfl (by kernel_rfl) (.nil))) rfl (by kernel_rfl) ?_
  refine r_seq ?_
  obtain ⟨r2, hr2, h⟩ := bind_some h
  refine r_reg (l := [(0, .u (.c (.v (.int .i64 (IntKind.i64.wrap (1 + r2)))))), (1, .u (.c (.sl false 3 (a1.map eD)))), (2, .u (.c (.v (.int .i64 a2)))), (3, .u (.c (.v (.int .i64 a3)))), (9, .u (.c (.v (.bool r1))))]) (cg_then (ds := [25]) 1 rfl (by kernel_rfl) (co_then 2 rfl (os_plain rfl rfl (c_callQ (AC.k (paviorlaw07_pick.ac (h := hr2))) ⟨_, Tryd.func9, rfl, by kernel_rfl⟩ rfl (.cons (.copy (by kernel_rfl) rfl) (.cons (.copy (by kernel_rfl) rfl) (.nil))) (by kernel_rfl))) (cg_then (ds := [27, 0]) 4 rfl (by kernel_rfl) (.nil)))) rfl (by kernel_rfl) ?_
  refine r_seq ?_
  obtain ⟨r3, hr3, h⟩ := bind_some h
  refine r_reg (l := [(1, .u (.c (.sl false 3 (a1.map eD)))), (2, .u (.c (.v (.int .i64 a2)))), (3, .u (.c (.v (.int .i64 a3)))), (9, .u (.c (.v (.bool r1)))), (10, .u (.c (storeC r3.1))), (11, .u (.c (.err r3.2)))]) (cg_then (ds := [29]) 1 rfl (by kernel_rfl) (co_then 2 rfl (os_plain rfl rfl (c_callQ (ACT.k hT (New.ac (h := hr3))) ⟨_, Tryd.func10, rfl, by kernel_rfl⟩ rfl (.cons (.copy (by kernel_rfl) rfl) (.nil)) (by kernel_rfl))) (co_then 3 rfl (os_plain rfl rfl (s_moveT (us := [.c (storeC r3.1), .c (.err r3.2)]) (.inl rfl) (by kernel_rfl) rfl (by kernel_rfl))) (co_then 4 rfl (os_plain rfl rfl (s_xmove (us := [.c (storeC r3.1), .c (.err r3.2)]) rfl (by kernel_rfl) rfl rfl (by kernel_rfl))) (cg_then (ds := [32]) 5 rfl (by kernel_rfl) (co_then 6 rfl (os_plain rfl rfl (s_take (u := .c (storeC r3.1)) (.inr rfl) (.move (by kernel_rfl) rfl) rfl (by kernel_rfl))) (cg_then (ds := [11]) 7 rfl (by kernel_rfl) (.nil)))))))) rfl (by kernel_rfl) ?_
  refine r_seq ?_
  refine r_seq ?_
  refine r_reg (l := [(1, .u (.c (.sl false 3 (a1.map eD)))), (2, .u (.c (.v (.int .i64 a2)))), (3, .u (.c (.v (.int .i64 a3)))), (9, .u (.c (.v (.bool r1)))), (10, .u (.c (storeC r3.1))), (38, .u (.c (.v (.bool (!(r3.2 == none))))))]) (cg_then (ds := [33, 34, 35, 36, 37, 38]) 6 rfl (by kernel_rfl) (.nil)) rfl (by kernel_rfl) ?_
  rcases Bool.eq_false_or_eq_true (!(r3.2 == none)) with hb | hb
  · have h := cond_t hb h
    refine r_condT hb rfl ?_
    refine r_seq ?_
    refine r_reg (l := [(8, .u (.c (.v (.bool false))))]) (cg_then (ds := [8]) 1 rfl (by kernel_rfl) (.nil)) rfl (by kernel_rfl) ?_
    refine r_ret ?_
    obtain rfl := Option.some.inj h
    exact ⟨.inr rfl, _, _, .cons (.copy rfl rfl rfl) (.nil), rfl, outs_of trivial⟩
  · have h := cond_f hb h
    refine r_condF hb rfl ?_
    refine r_skip ?_
    refine r_seq ?_
    refine r_seq ?_
    refine r_reg (l := [(1, .u (.c (.sl false 3 (a1.map eD)))), (2, .u (.c (.v (.int .i64 a2)))), (3, .u (.c (.v (.int .i64 a3)))), (9, .u (.c (.v (.bool r1)))), (10, .u (.c (storeC r3.1))), (12, .u (.c (.v (.int .i64 0))))]) (cg_then (ds := [12]) 1 rfl (by kernel_rfl) (.nil)) rfl (by kernel_rfl) ?_
    refine r_block ?_
    refine r_weak (of_weak (l := [(1, .u (.c (.sl false 3 (a1.map eD)))), (2, .u (.c (.v (.int .i64 a2)))), (3, .u (.c (.v (.int .i64 a3)))), (9, .u (.c (.v (.bool r1)))), (10, .u (.c (storeC r3.1))), (12, .u (.c (.v (.int .i64 0))))]) (by kernel_rfl)) ?_
    obtain ⟨y6, hy6, h_y6⟩ := bind_some h
    refine r_loopI (α := Sto × Int) (fun x => [(1, .u (.c (.sl false 3 (a1.map eD)))), (2, .u (.c (.v (.int .i64 a2)))), (3, .u (.c (.v (.int .i64 a3)))), (9, .u (.c (.v (.bool r1)))), (10, .u (.c (storeC x.1))), (12, .u (.c (.v (.int .i64 x.2))))]) (fun n x => BuddyTakes.l1 k a0 a1 a2 a3 r1 r2 r3 n x.1 x.2 = some y6) k (r3.1, 0) hy6 (by intro x h; unfold BuddyTakes.l1 at h; cases h) ?_
    rintro n1 ⟨v4, v5⟩ h
    replace h : BuddyTakes.l1 k a0 a1 a2 a3 r1 r2 r3 (n1 + 1) v4 v5 = some y6 := h
    unfold BuddyTakes.l1 at h
    show Run _ _ _ (St.of [(1, .u (.c (.sl false 3 (a1.map eD)))), (2, .u (.c (.v (.int .i64 a2)))), (3, .u (.c (.v (.int .i64 a3)))), (9, .u (.c (.v (.bool r1)))), (10, .u (.c (storeC v4))), (12, .u (.c (.v (.int .i64 v5))))]) _
    refine r_seq ?_
    refine r_seq ?_
    rcases Bool.eq_false_or_eq_true (decide (v5 < (a1.length : Int))) with hb | hb
    · have h := cond_t hb h
      have hs7 := hb
      refine r_reg (l := [(1, .u (.c (.sl false 3 (a1.map eD)))), (2, .u (.c (.v (.int .i64 a2)))), (3, .u (.c (.v (.int .i64 a3)))), (9, .u (.c (.v (.bool r1)))), (10, .u (.c (storeC v4))), (12, .u (.c (.v (.int .i64 v5)))), (46, .u (.c (.v (.bool (decide (v5 < 40))))))]) (cg_then (ds := [39, 40]) 2 rfl (by kernel_rfl) (co_then 3 rfl (os_to (os_plain rfl rfl (s_lenU (own := false) (sz := 3) (rows := (a1.map eD)) rfl sl44 (by kernel_rfl) rfl (by kernel_rfl))) (t' := .u (.c (.v (.int .i64 (a1.length : Int))))) (by rw [List.length_map])) (cg_then (ds := [42]) 4 rfl (by kernel_rfl) (co_then 5 rfl (os_ge (d := 43) (t := .u (.c (.v (.bool (decide (v5 < (a1.length : Int))))))) (t' := .u (.c (.v (.bool true)))) (by kernel_rfl) (by rw [hs7])) (cg_then (ds := [44, 45, 46]) 8 rfl (by kernel_rfl) (.nil)))))) rfl (by kernel_rfl) ?_
      rcases Bool.eq_false_or_eq_true (decide (v5 < 40)) with hb | hb
      · have h := cond_t hb h
        refine r_condT hb rfl ?_
        refine r_skip ?_
        refine r_seq ?_
        refine r_block ?_
        obtain ⟨hg8, h⟩ := guard_some h
        simp only [Bool.and_eq_true, decide_eq_true_eq] at hg8
        obtain ⟨r9, hr9, h⟩ := bind_some h
        obtain ⟨r10, hr10, h⟩ := bind_some h
        refine r_reg (l := [(1, .u (.c (.sl false 3 (a1.map eD)))), (2, .u (.c (.v (.int .i64 a2)))), (3, .u (.c (.v (.int .i64 a3)))), (9, .u (.c (.v (.bool r1)))), (10, .u (.c (storeC r10.1))), (12, .u (.c (.v (.int .i64 v5))))]) (cg_then (ds := [49, 50, 51]) 3 rfl (by kernel_rfl) (co_then 4 rfl (os_plain rfl rfl (s_indexU (own := false) (sz := 3) (rows := (a1.map eD)) (e := v5) (ik := .i64) rfl sl44 (by kernel_rfl) (.tmp (by kernel_rfl)) hg8.1 (by rw [List.length_map]; exact hg8.2) rfl (by kernel_rfl) (by kernel_rfl))) (cg_then (ds := [53]) 5 rfl (by kernel_rfl) (co_then 6 rfl (os_plain rfl rfl (s_load1 (x := .v (.int .i64 ((a1.getD v5.toNat zD).o))) (r := 50) (off := 2) (s := .i v5.toNat 3) (p := []) (c := .sl false 3 (a1.map eD)) (cs := eD (a1.getD v5.toNat zD)) rfl (oneB_ok (by kernel_rfl)) (by kernel_rfl) (by kernel_rfl) (getP_map zD (by have := hg8; omega)) rfl rfl rfl (by kernel_rfl))) (co_then 7 rfl (os_plain rfl rfl (c_callQ (AC.k (paviorlaw07_pick.ac (h := hr9))) ⟨_, Tryd.func9, rfl, by kernel_rfl⟩ rfl (.cons (.copy (by kernel_rfl) rfl) (.cons (.copy (by kernel_rfl) rfl) (.nil))) (by kernel_rfl))) (co_then 8 rfl (os_plain rfl rfl (c_call (AC.k (Take.ac (h := hr10))) ⟨_, Tryd.func13, rfl, by kernel_rfl⟩ rfl (hand_root (r := 10) (c := storeC v4) (by kernel_rfl) (by kernel_rfl) rfl (.rd (.copy (by kernel_rfl) rfl) (.nil))) rfl (by kernel_rfl))) (.nil))))))) rfl (by kernel_rfl) ?_
        refine r_reg (l := [(1, .u (.c (.sl false 3 (a1.map eD)))), (2, .u (.c (.v (.int .i64 a2)))), (3, .u (.c (.v (.int .i64 a3)))), (9, .u (.c (.v (.bool r1)))), (10, .u (.c (storeC r10.1))), (12, .u (.c (.v (.int .i64 (IntKind.i64.wrap (v5 + 1))))))]) (cg_then (ds := [47, 48, 12]) 3 rfl (by kernel_rfl) (.nil)) rfl (by kernel_rfl) ?_
        exact ⟨(r10.1, IntKind.i64.wrap (v5 + 1)), h, of_weak (by kernel_rfl)⟩
      · have h := cond_f hb h
        refine r_condF hb rfl ?_
        refine r_weak (of_weak (l := [(2, .u (.c (.v (.int .i64 a2)))), (3, .u (.c (.v (.int .i64 a3)))), (9, .u (.c (.v (.bool r1)))), (10, .u (.c (storeC v4)))]) (by kernel_rfl)) ?_
        refine run_cast (α := Sto × Int) (fun x => [(2, .u (.c (.v (.int .i64 a2)))), (3, .u (.c (.v (.int .i64 a3)))), (9, .u (.c (.v (.bool r1)))), (10, .u (.c (storeC x.1)))]) (x := (v4, v5)) (y := y6) (Option.some.inj h) ?_
        refine r_exit ?_
        replace h := h_y6
        refine r_seq ?_
        obtain ⟨r11, hr11, h⟩ := bind_some h
        refine r_reg (l := [(2, .u (.c (.v (.int .i64 r11)))), (3, .u (.c (.v (.int .i64 a3)))), (9, .u (.c (.v (.bool r1)))), (10, .u (.c (storeC y6.1)))]) (cg_then (ds := [57]) 1 rfl (by kernel_rfl) (co_then 2 rfl (os_plain rfl rfl (c_callQ (AC.k (paviorlaw07_pick.ac (h := hr11))) ⟨_, Tryd.func9, rfl, by kernel_rfl⟩ rfl (.cons (.copy (by kernel_rfl) rfl) (.cons (.copy (by kernel_rfl) rfl) (.nil))) (by kernel_rfl))) (cg_then (ds := [2]) 3 rfl (by kernel_rfl) (.nil)))) rfl (by kernel_rfl) ?_
        refine r_seq ?_
        obtain ⟨r12, hr12, h⟩ := bind_some h
        refine r_reg (l := [(2, .u (.c (.v (.int .i64 r11)))), (3, .u (.c (.v (.int .i64 a3)))), (9, .u (.c (.v (.bool r1)))), (10, .u (.c (storeC y6.1))), (13, .u (.c (.v (.int .i64 r12))))]) (cg_then (ds := [59]) 1 rfl (by kernel_rfl) (co_then 2 rfl (os_plain rfl rfl (c_callQ (AC.k (paviorref01_Power.ac (h := hr12))) ⟨_, Tryd.func18, rfl, by kernel_rfl⟩ rfl (.cons (.copy (by kernel_rfl) rfl) (.nil)) (by kernel_rfl))) (cg_then (ds := [13]) 3 rfl (by kernel_rfl) (.nil)))) rfl (by kernel_rfl) ?_
        refine r_seq ?_
        obtain ⟨r13, hr13, h⟩ := bind_some h
        refine r_reg (l := [(2, .u (.c (.v (.int .i64 r11)))), (3, .u (.c (.v (.int .i64 a3)))), (9, .u (.c (.v (.bool r1)))), (10, .u (.c (storeC r13.1))), (13, .u (.c (.v (.int .i64 r12)))), (14, .u (.c (.sl true 2 (r13.2.map eR))))]) (cg_then (ds := [61]) 1 rfl (by kernel_rfl) (co_then 2 rfl (os_plain rfl rfl (c_call (AC.k (Free.ac (h := hr13))) ⟨_, Tryd.func12, rfl, by kernel_rfl⟩ rfl (hand_root (r := 10) (c := storeC y6.1) (by kernel_rfl) (by kernel_rfl) rfl (.nil)) rfl (by kernel_rfl))) (co_then 3 rfl (os_plain rfl rfl (s_take (u := .c (.sl true 2 (r13.2.map eR))) (.inr rfl) (.move (by kernel_rfl) rfl) rfl (by kernel_rfl))) (.nil)))) rfl (by kernel_rfl) ?_
        refine r_seq ?_
        obtain ⟨r14, hr14, h⟩ := bind_some h
        refine r_reg (l := [(2, .u (.c (.v (.int .i64 r11)))), (3, .u (.c (.v (.int .i64 a3)))), (9, .u (.c (.v (.bool r1)))), (10, .u (.c (storeC r14.1))), (13, .u (.c (.v (.int .i64 r12)))), (14, .u (.c (.sl true 2 (r13.2.map eR)))), (15, .u (.c (storeC r14.2)))]) (cg_then (ds := [63]) 1 rfl (by kernel_rfl) (co_then 2 rfl (os_plain rfl rfl (c_call (AC.k (SClone.ac (h := hr14))) ⟨_, Tryd.func11, rfl, by kernel_rfl⟩ rfl (hand_root (r := 10) (c := storeC r13.1) (by kernel_rfl) (by kernel_rfl) rfl (.nil)) rfl (by kernel_rfl))) (co_then 3 rfl (os_plain rfl rfl (s_take (u := .c (storeC r14.2)) (.inr rfl) (.move (by kernel_rfl) rfl) rfl (by kernel_rfl))) (.nil)))) rfl (by kernel_rfl) ?_
        refine r_seq ?_
        refine r_seq ?_
        refine r_reg (l := [(2, .u (.c (.v (.int .i64 r11)))), (3, .u (.c (.v (.int .i64 a3)))), (9, .u (.c (.v (.bool r1)))), (10, .u (.c (storeC r14.1))), (13, .u (.c (.v (.int .i64 r12)))), (14, .u (.c (.sl true 2 (r13.2.map eR)))), (15, .u (.c (storeC r14.2))), (66, .u (.c (.v (.bool false))))]) (cg_then (ds := [65, 66]) 2 rfl (by kernel_rfl) (.nil)) rfl (by kernel_rfl) ?_
        refine r_condF rfl rfl ?_
        refine r_skip ?_
        refine r_seq ?_
        obtain ⟨r15, hr15, h⟩ := bind_some h
        refine r_reg (l := [(2, .u (.c (.v (.int .i64 r11)))), (3, .u (.c (.v (.int .i64 a3)))), (9, .u (.c (.v (.bool r1)))), (10, .u (.c (storeC r15.1))), (13, .u (.c (.v (.int .i64 r12)))), (14, .u (.c (.sl true 2 (r13.2.map eR)))), (15, .u (.c (storeC r14.2))), (16, .u (.c (.v (.int .i64 r15.2.1)))), (17, .u (.c (.err r15.2.2)))]) (cg_then (ds := [68, 69]) 2 rfl (by kernel_rfl) (co_then 3 rfl (os_plain rfl rfl (c_call (AC.k (Take.ac (h := hr15))) ⟨_, Tryd.func13, rfl, by kernel_rfl⟩ rfl (hand_root (r := 10) (c := storeC r14.1) (by kernel_rfl) (by kernel_rfl) rfl (.rd (.copy (by kernel_rfl) rfl) (.nil))) rfl (by kernel_rfl))) (co_then 4 rfl (os_plain rfl rfl (s_moveT (us := [.c (.v (.int .i64 r15.2.1)), .c (.err r15.2.2)]) (.inl rfl) (by kernel_rfl) rfl (by kernel_rfl))) (cg_then (ds := [71, 72, 16, 17]) 8 rfl (by kernel_rfl) (.nil))))) rfl (by kernel_rfl) ?_
        refine r_seq ?_
        refine r_seq ?_
        refine r_reg (l := [(2, .u (.c (.v (.int .i64 r11)))), (3, .u (.c (.v (.int .i64 a3)))), (9, .u (.c (.v (.bool r1)))), (10, .u (.c (storeC r15.1))), (13, .u (.c (.v (.int .i64 r12)))), (14, .u (.c (.sl true 2 (r13.2.map eR)))), (15, .u (.c (storeC r14.2))), (16, .u (.c (.v (.int .i64 r15.2.1)))), (74, .u (.c (.v (.bool (r15.2.2 == none)))))]) (cg_then (ds := [73, 74]) 2 rfl (by kernel_rfl) (.nil)) rfl (by kernel_rfl) ?_
        rcases Bool.eq_false_or_eq_true (r15.2.2 == none) with hb | hb
        · have h := cond_t hb h
          refine r_condT hb rfl ?_
          refine r_seq ?_
          refine r_seq ?_
          rcases Bool.eq_false_or_eq_true (decide (r15.2.1 < 0)) with hb | hb
          · have h := cond_t hb h
            have hs16 := hb
            refine r_reg (l := [(2, .u (.c (.v (.int .i64 r11)))), (3, .u (.c (.v (.int .i64 a3)))), (9, .u (.c (.v (.bool r1)))), (10, .u (.c (storeC r15.1))), (13, .u (.c (.v (.int .i64 r12)))), (14, .u (.c (.sl true 2 (r13.2.map eR)))), (15, .u (.c (storeC r14.2))), (16, .u (.c (.v (.int .i64 r15.2.1)))), (82, .u (.c (.v (.bool true))))]) (cg_then (ds := [75, 76]) 2 rfl (by kernel_rfl) (co_then 3 rfl (os_ge (d := 77) (t := .u (.c (.v (.bool (decide (r15.2.1 < 0)))))) (t' := .u (.c (.v (.bool true)))) (by kernel_rfl) (by rw [hs16])) (cg_then (ds := [78, 79, 80, 81, 82]) 8 rfl (by kernel_rfl) (.nil)))) rfl (by kernel_rfl) ?_
            refine r_condT rfl rfl ?_
            refine r_seq ?_
            refine r_reg (l := [(8, .u (.c (.v (.bool false))))]) (cg_then (ds := [8]) 1 rfl (by kernel_rfl) (.nil)) rfl (by kernel_rfl) ?_
            refine r_ret ?_
            obtain rfl := Option.some.inj h
            exact ⟨.inr rfl, _, _, .cons (.copy rfl rfl rfl) (.nil), rfl, outs_of trivial⟩
          · have h := cond_f hb h
            have hs17 := hb
            obtain ⟨hg18, h⟩ := guard_some h
            simp only [decide_eq_true_eq] at hg18
            refine r_reg (l := [(2, .u (.c (.v (.int .i64 r11)))), (3, .u (.c (.v (.int .i64 a3)))), (9, .u (.c (.v (.bool r1)))), (10, .u (.c (storeC r15.1))), (13, .u (.c (.v (.int .i64 r12)))), (14, .u (.c (.sl true 2 (r13.2.map eR)))), (15, .u (.c (storeC r14.2))), (16, .u (.c (.v (.int .i64 r15.2.1)))), (82, .u (.c (.v (.bool ((r15.2.1.tmod r12) != 0)))))]) (cg_then (ds := [75, 76]) 2 rfl (by kernel_rfl) (co_then 3 rfl (os_ge (d := 77) (t := .u (.c (.v (.bool (decide (r15.2.1 < 0)))))) (t' := .u (.c (.v (.bool false)))) (by kernel_rfl) (by rw [hs17])) (cg_then (ds := [78, 79]) 5 rfl (by kernel_rfl) (co_then 6 rfl (os_to (os_gy rfl rfl rfl (by kernel_rfl) (s_div (op := .rem) (k := .i64) (p := r15.2.1) (q := r12) rfl (.inr rfl) (by kernel_rfl) (by kernel_rfl) hg18 rfl (by kernel_rfl))) (t' := .u (.c (.v (.int .i64 (r15.2.1.tmod r12))))) (by kernel_rfl)) (cg_then (ds := [81, 82]) 8 rfl (by kernel_rfl) (.nil)))))) rfl (by kernel_rfl) ?_
            rcases Bool.eq_false_or_eq_true ((r15.2.1.tmod r12) != 0) with hb | hb
            · have h := cond_t hb h
              refine r_condT hb rfl ?_
              refine r_seq ?_
              refine r_reg (l := [(8, .u (.c (.v (.bool false))))]) (cg_then (ds := [8]) 1 rfl (by kernel_rfl) (.nil)) rfl (by kernel_rfl) ?_
              refine r_ret ?_
              obtain rfl := Option.some.inj h
              exact ⟨.inr rfl, _, _, .cons (.copy rfl rfl rfl) (.nil), rfl, outs_of trivial⟩
            · have h := cond_f hb h
              refine r_condF hb rfl ?_
              refine r_skip ?_
              refine r_seq ?_
              refine r_seq ?_
              refine r_reg (l := [(2, .u (.c (.v (.int .i64 r11)))), (3, .u (.c (.v (.int .i64 a3)))), (9, .u (.c (.v (.bool r1)))), (10, .u (.c (storeC r15.1))), (13, .u (.c (.v (.int .i64 r12)))), (14, .u (.c (.sl true 2 (r13.2.map eR)))), (15, .u (.c (storeC r14.2))), (16, .u (.c (.v (.int .i64 r15.2.1)))), (18, .u (.c (.v (.int .i64 0))))]) (cg_then (ds := [18]) 1 rfl (by kernel_rfl) (.nil)) rfl (by kernel_rfl) ?_
              refine r_block ?_
              refine r_weak (of_weak (l := [(2, .u (.c (.v (.int .i64 r11)))), (3, .u (.c (.v (.int .i64 a3)))), (9, .u (.c (.v (.bool r1)))), (10, .u (.c (storeC r15.1))), (13, .u (.c (.v (.int .i64 r12)))), (14, .u (.c (.sl true 2 (r13.2.map eR)))), (15, .u (.c (storeC r14.2))), (16, .u (.c (.v (.int .i64 r15.2.1)))), (18, .u (.c (.v (.int .i64 0))))]) (by kernel_rfl)) ?_
              refine r_loopI (α := Sto × Sto × Int) (fun x => [(2, .u (.c (.v (.int .i64 r11)))), (3, .u (.c (.v (.int .i64 a3)))), (9, .u (.c (.v (.bool r1)))), (10, .u (.c (storeC x.1))), (13, .u (.c (.v (.int .i64 r12)))), (14, .u (.c (.sl true 2 (r13.2.map eR)))), (15, .u (.c (storeC x.2.1))), (16, .u (.c (.v (.int .i64 r15.2.1)))), (18, .u (.c (.v (.int .i64 x.2.2))))]) (fun n x => BuddyTakes.l2 k a0 a1 a2 a3 r1 r2 r3 y6 r11 r12 r13 r14 r15 n x.1 x.2.1 x.2.2 = some r) k (r15.1, r14.2, 0) h (by intro x h; unfold BuddyTakes.l2 at h; cases h) ?_
              rintro n2 ⟨v19, v20, v21⟩ h
              replace h : BuddyTakes.l2 k a0 a1 a2 a3 r1 r2 r3 y6 r11 r12 r13 r14 r15 (n2 + 1) v19 v20 v21 = some r := h
              unfold BuddyTakes.l2 at h
              show Run _ _ _ (St.of [(2, .u (.c (.v (.int .i64 r11)))), (3, .u (.c (.v (.int .i64 a3)))), (9, .u (.c (.v (.bool r1)))), (10, .u (.c (storeC v19))), (13, .u (.c (.v (.int .i64 r12)))), (14, .u (.c (.sl true 2 (r13.2.map eR)))), (15, .u (.c (storeC v20))), (16, .u (.c (.v (.int .i64 r15.2.1)))), (18, .u (.c (.v (.int .i64 v21))))]) _
              refine r_seq ?_
              refine r_seq ?_
              refine r_reg (l := [(2, .u (.c (.v (.int .i64 r11)))), (3, .u (.c (.v (.int .i64 a3)))), (9, .u (.c (.v (.bool r1)))), (10, .u (.c (storeC v19))), (13, .u (.c (.v (.int .i64 r12)))), (14, .u (.c (.sl true 2 (r13.2.map eR)))), (15, .u (.c (storeC v20))), (16, .u (.c (.v (.int .i64 r15.2.1)))), (18, .u (.c (.v (.int .i64 v21)))), (85, .u (.c (.v (.bool (decide (v21 < r12))))))]) (cg_then (ds := [83, 84, 85]) 3 rfl (by kernel_rfl) (.nil)) rfl (by kernel_rfl) ?_
              rcases Bool.eq_false_or_eq_true (decide (v21 < r12)) with hb | hb
              · have h := cond_t hb h
                refine r_condT hb rfl ?_
                refine r_skip ?_
                refine r_seq ?_
                refine r_block ?_
                refine r_seq ?_
                obtain ⟨r22, hr22, h⟩ := bind_some h
                rcases Bool.eq_false_or_eq_true (!r22.2) with hb | hb
                · have h := cond_t hb h
                  have hs23 := hb
                  refine r_reg (l := [(2, .u (.c (.v (.int .i64 r11)))), (3, .u (.c (.v (.int .i64 a3)))), (9, .u (.c (.v (.bool r1)))), (10, .u (.c (storeC v19))), (13, .u (.c (.v (.int .i64 r12)))), (14, .u (.c (.sl true 2 (r13.2.map eR)))), (15, .u (.c (storeC r22.1))), (16, .u (.c (.v (.int .i64 r15.2.1)))), (18, .u (.c (.v (.int .i64 v21)))), (100, .u (.c (.v (.bool true))))]) (cg_then (ds := [88, 89, 90, 91]) 4 rfl (by kernel_rfl) (co_then 5 rfl (os_plain rfl rfl (c_call (AC.k (IsFree.ac (h := hr22))) ⟨_, Tryd.func19, rfl, by kernel_rfl⟩ rfl (hand_root (r := 15) (c := storeC v20) (by kernel_rfl) (by kernel_rfl) rfl (.rd (.copy (by kernel_rfl) rfl) (.nil))) rfl (by kernel_rfl))) (cg_then (ds := [93]) 6 rfl (by kernel_rfl) (co_then 7 rfl (os_ge (d := 94) (t := .u (.c (.v (.bool (!r22.2))))) (t' := .u (.c (.v (.bool true)))) (by kernel_rfl) (by rw [hs23])) (cg_then (ds := [95, 96, 97, 98, 99, 100]) 13 rfl (by kernel_rfl) (.nil)))))) rfl (by kernel_rfl) ?_
                  refine r_condT rfl rfl ?_
                  refine r_seq ?_
                  refine r_reg (l := [(8, .u (.c (.v (.bool false))))]) (cg_then (ds := [8]) 1 rfl (by kernel_rfl) (.nil)) rfl (by kernel_rfl) ?_
                  refine r_ret ?_
                  obtain rfl := Option.some.inj h
                  exact ⟨.inr rfl, _, _, .cons (.copy rfl rfl rfl) (.nil), rfl, outs_of trivial⟩
                · have h := cond_f hb h
                  have hs24 := hb
                  obtain ⟨r25, hr25, h⟩ := bind_some h
                  refine r_reg (l := [(2, .u (.c (.v (.int .i64 r11)))), (3, .u (.c (.v (.int .i64 a3)))), (9, .u (.c (.v (.bool r1)))), (10, .u (.c (storeC r25.1))), (13, .u (.c (.v (.int .i64 r12)))), (14, .u (.c (.sl true 2 (r13.2.map eR)))), (15, .u (.c (storeC r22.1))), (16, .u (.c (.v (.int .i64 r15.2.1)))), (18, .u (.c (.v (.int .i64 v21)))), (100, .u (.c (.v (.bool r25.2))))]) (cg_then (ds := [88, 89, 90, 91]) 4 rfl (by kernel_rfl) (co_then 5 rfl (os_plain rfl rfl (c_call (AC.k (IsFree.ac (h := hr22))) ⟨_, Tryd.func19, rfl, by kernel_rfl⟩ rfl (hand_root (r := 15) (c := storeC v20) (by kernel_rfl) (by kernel_rfl) rfl (.rd (.copy (by kernel_rfl) rfl) (.nil))) rfl (by kernel_rfl))) (cg_then (ds := [93]) 6 rfl (by kernel_rfl) (co_then 7 rfl (os_ge (d := 94) (t := .u (.c (.v (.bool (!r22.2))))) (t' := .u (.c (.v (.bool false)))) (by kernel_rfl) (by rw [hs24])) (cg_then (ds := [95, 96, 97, 98]) 11 rfl (by kernel_rfl) (co_then 12 rfl (os_gy rfl rfl rfl (by kernel_rfl) (c_call (AC.k (IsFree.ac (h := hr25))) ⟨_, Tryd.func19, rfl, by kernel_rfl⟩ rfl (hand_root (r := 10) (c := storeC v19) (by kernel_rfl) (by kernel_rfl) rfl (.rd (.copy (by kernel_rfl) rfl) (.nil))) rfl (by kernel_rfl))) (cg_then (ds := [100]) 13 rfl (by kernel_rfl) (.nil)))))))) rfl (by kernel_rfl) ?_
                  rcases Bool.eq_false_or_eq_true (r25.2) with hb | hb
                  · have h := cond_t hb h
                    refine r_condT hb rfl ?_
                    refine r_seq ?_
                    refine r_reg (l := [(8, .u (.c (.v (.bool false))))]) (cg_then (ds := [8]) 1 rfl (by kernel_rfl) (.nil)) rfl (by kernel_rfl) ?_
                    refine r_ret ?_
                    obtain rfl := Option.some.inj h
                    exact ⟨.inr rfl, _, _, .cons (.copy rfl rfl rfl) (.nil), rfl, outs_of trivial⟩
                  · have h := cond_f hb h
                    refine r_condF hb rfl ?_
                    refine r_skip ?_
                    refine r_reg (l := [(2, .u (.c (.v (.int .i64 r11)))), (3, .u (.c (.v (.int .i64 a3)))), (9, .u (.c (.v (.bool r1)))), (10, .u (.c (storeC r25.1))), (13, .u (.c (.v (.int .i64 r12)))), (14, .u (.c (.sl true 2 (r13.2.map eR)))), (15, .u (.c (storeC r22.1))), (16, .u (.c (.v (.int .i64 r15.2.1)))), (18, .u (.c (.v (.int .i64 (IntKind.i64.wrap (v21 + 1))))))]) (cg_then (ds := [86, 87, 18]) 3 rfl (by kernel_rfl) (.nil)) rfl (by kernel_rfl) ?_
                    exact ⟨(r25.1, r22.1, IntKind.i64.wrap (v21 + 1)), h, of_weak (by kernel_rfl)⟩
              · have h := cond_f hb h
                refine r_condF hb rfl ?_
                refine r_exit ?_
                refine r_seq ?_
                obtain ⟨r26, hr26, h⟩ := bind_some h
                refine r_reg (l := [(2, .u (.c (.v (.int .i64 r11)))), (3, .u (.c (.v (.int .i64 a3)))), (9, .u (.c (.v (.bool r1)))), (10, .u (.c (storeC r26.1))), (14, .u (.c (.sl true 2 (r13.2.map eR)))), (19, .u (.c (.err r26.2)))]) (cg_then (ds := [101, 102, 103]) 3 rfl (by kernel_rfl) (co_then 4 rfl (os_plain rfl rfl (c_call (AC.k (Give.ac (h := hr26))) ⟨_, Tryd.func17, rfl, by kernel_rfl⟩ rfl (hand_root (r := 10) (c := storeC v19) (by kernel_rfl) (by kernel_rfl) rfl (.rd (.copy (by kernel_rfl) rfl) (.rd (.copy (by kernel_rfl) rfl) (.nil)))) rfl (by kernel_rfl))) (cg_then (ds := [19]) 5 rfl (by kernel_rfl) (.nil)))) rfl (by kernel_rfl) ?_
                refine r_seq ?_
                refine r_reg (l := [(2, .u (.c (.v (.int .i64 r11)))), (3, .u (.c (.v (.int .i64 a3)))), (9, .u (.c (.v (.bool r1)))), (10, .u (.c (storeC r26.1))), (14, .u (.c (.sl true 2 (r13.2.map eR)))), (106, .u (.c (.v (.bool (!(r26.2 == none))))))]) (cg_then (ds := [105, 106]) 2 rfl (by kernel_rfl) (.nil)) rfl (by kernel_rfl) ?_
                rcases Bool.eq_false_or_eq_true (!(r26.2 == none)) with hb | hb
                · have h := cond_t hb h
                  refine r_condT hb rfl ?_
                  refine r_seq ?_
                  refine r_reg (l := [(8, .u (.c (.v (.bool false))))]) (cg_then (ds := [8]) 1 rfl (by kernel_rfl) (.nil)) rfl (by kernel_rfl) ?_
                  refine r_ret ?_
                  obtain rfl := Option.some.inj h
                  exact ⟨.inr rfl, _, _, .cons (.copy rfl rfl rfl) (.nil), rfl, outs_of trivial⟩
                · have h := cond_f hb h
                  refine r_condF hb rfl ?_
                  refine r_skip ?_
                  refine r_seq ?_
                  obtain ⟨r27, hr27, h⟩ := bind_some h
                  refine r_reg (l := [(2, .u (.c (.v (.int .i64 r11)))), (3, .u (.c (.v (.int .i64 a3)))), (9, .u (.c (.v (.bool r1)))), (10, .u (.c (storeC r27.1))), (14, .u (.c (.sl true 2 (r13.2.map eR)))), (20, .u (.c (.err r27.2)))]) (cg_then (ds := [107, 108, 109]) 3 rfl (by kernel_rfl) (co_then 4 rfl (os_plain rfl rfl (c_call (ACT.k hT (TakeAt.ac (h := hr27))) ⟨_, Tryd.func20, rfl, by kernel_rfl⟩ rfl (hand_root (r := 10) (c := storeC r26.1) (by kernel_rfl) (by kernel_rfl) rfl (.rd (.copy (by kernel_rfl) rfl) (.rd (.copy (by kernel_rfl) rfl) (.nil)))) rfl (by kernel_rfl))) (cg_then (ds := [20]) 5 rfl (by kernel_rfl) (.nil)))) rfl (by kernel_rfl) ?_
                  refine r_seq ?_
                  refine r_seq ?_
                  refine r_reg (l := [(2, .u (.c (.v (.int .i64 r11)))), (3, .u (.c (.v (.int .i64 a3)))), (9, .u (.c (.v (.bool r1)))), (10, .u (.c (storeC r27.1))), (14, .u (.c (.sl true 2 (r13.2.map eR)))), (112, .u (.c (.v (.bool (r27.2 == none)))))]) (cg_then (ds := [111, 112]) 2 rfl (by kernel_rfl) (.nil)) rfl (by kernel_rfl) ?_
                  rcases Bool.eq_false_or_eq_true (r27.2 == none) with hb | hb
                  · have h := cond_t hb h
                    refine r_condT hb rfl ?_
                    refine r_seq ?_
                    obtain ⟨r28, hr28, h⟩ := bind_some h
                    refine r_reg (l := [(9, .u (.c (.v (.bool r1)))), (10, .u (.c (storeC r28.1))), (14, .u (.c (.sl true 2 (r13.2.map eR)))), (21, .u (.c (.err r28.2)))]) (cg_then (ds := [113, 114, 115]) 3 rfl (by kernel_rfl) (co_then 4 rfl (os_plain rfl rfl (c_call (AC.k (Give.ac (h := hr28))) ⟨_, Tryd.func17, rfl, by kernel_rfl⟩ rfl (hand_root (r := 10) (c := storeC r27.1) (by kernel_rfl) (by kernel_rfl) rfl (.rd (.copy (by kernel_rfl) rfl) (.rd (.copy (by kernel_rfl) rfl) (.nil)))) rfl (by kernel_rfl))) (cg_then (ds := [21]) 5 rfl (by kernel_rfl) (.nil)))) rfl (by kernel_rfl) ?_
                    refine r_seq ?_
                    refine r_reg (l := [(9, .u (.c (.v (.bool r1)))), (10, .u (.c (storeC r28.1))), (14, .u (.c (.sl true 2 (r13.2.map eR)))), (118, .u (.c (.v (.bool (!(r28.2 == none))))))]) (cg_then (ds := [117, 118]) 2 rfl (by kernel_rfl) (.nil)) rfl (by kernel_rfl) ?_
                    rcases Bool.eq_false_or_eq_true (!(r28.2 == none)) with hb | hb
                    · have h := cond_t hb h
                      refine r_condT hb rfl ?_
                      refine r_seq ?_
                      refine r_reg (l := [(8, .u (.c (.v (.bool false))))]) (cg_then (ds := [8]) 1 rfl (by kernel_rfl) (.nil)) rfl (by kernel_rfl) ?_
                      refine r_ret ?_
                      obtain rfl := Option.some.inj h
                      exact ⟨.inr rfl, _, _, .cons (.copy rfl rfl rfl) (.nil), rfl, outs_of trivial⟩
                    · have h := cond_f hb h
                      refine r_condF hb rfl ?_
                      refine r_skip ?_
                      refine r_seq ?_
                      obtain ⟨r29, hr29, h⟩ := bind_some h
                      refine r_reg (l := [(9, .u (.c (.v (.bool r1)))), (14, .u (.c (.sl true 2 (r13.2.map eR)))), (22, .u (.c (.sl true 2 (r29.2.map eR))))]) (co_then 1 rfl (os_plain rfl rfl (s_take (u := .c (storeC r28.1)) (.inl rfl) (.move (by kernel_rfl) rfl) rfl (by kernel_rfl))) (co_then 2 rfl (os_plain rfl rfl (c_call (AC.k (Free.ac (h := hr29))) ⟨_, Tryd.func12, rfl, by kernel_rfl⟩ rfl (hand_root (r := 119) (c := storeC r28.1) (by kernel_rfl) (by kernel_rfl) rfl (.nil)) rfl (by kernel_rfl))) (co_then 3 rfl (os_plain rfl rfl (s_take (u := .c (.sl true 2 (r29.2.map eR))) (.inr rfl) (.move (by kernel_rfl) rfl) rfl (by kernel_rfl))) (.nil)))) rfl (by kernel_rfl) ?_
                      refine r_seq ?_
                      refine r_seq ?_
                      refine r_reg (l := [(9, .u (.c (.v (.bool r1)))), (14, .u (.c (.sl true 2 (r13.2.map eR)))), (22, .u (.c (.sl true 2 (r29.2.map eR)))), (125, .u (.c (.v (.bool ((r29.2.length : Int) != (r13.2.length : Int))))))]) (cg_then (ds := [121]) 1 rfl (by kernel_rfl) (co_then 2 rfl (os_to (os_plain rfl rfl (s_lenV (r := 22) (lo := 0) (n := (r29.2.map eR).length) (pl := none) (sz := 2) rfl sl30 (by kernel_rfl) rfl (by kernel_rfl))) (t' := .u (.c (.v (.int .i64 (r29.2.length : Int))))) (by rw [List.length_map])) (cg_then (ds := [123]) 3 rfl (by kernel_rfl) (co_then 4 rfl (os_to (os_plain rfl rfl (s_lenV (r := 14) (lo := 0) (n := (r13.2.map eR).length) (pl := none) (sz := 2) rfl sl30 (by kernel_rfl) rfl (by kernel_rfl))) (t' := .u (.c (.v (.int .i64 (r13.2.length : Int))))) (by rw [List.length_map])) (cg_then (ds := [125]) 5 rfl (by kernel_rfl) (.nil)))))) rfl (by kernel_rfl) ?_
                      rcases Bool.eq_false_or_eq_true ((r29.2.length : Int) != (r13.2.length : Int)) with hb | hb
                      · have h := cond_t hb h
                        refine r_condT hb rfl ?_
                        refine r_seq ?_
                        refine r_reg (l := [(8, .u (.c (.v (.bool false))))]) (cg_then (ds := [8]) 1 rfl (by kernel_rfl) (.nil)) rfl (by kernel_rfl) ?_
                        refine r_ret ?_
                        obtain rfl := Option.some.inj h
                        exact ⟨.inr rfl, _, _, .cons (.copy rfl rfl rfl) (.nil), rfl, outs_of trivial⟩
                      · have h := cond_f hb h
                        refine r_condF hb rfl ?_
                        refine r_skip ?_
                        refine r_seq ?_
                        refine r_seq ?_
                        refine r_reg (l := [(9, .u (.c (.v (.bool r1)))), (14, .u (.c (.sl true 2 (r13.2.map eR)))), (22, .u (.c (.sl true 2 (r29.2.map eR)))), (23, .u (.c (.v (.int .i64 0))))]) (cg_then (ds := [23]) 1 rfl (by kernel_rfl) (.nil)) rfl (by kernel_rfl) ?_
                        refine r_block ?_
                        refine r_weak (of_weak (l := [(9, .u (.c (.v (.bool r1)))), (14, .u (.c (.sl true 2 (r13.2.map eR)))), (22, .u (.c (.sl true 2 (r29.2.map eR)))), (23, .u (.c (.v (.int .i64 0))))]) (by kernel_rfl)) ?_
                        refine r_loopI (α := Int) (fun x => [(9, .u (.c (.v (.bool r1)))), (14, .u (.c (.sl true 2 (r13.2.map eR)))), (22, .u (.c (.sl true 2 (r29.2.map eR)))), (23, .u (.c (.v (.int .i64 x))))]) (fun n x => BuddyTakes.l3 k a0 a1 a2 a3 r1 r2 r3 y6 r11 r12 r13 r14 r15 v19 v20 v21 r26 r27 r28 r29 n x = some r) k 0 h (by intro x h; unfold BuddyTakes.l3 at h; cases h) ?_
                        rintro n3 v30 h
                        replace h : BuddyTakes.l3 k a0 a1 a2 a3 r1 r2 r3 y6 r11 r12 r13 r14 r15 v19 v20 v21 r26 r27 r28 r29 (n3 + 1) v30 = some r := h
                        unfold BuddyTakes.l3 at h
                        show Run _ _ _ (St.of [(9, .u (.c (.v (.bool r1)))), (14, .u (.c (.sl true 2 (r13.2.map eR)))), (22, .u (.c (.sl true 2 (r29.2.map eR)))), (23, .u (.c (.v (.int .i64 v30))))]) _
                        refine r_seq ?_
                        refine r_seq ?_
                        refine r_reg (l := [(9, .u (.c (.v (.bool r1)))), (14, .u (.c (.sl true 2 (r13.2.map eR)))), (22, .u (.c (.sl true 2 (r29.2.map eR)))), (23, .u (.c (.v (.int .i64 v30)))), (129, .u (.c (.v (.bool (decide (v30 < (r29.2.length : Int)))))))]) (cg_then (ds := [126, 127]) 2 rfl (by kernel_rfl) (co_then 3 rfl (os_to (os_plain rfl rfl (s_lenV (r := 22) (lo := 0) (n := (r29.2.map eR).length) (pl := none) (sz := 2) rfl sl30 (by kernel_rfl) rfl (by kernel_rfl))) (t' := .u (.c (.v (.int .i64 (r29.2.length : Int))))) (by rw [List.length_map])) (cg_then (ds := [129]) 4 rfl (by kernel_rfl) (.nil)))) rfl (by kernel_rfl) ?_
                        rcases Bool.eq_false_or_eq_true (decide (v30 < (r29.2.length : Int))) with hb | hb
                        · have h := cond_t hb h
                          refine r_condT hb rfl ?_
                          refine r_skip ?_
                          refine r_seq ?_
                          refine r_block ?_
                          refine r_seq ?_
                          obtain ⟨hg31, h⟩ := guard_some h
                          simp only [Bool.and_eq_true, decide_eq_true_eq] at hg31
                          obtain ⟨hg32, h⟩ := guard_some h
                          simp only [Bool.and_eq_true, decide_eq_true_eq] at hg32
                          refine r_weak (of_weak (l := [(9, .u (.c (.v (.bool r1)))), (14, .u (.c (.sl true 2 (r13.2.map eR)))), (22, .u (.c (.sl true 2 (r29.2.map eR)))), (23, .u (.c (.v (.int .i64 v30)))), (129, .u (.c (.v (.bool (decide (v30 < (r29.2.length : Int)))))))]) (by kernel_rfl)) ?_
                          refine r_anyW (l := [(9, .u (.c (.v (.bool r1)))), (14, .u (.c (.sl true 2 (r13.2.map eR)))), (22, .u (.c (.sl true 2 (r29.2.map eR)))), (23, .u (.c (.v (.int .i64 v30)))), (140, .u (.c (.v (.bool (!(((r29.2.getD ((v30).toNat) zR).f) == ((r13.2.getD ((v30).toNat) zR).f) && (((r29.2.getD ((v30).toNat) zR).o) == ((r13.2.getD ((v30).toNat) zR).o))))))))]) (tab := [[], [], [0, 1], [2], [], [], [4, 5], [6], [3, 7]]) [⟨[], [22], [(132, .whole 22 none 2 ((r29.2.map eR).length))], some 132, false⟩, ⟨[], [23], [(133, .u (.c (.v (.int .i64 v30))))], some 133, false⟩, ⟨[0, 1], [22, 132, 133], [(134, .addr 22 (.i ((v30).toNat) 2) [] 0)], some 134, false⟩, ⟨[0, 1, 2], [22, 134], [(135, .u (.agg [.v (.int .i64 ((r29.2.getD ((v30).toNat) zR).f)), .v (.int .i64 ((r29.2.getD ((v30).toNat) zR).o))]))], some 135, false⟩, ⟨[], [14], [(136, .whole 14 none 2 ((r13.2.map eR).length))], some 136, false⟩, ⟨[], [23], [(137, .u (.c (.v (.int .i64 v30))))], some 137, false⟩, ⟨[4, 5], [14, 136, 137], [(138, .addr 14 (.i ((v30).toNat) 2) [] 0)], some 138, false⟩, ⟨[4, 5, 6], [14, 138], [(139, .u (.agg [.v (.int .i64 ((r13.2.getD ((v30).toNat) zR).f)), .v (.int .i64 ((r13.2.getD ((v30).toNat) zR).o))]))], some 139, false⟩, ⟨[0, 1, 2, 3, 4, 5, 6, 7], [135, 139], [(140, .u (.c (.v (.bool (!(((r29.2.getD ((v30).toNat) zR).f) == ((r13.2.getD ((v30).toNat) zR).f) && (((r29.2.getD ((v30).toNat) zR).o) == ((r13.2.getD ((v30).toNat) zR).o))))))))], some 140, false⟩] hm (by kernel_rfl) (by kernel_rfl) (by kernel_rfl) (.cons (fun σ hc => e_g (d := 132) (t := .whole 22 none 2 ((r29.2.map eR).length)) hc rfl rfl (by kernel_rfl)) (.cons (fun σ hc => e_g (d := 133) (t := .u (.c (.v (.int .i64 v30)))) hc rfl rfl (by kernel_rfl)) (.cons (fun σ hc => e_put hc rfl rfl (os_plain rfl rfl (s_indexV (r := 22) (lo := 0) (n := (r29.2.map eR).length) (pl := none) (sz := 2) (e := v30) (ik := .i64) (k := (v30).toNat) rfl sl30 (by kernel_rfl) (.tmp (by kernel_rfl)) hg31.1 (by rw [List.length_map]; exact hg31.2) (Nat.zero_add _) rfl (by kernel_rfl) (by kernel_rfl)))) (.cons (fun σ hc => e_put hc rfl rfl (os_plain rfl rfl (s_loadA (n := 2) (xs := [.v (.int .i64 ((r29.2.getD ((v30).toNat) zR).f)), .v (.int .i64 ((r29.2.getD ((v30).toNat) zR).o))]) (r := 22) (off := 0) (s := .i ((v30).toNat) 2) (p := []) (c := .sl true 2 (r29.2.map eR)) (cs := eR (r29.2.getD ((v30).toNat) zR)) rfl (aggB_ok (by kernel_rfl)) (by kernel_rfl) (by kernel_rfl) (getP_map zR (by have := hg31; omega)) rfl rfl rfl rfl (by kernel_rfl)))) (.cons (fun σ hc => e_g (d := 136) (t := .whole 14 none 2 ((r13.2.map eR).length)) hc rfl rfl (by kernel_rfl)) (.cons (fun σ hc => e_g (d := 137) (t := .u (.c (.v (.int .i64 v30)))) hc rfl rfl (by kernel_rfl)) (.cons (fun σ hc => e_put hc rfl rfl (os_plain rfl rfl (s_indexV (r := 14) (lo := 0) (n := (r13.2.map eR).length) (pl := none) (sz := 2) (e := v30) (ik := .i64) (k := (v30).toNat) rfl sl30 (by kernel_rfl) (.tmp (by kernel_rfl)) hg32.1 (by rw [List.length_map]; exact hg32.2) (Nat.zero_add _) rfl (by kernel_rfl) (by kernel_rfl)))) (.cons (fun σ hc => e_put hc rfl rfl (os_plain rfl rfl (s_loadA (n := 2) (xs := [.v (.int .i64 ((r13.2.getD ((v30).toNat) zR).f)), .v (.int .i64 ((r13.2.getD ((v30).toNat) zR).o))]) (r := 14) (off := 0) (s := .i ((v30).toNat) 2) (p := []) (c := .sl true 2 (r13.2.map eR)) (cs := eR (r13.2.getD ((v30).toNat) zR)) rfl (aggB_ok (by kernel_rfl)) (by kernel_rfl) (by kernel_rfl) (getP_map zR (by have := hg32; omega)) rfl rfl rfl rfl (by kernel_rfl)))) (.cons (fun σ hc => e_put hc rfl rfl (os_plain rfl rfl (s_eqA (b := ((r29.2.getD ((v30).toNat) zR).f) == ((r13.2.getD ((v30).toNat) zR).f) && (((r29.2.getD ((v30).toNat) zR).o) == ((r13.2.getD ((v30).toNat) zR).o))) rfl (.inr rfl) eqAgg33 (by kernel_rfl) rfl rfl rfl rfl rfl rfl (by kernel_rfl)))) (.nil)))))))))) (by kernel_rfl) ?_
                          rcases Bool.eq_false_or_eq_true (!(((r29.2.getD ((v30).toNat) zR).f) == ((r13.2.getD ((v30).toNat) zR).f) && (((r29.2.getD ((v30).toNat) zR).o) == ((r13.2.getD ((v30).toNat) zR).o)))) with hb | hb
                          · have h := cond_t hb h
                            refine r_condT hb rfl ?_
                            refine r_seq ?_
                            refine r_reg (l := [(8, .u (.c (.v (.bool false))))]) (cg_then (ds := [8]) 1 rfl (by kernel_rfl) (.nil)) rfl (by kernel_rfl) ?_
                            refine r_ret ?_
                            obtain rfl := Option.some.inj h
                            exact ⟨.inr rfl, _, _, .cons (.copy rfl rfl rfl) (.nil), rfl, outs_of trivial⟩
                          · have h := cond_f hb h
                            refine r_condF hb rfl ?_
                            refine r_skip ?_
                            refine r_reg (l := [(9, .u (.c (.v (.bool r1)))), (14, .u (.c (.sl true 2 (r13.2.map eR)))), (22, .u (.c (.sl true 2 (r29.2.map eR)))), (23, .u (.c (.v (.int .i64 (IntKind.i64.wrap (v30 + 1))))))]) (cg_then (ds := [130, 131, 23]) 3 rfl (by kernel_rfl) (.nil)) rfl (by kernel_rfl) ?_
                            exact ⟨IntKind.i64.wrap (v30 + 1), h, of_weak (by kernel_rfl)⟩
                        · have h := cond_f hb h
                          refine r_condF hb rfl ?_
                          refine r_exit ?_
                          refine r_seq ?_
                          refine r_reg (l := [(8, .u (.c (.v (.bool r1))))]) (cg_then (ds := [141, 8]) 2 rfl (by kernel_rfl) (.nil)) rfl (by kernel_rfl) ?_
                          refine r_ret ?_
                          obtain rfl := Option.some.inj h
                          exact ⟨.inr rfl, _, _, .cons (.copy rfl rfl rfl) (.nil), rfl, outs_of trivial⟩
                  · have h := cond_f hb h
                    refine r_condF hb rfl ?_
                    refine r_skip ?_
                    refine r_seq ?_
                    obtain ⟨r33, hr33, h⟩ := bind_some h
                    refine r_reg (l := [(9, .u (.c (.v (.bool r1)))), (14, .u (.c (.sl true 2 (r13.2.map eR)))), (22, .u (.c (.sl true 2 (r33.2.map eR))))]) (co_then 1 rfl (os_plain rfl rfl (s_take (u := .c (storeC r27.1)) (.inl rfl) (.move (by kernel_rfl) rfl) rfl (by kernel_rfl))) (co_then 2 rfl (os_plain rfl rfl (c_call (AC.k (Free.ac (h := hr33))) ⟨_, Tryd.func12, rfl, by kernel_rfl⟩ rfl (hand_root (r := 119) (c := storeC r27.1) (by kernel_rfl) (by kernel_rfl) rfl (.nil)) rfl (by kernel_rfl))) (co_then 3 rfl (os_plain rfl rfl (s_take (u := .c (.sl true 2 (r33.2.map eR))) (.inr rfl) (.move (by kernel_rfl) rfl) rfl (by kernel_rfl))) (.nil)))) rfl (by kernel_rfl) ?_
                    refine r_seq ?_
                    refine r_seq ?_
                    refine r_reg (l := [(9, .u (.c (.v (.bool r1)))), (14, .u (.c (.sl true 2 (r13.2.map eR)))), (22, .u (.c (.sl true 2 (r33.2.map eR)))), (125, .u (.c (.v (.bool ((r33.2.length : Int) != (r13.2.length : Int))))))]) (cg_then (ds := [121]) 1 rfl (by kernel_rfl) (co_then 2 rfl (os_to (os_plain rfl rfl (s_lenV (r := 22) (lo := 0) (n := (r33.2.map eR).length) (pl := none) (sz := 2) rfl sl30 (by kernel_rfl) rfl (by kernel_rfl))) (t' := .u (.c (.v (.int .i64 (r33.2.length : Int))))) (by rw [List.length_map])) (cg_then (ds := [123]) 3 rfl (by kernel_rfl) (co_then 4 rfl (os_to (os_plain rfl rfl (s_lenV (r := 14) (lo := 0) (n := (r13.2.map eR).length) (pl := none) (sz := 2) rfl sl30 (by kernel_rfl) rfl (by kernel_rfl))) (t' := .u (.c (.v (.int .i64 (r13.2.length : Int))))) (by rw [List.length_map])) (cg_then (ds := [125]) 5 rfl (by kernel_rfl) (.nil)))))) rfl (by kernel_rfl) ?_
                    rcases Bool.eq_false_or_eq_true ((r33.2.length : Int) != (r13.2.length : Int)) with hb | hb
                    · have h := cond_t hb h
                      refine r_condT hb rfl ?_
                      refine r_seq ?_
                      refine r_reg (l := [(8, .u (.c (.v (.bool false))))]) (cg_then (ds := [8]) 1 rfl (by kernel_rfl) (.nil)) rfl (by kernel_rfl) ?_
                      refine r_ret ?_
                      obtain rfl := Option.some.inj h
                      exact ⟨.inr rfl, _, _, .cons (.copy rfl rfl rfl) (.nil), rfl, outs_of trivial⟩
                    · have h := cond_f hb h
                      refine r_condF hb rfl ?_
                      refine r_skip ?_
                      refine r_seq ?_
                      refine r_seq ?_
                      refine r_reg (l := [(9, .u (.c (.v (.bool r1)))), (14, .u (.c (.sl true 2 (r13.2.map eR)))), (22, .u (.c (.sl true 2 (r33.2.map eR)))), (23, .u (.c (.v (.int .i64 0))))]) (cg_then (ds := [23]) 1 rfl (by kernel_rfl) (.nil)) rfl (by kernel_rfl) ?_
                      refine r_block ?_
                      refine r_weak (of_weak (l := [(9, .u (.c (.v (.bool r1)))), (14, .u (.c (.sl true 2 (r13.2.map eR)))), (22, .u (.c (.sl true 2 (r33.2.map eR)))), (23, .u (.c (.v (.int .i64 0))))]) (by kernel_rfl)) ?_
                      refine r_loopI (α := Int) (fun x => [(9, .u (.c (.v (.bool r1)))), (14, .u (.c (.sl true 2 (r13.2.map eR)))), (22, .u (.c (.sl true 2 (r33.2.map eR)))), (23, .u (.c (.v (.int .i64 x))))]) (fun n x => BuddyTakes.l4 k a0 a1 a2 a3 r1 r2 r3 y6 r11 r12 r13 r14 r15 v19 v20 v21 r26 r27 r33 n x = some r) k 0 h (by intro x h; unfold BuddyTakes.l4 at h; cases h) ?_
                      rintro n4 v34 h
                      replace h : BuddyTakes.l4 k a0 a1 a2 a3 r1 r2 r3 y6 r11 r12 r13 r14 r15 v19 v20 v21 r26 r27 r33 (n4 + 1) v34 = some r := h
                      unfold BuddyTakes.l4 at h
                      show Run _ _ _ (St.of [(9, .u (.c (.v (.bool r1)))), (14, .u (.c (.sl true 2 (r13.2.map eR)))), (22, .u (.c (.sl true 2 (r33.2.map eR)))), (23, .u (.c (.v (.int .i64 v34))))]) _
                      refine r_seq ?_
                      refine r_seq ?_
                      refine r_reg (l := [(9, .u (.c (.v (.bool r1)))), (14, .u (.c (.sl true 2 (r13.2.map eR)))), (22, .u (.c (.sl true 2 (r33.2.map eR)))), (23, .u (.c (.v (.int .i64 v34)))), (129, .u (.c (.v (.bool (decide (v34 < (r33.2.length : Int)))))))]) (cg_then (ds := [126, 127]) 2 rfl (by kernel_rfl) (co_then 3 rfl (os_to (os_plain rfl rfl (s_lenV (r := 22) (lo := 0) (n := (r33.2.map eR).length) (pl := none) (sz := 2) rfl sl30 (by kernel_rfl) rfl (by kernel_rfl))) (t' := .u (.c (.v (.int .i64 (r33.2.length : Int))))) (by rw [List.length_map])) (cg_then (ds := [129]) 4 rfl (by kernel_rfl) (.nil)))) rfl (by kernel_rfl) ?_
                      rcases Bool.eq_false_or_eq_true (decide (v34 < (r33.2.length : Int))) with hb | hb
                      · have h := cond_t hb h
                        refine r_condT hb rfl ?_
                        refine r_skip ?_
                        refine r_seq ?_
                        refine r_block ?_
                        refine r_seq ?_
                        obtain ⟨hg35, h⟩ := guard_some h
                        simp only [Bool.and_eq_true, decide_eq_true_eq] at hg35
                        obtain ⟨hg36, h⟩ := guard_some h
                        simp only [Bool.and_eq_true, decide_eq_true_eq] at hg36
                        refine r_weak (of_weak (l := [(9, .u (.c (.v (.bool r1)))), (14, .u (.c (.sl true 2 (r13.2.map eR)))), (22, .u (.c (.sl true 2 (r33.2.map eR)))), (23, .u (.c (.v (.int .i64 v34)))), (129, .u (.c (.v (.bool (decide (v34 < (r33.2.length : Int)))))))]) (by kernel_rfl)) ?_
                        refine r_anyW (l := [(9, .u (.c (.v (.bool r1)))), (14, .u (.c (.sl true 2 (r13.2.map eR)))), (22, .u (.c (.sl true 2 (r33.2.map eR)))), (23, .u (.c (.v (.int .i64 v34)))), (140, .u (.c (.v (.bool (!(((r33.2.getD ((v34).toNat) zR).f) == ((r13.2.getD ((v34).toNat) zR).f) && (((r33.2.getD ((v34).toNat) zR).o) == ((r13.2.getD ((v34).toNat) zR).o))))))))]) (tab := [[], [], [0, 1], [2], [], [], [4, 5], [6], [3, 7]]) [⟨[], [22], [(132, .whole 22 none 2 ((r33.2.map eR).length))], some 132, false⟩, ⟨[], [23], [(133, .u (.c (.v (.int .i64 v34))))], some 133, false⟩, ⟨[0, 1], [22, 132, 133], [(134, .addr 22 (.i ((v34).toNat) 2) [] 0)], some 134, false⟩, ⟨[0, 1, 2], [22, 134], [(135, .u (.agg [.v (.int .i64 ((r33.2.getD ((v34).toNat) zR).f)), .v (.int .i64 ((r33.2.getD ((v34).toNat) zR).o))]))], some 135, false⟩, ⟨[], [14], [(136, .whole 14 none 2 ((r13.2.map eR).length))], some 136, false⟩, ⟨[], [23], [(137, .u (.c (.v (.int .i64 v34))))], some 137, false⟩, ⟨[4, 5], [14, 136, 137], [(138, .addr 14 (.i ((v34).toNat) 2) [] 0)], some 138, false⟩, ⟨[4, 5, 6], [14, 138], [(139, .u (.agg [.v (.int .i64 ((r13.2.getD ((v34).toNat) zR).f)), .v (.int .i64 ((r13.2.getD ((v34).toNat) zR).o))]))], some 139, false⟩, ⟨[0, 1, 2, 3, 4, 5, 6, 7], [135, 139], [(140, .u (.c (.v (.bool (!(((r33.2.getD ((v34).toNat) zR).f) == ((r13.2.getD ((v34).toNat) zR).f) && (((r33.2.getD ((v34).toNat) zR).o) == ((r13.2.getD ((v34).toNat) zR).o))))))))], some 140, false⟩] hm (by kernel_rfl) (by kernel_rfl) (by kernel_rfl) (.cons (fun σ hc => e_g (d := 132) (t := .whole 22 none 2 ((r33.2.map eR).length)) hc rfl rfl (by kernel_rfl)) (.cons (fun σ hc => e_g (d := 133) (t := .u (.c (.v (.int .i64 v34)))) hc rfl rfl (by kernel_rfl)) (.cons (fun σ hc => e_put hc rfl rfl (os_plain rfl rfl (s_indexV (r := 22) (lo := 0) (n := (r33.2.map eR).length) (pl := none) (sz := 2) (e := v34) (ik := .i64) (k := (v34).toNat) rfl sl30 (by kernel_rfl) (.tmp (by kernel_rfl)) hg35.1 (by rw [List.length_map]; exact hg35.2) (Nat.zero_add _) rfl (by kernel_rfl) (by kernel_rfl)))) (.cons (fun σ hc => e_put hc rfl rfl (os_plain rfl rfl (s_loadA (n := 2) (xs := [.v (.int .i64 ((r33.2.getD ((v34).toNat) zR).f)), .v (.int .i64 ((r33.2.getD ((v34).toNat) zR).o))]) (r := 22) (off := 0) (s := .i ((v34).toNat) 2) (p := []) (c := .sl true 2 (r33.2.map eR)) (cs := eR (r33.2.getD ((v34).toNat) zR)) rfl (aggB_ok (by kernel_rfl)) (by kernel_rfl) (by kernel_rfl) (getP_map zR (by have := hg35; omega)) rfl rfl rfl rfl (by kernel_rfl)))) (.cons (fun σ hc => e_g (d := 136) (t := .whole 14 none 2 ((r13.2.map eR).length)) hc rfl rfl (by kernel_rfl)) (.cons (fun σ hc => e_g (d := 137) (t := .u (.c (.v (.int .i64 v34)))) hc rfl rfl (by kernel_rfl)) (.cons (fun σ hc => e_put hc rfl rfl (os_plain rfl rfl (s_indexV (r := 14) (lo := 0) (n := (r13.2.map eR).length) (pl := none) (sz := 2) (e := v34) (ik := .i64) (k := (v34).toNat) rfl sl30 (by kernel_rfl) (.tmp (by kernel_rfl)) hg36.1 (by rw [List.length_map]; exact hg36.2) (Nat.zero_add _) rfl (by kernel_rfl) (by kernel_rfl)))) (.cons (fun σ hc => e_put hc rfl rfl (os_plain rfl rfl (s_loadA (n := 2) (xs := [.v (.int .i64 ((r13.2.getD ((v34).toNat) zR).f)), .v (.int .i64 ((r13.2.getD ((v34).toNat) zR).o))]) (r := 14) (off := 0) (s := .i ((v34).toNat) 2) (p := []) (c := .sl true 2 (r13.2.map eR)) (cs := eR (r13.2.getD ((v34).toNat) zR)) rfl (aggB_ok (by kernel_rfl)) (by kernel_rfl) (by kernel_rfl) (getP_map zR (by have := hg36; omega)) rfl rfl rfl rfl (by kernel_rfl)))) (.cons (fun σ hc => e_put hc rfl rfl (os_plain rfl rfl (s_eqA (b := ((r33.2.getD ((v34).toNat) zR).f) == ((r13.2.getD ((v34).toNat) zR).f) && (((r33.2.getD ((v34).toNat) zR).o) == ((r13.2.getD ((v34).toNat) zR).o))) rfl (.inr rfl) eqAgg33 (by kernel_rfl) rfl rfl rfl rfl rfl rfl (by kernel_rfl)))) (.nil)))))))))) (by kernel_rfl) ?_
                        rcases Bool.eq_false_or_eq_true (!(((r33.2.getD ((v34).toNat) zR).f) == ((r13.2.getD ((v34).toNat) zR).f) && (((r33.2.getD ((v34).toNat) zR).o) == ((r13.2.getD ((v34).toNat) zR).o)))) with hb | hb
                        · have h := cond_t hb h
                          refine r_condT hb rfl ?_
                          refine r_seq ?_
                          refine r_reg (l := [(8, .u (.c (.v (.bool false))))]) (cg_then (ds := [8]) 1 rfl (by kernel_rfl) (.nil)) rfl (by kernel_rfl) ?_
                          refine r_ret ?_
                          obtain rfl := Option.some.inj h
                          exact ⟨.inr rfl, _, _, .cons (.copy rfl rfl rfl) (.nil), rfl, outs_of trivial⟩
                        · have h := cond_f hb h
                          refine r_condF hb rfl ?_
                          refine r_skip ?_
                          refine r_reg (l := [(9, .u (.c (.v (.bool r1)))), (14, .u (.c (.sl true 2 (r13.2.map eR)))), (22, .u (.c (.sl true 2 (r33.2.map eR)))), (23, .u (.c (.v (.int .i64 (IntKind.i64.wrap (v34 + 1))))))]) (cg_then (ds := [130, 131, 23]) 3 rfl (by kernel_rfl) (.nil)) rfl (by kernel_rfl) ?_
                          exact ⟨IntKind.i64.wrap (v34 + 1), h, of_weak (by kernel_rfl)⟩
                      · have h := cond_f hb h
                        refine r_condF hb rfl ?_
                        refine r_exit ?_
                        refine r_seq ?_
                        refine r_reg (l := [(8, .u (.c (.v (.bool r1))))]) (cg_then (ds := [141, 8]) 2 rfl (by kernel_rfl) (.nil)) rfl (by kernel_rfl) ?_
                        refine r_ret ?_
                        obtain rfl := Option.some.inj h
                        exact ⟨.inr rfl, _, _, .cons (.copy rfl rfl rfl) (.nil), rfl, outs_of trivial⟩
        · have h := cond_f hb h
          refine r_condF hb rfl ?_
          refine r_skip ?_
          refine r_seq ?_
          obtain ⟨r37, hr37, h⟩ := bind_some h
          refine r_reg (l := [(2, .u (.c (.v (.int .i64 r11)))), (3, .u (.c (.v (.int .i64 a3)))), (9, .u (.c (.v (.bool r1)))), (10, .u (.c (storeC r37.1))), (14, .u (.c (.sl true 2 (r13.2.map eR)))), (20, .u (.c (.err r37.2)))]) (cg_then (ds := [107, 108, 109]) 3 rfl (by kernel_rfl) (co_then 4 rfl (os_plain rfl rfl (c_call (ACT.k hT (TakeAt.ac (h := hr37))) ⟨_, Tryd.func20, rfl, by kernel_rfl⟩ rfl (hand_root (r := 10) (c := storeC r15.1) (by kernel_rfl) (by kernel_rfl) rfl (.rd (.copy (by kernel_rfl) rfl) (.rd (.copy (by kernel_rfl) rfl) (.nil)))) rfl (by kernel_rfl))) (cg_then (ds := [20]) 5 rfl (by kernel_rfl) (.nil)))) rfl (by kernel_rfl) ?_
          refine r_seq ?_
          refine r_seq ?_
          refine r_reg (l := [(2, .u (.c (.v (.int .i64 r11)))), (3, .u (.c (.v (.int .i64 a3)))), (9, .u (.c (.v (.bool r1)))), (10, .u (.c (storeC r37.1))), (14, .u (.c (.sl true 2 (r13.2.map eR)))), (112, .u (.c (.v (.bool (r37.2 == none)))))]) (cg_then (ds := [111, 112]) 2 rfl (by kernel_rfl) (.nil)) rfl (by kernel_rfl) ?_
          rcases Bool.eq_false_or_eq_true (r37.2 == none) with hb | hb
          · have h := cond_t hb h
            refine r_condT hb rfl ?_
            refine r_seq ?_
            obtain ⟨r38, hr38, h⟩ := bind_some h
            refine r_reg (l := [(9, .u (.c (.v (.bool r1)))), (10, .u (.c (storeC r38.1))), (14, .u (.c (.sl true 2 (r13.2.map eR)))), (21, .u (.c (.err r38.2)))]) (cg_then (ds := [113, 114, 115]) 3 rfl (by kernel_rfl) (co_then 4 rfl (os_plain rfl rfl (c_call (AC.k (Give.ac (h := hr38))) ⟨_, Tryd.func17, rfl, by kernel_rfl⟩ rfl (hand_root (r := 10) (c := storeC r37.1) (by kernel_rfl) (by kernel_rfl) rfl (.rd (.copy (by kernel_rfl) rfl) (.rd (.copy (by kernel_rfl) rfl) (.nil)))) rfl (by kernel_rfl))) (cg_then (ds := [21]) 5 rfl (by kernel_rfl) (.nil)))) rfl (by kernel_rfl) ?_
            refine r_seq ?_
            refine r_reg (l := [(9, .u (.c (.v (.bool r1)))), (10, .u (.c (storeC r38.1))), (14, .u (.c (.sl true 2 (r13.2.map eR)))), (118, .u (.c (.v (.bool (!(r38.2 == none))))))]) (cg_then (ds := [117, 118]) 2 rfl (by kernel_rfl) (.nil)) rfl (by kernel_rfl) ?_
            rcases Bool.eq_false_or_eq_true (!(r38.2 == none)) with hb | hb
            · have h := cond_t hb h
              refine r_condT hb rfl ?_
              refine r_seq ?_
              refine r_reg (l := [(8, .u (.c (.v (.bool false))))]) (cg_then (ds := [8]) 1 rfl (by kernel_rfl) (.nil)) rfl (by kernel_rfl) ?_
              refine r_ret ?_
              obtain rfl := Option.some.inj h
              exact ⟨.inr rfl, _, _, .cons (.copy rfl rfl rfl) (.nil), rfl, outs_of trivial⟩
            · have h := cond_f hb h
              refine r_condF hb rfl ?_
              refine r_skip ?_
              refine r_seq ?_
              obtain ⟨r39, hr39, h⟩ := bind_some h
              refine r_reg (l := [(9, .u (.c (.v (.bool r1)))), (14, .u (.c (.sl true 2 (r13.2.map eR)))), (22, .u (.c (.sl true 2 (r39.2.map eR))))]) (co_then 1 rfl (os_plain rfl rfl (s_take (u := .c (storeC r38.1)) (.inl rfl) (.move (by kernel_rfl) rfl) rfl (by kernel_rfl))) (co_then 2 rfl (os_plain rfl rfl (c_call (AC.k (Free.ac (h := hr39))) ⟨_, Tryd.func12, rfl, by kernel_rfl⟩ rfl (hand_root (r := 119) (c := storeC r38.1) (by kernel_rfl) (by kernel_rfl) rfl (.nil)) rfl (by kernel_rfl))) (co_then 3 rfl (os_plain rfl rfl (s_take (u := .c (.sl true 2 (r39.2.map eR))) (.inr rfl) (.move (by kernel_rfl) rfl) rfl (by kernel_rfl))) (.nil)))) rfl (by kernel_rfl) ?_
              refine r_seq ?_
              refine r_seq ?_
              refine r_reg (l := [(9, .u (.c (.v (.bool r1)))), (14, .u (.c (.sl true 2 (r13.2.map eR)))), (22, .u (.c (.sl true 2 (r39.2.map eR)))), (125, .u (.c (.v (.bool ((r39.2.length : Int) != (r13.2.length : Int))))))]) (cg_then (ds := [121]) 1 rfl (by kernel_rfl) (co_then 2 rfl (os_to (os_plain rfl rfl (s_lenV (r := 22) (lo := 0) (n := (r39.2.map eR).length) (pl := none) (sz := 2) rfl sl30 (by kernel_rfl) rfl (by kernel_rfl))) (t' := .u (.c (.v (.int .i64 (r39.2.length : Int))))) (by rw [List.length_map])) (cg_then (ds := [123]) 3 rfl (by kernel_rfl) (co_then 4 rfl (os_to (os_plain rfl rfl (s_lenV (r := 14) (lo := 0) (n := (r13.2.map eR).length) (pl := none) (sz := 2) rfl sl30 (by kernel_rfl) rfl (by kernel_rfl))) (t' := .u (.c (.v (.int .i64 (r13.2.length : Int))))) (by rw [List.length_map])) (cg_then (ds := [125]) 5 rfl (by kernel_rfl) (.nil)))))) rfl (by kernel_rfl) ?_
              rcases Bool.eq_false_or_eq_true ((r39.2.length : Int) != (r13.2.length : Int)) with hb | hb
              · have h := cond_t hb h
                refine r_condT hb rfl ?_
                refine r_seq ?_
                refine r_reg (l := [(8, .u (.c (.v (.bool false))))]) (cg_then (ds := [8]) 1 rfl (by kernel_rfl) (.nil)) rfl (by kernel_rfl) ?_
                refine r_ret ?_
                obtain rfl := Option.some.inj h
                exact ⟨.inr rfl, _, _, .cons (.copy rfl rfl rfl) (.nil), rfl, outs_of trivial⟩
              · have h := cond_f hb h
                refine r_condF hb rfl ?_
                refine r_skip ?_
                refine r_seq ?_
                refine r_seq ?_
                refine r_reg (l := [(9, .u (.c (.v (.bool r1)))), (14, .u (.c (.sl true 2 (r13.2.map eR)))), (22, .u (.c (.sl true 2 (r39.2.map eR)))), (23, .u (.c (.v (.int .i64 0))))]) (cg_then (ds := [23]) 1 rfl (by kernel_rfl) (.nil)) rfl (by kernel_rfl) ?_
                refine r_block ?_
                refine r_weak (of_weak (l := [(9, .u (.c (.v (.bool r1)))), (14, .u (.c (.sl true 2 (r13.2.map eR)))), (22, .u (.c (.sl true 2 (r39.2.map eR)))), (23, .u (.c (.v (.int .i64 0))))]) (by kernel_rfl)) ?_
                refine r_loopI (α := Int) (fun x => [(9, .u (.c (.v (.bool r1)))), (14, .u (.c (.sl true 2 (r13.2.map eR)))), (22, .u (.c (.sl true 2 (r39.2.map eR)))), (23, .u (.c (.v (.int .i64 x))))]) (fun n x => BuddyTakes.l5 k a0 a1 a2 a3 r1 r2 r3 y6 r11 r12 r13 r14 r15 r37 r38 r39 n x = some r) k 0 h (by intro x h; unfold BuddyTakes.l5 at h; cases h) ?_
                rintro n5 v40 h
                replace h : BuddyTakes.l5 k a0 a1 a2 a3 r1 r2 r3 y6 r11 r12 r13 r14 r15 r37 r38 r39 (n5 + 1) v40 = some r := h
                unfold BuddyTakes.l5 at h
                show Run _ _ _ (St.of [(9, .u (.c (.v (.bool r1)))), (14, .u (.c (.sl true 2 (r13.2.map eR)))), (22, .u (.c (.sl true 2 (r39.2.map eR)))), (23, .u (.c (.v (.int .i64 v40))))]) _
                refine r_seq ?_
                refine r_seq ?_
                refine r_reg (l := [(9, .u (.c (.v (.bool r1)))), (14, .u (.c (.sl true 2 (r13.2.map eR)))), (22, .u (.c (.sl true 2 (r39.2.map eR)))), (23, .u (.c (.v (.int .i64 v40)))), (129, .u (.c (.v (.bool (decide (v40 < (r39.2.length : Int)))))))]) (cg_then (ds := [126, 127]) 2 rfl (by kernel_rfl) (co_then 3 rfl (os_to (os_plain rfl rfl (s_lenV (r := 22) (lo := 0) (n := (r39.2.map eR).length) (pl := none) (sz := 2) rfl sl30 (by kernel_rfl) rfl (by kernel_rfl))) (t' := .u (.c (.v (.int .i64 (r39.2.length : Int))))) (by rw [List.length_map])) (cg_then (ds := [129]) 4 rfl (by kernel_rfl) (.nil)))) rfl (by kernel_rfl) ?_
                rcases Bool.eq_false_or_eq_true (decide (v40 < (r39.2.length : Int))) with hb | hb
                · have h := cond_t hb h
                  refine r_condT hb rfl ?_
                  refine r_skip ?_
                  refine r_seq ?_
                  refine r_block ?_
                  refine r_seq ?_
                  obtain ⟨hg41, h⟩ := guard_some h
                  simp only [Bool.and_eq_true, decide_eq_true_eq] at hg41
                  obtain ⟨hg42, h⟩ := guard_some h
                  simp only [Bool.and_eq_true, decide_eq_true_eq] at hg42
                  refine r_weak (of_weak (l := [(9, .u (.c (.v (.bool r1)))), (14, .u (.c (.sl true 2 (r13.2.map eR)))), (22, .u (.c (.sl true 2 (r39.2.map eR)))), (23, .u (.c (.v (.int .i64 v40)))), (129, .u (.c (.v (.bool (decide (v40 < (r39.2.length : Int)))))))]) (by kernel_rfl)) ?_
                  refine r_anyW (l := [(9, .u (.c (.v (.bool r1)))), (14, .u (.c (.sl true 2 (r13.2.map eR)))), (22, .u (.c (.sl true 2 (r39.2.map eR)))), (23, .u (.c (.v (.int .i64 v40)))), (140, .u (.c (.v (.bool (!(((r39.2.getD ((v40).toNat) zR).f) == ((r13.2.getD ((v40).toNat) zR).f) && (((r39.2.getD ((v40).toNat) zR).o) == ((r13.2.getD ((v40).toNat) zR).o))))))))]) (tab := [[], [], [0, 1], [2], [], [], [4, 5], [6], [3, 7]]) [⟨[], [22], [(132, .whole 22 none 2 ((r39.2.map eR).length))], some 132, false⟩, ⟨[], [23], [(133, .u (.c (.v (.int .i64 v40))))], some 133, false⟩, ⟨[0, 1], [22, 132, 133], [(134, .addr 22 (.i ((v40).toNat) 2) [] 0)], some 134, false⟩, ⟨[0, 1, 2], [22, 134], [(135, .u (.agg [.v (.int .i64 ((r39.2.getD ((v40).toNat) zR).f)), .v (.int .i64 ((r39.2.getD ((v40).toNat) zR).o))]))], some 135, false⟩, ⟨[], [14], [(136, .whole 14 none 2 ((r13.2.map eR).length))], some 136, false⟩, ⟨[], [23], [(137, .u (.c (.v (.int .i64 v40))))], some 137, false⟩, ⟨[4, 5], [14, 136, 137], [(138, .addr 14 (.i ((v40).toNat) 2) [] 0)], some 138, false⟩, ⟨[4, 5, 6], [14, 138], [(139, .u (.agg [.v (.int .i64 ((r13.2.getD ((v40).toNat) zR).f)), .v (.int .i64 ((r13.2.getD ((v40).toNat) zR).o))]))], some 139, false⟩, ⟨[0, 1, 2, 3, 4, 5, 6, 7], [135, 139], [(140, .u (.c (.v (.bool (!(((r39.2.getD ((v40).toNat) zR).f) == ((r13.2.getD ((v40).toNat) zR).f) && (((r39.2.getD ((v40).toNat) zR).o) == ((r13.2.getD ((v40).toNat) zR).o))))))))], some 140, false⟩] hm (by kernel_rfl) (by kernel_rfl) (by kernel_rfl) (.cons (fun σ hc => e_g (d := 132) (t := .whole 22 none 2 ((r39.2.map eR).length)) hc rfl rfl (by kernel_rfl)) (.cons (fun σ hc => e_g (d := 133) (t := .u (.c (.v (.int .i64 v40)))) hc rfl rfl (by kernel_rfl)) (.cons (fun σ hc => e_put hc rfl rfl (os_plain rfl rfl (s_indexV (r := 22) (lo := 0) (n := (r39.2.map eR).length) (pl := none) (sz := 2) (e := v40) (ik := .i64) (k := (v40).toNat) rfl sl30 (by kernel_rfl) (.tmp (by kernel_rfl)) hg41.1 (by rw [List.length_map]; exact hg41.2) (Nat.zero_add _) rfl (by kernel_rfl) (by kernel_rfl)))) (.cons (fun σ hc => e_put hc rfl rfl (os_plain rfl rfl (s_loadA (n := 2) (xs := [.v (.int .i64 ((r39.2.getD ((v40).toNat) zR).f)), .v (.int .i64 ((r39.2.getD ((v40).toNat) zR).o))]) (r := 22) (off := 0) (s := .i ((v40).toNat) 2) (p := []) (c := .sl true 2 (r39.2.map eR)) (cs := eR (r39.2.getD ((v40).toNat) zR)) rfl (aggB_ok (by kernel_rfl)) (by kernel_rfl) (by kernel_rfl) (getP_map zR (by have := hg41; omega)) rfl rfl rfl rfl (by kernel_rfl)))) (.cons (fun σ hc => e_g (d := 136) (t := .whole 14 none 2 ((r13.2.map eR).length)) hc rfl rfl (by kernel_rfl)) (.cons (fun σ hc => e_g (d := 137) (t := .u (.c (.v (.int .i64 v40)))) hc rfl rfl (by kernel_rfl)) (.cons (fun σ hc => e_put hc rfl rfl (os_plain rfl rfl (s_indexV (r := 14) (lo := 0) (n := (r13.2.map eR).length) (pl := none) (sz := 2) (e := v40) (ik := .i64) (k := (v40).toNat) rfl sl30 (by kernel_rfl) (.tmp (by kernel_rfl)) hg42.1 (by rw [List.length_map]; exact hg42.2) (Nat.zero_add _) rfl (by kernel_rfl) (by kernel_rfl)))) (.cons (fun σ hc => e_put hc rfl rfl (os_plain rfl rfl (s_loadA (n := 2) (xs := [.v (.int .i64 ((r13.2.getD ((v40).toNat) zR).f)), .v (.int .i64 ((r13.2.getD ((v40).toNat) zR).o))]) (r := 14) (off := 0) (s := .i ((v40).toNat) 2) (p := []) (c := .sl true 2 (r13.2.map eR)) (cs := eR (r13.2.getD ((v40).toNat) zR)) rfl (aggB_ok (by kernel_rfl)) (by kernel_rfl) (by kernel_rfl) (getP_map zR (by have := hg42; omega)) rfl rfl rfl rfl (by kernel_rfl)))) (.cons (fun σ hc => e_put hc rfl rfl (os_plain rfl rfl (s_eqA (b := ((r39.2.getD ((v40).toNat) zR).f) == ((r13.2.getD ((v40).toNat) zR).f) && (((r39.2.getD ((v40).toNat) zR).o) == ((r13.2.getD ((v40).toNat) zR).o))) rfl (.inr rfl) eqAgg33 (by kernel_rfl) rfl rfl rfl rfl rfl rfl (by kernel_rfl)))) (.nil)))))))))) (by kernel_rfl) ?_
                  rcases Bool.eq_false_or_eq_true (!(((r39.2.getD ((v40).toNat) zR).f) == ((r13.2.getD ((v40).toNat) zR).f) && (((r39.2.getD ((v40).toNat) zR).o) == ((r13.2.getD ((v40).toNat) zR).o)))) with hb | hb
                  · have h := cond_t hb h
                    refine r_condT hb rfl ?_
                    refine r_seq ?_
                    refine r_reg (l := [(8, .u (.c (.v (.bool false))))]) (cg_then (ds := [8]) 1 rfl (by kernel_rfl) (.nil)) rfl (by kernel_rfl) ?_
                    refine r_ret ?_
                    obtain rfl := Option.some.inj h
                    exact ⟨.inr rfl, _, _, .cons (.copy rfl rfl rfl) (.nil), rfl, outs_of trivial⟩
                  · have h := cond_f hb h
                    refine r_condF hb rfl ?_
                    refine r_skip ?_
                    refine r_reg (l := [(9, .u (.c (.v (.bool r1)))), (14, .u (.c (.sl true 2 (r13.2.map eR)))), (22, .u (.c (.sl true 2 (r39.2.map eR)))), (23, .u (.c (.v (.int .i64 (IntKind.i64.wrap (v40 + 1))))))]) (cg_then (ds := [130, 131, 23]) 3 rfl (by kernel_rfl) (.nil)) rfl (by kernel_rfl) ?_
                    exact ⟨IntKind.i64.wrap (v40 + 1), h, of_weak (by kernel_rfl)⟩
                · have h := cond_f hb h
                  refine r_condF hb rfl ?_
                  refine r_exit ?_
                  refine r_seq ?_
                  refine r_reg (l := [(8, .u (.c (.v (.bool r1))))]) (cg_then (ds := [141, 8]) 2 rfl (by kernel_rfl) (.nil)) rfl (by kernel_rfl) ?_
                  refine r_ret ?_
                  obtain rfl := Option.some.inj h
                  exact ⟨.inr rfl, _, _, .cons (.copy rfl rfl rfl) (.nil), rfl, outs_of trivial⟩
          · have h := cond_f hb h
            refine r_condF hb rfl ?_
            refine r_skip ?_
            refine r_seq ?_
            obtain ⟨r43, hr43, h⟩ := bind_some h
            refine r_reg (l := [(9, .u (.c (.v (.bool r1)))), (14, .u (.c (.sl true 2 (r13.2.map eR)))), (22, .u (.c (.sl true 2 (r43.2.map eR))))]) (co_then 1 rfl (os_plain rfl rfl (s_take (u := .c (storeC r37.1)) (.inl rfl) (.move (by kernel_rfl) rfl) rfl (by kernel_rfl))) (co_then 2 rfl (os_plain rfl rfl (c_call (AC.k (Free.ac (h := hr43))) ⟨_, Tryd.func12, rfl, by kernel_rfl⟩ rfl (hand_root (r := 119) (c := storeC r37.1) (by kernel_rfl) (by kernel_rfl) rfl (.nil)) rfl (by kernel_rfl))) (co_then 3 rfl (os_plain rfl rfl (s_take (u := .c (.sl true 2 (r43.2.map eR))) (.inr rfl) (.move (by kernel_rfl) rfl) rfl (by kernel_rfl))) (.nil)))) rfl (by kernel_rfl) ?_
            refine r_seq ?_
            refine r_seq ?_
            refine r_reg (l := [(9, .u (.c (.v (.bool r1)))), (14, .u (.c (.sl true 2 (r13.2.map eR)))), (22, .u (.c (.sl true 2 (r43.2.map eR)))), (125, .u (.c (.v (.bool ((r43.2.length : Int) != (r13.2.length : Int))))))]) (cg_then (ds := [121]) 1 rfl (by kernel_rfl) (co_then 2 rfl (os_to (os_plain rfl rfl (s_lenV (r := 22) (lo := 0) (n := (r43.2.map eR).length) (pl := none) (sz := 2) rfl sl30 (by kernel_rfl) rfl (by kernel_rfl))) (t' := .u (.c (.v (.int .i64 (r43.2.length : Int))))) (by rw [List.length_map])) (cg_then (ds := [123]) 3 rfl (by kernel_rfl) (co_then 4 rfl (os_to (os_plain rfl rfl (s_lenV (r := 14) (lo := 0) (n := (r13.2.map eR).length) (pl := none) (sz := 2) rfl sl30 (by kernel_rfl) rfl (by kernel_rfl))) (t' := .u (.c (.v (.int .i64 (r13.2.length : Int))))) (by rw [List.length_map])) (cg_then (ds := [125]) 5 rfl (by kernel_rfl) (.nil)))))) rfl (by kernel_rfl) ?_
            rcases Bool.eq_false_or_eq_true ((r43.2.length : Int) != (r13.2.length : Int)) with hb | hb
            · have h := cond_t hb h
              refine r_condT hb rfl ?_
              refine r_seq ?_
              refine r_reg (l := [(8, .u (.c (.v (.bool false))))]) (cg_then (ds := [8]) 1 rfl (by kernel_rfl) (.nil)) rfl (by kernel_rfl) ?_
              refine r_ret ?_
              obtain rfl := Option.some.inj h
              exact ⟨.inr rfl, _, _, .cons (.copy rfl rfl rfl) (.nil), rfl, outs_of trivial⟩
            · have h := cond_f hb h
              refine r_condF hb rfl ?_
              refine r_skip ?_
              refine r_seq ?_
              refine r_seq ?_
              refine r_reg (l := [(9, .u (.c (.v (.bool r1)))), (14, .u (.c (.sl true 2 (r13.2.map eR)))), (22, .u (.c (.sl true 2 (r43.2.map eR)))), (23, .u (.c (.v (.int .i64 0))))]) (cg_then (ds := [23]) 1 rfl (by kernel_rfl) (.nil)) rfl (by kernel_rfl) ?_
              refine r_block ?_
              refine r_weak (of_weak (l := [(9, .u (.c (.v (.bool r1)))), (14, .u (.c (.sl true 2 (r13.2.map eR)))), (22, .u (.c (.sl true 2 (r43.2.map eR)))), (23, .u (.c (.v (.int .i64 0))))]) (by kernel_rfl)) ?_
              refine r_loopI (α := Int) (fun x => [(9, .u (.c (.v (.bool r1)))), (14, .u (.c (.sl true 2 (r13.2.map eR)))), (22, .u (.c (.sl true 2 (r43.2.map eR)))), (23, .u (.c (.v (.int .i64 x))))]) (fun n x => BuddyTakes.l6 k a0 a1 a2 a3 r1 r2 r3 y6 r11 r12 r13 r14 r15 r37 r43 n x = some r) k 0 h (by intro x h; unfold BuddyTakes.l6 at h; cases h) ?_
              rintro n6 v44 h
              replace h : BuddyTakes.l6 k a0 a1 a2 a3 r1 r2 r3 y6 r11 r12 r13 r14 r15 r37 r43 (n6 + 1) v44 = some r := h
              unfold BuddyTakes.l6 at h
              show Run _ _ _ (St.of [(9, .u (.c (.v (.bool r1)))), (14, .u (.c (.sl true 2 (r13.2.map eR)))), (22, .u (.c (.sl true 2 (r43.2.map eR)))), (23, .u (.c (.v (.int .i64 v44))))]) _
              refine r_seq ?_
              refine r_seq ?_
              refine r_reg (l := [(9, .u (.c (.v (.bool r1)))), (14, .u (.c (.sl true 2 (r13.2.map eR)))), (22, .u (.c (.sl true 2 (r43.2.map eR)))), (23, .u (.c (.v (.int .i64 v44)))), (129, .u (.c (.v (.bool (decide (v44 < (r43.2.length : Int)))))))]) (cg_then (ds := [126, 127]) 2 rfl (by kernel_rfl) (co_then 3 rfl (os_to (os_plain rfl rfl (s_lenV (r := 22) (lo := 0) (n := (r43.2.map eR).length) (pl := none) (sz := 2) rfl sl30 (by kernel_rfl) rfl (by kernel_rfl))) (t' := .u (.c (.v (.int .i64 (r43.2.length : Int))))) (by rw [List.length_map])) (cg_then (ds := [129]) 4 rfl (by kernel_rfl) (.nil)))) rfl (by kernel_rfl) ?_
              rcases Bool.eq_false_or_eq_true (decide (v44 < (r43.2.length : Int))) with hb | hb
              · have h := cond_t hb h
                refine r_condT hb rfl ?_
                refine r_skip ?_
                refine r_seq ?_
                refine r_block ?_
                refine r_seq ?_
                obtain ⟨hg45, h⟩ := guard_some h
                simp only [Bool.and_eq_true, decide_eq_true_eq] at hg45
                obtain ⟨hg46, h⟩ := guard_some h
                simp only [Bool.and_eq_true, decide_eq_true_eq] at hg46
                refine r_weak (of_weak (l := [(9, .u (.c (.v (.bool r1)))), (14, .u (.c (.sl true 2 (r13.2.map eR)))), (22, .u (.c (.sl true 2 (r43.2.map eR)))), (23, .u (.c (.v (.int .i64 v44)))), (129, .u (.c (.v (.bool (decide (v44 < (r43.2.length : Int)))))))]) (by kernel_rfl)) ?_
                refine r_anyW (l := [(9, .u (.c (.v (.bool r1)))), (14, .u (.c (.sl true 2 (r13.2.map eR)))), (22, .u (.c (.sl true 2 (r43.2.map eR)))), (23, .u (.c (.v (.int .i64 v44)))), (140, .u (.c (.v (.bool (!(((r43.2.getD ((v44).toNat) zR).f) == ((r13.2.getD ((v44).toNat) zR).f) && (((r43.2.getD ((v44).toNat) zR).o) == ((r13.2.getD ((v44).toNat) zR).o))))))))]) (tab := [[], [], [0, 1], [2], [], [], [4, 5], [6], [3, 7]]) [⟨[], [22], [(132, .whole 22 none 2 ((r43.2.map eR).length))], some 132, false⟩, ⟨[], [23], [(133, .u (.c (.v (.int .i64 v44))))], some 133, false⟩, ⟨[0, 1], [22, 132, 133], [(134, .addr 22 (.i ((v44).toNat) 2) [] 0)], some 134, false⟩, ⟨[0, 1, 2], [22, 134], [(135, .u (.agg [.v (.int .i64 ((r43.2.getD ((v44).toNat) zR).f)), .v (.int .i64 ((r43.2.getD ((v44).toNat) zR).o))]))], some 135, false⟩, ⟨[], [14], [(136, .whole 14 none 2 ((r13.2.map eR).length))], some 136, false⟩, ⟨[], [23], [(137, .u (.c (.v (.int .i64 v44))))], some 137, false⟩, ⟨[4, 5], [14, 136, 137], [(138, .addr 14 (.i ((v44).toNat) 2) [] 0)], some 138, false⟩, ⟨[4, 5, 6], [14, 138], [(139, .u (.agg [.v (.int .i64 ((r13.2.getD ((v44).toNat) zR).f)), .v (.int .i64 ((r13.2.getD ((v44).toNat) zR).o))]))], some 139, false⟩, ⟨[0, 1, 2, 3, 4, 5, 6, 7], [135, 139], [(140, .u (.c (.v (.bool (!(((r43.2.getD ((v44).toNat) zR).f) == ((r13.2.getD ((v44).toNat) zR).f) && (((r43.2.getD ((v44).toNat) zR).o) == ((r13.2.getD ((v44).toNat) zR).o))))))))], some 140, false⟩] hm (by kernel_rfl) (by kernel_rfl) (by kernel_rfl) (.cons (fun σ hc => e_g (d := 132) (t := .whole 22 none 2 ((r43.2.map eR).length)) hc rfl rfl (by kernel_rfl)) (.cons (fun σ hc => e_g (d := 133) (t := .u (.c (.v (.int .i64 v44)))) hc rfl rfl (by kernel_rfl)) (.cons (fun σ hc => e_put hc rfl rfl (os_plain rfl rfl (s_indexV (r := 22) (lo := 0) (n := (r43.2.map eR).length) (pl := none) (sz := 2) (e := v44) (ik := .i64) (k := (v44).toNat) rfl sl30 (by kernel_rfl) (.tmp (by kernel_rfl)) hg45.1 (by rw [List.length_map]; exact hg45.2) (Nat.zero_add _) rfl (by kernel_rfl) (by kernel_rfl)))) (.cons (fun σ hc => e_put hc rfl rfl (os_plain rfl rfl (s_loadA (n := 2) (xs := [.v (.int .i64 ((r43.2.getD ((v44).toNat) zR).f)), .v (.int .i64 ((r43.2.getD ((v44).toNat) zR).o))]) (r := 22) (off := 0) (s := .i ((v44).toNat) 2) (p := []) (c := .sl true 2 (r43.2.map eR)) (cs := eR (r43.2.getD ((v44).toNat) zR)) rfl (aggB_ok (by kernel_rfl)) (by kernel_rfl) (by kernel_rfl) (getP_map zR (by have := hg45; omega)) rfl rfl rfl rfl (by kernel_rfl)))) (.cons (fun σ hc => e_g (d := 136) (t := .whole 14 none 2 ((r13.2.map eR).length)) hc rfl rfl (by kernel_rfl)) (.cons (fun σ hc => e_g (d := 137) (t := .u (.c (.v (.int .i64 v44)))) hc rfl rfl (by kernel_rfl)) (.cons (fun σ hc => e_put hc rfl rfl (os_plain rfl rfl (s_indexV (r := 14) (lo := 0) (n := (r13.2.map eR).length) (pl := none) (sz := 2) (e := v44) (ik := .i64) (k := (v44).toNat) rfl sl30 (by kernel_rfl) (.tmp (by kernel_rfl)) hg46.1 (by rw [List.length_map]; exact hg46.2) (Nat.zero_add _) rfl (by kernel_rfl) (by kernel_rfl)))) (.cons (fun σ hc => e_put hc rfl rfl (os_plain rfl rfl (s_loadA (n := 2) (xs := [.v (.int .i64 ((r13.2.getD ((v44).toNat) zR).f)), .v (.int .i64 ((r13.2.getD ((v44).toNat) zR).o))]) (r := 14) (off := 0) (s := .i ((v44).toNat) 2) (p := []) (c := .sl true 2 (r13.2.map eR)) (cs := eR (r13.2.getD ((v44).toNat) zR)) rfl (aggB_ok (by kernel_rfl)) (by kernel_rfl) (by kernel_rfl) (getP_map zR (by have := hg46; omega)) rfl rfl rfl rfl (by kernel_rfl)))) (.cons (fun σ hc => e_put hc rfl rfl (os_plain rfl rfl (s_eqA (b := ((r43.2.getD ((v44).toNat) zR).f) == ((r13.2.getD ((v44).toNat) zR).f) && (((r43.2.getD ((v44).toNat) zR).o) == ((r13.2.getD ((v44).toNat) zR).o))) rfl (.inr rfl) eqAgg33 (by kernel_rfl) rfl rfl rfl rfl rfl rfl (by kernel_rfl)))) (.nil)))))))))) (by kernel_rfl) ?_
                rcases Bool.eq_false_or_eq_true (!(((r43.2.getD ((v44).toNat) zR).f) == ((r13.2.getD ((v44).toNat) zR).f) && (((r43.2.getD ((v44).toNat) zR).o) == ((r13.2.getD ((v44).toNat) zR).o)))) with hb | hb
                · have h := cond_t hb h
                  refine r_condT hb rfl ?_
                  refine r_seq ?_
                  refine r_reg (l := [(8, .u (.c (.v (.bool false))))]) (cg_then (ds := [8]) 1 rfl (by kernel_rfl) (.nil)) rfl (by kernel_rfl) ?_
                  refine r_ret ?_
                  obtain rfl := Option.some.inj h
                  exact ⟨.inr rfl, _, _, .cons (.copy rfl rfl rfl) (.nil), rfl, outs_of trivial⟩
                · have h := cond_f hb h
                  refine r_condF hb rfl ?_
                  refine r_skip ?_
                  refine r_reg (l := [(9, .u (.c (.v (.bool r1)))), (14, .u (.c (.sl true 2 (r13.2.map eR)))), (22, .u (.c (.sl true 2 (r43.2.map eR)))), (23, .u (.c (.v (.int .i64 (IntKind.i64.wrap (v44 + 1))))))]) (cg_then (ds := [130, 131, 23]) 3 rfl (by kernel_rfl) (.nil)) rfl (by kernel_rfl) ?_
                  exact ⟨IntKind.i64.wrap (v44 + 1), h, of_weak (by kernel_rfl)⟩
              · have h := cond_f hb h
                refine r_condF hb rfl ?_
                refine r_exit ?_
                refine r_seq ?_
                refine r_reg (l := [(8, .u (.c (.v (.bool r1))))]) (cg_then (ds := [141, 8]) 2 rfl (by kernel_rfl) (.nil)) rfl (by kernel_rfl) ?_
                refine r_ret ?_
                obtain rfl := Option.some.inj h
                exact ⟨.inr rfl, _, _, .cons (.copy rfl rfl rfl) (.nil), rfl, outs_of trivial⟩
    · have h := cond_f hb h
      have hs47 := hb
      refine r_reg (l := [(1, .u (.c (.sl false 3 (a1.map eD)))), (2, .u (.c (.v (.int .i64 a2)))), (3, .u (.c (.v (.int .i64 a3)))), (9, .u (.c (.v (.bool r1)))), (10, .u (.c (storeC v4))), (12, .u (.c (.v (.int .i64 v5)))), (46, .u (.c (.v (.bool false))))]) (cg_then (ds := [39, 40]) 2 rfl (by kernel_rfl) (co_then 3 rfl (os_to (os_plain rfl rfl (s_lenU (own := false) (sz := 3) (rows := (a1.map eD)) rfl sl44 (by kernel_rfl) rfl (by kernel_rfl))) (t' := .u (.c (.v (.int .i64 (a1.length : Int))))) (by rw [List.length_map])) (cg_then (ds := [42]) 4 rfl (by kernel_rfl) (co_then 5 rfl (os_ge (d := 43) (t := .u (.c (.v (.bool (decide (v5 < (a1.length : Int))))))) (t' := .u (.c (.v (.bool false)))) (by kernel_rfl) (by rw [hs47])) (cg_then (ds := [44, 45, 46]) 8 rfl (by kernel_rfl) (.nil)))))) rfl (by kernel_rfl) ?_
      refine r_condF rfl rfl ?_
      refine r_weak (of_weak (l := [(2, .u (.c (.v (.int .i64 a2)))), (3, .u (.c (.v (.int .i64 a3)))), (9, .u (.c (.v (.bool r1)))), (10, .u (.c (storeC v4)))]) (by kernel_rfl)) ?_
      refine run_cast (α := Sto × Int) (fun x => [(2, .u (.c (.v (.int .i64 a2)))), (3, .u (.c (.v (.int .i64 a3)))), (9, .u (.c (.v (.bool r1)))), (10, .u (.c (storeC x.1)))]) (x := (v4, v5)) (y := y6) (Option.some.inj h) ?_
      refine r_exit ?_
      replace h := h_y6
      refine r_seq ?_
      obtain ⟨r11, hr11, h⟩ := bind_some h
      refine r_reg (l := [(2, .u (.c (.v (.int .i64 r11)))), (3, .u (.c (.v (.int .i64 a3)))), (9, .u (.c (.v (.bool r1)))), (10, .u (.c (storeC y6.1)))]) (cg_then (ds := [57]) 1 rfl (by kernel_rfl) (co_then 2 rfl (os_plain rfl rfl (c_callQ (AC.k (paviorlaw07_pick.ac (h := hr11))) ⟨_, Tryd.func9, rfl, by kernel_rfl⟩ rfl (.cons (.copy (by kernel_rfl) rfl) (.cons (.copy (by kernel_rfl) rfl) (.nil))) (by kernel_rfl))) (cg_then (ds := [2]) 3 rfl (by kernel_rfl) (.nil)))) rfl (by kernel_rfl) ?_
      refine r_seq ?_
      obtain ⟨r12, hr12, h⟩ := bind_some h
      refine r_reg (l := [(2, .u (.c (.v (.int .i64 r11)))), (3, .u (.c (.v (.int .i64 a3)))), (9, .u (.c (.v (.bool r1)))), (10, .u (.c (storeC y6.1))), (13, .u (.c (.v (.int .i64 r12))))]) (cg_then (ds := [59]) 1 rfl (by kernel_rfl) (co_then 2 rfl (os_plain rfl rfl (c_callQ (AC.k (paviorref01_Power.ac (h := hr12))) ⟨_, Tryd.func18, rfl, by kernel_rfl⟩ rfl (.cons (.copy (by kernel_rfl) rfl) (.nil)) (by kernel_rfl))) (cg_then (ds := [13]) 3 rfl (by kernel_rfl) (.nil)))) rfl (by kernel_rfl) ?_
      refine r_seq ?_
      obtain ⟨r13, hr13, h⟩ := bind_some h
      refine r_reg (l := [(2, .u (.c (.v (.int .i64 r11)))), (3, .u (.c (.v (.int .i64 a3)))), (9, .u (.c (.v (.bool r1)))), (10, .u (.c (storeC r13.1))), (13, .u (.c (.v (.int .i64 r12)))), (14, .u (.c (.sl true 2 (r13.2.map eR))))]) (cg_then (ds := [61]) 1 rfl (by kernel_rfl) (co_then 2 rfl (os_plain rfl rfl (c_call (AC.k (Free.ac (h := hr13))) ⟨_, Tryd.func12, rfl, by kernel_rfl⟩ rfl (hand_root (r := 10) (c := storeC y6.1) (by kernel_rfl) (by kernel_rfl) rfl (.nil)) rfl (by kernel_rfl))) (co_then 3 rfl (os_plain rfl rfl (s_take (u := .c (.sl true 2 (r13.2.map eR))) (.inr rfl) (.move (by kernel_rfl) rfl) rfl (by kernel_rfl))) (.nil)))) rfl (by kernel_rfl) ?_
      refine r_seq ?_
      obtain ⟨r14, hr14, h⟩ := bind_some h
      refine r_reg (l := [(2, .u (.c (.v (.int .i64 r11)))), (3, .u (.c (.v (.int .i64 a3)))), (9, .u (.c (.v (.bool r1)))), (10, .u (.c (storeC r14.1))), (13, .u (.c (.v (.int .i64 r12)))), (14, .u (.c (.sl true 2 (r13.2.map eR)))), (15, .u (.c (storeC r14.2)))]) (cg_then (ds := [63]) 1 rfl (by kernel_rfl) (co_then 2 rfl (os_plain rfl rfl (c_call (AC.k (SClone.ac (h := hr14))) ⟨_, Tryd.func11, rfl, by kernel_rfl⟩ rfl (hand_root (r := 10) (c := storeC r13.1) (by kernel_rfl) (by kernel_rfl) rfl (.nil)) rfl (by kernel_rfl))) (co_then 3 rfl (os_plain rfl rfl (s_take (u := .c (storeC r14.2)) (.inr rfl) (.move (by kernel_rfl) rfl) rfl (by kernel_rfl))) (.nil)))) rfl (by kernel_rfl) ?_
      refine r_seq ?_
      refine r_seq ?_
      refine r_reg (l := [(2, .u (.c (.v (.int .i64 r11)))), (3, .u (.c (.v (.int .i64 a3)))), (9, .u (.c (.v (.bool r1)))), (10, .u (.c (storeC r14.1))), (13, .u (.c (.v (.int .i64 r12)))), (14, .u (.c (.sl true 2 (r13.2.map eR)))), (15, .u (.c (storeC r14.2))), (66, .u (.c (.v (.bool false))))]) (cg_then (ds := [65, 66]) 2 rfl (by kernel_rfl) (.nil)) rfl (by kernel_rfl) ?_
      refine r_condF rfl rfl ?_
      refine r_skip ?_
      refine r_seq ?_
      obtain ⟨r15, hr15, h⟩ := bind_some h
      refine r_reg (l := [(2, .u (.c (.v (.int .i64 r11)))), (3, .u (.c (.v (.int .i64 a3)))), (9, .u (.c (.v (.bool r1)))), (10, .u (.c (storeC r15.1))), (13, .u (.c (.v (.int .i64 r12)))), (14, .u (.c (.sl true 2 (r13.2.map eR)))), (15, .u (.c (storeC r14.2))), (16, .u (.c (.v (.int .i64 r15.2.1)))), (17, .u (.c (.err r15.2.2)))]) (cg_then (ds := [68, 69]) 2 rfl (by kernel_rfl) (co_then 3 rfl (os_plain rfl rfl (c_call (AC.k (Take.ac (h := hr15))) ⟨_, Tryd.func13, rfl, by kernel_rfl⟩ rfl (hand_root (r := 10) (c := storeC r14.1) (by kernel_rfl) (by kernel_rfl) rfl (.rd (.copy (by kernel_rfl) rfl) (.nil))) rfl (by kernel_rfl))) (co_then 4 rfl (os_plain rfl rfl (s_moveT (us := [.c (.v (.int .i64 r15.2.1)), .c (.err r15.2.2)]) (.inl rfl) (by kernel_rfl) rfl (by kernel_rfl))) (cg_then (ds := [71, 72, 16, 17]) 8 rfl (by kernel_rfl) (.nil))))) rfl (by kernel_rfl) ?_
      refine r_seq ?_
      refine r_seq ?_
      refine r_reg (l := [(2, .u (.c (.v (.int .i64 r11)))), (3, .u (.c (.v (.int .i64 a3)))), (9, .u (.c (.v (.bool r1)))), (10, .u (.c (storeC r15.1))), (13, .u (.c (.v (.int .i64 r12)))), (14, .u (.c (.sl true 2 (r13.2.map eR)))), (15, .u (.c (storeC r14.2))), (16, .u (.c (.v (.int .i64 r15.2.1)))), (74, .u (.c (.v (.bool (r15.2.2 == none)))))]) (cg_then (ds := [73, 74]) 2 rfl (by kernel_rfl) (.nil)) rfl (by kernel_rfl) ?_
      rcases Bool.eq_false_or_eq_true (r15.2.2 == none) with hb | hb
      · have h := cond_t hb h
        refine r_condT hb rfl ?_
        refine r_seq ?_
        refine r_seq ?_
        rcases Bool.eq_false_or_eq_true (decide (r15.2.1 < 0)) with hb | hb
        · have h := cond_t hb h
          have hs16 := hb
          refine r_reg (l := [(2, .u (.c (.v (.int .i64 r11)))), (3, .u (.c (.v (.int .i64 a3)))), (9, .u (.c (.v (.bool r1)))), (10, .u (.c (storeC r15.1))), (13, .u (.c (.v (.int .i64 r12)))), (14, .u (.c (.sl true 2 (r13.2.map eR)))), (15, .u (.c (storeC r14.2))), (16, .u (.c (.v (.int .i64 r15.2.1)))), (82, .u (.c (.v (.bool true))))]) (cg_then (ds := [75, 76]) 2 rfl (by kernel_rfl) (co_then 3 rfl (os_ge (d := 77) (t := .u (.c (.v (.bool (decide (r15.2.1 < 0)))))) (t' := .u (.c (.v (.bool true)))) (by kernel_rfl) (by rw [hs16])) (cg_then (ds := [78, 79, 80, 81, 82]) 8 rfl (by kernel_rfl) (.nil)))) rfl (by kernel_rfl) ?_
          refine r_condT rfl rfl ?_
          refine r_seq ?_
          refine r_reg (l := [(8, .u (.c (.v (.bool false))))]) (cg_then (ds := [8]) 1 rfl (by kernel_rfl) (.nil)) rfl (by kernel_rfl) ?_
          refine r_ret ?_
          obtain rfl := Option.some.inj h
          exact ⟨.inr rfl, _, _, .cons (.copy rfl rfl rfl) (.nil), rfl, outs_of trivial⟩
        · have h := cond_f hb h
          have hs17 := hb
          obtain ⟨hg18, h⟩ := guard_some h
          simp only [decide_eq_true_eq] at hg18
          refine r_reg (l := [(2, .u (.c (.v (.int .i64 r11)))), (3, .u (.c (.v (.int .i64 a3)))), (9, .u (.c (.v (.bool r1)))), (10, .u (.c (storeC r15.1))), (13, .u (.c (.v (.int .i64 r12)))), (14, .u (.c (.sl true 2 (r13.2.map eR)))), (15, .u (.c (storeC r14.2))), (16, .u (.c (.v (.int .i64 r15.2.1)))), (82, .u (.c (.v (.bool ((r15.2.1.tmod r12) != 0)))))]) (cg_then (ds := [75, 76]) 2 rfl (by kernel_rfl) (co_then 3 rfl (os_ge (d := 77) (t := .u (.c (.v (.bool (decide (r15.2.1 < 0)))))) (t' := .u (.c (.v (.bool false)))) (by kernel_rfl) (by rw [hs17])) (cg_then (ds := [78, 79]) 5 rfl (by kernel_rfl) (co_then 6 rfl (os_to (os_gy rfl rfl rfl (by kernel_rfl) (s_div (op := .rem) (k := .i64) (p := r15.2.1) (q := r12) rfl (.inr rfl) (by kernel_rfl) (by kernel_rfl) hg18 rfl (by kernel_rfl))) (t' := .u (.c (.v (.int .i64 (r15.2.1.tmod r12))))) (by kernel_rfl)) (cg_then (ds := [81, 82]) 8 rfl (by kernel_rfl) (.nil)))))) rfl (by kernel_rfl) ?_
          rcases Bool.eq_false_or_eq_true ((r15.2.1.tmod r12) != 0) with hb | hb
          · have h := cond_t hb h
            refine r_condT hb rfl ?_
            refine r_seq ?_
            refine r_reg (l := [(8, .u (.c (.v (.bool false))))]) (cg_then (ds := [8]) 1 rfl (by kernel_rfl) (.nil)) rfl (by kernel_rfl) ?_
            refine r_ret ?_
            obtain rfl := Option.some.inj h
            exact ⟨.inr rfl, _, _, .cons (.copy rfl rfl rfl) (.nil), rfl, outs_of trivial⟩
          · have h := cond_f hb h
            refine r_condF hb rfl ?_
            refine r_skip ?_
            refine r_seq ?_
            refine r_seq ?_
            refine r_reg (l := [(2, .u (.c (.v (.int .i64 r11)))), (3, .u (.c (.v (.int .i64 a3)))), (9, .u (.c (.v (.bool r1)))), (10, .u (.c (storeC r15.1))), (13, .u (.c (.v (.int .i64 r12)))), (14, .u (.c (.sl true 2 (r13.2.map eR)))), (15, .u (.c (storeC r14.2))), (16, .u (.c (.v (.int .i64 r15.2.1)))), (18, .u (.c (.v (.int .i64 0))))]) (cg_then (ds := [18]) 1 rfl (by kernel_rfl) (.nil)) rfl (by kernel_rfl) ?_
            refine r_block ?_
            refine r_weak (of_weak (l := [(2, .u (.c (.v (.int .i64 r11)))), (3, .u (.c (.v (.int .i64 a3)))), (9, .u (.c (.v (.bool r1)))), (10, .u (.c (storeC r15.1))), (13, .u (.c (.v (.int .i64 r12)))), (14, .u (.c (.sl true 2 (r13.2.map eR)))), (15, .u (.c (storeC r14.2))), (16, .u (.c (.v (.int .i64 r15.2.1)))), (18, .u (.c (.v (.int .i64 0))))]) (by kernel_rfl)) ?_
            refine r_loopI (α := Sto × Sto × Int) (fun x => [(2, .u (.c (.v (.int .i64 r11)))), (3, .u (.c (.v (.int .i64 a3)))), (9, .u (.c (.v (.bool r1)))), (10, .u (.c (storeC x.1))), (13, .u (.c (.v (.int .i64 r12)))), (14, .u (.c (.sl true 2 (r13.2.map eR)))), (15, .u (.c (storeC x.2.1))), (16, .u (.c (.v (.int .i64 r15.2.1)))), (18, .u (.c (.v (.int .i64 x.2.2))))]) (fun n x => BuddyTakes.l2 k a0 a1 a2 a3 r1 r2 r3 y6 r11 r12 r13 r14 r15 n x.1 x.2.1 x.2.2 = some r) k (r15.1, r14.2, 0) h (by intro x h; unfold BuddyTakes.l2 at h; cases h) ?_
            rintro n2 ⟨v19, v20, v21⟩ h
            replace h : BuddyTakes.l2 k a0 a1 a2 a3 r1 r2 r3 y6 r11 r12 r13 r14 r15 (n2 + 1) v19 v20 v21 = some r := h
            unfold BuddyTakes.l2 at h
            show Run _ _ _ (St.of [(2, .u (.c (.v (.int .i64 r11)))), (3, .u (.c (.v (.int .i64 a3)))), (9, .u (.c (.v (.bool r1)))), (10, .u (.c (storeC v19))), (13, .u (.c (.v (.int .i64 r12)))), (14, .u (.c (.sl true 2 (r13.2.map eR)))), (15, .u (.c (storeC v20))), (16, .u (.c (.v (.int .i64 r15.2.1)))), (18, .u (.c (.v (.int .i64 v21))))]) _
            refine r_seq ?_
            refine r_seq ?_
            refine r_reg (l := [(2, .u (.c (.v (.int .i64 r11)))), (3, .u (.c (.v (.int .i64 a3)))), (9, .u (.c (.v (.bool r1)))), (10, .u (.c (storeC v19))), (13, .u (.c (.v (.int .i64 r12)))), (14, .u (.c (.sl true 2 (r13.2.map eR)))), (15, .u (.c (storeC v20))), (16, .u (.c (.v (.int .i64 r15.2.1)))), (18, .u (.c (.v (.int .i64 v21)))), (85, .u (.c (.v (.bool (decide (v21 < r12))))))]) (cg_then (ds := [83, 84, 85]) 3 rfl (by kernel_rfl) (.nil)) rfl (by kernel_rfl) ?_
            rcases Bool.eq_false_or_eq_true (decide (v21 < r12)) with hb | hb
            · have h := cond_t hb h
              refine r_condT hb rfl ?_
              refine r_skip ?_
              refine r_seq ?_
              refine r_block ?_
              refine r_seq ?_
              obtain ⟨r22, hr22, h⟩ := bind_some h
              rcases Bool.eq_false_or_eq_true (!r22.2) with hb | hb
              · have h := cond_t hb h
                have hs23 := hb
                refine r_reg (l := [(2, .u (.c (.v (.int .i64 r11)))), (3, .u (.c (.v (.int .i64 a3)))), (9, .u (.c (.v (.bool r1)))), (10, .u (.c (storeC v19))), (13, .u (.c (.v (.int .i64 r12)))), (14, .u (.c (.sl true 2 (r13.2.map eR)))), (15, .u (.c (storeC r22.1))), (16, .u (.c (.v (.int .i64 r15.2.1)))), (18, .u (.c (.v (.int .i64 v21)))), (100, .u (.c (.v (.bool true))))]) (cg_then (ds := [88, 89, 90, 91]) 4 rfl (by kernel_rfl) (co_then 5 rfl (os_plain rfl rfl (c_call (AC.k (IsFree.ac (h := hr22))) ⟨_, Tryd.func19, rfl, by kernel_rfl⟩ rfl (hand_root (r := 15) (c := storeC v20) (by kernel_rfl) (by kernel_rfl) rfl (.rd (.copy (by kernel_rfl) rfl) (.nil))) rfl (by kernel_rfl))) (cg_then (ds := [93]) 6 rfl (by kernel_rfl) (co_then 7 rfl (os_ge (d := 94) (t := .u (.c (.v (.bool (!r22.2))))) (t' := .u (.c (.v (.bool true)))) (by kernel_rfl) (by rw [hs23])) (cg_then (ds := [95, 96, 97, 98, 99, 100]) 13 rfl (by kernel_rfl) (.nil)))))) rfl (by kernel_rfl) ?_
                refine r_condT rfl rfl ?_
                refine r_seq ?_
                refine r_reg (l := [(8, .u (.c (.v (.bool false))))]) (cg_then (ds := [8]) 1 rfl (by kernel_rfl) (.nil)) rfl (by kernel_rfl) ?_
                refine r_ret ?_
                obtain rfl := Option.some.inj h
                exact ⟨.inr rfl, _, _, .cons (.copy rfl rfl rfl) (.nil), rfl, outs_of trivial⟩
              · have h := cond_f hb h
                have hs24 := hb
                obtain ⟨r25, hr25, h⟩ := bind_some h
                refine r_reg (l := [(2, .u (.c (.v (.int .i64 r11)))), (3, .u (.c (.v (.int .i64 a3)))), (9, .u (.c (.v (.bool r1)))), (10, .u (.c (storeC r25.1))), (13, .u (.c (.v (.int .i64 r12)))), (14, .u (.c (.sl true 2 (r13.2.map eR)))), (15, .u (.c (storeC r22.1))), (16, .u (.c (.v (.int .i64 r15.2.1)))), (18, .u (.c (.v (.int .i64 v21)))), (100, .u (.c (.v (.bool r25.2))))]) (cg_then (ds := [88, 89, 90, 91]) 4 rfl (by kernel_rfl) (co_then 5 rfl (os_plain rfl rfl (c_call (AC.k (IsFree.ac (h := hr22))) ⟨_, Tryd.func19, rfl, by kernel_rfl⟩ rfl (hand_root (r := 15) (c := storeC v20) (by kernel_rfl) (by kernel_rfl) rfl (.rd (.copy (by kernel_rfl) rfl) (.nil))) rfl (by kernel_rfl))) (cg_then (ds := [93]) 6 rfl (by kernel_rfl) (co_then 7 rfl (os_ge (d := 94) (t := .u (.c (.v (.bool (!r22.2))))) (t' := .u (.c (.v (.bool false)))) (by kernel_rfl) (by rw [hs24])) (cg_then (ds := [95, 96, 97, 98]) 11 rfl (by kernel_rfl) (co_then 12 rfl (os_gy rfl rfl rfl (by kernel_rfl) (c_call (AC.k (IsFree.ac (h := hr25))) ⟨_, Tryd.func19, rfl, by kernel_rfl⟩ rfl (hand_root (r := 10) (c := storeC v19) (by kernel_rfl) (by kernel_rfl) rfl (.rd (.copy (by kernel_rfl) rfl) (.nil))) rfl (by kernel_rfl))) (cg_then (ds := [100]) 13 rfl (by kernel_rfl) (.nil)))))))) rfl (by kernel_rfl) ?_
                rcases Bool.eq_false_or_eq_true (r25.2) with hb | hb
                · have h := cond_t hb h
                  refine r_condT hb rfl ?_
                  refine r_seq ?_
                  refine r_reg (l := [(8, .u (.c (.v (.bool false))))]) (cg_then (ds := [8]) 1 rfl (by kernel_rfl) (.nil)) rfl (by kernel_rfl) ?_
                  refine r_ret ?_
                  obtain rfl := Option.some.inj h
                  exact ⟨.inr rfl, _, _, .cons (.copy rfl rfl rfl) (.nil), rfl, outs_of trivial⟩
                · have h := cond_f hb h
                  refine r_condF hb rfl ?_
                  refine r_skip ?_
                  refine r_reg (l := [(2, .u (.c (.v (.int .i64 r11)))), (3, .u (.c (.v (.int .i64 a3)))), (9, .u (.c (.v (.bool r1)))), (10, .u (.c (storeC r25.1))), (13, .u (.c (.v (.int .i64 r12)))), (14, .u (.c (.sl true 2 (r13.2.map eR)))), (15, .u (.c (storeC r22.1))), (16, .u (.c (.v (.int .i64 r15.2.1)))), (18, .u (.c (.v (.int .i64 (IntKind.i64.wrap (v21 + 1))))))]) (cg_then (ds := [86, 87, 18]) 3 rfl (by kernel_rfl) (.nil)) rfl (by kernel_rfl) ?_
                  exact ⟨(r25.1, r22.1, IntKind.i64.wrap (v21 + 1)), h, of_weak (by kernel_rfl)⟩
            · have h := cond_f hb h
              refine r_condF hb rfl ?_
              refine r_exit ?_
              refine r_seq ?_
              obtain ⟨r26, hr26, h⟩ := bind_some h
              refine r_reg (l := [(2, .u (.c (.v (.int .i64 r11)))), (3, .u (.c (.v (.int .i64 a3)))), (9, .u (.c (.v (.bool r1)))), (10, .u (.c (storeC r26.1))), (14, .u (.c (.sl true 2 (r13.2.map eR)))), (19, .u (.c (.err r26.2)))]) (cg_then (ds := [101, 102, 103]) 3 rfl (by kernel_rfl) (co_then 4 rfl (os_plain rfl rfl (c_call (AC.k (Give.ac (h := hr26))) ⟨_, Tryd.func17, rfl, by kernel_rfl⟩ rfl (hand_root (r := 10) (c := storeC v19) (by kernel_rfl) (by kernel_rfl) rfl (.rd (.copy (by kernel_rfl) rfl) (.rd (.copy (by kernel_rfl) rfl) (.nil)))) rfl (by kernel_rfl))) (cg_then (ds := [19]) 5 rfl (by kernel_rfl) (.nil)))) rfl (by kernel_rfl) ?_
              refine r_seq ?_
              refine r_reg (l := [(2, .u (.c (.v (.int .i64 r11)))), (3, .u (.c (.v (.int .i64 a3)))), (9, .u (.c (.v (.bool r1)))), (10, .u (.c (storeC r26.1))), (14, .u (.c (.sl true 2 (r13.2.map eR)))), (106, .u (.c (.v (.bool (!(r26.2 == none))))))]) (cg_then (ds := [105, 106]) 2 rfl (by kernel_rfl) (.nil)) rfl (by kernel_rfl) ?_
              rcases Bool.eq_false_or_eq_true (!(r26.2 == none)) with hb | hb
              · have h := cond_t hb h
                refine r_condT hb rfl ?_
                refine r_seq ?_
                refine r_reg (l := [(8, .u (.c (.v (.bool false))))]) (cg_then (ds := [8]) 1 rfl (by kernel_rfl) (.nil)) rfl (by kernel_rfl) ?_
                refine r_ret ?_
                obtain rfl := Option.some.inj h
                exact ⟨.inr rfl, _, _, .cons (.copy rfl rfl rfl) (.nil), rfl, outs_of trivial⟩
              · have h := cond_f hb h
                refine r_condF hb rfl ?_
                refine r_skip ?_
                refine r_seq ?_
                obtain ⟨r27, hr27, h⟩ := bind_some h
                refine r_reg (l := [(2, .u (.c (.v (.int .i64 r11)))), (3, .u (.c (.v (.int .i64 a3)))), (9, .u (.c (.v (.bool r1)))), (10, .u (.c (storeC r27.1))), (14, .u (.c (.sl true 2 (r13.2.map eR)))), (20, .u (.c (.err r27.2)))]) (cg_then (ds := [107, 108, 109]) 3 rfl (by kernel_rfl) (co_then 4 rfl (os_plain rfl rfl (c_call (ACT.k hT (TakeAt.ac (h := hr27))) ⟨_, Tryd.func20, rfl, by kernel_rfl⟩ rfl (hand_root (r := 10) (c := storeC r26.1) (by kernel_rfl) (by kernel_rfl) rfl (.rd (.copy (by kernel_rfl) rfl) (.rd (.copy (by kernel_rfl) rfl) (.nil)))) rfl (by kernel_rfl))) (cg_then (ds := [20]) 5 rfl (by kernel_rfl) (.nil)))) rfl (by kernel_rfl) ?_
                refine r_seq ?_
                refine r_seq ?_
                refine r_reg (l := [(2, .u (.c (.v (.int .i64 r11)))), (3, .u (.c (.v (.int .i64 a3)))), (9, .u (.c (.v (.bool r1)))), (10, .u (.c (storeC r27.1))), (14, .u (.c (.sl true 2 (r13.2.map eR)))), (112, .u (.c (.v (.bool (r27.2 == none)))))]) (cg_then (ds := [111, 112]) 2 rfl (by kernel_rfl) (.nil)) rfl (by kernel_rfl) ?_
                rcases Bool.eq_false_or_eq_true (r27.2 == none) with hb | hb
                · have h := cond_t hb h
                  refine r_condT hb rfl ?_
                  refine r_seq ?_
                  obtain ⟨r28, hr28, h⟩ := bind_some h
                  refine r_reg (l := [(9, .u (.c (.v (.bool r1)))), (10, .u (.c (storeC r28.1))), (14, .u (.c (.sl true 2 (r13.2.map eR)))), (21, .u (.c (.err r28.2)))]) (cg_then (ds := [113, 114, 115]) 3 rfl (by kernel_rfl) (co_then 4 rfl (os_plain rfl rfl (c_call (AC.k (Give.ac (h := hr28))) ⟨_, Tryd.func17, rfl, by kernel_rfl⟩ rfl (hand_root (r := 10) (c := storeC r27.1) (by kernel_rfl) (by kernel_rfl) rfl (.rd (.copy (by kernel_rfl) rfl) (.rd (.copy (by kernel_rfl) rfl) (.nil)))) rfl (by kernel_rfl))) (cg_then (ds := [21]) 5 rfl (by kernel_rfl) (.nil)))) rfl (by kernel_rfl) ?_
                  refine r_seq ?_
                  refine r_reg (l := [(9, .u (.c (.v (.bool r1)))), (10, .u (.c (storeC r28.1))), (14, .u (.c (.sl true 2 (r13.2.map eR)))), (118, .u (.c (.v (.bool (!(r28.2 == none))))))]) (cg_then (ds := [117, 118]) 2 rfl (by kernel_rfl) (.nil)) rfl (by kernel_rfl) ?_
                  rcases Bool.eq_false_or_eq_true (!(r28.2 == none)) with hb | hb
                  · have h := cond_t hb h
                    refine r_condT hb rfl ?_
                    refine r_seq ?_
                    refine r_reg (l := [(8, .u (.c (.v (.bool false))))]) (cg_then (ds := [8]) 1 rfl (by kernel_rfl) (.nil)) rfl (by kernel_rfl) ?_
                    refine r_ret ?_
                    obtain rfl := Option.some.inj h
                    exact ⟨.inr rfl, _, _, .cons (.copy rfl rfl rfl) (.nil), rfl, outs_of trivial⟩
                  · have h := cond_f hb h
                    refine r_condF hb rfl ?_
                    refine r_skip ?_
                    refine r_seq ?_
                    obtain ⟨r29, hr29, h⟩ := bind_some h
                    refine r_reg (l := [(9, .u (.c (.v (.bool r1)))), (14, .u (.c (.sl true 2 (r13.2.map eR)))), (22, .u (.c (.sl true 2 (r29.2.map eR))))]) (co_then 1 rfl (os_plain rfl rfl (s_take (u := .c (storeC r28.1)) (.inl rfl) (.move (by kernel_rfl) rfl) rfl (by kernel_rfl))) (co_then 2 rfl (os_plain rfl rfl (c_call (AC.k (Free.ac (h := hr29))) ⟨_, Tryd.func12, rfl, by kernel_rfl⟩ rfl (hand_root (r := 119) (c := storeC r28.1) (by kernel_rfl) (by kernel_rfl) rfl (.nil)) rfl (by kernel_rfl))) (co_then 3 rfl (os_plain rfl rfl (s_take (u := .c (.sl true 2 (r29.2.map eR))) (.inr rfl) (.move (by kernel_rfl) rfl) rfl (by kernel_rfl))) (.nil)))) rfl (by kernel_rfl) ?_
                    refine r_seq ?_
                    refine r_seq ?_
                    refine r_reg (l := [(9, .u (.c (.v (.bool r1)))), (14, .u (.c (.sl true 2 (r13.2.map eR)))), (22, .u (.c (.sl true 2 (r29.2.map eR)))), (125, .u (.c (.v (.bool ((r29.2.length : Int) != (r13.2.length : Int))))))]) (cg_then (ds := [121]) 1 rfl (by kernel_rfl) (co_then 2 rfl (os_to (os_plain rfl rfl (s_lenV (r := 22) (lo := 0) (n := (r29.2.map eR).length) (pl := none) (sz := 2) rfl sl30 (by kernel_rfl) rfl (by kernel_rfl))) (t' := .u (.c (.v (.int .i64 (r29.2.length : Int))))) (by rw [List.length_map])) (cg_then (ds := [123]) 3 rfl (by kernel_rfl) (co_then 4 rfl (os_to (os_plain rfl rfl (s_lenV (r := 14) (lo := 0) (n := (r13.2.map eR).length) (pl := none) (sz := 2) rfl sl30 (by kernel_rfl) rfl (by kernel_rfl))) (t' := .u (.c (.v (.int .i64 (r13.2.length : Int))))) (by rw [List.length_map])) (cg_then (ds := [125]) 5 rfl (by kernel_rfl) (.nil)))))) rfl (by kernel_rfl) ?_
                    rcases Bool.eq_false_or_eq_true ((r29.2.length : Int) != (r13.2.length : Int)) with hb | hb
                    · have h := cond_t hb h
                      refine r_condT hb rfl ?_
                      refine r_seq ?_
                      refine r_reg (l := [(8, .u (.c (.v (.bool false))))]) (cg_then (ds := [8]) 1 rfl (by kernel_rfl) (.nil)) rfl (by kernel_rfl) ?_
                      refine r_ret ?_
                      obtain rfl := Option.some.inj h
                      exact ⟨.inr rfl, _, _, .cons (.copy rfl rfl rfl) (.nil), rfl, outs_of trivial⟩
                    · have h := cond_f hb h
                      refine r_condF hb rfl ?_
                      refine r_skip ?_
                      refine r_seq ?_
                      refine r_seq ?_
                      refine r_reg (l := [(9, .u (.c (.v (.bool r1)))), (14, .u (.c (.sl true 2 (r13.2.map eR)))), (22, .u (.c (.sl true 2 (r29.2.map eR)))), (23, .u (.c (.v (.int .i64 0))))]) (cg_then (ds := [23]) 1 rfl (by kernel_rfl) (.nil)) rfl (by kernel_rfl) ?_
                      refine r_block ?_
                      refine r_weak (of_weak (l := [(9, .u (.c (.v (.bool r1)))), (14, .u (.c (.sl true 2 (r13.2.map eR)))), (22, .u (.c (.sl true 2 (r29.2.map eR)))), (23, .u (.c (.v (.int .i64 0))))]) (by kernel_rfl)) ?_
                      refine r_loopI (α := Int) (fun x => [(9, .u (.c (.v (.bool r1)))), (14, .u (.c (.sl true 2 (r13.2.map eR)))), (22, .u (.c (.sl true 2 (r29.2.map eR)))), (23, .u (.c (.v (.int .i64 x))))]) (fun n x => BuddyTakes.l3 k a0 a1 a2 a3 r1 r2 r3 y6 r11 r12 r13 r14 r15 v19 v20 v21 r26 r27 r28 r29 n x = some r) k 0 h (by intro x h; unfold BuddyTakes.l3 at h; cases h) ?_
                      rintro n3 v30 h
                      replace h : BuddyTakes.l3 k a0 a1 a2 a3 r1 r2 r3 y6 r11 r12 r13 r14 r15 v19 v20 v21 r26 r27 r28 r29 (n3 + 1) v30 = some r := h
                      unfold BuddyTakes.l3 at h
                      show Run _ _ _ (St.of [(9, .u (.c (.v (.bool r1)))), (14, .u (.c (.sl true 2 (r13.2.map eR)))), (22, .u (.c (.sl true 2 (r29.2.map eR)))), (23, .u (.c (.v (.int .i64 v30))))]) _
                      refine r_seq ?_
                      refine r_seq ?_
                      refine r_reg (l := [(9, .u (.c (.v (.bool r1)))), (14, .u (.c (.sl true 2 (r13.2.map eR)))), (22, .u (.c (.sl true 2 (r29.2.map eR)))), (23, .u (.c (.v (.int .i64 v30)))), (129, .u (.c (.v (.bool (decide (v30 < (r29.2.length : Int)))))))]) (cg_then (ds := [126, 127]) 2 rfl (by kernel_rfl) (co_then 3 rfl (os_to (os_plain rfl rfl (s_lenV (r := 22) (lo := 0) (n := (r29.2.map eR).length) (pl := none) (sz := 2) rfl sl30 (by kernel_rfl) rfl (by kernel_rfl))) (t' := .u (.c (.v (.int .i64 (r29.2.length : Int))))) (by rw [List.length_map])) (cg_then (ds := [129]) 4 rfl (by kernel_rfl) (.nil)))) rfl (by kernel_rfl) ?_
                      rcases Bool.eq_false_or_eq_true (decide (v30 < (r29.2.length : Int))) with hb | hb
                      · have h := cond_t hb h
                        refine r_condT hb rfl ?_
                        refine r_skip ?_
                        refine r_seq ?_
                        refine r_block ?_
                        refine r_seq ?_
                        obtain ⟨hg31, h⟩ := guard_some h
                        simp only [Bool.and_eq_true, decide_eq_true_eq] at hg31
                        obtain ⟨hg32, h⟩ := guard_some h
                        simp only [Bool.and_eq_true, decide_eq_true_eq] at hg32
                        refine r_weak (of_weak (l := [(9, .u (.c (.v (.bool r1)))), (14, .u (.c (.sl true 2 (r13.2.map eR)))), (22, .u (.c (.sl true 2 (r29.2.map eR)))), (23, .u (.c (.v (.int .i64 v30)))), (129, .u (.c (.v (.bool (decide (v30 < (r29.2.length : Int)))))))]) (by kernel_rfl)) ?_
                        refine r_anyW (l := [(9, .u (.c (.v (.bool r1)))), (14, .u (.c (.sl true 2 (r13.2.map eR)))), (22, .u (.c (.sl true 2 (r29.2.map eR)))), (23, .u (.c (.v (.int .i64 v30)))), (140, .u (.c (.v (.bool (!(((r29.2.getD ((v30).toNat) zR).f) == ((r13.2.getD ((v30).toNat) zR).f) && (((r29.2.getD ((v30).toNat) zR).o) == ((r13.2.getD ((v30).toNat) zR).o))))))))]) (tab := [[], [], [0, 1], [2], [], [], [4, 5], [6], [3, 7]]) [⟨[], [22], [(132, .whole 22 none 2 ((r29.2.map eR).length))], some 132, false⟩, ⟨[], [23], [(133, .u (.c (.v (.int .i64 v30))))], some 133, false⟩, ⟨[0, 1], [22, 132, 133], [(134, .addr 22 (.i ((v30).toNat) 2) [] 0)], some 134, false⟩, ⟨[0, 1, 2], [22, 134], [(135, .u (.agg [.v (.int .i64 ((r29.2.getD ((v30).toNat) zR).f)), .v (.int .i64 ((r29.2.getD ((v30).toNat) zR).o))]))], some 135, false⟩, ⟨[], [14], [(136, .whole 14 none 2 ((r13.2.map eR).length))], some 136, false⟩, ⟨[], [23], [(137, .u (.c (.v (.int .i64 v30))))], some 137, false⟩, ⟨[4, 5], [14, 136, 137], [(138, .addr 14 (.i ((v30).toNat) 2) [] 0)], some 138, false⟩, ⟨[4, 5, 6], [14, 138], [(139, .u (.agg [.v (.int .i64 ((r13.2.getD ((v30).toNat) zR).f)), .v (.int .i64 ((r13.2.getD ((v30).toNat) zR).o))]))], some 139, false⟩, ⟨[0, 1, 2, 3, 4, 5, 6, 7], [135, 139], [(140, .u (.c (.v (.bool (!(((r29.2.getD ((v30).toNat) zR).f) == ((r13.2.getD ((v30).toNat) zR).f) && (((r29.2.getD ((v30).toNat) zR).o) == ((r13.2.getD ((v30).toNat) zR).o))))))))], some 140, false⟩] hm (by kernel_rfl) (by kernel_rfl) (by kernel_rfl) (.cons (fun σ hc => e_g (d := 132) (t := .whole 22 none 2 ((r29.2.map eR).length)) hc rfl rfl (by kernel_rfl)) (.cons (fun σ hc => e_g (d := 133) (t := .u (.c (.v (.int .i64 v30)))) hc rfl rfl (by kernel_rfl)) (.cons (fun σ hc => e_put hc rfl rfl (os_plain rfl rfl (s_indexV (r := 22) (lo := 0) (n := (r29.2.map eR).length) (pl := none) (sz := 2) (e := v30) (ik := .i64) (k := (v30).toNat) rfl sl30 (by kernel_rfl) (.tmp (by kernel_rfl)) hg31.1 (by rw [List.length_map]; exact hg31.2) (Nat.zero_add _) rfl (by kernel_rfl) (by kernel_rfl)))) (.cons (fun σ hc => e_put hc rfl rfl (os_plain rfl rfl (s_loadA (n := 2) (xs := [.v (.int .i64 ((r29.2.getD ((v30).toNat) zR).f)), .v (.int .i64 ((r29.2.getD ((v30).toNat) zR).o))]) (r := 22) (off := 0) (s := .i ((v30).toNat) 2) (p := []) (c := .sl true 2 (r29.2.map eR)) (cs := eR (r29.2.getD ((v30).toNat) zR)) rfl (aggB_ok (by kernel_rfl)) (by kernel_rfl) (by kernel_rfl) (getP_map zR (by have := hg31; omega)) rfl rfl rfl rfl (by kernel_rfl)))) (.cons (fun σ hc => e_g (d := 136) (t := .whole 14 none 2 ((r13.2.map eR).length)) hc rfl rfl (by kernel_rfl)) (.cons (fun σ hc => e_g (d := 137) (t := .u (.c (.v (.int .i64 v30)))) hc rfl rfl (by kernel_rfl)) (.cons (fun σ hc => e_put hc rfl rfl (os_plain rfl rfl (s_indexV (r := 14) (lo := 0) (n := (r13.2.map eR).length) (pl := none) (sz := 2) (e := v30) (ik := .i64) (k := (v30).toNat) rfl sl30 (by kernel_rfl) (.tmp (by kernel_rfl)) hg32.1 (by rw [List.length_map]; exact hg32.2) (Nat.zero_add _) rfl (by kernel_rfl) (by kernel_rfl)))) (.cons (fun σ hc => e_put hc rfl rfl (os_plain rfl rfl (s_loadA (n := 2) (xs := [.v (.int .i64 ((r13.2.getD ((v30).toNat) zR).f)), .v (.int .i64 ((r13.2.getD ((v30).toNat) zR).o))]) (r := 14) (off := 0) (s := .i ((v30).toNat) 2) (p := []) (c := .sl true 2 (r13.2.map eR)) (cs := eR (r13.2.getD ((v30).toNat) zR)) rfl (aggB_ok (by kernel_rfl)) (by kernel_rfl) (by kernel_rfl) (getP_map zR (by have := hg32; omega)) rfl rfl rfl rfl (by kernel_rfl)))) (.cons (fun σ hc => e_put hc rfl rfl (os_plain rfl rfl (s_eqA (b := ((r29.2.getD ((v30).toNat) zR).f) == ((r13.2.getD ((v30).toNat) zR).f) && (((r29.2.getD ((v30).toNat) zR).o) == ((r13.2.getD ((v30).toNat) zR).o))) rfl (.inr rfl) eqAgg33 (by kernel_rfl) rfl rfl rfl rfl rfl rfl (by kernel_rfl)))) (.nil)))))))))) (by kernel_rfl) ?_
                        rcases Bool.eq_false_or_eq_true (!(((r29.2.getD ((v30).toNat) zR).f) == ((r13.2.getD ((v30).toNat) zR).f) && (((r29.2.getD ((v30).toNat) zR).o) == ((r13.2.getD ((v30).toNat) zR).o)))) with hb | hb
                        · have h := cond_t hb h
                          refine r_condT hb rfl ?_
                          refine r_seq ?_
                          refine r_reg (l := [(8, .u (.c (.v (.bool false))))]) (cg_then (ds := [8]) 1 rfl (by kernel_rfl) (.nil)) rfl (by kernel_rfl) ?_
                          refine r_ret ?_
                          obtain rfl := Option.some.inj h
                          exact ⟨.inr rfl, _, _, .cons (.copy rfl rfl rfl) (.nil), rfl, outs_of trivial⟩
                        · have h := cond_f hb h
                          refine r_condF hb rfl ?_
                          refine r_skip ?_
                          refine r_reg (l := [(9, .u (.c (.v (.bool r1)))), (14, .u (.c (.sl true 2 (r13.2.map eR)))), (22, .u (.c (.sl true 2 (r29.2.map eR)))), (23, .u (.c (.v (.int .i64 (IntKind.i64.wrap (v30 + 1))))))]) (cg_then (ds := [130, 131, 23]) 3 rfl (by kernel_rfl) (.nil)) rfl (by kernel_rfl) ?_
                          exact ⟨IntKind.i64.wrap (v30 + 1), h, of_weak (by kernel_rfl)⟩
                      · have h := cond_f hb h
                        refine r_condF hb rfl ?_
                        refine r_exit ?_
                        refine r_seq ?_
                        refine r_reg (l := [(8, .u (.c (.v (.bool r1))))]) (cg_then (ds := [141, 8]) 2 rfl (by kernel_rfl) (.nil)) rfl (by kernel_rfl) ?_
                        refine r_ret ?_
                        obtain rfl := Option.some.inj h
                        exact ⟨.inr rfl, _, _, .cons (.copy rfl rfl rfl) (.nil), rfl, outs_of trivial⟩
                · have h := cond_f hb h
                  refine r_condF hb rfl ?_
                  refine r_skip ?_
                  refine r_seq ?_
                  obtain ⟨r33, hr33, h⟩ := bind_some h
                  refine r_reg (l := [(9, .u (.c (.v (.bool r1)))), (14, .u (.c (.sl true 2 (r13.2.map eR)))), (22, .u (.c (.sl true 2 (r33.2.map eR))))]) (co_then 1 rfl (os_plain rfl rfl (s_take (u := .c (storeC r27.1)) (.inl rfl) (.move (by kernel_rfl) rfl) rfl (by kernel_rfl))) (co_then 2 rfl (os_plain rfl rfl (c_call (AC.k (Free.ac (h := hr33))) ⟨_, Tryd.func12, rfl, by kernel_rfl⟩ rfl (hand_root (r := 119) (c := storeC r27.1) (by kernel_rfl) (by kernel_rfl) rfl (.nil)) rfl (by kernel_rfl))) (co_then 3 rfl (os_plain rfl rfl (s_take (u := .c (.sl true 2 (r33.2.map eR))) (.inr rfl) (.move (by kernel_rfl) rfl) rfl (by kernel_rfl))) (.nil)))) rfl (by kernel_rfl) ?_
                  refine r_seq ?_
                  refine r_seq ?_
                  refine r_reg (l := [(9, .u (.c (.v (.bool r1)))), (14, .u (.c (.sl true 2 (r13.2.map eR)))), (22, .u (.c (.sl true 2 (r33.2.map eR)))), (125, .u (.c (.v (.bool ((r33.2.length : Int) != (r13.2.length : Int))))))]) (cg_then (ds := [121]) 1 rfl (by kernel_rfl) (co_then 2 rfl (os_to (os_plain rfl rfl (s_lenV (r := 22) (lo := 0) (n := (r33.2.map eR).length) (pl := none) (sz := 2) rfl sl30 (by kernel_rfl) rfl (by kernel_rfl))) (t' := .u (.c (.v (.int .i64 (r33.2.length : Int))))) (by rw [List.length_map])) (cg_then (ds := [123]) 3 rfl (by kernel_rfl) (co_then 4 rfl (os_to (os_plain rfl rfl (s_lenV (r := 14) (lo := 0) (n := (r13.2.map eR).length) (pl := none) (sz := 2) rfl sl30 (by kernel_rfl) rfl (by kernel_rfl))) (t' := .u (.c (.v (.int .i64 (r13.2.length : Int))))) (by rw [List.length_map])) (cg_then (ds := [125]) 5 rfl (by kernel_rfl) (.nil)))))) rfl (by kernel_rfl) ?_
                  rcases Bool.eq_false_or_eq_true ((r33.2.length : Int) != (r13.2.length : Int)) with hb | hb
                  · have h := cond_t hb h
                    refine r_condT hb rfl ?_
                    refine r_seq ?_
                    refine r_reg (l := [(8, .u (.c (.v (.bool false))))]) (cg_then (ds := [8]) 1 rfl (by kernel_rfl) (.nil)) rfl (by kernel_rfl) ?_
                    refine r_ret ?_
                    obtain rfl := Option.some.inj h
                    exact ⟨.inr rfl, _, _, .cons (.copy rfl rfl rfl) (.nil), rfl, outs_of trivial⟩
                  · have h := cond_f hb h
                    refine r_condF hb rfl ?_
                    refine r_skip ?_
                    refine r_seq ?_
                    refine r_seq ?_
                    refine r_reg (l := [(9, .u (.c (.v (.bool r1)))), (14, .u (.c (.sl true 2 (r13.2.map eR)))), (22, .u (.c (.sl true 2 (r33.2.map eR)))), (23, .u (.c (.v (.int .i64 0))))]) (cg_then (ds := [23]) 1 rfl (by kernel_rfl) (.nil)) rfl (by kernel_rfl) ?_
                    refine r_block ?_
                    refine r_weak (of_weak (l := [(9, .u (.c (.v (.bool r1)))), (14, .u (.c (.sl true 2 (r13.2.map eR)))), (22, .u (.c (.sl true 2 (r33.2.map eR)))), (23, .u (.c (.v (.int .i64 0))))]) (by kernel_rfl)) ?_
                    refine r_loopI (α := Int) (fun x => [(9, .u (.c (.v (.bool r1)))), (14, .u (.c (.sl true 2 (r13.2.map eR)))), (22, .u (.c (.sl true 2 (r33.2.map eR)))), (23, .u (.c (.v (.int .i64 x))))]) (fun n x => BuddyTakes.l4 k a0 a1 a2 a3 r1 r2 r3 y6 r11 r12 r13 r14 r15 v19 v20 v21 r26 r27 r33 n x = some r) k 0 h (by intro x h; unfold BuddyTakes.l4 at h; cases h) ?_
                    rintro n4 v34 h
                    replace h : BuddyTakes.l4 k a0 a1 a2 a3 r1 r2 r3 y6 r11 r12 r13 r14 r15 v19 v20 v21 r26 r27 r33 (n4 + 1) v34 = some r := h
                    unfold BuddyTakes.l4 at h
                    show Run _ _ _ (St.of [(9, .u (.c (.v (.bool r1)))), (14, .u (.c (.sl true 2 (r13.2.map eR)))), (22, .u (.c (.sl true 2 (r33.2.map eR)))), (23, .u (.c (.v (.int .i64 v34))))]) _
                    refine r_seq ?_
                    refine r_seq ?_
                    refine r_reg (l := [(9, .u (.c (.v (.bool r1)))), (14, .u (.c (.sl true 2 (r13.2.map eR)))), (22, .u (.c (.sl true 2 (r33.2.map eR)))), (23, .u (.c (.v (.int .i64 v34)))), (129, .u (.c (.v (.bool (decide (v34 < (r33.2.length : Int)))))))]) (cg_then (ds := [126, 127]) 2 rfl (by kernel_rfl) (co_then 3 rfl (os_to (os_plain rfl rfl (s_lenV (r := 22) (lo := 0) (n := (r33.2.map eR).length) (pl := none) (sz := 2) rfl sl30 (by kernel_rfl) rfl (by kernel_rfl))) (t' := .u (.c (.v (.int .i64 (r33.2.length : Int))))) (by rw [List.length_map])) (cg_then (ds := [129]) 4 rfl (by kernel_rfl) (.nil)))) rfl (by kernel_rfl) ?_
                    rcases Bool.eq_false_or_eq_true (decide (v34 < (r33.2.length : Int))) with hb | hb
                    · have h := cond_t hb h
                      refine r_condT hb rfl ?_
                      refine r_skip ?_
                      refine r_seq ?_
                      refine r_block ?_
                      refine r_seq ?_
                      obtain ⟨hg35, h⟩ := guard_some h
                      simp only [Bool.and_eq_true, decide_eq_true_eq] at hg35
                      obtain ⟨hg36, h⟩ := guard_some h
                      simp only [Bool.and_eq_true, decide_eq_true_eq] at hg36
                      refine r_weak (of_weak (l := [(9, .u (.c (.v (.bool r1)))), (14, .u (.c (.sl true 2 (r13.2.map eR)))), (22, .u (.c (.sl true 2 (r33.2.map eR)))), (23, .u (.c (.v (.int .i64 v34)))), (129, .u (.c (.v (.bool (decide (v34 < (r33.2.length : Int)))))))]) (by kernel_rfl)) ?_
                      refine r_anyW (l := [(9, .u (.c (.v (.bool r1)))), (14, .u (.c (.sl true 2 (r13.2.map eR)))), (22, .u (.c (.sl true 2 (r33.2.map eR)))), (23, .u (.c (.v (.int .i64 v34)))), (140, .u (.c (.v (.bool (!(((r33.2.getD ((v34).toNat) zR).f) == ((r13.2.getD ((v34).toNat) zR).f) && (((r33.2.getD ((v34).toNat) zR).o) == ((r13.2.getD ((v34).toNat) zR).o))))))))]) (tab := [[], [], [0, 1], [2], [], [], [4, 5], [6], [3, 7]]) [⟨[], [22], [(132, .whole 22 none 2 ((r33.2.map eR).length))], some 132, false⟩, ⟨[], [23], [(133, .u (.c (.v (.int .i64 v34))))], some 133, false⟩, ⟨[0, 1], [22, 132, 133], [(134, .addr 22 (.i ((v34).toNat) 2) [] 0)], some 134, false⟩, ⟨[0, 1, 2], [22, 134], [(135, .u (.agg [.v (.int .i64 ((r33.2.getD ((v34).toNat) zR).f)), .v (.int .i64 ((r33.2.getD ((v34).toNat) zR).o))]))], some 135, false⟩, ⟨[], [14], [(136, .whole 14 none 2 ((r13.2.map eR).length))], some 136, false⟩, ⟨[], [23], [(137, .u (.c (.v (.int .i64 v34))))], some 137, false⟩, ⟨[4, 5], [14, 136, 137], [(138, .addr 14 (.i ((v34).toNat) 2) [] 0)], some 138, false⟩, ⟨[4, 5, 6], [14, 138], [(139, .u (.agg [.v (.int .i64 ((r13.2.getD ((v34).toNat) zR).f)), .v (.int .i64 ((r13.2.getD ((v34).toNat) zR).o))]))], some 139, false⟩, ⟨[0, 1, 2, 3, 4, 5, 6, 7], [135, 139], [(140, .u (.c (.v (.bool (!(((r33.2.getD ((v34).toNat) zR).f) == ((r13.2.getD ((v34).toNat) zR).f) && (((r33.2.getD ((v34).toNat) zR).o) == ((r13.2.getD ((v34).toNat) zR).o))))))))], some 140, false⟩] hm (by kernel_rfl) (by kernel_rfl) (by kernel_rfl) (.cons (fun σ hc => e_g (d := 132) (t := .whole 22 none 2 ((r33.2.map eR).length)) hc rfl rfl (by kernel_rfl)) (.cons (fun σ hc => e_g (d := 133) (t := .u (.c (.v (.int .i64 v34)))) hc rfl rfl (by kernel_rfl)) (.cons (fun σ hc => e_put hc rfl rfl (os_plain rfl rfl (s_indexV (r := 22) (lo := 0) (n := (r33.2.map eR).length) (pl := none) (sz := 2) (e := v34) (ik := .i64) (k := (v34).toNat) rfl sl30 (by kernel_rfl) (.tmp (by kernel_rfl)) hg35.1 (by rw [List.length_map]; exact hg35.2) (Nat.zero_add _) rfl (by kernel_rfl) (by kernel_rfl)))) (.cons (fun σ hc => e_put hc rfl rfl (os_plain rfl rfl (s_loadA (n := 2) (xs := [.v (.int .i64 ((r33.2.getD ((v34).toNat) zR).f)), .v (.int .i64 ((r33.2.getD ((v34).toNat) zR).o))]) (r := 22) (off := 0) (s := .i ((v34).toNat) 2) (p := []) (c := .sl true 2 (r33.2.map eR)) (cs := eR (r33.2.getD ((v34).toNat) zR)) rfl (aggB_ok (by kernel_rfl)) (by kernel_rfl) (by kernel_rfl) (getP_map zR (by have := hg35; omega)) rfl rfl rfl rfl (by kernel_rfl)))) (.cons (fun σ hc => e_g (d := 136) (t := .whole 14 none 2 ((r13.2.map eR).length)) hc rfl rfl (by kernel_rfl)) (.cons (fun σ hc => e_g (d := 137) (t := .u (.c (.v (.int .i64 v34)))) hc rfl rfl (by kernel_rfl)) (.cons (fun σ hc => e_put hc rfl rfl (os_plain rfl rfl (s_indexV (r := 14) (lo := 0) (n := (r13.2.map eR).length) (pl := none) (sz := 2) (e := v34) (ik := .i64) (k := (v34).toNat) rfl sl30 (by kernel_rfl) (.tmp (by kernel_rfl)) hg36.1 (by rw [List.length_map]; exact hg36.2) (Nat.zero_add _) rfl (by kernel_rfl) (by kernel_rfl)))) (.cons (fun σ hc => e_put hc rfl rfl (os_plain rfl rfl (s_loadA (n := 2) (xs := [.v (.int .i64 ((r13.2.getD ((v34).toNat) zR).f)), .v (.int .i64 ((r13.2.getD ((v34).toNat) zR).o))]) (r := 14) (off := 0) (s := .i ((v34).toNat) 2) (p := []) (c := .sl true 2 (r13.2.map eR)) (cs := eR (r13.2.getD ((v34).toNat) zR)) rfl (aggB_ok (by kernel_rfl)) (by kernel_rfl) (by kernel_rfl) (getP_map zR (by have := hg36; omega)) rfl rfl rfl rfl (by kernel_rfl)))) (.cons (fun σ hc => e_put hc rfl rfl (os_plain rfl rfl (s_eqA (b := ((r33.2.getD ((v34).toNat) zR).f) == ((r13.2.getD ((v34).toNat) zR).f) && (((r33.2.getD ((v34).toNat) zR).o) == ((r13.2.getD ((v34).toNat) zR).o))) rfl (.inr rfl) eqAgg33 (by kernel_rfl) rfl rfl rfl rfl rfl rfl (by kernel_rfl)))) (.nil)))))))))) (by kernel_rfl) ?_
                      rcases Bool.eq_false_or_eq_true (!(((r33.2.getD ((v34).toNat) zR).f) == ((r13.2.getD ((v34).toNat) zR).f) && (((r33.2.getD ((v34).toNat) zR).o) == ((r13.2.getD ((v34).toNat) zR).o)))) with hb | hb
                      · have h := cond_t hb h
                        refine r_condT hb rfl ?_
                        refine r_seq ?_
                        refine r_reg (l := [(8, .u (.c (.v (.bool false))))]) (cg_then (ds := [8]) 1 rfl (by kernel_rfl) (.nil)) rfl (by kernel_rfl) ?_
                        refine r_ret ?_
                        obtain rfl := Option.some.inj h
                        exact ⟨.inr rfl, _, _, .cons (.copy rfl rfl rfl) (.nil), rfl, outs_of trivial⟩
                      · have h := cond_f hb h
                        refine r_condF hb rfl ?_
                        refine r_skip ?_
                        refine r_reg (l := [(9, .u (.c (.v (.bool r1)))), (14, .u (.c (.sl true 2 (r13.2.map eR)))), (22, .u (.c (.sl true 2 (r33.2.map eR)))), (23, .u (.c (.v (.int .i64 (IntKind.i64.wrap (v34 + 1))))))]) (cg_then (ds := [130, 131, 23]) 3 rfl (by kernel_rfl) (.nil)) rfl (by kernel_rfl) ?_
                        exact ⟨IntKind.i64.wrap (v34 + 1), h, of_weak (by kernel_rfl)⟩
                    · have h := cond_f hb h
                      refine r_condF hb rfl ?_
                      refine r_exit ?_
                      refine r_seq ?_
                      refine r_reg (l := [(8, .u (.c (.v (.bool r1))))]) (cg_then (ds := [141, 8]) 2 rfl (by kernel_rfl) (.nil)) rfl (by kernel_rfl) ?_
                      refine r_ret ?_
                      obtain rfl := Option.some.inj h
                      exact ⟨.inr rfl, _, _, .cons (.copy rfl rfl rfl) (.nil), rfl, outs_of trivial⟩
      · have h := cond_f hb h
        refine r_condF hb rfl ?_
        refine r_skip ?_
        refine r_seq ?_
        obtain ⟨r37, hr37, h⟩ := bind_some h
        refine r_reg (l := [(2, .u (.c (.v (.int .i64 r11)))), (3, .u (.c (.v (.int .i64 a3)))), (9, .u (.c (.v (.bool r1)))), (10, .u (.c (storeC r37.1))), (14, .u (.c (.sl true 2 (r13.2.map eR)))), (20, .u (.c (.err r37.2)))]) (cg_then (ds := [107, 108, 109]) 3 rfl (by kernel_rfl) (co_then 4 rfl (os_plain rfl rfl (c_call (ACT.k hT (TakeAt.ac (h := hr37))) ⟨_, Tryd.func20, rfl, by kernel_rfl⟩ rfl (hand_root (r := 10) (c := storeC r15.1) (by kernel_rfl) (by kernel_rfl) rfl (.rd (.copy (by kernel_rfl) rfl) (.rd (.copy (by kernel_rfl) rfl) (.nil)))) rfl (by kernel_rfl))) (cg_then (ds := [20]) 5 rfl (by kernel_rfl) (.nil)))) rfl (by kernel_rfl) ?_
        refine r_seq ?_
        refine r_seq ?_
        refine r_reg (l := [(2, .u (.c (.v (.int .i64 r11)))), (3, .u (.c (.v (.int .i64 a3)))), (9, .u (.c (.v (.bool r1)))), (10, .u (.c (storeC r37.1))), (14, .u (.c (.sl true 2 (r13.2.map eR)))), (112, .u (.c (.v (.bool (r37.2 == none)))))]) (cg_then (ds := [111, 112]) 2 rfl (by kernel_rfl) (.nil)) rfl (by kernel_rfl) ?_
        rcases Bool.eq_false_or_eq_true (r37.2 == none) with hb | hb
        · have h := cond_t hb h
          refine r_condT hb rfl ?_
          refine r_seq ?_
          obtain ⟨r38, hr38, h⟩ := bind_some h
          refine r_reg (l := [(9, .u (.c (.v (.bool r1)))), (10, .u (.c (storeC r38.1))), (14, .u (.c (.sl true 2 (r13.2.map eR)))), (21, .u (.c (.err r38.2)))]) (cg_then (ds := [113, 114, 115]) 3 rfl (by kernel_rfl) (co_then 4 rfl (os_plain rfl rfl (c_call (AC.k (Give.ac (h := hr38))) ⟨_, Tryd.func17, rfl, by kernel_rfl⟩ rfl (hand_root (r := 10) (c := storeC r37.1) (by kernel_rfl) (by kernel_rfl) rfl (.rd (.copy (by kernel_rfl) rfl) (.rd (.copy (by kernel_rfl) rfl) (.nil)))) rfl (by kernel_rfl))) (cg_then (ds := [21]) 5 rfl (by kernel_rfl) (.nil)))) rfl (by kernel_rfl) ?_
          refine r_seq ?_
          refine r_reg (l := [(9, .u (.c (.v (.bool r1)))), (10, .u (.c (storeC r38.1))), (14, .u (.c (.sl true 2 (r13.2.map eR)))), (118, .u (.c (.v (.bool (!(r38.2 == none))))))]) (cg_then (ds := [117, 118]) 2 rfl (by kernel_rfl) (.nil)) rfl (by kernel_rfl) ?_
          rcases Bool.eq_false_or_eq_true (!(r38.2 == none)) with hb | hb
          · have h := cond_t hb h
            refine r_condT hb rfl ?_
            refine r_seq ?_
            refine r_reg (l := [(8, .u (.c (.v (.bool false))))]) (cg_then (ds := [8]) 1 rfl (by kernel_rfl) (.nil)) rfl (by kernel_rfl) ?_
            refine r_ret ?_
            obtain rfl := Option.some.inj h
            exact ⟨.inr rfl, _, _, .cons (.copy rfl rfl rfl) (.nil), rfl, outs_of trivial⟩
          · have h := cond_f hb h
            refine r_condF hb rfl ?_
            refine r_skip ?_
            refine r_seq ?_
            obtain ⟨r39, hr39, h⟩ := bind_some h
            refine r_reg (l := [(9, .u (.c (.v (.bool r1)))), (14, .u (.c (.sl true 2 (r13.2.map eR)))), (22, .u (.c (.sl true 2 (r39.2.map eR))))]) (co_then 1 rfl (os_plain rfl rfl (s_take (u := .c (storeC r38.1)) (.inl rfl) (.move (by kernel_rfl) rfl) rfl (by kernel_rfl))) (co_then 2 rfl (os_plain rfl rfl (c_call (AC.k (Free.ac (h := hr39))) ⟨_, Tryd.func12, rfl, by kernel_rfl⟩ rfl (hand_root (r := 119) (c := storeC r38.1) (by kernel_rfl) (by kernel_rfl) rfl (.nil)) rfl (by kernel_rfl))) (co_then 3 rfl (os_plain rfl rfl (s_take (u := .c (.sl true 2 (r39.2.map eR))) (.inr rfl) (.move (by kernel_rfl) rfl) rfl (by kernel_rfl))) (.nil)))) rfl (by kernel_rfl) ?_
            refine r_seq ?_
            refine r_seq ?_
            refine r_reg (l := [(9, .u (.c (.v (.bool r1)))), (14, .u (.c (.sl true 2 (r13.2.map eR)))), (22, .u (.c (.sl true 2 (r39.2.map eR)))), (125, .u (.c (.v (.bool ((r39.2.length : Int) != (r13.2.length : Int))))))]) (cg_then (ds := [121]) 1 rfl (by kernel_rfl) (co_then 2 rfl (os_to (os_plain rfl rfl (s_lenV (r := 22) (lo := 0) (n := (r39.2.map eR).length) (pl := none) (sz := 2) rfl sl30 (by kernel_rfl) rfl (by kernel_rfl))) (t' := .u (.c (.v (.int .i64 (r39.2.length : Int))))) (by rw [List.length_map])) (cg_then (ds := [123]) 3 rfl (by kernel_rfl) (co_then 4 rfl (os_to (os_plain rfl rfl (s_lenV (r := 14) (lo := 0) (n := (r13.2.map eR).length) (pl := none) (sz := 2) rfl sl30 (by kernel_rfl) rfl (by kernel_rfl))) (t' := .u (.c (.v (.int .i64 (r13.2.length : Int))))) (by rw [List.length_map])) (cg_then (ds := [125]) 5 rfl (by kernel_rfl) (.nil)))))) rfl (by kernel_rfl) ?_
            rcases Bool.eq_false_or_eq_true ((r39.2.length : Int) != (r13.2.length : Int)) with hb | hb
            · have h := cond_t hb h
              refine r_condT hb rfl ?_
              refine r_seq ?_
              refine r_reg (l := [(8, .u (.c (.v (.bool false))))]) (cg_then (ds := [8]) 1 rfl (by kernel_rfl) (.nil)) rfl (by kernel_rfl) ?_
              refine r_ret ?_
              obtain rfl := Option.some.inj h
              exact ⟨.inr rfl, _, _, .cons (.copy rfl rfl rfl) (.nil), rfl, outs_of trivial⟩
            · have h := cond_f hb h
              refine r_condF hb rfl ?_
              refine r_skip ?_
              refine r_seq ?_
              refine r_seq ?_
              refine r_reg (l := [(9, .u (.c (.v (.bool r1)))), (14, .u (.c (.sl true 2 (r13.2.map eR)))), (22, .u (.c (.sl true 2 (r39.2.map eR)))), (23, .u (.c (.v (.int .i64 0))))]) (cg_then (ds := [23]) 1 rfl (by kernel_rfl) (.nil)) rfl (by kernel_rfl) ?_
              refine r_block ?_
              refine r_weak (of_weak (l := [(9, .u (.c (.v (.bool r1)))), (14, .u (.c (.sl true 2 (r13.2.map eR)))), (22, .u (.c (.sl true 2 (r39.2.map eR)))), (23, .u (.c (.v (.int .i64 0))))]) (by kernel_rfl)) ?_
              refine r_loopI (α := Int) (fun x => [(9, .u (.c (.v (.bool r1)))), (14, .u (.c (.sl true 2 (r13.2.map eR)))), (22, .u (.c (.sl true 2 (r39.2.map eR)))), (23, .u (.c (.v (.int .i64 x))))]) (fun n x => BuddyTakes.l5 k a0 a1 a2 a3 r1 r2 r3 y6 r11 r12 r13 r14 r15 r37 r38 r39 n x = some r) k 0 h (by intro x h; unfold BuddyTakes.l5 at h; cases h) ?_
              rintro n5 v40 h
              replace h : BuddyTakes.l5 k a0 a1 a2 a3 r1 r2 r3 y6 r11 r12 r13 r14 r15 r37 r38 r39 (n5 + 1) v40 = some r := h
              unfold BuddyTakes.l5 at h
              show Run _ _ _ (St.of [(9, .u (.c (.v (.bool r1)))), (14, .u (.c (.sl true 2 (r13.2.map eR)))), (22, .u (.c (.sl true 2 (r39.2.map eR)))), (23, .u (.c (.v (.int .i64 v40))))]) _
              refine r_seq ?_
              refine r_seq ?_
              refine r_reg (l := [(9, .u (.c (.v (.bool r1)))), (14, .u (.c (.sl true 2 (r13.2.map eR)))), (22, .u (.c (.sl true 2 (r39.2.map eR)))), (23, .u (.c (.v (.int .i64 v40)))), (129, .u (.c (.v (.bool (decide (v40 < (r39.2.length : Int)))))))]) (cg_then (ds := [126, 127]) 2 rfl (by kernel_rfl) (co_then 3 rfl (os_to (os_plain rfl rfl (s_lenV (r := 22) (lo := 0) (n := (r39.2.map eR).length) (pl := none) (sz := 2) rfl sl30 (by kernel_rfl) rfl (by kernel_rfl))) (t' := .u (.c (.v (.int .i64 (r39.2.length : Int))))) (by rw [List.length_map])) (cg_then (ds := [129]) 4 rfl (by kernel_rfl) (.nil)))) rfl (by kernel_rfl) ?_
              rcases Bool.eq_false_or_eq_true (decide (v40 < (r39.2.length : Int))) with hb | hb
              · have h := cond_t hb h
                refine r_condT hb rfl ?_
                refine r_skip ?_
                refine r_seq ?_
                refine r_block ?_
                refine r_seq ?_
                obtain ⟨hg41, h⟩ := guard_some h
                simp only [Bool.and_eq_true, decide_eq_true_eq] at hg41
                obtain ⟨hg42, h⟩ := guard_some h
                simp only [Bool.and_eq_true, decide_eq_true_eq] at hg42
                refine r_weak (of_weak (l := [(9, .u (.c (.v (.bool r1)))), (14, .u (.c (.sl true 2 (r13.2.map eR)))), (22, .u (.c (.sl true 2 (r39.2.map eR)))), (23, .u (.c (.v (.int .i64 v40)))), (129, .u (.c (.v (.bool (decide (v40 < (r39.2.length : Int)))))))]) (by kernel_rfl)) ?_
                refine r_anyW (l := [(9, .u (.c (.v (.bool r1)))), (14, .u (.c (.sl true 2 (r13.2.map eR)))), (22, .u (.c (.sl true 2 (r39.2.map eR)))), (23, .u (.c (.v (.int .i64 v40)))), (140, .u (.c (.v (.bool (!(((r39.2.getD ((v40).toNat) zR).f) == ((r13.2.getD ((v40).toNat) zR).f) && (((r39.2.getD ((v40).toNat) zR).o) == ((r13.2.getD ((v40).toNat) zR).o))))))))]) (tab := [[], [], [0, 1], [2], [], [], [4, 5], [6], [3, 7]]) [⟨[], [22], [(132, .whole 22 none 2 ((r39.2.map eR).length))], some 132, false⟩, ⟨[], [23], [(133, .u (.c (.v (.int .i64 v40))))], some 133, false⟩, ⟨[0, 1], [22, 132, 133], [(134, .addr 22 (.i ((v40).toNat) 2) [] 0)], some 134, false⟩, ⟨[0, 1, 2], [22, 134], [(135, .u (.agg [.v (.int .i64 ((r39.2.getD ((v40).toNat) zR).f)), .v (.int .i64 ((r39.2.getD ((v40).toNat) zR).o))]))], some 135, false⟩, ⟨[], [14], [(136, .whole 14 none 2 ((r13.2.map eR).length))], some 136, false⟩, ⟨[], [23], [(137, .u (.c (.v (.int .i64 v40))))], some 137, false⟩, ⟨[4, 5], [14, 136, 137], [(138, .addr 14 (.i ((v40).toNat) 2) [] 0)], some 138, false⟩, ⟨[4, 5, 6], [14, 138], [(139, .u (.agg [.v (.int .i64 ((r13.2.getD ((v40).toNat) zR).f)), .v (.int .i64 ((r13.2.getD ((v40).toNat) zR).o))]))], some 139, false⟩, ⟨[0, 1, 2, 3, 4, 5, 6, 7], [135, 139], [(140, .u (.c (.v (.bool (!(((r39.2.getD ((v40).toNat) zR).f) == ((r13.2.getD ((v40).toNat) zR).f) && (((r39.2.getD ((v40).toNat) zR).o) == ((r13.2.getD ((v40).toNat) zR).o))))))))], some 140, false⟩] hm (by kernel_rfl) (by kernel_rfl) (by kernel_rfl) (.cons (fun σ hc => e_g (d := 132) (t := .whole 22 none 2 ((r39.2.map eR).length)) hc rfl rfl (by kernel_rfl)) (.cons (fun σ hc => e_g (d := 133) (t := .u (.c (.v (.int .i64 v40)))) hc rfl rfl (by kernel_rfl)) (.cons (fun σ hc => e_put hc rfl rfl (os_plain rfl rfl (s_indexV (r := 22) (lo := 0) (n := (r39.2.map eR).length) (pl := none) (sz := 2) (e := v40) (ik := .i64) (k := (v40).toNat) rfl sl30 (by kernel_rfl) (.tmp (by kernel_rfl)) hg41.1 (by rw [List.length_map]; exact hg41.2) (Nat.zero_add _) rfl (by kernel_rfl) (by kernel_rfl)))) (.cons (fun σ hc => e_put hc rfl rfl (os_plain rfl rfl (s_loadA (n := 2) (xs := [.v (.int .i64 ((r39.2.getD ((v40).toNat) zR).f)), .v (.int .i64 ((r39.2.getD ((v40).toNat) zR).o))]) (r := 22) (off := 0) (s := .i ((v40).toNat) 2) (p := []) (c := .sl true 2 (r39.2.map eR)) (cs := eR (r39.2.getD ((v40).toNat) zR)) rfl (aggB_ok (by kernel_rfl)) (by kernel_rfl) (by kernel_rfl) (getP_map zR (by have := hg41; omega)) rfl rfl rfl rfl (by kernel_rfl)))) (.cons (fun σ hc => e_g (d := 136) (t := .whole 14 none 2 ((r13.2.map eR).length)) hc rfl rfl (by kernel_rfl)) (.cons (fun σ hc => e_g (d := 137) (t := .u (.c (.v (.int .i64 v40)))) hc rfl rfl (by kernel_rfl)) (.cons (fun σ hc => e_put hc rfl rfl (os_plain rfl rfl (s_indexV (r := 14) (lo := 0) (n := (r13.2.map eR).length) (pl := none) (sz := 2) (e := v40) (ik := .i64) (k := (v40).toNat) rfl sl30 (by kernel_rfl) (.tmp (by kernel_rfl)) hg42.1 (by rw [List.length_map]; exact hg42.2) (Nat.zero_add _) rfl (by kernel_rfl) (by kernel_rfl)))) (.cons (fun σ hc => e_put hc rfl rfl (os_plain rfl rfl (s_loadA (n := 2) (xs := [.v (.int .i64 ((r13.2.getD ((v40).toNat) zR).f)), .v (.int .i64 ((r13.2.getD ((v40).toNat) zR).o))]) (r := 14) (off := 0) (s := .i ((v40).toNat) 2) (p := []) (c := .sl true 2 (r13.2.map eR)) (cs := eR (r13.2.getD ((v40).toNat) zR)) rfl (aggB_ok (by kernel_rfl)) (by kernel_rfl) (by kernel_rfl) (getP_map zR (by have := hg42; omega)) rfl rfl rfl rfl (by kernel_rfl)))) (.cons (fun σ hc => e_put hc rfl rfl (os_plain rfl rfl (s_eqA (b := ((r39.2.getD ((v40).toNat) zR).f) == ((r13.2.getD ((v40).toNat) zR).f) && (((r39.2.getD ((v40).toNat) zR).o) == ((r13.2.getD ((v40).toNat) zR).o))) rfl (.inr rfl) eqAgg33 (by kernel_rfl) rfl rfl rfl rfl rfl rfl (by kernel_rfl)))) (.nil)))))))))) (by kernel_rfl) ?_
                rcases Bool.eq_false_or_eq_true (!(((r39.2.getD ((v40).toNat) zR).f) == ((r13.2.getD ((v40).toNat) zR).f) && (((r39.2.getD ((v40).toNat) zR).o) == ((r13.2.getD ((v40).toNat) zR).o)))) with hb | hb
                · have h := cond_t hb h
                  refine r_condT hb rfl ?_
                  refine r_seq ?_
                  refine r_reg (l := [(8, .u (.c (.v (.bool false))))]) (cg_then (ds := [8]) 1 rfl (by kernel_rfl) (.nil)) rfl (by kernel_rfl) ?_
                  refine r_ret ?_
                  obtain rfl := Option.some.inj h
                  exact ⟨.inr rfl, _, _, .cons (.copy rfl rfl rfl) (.nil), rfl, outs_of trivial⟩
                · have h := cond_f hb h
                  refine r_condF hb rfl ?_
                  refine r_skip ?_
                  refine r_reg (l := [(9, .u (.c (.v (.bool r1)))), (14, .u (.c (.sl true 2 (r13.2.map eR)))), (22, .u (.c (.sl true 2 (r39.2.map eR)))), (23, .u (.c (.v (.int .i64 (IntKind.i64.wrap (v40 + 1))))))]) (cg_then (ds := [130, 131, 23]) 3 rfl (by kernel_rfl) (.nil)) rfl (by kernel_rfl) ?_
                  exact ⟨IntKind.i64.wrap (v40 + 1), h, of_weak (by kernel_rfl)⟩
              · have h := cond_f hb h
                refine r_condF hb rfl ?_
                refine r_exit ?_
                refine r_seq ?_
                refine r_reg (l := [(8, .u (.c (.v (.bool r1))))]) (cg_then (ds := [141, 8]) 2 rfl (by kernel_rfl) (.nil)) rfl (by kernel_rfl) ?_
                refine r_ret ?_
                obtain rfl := Option.some.inj h
                exact ⟨.inr rfl, _, _, .cons (.copy rfl rfl rfl) (.nil), rfl, outs_of trivial⟩
        · have h := cond_f hb h
          refine r_condF hb rfl ?_
          refine r_skip ?_
          refine r_seq ?_
          obtain ⟨r43, hr43, h⟩ := bind_some h
          refine r_reg (l := [(9, .u (.c (.v (.bool r1)))), (14, .u (.c (.sl true 2 (r13.2.map eR)))), (22, .u (.c (.sl true 2 (r43.2.map eR))))]) (co_then 1 rfl (os_plain rfl rfl (s_take (u := .c (storeC r37.1)) (.inl rfl) (.move (by kernel_rfl) rfl) rfl (by kernel_rfl))) (co_then 2 rfl (os_plain rfl rfl (c_call (AC.k (Free.ac (h := hr43))) ⟨_, Tryd.func12, rfl, by kernel_rfl⟩ rfl (hand_root (r := 119) (c := storeC r37.1) (by kernel_rfl) (by kernel_rfl) rfl (.nil)) rfl (by kernel_rfl))) (co_then 3 rfl (os_plain rfl rfl (s_take (u := .c (.sl true 2 (r43.2.map eR))) (.inr rfl) (.move (by kernel_rfl) rfl) rfl (by kernel_rfl))) (.nil)))) rfl (by kernel_rfl) ?_
          refine r_seq ?_
          refine r_seq ?_
          refine r_reg (l := [(9, .u (.c (.v (.bool r1)))), (14, .u (.c (.sl true 2 (r13.2.map eR)))), (22, .u (.c (.sl true 2 (r43.2.map eR)))), (125, .u (.c (.v (.bool ((r43.2.length : Int) != (r13.2.length : Int))))))]) (cg_then (ds := [121]) 1 rfl (by kernel_rfl) (co_then 2 rfl (os_to (os_plain rfl rfl (s_lenV (r := 22) (lo := 0) (n := (r43.2.map eR).length) (pl := none) (sz := 2) rfl sl30 (by kernel_rfl) rfl (by kernel_rfl))) (t' := .u (.c (.v (.int .i64 (r43.2.length : Int))))) (by rw [List.length_map])) (cg_then (ds := [123]) 3 rfl (by kernel_rfl) (co_then 4 rfl (os_to (os_plain rfl rfl (s_lenV (r := 14) (lo := 0) (n := (r13.2.map eR).length) (pl := none) (sz := 2) rfl sl30 (by kernel_rfl) rfl (by kernel_rfl))) (t' := .u (.c (.v (.int .i64 (r13.2.length : Int))))) (by rw [List.length_map])) (cg_then (ds := [125]) 5 rfl (by kernel_rfl) (.nil)))))) rfl (by kernel_rfl) ?_
          rcases Bool.eq_false_or_eq_true ((r43.2.length : Int) != (r13.2.length : Int)) with hb | hb
          · have h := cond_t hb h
            refine r_condT hb rfl ?_
            refine r_seq ?_
            refine r_reg (l := [(8, .u (.c (.v (.bool false))))]) (cg_then (ds := [8]) 1 rfl (by kernel_rfl) (.nil)) rfl (by kernel_rfl) ?_
            refine r_ret ?_
            obtain rfl := Option.some.inj h
            exact ⟨.inr rfl, _, _, .cons (.copy rfl rfl rfl) (.nil), rfl, outs_of trivial⟩
          · have h := cond_f hb h
            refine r_condF hb rfl ?_
            refine r_skip ?_
            refine r_seq ?_
            refine r_seq ?_
            refine r_reg (l := [(9, .u (.c (.v (.bool r1)))), (14, .u (.c (.sl true 2 (r13.2.map eR)))), (22, .u (.c (.sl true 2 (r43.2.map eR)))), (23, .u (.c (.v (.int .i64 0))))]) (cg_then (ds := [23]) 1 rfl (by kernel_rfl) (.nil)) rfl (by kernel_rfl) ?_
            refine r_block ?_
            refine r_weak (of_weak (l := [(9, .u (.c (.v (.bool r1)))), (14, .u (.c (.sl true 2 (r13.2.map eR)))), (22, .u (.c (.sl true 2 (r43.2.map eR)))), (23, .u (.c (.v (.int .i64 0))))]) (by kernel_rfl)) ?_
            refine r_loopI (α := Int) (fun x => [(9, .u (.c (.v (.bool r1)))), (14, .u (.c (.sl true 2 (r13.2.map eR)))), (22, .u (.c (.sl true 2 (r43.2.map eR)))), (23, .u (.c (.v (.int .i64 x))))]) (fun n x => BuddyTakes.l6 k a0 a1 a2 a3 r1 r2 r3 y6 r11 r12 r13 r14 r15 r37 r43 n x = some r) k 0 h (by intro x h; unfold BuddyTakes.l6 at h; cases h) ?_
            rintro n6 v44 h
            replace h : BuddyTakes.l6 k a0 a1 a2 a3 r1 r2 r3 y6 r11 r12 r13 r14 r15 r37 r43 (n6 + 1) v44 = some r := h
            unfold BuddyTakes.l6 at h
            show Run _ _ _ (St.of [(9, .u (.c (.v (.bool r1)))), (14, .u (.c (.sl true 2 (r13.2.map eR)))), (22, .u (.c (.sl true 2 (r43.2.map eR)))), (23, .u (.c (.v (.int .i64 v44))))]) _
            refine r_seq ?_
            refine r_seq ?_
            refine r_reg (l := [(9, .u (.c (.v (.bool r1)))), (14, .u (.c (.sl true 2 (r13.2.map eR)))), (22, .u (.c (.sl true 2 (r43.2.map eR)))), (23, .u (.c (.v (.int .i64 v44)))), (129, .u (.c (.v (.bool (decide (v44 < (r43.2.length : Int)))))))]) (cg_then (ds := [126, 127]) 2 rfl (by kernel_rfl) (co_then 3 rfl (os_to (os_plain rfl rfl (s_lenV (r := 22) (lo := 0) (n := (r43.2.map eR).length) (pl := none) (sz := 2) rfl sl30 (by kernel_rfl) rfl (by kernel_rfl))) (t' := .u (.c (.v (.int .i64 (r43.2.length : Int))))) (by rw [List.length_map])) (cg_then (ds := [129]) 4 rfl (by kernel_rfl) (.nil)))) rfl (by kernel_rfl) ?_
            rcases Bool.eq_false_or_eq_true (decide (v44 < (r43.2.length : Int))) with hb | hb
            · have h := cond_t hb h
              refine r_condT hb rfl ?_
              refine r_skip ?_
              refine r_seq ?_
              refine r_block ?_
              refine r_seq ?_
              obtain ⟨hg45, h⟩ := guard_some h
              simp only [Bool.and_eq_true, decide_eq_true_eq] at hg45
              obtain ⟨hg46, h⟩ := guard_some h
              simp only [Bool.and_eq_true, decide_eq_true_eq] at hg46
              refine r_weak (of_weak (l := [(9, .u (.c (.v (.bool r1)))), (14, .u (.c (.sl true 2 (r13.2.map eR)))), (22, .u (.c (.sl true 2 (r43.2.map eR)))), (23, .u (.c (.v (.int .i64 v44)))), (129, .u (.c (.v (.bool (decide (v44 < (r43.2.length : Int)))))))]) (by kernel_rfl)) ?_
              refine r_anyW (l := [(9, .u (.c (.v (.bool r1)))), (14, .u (.c (.sl true 2 (r13.2.map eR)))), (22, .u (.c (.sl true 2 (r43.2.map eR)))), (23, .u (.c (.v (.int .i64 v44)))), (140, .u (.c (.v (.bool (!(((r43.2.getD ((v44).toNat) zR).f) == ((r13.2.getD ((v44).toNat) zR).f) && (((r43.2.getD ((v44).toNat) zR).o) == ((r13.2.getD ((v44).toNat) zR).o))))))))]) (tab := [[], [], [0, 1], [2], [], [], [4, 5], [6], [3, 7]]) [⟨[], [22], [(132, .whole 22 none 2 ((r43.2.map eR).length))], some 132, false⟩, ⟨[], [23], [(133, .u (.c (.v (.int .i64 v44))))], some 133, false⟩, ⟨[0, 1], [22, 132, 133], [(134, .addr 22 (.i ((v44).toNat) 2) [] 0)], some 134, false⟩, ⟨[0, 1, 2], [22, 134], [(135, .u (.agg [.v (.int .i64 ((r43.2.getD ((v44).toNat) zR).f)), .v (.int .i64 ((r43.2.getD ((v44).toNat) zR).o))]))], some 135, false⟩, ⟨[], [14], [(136, .whole 14 none 2 ((r13.2.map eR).length))], some 136, false⟩, ⟨[], [23], [(137, .u (.c (.v (.int .i64 v44))))], some 137, false⟩, ⟨[4, 5], [14, 136, 137], [(138, .addr 14 (.i ((v44).toNat) 2) [] 0)], some 138, false⟩, ⟨[4, 5, 6], [14, 138], [(139, .u (.agg [.v (.int .i64 ((r13.2.getD ((v44).toNat) zR).f)), .v (.int .i64 ((r13.2.getD ((v44).toNat) zR).o))]))], some 139, false⟩, ⟨[0, 1, 2, 3, 4, 5, 6, 7], [135, 139], [(140, .u (.c (.v (.bool (!(((r43.2.getD ((v44).toNat) zR).f) == ((r13.2.getD ((v44).toNat) zR).f) && (((r43.2.getD ((v44).toNat) zR).o) == ((r13.2.getD ((v44).toNat) zR).o))))))))], some 140, false⟩] hm (by kernel_rfl) (by kernel_rfl) (by kernel_rfl) (.cons (fun σ hc => e_g (d := 132) (t := .whole 22 none 2 ((r43.2.map eR).length)) hc rfl rfl (by kernel_rfl)) (.cons (fun σ hc => e_g (d := 133) (t := .u (.c (.v (.int .i64 v44)))) hc rfl rfl (by kernel_rfl)) (.cons (fun σ hc => e_put hc rfl rfl (os_plain rfl rfl (s_indexV (r := 22) (lo := 0) (n := (r43.2.map eR).length) (pl := none) (sz := 2) (e := v44) (ik := .i64) (k := (v44).toNat) rfl sl30 (by kernel_rfl) (.tmp (by kernel_rfl)) hg45.1 (by rw [List.length_map]; exact hg45.2) (Nat.zero_add _) rfl (by kernel_rfl) (by kernel_rfl)))) (.cons (fun σ hc => e_put hc rfl rfl (os_plain rfl rfl (s_loadA (n := 2) (xs := [.v (.int .i64 ((r43.2.getD ((v44).toNat) zR).f)), .v (.int .i64 ((r43.2.getD ((v44).toNat) zR).o))]) (r := 22) (off := 0) (s := .i ((v44).toNat) 2) (p := []) (c := .sl true 2 (r43.2.map eR)) (cs := eR (r43.2.getD ((v44).toNat) zR)) rfl (aggB_ok (by kernel_rfl)) (by kernel_rfl) (by kernel_rfl) (getP_map zR (by have := hg45; omega)) rfl rfl rfl rfl (by kernel_rfl)))) (.cons (fun σ hc => e_g (d := 136) (t := .whole 14 none 2 ((r13.2.map eR).length)) hc rfl rfl (by kernel_rfl)) (.cons (fun σ hc => e_g (d := 137) (t := .u (.c (.v (.int .i64 v44)))) hc rfl rfl (by kernel_rfl)) (.cons (fun σ hc => e_put hc rfl rfl (os_plain rfl rfl (s_indexV (r := 14) (lo := 0) (n := (r13.2.map eR).length) (pl := none) (sz := 2) (e := v44) (ik := .i64) (k := (v44).toNat) rfl sl30 (by kernel_rfl) (.tmp (by kernel_rfl)) hg46.1 (by rw [List.length_map]; exact hg46.2) (Nat.zero_add _) rfl (by kernel_rfl) (by kernel_rfl)))) (.cons (fun σ hc => e_put hc rfl rfl (os_plain rfl rfl (s_loadA (n := 2) (xs := [.v (.int .i64 ((r13.2.getD ((v44).toNat) zR).f)), .v (.int .i64 ((r13.2.getD ((v44).toNat) zR).o))]) (r := 14) (off := 0) (s := .i ((v44).toNat) 2) (p := []) (c := .sl true 2 (r13.2.map eR)) (cs := eR (r13.2.getD ((v44).toNat) zR)) rfl (aggB_ok (by kernel_rfl)) (by kernel_rfl) (by kernel_rfl) (getP_map zR (by have := hg46; omega)) rfl rfl rfl rfl (by kernel_rfl)))) (.cons (fun σ hc => e_put hc rfl rfl (os_plain rfl rfl (s_eqA (b := ((r43.2.getD ((v44).toNat) zR).f) == ((r13.2.getD ((v44).toNat) zR).f) && (((r43.2.getD ((v44).toNat) zR).o) == ((r13.2.getD ((v44).toNat) zR).o))) rfl (.inr rfl) eqAgg33 (by kernel_rfl) rfl rfl rfl rfl rfl rfl (by kernel_rfl)))) (.nil)))))))))) (by kernel_rfl) ?_
              rcases Bool.eq_false_or_eq_true (!(((r43.2.getD ((v44).toNat) zR).f) == ((r13.2.getD ((v44).toNat) zR).f) && (((r43.2.getD ((v44).toNat) zR).o) == ((r13.2.getD ((v44).toNat) zR).o)))) with hb | hb
              · have h := cond_t hb h
                refine r_condT hb rfl ?_
                refine r_seq ?_
                refine r_reg (l := [(8, .u (.c (.v (.bool false))))]) (cg_then (ds := [8]) 1 rfl (by kernel_rfl) (.nil)) rfl (by kernel_rfl) ?_
                refine r_ret ?_
                obtain rfl := Option.some.inj h
                exact ⟨.inr rfl, _, _, .cons (.copy rfl rfl rfl) (.nil), rfl, outs_of trivial⟩
              · have h := cond_f hb h
                refine r_condF hb rfl ?_
                refine r_skip ?_
                refine r_reg (l := [(9, .u (.c (.v (.bool r1)))), (14, .u (.c (.sl true 2 (r13.2.map eR)))), (22, .u (.c (.sl true 2 (r43.2.map eR)))), (23, .u (.c (.v (.int .i64 (IntKind.i64.wrap (v44 + 1))))))]) (cg_then (ds := [130, 131, 23]) 3 rfl (by kernel_rfl) (.nil)) rfl (by kernel_rfl) ?_
                exact ⟨IntKind.i64.wrap (v44 + 1), h, of_weak (by kernel_rfl)⟩
            · have h := cond_f hb h
              refine r_condF hb rfl ?_
              refine r_exit ?_
              refine r_seq ?_
              refine r_reg (l := [(8, .u (.c (.v (.bool r1))))]) (cg_then (ds := [141, 8]) 2 rfl (by kernel_rfl) (.nil)) rfl (by kernel_rfl) ?_
              refine r_ret ?_
              obtain rfl := Option.some.inj h
              exact ⟨.inr rfl, _, _, .cons (.copy rfl rfl rfl) (.nil), rfl, outs_of trivial⟩
end Go.Proofs.YtehbhpkmlmeblaaDoor.V
