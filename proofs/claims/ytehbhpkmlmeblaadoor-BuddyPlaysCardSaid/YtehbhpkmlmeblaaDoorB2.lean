import Derived.Test.YtehbhpkmlmeblaaDoorB1
namespace Go.Proofs.YtehbhpkmlmeblaaDoor.V
open Go Go.RowKit Go.Proofs Go.Proofs.YtehbhpkmlmeblaaDoor.Q Go.Proofs.YtehbhpkmlmeblaaDoorW.PrintWords
set_option linter.unusedVariables false
set_option linter.unusedSimpArgs false
set_option maxRecDepth 100000
abbrev eB (b : Bool) : List C := [.v (.bool b)]
theorem eB_copy (x : Bool) : (eB x).all copyC = true := rfl
structure D3 where
  w : Int
  f : Int
  o : Int
def eD (x : D3) : List C := [.v (.int .i64 x.w), .v (.int .i64 x.f), .v (.int .i64 x.o)]
abbrev zD : D3 := ⟨0, 0, 0⟩
theorem sliceZ41 : SliceZ Tryd.prog 41 1 1 [.v (.bool false)] := slZ_ok (vs := [(.bool false)]) (by kernel_rfl) (by kernel_rfl) rfl (fun _ _ _ => .cons (F := []) (.v rfl) (.nil))
theorem sl41 : SliceT Tryd.prog 41 1 1 := slB_ok (by kernel_rfl)
theorem sl44 : SliceT Tryd.prog 44 3 24 := slB_ok (by kernel_rfl)
theorem zero46 : ZeroT Tryd.prog 46 [.v (.int .i64 0), .v (.int .i64 0), .v (.int .i64 0)] := zeroB_ok (vs := [(.int .i64 0), (.int .i64 0), (.int .i64 0)]) (by kernel_rfl) (fun _ _ _ => .cons (F := []) (.v rfl) (.cons (F := []) (.v rfl) (.cons (F := []) (.v rfl) (.nil))))
def RNew.l1 (k : Nat) (a0 : Int) : Nat → (List Bool) → Int → Option ((List Bool))
  | 0, _, _ => none
  | n1 + 1, v1, v2 => (bif decide (v2 < a0) then (bif decide (v1.length + [true].length ≤ 1000000) then RNew.l1 k a0 n1 (v1 ++ [true]) (IntKind.i64.wrap (v2 + 1)) else none) else some v1)
set_option maxHeartbeats 4000000 in
def RNew.f (k : Nat) (a0 : Int) : Option ((List Bool)) :=
  RNew.l1 k a0 k [] 0
set_option maxHeartbeats 4000000 in
theorem RNew.ac (k : Nat) (a0 : Int) (r : (List Bool)) (h : RNew.f k a0 = some r) : AC Tryd.prog 38 16 [.c (.v (.int .i64 a0))] [none] [.c (.sl true 1 (r.map eB))] := by
  unfold RNew.f at h
  refine ac_intro (fn := Tryd.f16) (pins := []) (rts := [2]) Tryd.func16 rfl Tryd.ntmps16 rfl (Nat.le_of_ble_eq_true rfl) (pins_lt rfl) rfl (fun w R E vs => ?_)
  refine r_weak (of_weak (l := [(0, .u (.c (.v (.int .i64 a0))))]) (by kernel_rfl)) ?_
  refine r_seq ?_
  refine r_reg (l := [(0, .u (.c (.v (.int .i64 a0))))]) (co_then 1 rfl (os_plain rfl rfl (s_take (.inr rfl) (.sl 1) rfl (by kernel_rfl))) (.nil)) rfl (by kernel_rfl) ?_
  refine r_seq ?_
  refine r_reg (l := [(0, .u (.c (.v (.int .i64 a0)))), (3, .u (.c (.sl true 1 ([].map eB))))]) (co_then 1 rfl (os_plain rfl rfl (s_take (.inr rfl) (.sl 1) rfl (by kernel_rfl))) (.nil)) rfl (by kernel_rfl) ?_
  refine r_seq ?_
  refine r_seq ?_
  refine r_reg (l := [(0, .u (.c (.v (.int .i64 a0)))), (3, .u (.c (.sl true 1 ([].map eB)))), (4, .u (.c (.v (.int .i64 0))))]) (cg_then (ds := [4]) 1 rfl (by kernel_rfl) (.nil)) rfl (by kernel_rfl) ?_
  refine r_block ?_
  refine r_weak (of_weak (l := [(0, .u (.c (.v (.int .i64 a0)))), (3, .u (.c (.sl true 1 ([].map eB)))), (4, .u (.c (.v (.int .i64 0))))]) (by kernel_rfl)) ?_
  refine r_loopI (α := (List Bool) × Int) (fun x => [(0, .u (.c (.v (.int .i64 a0)))), (3, .u (.c (.sl true 1 (x.1.map eB)))), (4, .u (.c (.v (.int .i64 x.2))))]) (fun n x => RNew.l1 k a0 n x.1 x.2 = some r) k ([], 0) h (by intro x h; unfold RNew.l1 at h; cases h) ?_
  rintro n1 ⟨v1, v2⟩ h
  replace h : RNew.l1 k a0 (n1 + 1) v1 v2 = some r := h
  unfold RNew.l1 at h
  show Run _ _ _ (St.of [(0, .u (.c (.v (.int .i64 a0)))), (3, .u (.c (.sl true 1 (v1.map eB)))), (4, .u (.c (.v (.int .i64 v2))))]) _
  refine r_seq ?_
  refine r_seq ?_
  refine r_reg (l := [(0, .u (.c (.v (.int .i64 a0)))), (3, .u (.c (.sl true 1 (v1.map eB)))), (4, .u (.c (.v (.int .i64 v2)))), (7, .u (.c (.v (.bool (decide (v2 < a0))))))]) (cg_then (ds := [5, 6, 7]) 3 rfl (by kernel_rfl) (.nil)) rfl (by kernel_rfl) ?_
  rcases Bool.eq_false_or_eq_true (decide (v2 < a0)) with hb | hb
  · have h := cond_t hb h
    refine r_condT hb rfl ?_
    refine r_skip ?_
    refine r_seq ?_
    refine r_block ?_
    obtain ⟨hg3, h⟩ := guard_some h
    simp only [decide_eq_true_eq] at hg3
    refine r_reg (l := [(0, .u (.c (.v (.int .i64 a0)))), (3, .u (.c (.sl true 1 ((v1 ++ [true]).map eB)))), (4, .u (.c (.v (.int .i64 v2))))]) (co_then 1 rfl (os_plain rfl rfl (s_take (u := .c (.sl true 1 (v1.map eB))) (.inl rfl) (.move (by kernel_rfl) rfl) rfl (by kernel_rfl))) (co_then 2 rfl (os_toG (os_plain rfl rfl (s_buildSlice (sz := 1) (len := 1) (us := [(0, .c (.v (.bool true)))]) (cs := [.v (.bool true)]) rfl sliceZ41 (.cons (.copy (by kernel_rfl) (by kernel_rfl) (by kernel_rfl)) (.nil)) (by kernel_rfl) (Nat.le_of_ble_eq_true rfl) rfl (by kernel_rfl))) (t' := .u (.c (.sl true 1 ([true].map eB)))) (by kernel_rfl)) (co_then 3 rfl (os_toG (os_plain rfl rfl (s_appendM (i := 10) (sz := 1) (rows := v1.map eB) (rows2 := [true].map eB) rfl sliceZ41 (by kernel_rfl) (.v0 (r := 11) (lo := 0) (n := ([true].map eB).length) (own := true) (rows := [true].map eB) (by kernel_rfl) (by kernel_rfl) rows_all) (copy_map eB_copy) (lenMap2 hg3) (Nat.le_of_ble_eq_true rfl) rfl (by kernel_rfl))) (t' := .u (.c (.sl true 1 ((v1 ++ [true]).map eB)))) (by simp only [List.map_append])) (co_then 4 rfl (os_plain rfl rfl (s_take (u := .c (.sl true 1 ((v1 ++ [true]).map eB))) (.inr rfl) (.move (by kernel_rfl) rfl) rfl (by kernel_rfl))) (.nil))))) rfl (by kernel_rfl) ?_
    refine r_reg (l := [(0, .u (.c (.v (.int .i64 a0)))), (3, .u (.c (.sl true 1 ((v1 ++ [true]).map eB)))), (4, .u (.c (.v (.int .i64 (IntKind.i64.wrap (v2 + 1))))))]) (cg_then (ds := [8, 9, 4]) 3 rfl (by kernel_rfl) (.nil)) rfl (by kernel_rfl) ?_
    exact ⟨((v1 ++ [true]), IntKind.i64.wrap (v2 + 1)), h, of_weak (by kernel_rfl)⟩
  · have h := cond_f hb h
    refine r_condF hb rfl ?_
    refine r_exit ?_
    refine r_seq ?_
    refine r_reg (l := [(2, .u (.c (.sl true 1 (v1.map eB))))]) (co_then 1 rfl (os_plain rfl rfl (s_take (u := .c (.sl true 1 (v1.map eB))) (.inl rfl) (.move (by kernel_rfl) rfl) rfl (by kernel_rfl))) (co_then 2 rfl (os_plain rfl rfl (s_take (u := .c (.sl true 1 (v1.map eB))) (.inr rfl) (.move (by kernel_rfl) rfl) rfl (by kernel_rfl))) (.nil))) rfl (by kernel_rfl) ?_
    refine r_ret ?_
    obtain rfl := Option.some.inj h
    exact ⟨.inr rfl, _, _, .cons (.move rfl rfl) (.nil), rfl, outs_of trivial⟩
def RAll.l1 (k : Nat) (a0 : List Bool) (a1 : Int) (a2 : Int) (a3 : Bool) : Nat → Int → Option (Bool)
  | 0, _ => none
  | n1 + 1, v1 => (paviorref01_Power.f k a2).bind fun (r2 : Int) => (bif decide (v1 < r2) then (bif decide (0 ≤ (IntKind.i64.wrap (a1 + v1))) && decide ((IntKind.i64.wrap (a1 + v1)) < (a0.length : Int)) then (bif !((a0.getD ((IntKind.i64.wrap (a1 + v1)).toNat) false) == a3) then some false else RAll.l1 k a0 a1 a2 a3 n1 (IntKind.i64.wrap (v1 + 1))) else none) else some true)
set_option maxHeartbeats 4000000 in
def RAll.f (k : Nat) (a0 : List Bool) (a1 : Int) (a2 : Int) (a3 : Bool) : Option (Bool) :=
  RAll.l1 k a0 a1 a2 a3 k 0
set_option maxHeartbeats 4000000 in
theorem RAll.ac (k : Nat) (a0 : List Bool) (a1 : Int) (a2 : Int) (a3 : Bool) (r : Bool) (h : RAll.f k a0 a1 a2 a3 = some r) : AC Tryd.prog 38 23 [.c (.sl false 1 (a0.map eB)), .c (.v (.int .i64 a1)), .c (.v (.int .i64 a2)), .c (.v (.bool a3))] [none, none, none, none] [.c (.v (.bool r))] := by
  unfold RAll.f at h
  refine ac_intro (fn := Tryd.f23) (pins := []) (rts := [8]) Tryd.func23 rfl Tryd.ntmps23 rfl (Nat.le_of_ble_eq_true rfl) (pins_lt rfl) rfl (fun w R E vs => ?_)
  refine r_weak (of_weak (l := [(0, .u (.c (.sl false 1 (a0.map eB)))), (1, .u (.c (.v (.int .i64 a1)))), (2, .u (.c (.v (.int .i64 a2)))), (3, .u (.c (.v (.bool a3))))]) (by kernel_rfl)) ?_
  refine r_seq ?_
  refine r_reg (l := [(0, .u (.c (.sl false 1 (a0.map eB)))), (1, .u (.c (.v (.int .i64 a1)))), (2, .u (.c (.v (.int .i64 a2)))), (3, .u (.c (.v (.bool a3))))]) (cg_then (ds := [8]) 1 rfl (by kernel_rfl) (.nil)) rfl (by kernel_rfl) ?_
  refine r_seq ?_
  refine r_seq ?_
  refine r_reg (l := [(0, .u (.c (.sl false 1 (a0.map eB)))), (1, .u (.c (.v (.int .i64 a1)))), (2, .u (.c (.v (.int .i64 a2)))), (3, .u (.c (.v (.bool a3)))), (9, .u (.c (.v (.int .i64 0))))]) (cg_then (ds := [9]) 1 rfl (by kernel_rfl) (.nil)) rfl (by kernel_rfl) ?_
  refine r_block ?_
  refine r_weak (of_weak (l := [(0, .u (.c (.sl false 1 (a0.map eB)))), (1, .u (.c (.v (.int .i64 a1)))), (2, .u (.c (.v (.int .i64 a2)))), (3, .u (.c (.v (.bool a3)))), (9, .u (.c (.v (.int .i64 0))))]) (by kernel_rfl)) ?_
  refine r_loopI (α := Int) (fun x => [(0, .u (.c (.sl false 1 (a0.map eB)))), (1, .u (.c (.v (.int .i64 a1)))), (2, .u (.c (.v (.int .i64 a2)))), (3, .u (.c (.v (.bool a3)))), (9, .u (.c (.v (.int .i64 x))))]) (fun n x => RAll.l1 k a0 a1 a2 a3 n x = some r) k 0 h (by intro x h; unfold RAll.l1 at h; cases h) ?_
  rintro n1 v1 h
  replace h : RAll.l1 k a0 a1 a2 a3 (n1 + 1) v1 = some r := h
  unfold RAll.l1 at h
  show Run _ _ _ (St.of [(0, .u (.c (.sl false 1 (a0.map eB)))), (1, .u (.c (.v (.int .i64 a1)))), (2, .u (.c (.v (.int .i64 a2)))), (3, .u (.c (.v (.bool a3)))), (9, .u (.c (.v (.int .i64 v1))))]) _
  refine r_seq ?_
  refine r_seq ?_
  obtain ⟨r2, hr2, h⟩ := bind_some h
  refine r_reg (l := [(0, .u (.c (.sl false 1 (a0.map eB)))), (1, .u (.c (.v (.int .i64 a1)))), (2, .u (.c (.v (.int .i64 a2)))), (3, .u (.c (.v (.bool a3)))), (9, .u (.c (.v (.int .i64 v1)))), (13, .u (.c (.v (.bool (decide (v1 < r2))))))]) (cg_then (ds := [10, 11]) 2 rfl (by kernel_rfl) (co_then 3 rfl (os_plain rfl rfl (c_callQ (AC.k (paviorref01_Power.ac (h := hr2))) ⟨_, Tryd.func18, rfl, by kernel_rfl⟩ rfl (.cons (.copy (by kernel_rfl) rfl) (.nil)) (by kernel_rfl))) (cg_then (ds := [13]) 4 rfl (by kernel_rfl) (.nil)))) rfl (by kernel_rfl) ?_
  rcases Bool.eq_false_or_eq_true (decide (v1 < r2)) with hb | hb
  · have h := cond_t hb h
    refine r_condT hb rfl ?_
    refine r_skip ?_
    refine r_seq ?_
    refine r_block ?_
    refine r_seq ?_
    obtain ⟨hg3, h⟩ := guard_some h
    simp only [Bool.and_eq_true, decide_eq_true_eq] at hg3
    refine r_reg (l := [(0, .u (.c (.sl false 1 (a0.map eB)))), (1, .u (.c (.v (.int .i64 a1)))), (2, .u (.c (.v (.int .i64 a2)))), (3, .u (.c (.v (.bool a3)))), (9, .u (.c (.v (.int .i64 v1)))), (23, .u (.c (.v (.bool (!((a0.getD ((IntKind.i64.wrap (a1 + v1)).toNat) false) == a3))))))]) (cg_then (ds := [16, 17, 18, 19]) 4 rfl (by kernel_rfl) (co_then 5 rfl (os_plain rfl rfl (s_indexU (own := false) (sz := 1) (rows := (a0.map eB)) (e := (IntKind.i64.wrap (a1 + v1))) (ik := .i64) rfl sl41 (by kernel_rfl) (.tmp (by kernel_rfl)) hg3.1 (by rw [List.length_map]; exact hg3.2) rfl (by kernel_rfl) (by kernel_rfl))) (co_then 6 rfl (os_plain rfl rfl (s_load1 (x := .v (.bool (a0.getD ((IntKind.i64.wrap (a1 + v1)).toNat) false))) (r := 16) (off := 0) (s := .i ((IntKind.i64.wrap (a1 + v1)).toNat) 1) (p := []) (c := .sl false 1 (a0.map eB)) (cs := eB (a0.getD ((IntKind.i64.wrap (a1 + v1)).toNat) false)) rfl (oneB_ok (by kernel_rfl)) (by kernel_rfl) (by kernel_rfl) (getP_map false (by have := hg3; omega)) rfl rfl rfl (by kernel_rfl))) (cg_then (ds := [22, 23]) 8 rfl (by kernel_rfl) (.nil))))) rfl (by kernel_rfl) ?_
    rcases Bool.eq_false_or_eq_true (!((a0.getD ((IntKind.i64.wrap (a1 + v1)).toNat) false) == a3)) with hb | hb
    · have h := cond_t hb h
      refine r_condT hb rfl ?_
      refine r_seq ?_
      refine r_reg (l := [(8, .u (.c (.v (.bool false))))]) (cg_then (ds := [8]) 1 rfl (by kernel_rfl) (.nil)) rfl (by kernel_rfl) ?_
      refine r_ret ?_
      obtain rfl := Option.some.inj h
      exact ⟨.inr rfl, _, _, .cons (.copy rfl rfl rfl) (.nil), rfl, outs_of trivial⟩
    · have h := cond_f hb h
      refine r_condF hb rfl ?_
      refine r_skip ?_
      refine r_reg (l := [(0, .u (.c (.sl false 1 (a0.map eB)))), (1, .u (.c (.v (.int .i64 a1)))), (2, .u (.c (.v (.int .i64 a2)))), (3, .u (.c (.v (.bool a3)))), (9, .u (.c (.v (.int .i64 (IntKind.i64.wrap (v1 + 1))))))]) (cg_then (ds := [14, 15, 9]) 3 rfl (by kernel_rfl) (.nil)) rfl (by kernel_rfl) ?_
      exact ⟨IntKind.i64.wrap (v1 + 1), h, of_weak (by kernel_rfl)⟩
  · have h := cond_f hb h
    refine r_condF hb rfl ?_
    refine r_exit ?_
    refine r_seq ?_
    refine r_reg (l := [(8, .u (.c (.v (.bool true))))]) (cg_then (ds := [8]) 1 rfl (by kernel_rfl) (.nil)) rfl (by kernel_rfl) ?_
    refine r_ret ?_
    obtain rfl := Option.some.inj h
    exact ⟨.inr rfl, _, _, .cons (.copy rfl rfl rfl) (.nil), rfl, outs_of trivial⟩
set_option maxHeartbeats 4000000 in
def RBlock.f (k : Nat) (a0 : List Bool) (a1 : Int) (a2 : Int) : Option (Bool) :=
  (bif decide (a2 ≥ 0) then (bif decide (a2 ≤ 5) then (bif decide (a1 ≥ 0) then (bif decide (a1 < (a0.length : Int)) then (paviorref01_Power.f k a2).bind fun (r5 : Int) => (bif decide (r5 ≠ 0) then (bif (a1.tmod r5) == 0 then (paviorref01_Power.f k a2).bind fun (r8 : Int) => some (decide ((IntKind.i64.wrap (a1 + r8)) ≤ (a0.length : Int))) else some false) else none) else some false) else some false) else some false) else some false)
set_option maxHeartbeats 4000000 in
theorem RBlock.ac (k : Nat) (a0 : List Bool) (a1 : Int) (a2 : Int) (r : Bool) (h : RBlock.f k a0 a1 a2 = some r) : AC Tryd.prog 38 21 [.c (.sl false 1 (a0.map eB)), .c (.v (.int .i64 a1)), .c (.v (.int .i64 a2))] [none, none, none] [.c (.v (.bool r))] := by
  unfold RBlock.f at h
  refine ac_intro (fn := Tryd.f21) (pins := []) (rts := [6]) Tryd.func21 rfl Tryd.ntmps21 rfl (Nat.le_of_ble_eq_true rfl) (pins_lt rfl) rfl (fun w R E vs => ?_)
  refine r_weak (of_weak (l := [(0, .u (.c (.sl false 1 (a0.map eB)))), (1, .u (.c (.v (.int .i64 a1)))), (2, .u (.c (.v (.int .i64 a2))))]) (by kernel_rfl)) ?_
  refine r_seq ?_
  refine r_reg (l := [(0, .u (.c (.sl false 1 (a0.map eB)))), (1, .u (.c (.v (.int .i64 a1)))), (2, .u (.c (.v (.int .i64 a2))))]) (cg_then (ds := [6]) 1 rfl (by kernel_rfl) (.nil)) rfl (by kernel_rfl) ?_
  refine r_seq ?_
  rcases Bool.eq_false_or_eq_true (decide (a2 ≥ 0)) with hb | hb
  · have h := cond_t hb h
    have hs1 := hb
    rcases Bool.eq_false_or_eq_true (decide (a2 ≤ 5)) with hb | hb
    · have h := cond_t hb h
      have hs2 := hb
      rcases Bool.eq_false_or_eq_true (decide (a1 ≥ 0)) with hb | hb
      · have h := cond_t hb h
        have hs3 := hb
        rcases Bool.eq_false_or_eq_true (decide (a1 < (a0.length : Int))) with hb | hb
        · have h := cond_t hb h
          have hs4 := hb
          obtain ⟨r5, hr5, h⟩ := bind_some h
          obtain ⟨hg6, h⟩ := guard_some h
          simp only [decide_eq_true_eq] at hg6
          rcases Bool.eq_false_or_eq_true ((a1.tmod r5) == 0) with hb | hb
          · have h := cond_t hb h
            have hs7 := hb
            obtain ⟨r8, hr8, h⟩ := bind_some h
            refine r_reg (l := [(6, .u (.c (.v (.bool (decide ((IntKind.i64.wrap (a1 + r8)) ≤ (a0.length : Int)))))))]) (cg_then (ds := [7, 8]) 2 rfl (by kernel_rfl) (co_then 3 rfl (os_ge (d := 9) (t := .u (.c (.v (.bool (decide (a2 ≥ 0)))))) (t' := .u (.c (.v (.bool true)))) (by kernel_rfl) (by rw [hs1])) (cg_then (ds := [10, 11, 12]) 6 rfl (by kernel_rfl) (co_then 7 rfl (os_ge (d := 13) (t := .u (.c (.v (.bool (decide (a2 ≤ 5)))))) (t' := .u (.c (.v (.bool true)))) (by kernel_rfl) (by rw [hs2])) (cg_then (ds := [14, 15, 16]) 10 rfl (by kernel_rfl) (co_then 11 rfl (os_ge (d := 17) (t := .u (.c (.v (.bool (decide (a1 ≥ 0)))))) (t' := .u (.c (.v (.bool true)))) (by kernel_rfl) (by rw [hs3])) (cg_then (ds := [18, 19]) 13 rfl (by kernel_rfl) (co_then 14 rfl (os_to (os_gy rfl rfl rfl (by kernel_rfl) (s_lenU (own := false) (sz := 1) (rows := (a0.map eB)) rfl sl41 (by kernel_rfl) rfl (by kernel_rfl))) (t' := .u (.c (.v (.int .i64 (a0.length : Int))))) (by rw [List.length_map])) (cg_then (ds := [21, 22]) 16 rfl (by kernel_rfl) (co_then 17 rfl (os_ge (d := 23) (t := .u (.c (.v (.bool (decide (a1 < (a0.length : Int))))))) (t' := .u (.c (.v (.bool true)))) (by kernel_rfl) (by rw [hs4])) (cg_then (ds := [24, 25]) 19 rfl (by kernel_rfl) (co_then 20 rfl (os_gy rfl rfl rfl (by kernel_rfl) (c_callQ (AC.k (paviorref01_Power.ac (h := hr5))) ⟨_, Tryd.func18, rfl, by kernel_rfl⟩ rfl (.cons (.copy (by kernel_rfl) rfl) (.nil)) (by kernel_rfl))) (co_then 21 rfl (os_to (os_gy rfl rfl rfl (by kernel_rfl) (s_div (op := .rem) (k := .i64) (p := a1) (q := r5) rfl (.inr rfl) (by kernel_rfl) (by kernel_rfl) hg6 rfl (by kernel_rfl))) (t' := .u (.c (.v (.int .i64 (a1.tmod r5))))) (by kernel_rfl)) (cg_then (ds := [28, 29]) 23 rfl (by kernel_rfl) (co_then 24 rfl (os_ge (d := 30) (t := .u (.c (.v (.bool ((a1.tmod r5) == 0))))) (t' := .u (.c (.v (.bool true)))) (by kernel_rfl) (by rw [hs7])) (cg_then (ds := [31, 32]) 26 rfl (by kernel_rfl) (co_then 27 rfl (os_gy rfl rfl rfl (by kernel_rfl) (c_callQ (AC.k (paviorref01_Power.ac (h := hr8))) ⟨_, Tryd.func18, rfl, by kernel_rfl⟩ rfl (.cons (.copy (by kernel_rfl) rfl) (.nil)) (by kernel_rfl))) (cg_then (ds := [34, 35]) 29 rfl (by kernel_rfl) (co_then 30 rfl (os_to (os_gy rfl rfl rfl (by kernel_rfl) (s_lenU (own := false) (sz := 1) (rows := (a0.map eB)) rfl sl41 (by kernel_rfl) rfl (by kernel_rfl))) (t' := .u (.c (.v (.int .i64 (a0.length : Int))))) (by rw [List.length_map])) (cg_then (ds := [37, 38, 6]) 33 rfl (by kernel_rfl) (.nil))))))))))))))))))))) rfl (by kernel_rfl) ?_
            refine r_ret ?_
            obtain rfl := Option.some.inj h
            exact ⟨.inr rfl, _, _, .cons (.copy rfl rfl rfl) (.nil), rfl, outs_of trivial⟩
          · have h := cond_f hb h
            have hs9 := hb
            refine r_reg (l := [(6, .u (.c (.v (.bool false))))]) (cg_then (ds := [7, 8]) 2 rfl (by kernel_rfl) (co_then 3 rfl (os_ge (d := 9) (t := .u (.c (.v (.bool (decide (a2 ≥ 0)))))) (t' := .u (.c (.v (.bool true)))) (by kernel_rfl) (by rw [hs1])) (cg_then (ds := [10, 11, 12]) 6 rfl (by kernel_rfl) (co_then 7 rfl (os_ge (d := 13) (t := .u (.c (.v (.bool (decide (a2 ≤ 5)))))) (t' := .u (.c (.v (.bool true)))) (by kernel_rfl) (by rw [hs2])) (cg_then (ds := [14, 15, 16]) 10 rfl (by kernel_rfl) (co_then 11 rfl (os_ge (d := 17) (t := .u (.c (.v (.bool (decide (a1 ≥ 0)))))) (t' := .u (.c (.v (.bool true)))) (by kernel_rfl) (by rw [hs3])) (cg_then (ds := [18, 19]) 13 rfl (by kernel_rfl) (co_then 14 rfl (os_to (os_gy rfl rfl rfl (by kernel_rfl) (s_lenU (own := false) (sz := 1) (rows := (a0.map eB)) rfl sl41 (by kernel_rfl) rfl (by kernel_rfl))) (t' := .u (.c (.v (.int .i64 (a0.length : Int))))) (by rw [List.length_map])) (cg_then (ds := [21, 22]) 16 rfl (by kernel_rfl) (co_then 17 rfl (os_ge (d := 23) (t := .u (.c (.v (.bool (decide (a1 < (a0.length : Int))))))) (t' := .u (.c (.v (.bool true)))) (by kernel_rfl) (by rw [hs4])) (cg_then (ds := [24, 25]) 19 rfl (by kernel_rfl) (co_then 20 rfl (os_gy rfl rfl rfl (by kernel_rfl) (c_callQ (AC.k (paviorref01_Power.ac (h := hr5))) ⟨_, Tryd.func18, rfl, by kernel_rfl⟩ rfl (.cons (.copy (by kernel_rfl) rfl) (.nil)) (by kernel_rfl))) (co_then 21 rfl (os_to (os_gy rfl rfl rfl (by kernel_rfl) (s_div (op := .rem) (k := .i64) (p := a1) (q := r5) rfl (.inr rfl) (by kernel_rfl) (by kernel_rfl) hg6 rfl (by kernel_rfl))) (t' := .u (.c (.v (.int .i64 (a1.tmod r5))))) (by kernel_rfl)) (cg_then (ds := [28, 29]) 23 rfl (by kernel_rfl) (co_then 24 rfl (os_ge (d := 30) (t := .u (.c (.v (.bool ((a1.tmod r5) == 0))))) (t' := .u (.c (.v (.bool false)))) (by kernel_rfl) (by rw [hs9])) (cg_then (ds := [31, 32, 33, 34, 35, 36, 37, 38, 6]) 33 rfl (by kernel_rfl) (.nil))))))))))))))))) rfl (by kernel_rfl) ?_
            refine r_ret ?_
            obtain rfl := Option.some.inj h
            exact ⟨.inr rfl, _, _, .cons (.copy rfl rfl rfl) (.nil), rfl, outs_of trivial⟩
        · have h := cond_f hb h
          have hs10 := hb
          refine r_reg (l := [(6, .u (.c (.v (.bool false))))]) (cg_then (ds := [7, 8]) 2 rfl (by kernel_rfl) (co_then 3 rfl (os_ge (d := 9) (t := .u (.c (.v (.bool (decide (a2 ≥ 0)))))) (t' := .u (.c (.v (.bool true)))) (by kernel_rfl) (by rw [hs1])) (cg_then (ds := [10, 11, 12]) 6 rfl (by kernel_rfl) (co_then 7 rfl (os_ge (d := 13) (t := .u (.c (.v (.bool (decide (a2 ≤ 5)))))) (t' := .u (.c (.v (.bool true)))) (by kernel_rfl) (by rw [hs2])) (cg_then (ds := [14, 15, 16]) 10 rfl (by kernel_rfl) (co_then 11 rfl (os_ge (d := 17) (t := .u (.c (.v (.bool (decide (a1 ≥ 0)))))) (t' := .u (.c (.v (.bool true)))) (by kernel_rfl) (by rw [hs3])) (cg_then (ds := [18, 19]) 13 rfl (by kernel_rfl) (co_then 14 rfl (os_to (os_gy rfl rfl rfl (by kernel_rfl) (s_lenU (own := false) (sz := 1) (rows := (a0.map eB)) rfl sl41 (by kernel_rfl) rfl (by kernel_rfl))) (t' := .u (.c (.v (.int .i64 (a0.length : Int))))) (by rw [List.length_map])) (cg_then (ds := [21, 22]) 16 rfl (by kernel_rfl) (co_then 17 rfl (os_ge (d := 23) (t := .u (.c (.v (.bool (decide (a1 < (a0.length : Int))))))) (t' := .u (.c (.v (.bool false)))) (by kernel_rfl) (by rw [hs10])) (cg_then (ds := [24, 25, 26, 27, 28, 29, 30, 31, 32, 33, 34, 35, 36, 37, 38, 6]) 33 rfl (by kernel_rfl) (.nil)))))))))))) rfl (by kernel_rfl) ?_
          refine r_ret ?_
          obtain rfl := Option.some.inj h
          exact ⟨.inr rfl, _, _, .cons (.copy rfl rfl rfl) (.nil), rfl, outs_of trivial⟩
      · have h := cond_f hb h
        have hs11 := hb
        refine r_reg (l := [(6, .u (.c (.v (.bool false))))]) (cg_then (ds := [7, 8]) 2 rfl (by kernel_rfl) (co_then 3 rfl (os_ge (d := 9) (t := .u (.c (.v (.bool (decide (a2 ≥ 0)))))) (t' := .u (.c (.v (.bool true)))) (by kernel_rfl) (by rw [hs1])) (cg_then (ds := [10, 11, 12]) 6 rfl (by kernel_rfl) (co_then 7 rfl (os_ge (d := 13) (t := .u (.c (.v (.bool (decide (a2 ≤ 5)))))) (t' := .u (.c (.v (.bool true)))) (by kernel_rfl) (by rw [hs2])) (cg_then (ds := [14, 15, 16]) 10 rfl (by kernel_rfl) (co_then 11 rfl (os_ge (d := 17) (t := .u (.c (.v (.bool (decide (a1 ≥ 0)))))) (t' := .u (.c (.v (.bool false)))) (by kernel_rfl) (by rw [hs11])) (cg_then (ds := [18, 19, 20, 21, 22, 23, 24, 25, 26, 27, 28, 29, 30, 31, 32, 33, 34, 35, 36, 37, 38, 6]) 33 rfl (by kernel_rfl) (.nil)))))))) rfl (by kernel_rfl) ?_
        refine r_ret ?_
        obtain rfl := Option.some.inj h
        exact ⟨.inr rfl, _, _, .cons (.copy rfl rfl rfl) (.nil), rfl, outs_of trivial⟩
    · have h := cond_f hb h
      have hs12 := hb
      refine r_reg (l := [(6, .u (.c (.v (.bool false))))]) (cg_then (ds := [7, 8]) 2 rfl (by kernel_rfl) (co_then 3 rfl (os_ge (d := 9) (t := .u (.c (.v (.bool (decide (a2 ≥ 0)))))) (t' := .u (.c (.v (.bool true)))) (by kernel_rfl) (by rw [hs1])) (cg_then (ds := [10, 11, 12]) 6 rfl (by kernel_rfl) (co_then 7 rfl (os_ge (d := 13) (t := .u (.c (.v (.bool (decide (a2 ≤ 5)))))) (t' := .u (.c (.v (.bool false)))) (by kernel_rfl) (by rw [hs12])) (cg_then (ds := [14, 15, 16, 17, 18, 19, 20, 21, 22, 23, 24, 25, 26, 27, 28, 29, 30, 31, 32, 33, 34, 35, 36, 37, 38, 6]) 33 rfl (by kernel_rfl) (.nil)))))) rfl (by kernel_rfl) ?_
      refine r_ret ?_
      obtain rfl := Option.some.inj h
      exact ⟨.inr rfl, _, _, .cons (.copy rfl rfl rfl) (.nil), rfl, outs_of trivial⟩
  · have h := cond_f hb h
    have hs13 := hb
    refine r_reg (l := [(6, .u (.c (.v (.bool false))))]) (cg_then (ds := [7, 8]) 2 rfl (by kernel_rfl) (co_then 3 rfl (os_ge (d := 9) (t := .u (.c (.v (.bool (decide (a2 ≥ 0)))))) (t' := .u (.c (.v (.bool false)))) (by kernel_rfl) (by rw [hs13])) (cg_then (ds := [10, 11, 12, 13, 14, 15, 16, 17, 18, 19, 20, 21, 22, 23, 24, 25, 26, 27, 28, 29, 30, 31, 32, 33, 34, 35, 36, 37, 38, 6]) 33 rfl (by kernel_rfl) (.nil)))) rfl (by kernel_rfl) ?_
    refine r_ret ?_
    obtain rfl := Option.some.inj h
    exact ⟨.inr rfl, _, _, .cons (.copy rfl rfl rfl) (.nil), rfl, outs_of trivial⟩
def RFree.l2 (k : Nat) (a0 : List Bool) (v1 : List Blk) (v2 : Int) : Nat → (List Blk) → Int → Option ((List Blk) × Int)
  | 0, _, _ => none
  | n2 + 1, v4, v5 => (bif decide (v5 < 5) then (RBlock.f k a0 v2 (IntKind.i64.wrap (v5 + 1))).bind fun (r8 : Bool) => (bif r8 then (RAll.f k a0 v2 (IntKind.i64.wrap (v5 + 1)) true).bind fun (r10 : Bool) => (bif r10 then RFree.l2 k a0 v1 v2 n2 v4 (IntKind.i64.wrap (v5 + 1)) else some (v4, v5)) else some (v4, v5)) else some (v4, v5))
def RFree.l1 (k : Nat) (a0 : List Bool) : Nat → (List Blk) → Int → Option ((List Blk))
  | 0, _, _ => none
  | n1 + 1, v1, v2 => (bif decide (v2 < (a0.length : Int)) then (bif decide (0 ≤ v2) && decide (v2 < (a0.length : Int)) then (bif !(a0.getD v2.toNat false) then RFree.l1 k a0 n1 v1 (IntKind.i64.wrap (v2 + 1)) else (RFree.l2 k a0 v1 v2 k v1 0).bind fun (y6 : (List Blk) × Int) => (bif decide (y6.1.length + [(⟨v2, y6.2⟩ : Blk)].length ≤ 1000000) then (paviorref01_Power.f k y6.2).bind fun (r12 : Int) => RFree.l1 k a0 n1 (y6.1 ++ [(⟨v2, y6.2⟩ : Blk)]) (IntKind.i64.wrap (v2 + r12)) else none)) else none) else some v1)
set_option maxHeartbeats 4000000 in
def RFree.f (k : Nat) (a0 : List Bool) : Option ((List Blk)) :=
  RFree.l1 k a0 k [] 0
set_option maxHeartbeats 4000000 in
theorem RFree.ac (k : Nat) (a0 : List Bool) (r : (List Blk)) (h : RFree.f k a0 = some r) : AC Tryd.prog 38 30 [.c (.sl false 1 (a0.map eB))] [none] [.c (.sl true 2 (r.map eR))] := by
  unfold RFree.f at h
  refine ac_intro (fn := Tryd.f30) (pins := []) (rts := [2]) Tryd.func30 rfl Tryd.ntmps30 rfl (Nat.le_of_ble_eq_true rfl) (pins_lt rfl) rfl (fun w R E vs => ?_)
  refine r_weak (of_weak (l := [(0, .u (.c (.sl false 1 (a0.map eB))))]) (by kernel_rfl)) ?_
  refine r_seq ?_
  refine r_reg (l := [(0, .u (.c (.sl false 1 (a0.map eB))))]) (co_then 1 rfl (os_plain rfl rfl (s_take (.inr rfl) (.sl 2) rfl (by kernel_rfl))) (.nil)) rfl (by kernel_rfl) ?_
  refine r_seq ?_
  refine r_reg (l := [(0, .u (.c (.sl false 1 (a0.map eB)))), (3, .u (.c (.sl true 2 ([].map eR))))]) (co_then 1 rfl (os_plain rfl rfl (s_take (.inr rfl) (.sl 2) rfl (by kernel_rfl))) (.nil)) rfl (by kernel_rfl) ?_
  refine r_seq ?_
  refine r_reg (l := [(0, .u (.c (.sl false 1 (a0.map eB)))), (3, .u (.c (.sl true 2 ([].map eR)))), (4, .u (.c (.v (.int .i64 0))))]) (cg_then (ds := [4]) 1 rfl (by kernel_rfl) (.nil)) rfl (by kernel_rfl) ?_
  refine r_seq ?_
  refine r_block ?_
  refine r_weak (of_weak (l := [(0, .u (.c (.sl false 1 (a0.map eB)))), (3, .u (.c (.sl true 2 ([].map eR)))), (4, .u (.c (.v (.int .i64 0))))]) (by kernel_rfl)) ?_
  refine r_loopI (α := (List Blk) × Int) (fun x => [(0, .u (.c (.sl false 1 (a0.map eB)))), (3, .u (.c (.sl true 2 (x.1.map eR)))), (4, .u (.c (.v (.int .i64 x.2))))]) (fun n x => RFree.l1 k a0 n x.1 x.2 = some r) k ([], 0) h (by intro x h; unfold RFree.l1 at h; cases h) ?_
  rintro n1 ⟨v1, v2⟩ h
  replace h : RFree.l1 k a0 (n1 + 1) v1 v2 = some r := h
  unfold RFree.l1 at h
  show Run _ _ _ (St.of [(0, .u (.c (.sl false 1 (a0.map eB)))), (3, .u (.c (.sl true 2 (v1.map eR)))), (4, .u (.c (.v (.int .i64 v2))))]) _
  refine r_seq ?_
  refine r_seq ?_
  refine r_reg (l := [(0, .u (.c (.sl false 1 (a0.map eB)))), (3, .u (.c (.sl true 2 (v1.map eR)))), (4, .u (.c (.v (.int .i64 v2)))), (9, .u (.c (.v (.bool (decide (v2 < (a0.length : Int)))))))]) (cg_then (ds := [6, 7]) 2 rfl (by kernel_rfl) (co_then 3 rfl (os_to (os_plain rfl rfl (s_lenU (own := false) (sz := 1) (rows := (a0.map eB)) rfl sl41 (by kernel_rfl) rfl (by kernel_rfl))) (t' := .u (.c (.v (.int .i64 (a0.length : Int))))) (by rw [List.length_map])) (cg_then (ds := [9]) 4 rfl (by kernel_rfl) (.nil)))) rfl (by kernel_rfl) ?_
  rcases Bool.eq_false_or_eq_true (decide (v2 < (a0.length : Int))) with hb | hb
  · have h := cond_t hb h
    refine r_condT hb rfl ?_
    refine r_skip ?_
    refine r_block ?_
    refine r_seq ?_
    refine r_seq ?_
    obtain ⟨hg3, h⟩ := guard_some h
    simp only [Bool.and_eq_true, decide_eq_true_eq] at hg3
    refine r_reg (l := [(0, .u (.c (.sl false 1 (a0.map eB)))), (3, .u (.c (.sl true 2 (v1.map eR)))), (4, .u (.c (.v (.int .i64 v2)))), (14, .u (.c (.v (.bool (!(a0.getD v2.toNat false))))))]) (cg_then (ds := [10, 11]) 2 rfl (by kernel_rfl) (co_then 3 rfl (os_plain rfl rfl (s_indexU (own := false) (sz := 1) (rows := (a0.map eB)) (e := v2) (ik := .i64) rfl sl41 (by kernel_rfl) (.tmp (by kernel_rfl)) hg3.1 (by rw [List.length_map]; exact hg3.2) rfl (by kernel_rfl) (by kernel_rfl))) (co_then 4 rfl (os_plain rfl rfl (s_load1 (x := .v (.bool (a0.getD v2.toNat false))) (r := 10) (off := 0) (s := .i v2.toNat 1) (p := []) (c := .sl false 1 (a0.map eB)) (cs := eB (a0.getD v2.toNat false)) rfl (oneB_ok (by kernel_rfl)) (by kernel_rfl) (by kernel_rfl) (getP_map false (by have := hg3; omega)) rfl rfl rfl (by kernel_rfl))) (cg_then (ds := [14]) 5 rfl (by kernel_rfl) (.nil))))) rfl (by kernel_rfl) ?_
    rcases Bool.eq_false_or_eq_true (!(a0.getD v2.toNat false)) with hb | hb
    · have h := cond_t hb h
      refine r_condT hb rfl ?_
      refine r_seq ?_
      refine r_reg (l := [(0, .u (.c (.sl false 1 (a0.map eB)))), (3, .u (.c (.sl true 2 (v1.map eR)))), (4, .u (.c (.v (.int .i64 (IntKind.i64.wrap (v2 + 1))))))]) (cg_then (ds := [15, 16, 4]) 3 rfl (by kernel_rfl) (.nil)) rfl (by kernel_rfl) ?_
      refine r_exit ?_
      exact ⟨(v1, IntKind.i64.wrap (v2 + 1)), h, of_weak (by kernel_rfl)⟩
    · have h := cond_f hb h
      refine r_condF hb rfl ?_
      refine r_skip ?_
      refine r_seq ?_
      refine r_reg (l := [(0, .u (.c (.sl false 1 (a0.map eB)))), (3, .u (.c (.sl true 2 (v1.map eR)))), (4, .u (.c (.v (.int .i64 v2)))), (5, .u (.c (.v (.int .i64 0))))]) (cg_then (ds := [5]) 1 rfl (by kernel_rfl) (.nil)) rfl (by kernel_rfl) ?_
      refine r_seq ?_
      refine r_block ?_
      refine r_weak (of_weak (l := [(0, .u (.c (.sl false 1 (a0.map eB)))), (3, .u (.c (.sl true 2 (v1.map eR)))), (4, .u (.c (.v (.int .i64 v2)))), (5, .u (.c (.v (.int .i64 0))))]) (by kernel_rfl)) ?_
      obtain ⟨y6, hy6, h_y6⟩ := bind_some h
      refine r_loopI (α := (List Blk) × Int) (fun x => [(0, .u (.c (.sl false 1 (a0.map eB)))), (3, .u (.c (.sl true 2 (x.1.map eR)))), (4, .u (.c (.v (.int .i64 v2)))), (5, .u (.c (.v (.int .i64 x.2))))]) (fun n x => RFree.l2 k a0 v1 v2 n x.1 x.2 = some y6) k (v1, 0) hy6 (by intro x h; unfold RFree.l2 at h; cases h) ?_
      rintro n2 ⟨v4, v5⟩ h
      replace h : RFree.l2 k a0 v1 v2 (n2 + 1) v4 v5 = some y6 := h
      unfold RFree.l2 at h
      show Run _ _ _ (St.of [(0, .u (.c (.sl false 1 (a0.map eB)))), (3, .u (.c (.sl true 2 (v4.map eR)))), (4, .u (.c (.v (.int .i64 v2)))), (5, .u (.c (.v (.int .i64 v5))))]) _
      refine r_seq ?_
      refine r_seq ?_
      rcases Bool.eq_false_or_eq_true (decide (v5 < 5)) with hb | hb
      · have h := cond_t hb h
        have hs7 := hb
        obtain ⟨r8, hr8, h⟩ := bind_some h
        rcases Bool.eq_false_or_eq_true (r8) with hb | hb
        · have h := cond_t hb h
          have hs9 := hb
          obtain ⟨r10, hr10, h⟩ := bind_some h
          refine r_reg (l := [(0, .u (.c (.sl false 1 (a0.map eB)))), (3, .u (.c (.sl true 2 (v4.map eR)))), (4, .u (.c (.v (.int .i64 v2)))), (5, .u (.c (.v (.int .i64 v5)))), (32, .u (.c (.v (.bool r10))))]) (cg_then (ds := [17, 18]) 2 rfl (by kernel_rfl) (co_then 3 rfl (os_ge (d := 19) (t := .u (.c (.v (.bool (decide (v5 < 5)))))) (t' := .u (.c (.v (.bool true)))) (by kernel_rfl) (by rw [hs7])) (cg_then (ds := [20, 21, 22, 23]) 7 rfl (by kernel_rfl) (co_then 8 rfl (os_gy rfl rfl rfl (by kernel_rfl) (c_callQ (AC.k (RBlock.ac (h := hr8))) ⟨_, Tryd.func21, rfl, by kernel_rfl⟩ rfl (.cons (.copy (by kernel_rfl) rfl) (.cons (.copy (by kernel_rfl) rfl) (.cons (.copy (by kernel_rfl) rfl) (.nil)))) (by kernel_rfl))) (cg_then (ds := [25]) 9 rfl (by kernel_rfl) (co_then 10 rfl (os_ge (d := 26) (t := .u (.c (.v (.bool r8)))) (t' := .u (.c (.v (.bool true)))) (by kernel_rfl) (by rw [hs9])) (cg_then (ds := [27, 28, 29, 30]) 14 rfl (by kernel_rfl) (co_then 15 rfl (os_gy rfl rfl rfl (by kernel_rfl) (c_callQ (AC.k (RAll.ac (h := hr10))) ⟨_, Tryd.func23, rfl, by kernel_rfl⟩ rfl (.cons (.copy (by kernel_rfl) rfl) (.cons (.copy (by kernel_rfl) rfl) (.cons (.copy (by kernel_rfl) rfl) (.cons (.copy (by kernel_rfl) rfl) (.nil))))) (by kernel_rfl))) (cg_then (ds := [32]) 16 rfl (by kernel_rfl) (.nil)))))))))) rfl (by kernel_rfl) ?_
          rcases Bool.eq_false_or_eq_true (r10) with hb | hb
          · have h := cond_t hb h
            refine r_condT hb rfl ?_
            refine r_skip ?_
            refine r_block ?_
            refine r_reg (l := [(0, .u (.c (.sl false 1 (a0.map eB)))), (3, .u (.c (.sl true 2 (v4.map eR)))), (4, .u (.c (.v (.int .i64 v2)))), (5, .u (.c (.v (.int .i64 (IntKind.i64.wrap (v5 + 1))))))]) (cg_then (ds := [33, 34, 5]) 3 rfl (by kernel_rfl) (.nil)) rfl (by kernel_rfl) ?_
            exact ⟨(v4, IntKind.i64.wrap (v5 + 1)), h, of_weak (by kernel_rfl)⟩
          · have h := cond_f hb h
            refine r_condF hb rfl ?_
            refine r_weak (of_weak (l := [(0, .u (.c (.sl false 1 (a0.map eB)))), (3, .u (.c (.sl true 2 (v4.map eR)))), (4, .u (.c (.v (.int .i64 v2)))), (5, .u (.c (.v (.int .i64 v5))))]) (by kernel_rfl)) ?_
            refine run_cast (α := (List Blk) × Int) (fun x => [(0, .u (.c (.sl false 1 (a0.map eB)))), (3, .u (.c (.sl true 2 (x.1.map eR)))), (4, .u (.c (.v (.int .i64 v2)))), (5, .u (.c (.v (.int .i64 x.2))))]) (x := (v4, v5)) (y := y6) (Option.some.inj h) ?_
            refine r_exit ?_
            replace h := h_y6
            refine r_seq ?_
            obtain ⟨hg11, h⟩ := guard_some h
            simp only [decide_eq_true_eq] at hg11
            refine r_reg (l := [(0, .u (.c (.sl false 1 (a0.map eB)))), (3, .u (.c (.sl true 2 ((y6.1 ++ [(⟨v2, y6.2⟩ : Blk)]).map eR)))), (4, .u (.c (.v (.int .i64 v2)))), (5, .u (.c (.v (.int .i64 y6.2))))]) (co_then 1 rfl (os_plain rfl rfl (s_take (u := .c (.sl true 2 (y6.1.map eR))) (.inl rfl) (.move (by kernel_rfl) rfl) rfl (by kernel_rfl))) (cg_then (ds := [36, 37]) 3 rfl (by kernel_rfl) (co_then 4 rfl (os_plain rfl rfl (s_build (us := [(0, .c (.v (.int .i64 v2))), (1, .c (.v (.int .i64 y6.2)))]) (zs := [.v (.int .i64 0), .v (.int .i64 0)]) (cs := [.v (.int .i64 v2), .v (.int .i64 y6.2)]) rfl build33 zero33 (.cons (.copy (by kernel_rfl) (by kernel_rfl) (by kernel_rfl)) (.cons (.copy (by kernel_rfl) (by kernel_rfl) (by kernel_rfl)) (.nil))) (by kernel_rfl) rfl (by kernel_rfl))) (co_then 5 rfl (os_toG (os_plain rfl rfl (s_buildSlice (sz := 2) (len := 1) (us := [(0, .agg [.v (.int .i64 v2), .v (.int .i64 y6.2)])]) (cs := [.v (.int .i64 v2), .v (.int .i64 y6.2)]) rfl sliceZ30 (.cons (.copy (by kernel_rfl) (by kernel_rfl) (by kernel_rfl)) (.nil)) (by kernel_rfl) (Nat.le_of_ble_eq_true rfl) rfl (by kernel_rfl))) (t' := .u (.c (.sl true 2 ([(⟨v2, y6.2⟩ : Blk)].map eR)))) (by kernel_rfl)) (co_then 6 rfl (os_toG (os_plain rfl rfl (s_appendM (i := 35) (sz := 2) (rows := y6.1.map eR) (rows2 := [(⟨v2, y6.2⟩ : Blk)].map eR) rfl sliceZ30 (by kernel_rfl) (.v0 (r := 39) (lo := 0) (n := ([(⟨v2, y6.2⟩ : Blk)].map eR).length) (own := true) (rows := [(⟨v2, y6.2⟩ : Blk)].map eR) (by kernel_rfl) (by kernel_rfl) rows_all) (copy_map eR_copy) (lenMap2 hg11) (Nat.le_of_ble_eq_true rfl) rfl (by kernel_rfl))) (t' := .u (.c (.sl true 2 ((y6.1 ++ [(⟨v2, y6.2⟩ : Blk)]).map eR)))) (by simp only [List.map_append])) (co_then 7 rfl (os_plain rfl rfl (s_take (u := .c (.sl true 2 ((y6.1 ++ [(⟨v2, y6.2⟩ : Blk)]).map eR))) (.inr rfl) (.move (by kernel_rfl) rfl) rfl (by kernel_rfl))) (.nil))))))) rfl (by kernel_rfl) ?_
            obtain ⟨r12, hr12, h⟩ := bind_some h
            refine r_reg (l := [(0, .u (.c (.sl false 1 (a0.map eB)))), (3, .u (.c (.sl true 2 ((y6.1 ++ [(⟨v2, y6.2⟩ : Blk)]).map eR)))), (4, .u (.c (.v (.int .i64 (IntKind.i64.wrap (v2 + r12))))))]) (cg_then (ds := [41, 42]) 2 rfl (by kernel_rfl) (co_then 3 rfl (os_plain rfl rfl (c_callQ (AC.k (paviorref01_Power.ac (h := hr12))) ⟨_, Tryd.func18, rfl, by kernel_rfl⟩ rfl (.cons (.copy (by kernel_rfl) rfl) (.nil)) (by kernel_rfl))) (cg_then (ds := [44, 4]) 5 rfl (by kernel_rfl) (.nil)))) rfl (by kernel_rfl) ?_
            exact ⟨((y6.1 ++ [(⟨v2, y6.2⟩ : Blk)]), IntKind.i64.wrap (v2 + r12)), h, of_weak (by kernel_rfl)⟩
        · have h := cond_f hb h
          have hs13 := hb
          refine r_reg (l := [(0, .u (.c (.sl false 1 (a0.map eB)))), (3, .u (.c (.sl true 2 (v4.map eR)))), (4, .u (.c (.v (.int .i64 v2)))), (5, .u (.c (.v (.int .i64 v5)))), (32, .u (.c (.v (.bool false))))]) (cg_then (ds := [17, 18]) 2 rfl (by kernel_rfl) (co_then 3 rfl (os_ge (d := 19) (t := .u (.c (.v (.bool (decide (v5 < 5)))))) (t' := .u (.c (.v (.bool true)))) (by kernel_rfl) (by rw [hs7])) (cg_then (ds := [20, 21, 22, 23]) 7 rfl (by kernel_rfl) (co_then 8 rfl (os_gy rfl rfl rfl (by kernel_rfl) (c_callQ (AC.k (RBlock.ac (h := hr8))) ⟨_, Tryd.func21, rfl, by kernel_rfl⟩ rfl (.cons (.copy (by kernel_rfl) rfl) (.cons (.copy (by kernel_rfl) rfl) (.cons (.copy (by kernel_rfl) rfl) (.nil)))) (by kernel_rfl))) (cg_then (ds := [25]) 9 rfl (by kernel_rfl) (co_then 10 rfl (os_ge (d := 26) (t := .u (.c (.v (.bool r8)))) (t' := .u (.c (.v (.bool false)))) (by kernel_rfl) (by rw [hs13])) (cg_then (ds := [27, 28, 29, 30, 31, 32]) 16 rfl (by kernel_rfl) (.nil)))))))) rfl (by kernel_rfl) ?_
          refine r_condF rfl rfl ?_
          refine r_weak (of_weak (l := [(0, .u (.c (.sl false 1 (a0.map eB)))), (3, .u (.c (.sl true 2 (v4.map eR)))), (4, .u (.c (.v (.int .i64 v2)))), (5, .u (.c (.v (.int .i64 v5))))]) (by kernel_rfl)) ?_
          refine run_cast (α := (List Blk) × Int) (fun x => [(0, .u (.c (.sl false 1 (a0.map eB)))), (3, .u (.c (.sl true 2 (x.1.map eR)))), (4, .u (.c (.v (.int .i64 v2)))), (5, .u (.c (.v (.int .i64 x.2))))]) (x := (v4, v5)) (y := y6) (Option.some.inj h) ?_
          refine r_exit ?_
          replace h := h_y6
          refine r_seq ?_
          obtain ⟨hg11, h⟩ := guard_some h
          simp only [decide_eq_true_eq] at hg11
          refine r_reg (l := [(0, .u (.c (.sl false 1 (a0.map eB)))), (3, .u (.c (.sl true 2 ((y6.1 ++ [(⟨v2, y6.2⟩ : Blk)]).map eR)))), (4, .u (.c (.v (.int .i64 v2)))), (5, .u (.c (.v (.int .i64 y6.2))))]) (co_then 1 rfl (os_plain rfl rfl (s_take (u := .c (.sl true 2 (y6.1.map eR))) (.inl rfl) (.move (by kernel_rfl) rfl) rfl (by kernel_rfl))) (cg_then (ds := [36, 37]) 3 rfl (by kernel_rfl) (co_then 4 rfl (os_plain rfl rfl (s_build (us := [(0, .c (.v (.int .i64 v2))), (1, .c (.v (.int .i64 y6.2)))]) (zs := [.v (.int .i64 0), .v (.int .i64 0)]) (cs := [.v (.int .i64 v2), .v (.int .i64 y6.2)]) rfl build33 zero33 (.cons (.copy (by kernel_rfl) (by kernel_rfl) (by kernel_rfl)) (.cons (.copy (by kernel_rfl) (by kernel_rfl) (by kernel_rfl)) (.nil))) (by kernel_rfl) rfl (by kernel_rfl))) (co_then 5 rfl (os_toG (os_plain rfl rfl (s_buildSlice (sz := 2) (len := 1) (us := [(0, .agg [.v (.int .i64 v2), .v (.int .i64 y6.2)])]) (cs := [.v (.int .i64 v2), .v (.int .i64 y6.2)]) rfl sliceZ30 (.cons (.copy (by kernel_rfl) (by kernel_rfl) (by kernel_rfl)) (.nil)) (by kernel_rfl) (Nat.le_of_ble_eq_true rfl) rfl (by kernel_rfl))) (t' := .u (.c (.sl true 2 ([(⟨v2, y6.2⟩ : Blk)].map eR)))) (by kernel_rfl)) (co_then 6 rfl (os_toG (os_plain rfl rfl (s_appendM (i := 35) (sz := 2) (rows := y6.1.map eR) (rows2 := [(⟨v2, y6.2⟩ : Blk)].map eR) rfl sliceZ30 (by kernel_rfl) (.v0 (r := 39) (lo := 0) (n := ([(⟨v2, y6.2⟩ : Blk)].map eR).length) (own := true) (rows := [(⟨v2, y6.2⟩ : Blk)].map eR) (by kernel_rfl) (by kernel_rfl) rows_all) (copy_map eR_copy) (lenMap2 hg11) (Nat.le_of_ble_eq_true rfl) rfl (by kernel_rfl))) (t' := .u (.c (.sl true 2 ((y6.1 ++ [(⟨v2, y6.2⟩ : Blk)]).map eR)))) (by simp only [List.map_append])) (co_then 7 rfl (os_plain rfl rfl (s_take (u := .c (.sl true 2 ((y6.1 ++ [(⟨v2, y6.2⟩ : Blk)]).map eR))) (.inr rfl) (.move (by kernel_rfl) rfl) rfl (by kernel_rfl))) (.nil))))))) rfl (by kernel_rfl) ?_
          obtain ⟨r12, hr12, h⟩ := bind_some h
          refine r_reg (l := [(0, .u (.c (.sl false 1 (a0.map eB)))), (3, .u (.c (.sl true 2 ((y6.1 ++ [(⟨v2, y6.2⟩ : Blk)]).map eR)))), (4, .u (.c (.v (.int .i64 (IntKind.i64.wrap (v2 + r12))))))]) (cg_then (ds := [41, 42]) 2 rfl (by kernel_rfl) (co_then 3 rfl (os_plain rfl rfl (c_callQ (AC.k (paviorref01_Power.ac (h := hr12))) ⟨_, Tryd.func18, rfl, by kernel_rfl⟩ rfl (.cons (.copy (by kernel_rfl) rfl) (.nil)) (by kernel_rfl))) (cg_then (ds := [44, 4]) 5 rfl (by kernel_rfl) (.nil)))) rfl (by kernel_rfl) ?_
          exact ⟨((y6.1 ++ [(⟨v2, y6.2⟩ : Blk)]), IntKind.i64.wrap (v2 + r12)), h, of_weak (by kernel_rfl)⟩
      · have h := cond_f hb h
        have hs14 := hb
        refine r_reg (l := [(0, .u (.c (.sl false 1 (a0.map eB)))), (3, .u (.c (.sl true 2 (v4.map eR)))), (4, .u (.c (.v (.int .i64 v2)))), (5, .u (.c (.v (.int .i64 v5)))), (32, .u (.c (.v (.bool false))))]) (cg_then (ds := [17, 18]) 2 rfl (by kernel_rfl) (co_then 3 rfl (os_ge (d := 19) (t := .u (.c (.v (.bool (decide (v5 < 5)))))) (t' := .u (.c (.v (.bool false)))) (by kernel_rfl) (by rw [hs14])) (cg_then (ds := [20, 21, 22, 23, 24, 25, 26, 27, 28, 29, 30, 31, 32]) 16 rfl (by kernel_rfl) (.nil)))) rfl (by kernel_rfl) ?_
        refine r_condF rfl rfl ?_
        refine r_weak (of_weak (l := [(0, .u (.c (.sl false 1 (a0.map eB)))), (3, .u (.c (.sl true 2 (v4.map eR)))), (4, .u (.c (.v (.int .i64 v2)))), (5, .u (.c (.v (.int .i64 v5))))]) (by kernel_rfl)) ?_
        refine run_cast (α := (List Blk) × Int) (fun x => [(0, .u (.c (.sl false 1 (a0.map eB)))), (3, .u (.c (.sl true 2 (x.1.map eR)))), (4, .u (.c (.v (.int .i64 v2)))), (5, .u (.c (.v (.int .i64 x.2))))]) (x := (v4, v5)) (y := y6) (Option.some.inj h) ?_
        refine r_exit ?_
        replace h := h_y6
        refine r_seq ?_
        obtain ⟨hg11, h⟩ := guard_some h
        simp only [decide_eq_true_eq] at hg11
        refine r_reg (l := [(0, .u (.c (.sl false 1 (a0.map eB)))), (3, .u (.c (.sl true 2 ((y6.1 ++ [(⟨v2, y6.2⟩ : Blk)]).map eR)))), (4, .u (.c (.v (.int .i64 v2)))), (5, .u (.c (.v (.int .i64 y6.2))))]) (co_then 1 rfl (os_plain rfl rfl (s_take (u := .c (.sl true 2 (y6.1.map eR))) (.inl rfl) (.move (by kernel_rfl) rfl) rfl (by kernel_rfl))) (cg_then (ds := [36, 37]) 3 rfl (by kernel_rfl) (co_then 4 rfl (os_plain rfl rfl (s_build (us := [(0, .c (.v (.int .i64 v2))), (1, .c (.v (.int .i64 y6.2)))]) (zs := [.v (.int .i64 0), .v (.int .i64 0)]) (cs := [.v (.int .i64 v2), .v (.int .i64 y6.2)]) rfl build33 zero33 (.cons (.copy (by kernel_rfl) (by kernel_rfl) (by kernel_rfl)) (.cons (.copy (by kernel_rfl) (by kernel_rfl) (by kernel_rfl)) (.nil))) (by kernel_rfl) rfl (by kernel_rfl))) (co_then 5 rfl (os_toG (os_plain rfl rfl (s_buildSlice (sz := 2) (len := 1) (us := [(0, .agg [.v (.int .i64 v2), .v (.int .i64 y6.2)])]) (cs := [.v (.int .i64 v2), .v (.int .i64 y6.2)]) rfl sliceZ30 (.cons (.copy (by kernel_rfl) (by kernel_rfl) (by kernel_rfl)) (.nil)) (by kernel_rfl) (Nat.le_of_ble_eq_true rfl) rfl (by kernel_rfl))) (t' := .u (.c (.sl true 2 ([(⟨v2, y6.2⟩ : Blk)].map eR)))) (by kernel_rfl)) (co_then 6 rfl (os_toG (os_plain rfl rfl (s_appendM (i := 35) (sz := 2) (rows := y6.1.map eR) (rows2 := [(⟨v2, y6.2⟩ : Blk)].map eR) rfl sliceZ30 (by kernel_rfl) (.v0 (r := 39) (lo := 0) (n := ([(⟨v2, y6.2⟩ : Blk)].map eR).length) (own := true) (rows := [(⟨v2, y6.2⟩ : Blk)].map eR) (by kernel_rfl) (by kernel_rfl) rows_all) (copy_map eR_copy) (lenMap2 hg11) (Nat.le_of_ble_eq_true rfl) rfl (by kernel_rfl))) (t' := .u (.c (.sl true 2 ((y6.1 ++ [(⟨v2, y6.2⟩ : Blk)]).map eR)))) (by simp only [List.map_append])) (co_then 7 rfl (os_plain rfl rfl (s_take (u := .c (.sl true 2 ((y6.1 ++ [(⟨v2, y6.2⟩ : Blk)]).map eR))) (.inr rfl) (.move (by kernel_rfl) rfl) rfl (by kernel_rfl))) (.nil))))))) rfl (by kernel_rfl) ?_
        obtain ⟨r12, hr12, h⟩ := bind_some h
        refine r_reg (l := [(0, .u (.c (.sl false 1 (a0.map eB)))), (3, .u (.c (.sl true 2 ((y6.1 ++ [(⟨v2, y6.2⟩ : Blk)]).map eR)))), (4, .u (.c (.v (.int .i64 (IntKind.i64.wrap (v2 + r12))))))]) (cg_then (ds := [41, 42]) 2 rfl (by kernel_rfl) (co_then 3 rfl (os_plain rfl rfl (c_callQ (AC.k (paviorref01_Power.ac (h := hr12))) ⟨_, Tryd.func18, rfl, by kernel_rfl⟩ rfl (.cons (.copy (by kernel_rfl) rfl) (.nil)) (by kernel_rfl))) (cg_then (ds := [44, 4]) 5 rfl (by kernel_rfl) (.nil)))) rfl (by kernel_rfl) ?_
        exact ⟨((y6.1 ++ [(⟨v2, y6.2⟩ : Blk)]), IntKind.i64.wrap (v2 + r12)), h, of_weak (by kernel_rfl)⟩
  · have h := cond_f hb h
    refine r_condF hb rfl ?_
    refine r_exit ?_
    refine r_seq ?_
    refine r_reg (l := [(2, .u (.c (.sl true 2 (v1.map eR))))]) (co_then 1 rfl (os_plain rfl rfl (s_take (u := .c (.sl true 2 (v1.map eR))) (.inl rfl) (.move (by kernel_rfl) rfl) rfl (by kernel_rfl))) (co_then 2 rfl (os_plain rfl rfl (s_take (u := .c (.sl true 2 (v1.map eR))) (.inr rfl) (.move (by kernel_rfl) rfl) rfl (by kernel_rfl))) (.nil))) rfl (by kernel_rfl) ?_
    refine r_ret ?_
    obtain rfl := Option.some.inj h
    exact ⟨.inr rfl, _, _, .cons (.move rfl rfl) (.nil), rfl, outs_of trivial⟩
def same.l2 (k : Nat) (a0 : Sto) (a1 : List Bool) (r1 : Sto × (List Blk)) (r2 : (List Blk)) (v3 : Int) : Nat → Sto → Int → Int → Option (Sto × Bool)
  | 0, _, _, _ => none
  | n2 + 1, v6, v7, v8 => (bif decide (v8 < (a1.length : Int)) then (bif decide (0 ≤ v8) && decide (v8 < (a1.length : Int)) then (bif (a1.getD v8.toNat false) then (IsFree.f k v6 v8).bind fun (r10 : Sto × Bool) => (bif decide (0 ≤ v8) && decide (v8 < (a1.length : Int)) then (bif !(r10.2 == (a1.getD v8.toNat false)) then some (r10.1, false) else same.l2 k a0 a1 r1 r2 v3 n2 r10.1 (IntKind.i64.wrap (v7 + 1)) (IntKind.i64.wrap (v8 + 1))) else none) else (IsFree.f k v6 v8).bind fun (r12 : Sto × Bool) => (bif decide (0 ≤ v8) && decide (v8 < (a1.length : Int)) then (bif !(r12.2 == (a1.getD v8.toNat false)) then some (r12.1, false) else same.l2 k a0 a1 r1 r2 v3 n2 r12.1 v7 (IntKind.i64.wrap (v8 + 1))) else none)) else none) else (Count.f k v6).bind fun (r14 : Sto × Int) => (bif r14.2 == v7 then (IsFree.f k r14.1 (-1)).bind fun (r16 : Sto × Bool) => (bif !r16.2 then (IsFree.f k r16.1 (a1.length : Int)).bind fun (r18 : Sto × Bool) => some (r18.1, !r18.2) else some (r16.1, false)) else some (r14.1, false)))
def same.l1 (k : Nat) (a0 : Sto) (a1 : List Bool) (r1 : Sto × (List Blk)) (r2 : (List Blk)) : Nat → Int → Option (Sto × Bool)
  | 0, _ => none
  | n1 + 1, v3 => (bif decide (v3 < (r1.2.length : Int)) then (bif decide (0 ≤ v3) && decide (v3 < (r1.2.length : Int)) then (bif decide (0 ≤ v3) && decide (v3 < (r2.length : Int)) then (bif !(((r1.2.getD ((v3).toNat) zR).f) == ((r2.getD ((v3).toNat) zR).f) && (((r1.2.getD ((v3).toNat) zR).o) == ((r2.getD ((v3).toNat) zR).o))) then some (r1.1, false) else same.l1 k a0 a1 r1 r2 n1 (IntKind.i64.wrap (v3 + 1))) else none) else none) else same.l2 k a0 a1 r1 r2 v3 k r1.1 0 0)
set_option maxHeartbeats 4000000 in
def same.f (k : Nat) (a0 : Sto) (a1 : List Bool) : Option (Sto × Bool) :=
  (Free.f k a0).bind fun (r1 : Sto × (List Blk)) => (RFree.f k a1).bind fun (r2 : (List Blk)) => (bif (r1.2.length : Int) != (r2.length : Int) then some (r1.1, false) else same.l1 k a0 a1 r1 r2 k 0)
set_option maxHeartbeats 4000000 in
theorem same.ac (k : Nat) (a0 : Sto) (a1 : List Bool) (r : Sto × Bool) (h : same.f k a0 a1 = some r) : AC Tryd.prog 38 15 [.c (storeC a0), .c (.sl false 1 (a1.map eB))] [some (.c (storeC r.1)), none] [.c (.v (.bool r.2))] := by
  unfold same.f at h
  refine ac_intro (fn := Tryd.f15) (pins := [0]) (rts := [4]) Tryd.func15 rfl Tryd.ntmps15 rfl (Nat.le_of_ble_eq_true rfl) (pins_lt rfl) rfl (fun w R E vs => ?_)
  refine r_weak (of_weak (l := [(0, .u (.c (storeC a0))), (1, .u (.c (.sl false 1 (a1.map eB))))]) (by kernel_rfl)) ?_
  refine r_seq ?_
  refine r_reg (l := [(0, .u (.c (storeC a0))), (1, .u (.c (.sl false 1 (a1.map eB))))]) (cg_then (ds := [4]) 1 rfl (by kernel_rfl) (.nil)) rfl (by kernel_rfl) ?_
  refine r_seq ?_
  obtain ⟨r1, hr1, h⟩ := bind_some h
  refine r_reg (l := [(0, .u (.c (storeC r1.1))), (1, .u (.c (.sl false 1 (a1.map eB)))), (5, .u (.c (.sl true 2 (r1.2.map eR))))]) (cg_then (ds := [10]) 1 rfl (by kernel_rfl) (co_then 2 rfl (os_plain rfl rfl (c_call (AC.k (Free.ac (h := hr1))) ⟨_, Tryd.func12, rfl, by kernel_rfl⟩ rfl (hand_root (r := 0) (c := storeC a0) (by kernel_rfl) (by kernel_rfl) rfl (.nil)) rfl (by kernel_rfl))) (co_then 3 rfl (os_plain rfl rfl (s_take (u := .c (.sl true 2 (r1.2.map eR))) (.inr rfl) (.move (by kernel_rfl) rfl) rfl (by kernel_rfl))) (.nil)))) rfl (by kernel_rfl) ?_
  refine r_seq ?_
  obtain ⟨r2, hr2, h⟩ := bind_some h
  refine r_reg (l := [(0, .u (.c (storeC r1.1))), (1, .u (.c (.sl false 1 (a1.map eB)))), (5, .u (.c (.sl true 2 (r1.2.map eR)))), (6, .u (.c (.sl true 2 (r2.map eR))))]) (cg_then (ds := [12]) 1 rfl (by kernel_rfl) (co_then 2 rfl (os_plain rfl rfl (c_callQ (AC.k (RFree.ac (h := hr2))) ⟨_, Tryd.func30, rfl, by kernel_rfl⟩ rfl (.cons (.copy (by kernel_rfl) rfl) (.nil)) (by kernel_rfl))) (co_then 3 rfl (os_plain rfl rfl (s_take (u := .c (.sl true 2 (r2.map eR))) (.inr rfl) (.move (by kernel_rfl) rfl) rfl (by kernel_rfl))) (.nil)))) rfl (by kernel_rfl) ?_
  refine r_seq ?_
  refine r_seq ?_
  refine r_reg (l := [(0, .u (.c (storeC r1.1))), (1, .u (.c (.sl false 1 (a1.map eB)))), (5, .u (.c (.sl true 2 (r1.2.map eR)))), (6, .u (.c (.sl true 2 (r2.map eR)))), (18, .u (.c (.v (.bool ((r1.2.length : Int) != (r2.length : Int))))))]) (cg_then (ds := [14]) 1 rfl (by kernel_rfl) (co_then 2 rfl (os_to (os_plain rfl rfl (s_lenV (r := 5) (lo := 0) (n := (r1.2.map eR).length) (pl := none) (sz := 2) rfl sl30 (by kernel_rfl) rfl (by kernel_rfl))) (t' := .u (.c (.v (.int .i64 (r1.2.length : Int))))) (by rw [List.length_map])) (cg_then (ds := [16]) 3 rfl (by kernel_rfl) (co_then 4 rfl (os_to (os_plain rfl rfl (s_lenV (r := 6) (lo := 0) (n := (r2.map eR).length) (pl := none) (sz := 2) rfl sl30 (by kernel_rfl) rfl (by kernel_rfl))) (t' := .u (.c (.v (.int .i64 (r2.length : Int))))) (by rw [List.length_map])) (cg_then (ds := [18]) 5 rfl (by kernel_rfl) (.nil)))))) rfl (by kernel_rfl) ?_
  rcases Bool.eq_false_or_eq_true ((r1.2.length : Int) != (r2.length : Int)) with hb | hb
  · have h := cond_t hb h
    refine r_condT hb rfl ?_
    refine r_seq ?_
    refine r_reg (l := [(0, .u (.c (storeC r1.1))), (4, .u (.c (.v (.bool false))))]) (cg_then (ds := [4]) 1 rfl (by kernel_rfl) (.nil)) rfl (by kernel_rfl) ?_
    refine r_ret ?_
    obtain rfl := Option.some.inj h
    exact ⟨.inr rfl, _, _, .cons (.copy rfl rfl rfl) (.nil), rfl, outs_of ⟨⟨rfl, rfl⟩, trivial⟩⟩
  · have h := cond_f hb h
    refine r_condF hb rfl ?_
    refine r_skip ?_
    refine r_seq ?_
    refine r_seq ?_
    refine r_reg (l := [(0, .u (.c (storeC r1.1))), (1, .u (.c (.sl false 1 (a1.map eB)))), (5, .u (.c (.sl true 2 (r1.2.map eR)))), (6, .u (.c (.sl true 2 (r2.map eR)))), (7, .u (.c (.v (.int .i64 0))))]) (cg_then (ds := [7]) 1 rfl (by kernel_rfl) (.nil)) rfl (by kernel_rfl) ?_
    refine r_block ?_
    refine r_weak (of_weak (l := [(0, .u (.c (storeC r1.1))), (1, .u (.c (.sl false 1 (a1.map eB)))), (5, .u (.c (.sl true 2 (r1.2.map eR)))), (6, .u (.c (.sl true 2 (r2.map eR)))), (7, .u (.c (.v (.int .i64 0))))]) (by kernel_rfl)) ?_
    refine r_loopI (α := Int) (fun x => [(0, .u (.c (storeC r1.1))), (1, .u (.c (.sl false 1 (a1.map eB)))), (5, .u (.c (.sl true 2 (r1.2.map eR)))), (6, .u (.c (.sl true 2 (r2.map eR)))), (7, .u (.c (.v (.int .i64 x))))]) (fun n x => same.l1 k a0 a1 r1 r2 n x = some r) k 0 h (by intro x h; unfold same.l1 at h; cases h) ?_
    rintro n1 v3 h
    replace h : same.l1 k a0 a1 r1 r2 (n1 + 1) v3 = some r := h
    unfold same.l1 at h
    show Run _ _ _ (St.of [(0, .u (.c (storeC r1.1))), (1, .u (.c (.sl false 1 (a1.map eB)))), (5, .u (.c (.sl true 2 (r1.2.map eR)))), (6, .u (.c (.sl true 2 (r2.map eR)))), (7, .u (.c (.v (.int .i64 v3))))]) _
    refine r_seq ?_
    refine r_seq ?_
    refine r_reg (l := [(0, .u (.c (storeC r1.1))), (1, .u (.c (.sl false 1 (a1.map eB)))), (5, .u (.c (.sl true 2 (r1.2.map eR)))), (6, .u (.c (.sl true 2 (r2.map eR)))), (7, .u (.c (.v (.int .i64 v3)))), (22, .u (.c (.v (.bool (decide (v3 < (r1.2.length : Int)))))))]) (cg_then (ds := [19, 20]) 2 rfl (by kernel_rfl) (co_then 3 rfl (os_to (os_plain rfl rfl (s_lenV (r := 5) (lo := 0) (n := (r1.2.map eR).length) (pl := none) (sz := 2) rfl sl30 (by kernel_rfl) rfl (by kernel_rfl))) (t' := .u (.c (.v (.int .i64 (r1.2.length : Int))))) (by rw [List.length_map])) (cg_then (ds := [22]) 4 rfl (by kernel_rfl) (.nil)))) rfl (by kernel_rfl) ?_
    rcases Bool.eq_false_or_eq_true (decide (v3 < (r1.2.length : Int))) with hb | hb
    · have h := cond_t hb h
      refine r_condT hb rfl ?_
      refine r_skip ?_
      refine r_seq ?_
      refine r_block ?_
      refine r_seq ?_
      obtain ⟨hg4, h⟩ := guard_some h
      simp only [Bool.and_eq_true, decide_eq_true_eq] at hg4
      obtain ⟨hg5, h⟩ := guard_some h
      simp only [Bool.and_eq_true, decide_eq_true_eq] at hg5
      refine r_weak (of_weak (l := [(0, .u (.c (storeC r1.1))), (1, .u (.c (.sl false 1 (a1.map eB)))), (5, .u (.c (.sl true 2 (r1.2.map eR)))), (6, .u (.c (.sl true 2 (r2.map eR)))), (7, .u (.c (.v (.int .i64 v3)))), (22, .u (.c (.v (.bool (decide (v3 < (r1.2.length : Int)))))))]) (by kernel_rfl)) ?_
      refine r_anyW (l := [(0, .u (.c (storeC r1.1))), (1, .u (.c (.sl false 1 (a1.map eB)))), (5, .u (.c (.sl true 2 (r1.2.map eR)))), (6, .u (.c (.sl true 2 (r2.map eR)))), (7, .u (.c (.v (.int .i64 v3)))), (33, .u (.c (.v (.bool (!(((r1.2.getD ((v3).toNat) zR).f) == ((r2.getD ((v3).toNat) zR).f) && (((r1.2.getD ((v3).toNat) zR).o) == ((r2.getD ((v3).toNat) zR).o))))))))]) (tab := [[], [], [0, 1], [2], [], [], [4, 5], [6], [3, 7]]) [⟨[], [5], [(25, .whole 5 none 2 ((r1.2.map eR).length))], some 25, false⟩, ⟨[], [7], [(26, .u (.c (.v (.int .i64 v3))))], some 26, false⟩, ⟨[0, 1], [5, 25, 26], [(27, .addr 5 (.i ((v3).toNat) 2) [] 0)], some 27, false⟩, ⟨[0, 1, 2], [5, 27], [(28, .u (.agg [.v (.int .i64 ((r1.2.getD ((v3).toNat) zR).f)), .v (.int .i64 ((r1.2.getD ((v3).toNat) zR).o))]))], some 28, false⟩, ⟨[], [6], [(29, .whole 6 none 2 ((r2.map eR).length))], some 29, false⟩, ⟨[], [7], [(30, .u (.c (.v (.int .i64 v3))))], some 30, false⟩, ⟨[4, 5], [6, 29, 30], [(31, .addr 6 (.i ((v3).toNat) 2) [] 0)], some 31, false⟩, ⟨[4, 5, 6], [6, 31], [(32, .u (.agg [.v (.int .i64 ((r2.getD ((v3).toNat) zR).f)), .v (.int .i64 ((r2.getD ((v3).toNat) zR).o))]))], some 32, false⟩, ⟨[0, 1, 2, 3, 4, 5, 6, 7], [28, 32], [(33, .u (.c (.v (.bool (!(((r1.2.getD ((v3).toNat) zR).f) == ((r2.getD ((v3).toNat) zR).f) && (((r1.2.getD ((v3).toNat) zR).o) == ((r2.getD ((v3).toNat) zR).o))))))))], some 33, false⟩] hm (by kernel_rfl) (by kernel_rfl) (by kernel_rfl) (.cons (fun σ hc => e_g (d := 25) (t := .whole 5 none 2 ((r1.2.map eR).length)) hc rfl rfl (by kernel_rfl)) (.cons (fun σ hc => e_g (d := 26) (t := .u (.c (.v (.int .i64 v3)))) hc rfl rfl (by kernel_rfl)) (.cons (fun σ hc => e_put hc rfl rfl (os_plain rfl rfl (s_indexV (r := 5) (lo := 0) (n := (r1.2.map eR).length) (pl := none) (sz := 2) (e := v3) (ik := .i64) (k := (v3).toNat) rfl sl30 (by kernel_rfl) (.tmp (by kernel_rfl)) hg4.1 (by rw [List.length_map]; exact hg4.2) (Nat.zero_add _) rfl (by kernel_rfl) (by kernel_rfl)))) (.cons (fun σ hc => e_put hc rfl rfl (os_plain rfl rfl (s_loadA (n := 2) (xs := [.v (.int .i64 ((r1.2.getD ((v3).toNat) zR).f)), .v (.int .i64 ((r1.2.getD ((v3).toNat) zR).o))]) (r := 5) (off := 0) (s := .i ((v3).toNat) 2) (p := []) (c := .sl true 2 (r1.2.map eR)) (cs := eR (r1.2.getD ((v3).toNat) zR)) rfl (aggB_ok (by kernel_rfl)) (by kernel_rfl) (by kernel_rfl) (getP_map zR (by have := hg4; omega)) rfl rfl rfl rfl (by kernel_rfl)))) (.cons (fun σ hc => e_g (d := 29) (t := .whole 6 none 2 ((r2.map eR).length)) hc rfl rfl (by kernel_rfl)) (.cons (fun σ hc => e_g (d := 30) (t := .u (.c (.v (.int .i64 v3)))) hc rfl rfl (by kernel_rfl)) (.cons (fun σ hc => e_put hc rfl rfl (os_plain rfl rfl (s_indexV (r := 6) (lo := 0) (n := (r2.map eR).length) (pl := none) (sz := 2) (e := v3) (ik := .i64) (k := (v3).toNat) rfl sl30 (by kernel_rfl) (.tmp (by kernel_rfl)) hg5.1 (by rw [List.length_map]; exact hg5.2) (Nat.zero_add _) rfl (by kernel_rfl) (by kernel_rfl)))) (.cons (fun σ hc => e_put hc rfl rfl (os_plain rfl rfl (s_loadA (n := 2) (xs := [.v (.int .i64 ((r2.getD ((v3).toNat) zR).f)), .v (.int .i64 ((r2.getD ((v3).toNat) zR).o))]) (r := 6) (off := 0) (s := .i ((v3).toNat) 2) (p := []) (c := .sl true 2 (r2.map eR)) (cs := eR (r2.getD ((v3).toNat) zR)) rfl (aggB_ok (by kernel_rfl)) (by kernel_rfl) (by kernel_rfl) (getP_map zR (by have := hg5; omega)) rfl rfl rfl rfl (by kernel_rfl)))) (.cons (fun σ hc => e_put hc rfl rfl (os_plain rfl rfl (s_eqA (b := ((r1.2.getD ((v3).toNat) zR).f) == ((r2.getD ((v3).toNat) zR).f) && (((r1.2.getD ((v3).toNat) zR).o) == ((r2.getD ((v3).toNat) zR).o))) rfl (.inr rfl) eqAgg33 (by kernel_rfl) rfl rfl rfl rfl rfl rfl (by kernel_rfl)))) (.nil)))))))))) (by kernel_rfl) ?_
      rcases Bool.eq_false_or_eq_true (!(((r1.2.getD ((v3).toNat) zR).f) == ((r2.getD ((v3).toNat) zR).f) && (((r1.2.getD ((v3).toNat) zR).o) == ((r2.getD ((v3).toNat) zR).o)))) with hb | hb
      · have h := cond_t hb h
        refine r_condT hb rfl ?_
        refine r_seq ?_
        refine r_reg (l := [(0, .u (.c (storeC r1.1))), (4, .u (.c (.v (.bool false))))]) (cg_then (ds := [4]) 1 rfl (by kernel_rfl) (.nil)) rfl (by kernel_rfl) ?_
        refine r_ret ?_
        obtain rfl := Option.some.inj h
        exact ⟨.inr rfl, _, _, .cons (.copy rfl rfl rfl) (.nil), rfl, outs_of ⟨⟨rfl, rfl⟩, trivial⟩⟩
      · have h := cond_f hb h
        refine r_condF hb rfl ?_
        refine r_skip ?_
        refine r_reg (l := [(0, .u (.c (storeC r1.1))), (1, .u (.c (.sl false 1 (a1.map eB)))), (5, .u (.c (.sl true 2 (r1.2.map eR)))), (6, .u (.c (.sl true 2 (r2.map eR)))), (7, .u (.c (.v (.int .i64 (IntKind.i64.wrap (v3 + 1))))))]) (cg_then (ds := [23, 24, 7]) 3 rfl (by kernel_rfl) (.nil)) rfl (by kernel_rfl) ?_
        exact ⟨IntKind.i64.wrap (v3 + 1), h, of_weak (by kernel_rfl)⟩
    · have h := cond_f hb h
      refine r_condF hb rfl ?_
      refine r_exit ?_
      refine r_seq ?_
      refine r_reg (l := [(0, .u (.c (storeC r1.1))), (1, .u (.c (.sl false 1 (a1.map eB)))), (8, .u (.c (.v (.int .i64 0))))]) (cg_then (ds := [8]) 1 rfl (by kernel_rfl) (.nil)) rfl (by kernel_rfl) ?_
      refine r_seq ?_
      refine r_seq ?_
      refine r_reg (l := [(0, .u (.c (storeC r1.1))), (1, .u (.c (.sl false 1 (a1.map eB)))), (8, .u (.c (.v (.int .i64 0)))), (9, .u (.c (.v (.int .i64 0))))]) (cg_then (ds := [9]) 1 rfl (by kernel_rfl) (.nil)) rfl (by kernel_rfl) ?_
      refine r_block ?_
      refine r_weak (of_weak (l := [(0, .u (.c (storeC r1.1))), (1, .u (.c (.sl false 1 (a1.map eB)))), (8, .u (.c (.v (.int .i64 0)))), (9, .u (.c (.v (.int .i64 0))))]) (by kernel_rfl)) ?_
      refine r_loopI (α := Sto × Int × Int) (fun x => [(0, .u (.c (storeC x.1))), (1, .u (.c (.sl false 1 (a1.map eB)))), (8, .u (.c (.v (.int .i64 x.2.1)))), (9, .u (.c (.v (.int .i64 x.2.2))))]) (fun n x => same.l2 k a0 a1 r1 r2 v3 n x.1 x.2.1 x.2.2 = some r) k (r1.1, 0, 0) h (by intro x h; unfold same.l2 at h; cases h) ?_
      rintro n2 ⟨v6, v7, v8⟩ h
      replace h : same.l2 k a0 a1 r1 r2 v3 (n2 + 1) v6 v7 v8 = some r := h
      unfold same.l2 at h
      show Run _ _ _ (St.of [(0, .u (.c (storeC v6))), (1, .u (.c (.sl false 1 (a1.map eB)))), (8, .u (.c (.v (.int .i64 v7)))), (9, .u (.c (.v (.int .i64 v8))))]) _
      refine r_seq ?_
      refine r_seq ?_
      refine r_reg (l := [(0, .u (.c (storeC v6))), (1, .u (.c (.sl false 1 (a1.map eB)))), (8, .u (.c (.v (.int .i64 v7)))), (9, .u (.c (.v (.int .i64 v8)))), (37, .u (.c (.v (.bool (decide (v8 < (a1.length : Int)))))))]) (cg_then (ds := [34, 35]) 2 rfl (by kernel_rfl) (co_then 3 rfl (os_to (os_plain rfl rfl (s_lenU (own := false) (sz := 1) (rows := (a1.map eB)) rfl sl41 (by kernel_rfl) rfl (by kernel_rfl))) (t' := .u (.c (.v (.int .i64 (a1.length : Int))))) (by rw [List.length_map])) (cg_then (ds := [37]) 4 rfl (by kernel_rfl) (.nil)))) rfl (by kernel_rfl) ?_
      rcases Bool.eq_false_or_eq_true (decide (v8 < (a1.length : Int))) with hb | hb
      · have h := cond_t hb h
        refine r_condT hb rfl ?_
        refine r_skip ?_
        refine r_seq ?_
        refine r_block ?_
        refine r_seq ?_
        refine r_seq ?_
        obtain ⟨hg9, h⟩ := guard_some h
        simp only [Bool.and_eq_true, decide_eq_true_eq] at hg9
        refine r_reg (l := [(0, .u (.c (storeC v6))), (1, .u (.c (.sl false 1 (a1.map eB)))), (8, .u (.c (.v (.int .i64 v7)))), (9, .u (.c (.v (.int .i64 v8)))), (43, .u (.c (.v (.bool (a1.getD v8.toNat false)))))]) (cg_then (ds := [40, 41]) 2 rfl (by kernel_rfl) (co_then 3 rfl (os_plain rfl rfl (s_indexU (own := false) (sz := 1) (rows := (a1.map eB)) (e := v8) (ik := .i64) rfl sl41 (by kernel_rfl) (.tmp (by kernel_rfl)) hg9.1 (by rw [List.length_map]; exact hg9.2) rfl (by kernel_rfl) (by kernel_rfl))) (co_then 4 rfl (os_plain rfl rfl (s_load1 (x := .v (.bool (a1.getD v8.toNat false))) (r := 40) (off := 0) (s := .i v8.toNat 1) (p := []) (c := .sl false 1 (a1.map eB)) (cs := eB (a1.getD v8.toNat false)) rfl (oneB_ok (by kernel_rfl)) (by kernel_rfl) (by kernel_rfl) (getP_map false (by have := hg9; omega)) rfl rfl rfl (by kernel_rfl))) (.nil)))) rfl (by kernel_rfl) ?_
        rcases Bool.eq_false_or_eq_true ((a1.getD v8.toNat false)) with hb | hb
        · have h := cond_t hb h
          refine r_condT hb rfl ?_
          refine r_reg (l := [(0, .u (.c (storeC v6))), (1, .u (.c (.sl false 1 (a1.map eB)))), (8, .u (.c (.v (.int .i64 (IntKind.i64.wrap (v7 + 1)))))), (9, .u (.c (.v (.int .i64 v8))))]) (cg_then (ds := [44, 45, 8]) 3 rfl (by kernel_rfl) (.nil)) rfl (by kernel_rfl) ?_
          refine r_seq ?_
          obtain ⟨r10, hr10, h⟩ := bind_some h
          obtain ⟨hg11, h⟩ := guard_some h
          simp only [Bool.and_eq_true, decide_eq_true_eq] at hg11
          refine r_weak (of_weak (l := [(0, .u (.c (storeC v6))), (1, .u (.c (.sl false 1 (a1.map eB)))), (8, .u (.c (.v (.int .i64 (IntKind.i64.wrap (v7 + 1)))))), (9, .u (.c (.v (.int .i64 v8))))]) (by kernel_rfl)) ?_
          refine r_anyW (l := [(0, .u (.c (storeC r10.1))), (1, .u (.c (.sl false 1 (a1.map eB)))), (8, .u (.c (.v (.int .i64 (IntKind.i64.wrap (v7 + 1)))))), (9, .u (.c (.v (.int .i64 v8)))), (53, .u (.c (.v (.bool (!(r10.2 == (a1.getD v8.toNat false)))))))]) (tab := [[], [], [0, 1], [], [], [3, 4], [5], [2, 6]]) [⟨[], [0], [(46, .addr 0 (.d) [] 0)], some 46, false⟩, ⟨[], [9], [(47, .u (.c (.v (.int .i64 v8))))], some 47, false⟩, ⟨[0, 1], [0, 46, 47], [(48, .u (.c (.v (.bool r10.2)))), (0, .u (.c (storeC r10.1)))], some 48, true⟩, ⟨[], [1], [(49, .u (.c (.sl false 1 (a1.map eB))))], some 49, false⟩, ⟨[], [9], [(50, .u (.c (.v (.int .i64 v8))))], some 50, false⟩, ⟨[3, 4], [49, 50], [(51, .addr 49 (.i v8.toNat 1) [] 0)], some 51, false⟩, ⟨[3, 4, 5], [49, 51], [(52, .u (.c (.v (.bool (a1.getD v8.toNat false)))))], some 52, false⟩, ⟨[0, 1, 2, 3, 4, 5, 6], [48, 52], [(53, .u (.c (.v (.bool (!(r10.2 == (a1.getD v8.toNat false)))))))], some 53, false⟩] hm (by kernel_rfl) (by kernel_rfl) (by kernel_rfl) (.cons (fun σ hc => e_g (d := 46) (t := .addr 0 (.d) [] 0) hc rfl rfl (by kernel_rfl)) (.cons (fun σ hc => e_g (d := 47) (t := .u (.c (.v (.int .i64 v8)))) hc rfl rfl (by kernel_rfl)) (.cons (fun σ hc => e_eq (os_plain rfl rfl (c_call (outs := [some (.c (storeC r10.1)), none]) (res := [.c (.v (.bool r10.2))]) (AC.k (IsFree.ac (h := hr10))) ⟨_, Tryd.func19, rfl, by kernel_rfl⟩ rfl (hand_root (r := 0) (c := storeC v6) (by kernel_rfl) (by kernel_rfl) rfl (.rd (.copy (by kernel_rfl) rfl) (.nil))) rfl (by kernel_rfl))) (hand_put_over hc rfl rfl rfl rfl)) (.cons (fun σ hc => e_g (d := 49) (t := .u (.c (.sl false 1 (a1.map eB)))) hc rfl rfl (by kernel_rfl)) (.cons (fun σ hc => e_g (d := 50) (t := .u (.c (.v (.int .i64 v8)))) hc rfl rfl (by kernel_rfl)) (.cons (fun σ hc => e_put hc rfl rfl (os_plain rfl rfl (s_indexU (own := false) (sz := 1) (rows := (a1.map eB)) (e := v8) (ik := .i64) rfl sl41 (by kernel_rfl) (.tmp (by kernel_rfl)) hg11.1 (by rw [List.length_map]; exact hg11.2) rfl (by kernel_rfl) (by kernel_rfl)))) (.cons (fun σ hc => e_put hc rfl rfl (os_plain rfl rfl (s_load1 (x := .v (.bool (a1.getD v8.toNat false))) (r := 49) (off := 0) (s := .i v8.toNat 1) (p := []) (c := .sl false 1 (a1.map eB)) (cs := eB (a1.getD v8.toNat false)) rfl (oneB_ok (by kernel_rfl)) (by kernel_rfl) (by kernel_rfl) (getP_map false (by have := hg11; omega)) rfl rfl rfl (by kernel_rfl)))) (.cons (fun σ hc => e_g (d := 53) (t := .u (.c (.v (.bool (!(r10.2 == (a1.getD v8.toNat false))))))) hc rfl rfl (by kernel_rfl)) (.nil))))))))) (by kernel_rfl) ?_
          rcases Bool.eq_false_or_eq_true (!(r10.2 == (a1.getD v8.toNat false))) with hb | hb
          · have h := cond_t hb h
            refine r_condT hb rfl ?_
            refine r_seq ?_
            refine r_reg (l := [(0, .u (.c (storeC r10.1))), (4, .u (.c (.v (.bool false))))]) (cg_then (ds := [4]) 1 rfl (by kernel_rfl) (.nil)) rfl (by kernel_rfl) ?_
            refine r_ret ?_
            obtain rfl := Option.some.inj h
            exact ⟨.inr rfl, _, _, .cons (.copy rfl rfl rfl) (.nil), rfl, outs_of ⟨⟨rfl, rfl⟩, trivial⟩⟩
          · have h := cond_f hb h
            refine r_condF hb rfl ?_
            refine r_skip ?_
            refine r_reg (l := [(0, .u (.c (storeC r10.1))), (1, .u (.c (.sl false 1 (a1.map eB)))), (8, .u (.c (.v (.int .i64 (IntKind.i64.wrap (v7 + 1)))))), (9, .u (.c (.v (.int .i64 (IntKind.i64.wrap (v8 + 1))))))]) (cg_then (ds := [38, 39, 9]) 3 rfl (by kernel_rfl) (.nil)) rfl (by kernel_rfl) ?_
            exact ⟨(r10.1, IntKind.i64.wrap (v7 + 1), IntKind.i64.wrap (v8 + 1)), h, of_weak (by kernel_rfl)⟩
        · have h := cond_f hb h
          refine r_condF hb rfl ?_
          refine r_skip ?_
          refine r_seq ?_
          obtain ⟨r12, hr12, h⟩ := bind_some h
          obtain ⟨hg13, h⟩ := guard_some h
          simp only [Bool.and_eq_true, decide_eq_true_eq] at hg13
          refine r_weak (of_weak (l := [(0, .u (.c (storeC v6))), (1, .u (.c (.sl false 1 (a1.map eB)))), (8, .u (.c (.v (.int .i64 v7)))), (9, .u (.c (.v (.int .i64 v8)))), (43, .u (.c (.v (.bool (a1.getD v8.toNat false)))))]) (by kernel_rfl)) ?_
          refine r_anyW (l := [(0, .u (.c (storeC r12.1))), (1, .u (.c (.sl false 1 (a1.map eB)))), (8, .u (.c (.v (.int .i64 v7)))), (9, .u (.c (.v (.int .i64 v8)))), (53, .u (.c (.v (.bool (!(r12.2 == (a1.getD v8.toNat false)))))))]) (tab := [[], [], [0, 1], [], [], [3, 4], [5], [2, 6]]) [⟨[], [0], [(46, .addr 0 (.d) [] 0)], some 46, false⟩, ⟨[], [9], [(47, .u (.c (.v (.int .i64 v8))))], some 47, false⟩, ⟨[0, 1], [0, 46, 47], [(48, .u (.c (.v (.bool r12.2)))), (0, .u (.c (storeC r12.1)))], some 48, true⟩, ⟨[], [1], [(49, .u (.c (.sl false 1 (a1.map eB))))], some 49, false⟩, ⟨[], [9], [(50, .u (.c (.v (.int .i64 v8))))], some 50, false⟩, ⟨[3, 4], [49, 50], [(51, .addr 49 (.i v8.toNat 1) [] 0)], some 51, false⟩, ⟨[3, 4, 5], [49, 51], [(52, .u (.c (.v (.bool (a1.getD v8.toNat false)))))], some 52, false⟩, ⟨[0, 1, 2, 3, 4, 5, 6], [48, 52], [(53, .u (.c (.v (.bool (!(r12.2 == (a1.getD v8.toNat false)))))))], some 53, false⟩] hm (by kernel_rfl) (by kernel_rfl) (by kernel_rfl) (.cons (fun σ hc => e_g (d := 46) (t := .addr 0 (.d) [] 0) hc rfl rfl (by kernel_rfl)) (.cons (fun σ hc => e_g (d := 47) (t := .u (.c (.v (.int .i64 v8)))) hc rfl rfl (by kernel_rfl)) (.cons (fun σ hc => e_eq (os_plain rfl rfl (c_call (outs := [some (.c (storeC r12.1)), none]) (res := [.c (.v (.bool r12.2))]) (AC.k (IsFree.ac (h := hr12))) ⟨_, Tryd.func19, rfl, by kernel_rfl⟩ rfl (hand_root (r := 0) (c := storeC v6) (by kernel_rfl) (by kernel_rfl) rfl (.rd (.copy (by kernel_rfl) rfl) (.nil))) rfl (by kernel_rfl))) (hand_put_over hc rfl rfl rfl rfl)) (.cons (fun σ hc => e_g (d := 49) (t := .u (.c (.sl false 1 (a1.map eB)))) hc rfl rfl (by kernel_rfl)) (.cons (fun σ hc => e_g (d := 50) (t := .u (.c (.v (.int .i64 v8)))) hc rfl rfl (by kernel_rfl)) (.cons (fun σ hc => e_put hc rfl rfl (os_plain rfl rfl (s_indexU (own := false) (sz := 1) (rows := (a1.map eB)) (e := v8) (ik := .i64) rfl sl41 (by kernel_rfl) (.tmp (by kernel_rfl)) hg13.1 (by rw [List.length_map]; exact hg13.2) rfl (by kernel_rfl) (by kernel_rfl)))) (.cons (fun σ hc => e_put hc rfl rfl (os_plain rfl rfl (s_load1 (x := .v (.bool (a1.getD v8.toNat false))) (r := 49) (off := 0) (s := .i v8.toNat 1) (p := []) (c := .sl false 1 (a1.map eB)) (cs := eB (a1.getD v8.toNat false)) rfl (oneB_ok (by kernel_rfl)) (by kernel_rfl) (by kernel_rfl) (getP_map false (by have := hg13; omega)) rfl rfl rfl (by kernel_rfl)))) (.cons (fun σ hc => e_g (d := 53) (t := .u (.c (.v (.bool (!(r12.2 == (a1.getD v8.toNat false))))))) hc rfl rfl (by kernel_rfl)) (.nil))))))))) (by kernel_rfl) ?_
          rcases Bool.eq_false_or_eq_true (!(r12.2 == (a1.getD v8.toNat false))) with hb | hb
          · have h := cond_t hb h
            refine r_condT hb rfl ?_
            refine r_seq ?_
            refine r_reg (l := [(0, .u (.c (storeC r12.1))), (4, .u (.c (.v (.bool false))))]) (cg_then (ds := [4]) 1 rfl (by kernel_rfl) (.nil)) rfl (by kernel_rfl) ?_
            refine r_ret ?_
            obtain rfl := Option.some.inj h
            exact ⟨.inr rfl, _, _, .cons (.copy rfl rfl rfl) (.nil), rfl, outs_of ⟨⟨rfl, rfl⟩, trivial⟩⟩
          · have h := cond_f hb h
            refine r_condF hb rfl ?_
            refine r_skip ?_
            refine r_reg (l := [(0, .u (.c (storeC r12.1))), (1, .u (.c (.sl false 1 (a1.map eB)))), (8, .u (.c (.v (.int .i64 v7)))), (9, .u (.c (.v (.int .i64 (IntKind.i64.wrap (v8 + 1))))))]) (cg_then (ds := [38, 39, 9]) 3 rfl (by kernel_rfl) (.nil)) rfl (by kernel_rfl) ?_
            exact ⟨(r12.1, v7, IntKind.i64.wrap (v8 + 1)), h, of_weak (by kernel_rfl)⟩
      · have h := cond_f hb h
        refine r_condF hb rfl ?_
        refine r_exit ?_
        refine r_seq ?_
        obtain ⟨r14, hr14, h⟩ := bind_some h
        rcases Bool.eq_false_or_eq_true (r14.2 == v7) with hb | hb
        · have h := cond_t hb h
          have hs15 := hb
          obtain ⟨r16, hr16, h⟩ := bind_some h
          rcases Bool.eq_false_or_eq_true (!r16.2) with hb | hb
          · have h := cond_t hb h
            have hs17 := hb
            obtain ⟨r18, hr18, h⟩ := bind_some h
            refine r_reg (l := [(0, .u (.c (storeC r18.1))), (4, .u (.c (.v (.bool (!r18.2)))))]) (cg_then (ds := [54]) 1 rfl (by kernel_rfl) (co_then 2 rfl (os_plain rfl rfl (c_call (AC.k (Count.ac (h := hr14))) ⟨_, Tryd.func14, rfl, by kernel_rfl⟩ rfl (hand_root (r := 0) (c := storeC v6) (by kernel_rfl) (by kernel_rfl) rfl (.nil)) rfl (by kernel_rfl))) (cg_then (ds := [56, 57]) 4 rfl (by kernel_rfl) (co_then 5 rfl (os_ge (d := 58) (t := .u (.c (.v (.bool (r14.2 == v7))))) (t' := .u (.c (.v (.bool true)))) (by kernel_rfl) (by rw [hs15])) (cg_then (ds := [59]) 6 rfl (by kernel_rfl) (co_then 7 rfl (os_gy rfl rfl rfl (by kernel_rfl) (c_call (AC.k (IsFree.ac (h := hr16))) ⟨_, Tryd.func19, rfl, by kernel_rfl⟩ rfl (hand_root (r := 0) (c := storeC r14.1) (by kernel_rfl) (by kernel_rfl) rfl (.rd (.copy (by kernel_rfl) rfl) (.nil))) rfl (by kernel_rfl))) (cg_then (ds := [61, 62]) 9 rfl (by kernel_rfl) (co_then 10 rfl (os_ge (d := 63) (t := .u (.c (.v (.bool (!r16.2))))) (t' := .u (.c (.v (.bool true)))) (by kernel_rfl) (by rw [hs17])) (cg_then (ds := [64, 65]) 12 rfl (by kernel_rfl) (co_then 13 rfl (os_to (os_gy rfl rfl rfl (by kernel_rfl) (s_lenU (own := false) (sz := 1) (rows := (a1.map eB)) rfl sl41 (by kernel_rfl) rfl (by kernel_rfl))) (t' := .u (.c (.v (.int .i64 (a1.length : Int))))) (by rw [List.length_map])) (co_then 14 rfl (os_gy rfl rfl rfl (by kernel_rfl) (c_call (AC.k (IsFree.ac (h := hr18))) ⟨_, Tryd.func19, rfl, by kernel_rfl⟩ rfl (hand_root (r := 0) (c := storeC r16.1) (by kernel_rfl) (by kernel_rfl) rfl (.rd (.copy (by kernel_rfl) rfl) (.nil))) rfl (by kernel_rfl))) (cg_then (ds := [68, 69, 4]) 17 rfl (by kernel_rfl) (.nil))))))))))))) rfl (by kernel_rfl) ?_
            refine r_ret ?_
            obtain rfl := Option.some.inj h
            exact ⟨.inr rfl, _, _, .cons (.copy rfl rfl rfl) (.nil), rfl, outs_of ⟨⟨rfl, rfl⟩, trivial⟩⟩
          · have h := cond_f hb h
            have hs19 := hb
            refine r_reg (l := [(0, .u (.c (storeC r16.1))), (4, .u (.c (.v (.bool false))))]) (cg_then (ds := [54]) 1 rfl (by kernel_rfl) (co_then 2 rfl (os_plain rfl rfl (c_call (AC.k (Count.ac (h := hr14))) ⟨_, Tryd.func14, rfl, by kernel_rfl⟩ rfl (hand_root (r := 0) (c := storeC v6) (by kernel_rfl) (by kernel_rfl) rfl (.nil)) rfl (by kernel_rfl))) (cg_then (ds := [56, 57]) 4 rfl (by kernel_rfl) (co_then 5 rfl (os_ge (d := 58) (t := .u (.c (.v (.bool (r14.2 == v7))))) (t' := .u (.c (.v (.bool true)))) (by kernel_rfl) (by rw [hs15])) (cg_then (ds := [59]) 6 rfl (by kernel_rfl) (co_then 7 rfl (os_gy rfl rfl rfl (by kernel_rfl) (c_call (AC.k (IsFree.ac (h := hr16))) ⟨_, Tryd.func19, rfl, by kernel_rfl⟩ rfl (hand_root (r := 0) (c := storeC r14.1) (by kernel_rfl) (by kernel_rfl) rfl (.rd (.copy (by kernel_rfl) rfl) (.nil))) rfl (by kernel_rfl))) (cg_then (ds := [61, 62]) 9 rfl (by kernel_rfl) (co_then 10 rfl (os_ge (d := 63) (t := .u (.c (.v (.bool (!r16.2))))) (t' := .u (.c (.v (.bool false)))) (by kernel_rfl) (by rw [hs19])) (cg_then (ds := [64, 65, 66, 67, 68, 69, 4]) 17 rfl (by kernel_rfl) (.nil)))))))))) rfl (by kernel_rfl) ?_
            refine r_ret ?_
            obtain rfl := Option.some.inj h
            exact ⟨.inr rfl, _, _, .cons (.copy rfl rfl rfl) (.nil), rfl, outs_of ⟨⟨rfl, rfl⟩, trivial⟩⟩
        · have h := cond_f hb h
          have hs20 := hb
          refine r_reg (l := [(0, .u (.c (storeC r14.1))), (4, .u (.c (.v (.bool false))))]) (cg_then (ds := [54]) 1 rfl (by kernel_rfl) (co_then 2 rfl (os_plain rfl rfl (c_call (AC.k (Count.ac (h := hr14))) ⟨_, Tryd.func14, rfl, by kernel_rfl⟩ rfl (hand_root (r := 0) (c := storeC v6) (by kernel_rfl) (by kernel_rfl) rfl (.nil)) rfl (by kernel_rfl))) (cg_then (ds := [56, 57]) 4 rfl (by kernel_rfl) (co_then 5 rfl (os_ge (d := 58) (t := .u (.c (.v (.bool (r14.2 == v7))))) (t' := .u (.c (.v (.bool false)))) (by kernel_rfl) (by rw [hs20])) (cg_then (ds := [59, 60, 61, 62, 63, 64, 65, 66, 67, 68, 69, 4]) 17 rfl (by kernel_rfl) (.nil)))))) rfl (by kernel_rfl) ?_
          refine r_ret ?_
          obtain rfl := Option.some.inj h
          exact ⟨.inr rfl, _, _, .cons (.copy rfl rfl rfl) (.nil), rfl, outs_of ⟨⟨rfl, rfl⟩, trivial⟩⟩
def RSet.l1 (k : Nat) (a0 : List Bool) (a1 : Int) (a2 : Int) (a3 : Bool) : Nat → (List Bool) → Int → Option ((List Bool))
  | 0, _, _ => none
  | n1 + 1, v1, v2 => (paviorref01_Power.f k a2).bind fun (r3 : Int) => (bif decide (v2 < r3) then (bif decide (0 ≤ (IntKind.i64.wrap (a1 + v2))) && decide ((IntKind.i64.wrap (a1 + v2)) < (v1.length : Int)) then RSet.l1 k a0 a1 a2 a3 n1 (v1.set ((IntKind.i64.wrap (a1 + v2)).toNat) a3) (IntKind.i64.wrap (v2 + 1)) else none) else some v1)
set_option maxHeartbeats 4000000 in
def RSet.f (k : Nat) (a0 : List Bool) (a1 : Int) (a2 : Int) (a3 : Bool) : Option ((List Bool)) :=
  RSet.l1 k a0 a1 a2 a3 k a0 0
set_option maxHeartbeats 4000000 in
theorem RSet.ac (k : Nat) (a0 : List Bool) (a1 : Int) (a2 : Int) (a3 : Bool) (r : (List Bool)) (h : RSet.f k a0 a1 a2 a3 = some r) : AC Tryd.prog 38 24 [.c (.sl true 1 (a0.map eB)), .c (.v (.int .i64 a1)), .c (.v (.int .i64 a2)), .c (.v (.bool a3))] [some (.c (.sl true 1 (r.map eB))), none, none, none] [] := by
  unfold RSet.f at h
  refine ac_intro (fn := Tryd.f24) (pins := [0]) (rts := []) Tryd.func24 rfl Tryd.ntmps24 rfl (Nat.le_of_ble_eq_true rfl) (pins_lt rfl) rfl (fun w R E vs => ?_)
  refine r_weak (of_weak (l := [(0, .u (.c (.sl true 1 (a0.map eB)))), (1, .u (.c (.v (.int .i64 a1)))), (2, .u (.c (.v (.int .i64 a2)))), (3, .u (.c (.v (.bool a3))))]) (by kernel_rfl)) ?_
  refine r_seq ?_
  refine r_reg (l := [(0, .u (.c (.sl true 1 (a0.map eB)))), (1, .u (.c (.v (.int .i64 a1)))), (2, .u (.c (.v (.int .i64 a2)))), (3, .u (.c (.v (.bool a3)))), (8, .u (.c (.v (.int .i64 0))))]) (cg_then (ds := [8]) 1 rfl (by kernel_rfl) (.nil)) rfl (by kernel_rfl) ?_
  refine r_block ?_
  refine r_weak (of_weak (l := [(0, .u (.c (.sl true 1 (a0.map eB)))), (1, .u (.c (.v (.int .i64 a1)))), (2, .u (.c (.v (.int .i64 a2)))), (3, .u (.c (.v (.bool a3)))), (8, .u (.c (.v (.int .i64 0))))]) (by kernel_rfl)) ?_
  refine r_loopI (α := (List Bool) × Int) (fun x => [(0, .u (.c (.sl true 1 (x.1.map eB)))), (1, .u (.c (.v (.int .i64 a1)))), (2, .u (.c (.v (.int .i64 a2)))), (3, .u (.c (.v (.bool a3)))), (8, .u (.c (.v (.int .i64 x.2))))]) (fun n x => RSet.l1 k a0 a1 a2 a3 n x.1 x.2 = some r) k (a0, 0) h (by intro x h; unfold RSet.l1 at h; cases h) ?_
  rintro n1 ⟨v1, v2⟩ h
  replace h : RSet.l1 k a0 a1 a2 a3 (n1 + 1) v1 v2 = some r := h
  unfold RSet.l1 at h
  show Run _ _ _ (St.of [(0, .u (.c (.sl true 1 (v1.map eB)))), (1, .u (.c (.v (.int .i64 a1)))), (2, .u (.c (.v (.int .i64 a2)))), (3, .u (.c (.v (.bool a3)))), (8, .u (.c (.v (.int .i64 v2))))]) _
  refine r_seq ?_
  refine r_seq ?_
  obtain ⟨r3, hr3, h⟩ := bind_some h
  refine r_reg (l := [(0, .u (.c (.sl true 1 (v1.map eB)))), (1, .u (.c (.v (.int .i64 a1)))), (2, .u (.c (.v (.int .i64 a2)))), (3, .u (.c (.v (.bool a3)))), (8, .u (.c (.v (.int .i64 v2)))), (12, .u (.c (.v (.bool (decide (v2 < r3))))))]) (cg_then (ds := [9, 10]) 2 rfl (by kernel_rfl) (co_then 3 rfl (os_plain rfl rfl (c_callQ (AC.k (paviorref01_Power.ac (h := hr3))) ⟨_, Tryd.func18, rfl, by kernel_rfl⟩ rfl (.cons (.copy (by kernel_rfl) rfl) (.nil)) (by kernel_rfl))) (cg_then (ds := [12]) 4 rfl (by kernel_rfl) (.nil)))) rfl (by kernel_rfl) ?_
  rcases Bool.eq_false_or_eq_true (decide (v2 < r3)) with hb | hb
  · have h := cond_t hb h
    refine r_condT hb rfl ?_
    refine r_skip ?_
    refine r_seq ?_
    refine r_block ?_
    obtain ⟨hg4, h⟩ := guard_some h
    simp only [Bool.and_eq_true, decide_eq_true_eq] at hg4
    refine r_reg (l := [(0, .u (.c (.sl true 1 ((v1.set ((IntKind.i64.wrap (a1 + v2)).toNat) a3).map eB)))), (1, .u (.c (.v (.int .i64 a1)))), (2, .u (.c (.v (.int .i64 a2)))), (3, .u (.c (.v (.bool a3)))), (8, .u (.c (.v (.int .i64 v2))))]) (cg_then (ds := [15, 16, 17, 18, 19]) 5 rfl (by kernel_rfl) (co_then 6 rfl (os_plain rfl rfl (s_indexV (r := 0) (lo := 0) (n := (v1.map eB).length) (pl := none) (sz := 1) (e := (IntKind.i64.wrap (a1 + v2))) (ik := .i64) (k := (IntKind.i64.wrap (a1 + v2)).toNat) rfl sl41 (by kernel_rfl) (.tmp (by kernel_rfl)) hg4.1 (by rw [List.length_map]; exact hg4.2) (Nat.zero_add _) rfl (by kernel_rfl) (by kernel_rfl))) (co_then 7 rfl (os_plain rfl rfl (s_storeR (f := eB) (k := 0) (sz := 0) (n := 1) (r := 0) (off := 0) (s := .i ((IntKind.i64.wrap (a1 + v2)).toNat) 1) (p := []) (c := .sl true 1 (v1.map eB)) (cs := eB (v1.getD ((IntKind.i64.wrap (a1 + v2)).toNat) false)) (u := .c (.v (.bool a3))) (us := [.v (.bool a3)]) (c' := .sl true 1 ((v1.set ((IntKind.i64.wrap (a1 + v2)).toNat) a3).map eB)) rfl (by kernel_rfl) (by kernel_rfl) (by kernel_rfl) rfl (by kernel_rfl) (getP_map (f := eB) (own := true) (xs := v1) (k := (IntKind.i64.wrap (a1 + v2)).toNat) false (by have := hg4; omega)) (by kernel_rfl) rfl rfl (Nat.le_of_ble_eq_true rfl) (by kernel_rfl) (by kernel_rfl) (by kernel_rfl) rfl (row_set (f := eB) (l := v1) (k := (IntKind.i64.wrap (a1 + v2)).toNat) (y := a3) rfl))) (.nil)))) rfl (by kernel_rfl) ?_
    refine r_reg (l := [(0, .u (.c (.sl true 1 ((v1.set ((IntKind.i64.wrap (a1 + v2)).toNat) a3).map eB)))), (1, .u (.c (.v (.int .i64 a1)))), (2, .u (.c (.v (.int .i64 a2)))), (3, .u (.c (.v (.bool a3)))), (8, .u (.c (.v (.int .i64 (IntKind.i64.wrap (v2 + 1))))))]) (cg_then (ds := [13, 14, 8]) 3 rfl (by kernel_rfl) (.nil)) rfl (by kernel_rfl) ?_
    exact ⟨((v1.set ((IntKind.i64.wrap (a1 + v2)).toNat) a3), IntKind.i64.wrap (v2 + 1)), h, of_weak (by kernel_rfl)⟩
  · have h := cond_f hb h
    refine r_condF hb rfl ?_
    refine r_exit ?_
    obtain rfl := Option.some.inj h
    exact ⟨.inl rfl, _, _, .nil, rfl, outs_of ⟨⟨rfl, rfl⟩, trivial⟩⟩
def RTake.l2 (k : Nat) (a0 : List Bool) (a1 : Int) (r1 : (List Blk)) (v2 : List Bool) (v3 : Int) : Nat → (List Bool) → Int → Option (Sum ((List Bool) × Int) ((List Bool) × Int))
  | 0, _, _ => none
  | n2 + 1, v4, v5 => (bif decide (v5 < (r1.length : Int)) then (bif decide (0 ≤ v5) && decide (v5 < (r1.length : Int)) then (bif ((r1.getD ((v5).toNat) zR).o) == v3 then (bif decide (0 ≤ v5) && decide (v5 < (r1.length : Int)) then (RSet.f k v4 ((r1.getD ((v5).toNat) zR).f) a1 false).bind fun (r9 : (List Bool)) => (bif decide (0 ≤ v5) && decide (v5 < (r1.length : Int)) then some (Sum.inr (r9, (r1.getD ((v5).toNat) zR).f)) else none) else none) else RTake.l2 k a0 a1 r1 v2 v3 n2 v4 (IntKind.i64.wrap (v5 + 1))) else none) else some (Sum.inl (v4, v5)))
def RTake.l1 (k : Nat) (a0 : List Bool) (a1 : Int) (r1 : (List Blk)) : Nat → (List Bool) → Int → Option ((List Bool) × Int)
  | 0, _, _ => none
  | n1 + 1, v2, v3 => (bif decide (v3 ≤ 5) then (RTake.l2 k a0 a1 r1 v2 v3 k v2 0).bind fun (y6 : Sum ((List Bool) × Int) ((List Bool) × Int)) => Sum.elim (fun (y6v : (List Bool) × Int) => RTake.l1 k a0 a1 r1 n1 y6v.1 (IntKind.i64.wrap (v3 + 1))) some y6 else some (v2, (-1)))
set_option maxHeartbeats 4000000 in
def RTake.f (k : Nat) (a0 : List Bool) (a1 : Int) : Option ((List Bool) × Int) :=
  (RFree.f k a0).bind fun (r1 : (List Blk)) => RTake.l1 k a0 a1 r1 k a0 a1
set_option maxHeartbeats 4000000 in
theorem RTake.ac (k : Nat) (a0 : List Bool) (a1 : Int) (r : (List Bool) × Int) (h : RTake.f k a0 a1 = some r) : AC Tryd.prog 38 22 [.c (.sl true 1 (a0.map eB)), .c (.v (.int .i64 a1))] [some (.c (.sl true 1 (r.1.map eB))), none] [.c (.v (.int .i64 r.2))] := by
  unfold RTake.f at h
  refine ac_intro (fn := Tryd.f22) (pins := [0]) (rts := [4]) Tryd.func22 rfl Tryd.ntmps22 rfl (Nat.le_of_ble_eq_true rfl) (pins_lt rfl) rfl (fun w R E vs => ?_)
  refine r_weak (of_weak (l := [(0, .u (.c (.sl true 1 (a0.map eB)))), (1, .u (.c (.v (.int .i64 a1))))]) (by kernel_rfl)) ?_
  refine r_seq ?_
  refine r_reg (l := [(0, .u (.c (.sl true 1 (a0.map eB)))), (1, .u (.c (.v (.int .i64 a1))))]) (cg_then (ds := [4]) 1 rfl (by kernel_rfl) (.nil)) rfl (by kernel_rfl) ?_
  refine r_seq ?_
  obtain ⟨r1, hr1, h⟩ := bind_some h
  refine r_reg (l := [(0, .u (.c (.sl true 1 (a0.map eB)))), (1, .u (.c (.v (.int .i64 a1)))), (5, .u (.c (.sl true 2 (r1.map eR))))]) (cg_then (ds := [8]) 1 rfl (by kernel_rfl) (co_then 2 rfl (os_plain rfl rfl (c_callQL (res := [.c (.sl true 2 (r1.map eR))]) (AC.k (RFree.ac (h := hr1))) ⟨_, Tryd.func30, rfl, by kernel_rfl⟩ rfl (.cons (.view (.v0 (r := 0) (lo := 0) (n := (a0.map eB).length) (own := true) (rows := a0.map eB) (by kernel_rfl) (by kernel_rfl) rows_all) (copy_map eB_copy)) (.nil)) (⟨⟨rfl, mine_map (fun _ => rfl)⟩, trivial⟩) (by kernel_rfl))) (co_then 3 rfl (os_plain rfl rfl (s_take (u := .c (.sl true 2 (r1.map eR))) (.inr rfl) (.move (by kernel_rfl) rfl) rfl (by kernel_rfl))) (.nil)))) rfl (by kernel_rfl) ?_
  refine r_seq ?_
  refine r_seq ?_
  refine r_reg (l := [(0, .u (.c (.sl true 1 (a0.map eB)))), (1, .u (.c (.v (.int .i64 a1)))), (5, .u (.c (.sl true 2 (r1.map eR)))), (6, .u (.c (.v (.int .i64 a1))))]) (cg_then (ds := [10, 6]) 2 rfl (by kernel_rfl) (.nil)) rfl (by kernel_rfl) ?_
  refine r_block ?_
  refine r_weak (of_weak (l := [(0, .u (.c (.sl true 1 (a0.map eB)))), (1, .u (.c (.v (.int .i64 a1)))), (5, .u (.c (.sl true 2 (r1.map eR)))), (6, .u (.c (.v (.int .i64 a1))))]) (by kernel_rfl)) ?_
  refine r_loopI (α := (List Bool) × Int) (fun x => [(0, .u (.c (.sl true 1 (x.1.map eB)))), (1, .u (.c (.v (.int .i64 a1)))), (5, .u (.c (.sl true 2 (r1.map eR)))), (6, .u (.c (.v (.int .i64 x.2))))]) (fun n x => RTake.l1 k a0 a1 r1 n x.1 x.2 = some r) k (a0, a1) h (by intro x h; unfold RTake.l1 at h; cases h) ?_
  rintro n1 ⟨v2, v3⟩ h
  replace h : RTake.l1 k a0 a1 r1 (n1 + 1) v2 v3 = some r := h
  unfold RTake.l1 at h
  show Run _ _ _ (St.of [(0, .u (.c (.sl true 1 (v2.map eB)))), (1, .u (.c (.v (.int .i64 a1)))), (5, .u (.c (.sl true 2 (r1.map eR)))), (6, .u (.c (.v (.int .i64 v3))))]) _
  refine r_seq ?_
  refine r_seq ?_
  refine r_reg (l := [(0, .u (.c (.sl true 1 (v2.map eB)))), (1, .u (.c (.v (.int .i64 a1)))), (5, .u (.c (.sl true 2 (r1.map eR)))), (6, .u (.c (.v (.int .i64 v3)))), (12, .u (.c (.v (.bool (decide (v3 ≤ 5))))))]) (cg_then (ds := [11, 12]) 2 rfl (by kernel_rfl) (.nil)) rfl (by kernel_rfl) ?_
  rcases Bool.eq_false_or_eq_true (decide (v3 ≤ 5)) with hb | hb
  · have h := cond_t hb h
    refine r_condT hb rfl ?_
    refine r_skip ?_
    refine r_seq ?_
    refine r_block ?_
    refine r_seq ?_
    refine r_reg (l := [(0, .u (.c (.sl true 1 (v2.map eB)))), (1, .u (.c (.v (.int .i64 a1)))), (5, .u (.c (.sl true 2 (r1.map eR)))), (6, .u (.c (.v (.int .i64 v3)))), (7, .u (.c (.v (.int .i64 0))))]) (cg_then (ds := [7]) 1 rfl (by kernel_rfl) (.nil)) rfl (by kernel_rfl) ?_
    refine r_block ?_
    refine r_weak (of_weak (l := [(0, .u (.c (.sl true 1 (v2.map eB)))), (1, .u (.c (.v (.int .i64 a1)))), (5, .u (.c (.sl true 2 (r1.map eR)))), (6, .u (.c (.v (.int .i64 v3)))), (7, .u (.c (.v (.int .i64 0))))]) (by kernel_rfl)) ?_
    obtain ⟨y6, hy6, h_y6⟩ := bind_some h
    refine r_loopI (α := (List Bool) × Int) (fun x => [(0, .u (.c (.sl true 1 (x.1.map eB)))), (1, .u (.c (.v (.int .i64 a1)))), (5, .u (.c (.sl true 2 (r1.map eR)))), (6, .u (.c (.v (.int .i64 v3)))), (7, .u (.c (.v (.int .i64 x.2))))]) (fun n x => RTake.l2 k a0 a1 r1 v2 v3 n x.1 x.2 = some y6) k (v2, 0) hy6 (by intro x h; unfold RTake.l2 at h; cases h) ?_
    rintro n2 ⟨v4, v5⟩ h
    replace h : RTake.l2 k a0 a1 r1 v2 v3 (n2 + 1) v4 v5 = some y6 := h
    unfold RTake.l2 at h
    show Run _ _ _ (St.of [(0, .u (.c (.sl true 1 (v4.map eB)))), (1, .u (.c (.v (.int .i64 a1)))), (5, .u (.c (.sl true 2 (r1.map eR)))), (6, .u (.c (.v (.int .i64 v3)))), (7, .u (.c (.v (.int .i64 v5))))]) _
    refine r_seq ?_
    refine r_seq ?_
    refine r_reg (l := [(0, .u (.c (.sl true 1 (v4.map eB)))), (1, .u (.c (.v (.int .i64 a1)))), (5, .u (.c (.sl true 2 (r1.map eR)))), (6, .u (.c (.v (.int .i64 v3)))), (7, .u (.c (.v (.int .i64 v5)))), (18, .u (.c (.v (.bool (decide (v5 < (r1.length : Int)))))))]) (cg_then (ds := [15, 16]) 2 rfl (by kernel_rfl) (co_then 3 rfl (os_to (os_plain rfl rfl (s_lenV (r := 5) (lo := 0) (n := (r1.map eR).length) (pl := none) (sz := 2) rfl sl30 (by kernel_rfl) rfl (by kernel_rfl))) (t' := .u (.c (.v (.int .i64 (r1.length : Int))))) (by rw [List.length_map])) (cg_then (ds := [18]) 4 rfl (by kernel_rfl) (.nil)))) rfl (by kernel_rfl) ?_
    rcases Bool.eq_false_or_eq_true (decide (v5 < (r1.length : Int))) with hb | hb
    · have h := cond_t hb h
      refine r_condT hb rfl ?_
      refine r_skip ?_
      refine r_seq ?_
      refine r_block ?_
      refine r_seq ?_
      obtain ⟨hg7, h⟩ := guard_some h
      simp only [Bool.and_eq_true, decide_eq_true_eq] at hg7
      refine r_reg (l := [(0, .u (.c (.sl true 1 (v4.map eB)))), (1, .u (.c (.v (.int .i64 a1)))), (5, .u (.c (.sl true 2 (r1.map eR)))), (6, .u (.c (.v (.int .i64 v3)))), (7, .u (.c (.v (.int .i64 v5)))), (27, .u (.c (.v (.bool (((r1.getD ((v5).toNat) zR).o) == v3)))))]) (cg_then (ds := [21, 22]) 2 rfl (by kernel_rfl) (co_then 3 rfl (os_plain rfl rfl (s_indexV (r := 5) (lo := 0) (n := (r1.map eR).length) (pl := none) (sz := 2) (e := v5) (ik := .i64) (k := (v5).toNat) rfl sl30 (by kernel_rfl) (.tmp (by kernel_rfl)) hg7.1 (by rw [List.length_map]; exact hg7.2) (Nat.zero_add _) rfl (by kernel_rfl) (by kernel_rfl))) (cg_then (ds := [24]) 4 rfl (by kernel_rfl) (co_then 5 rfl (os_plain rfl rfl (s_load1 (x := .v (.int .i64 ((r1.getD ((v5).toNat) zR).o))) (r := 5) (off := 1) (s := .i ((v5).toNat) 2) (p := []) (c := .sl true 2 (r1.map eR)) (cs := eR (r1.getD ((v5).toNat) zR)) rfl (oneB_ok (by kernel_rfl)) (by kernel_rfl) (by kernel_rfl) (getP_map zR (by have := hg7; omega)) rfl rfl rfl (by kernel_rfl))) (cg_then (ds := [26, 27]) 7 rfl (by kernel_rfl) (.nil)))))) rfl (by kernel_rfl) ?_
      rcases Bool.eq_false_or_eq_true (((r1.getD ((v5).toNat) zR).o) == v3) with hb | hb
      · have h := cond_t hb h
        refine r_condT hb rfl ?_
        refine r_seq ?_
        obtain ⟨hg8, h⟩ := guard_some h
        simp only [Bool.and_eq_true, decide_eq_true_eq] at hg8
        obtain ⟨r9, hr9, h⟩ := bind_some h
        refine r_reg (l := [(0, .u (.c (.sl true 1 (r9.map eB)))), (5, .u (.c (.sl true 2 (r1.map eR)))), (7, .u (.c (.v (.int .i64 v5))))]) (cg_then (ds := [28, 29, 30]) 3 rfl (by kernel_rfl) (co_then 4 rfl (os_plain rfl rfl (s_indexV (r := 5) (lo := 0) (n := (r1.map eR).length) (pl := none) (sz := 2) (e := v5) (ik := .i64) (k := (v5).toNat) rfl sl30 (by kernel_rfl) (.tmp (by kernel_rfl)) hg8.1 (by rw [List.length_map]; exact hg8.2) (Nat.zero_add _) rfl (by kernel_rfl) (by kernel_rfl))) (cg_then (ds := [32]) 5 rfl (by kernel_rfl) (co_then 6 rfl (os_plain rfl rfl (s_load1 (x := .v (.int .i64 ((r1.getD ((v5).toNat) zR).f))) (r := 5) (off := 0) (s := .i ((v5).toNat) 2) (p := []) (c := .sl true 2 (r1.map eR)) (cs := eR (r1.getD ((v5).toNat) zR)) rfl (oneB_ok (by kernel_rfl)) (by kernel_rfl) (by kernel_rfl) (getP_map zR (by have := hg8; omega)) rfl rfl rfl (by kernel_rfl))) (cg_then (ds := [34]) 7 rfl (by kernel_rfl) (co_then 8 rfl (os_plain rfl rfl (c_call (AC.k (RSet.ac (h := hr9))) ⟨_, Tryd.func24, rfl, by kernel_rfl⟩ rfl (hand_sl (sz := 1) (n := (v4.map eB).length) (r := 0) (c := .sl true 1 (v4.map eB)) (by kernel_rfl) (by kernel_rfl) rfl (.rd (.copy (by kernel_rfl) rfl) (.rd (.copy (by kernel_rfl) rfl) (.rd (.copy (by kernel_rfl) rfl) (.nil))))) rfl (by kernel_rfl))) (.nil))))))) rfl (by kernel_rfl) ?_
        refine r_seq ?_
        obtain ⟨hg10, h⟩ := guard_some h
        simp only [Bool.and_eq_true, decide_eq_true_eq] at hg10
        refine r_reg (l := [(0, .u (.c (.sl true 1 (r9.map eB)))), (4, .u (.c (.v (.int .i64 ((r1.getD ((v5).toNat) zR).f)))))]) (co_then 1 rfl (os_plain rfl rfl (s_take (u := .c (.sl true 2 (r1.map eR))) (.inl rfl) (.move (by kernel_rfl) rfl) rfl (by kernel_rfl))) (cg_then (ds := [37]) 2 rfl (by kernel_rfl) (co_then 3 rfl (os_plain rfl rfl (s_indexV (r := 36) (lo := 0) (n := (r1.map eR).length) (pl := none) (sz := 2) (e := v5) (ik := .i64) (k := (v5).toNat) rfl sl30 (by kernel_rfl) (.tmp (by kernel_rfl)) hg10.1 (by rw [List.length_map]; exact hg10.2) (Nat.zero_add _) rfl (by kernel_rfl) (by kernel_rfl))) (cg_then (ds := [39]) 4 rfl (by kernel_rfl) (co_then 5 rfl (os_plain rfl rfl (s_load1 (x := .v (.int .i64 ((r1.getD ((v5).toNat) zR).f))) (r := 36) (off := 0) (s := .i ((v5).toNat) 2) (p := []) (c := .sl true 2 (r1.map eR)) (cs := eR (r1.getD ((v5).toNat) zR)) rfl (oneB_ok (by kernel_rfl)) (by kernel_rfl) (by kernel_rfl) (getP_map zR (by have := hg10; omega)) rfl rfl rfl (by kernel_rfl))) (cg_then (ds := [4]) 6 rfl (by kernel_rfl) (.nil))))))) rfl (by kernel_rfl) ?_
        obtain rfl := Option.some.inj h
        have h : Option.some _ = Option.some r := h_y6
        refine r_ret ?_
        obtain rfl := Option.some.inj h
        exact ⟨.inr rfl, _, _, .cons (.copy rfl rfl rfl) (.nil), rfl, outs_of ⟨⟨rfl, rfl⟩, trivial⟩⟩
      · have h := cond_f hb h
        refine r_condF hb rfl ?_
        refine r_skip ?_
        refine r_reg (l := [(0, .u (.c (.sl true 1 (v4.map eB)))), (1, .u (.c (.v (.int .i64 a1)))), (5, .u (.c (.sl true 2 (r1.map eR)))), (6, .u (.c (.v (.int .i64 v3)))), (7, .u (.c (.v (.int .i64 (IntKind.i64.wrap (v5 + 1))))))]) (cg_then (ds := [19, 20, 7]) 3 rfl (by kernel_rfl) (.nil)) rfl (by kernel_rfl) ?_
        exact ⟨(v4, IntKind.i64.wrap (v5 + 1)), h, of_weak (by kernel_rfl)⟩
    · have h := cond_f hb h
      refine r_condF hb rfl ?_
      refine r_weak (of_weak (l := [(0, .u (.c (.sl true 1 (v4.map eB)))), (1, .u (.c (.v (.int .i64 a1)))), (5, .u (.c (.sl true 2 (r1.map eR)))), (6, .u (.c (.v (.int .i64 v3))))]) (by kernel_rfl)) ?_
      obtain rfl := Option.some.inj h
      obtain ⟨y6v, hhy6v, h⟩ := elim_inl h_y6
      try dsimp only at h
      refine run_cast (α := (List Bool) × Int) (fun x => [(0, .u (.c (.sl true 1 (x.1.map eB)))), (1, .u (.c (.v (.int .i64 a1)))), (5, .u (.c (.sl true 2 (r1.map eR)))), (6, .u (.c (.v (.int .i64 v3))))]) (x := (v4, v5)) (y := y6v) hhy6v ?_
      refine r_exit ?_
      refine r_reg (l := [(0, .u (.c (.sl true 1 (y6v.1.map eB)))), (1, .u (.c (.v (.int .i64 a1)))), (5, .u (.c (.sl true 2 (r1.map eR)))), (6, .u (.c (.v (.int .i64 (IntKind.i64.wrap (v3 + 1))))))]) (cg_then (ds := [13, 14, 6]) 3 rfl (by kernel_rfl) (.nil)) rfl (by kernel_rfl) ?_
      exact ⟨(y6v.1, IntKind.i64.wrap (v3 + 1)), h, of_weak (by kernel_rfl)⟩
  · have h := cond_f hb h
    refine r_condF hb rfl ?_
    refine r_exit ?_
    refine r_seq ?_
    refine r_reg (l := [(0, .u (.c (.sl true 1 (v2.map eB)))), (4, .u (.c (.v (.int .i64 (-1)))))]) (cg_then (ds := [4]) 1 rfl (by kernel_rfl) (.nil)) rfl (by kernel_rfl) ?_
    refine r_ret ?_
    obtain rfl := Option.some.inj h
    exact ⟨.inr rfl, _, _, .cons (.copy rfl rfl rfl) (.nil), rfl, outs_of ⟨⟨rfl, rfl⟩, trivial⟩⟩
def BuddyPlays.j1 (k : Nat) (a0 : Int) (a1 : List D3) (r1 : Bool) (r2 : Int) (r3 : Sto × (Option Int)) (r4 : (List Bool)) (v5 : Sto) (v6 : List Bool) (v7 : Int) (r11 : Bool) : Option (Sum (Sto × (List Bool)) (Bool)) :=
  (paviorlaw07_pick.f ((a1.getD v7.toNat zD).w) 3).bind fun (r13 : Int) => (bif r13 == 0 then (Take.f k v5 ((a1.getD v7.toNat zD).o)).bind fun (r14 : Sto × Int × (Option Int)) => (bif !(decide (((a1.getD v7.toNat zD).o) ≤ 5)) then (bif !(r14.2.2 == (some 1)) then some (Sum.inr false) else (bif r14.2.1 != 0 then some (Sum.inr false) else some (Sum.inl (r14.1, v6)))) else (RTake.f k v6 ((a1.getD v7.toNat zD).o)).bind fun (r17 : (List Bool) × Int) => (bif decide (r17.2 < 0) then (bif !(r14.2.2 == (some 5)) then some (Sum.inr false) else (bif r14.2.1 != 0 then some (Sum.inr false) else (bif decide (r17.2 ≥ 0) then (bif !(r14.2.2 == none) then some (Sum.inr false) else (bif r14.2.1 != r17.2 then some (Sum.inr false) else some (Sum.inl (r14.1, r17.1)))) else some (Sum.inl (r14.1, r17.1))))) else (bif decide (r17.2 ≥ 0) then (bif !(r14.2.2 == none) then some (Sum.inr false) else (bif r14.2.1 != r17.2 then some (Sum.inr false) else some (Sum.inl (r14.1, r17.1)))) else some (Sum.inl (r14.1, r17.1))))) else (bif r13 == 1 then (TakeAt.f k v5 ((a1.getD v7.toNat zD).f) ((a1.getD v7.toNat zD).o)).bind fun (r32 : Sto × (Option Int)) => (bif !r11 then (bif !(r32.2 == (some 1)) then some (Sum.inr false) else some (Sum.inl (r32.1, v6))) else (RAll.f k v6 ((a1.getD v7.toNat zD).f) ((a1.getD v7.toNat zD).o) true).bind fun (r33 : Bool) => (bif r33 then (RSet.f k v6 ((a1.getD v7.toNat zD).f) ((a1.getD v7.toNat zD).o) false).bind fun (r34 : (List Bool)) => (bif r33 then (bif !(r32.2 == none) then some (Sum.inr false) else (bif !r33 then (bif !(r32.2 == (some 7)) then some (Sum.inr false) else some (Sum.inl (r32.1, r34))) else some (Sum.inl (r32.1, r34)))) else (bif !r33 then (bif !(r32.2 == (some 7)) then some (Sum.inr false) else some (Sum.inl (r32.1, r34))) else some (Sum.inl (r32.1, r34)))) else (bif r33 then (bif !(r32.2 == none) then some (Sum.inr false) else (bif !r33 then (bif !(r32.2 == (some 7)) then some (Sum.inr false) else some (Sum.inl (r32.1, v6))) else some (Sum.inl (r32.1, v6)))) else (bif !r33 then (bif !(r32.2 == (some 7)) then some (Sum.inr false) else some (Sum.inl (r32.1, v6))) else some (Sum.inl (r32.1, v6)))))) else (Give.f k v5 ((a1.getD v7.toNat zD).f) ((a1.getD v7.toNat zD).o)).bind fun (r51 : Sto × (Option Int)) => (bif !r11 then (bif !(r51.2 == (some 1)) then some (Sum.inr false) else some (Sum.inl (r51.1, v6))) else (RAll.f k v6 ((a1.getD v7.toNat zD).f) ((a1.getD v7.toNat zD).o) false).bind fun (r52 : Bool) => (bif r52 then (RSet.f k v6 ((a1.getD v7.toNat zD).f) ((a1.getD v7.toNat zD).o) true).bind fun (r53 : (List Bool)) => (bif r52 then (bif !(r51.2 == none) then some (Sum.inr false) else (bif !r52 then (bif !(r51.2 == (some 7)) then some (Sum.inr false) else some (Sum.inl (r51.1, r53))) else some (Sum.inl (r51.1, r53)))) else (bif !r52 then (bif !(r51.2 == (some 7)) then some (Sum.inr false) else some (Sum.inl (r51.1, r53))) else some (Sum.inl (r51.1, r53)))) else (bif r52 then (bif !(r51.2 == none) then some (Sum.inr false) else (bif !r52 then (bif !(r51.2 == (some 7)) then some (Sum.inr false) else some (Sum.inl (r51.1, v6))) else some (Sum.inl (r51.1, v6)))) else (bif !r52 then (bif !(r51.2 == (some 7)) then some (Sum.inr false) else some (Sum.inl (r51.1, v6))) else some (Sum.inl (r51.1, v6))))))))
def BuddyPlays.j2 (k : Nat) (a0 : Int) (a1 : List D3) (r1 : Bool) (r2 : Int) (r3 : Sto × (Option Int)) (r4 : (List Bool)) (v5 : Sto) (v6 : List Bool) (v7 : Int) (r72 : Bool) : Option (Sum (Sto × (List Bool)) (Bool)) :=
  (paviorlaw07_pick.f ((a1.getD v7.toNat zD).w) 3).bind fun (r74 : Int) => (bif r74 == 0 then (Take.f k v5 ((a1.getD v7.toNat zD).o)).bind fun (r75 : Sto × Int × (Option Int)) => (bif !(r75.2.2 == (some 1)) then some (Sum.inr false) else (bif r75.2.1 != 0 then some (Sum.inr false) else some (Sum.inl (r75.1, v6)))) else (bif r74 == 1 then (TakeAt.f k v5 ((a1.getD v7.toNat zD).f) ((a1.getD v7.toNat zD).o)).bind fun (r78 : Sto × (Option Int)) => (bif !r72 then (bif !(r78.2 == (some 1)) then some (Sum.inr false) else some (Sum.inl (r78.1, v6))) else (RAll.f k v6 ((a1.getD v7.toNat zD).f) ((a1.getD v7.toNat zD).o) true).bind fun (r79 : Bool) => (bif r79 then (RSet.f k v6 ((a1.getD v7.toNat zD).f) ((a1.getD v7.toNat zD).o) false).bind fun (r80 : (List Bool)) => (bif r79 then (bif !(r78.2 == none) then some (Sum.inr false) else (bif !r79 then (bif !(r78.2 == (some 7)) then some (Sum.inr false) else some (Sum.inl (r78.1, r80))) else some (Sum.inl (r78.1, r80)))) else (bif !r79 then (bif !(r78.2 == (some 7)) then some (Sum.inr false) else some (Sum.inl (r78.1, r80))) else some (Sum.inl (r78.1, r80)))) else (bif r79 then (bif !(r78.2 == none) then some (Sum.inr false) else (bif !r79 then (bif !(r78.2 == (some 7)) then some (Sum.inr false) else some (Sum.inl (r78.1, v6))) else some (Sum.inl (r78.1, v6)))) else (bif !r79 then (bif !(r78.2 == (some 7)) then some (Sum.inr false) else some (Sum.inl (r78.1, v6))) else some (Sum.inl (r78.1, v6)))))) else (Give.f k v5 ((a1.getD v7.toNat zD).f) ((a1.getD v7.toNat zD).o)).bind fun (r97 : Sto × (Option Int)) => (bif !r72 then (bif !(r97.2 == (some 1)) then some (Sum.inr false) else some (Sum.inl (r97.1, v6))) else (RAll.f k v6 ((a1.getD v7.toNat zD).f) ((a1.getD v7.toNat zD).o) false).bind fun (r98 : Bool) => (bif r98 then (RSet.f k v6 ((a1.getD v7.toNat zD).f) ((a1.getD v7.toNat zD).o) true).bind fun (r99 : (List Bool)) => (bif r98 then (bif !(r97.2 == none) then some (Sum.inr false) else (bif !r98 then (bif !(r97.2 == (some 7)) then some (Sum.inr false) else some (Sum.inl (r97.1, r99))) else some (Sum.inl (r97.1, r99)))) else (bif !r98 then (bif !(r97.2 == (some 7)) then some (Sum.inr false) else some (Sum.inl (r97.1, r99))) else some (Sum.inl (r97.1, r99)))) else (bif r98 then (bif !(r97.2 == none) then some (Sum.inr false) else (bif !r98 then (bif !(r97.2 == (some 7)) then some (Sum.inr false) else some (Sum.inl (r97.1, v6))) else some (Sum.inl (r97.1, v6)))) else (bif !r98 then (bif !(r97.2 == (some 7)) then some (Sum.inr false) else some (Sum.inl (r97.1, v6))) else some (Sum.inl (r97.1, v6))))))))
def BuddyPlays.l1 (k : Nat) (a0 : Int) (a1 : List D3) (r1 : Bool) (r2 : Int) (r3 : Sto × (Option Int)) (r4 : (List Bool)) : Nat → Sto → (List Bool) → Int → Option (Bool)
  | 0, _, _, _ => none
  | n1 + 1, v5, v6, v7 => (bif decide (v7 < (a1.length : Int)) then (bif decide (v7 < 80) then (bif decide (0 ≤ v7) && decide (v7 < (a1.length : Int)) then (bif decide (((a1.getD v7.toNat zD).o) ≥ 0) then (RBlock.f k v6 ((a1.getD v7.toNat zD).f) ((a1.getD v7.toNat zD).o)).bind fun (r11 : Bool) => (BuddyPlays.j1 k a0 a1 r1 r2 r3 r4 v5 v6 v7 r11).bind fun (y12 : Sum (Sto × (List Bool)) (Bool)) => Sum.elim (fun (y12v : Sto × (List Bool)) => (same.f k y12v.1 y12v.2).bind fun (r70 : Sto × Bool) => (bif !r70.2 then some false else BuddyPlays.l1 k a0 a1 r1 r2 r3 r4 n1 r70.1 y12v.2 (IntKind.i64.wrap (v7 + 1)))) some y12 else (RBlock.f k v6 ((a1.getD v7.toNat zD).f) ((a1.getD v7.toNat zD).o)).bind fun (r72 : Bool) => (BuddyPlays.j2 k a0 a1 r1 r2 r3 r4 v5 v6 v7 r72).bind fun (y73 : Sum (Sto × (List Bool)) (Bool)) => Sum.elim (fun (y73v : Sto × (List Bool)) => (same.f k y73v.1 y73v.2).bind fun (r116 : Sto × Bool) => (bif !r116.2 then some false else BuddyPlays.l1 k a0 a1 r1 r2 r3 r4 n1 r116.1 y73v.2 (IntKind.i64.wrap (v7 + 1)))) some y73) else none) else some r1) else some r1)
set_option maxHeartbeats 4000000 in
def BuddyPlays.f (k : Nat) (a0 : Int) (a1 : List D3) : Option (Bool) :=
  (up.f k).bind fun (r1 : Bool) => (paviorlaw07_pick.f a0 100).bind fun (r2 : Int) => (New.f k (IntKind.i64.wrap (1 + r2))).bind fun (r3 : Sto × (Option Int)) => (bif !(r3.2 == none) then some false else (RNew.f k (IntKind.i64.wrap (1 + r2))).bind fun (r4 : (List Bool)) => BuddyPlays.l1 k a0 a1 r1 r2 r3 r4 k r3.1 r4 0)
set_option maxHeartbeats 4000000 in
theorem BuddyPlays.ac (k : Nat) (a0 : Int) (a1 : List D3) (r : Bool) (h : BuddyPlays.f k a0 a1 = some r) : ACD Tryd.prog 38 7 [.c (.v (.int .i64 a0)), .c (.sl false 3 (a1.map eD))] [none, none] [.c (.v (.bool r))] := by
  unfold BuddyPlays.f at h
  refine act_intro (fn := Tryd.f7) (pins := []) (rts := [4]) Tryd.func7 rfl Tryd.ntmps7 rfl (Nat.le_of_ble_eq_true rfl) (pins_lt rfl) rfl (fun w R E vs hT => ?_)
  refine r_weak (of_weak (l := [(0, .u (.c (.v (.int .i64 a0)))), (1, .u (.c (.sl false 3 (a1.map eD))))]) (by kernel_rfl)) ?_
  refine r_seq ?_
  refine r_reg (l := [(0, .u (.c (.v (.int .i64 a0)))), (1, .u (.c (.sl false 3 (a1.map eD))))]) (cg_then (ds := [4]) 1 rfl (by kernel_rfl) (.nil)) rfl (by kernel_rfl) ?_
  refine r_seq ?_
  obtain ⟨r1, hr1, h⟩ := bind_some h
  refine r_reg (l := [(0, .u (.c (.v (.int .i64 a0)))), (1, .u (.c (.sl false 3 (a1.map eD)))), (5, .u (.c (.v (.bool r1))))]) (co_then 1 rfl (os_plain rfl rfl (c_callQ (ACT.k hT (up.ac (h := hr1))) ⟨_, Tryd.func8, rfl, by kernel_rfl⟩ rfl (.nil) (by kernel_rfl))) (cg_then (ds := [5]) 2 rfl (by kernel_rfl) (.nil))) rfl (by kernel_rfl) ?_
  refine r_seq ?_
  obtain ⟨r2, hr2, h⟩ := bind_some h
  refine r_reg (l := [(0, .u (.c (.v (.int .i64 (IntKind.i64.wrap (1 + r2)))))), (1, .u (.c (.sl false 3 (a1.map eD)))), (5, .u (.c (.v (.bool r1))))]) (cg_then (ds := [21]) 1 rfl (by kernel_rfl) (co_then 2 rfl (os_plain rfl rfl (c_callQ (AC.k (paviorlaw07_pick.ac (h := hr2))) ⟨_, Tryd.func9, rfl, by kernel_rfl⟩ rfl (.cons (.copy (by kernel_rfl) rfl) (.cons (.copy (by kernel_rfl) rfl) (.nil))) (by kernel_rfl))) (cg_then (ds := [23, 0]) 4 rfl (by kernel_rfl) (.nil)))) rfl (by kernel_rfl) ?_
  refine r_seq ?_
  obtain ⟨r3, hr3, h⟩ := bind_some h
  refine r_reg (l := [(0, .u (.c (.v (.int .i64 (IntKind.i64.wrap (1 + r2)))))), (1, .u (.c (.sl false 3 (a1.map eD)))), (5, .u (.c (.v (.bool r1)))), (6, .u (.c (storeC r3.1))), (7, .u (.c (.err r3.2)))]) (cg_then (ds := [25]) 1 rfl (by kernel_rfl) (co_then 2 rfl (os_plain rfl rfl (c_callQ (ACT.k hT (New.ac (h := hr3))) ⟨_, Tryd.func10, rfl, by kernel_rfl⟩ rfl (.cons (.copy (by kernel_rfl) rfl) (.nil)) (by kernel_rfl))) (co_then 3 rfl (os_plain rfl rfl (s_moveT (us := [.c (storeC r3.1), .c (.err r3.2)]) (.inl rfl) (by kernel_rfl) rfl (by kernel_rfl))) (co_then 4 rfl (os_plain rfl rfl (s_xmove (us := [.c (storeC r3.1), .c (.err r3.2)]) rfl (by kernel_rfl) rfl rfl (by kernel_rfl))) (cg_then (ds := [28]) 5 rfl (by kernel_rfl) (co_then 6 rfl (os_plain rfl rfl (s_take (u := .c (storeC r3.1)) (.inr rfl) (.move (by kernel_rfl) rfl) rfl (by kernel_rfl))) (cg_then (ds := [7]) 7 rfl (by kernel_rfl) (.nil)))))))) rfl (by kernel_rfl) ?_
  refine r_seq ?_
  refine r_seq ?_
  refine r_reg (l := [(0, .u (.c (.v (.int .i64 (IntKind.i64.wrap (1 + r2)))))), (1, .u (.c (.sl false 3 (a1.map eD)))), (5, .u (.c (.v (.bool r1)))), (6, .u (.c (storeC r3.1))), (34, .u (.c (.v (.bool (!(r3.2 == none))))))]) (cg_then (ds := [29, 30, 31, 32, 33, 34]) 6 rfl (by kernel_rfl) (.nil)) rfl (by kernel_rfl) ?_
  rcases Bool.eq_false_or_eq_true (!(r3.2 == none)) with hb | hb
  · have h := cond_t hb h
    refine r_condT hb rfl ?_
    refine r_seq ?_
    refine r_reg (l := [(4, .u (.c (.v (.bool false))))]) (cg_then (ds := [4]) 1 rfl (by kernel_rfl) (.nil)) rfl (by kernel_rfl) ?_
    refine r_ret ?_
    obtain rfl := Option.some.inj h
    exact ⟨.inr rfl, _, _, .cons (.copy rfl rfl rfl) (.nil), rfl, outs_of trivial⟩
  · have h := cond_f hb h
    refine r_condF hb rfl ?_
    refine r_skip ?_
    refine r_seq ?_
    obtain ⟨r4, hr4, h⟩ := bind_some h
    refine r_reg (l := [(1, .u (.c (.sl false 3 (a1.map eD)))), (5, .u (.c (.v (.bool r1)))), (6, .u (.c (storeC r3.1))), (8, .u (.c (.sl true 1 (r4.map eB))))]) (cg_then (ds := [35]) 1 rfl (by kernel_rfl) (co_then 2 rfl (os_plain rfl rfl (c_callQ (AC.k (RNew.ac (h := hr4))) ⟨_, Tryd.func16, rfl, by kernel_rfl⟩ rfl (.cons (.copy (by kernel_rfl) rfl) (.nil)) (by kernel_rfl))) (co_then 3 rfl (os_plain rfl rfl (s_take (u := .c (.sl true 1 (r4.map eB))) (.inr rfl) (.move (by kernel_rfl) rfl) rfl (by kernel_rfl))) (.nil)))) rfl (by kernel_rfl) ?_
    refine r_seq ?_
    refine r_seq ?_
    refine r_reg (l := [(1, .u (.c (.sl false 3 (a1.map eD)))), (5, .u (.c (.v (.bool r1)))), (6, .u (.c (storeC r3.1))), (8, .u (.c (.sl true 1 (r4.map eB)))), (9, .u (.c (.v (.int .i64 0))))]) (cg_then (ds := [9]) 1 rfl (by kernel_rfl) (.nil)) rfl (by kernel_rfl) ?_
    refine r_block ?_
    refine r_weak (of_weak (l := [(1, .u (.c (.sl false 3 (a1.map eD)))), (5, .u (.c (.v (.bool r1)))), (6, .u (.c (storeC r3.1))), (8, .u (.c (.sl true 1 (r4.map eB)))), (9, .u (.c (.v (.int .i64 0))))]) (by kernel_rfl)) ?_
    refine r_loopI (α := Sto × (List Bool) × Int) (fun x => [(1, .u (.c (.sl false 3 (a1.map eD)))), (5, .u (.c (.v (.bool r1)))), (6, .u (.c (storeC x.1))), (8, .u (.c (.sl true 1 (x.2.1.map eB)))), (9, .u (.c (.v (.int .i64 x.2.2))))]) (fun n x => BuddyPlays.l1 k a0 a1 r1 r2 r3 r4 n x.1 x.2.1 x.2.2 = some r) k (r3.1, r4, 0) h (by intro x h; unfold BuddyPlays.l1 at h; cases h) ?_
    rintro n1 ⟨v5, v6, v7⟩ h
    replace h : BuddyPlays.l1 k a0 a1 r1 r2 r3 r4 (n1 + 1) v5 v6 v7 = some r := h
    unfold BuddyPlays.l1 at h
    show Run _ _ _ (St.of [(1, .u (.c (.sl false 3 (a1.map eD)))), (5, .u (.c (.v (.bool r1)))), (6, .u (.c (storeC v5))), (8, .u (.c (.sl true 1 (v6.map eB)))), (9, .u (.c (.v (.int .i64 v7))))]) _
    refine r_seq ?_
    refine r_seq ?_
    rcases Bool.eq_false_or_eq_true (decide (v7 < (a1.length : Int))) with hb | hb
    · have h := cond_t hb h
      have hs8 := hb
      refine r_reg (l := [(1, .u (.c (.sl false 3 (a1.map eD)))), (5, .u (.c (.v (.bool r1)))), (6, .u (.c (storeC v5))), (8, .u (.c (.sl true 1 (v6.map eB)))), (9, .u (.c (.v (.int .i64 v7)))), (44, .u (.c (.v (.bool (decide (v7 < 80))))))]) (cg_then (ds := [37, 38]) 2 rfl (by kernel_rfl) (co_then 3 rfl (os_to (os_plain rfl rfl (s_lenU (own := false) (sz := 3) (rows := (a1.map eD)) rfl sl44 (by kernel_rfl) rfl (by kernel_rfl))) (t' := .u (.c (.v (.int .i64 (a1.length : Int))))) (by rw [List.length_map])) (cg_then (ds := [40]) 4 rfl (by kernel_rfl) (co_then 5 rfl (os_ge (d := 41) (t := .u (.c (.v (.bool (decide (v7 < (a1.length : Int))))))) (t' := .u (.c (.v (.bool true)))) (by kernel_rfl) (by rw [hs8])) (cg_then (ds := [42, 43, 44]) 8 rfl (by kernel_rfl) (.nil)))))) rfl (by kernel_rfl) ?_
      rcases Bool.eq_false_or_eq_true (decide (v7 < 80)) with hb | hb
      · have h := cond_t hb h
        refine r_condT hb rfl ?_
        refine r_skip ?_
        refine r_seq ?_
        refine r_block ?_
        refine r_seq ?_
        obtain ⟨hg9, h⟩ := guard_some h
        simp only [Bool.and_eq_true, decide_eq_true_eq] at hg9
        refine r_reg (l := [(1, .u (.c (.sl false 3 (a1.map eD)))), (5, .u (.c (.v (.bool r1)))), (6, .u (.c (storeC v5))), (8, .u (.c (.sl true 1 (v6.map eB)))), (9, .u (.c (.v (.int .i64 v7)))), (10, .u (.c (.pt true [.v (.int .i64 ((a1.getD v7.toNat zD).w)), .v (.int .i64 ((a1.getD v7.toNat zD).f)), .v (.int .i64 ((a1.getD v7.toNat zD).o))])))]) (cg_then (ds := [47, 48]) 2 rfl (by kernel_rfl) (co_then 3 rfl (os_plain rfl rfl (s_indexU (own := false) (sz := 3) (rows := (a1.map eD)) (e := v7) (ik := .i64) rfl sl44 (by kernel_rfl) (.tmp (by kernel_rfl)) hg9.1 (by rw [List.length_map]; exact hg9.2) rfl (by kernel_rfl) (by kernel_rfl))) (co_then 4 rfl (os_plain rfl rfl (s_loadA (n := 3) (xs := [.v (.int .i64 ((a1.getD v7.toNat zD).w)), .v (.int .i64 ((a1.getD v7.toNat zD).f)), .v (.int .i64 ((a1.getD v7.toNat zD).o))]) (r := 47) (off := 0) (s := .i v7.toNat 3) (p := []) (c := .sl false 3 (a1.map eD)) (cs := eD (a1.getD v7.toNat zD)) rfl (aggB_ok (by kernel_rfl)) (by kernel_rfl) (by kernel_rfl) (getP_map zD (by have := hg9; omega)) rfl rfl rfl rfl (by kernel_rfl))) (co_then 5 rfl (os_plain rfl rfl (s_alloc rfl zero46 rfl (by kernel_rfl))) (co_then 6 rfl (os_plain rfl rfl (s_storeS (n := 3) (r := 10) (off := 0) (s := .d) (p := []) (c := .pt true [.v (.int .i64 0), .v (.int .i64 0), .v (.int .i64 0)]) (cs := [.v (.int .i64 0), .v (.int .i64 0), .v (.int .i64 0)]) (u := .agg [.v (.int .i64 ((a1.getD v7.toNat zD).w)), .v (.int .i64 ((a1.getD v7.toNat zD).f)), .v (.int .i64 ((a1.getD v7.toNat zD).o))]) rfl (by kernel_rfl) (by kernel_rfl) (by kernel_rfl) rfl (by kernel_rfl) rfl rfl rfl rfl (Nat.le_of_ble_eq_true rfl) (by kernel_rfl) (by kernel_rfl) rfl rfl)) (.nil)))))) rfl (by kernel_rfl) ?_
        refine r_seq ?_
        rcases Bool.eq_false_or_eq_true (decide (((a1.getD v7.toNat zD).o) ≥ 0)) with hb | hb
        · have h := cond_t hb h
          have hs10 := hb
          refine r_reg (l := [(1, .u (.c (.sl false 3 (a1.map eD)))), (5, .u (.c (.v (.bool r1)))), (6, .u (.c (storeC v5))), (8, .u (.c (.sl true 1 (v6.map eB)))), (9, .u (.c (.v (.int .i64 v7)))), (10, .u (.c (.pt true [.v (.int .i64 ((a1.getD v7.toNat zD).w)), .v (.int .i64 ((a1.getD v7.toNat zD).f)), .v (.int .i64 ((a1.getD v7.toNat zD).o))]))), (11, .u (.c (.v (.bool (decide (((a1.getD v7.toNat zD).o) ≤ 5))))))]) (cg_then (ds := [51, 52, 53]) 3 rfl (by kernel_rfl) (co_then 4 rfl (os_ge (d := 54) (t := .u (.c (.v (.bool (decide (((a1.getD v7.toNat zD).o) ≥ 0)))))) (t' := .u (.c (.v (.bool true)))) (by kernel_rfl) (by rw [hs10])) (cg_then (ds := [55, 56, 57, 58, 11]) 9 rfl (by kernel_rfl) (.nil)))) rfl (by kernel_rfl) ?_
          refine r_seq ?_
          obtain ⟨r11, hr11, h⟩ := bind_some h
          refine r_reg (l := [(1, .u (.c (.sl false 3 (a1.map eD)))), (5, .u (.c (.v (.bool r1)))), (6, .u (.c (storeC v5))), (8, .u (.c (.sl true 1 (v6.map eB)))), (9, .u (.c (.v (.int .i64 v7)))), (10, .u (.c (.pt true [.v (.int .i64 ((a1.getD v7.toNat zD).w)), .v (.int .i64 ((a1.getD v7.toNat zD).f)), .v (.int .i64 ((a1.getD v7.toNat zD).o))]))), (11, .u (.c (.v (.bool (decide (((a1.getD v7.toNat zD).o) ≤ 5)))))), (12, .u (.c (.v (.bool r11))))]) (cg_then (ds := [59, 60, 61, 62, 63]) 5 rfl (by kernel_rfl) (co_then 6 rfl (os_plain rfl rfl (c_callQL (res := [.c (.v (.bool r11))]) (AC.k (RBlock.ac (h := hr11))) ⟨_, Tryd.func21, rfl, by kernel_rfl⟩ rfl (.cons (.view (.v0 (r := 8) (lo := 0) (n := (v6.map eB).length) (own := true) (rows := v6.map eB) (by kernel_rfl) (by kernel_rfl) rows_all) (copy_map eB_copy)) (.cons (.copy (.copy (by kernel_rfl) rfl)) (.cons (.copy (.copy (by kernel_rfl) rfl)) (.nil)))) (⟨trivial, trivial⟩) (by kernel_rfl))) (cg_then (ds := [12]) 7 rfl (by kernel_rfl) (.nil)))) rfl (by kernel_rfl) ?_
          refine r_seq ?_
          obtain ⟨y12, hy12, h_y12⟩ := bind_some h
          refine r_joinC (α := Sto × (List Bool)) (fun x => [(1, .u (.c (.sl false 3 (a1.map eD)))), (5, .u (.c (.v (.bool r1)))), (6, .u (.c (storeC x.1))), (8, .u (.c (.sl true 1 (x.2.map eB)))), (9, .u (.c (.v (.int .i64 v7))))]) (fun x => y12 = Sum.inl x) ?_ ?_
          · replace h := hy12
            unfold BuddyPlays.j1 at h
            refine r_seq ?_
            obtain ⟨r13, hr13, h⟩ := bind_some h
            refine r_reg (l := [(1, .u (.c (.sl false 3 (a1.map eD)))), (5, .u (.c (.v (.bool r1)))), (6, .u (.c (storeC v5))), (8, .u (.c (.sl true 1 (v6.map eB)))), (9, .u (.c (.v (.int .i64 v7)))), (10, .u (.c (.pt true [.v (.int .i64 ((a1.getD v7.toNat zD).w)), .v (.int .i64 ((a1.getD v7.toNat zD).f)), .v (.int .i64 ((a1.getD v7.toNat zD).o))]))), (11, .u (.c (.v (.bool (decide (((a1.getD v7.toNat zD).o) ≤ 5)))))), (12, .u (.c (.v (.bool r11)))), (67, .u (.c (.v (.int .i64 r13))))]) (cg_then (ds := [65, 66]) 2 rfl (by kernel_rfl) (co_then 3 rfl (os_plain rfl rfl (c_callQ (AC.k (paviorlaw07_pick.ac (h := hr13))) ⟨_, Tryd.func9, rfl, by kernel_rfl⟩ rfl (.cons (.copy (by kernel_rfl) rfl) (.cons (.copy (by kernel_rfl) rfl) (.nil))) (by kernel_rfl))) (.nil))) rfl (by kernel_rfl) ?_
            refine r_block ?_
            refine r_seq ?_
            refine r_reg (l := [(1, .u (.c (.sl false 3 (a1.map eD)))), (5, .u (.c (.v (.bool r1)))), (6, .u (.c (storeC v5))), (8, .u (.c (.sl true 1 (v6.map eB)))), (9, .u (.c (.v (.int .i64 v7)))), (10, .u (.c (.pt true [.v (.int .i64 ((a1.getD v7.toNat zD).w)), .v (.int .i64 ((a1.getD v7.toNat zD).f)), .v (.int .i64 ((a1.getD v7.toNat zD).o))]))), (11, .u (.c (.v (.bool (decide (((a1.getD v7.toNat zD).o) ≤ 5)))))), (12, .u (.c (.v (.bool r11)))), (67, .u (.c (.v (.int .i64 r13)))), (106, .u (.c (.v (.bool (r13 == 0)))))]) (cg_then (ds := [107, 106]) 2 rfl (by kernel_rfl) (.nil)) rfl (by kernel_rfl) ?_
            rcases Bool.eq_false_or_eq_true (r13 == 0) with hb | hb
            · have h := cond_t hb h
              refine r_condT hb rfl ?_
              refine r_seq ?_
              obtain ⟨r14, hr14, h⟩ := bind_some h
              refine r_reg (l := [(1, .u (.c (.sl false 3 (a1.map eD)))), (5, .u (.c (.v (.bool r1)))), (6, .u (.c (storeC r14.1))), (8, .u (.c (.sl true 1 (v6.map eB)))), (9, .u (.c (.v (.int .i64 v7)))), (10, .u (.c (.pt true [.v (.int .i64 ((a1.getD v7.toNat zD).w)), .v (.int .i64 ((a1.getD v7.toNat zD).f)), .v (.int .i64 ((a1.getD v7.toNat zD).o))]))), (11, .u (.c (.v (.bool (decide (((a1.getD v7.toNat zD).o) ≤ 5)))))), (13, .u (.c (.v (.int .i64 r14.2.1)))), (14, .u (.c (.err r14.2.2)))]) (cg_then (ds := [109, 110, 111]) 3 rfl (by kernel_rfl) (co_then 4 rfl (os_plain rfl rfl (c_call (AC.k (Take.ac (h := hr14))) ⟨_, Tryd.func13, rfl, by kernel_rfl⟩ rfl (hand_root (r := 6) (c := storeC v5) (by kernel_rfl) (by kernel_rfl) rfl (.rd (.copy (by kernel_rfl) rfl) (.nil))) rfl (by kernel_rfl))) (co_then 5 rfl (os_plain rfl rfl (s_moveT (us := [.c (.v (.int .i64 r14.2.1)), .c (.err r14.2.2)]) (.inl rfl) (by kernel_rfl) rfl (by kernel_rfl))) (cg_then (ds := [113, 114, 13, 14]) 9 rfl (by kernel_rfl) (.nil))))) rfl (by kernel_rfl) ?_
              refine r_seq ?_
              refine r_seq ?_
              refine r_reg (l := [(1, .u (.c (.sl false 3 (a1.map eD)))), (5, .u (.c (.v (.bool r1)))), (6, .u (.c (storeC r14.1))), (8, .u (.c (.sl true 1 (v6.map eB)))), (9, .u (.c (.v (.int .i64 v7)))), (10, .u (.c (.pt true [.v (.int .i64 ((a1.getD v7.toNat zD).w)), .v (.int .i64 ((a1.getD v7.toNat zD).f)), .v (.int .i64 ((a1.getD v7.toNat zD).o))]))), (13, .u (.c (.v (.int .i64 r14.2.1)))), (14, .u (.c (.err r14.2.2))), (116, .u (.c (.v (.bool (!(decide (((a1.getD v7.toNat zD).o) ≤ 5)))))))]) (cg_then (ds := [115, 116]) 2 rfl (by kernel_rfl) (.nil)) rfl (by kernel_rfl) ?_
              rcases Bool.eq_false_or_eq_true (!(decide (((a1.getD v7.toNat zD).o) ≤ 5))) with hb | hb
              · have h := cond_t hb h
                refine r_condT hb rfl ?_
                refine r_seq ?_
                refine r_seq ?_
                rcases Bool.eq_false_or_eq_true (!(r14.2.2 == (some 1))) with hb | hb
                · have h := cond_t hb h
                  have hs15 := hb
                  refine r_reg (l := [(1, .u (.c (.sl false 3 (a1.map eD)))), (5, .u (.c (.v (.bool r1)))), (6, .u (.c (storeC r14.1))), (8, .u (.c (.sl true 1 (v6.map eB)))), (9, .u (.c (.v (.int .i64 v7)))), (123, .u (.c (.v (.bool true))))]) (cg_then (ds := [117]) 1 rfl (by kernel_rfl) (co_then 2 rfl (os_plain rfl rfl (s_iface (n := 1) rfl (errB_ok (by kernel_rfl)) rfl (by kernel_rfl) rfl (by kernel_rfl))) (cg_then (ds := [119]) 3 rfl (by kernel_rfl) (co_then 4 rfl (os_ge (d := 120) (t := .u (.c (.v (.bool (!(r14.2.2 == (some 1))))))) (t' := .u (.c (.v (.bool true)))) (by kernel_rfl) (by rw [hs15])) (cg_then (ds := [121, 122, 123]) 7 rfl (by kernel_rfl) (.nil)))))) rfl (by kernel_rfl) ?_
                  refine r_condT rfl rfl ?_
                  refine r_seq ?_
                  refine r_reg (l := [(4, .u (.c (.v (.bool false))))]) (cg_then (ds := [4]) 1 rfl (by kernel_rfl) (.nil)) rfl (by kernel_rfl) ?_
                  obtain rfl := Option.some.inj h
                  have h : Option.some _ = Option.some r := h_y12
                  refine r_ret ?_
                  obtain rfl := Option.some.inj h
                  exact ⟨.inr rfl, _, _, .cons (.copy rfl rfl rfl) (.nil), rfl, outs_of trivial⟩
                · have h := cond_f hb h
                  have hs16 := hb
                  refine r_reg (l := [(1, .u (.c (.sl false 3 (a1.map eD)))), (5, .u (.c (.v (.bool r1)))), (6, .u (.c (storeC r14.1))), (8, .u (.c (.sl true 1 (v6.map eB)))), (9, .u (.c (.v (.int .i64 v7)))), (123, .u (.c (.v (.bool (r14.2.1 != 0)))))]) (cg_then (ds := [117]) 1 rfl (by kernel_rfl) (co_then 2 rfl (os_plain rfl rfl (s_iface (n := 1) rfl (errB_ok (by kernel_rfl)) rfl (by kernel_rfl) rfl (by kernel_rfl))) (cg_then (ds := [119]) 3 rfl (by kernel_rfl) (co_then 4 rfl (os_ge (d := 120) (t := .u (.c (.v (.bool (!(r14.2.2 == (some 1))))))) (t' := .u (.c (.v (.bool false)))) (by kernel_rfl) (by rw [hs16])) (cg_then (ds := [121, 122, 123]) 7 rfl (by kernel_rfl) (.nil)))))) rfl (by kernel_rfl) ?_
                  rcases Bool.eq_false_or_eq_true (r14.2.1 != 0) with hb | hb
                  · have h := cond_t hb h
                    refine r_condT hb rfl ?_
                    refine r_seq ?_
                    refine r_reg (l := [(4, .u (.c (.v (.bool false))))]) (cg_then (ds := [4]) 1 rfl (by kernel_rfl) (.nil)) rfl (by kernel_rfl) ?_
                    obtain rfl := Option.some.inj h
                    have h : Option.some _ = Option.some r := h_y12
                    refine r_ret ?_
                    obtain rfl := Option.some.inj h
                    exact ⟨.inr rfl, _, _, .cons (.copy rfl rfl rfl) (.nil), rfl, outs_of trivial⟩
                  · have h := cond_f hb h
                    refine r_condF hb rfl ?_
                    refine r_skip ?_
                    refine r_exit ?_
                    exact ⟨(r14.1, v6), (Option.some.inj h).symm, of_weak (by kernel_rfl)⟩
              · have h := cond_f hb h
                refine r_condF hb rfl ?_
                refine r_skip ?_
                refine r_seq ?_
                obtain ⟨r17, hr17, h⟩ := bind_some h
                refine r_reg (l := [(1, .u (.c (.sl false 3 (a1.map eD)))), (5, .u (.c (.v (.bool r1)))), (6, .u (.c (storeC r14.1))), (8, .u (.c (.sl true 1 (r17.1.map eB)))), (9, .u (.c (.v (.int .i64 v7)))), (13, .u (.c (.v (.int .i64 r14.2.1)))), (14, .u (.c (.err r14.2.2))), (15, .u (.c (.v (.int .i64 r17.2))))]) (cg_then (ds := [124, 125, 126]) 3 rfl (by kernel_rfl) (co_then 4 rfl (os_plain rfl rfl (c_call (AC.k (RTake.ac (h := hr17))) ⟨_, Tryd.func22, rfl, by kernel_rfl⟩ rfl (hand_sl (sz := 1) (n := (v6.map eB).length) (r := 8) (c := .sl true 1 (v6.map eB)) (by kernel_rfl) (by kernel_rfl) rfl (.rd (.copy (by kernel_rfl) rfl) (.nil))) rfl (by kernel_rfl))) (cg_then (ds := [15]) 5 rfl (by kernel_rfl) (.nil)))) rfl (by kernel_rfl) ?_
                refine r_seq ?_
                rcases Bool.eq_false_or_eq_true (decide (r17.2 < 0)) with hb | hb
                · have h := cond_t hb h
                  have hs18 := hb
                  rcases Bool.eq_false_or_eq_true (!(r14.2.2 == (some 5))) with hb | hb
                  · have h := cond_t hb h
                    have hs19 := hb
                    refine r_reg (l := [(1, .u (.c (.sl false 3 (a1.map eD)))), (5, .u (.c (.v (.bool r1)))), (6, .u (.c (storeC r14.1))), (8, .u (.c (.sl true 1 (r17.1.map eB)))), (9, .u (.c (.v (.int .i64 v7)))), (151, .u (.c (.v (.bool true))))]) (cg_then (ds := [128, 129]) 2 rfl (by kernel_rfl) (co_then 3 rfl (os_ge (d := 130) (t := .u (.c (.v (.bool (decide (r17.2 < 0)))))) (t' := .u (.c (.v (.bool true)))) (by kernel_rfl) (by rw [hs18])) (cg_then (ds := [131]) 4 rfl (by kernel_rfl) (co_then 5 rfl (os_gy rfl rfl rfl (by kernel_rfl) (s_iface (n := 5) rfl (errB_ok (by kernel_rfl)) rfl (by kernel_rfl) rfl (by kernel_rfl))) (cg_then (ds := [133]) 6 rfl (by kernel_rfl) (co_then 7 rfl (os_ge (d := 134) (t := .u (.c (.v (.bool (!(r14.2.2 == (some 5))))))) (t' := .u (.c (.v (.bool true)))) (by kernel_rfl) (by rw [hs19])) (cg_then (ds := [135, 136, 137, 138, 139, 140, 141, 142, 143, 144, 145, 146, 147, 148, 149, 150, 151]) 24 rfl (by kernel_rfl) (.nil)))))))) rfl (by kernel_rfl) ?_
                    refine r_condT rfl rfl ?_
                    refine r_seq ?_
                    refine r_reg (l := [(4, .u (.c (.v (.bool false))))]) (cg_then (ds := [4]) 1 rfl (by kernel_rfl) (.nil)) rfl (by kernel_rfl) ?_
                    obtain rfl := Option.some.inj h
                    have h : Option.some _ = Option.some r := h_y12
                    refine r_ret ?_
                    obtain rfl := Option.some.inj h
                    exact ⟨.inr rfl, _, _, .cons (.copy rfl rfl rfl) (.nil), rfl, outs_of trivial⟩
                  · have h := cond_f hb h
                    have hs20 := hb
                    rcases Bool.eq_false_or_eq_true (r14.2.1 != 0) with hb | hb
                    · have h := cond_t hb h
                      have hs21 := hb
                      refine r_reg (l := [(1, .u (.c (.sl false 3 (a1.map eD)))), (5, .u (.c (.v (.bool r1)))), (6, .u (.c (storeC r14.1))), (8, .u (.c (.sl true 1 (r17.1.map eB)))), (9, .u (.c (.v (.int .i64 v7)))), (151, .u (.c (.v (.bool true))))]) (cg_then (ds := [128, 129]) 2 rfl (by kernel_rfl) (co_then 3 rfl (os_ge (d := 130) (t := .u (.c (.v (.bool (decide (r17.2 < 0)))))) (t' := .u (.c (.v (.bool true)))) (by kernel_rfl) (by rw [hs18])) (cg_then (ds := [131]) 4 rfl (by kernel_rfl) (co_then 5 rfl (os_gy rfl rfl rfl (by kernel_rfl) (s_iface (n := 5) rfl (errB_ok (by kernel_rfl)) rfl (by kernel_rfl) rfl (by kernel_rfl))) (cg_then (ds := [133]) 6 rfl (by kernel_rfl) (co_then 7 rfl (os_ge (d := 134) (t := .u (.c (.v (.bool (!(r14.2.2 == (some 5))))))) (t' := .u (.c (.v (.bool false)))) (by kernel_rfl) (by rw [hs20])) (cg_then (ds := [135, 136, 137, 138]) 11 rfl (by kernel_rfl) (co_then 12 rfl (os_ge (d := 139) (t := .u (.c (.v (.bool (r14.2.1 != 0))))) (t' := .u (.c (.v (.bool true)))) (by kernel_rfl) (by rw [hs21])) (cg_then (ds := [140, 141, 142, 143, 144, 145, 146, 147, 148, 149, 150, 151]) 24 rfl (by kernel_rfl) (.nil)))))))))) rfl (by kernel_rfl) ?_
                      refine r_condT rfl rfl ?_
                      refine r_seq ?_
                      refine r_reg (l := [(4, .u (.c (.v (.bool false))))]) (cg_then (ds := [4]) 1 rfl (by kernel_rfl) (.nil)) rfl (by kernel_rfl) ?_
                      obtain rfl := Option.some.inj h
                      have h : Option.some _ = Option.some r := h_y12
                      refine r_ret ?_
                      obtain rfl := Option.some.inj h
                      exact ⟨.inr rfl, _, _, .cons (.copy rfl rfl rfl) (.nil), rfl, outs_of trivial⟩
                    · have h := cond_f hb h
                      have hs22 := hb
                      rcases Bool.eq_false_or_eq_true (decide (r17.2 ≥ 0)) with hb | hb
                      · have h := cond_t hb h
                        have hs23 := hb
                        rcases Bool.eq_false_or_eq_true (!(r14.2.2 == none)) with hb | hb
                        · have h := cond_t hb h
                          have hs24 := hb
                          refine r_reg (l := [(1, .u (.c (.sl false 3 (a1.map eD)))), (5, .u (.c (.v (.bool r1)))), (6, .u (.c (storeC r14.1))), (8, .u (.c (.sl true 1 (r17.1.map eB)))), (9, .u (.c (.v (.int .i64 v7)))), (151, .u (.c (.v (.bool true))))]) (cg_then (ds := [128, 129]) 2 rfl (by kernel_rfl) (co_then 3 rfl (os_ge (d := 130) (t := .u (.c (.v (.bool (decide (r17.2 < 0)))))) (t' := .u (.c (.v (.bool true)))) (by kernel_rfl) (by rw [hs18])) (cg_then (ds := [131]) 4 rfl (by kernel_rfl) (co_then 5 rfl (os_gy rfl rfl rfl (by kernel_rfl) (s_iface (n := 5) rfl (errB_ok (by kernel_rfl)) rfl (by kernel_rfl) rfl (by kernel_rfl))) (cg_then (ds := [133]) 6 rfl (by kernel_rfl) (co_then 7 rfl (os_ge (d := 134) (t := .u (.c (.v (.bool (!(r14.2.2 == (some 5))))))) (t' := .u (.c (.v (.bool false)))) (by kernel_rfl) (by rw [hs20])) (cg_then (ds := [135, 136, 137, 138]) 11 rfl (by kernel_rfl) (co_then 12 rfl (os_ge (d := 139) (t := .u (.c (.v (.bool (r14.2.1 != 0))))) (t' := .u (.c (.v (.bool false)))) (by kernel_rfl) (by rw [hs22])) (cg_then (ds := [140, 141]) 14 rfl (by kernel_rfl) (co_then 15 rfl (os_ge (d := 142) (t := .u (.c (.v (.bool (decide (r17.2 ≥ 0)))))) (t' := .u (.c (.v (.bool true)))) (by kernel_rfl) (by rw [hs23])) (cg_then (ds := [143, 144]) 17 rfl (by kernel_rfl) (co_then 18 rfl (os_ge (d := 145) (t := .u (.c (.v (.bool (!(r14.2.2 == none)))))) (t' := .u (.c (.v (.bool true)))) (by kernel_rfl) (by rw [hs24])) (cg_then (ds := [146, 147, 148, 149, 150, 151]) 24 rfl (by kernel_rfl) (.nil)))))))))))))) rfl (by kernel_rfl) ?_
                          refine r_condT rfl rfl ?_
                          refine r_seq ?_
                          refine r_reg (l := [(4, .u (.c (.v (.bool false))))]) (cg_then (ds := [4]) 1 rfl (by kernel_rfl) (.nil)) rfl (by kernel_rfl) ?_
                          obtain rfl := Option.some.inj h
                          have h : Option.some _ = Option.some r := h_y12
                          refine r_ret ?_
                          obtain rfl := Option.some.inj h
                          exact ⟨.inr rfl, _, _, .cons (.copy rfl rfl rfl) (.nil), rfl, outs_of trivial⟩
                        · have h := cond_f hb h
                          have hs25 := hb
                          refine r_reg (l := [(1, .u (.c (.sl false 3 (a1.map eD)))), (5, .u (.c (.v (.bool r1)))), (6, .u (.c (storeC r14.1))), (8, .u (.c (.sl true 1 (r17.1.map eB)))), (9, .u (.c (.v (.int .i64 v7)))), (151, .u (.c (.v (.bool (r14.2.1 != r17.2)))))]) (cg_then (ds := [128, 129]) 2 rfl (by kernel_rfl) (co_then 3 rfl (os_ge (d := 130) (t := .u (.c (.v (.bool (decide (r17.2 < 0)))))) (t' := .u (.c (.v (.bool true)))) (by kernel_rfl) (by rw [hs18])) (cg_then (ds := [131]) 4 rfl (by kernel_rfl) (co_then 5 rfl (os_gy rfl rfl rfl (by kernel_rfl) (s_iface (n := 5) rfl (errB_ok (by kernel_rfl)) rfl (by kernel_rfl) rfl (by kernel_rfl))) (cg_then (ds := [133]) 6 rfl (by kernel_rfl) (co_then 7 rfl (os_ge (d := 134) (t := .u (.c (.v (.bool (!(r14.2.2 == (some 5))))))) (t' := .u (.c (.v (.bool false)))) (by kernel_rfl) (by rw [hs20])) (cg_then (ds := [135, 136, 137, 138]) 11 rfl (by kernel_rfl) (co_then 12 rfl (os_ge (d := 139) (t := .u (.c (.v (.bool (r14.2.1 != 0))))) (t' := .u (.c (.v (.bool false)))) (by kernel_rfl) (by rw [hs22])) (cg_then (ds := [140, 141]) 14 rfl (by kernel_rfl) (co_then 15 rfl (os_ge (d := 142) (t := .u (.c (.v (.bool (decide (r17.2 ≥ 0)))))) (t' := .u (.c (.v (.bool true)))) (by kernel_rfl) (by rw [hs23])) (cg_then (ds := [143, 144]) 17 rfl (by kernel_rfl) (co_then 18 rfl (os_ge (d := 145) (t := .u (.c (.v (.bool (!(r14.2.2 == none)))))) (t' := .u (.c (.v (.bool false)))) (by kernel_rfl) (by rw [hs25])) (cg_then (ds := [146, 147, 148, 149, 150, 151]) 24 rfl (by kernel_rfl) (.nil)))))))))))))) rfl (by kernel_rfl) ?_
                          rcases Bool.eq_false_or_eq_true (r14.2.1 != r17.2) with hb | hb
                          · have h := cond_t hb h
                            refine r_condT hb rfl ?_
                            refine r_seq ?_
                            refine r_reg (l := [(4, .u (.c (.v (.bool false))))]) (cg_then (ds := [4]) 1 rfl (by kernel_rfl) (.nil)) rfl (by kernel_rfl) ?_
                            obtain rfl := Option.some.inj h
                            have h : Option.some _ = Option.some r := h_y12
                            refine r_ret ?_
                            obtain rfl := Option.some.inj h
                            exact ⟨.inr rfl, _, _, .cons (.copy rfl rfl rfl) (.nil), rfl, outs_of trivial⟩
                          · have h := cond_f hb h
                            refine r_condF hb rfl ?_
                            refine r_skip ?_
                            exact ⟨(r14.1, r17.1), (Option.some.inj h).symm, of_weak (by kernel_rfl)⟩
                      · have h := cond_f hb h
                        have hs26 := hb
                        refine r_reg (l := [(1, .u (.c (.sl false 3 (a1.map eD)))), (5, .u (.c (.v (.bool r1)))), (6, .u (.c (storeC r14.1))), (8, .u (.c (.sl true 1 (r17.1.map eB)))), (9, .u (.c (.v (.int .i64 v7)))), (151, .u (.c (.v (.bool false))))]) (cg_then (ds := [128, 129]) 2 rfl (by kernel_rfl) (co_then 3 rfl (os_ge (d := 130) (t := .u (.c (.v (.bool (decide (r17.2 < 0)))))) (t' := .u (.c (.v (.bool true)))) (by kernel_rfl) (by rw [hs18])) (cg_then (ds := [131]) 4 rfl (by kernel_rfl) (co_then 5 rfl (os_gy rfl rfl rfl (by kernel_rfl) (s_iface (n := 5) rfl (errB_ok (by kernel_rfl)) rfl (by kernel_rfl) rfl (by kernel_rfl))) (cg_then (ds := [133]) 6 rfl (by kernel_rfl) (co_then 7 rfl (os_ge (d := 134) (t := .u (.c (.v (.bool (!(r14.2.2 == (some 5))))))) (t' := .u (.c (.v (.bool false)))) (by kernel_rfl) (by rw [hs20])) (cg_then (ds := [135, 136, 137, 138]) 11 rfl (by kernel_rfl) (co_then 12 rfl (os_ge (d := 139) (t := .u (.c (.v (.bool (r14.2.1 != 0))))) (t' := .u (.c (.v (.bool false)))) (by kernel_rfl) (by rw [hs22])) (cg_then (ds := [140, 141]) 14 rfl (by kernel_rfl) (co_then 15 rfl (os_ge (d := 142) (t := .u (.c (.v (.bool (decide (r17.2 ≥ 0)))))) (t' := .u (.c (.v (.bool false)))) (by kernel_rfl) (by rw [hs26])) (cg_then (ds := [143, 144, 145, 146, 147, 148, 149, 150, 151]) 24 rfl (by kernel_rfl) (.nil)))))))))))) rfl (by kernel_rfl) ?_
                        refine r_condF rfl rfl ?_
                        refine r_skip ?_
                        exact ⟨(r14.1, r17.1), (Option.some.inj h).symm, of_weak (by kernel_rfl)⟩
                · have h := cond_f hb h
                  have hs27 := hb
                  rcases Bool.eq_false_or_eq_true (decide (r17.2 ≥ 0)) with hb | hb
                  · have h := cond_t hb h
                    have hs28 := hb
                    rcases Bool.eq_false_or_eq_true (!(r14.2.2 == none)) with hb | hb
                    · have h := cond_t hb h
                      have hs29 := hb
                      refine r_reg (l := [(1, .u (.c (.sl false 3 (a1.map eD)))), (5, .u (.c (.v (.bool r1)))), (6, .u (.c (storeC r14.1))), (8, .u (.c (.sl true 1 (r17.1.map eB)))), (9, .u (.c (.v (.int .i64 v7)))), (151, .u (.c (.v (.bool true))))]) (cg_then (ds := [128, 129]) 2 rfl (by kernel_rfl) (co_then 3 rfl (os_ge (d := 130) (t := .u (.c (.v (.bool (decide (r17.2 < 0)))))) (t' := .u (.c (.v (.bool false)))) (by kernel_rfl) (by rw [hs27])) (cg_then (ds := [131, 132, 133, 134, 135, 136, 137, 138, 139, 140, 141]) 14 rfl (by kernel_rfl) (co_then 15 rfl (os_ge (d := 142) (t := .u (.c (.v (.bool (decide (r17.2 ≥ 0)))))) (t' := .u (.c (.v (.bool true)))) (by kernel_rfl) (by rw [hs28])) (cg_then (ds := [143, 144]) 17 rfl (by kernel_rfl) (co_then 18 rfl (os_ge (d := 145) (t := .u (.c (.v (.bool (!(r14.2.2 == none)))))) (t' := .u (.c (.v (.bool true)))) (by kernel_rfl) (by rw [hs29])) (cg_then (ds := [146, 147, 148, 149, 150, 151]) 24 rfl (by kernel_rfl) (.nil)))))))) rfl (by kernel_rfl) ?_
                      refine r_condT rfl rfl ?_
                      refine r_seq ?_
                      refine r_reg (l := [(4, .u (.c (.v (.bool false))))]) (cg_then (ds := [4]) 1 rfl (by kernel_rfl) (.nil)) rfl (by kernel_rfl) ?_
                      obtain rfl := Option.some.inj h
                      have h : Option.some _ = Option.some r := h_y12
                      refine r_ret ?_
                      obtain rfl := Option.some.inj h
                      exact ⟨.inr rfl, _, _, .cons (.copy rfl rfl rfl) (.nil), rfl, outs_of trivial⟩
                    · have h := cond_f hb h
                      have hs30 := hb
                      refine r_reg (l := [(1, .u (.c (.sl false 3 (a1.map eD)))), (5, .u (.c (.v (.bool r1)))), (6, .u (.c (storeC r14.1))), (8, .u (.c (.sl true 1 (r17.1.map eB)))), (9, .u (.c (.v (.int .i64 v7)))), (151, .u (.c (.v (.bool (r14.2.1 != r17.2)))))]) (cg_then (ds := [128, 129]) 2 rfl (by kernel_rfl) (co_then 3 rfl (os_ge (d := 130) (t := .u (.c (.v (.bool (decide (r17.2 < 0)))))) (t' := .u (.c (.v (.bool false)))) (by kernel_rfl) (by rw [hs27])) (cg_then (ds := [131, 132, 133, 134, 135, 136, 137, 138, 139, 140, 141]) 14 rfl (by kernel_rfl) (co_then 15 rfl (os_ge (d := 142) (t := .u (.c (.v (.bool (decide (r17.2 ≥ 0)))))) (t' := .u (.c (.v (.bool true)))) (by kernel_rfl) (by rw [hs28])) (cg_then (ds := [143, 144]) 17 rfl (by kernel_rfl) (co_then 18 rfl (os_ge (d := 145) (t := .u (.c (.v (.bool (!(r14.2.2 == none)))))) (t' := .u (.c (.v (.bool false)))) (by kernel_rfl) (by rw [hs30])) (cg_then (ds := [146, 147, 148, 149, 150, 151]) 24 rfl (by kernel_rfl) (.nil)))))))) rfl (by kernel_rfl) ?_
                      rcases Bool.eq_false_or_eq_true (r14.2.1 != r17.2) with hb | hb
                      · have h := cond_t hb h
                        refine r_condT hb rfl ?_
                        refine r_seq ?_
                        refine r_reg (l := [(4, .u (.c (.v (.bool false))))]) (cg_then (ds := [4]) 1 rfl (by kernel_rfl) (.nil)) rfl (by kernel_rfl) ?_
                        obtain rfl := Option.some.inj h
                        have h : Option.some _ = Option.some r := h_y12
                        refine r_ret ?_
                        obtain rfl := Option.some.inj h
                        exact ⟨.inr rfl, _, _, .cons (.copy rfl rfl rfl) (.nil), rfl, outs_of trivial⟩
                      · have h := cond_f hb h
                        refine r_condF hb rfl ?_
                        refine r_skip ?_
                        exact ⟨(r14.1, r17.1), (Option.some.inj h).symm, of_weak (by kernel_rfl)⟩
                  · have h := cond_f hb h
                    have hs31 := hb
                    refine r_reg (l := [(1, .u (.c (.sl false 3 (a1.map eD)))), (5, .u (.c (.v (.bool r1)))), (6, .u (.c (storeC r14.1))), (8, .u (.c (.sl true 1 (r17.1.map eB)))), (9, .u (.c (.v (.int .i64 v7)))), (151, .u (.c (.v (.bool false))))]) (cg_then (ds := [128, 129]) 2 rfl (by kernel_rfl) (co_then 3 rfl (os_ge (d := 130) (t := .u (.c (.v (.bool (decide (r17.2 < 0)))))) (t' := .u (.c (.v (.bool false)))) (by kernel_rfl) (by rw [hs27])) (cg_then (ds := [131, 132, 133, 134, 135, 136, 137, 138, 139, 140, 141]) 14 rfl (by kernel_rfl) (co_then 15 rfl (os_ge (d := 142) (t := .u (.c (.v (.bool (decide (r17.2 ≥ 0)))))) (t' := .u (.c (.v (.bool false)))) (by kernel_rfl) (by rw [hs31])) (cg_then (ds := [143, 144, 145, 146, 147, 148, 149, 150, 151]) 24 rfl (by kernel_rfl) (.nil)))))) rfl (by kernel_rfl) ?_
                    refine r_condF rfl rfl ?_
                    refine r_skip ?_
                    exact ⟨(r14.1, r17.1), (Option.some.inj h).symm, of_weak (by kernel_rfl)⟩
            · have h := cond_f hb h
              refine r_condF hb rfl ?_
              refine r_seq ?_
              refine r_reg (l := [(1, .u (.c (.sl false 3 (a1.map eD)))), (5, .u (.c (.v (.bool r1)))), (6, .u (.c (storeC v5))), (8, .u (.c (.sl true 1 (v6.map eB)))), (9, .u (.c (.v (.int .i64 v7)))), (10, .u (.c (.pt true [.v (.int .i64 ((a1.getD v7.toNat zD).w)), .v (.int .i64 ((a1.getD v7.toNat zD).f)), .v (.int .i64 ((a1.getD v7.toNat zD).o))]))), (12, .u (.c (.v (.bool r11)))), (152, .u (.c (.v (.bool (r13 == 1)))))]) (cg_then (ds := [153, 152]) 2 rfl (by kernel_rfl) (.nil)) rfl (by kernel_rfl) ?_
              rcases Bool.eq_false_or_eq_true (r13 == 1) with hb | hb
              · have h := cond_t hb h
                refine r_condT hb rfl ?_
                refine r_seq ?_
                obtain ⟨r32, hr32, h⟩ := bind_some h
                refine r_reg (l := [(1, .u (.c (.sl false 3 (a1.map eD)))), (5, .u (.c (.v (.bool r1)))), (6, .u (.c (storeC r32.1))), (8, .u (.c (.sl true 1 (v6.map eB)))), (9, .u (.c (.v (.int .i64 v7)))), (10, .u (.c (.pt true [.v (.int .i64 ((a1.getD v7.toNat zD).w)), .v (.int .i64 ((a1.getD v7.toNat zD).f)), .v (.int .i64 ((a1.getD v7.toNat zD).o))]))), (12, .u (.c (.v (.bool r11)))), (16, .u (.c (.err r32.2)))]) (cg_then (ds := [154, 155, 156, 157, 158]) 5 rfl (by kernel_rfl) (co_then 6 rfl (os_plain rfl rfl (c_call (ACT.k hT (TakeAt.ac (h := hr32))) ⟨_, Tryd.func20, rfl, by kernel_rfl⟩ rfl (hand_root (r := 6) (c := storeC v5) (by kernel_rfl) (by kernel_rfl) rfl (.rd (.copy (by kernel_rfl) rfl) (.rd (.copy (by kernel_rfl) rfl) (.nil)))) rfl (by kernel_rfl))) (cg_then (ds := [16]) 7 rfl (by kernel_rfl) (.nil)))) rfl (by kernel_rfl) ?_
                refine r_seq ?_
                refine r_seq ?_
                refine r_reg (l := [(1, .u (.c (.sl false 3 (a1.map eD)))), (5, .u (.c (.v (.bool r1)))), (6, .u (.c (storeC r32.1))), (8, .u (.c (.sl true 1 (v6.map eB)))), (9, .u (.c (.v (.int .i64 v7)))), (10, .u (.c (.pt true [.v (.int .i64 ((a1.getD v7.toNat zD).w)), .v (.int .i64 ((a1.getD v7.toNat zD).f)), .v (.int .i64 ((a1.getD v7.toNat zD).o))]))), (16, .u (.c (.err r32.2))), (161, .u (.c (.v (.bool (!r11)))))]) (cg_then (ds := [160, 161]) 2 rfl (by kernel_rfl) (.nil)) rfl (by kernel_rfl) ?_
                rcases Bool.eq_false_or_eq_true (!r11) with hb | hb
                · have h := cond_t hb h
                  refine r_condT hb rfl ?_
                  refine r_seq ?_
                  refine r_seq ?_
                  refine r_reg (l := [(1, .u (.c (.sl false 3 (a1.map eD)))), (5, .u (.c (.v (.bool r1)))), (6, .u (.c (storeC r32.1))), (8, .u (.c (.sl true 1 (v6.map eB)))), (9, .u (.c (.v (.int .i64 v7)))), (164, .u (.c (.v (.bool (!(r32.2 == (some 1)))))))]) (cg_then (ds := [162]) 1 rfl (by kernel_rfl) (co_then 2 rfl (os_plain rfl rfl (s_iface (n := 1) rfl (errB_ok (by kernel_rfl)) rfl (by kernel_rfl) rfl (by kernel_rfl))) (cg_then (ds := [164]) 3 rfl (by kernel_rfl) (.nil)))) rfl (by kernel_rfl) ?_
                  rcases Bool.eq_false_or_eq_true (!(r32.2 == (some 1))) with hb | hb
                  · have h := cond_t hb h
                    refine r_condT hb rfl ?_
                    refine r_seq ?_
                    refine r_reg (l := [(4, .u (.c (.v (.bool false))))]) (cg_then (ds := [4]) 1 rfl (by kernel_rfl) (.nil)) rfl (by kernel_rfl) ?_
                    obtain rfl := Option.some.inj h
                    have h : Option.some _ = Option.some r := h_y12
                    refine r_ret ?_
                    obtain rfl := Option.some.inj h
                    exact ⟨.inr rfl, _, _, .cons (.copy rfl rfl rfl) (.nil), rfl, outs_of trivial⟩
                  · have h := cond_f hb h
                    refine r_condF hb rfl ?_
                    refine r_skip ?_
                    refine r_exit ?_
                    exact ⟨(r32.1, v6), (Option.some.inj h).symm, of_weak (by kernel_rfl)⟩
                · have h := cond_f hb h
                  refine r_condF hb rfl ?_
                  refine r_skip ?_
                  refine r_seq ?_
                  obtain ⟨r33, hr33, h⟩ := bind_some h
                  refine r_reg (l := [(1, .u (.c (.sl false 3 (a1.map eD)))), (5, .u (.c (.v (.bool r1)))), (6, .u (.c (storeC r32.1))), (8, .u (.c (.sl true 1 (v6.map eB)))), (9, .u (.c (.v (.int .i64 v7)))), (10, .u (.c (.pt true [.v (.int .i64 ((a1.getD v7.toNat zD).w)), .v (.int .i64 ((a1.getD v7.toNat zD).f)), .v (.int .i64 ((a1.getD v7.toNat zD).o))]))), (16, .u (.c (.err r32.2))), (17, .u (.c (.v (.bool r33))))]) (cg_then (ds := [165, 166, 167, 168, 169]) 5 rfl (by kernel_rfl) (co_then 6 rfl (os_plain rfl rfl (c_callQL (res := [.c (.v (.bool r33))]) (AC.k (RAll.ac (h := hr33))) ⟨_, Tryd.func23, rfl, by kernel_rfl⟩ rfl (.cons (.view (.v0 (r := 8) (lo := 0) (n := (v6.map eB).length) (own := true) (rows := v6.map eB) (by kernel_rfl) (by kernel_rfl) rows_all) (copy_map eB_copy)) (.cons (.copy (.copy (by kernel_rfl) rfl)) (.cons (.copy (.copy (by kernel_rfl) rfl)) (.cons (.copy (.copy (by kernel_rfl) rfl)) (.nil))))) (⟨trivial, trivial⟩) (by kernel_rfl))) (cg_then (ds := [17]) 7 rfl (by kernel_rfl) (.nil)))) rfl (by kernel_rfl) ?_
                  refine r_seq ?_
                  refine r_seq ?_
                  refine r_reg (l := [(1, .u (.c (.sl false 3 (a1.map eD)))), (5, .u (.c (.v (.bool r1)))), (6, .u (.c (storeC r32.1))), (8, .u (.c (.sl true 1 (v6.map eB)))), (9, .u (.c (.v (.int .i64 v7)))), (10, .u (.c (.pt true [.v (.int .i64 ((a1.getD v7.toNat zD).w)), .v (.int .i64 ((a1.getD v7.toNat zD).f)), .v (.int .i64 ((a1.getD v7.toNat zD).o))]))), (16, .u (.c (.err r32.2))), (17, .u (.c (.v (.bool r33)))), (171, .u (.c (.v (.bool r33))))]) (cg_then (ds := [171]) 1 rfl (by kernel_rfl) (.nil)) rfl (by kernel_rfl) ?_
                  rcases Bool.eq_false_or_eq_true (r33) with hb | hb
                  · have h := cond_t hb h
                    refine r_condT hb rfl ?_
                    obtain ⟨r34, hr34, h⟩ := bind_some h
                    refine r_reg (l := [(1, .u (.c (.sl false 3 (a1.map eD)))), (5, .u (.c (.v (.bool r1)))), (6, .u (.c (storeC r32.1))), (8, .u (.c (.sl true 1 (r34.map eB)))), (9, .u (.c (.v (.int .i64 v7)))), (16, .u (.c (.err r32.2))), (17, .u (.c (.v (.bool r33))))]) (cg_then (ds := [172, 173, 174, 175, 176]) 5 rfl (by kernel_rfl) (co_then 6 rfl (os_plain rfl rfl (c_call (AC.k (RSet.ac (h := hr34))) ⟨_, Tryd.func24, rfl, by kernel_rfl⟩ rfl (hand_sl (sz := 1) (n := (v6.map eB).length) (r := 8) (c := .sl true 1 (v6.map eB)) (by kernel_rfl) (by kernel_rfl) rfl (.rd (.copy (by kernel_rfl) rfl) (.rd (.copy (by kernel_rfl) rfl) (.rd (.copy (by kernel_rfl) rfl) (.nil))))) rfl (by kernel_rfl))) (.nil))) rfl (by kernel_rfl) ?_
                    refine r_seq ?_
                    rcases Bool.eq_false_or_eq_true (r33) with hb | hb
                    · have h := cond_t hb h
                      have hs35 := hb
                      rcases Bool.eq_false_or_eq_true (!(r32.2 == none)) with hb | hb
                      · have h := cond_t hb h
                        have hs36 := hb
                        refine r_reg (l := [(1, .u (.c (.sl false 3 (a1.map eD)))), (5, .u (.c (.v (.bool r1)))), (6, .u (.c (storeC r32.1))), (8, .u (.c (.sl true 1 (r34.map eB)))), (9, .u (.c (.v (.int .i64 v7)))), (191, .u (.c (.v (.bool true))))]) (cg_then (ds := [178]) 1 rfl (by kernel_rfl) (co_then 2 rfl (os_ge (d := 179) (t := .u (.c (.v (.bool r33)))) (t' := .u (.c (.v (.bool true)))) (by kernel_rfl) (by rw [hs35])) (cg_then (ds := [180, 181, 182]) 5 rfl (by kernel_rfl) (co_then 6 rfl (os_ge (d := 183) (t := .u (.c (.v (.bool (!(r32.2 == none)))))) (t' := .u (.c (.v (.bool true)))) (by kernel_rfl) (by rw [hs36])) (cg_then (ds := [184, 185, 186, 187, 188, 189, 190, 191]) 14 rfl (by kernel_rfl) (.nil)))))) rfl (by kernel_rfl) ?_
                        refine r_condT rfl rfl ?_
                        refine r_seq ?_
                        refine r_reg (l := [(4, .u (.c (.v (.bool false))))]) (cg_then (ds := [4]) 1 rfl (by kernel_rfl) (.nil)) rfl (by kernel_rfl) ?_
                        obtain rfl := Option.some.inj h
                        have h : Option.some _ = Option.some r := h_y12
                        refine r_ret ?_
                        obtain rfl := Option.some.inj h
                        exact ⟨.inr rfl, _, _, .cons (.copy rfl rfl rfl) (.nil), rfl, outs_of trivial⟩
                      · have h := cond_f hb h
                        have hs37 := hb
                        rcases Bool.eq_false_or_eq_true (!r33) with hb | hb
                        · have h := cond_t hb h
                          have hs38 := hb
                          refine r_reg (l := [(1, .u (.c (.sl false 3 (a1.map eD)))), (5, .u (.c (.v (.bool r1)))), (6, .u (.c (storeC r32.1))), (8, .u (.c (.sl true 1 (r34.map eB)))), (9, .u (.c (.v (.int .i64 v7)))), (191, .u (.c (.v (.bool (!(r32.2 == (some 7)))))))]) (cg_then (ds := [178]) 1 rfl (by kernel_rfl) (co_then 2 rfl (os_ge (d := 179) (t := .u (.c (.v (.bool r33)))) (t' := .u (.c (.v (.bool true)))) (by kernel_rfl) (by rw [hs35])) (cg_then (ds := [180, 181, 182]) 5 rfl (by kernel_rfl) (co_then 6 rfl (os_ge (d := 183) (t := .u (.c (.v (.bool (!(r32.2 == none)))))) (t' := .u (.c (.v (.bool false)))) (by kernel_rfl) (by rw [hs37])) (cg_then (ds := [184, 185]) 8 rfl (by kernel_rfl) (co_then 9 rfl (os_ge (d := 186) (t := .u (.c (.v (.bool (!r33))))) (t' := .u (.c (.v (.bool true)))) (by kernel_rfl) (by rw [hs38])) (cg_then (ds := [187]) 10 rfl (by kernel_rfl) (co_then 11 rfl (os_gy rfl rfl rfl (by kernel_rfl) (s_iface (n := 7) rfl (errB_ok (by kernel_rfl)) rfl (by kernel_rfl) rfl (by kernel_rfl))) (cg_then (ds := [189, 190, 191]) 14 rfl (by kernel_rfl) (.nil)))))))))) rfl (by kernel_rfl) ?_
                          rcases Bool.eq_false_or_eq_true (!(r32.2 == (some 7))) with hb | hb
                          · have h := cond_t hb h
                            refine r_condT hb rfl ?_
                            refine r_seq ?_
                            refine r_reg (l := [(4, .u (.c (.v (.bool false))))]) (cg_then (ds := [4]) 1 rfl (by kernel_rfl) (.nil)) rfl (by kernel_rfl) ?_
                            obtain rfl := Option.some.inj h
                            have h : Option.some _ = Option.some r := h_y12
                            refine r_ret ?_
                            obtain rfl := Option.some.inj h
                            exact ⟨.inr rfl, _, _, .cons (.copy rfl rfl rfl) (.nil), rfl, outs_of trivial⟩
                          · have h := cond_f hb h
                            refine r_condF hb rfl ?_
                            refine r_skip ?_
                            exact ⟨(r32.1, r34), (Option.some.inj h).symm, of_weak (by kernel_rfl)⟩
                        · have h := cond_f hb h
                          have hs39 := hb
                          refine r_reg (l := [(1, .u (.c (.sl false 3 (a1.map eD)))), (5, .u (.c (.v (.bool r1)))), (6, .u (.c (storeC r32.1))), (8, .u (.c (.sl true 1 (r34.map eB)))), (9, .u (.c (.v (.int .i64 v7)))), (191, .u (.c (.v (.bool false))))]) (cg_then (ds := [178]) 1 rfl (by kernel_rfl) (co_then 2 rfl (os_ge (d := 179) (t := .u (.c (.v (.bool r33)))) (t' := .u (.c (.v (.bool true)))) (by kernel_rfl) (by rw [hs35])) (cg_then (ds := [180, 181, 182]) 5 rfl (by kernel_rfl) (co_then 6 rfl (os_ge (d := 183) (t := .u (.c (.v (.bool (!(r32.2 == none)))))) (t' := .u (.c (.v (.bool false)))) (by kernel_rfl) (by rw [hs37])) (cg_then (ds := [184, 185]) 8 rfl (by kernel_rfl) (co_then 9 rfl (os_ge (d := 186) (t := .u (.c (.v (.bool (!r33))))) (t' := .u (.c (.v (.bool false)))) (by kernel_rfl) (by rw [hs39])) (cg_then (ds := [187, 188, 189, 190, 191]) 14 rfl (by kernel_rfl) (.nil)))))))) rfl (by kernel_rfl) ?_
                          refine r_condF rfl rfl ?_
                          refine r_skip ?_
                          exact ⟨(r32.1, r34), (Option.some.inj h).symm, of_weak (by kernel_rfl)⟩
                    · have h := cond_f hb h
                      have hs40 := hb
                      rcases Bool.eq_false_or_eq_true (!r33) with hb | hb
                      · have h := cond_t hb h
                        have hs41 := hb
                        refine r_reg (l := [(1, .u (.c (.sl false 3 (a1.map eD)))), (5, .u (.c (.v (.bool r1)))), (6, .u (.c (storeC r32.1))), (8, .u (.c (.sl true 1 (r34.map eB)))), (9, .u (.c (.v (.int .i64 v7)))), (191, .u (.c (.v (.bool (!(r32.2 == (some 7)))))))]) (cg_then (ds := [178]) 1 rfl (by kernel_rfl) (co_then 2 rfl (os_ge (d := 179) (t := .u (.c (.v (.bool r33)))) (t' := .u (.c (.v (.bool false)))) (by kernel_rfl) (by rw [hs40])) (cg_then (ds := [180, 181, 182, 183, 184, 185]) 8 rfl (by kernel_rfl) (co_then 9 rfl (os_ge (d := 186) (t := .u (.c (.v (.bool (!r33))))) (t' := .u (.c (.v (.bool true)))) (by kernel_rfl) (by rw [hs41])) (cg_then (ds := [187]) 10 rfl (by kernel_rfl) (co_then 11 rfl (os_gy rfl rfl rfl (by kernel_rfl) (s_iface (n := 7) rfl (errB_ok (by kernel_rfl)) rfl (by kernel_rfl) rfl (by kernel_rfl))) (cg_then (ds := [189, 190, 191]) 14 rfl (by kernel_rfl) (.nil)))))))) rfl (by kernel_rfl) ?_
                        rcases Bool.eq_false_or_eq_true (!(r32.2 == (some 7))) with hb | hb
                        · have h := cond_t hb h
                          refine r_condT hb rfl ?_
                          refine r_seq ?_
                          refine r_reg (l := [(4, .u (.c (.v (.bool false))))]) (cg_then (ds := [4]) 1 rfl (by kernel_rfl) (.nil)) rfl (by kernel_rfl) ?_
                          obtain rfl := Option.some.inj h
                          have h : Option.some _ = Option.some r := h_y12
                          refine r_ret ?_
                          obtain rfl := Option.some.inj h
                          exact ⟨.inr rfl, _, _, .cons (.copy rfl rfl rfl) (.nil), rfl, outs_of trivial⟩
                        · have h := cond_f hb h
                          refine r_condF hb rfl ?_
                          refine r_skip ?_
                          exact ⟨(r32.1, r34), (Option.some.inj h).symm, of_weak (by kernel_rfl)⟩
                      · have h := cond_f hb h
                        have hs42 := hb
                        refine r_reg (l := [(1, .u (.c (.sl false 3 (a1.map eD)))), (5, .u (.c (.v (.bool r1)))), (6, .u (.c (storeC r32.1))), (8, .u (.c (.sl true 1 (r34.map eB)))), (9, .u (.c (.v (.int .i64 v7)))), (191, .u (.c (.v (.bool false))))]) (cg_then (ds := [178]) 1 rfl (by kernel_rfl) (co_then 2 rfl (os_ge (d := 179) (t := .u (.c (.v (.bool r33)))) (t' := .u (.c (.v (.bool false)))) (by kernel_rfl) (by rw [hs40])) (cg_then (ds := [180, 181, 182, 183, 184, 185]) 8 rfl (by kernel_rfl) (co_then 9 rfl (os_ge (d := 186) (t := .u (.c (.v (.bool (!r33))))) (t' := .u (.c (.v (.bool false)))) (by kernel_rfl) (by rw [hs42])) (cg_then (ds := [187, 188, 189, 190, 191]) 14 rfl (by kernel_rfl) (.nil)))))) rfl (by kernel_rfl) ?_
                        refine r_condF rfl rfl ?_
                        refine r_skip ?_
                        exact ⟨(r32.1, r34), (Option.some.inj h).symm, of_weak (by kernel_rfl)⟩
                  · have h := cond_f hb h
                    refine r_condF hb rfl ?_
                    refine r_skip ?_
                    refine r_seq ?_
                    rcases Bool.eq_false_or_eq_true (r33) with hb | hb
                    · have h := cond_t hb h
                      have hs43 := hb
                      rcases Bool.eq_false_or_eq_true (!(r32.2 == none)) with hb | hb
                      · have h := cond_t hb h
                        have hs44 := hb
                        refine r_reg (l := [(1, .u (.c (.sl false 3 (a1.map eD)))), (5, .u (.c (.v (.bool r1)))), (6, .u (.c (storeC r32.1))), (8, .u (.c (.sl true 1 (v6.map eB)))), (9, .u (.c (.v (.int .i64 v7)))), (191, .u (.c (.v (.bool true))))]) (cg_then (ds := [178]) 1 rfl (by kernel_rfl) (co_then 2 rfl (os_ge (d := 179) (t := .u (.c (.v (.bool r33)))) (t' := .u (.c (.v (.bool true)))) (by kernel_rfl) (by rw [hs43])) (cg_then (ds := [180, 181, 182]) 5 rfl (by kernel_rfl) (co_then 6 rfl (os_ge (d := 183) (t := .u (.c (.v (.bool (!(r32.2 == none)))))) (t' := .u (.c (.v (.bool true)))) (by kernel_rfl) (by rw [hs44])) (cg_then (ds := [184, 185, 186, 187, 188, 189, 190, 191]) 14 rfl (by kernel_rfl) (.nil)))))) rfl (by kernel_rfl) ?_
                        refine r_condT rfl rfl ?_
                        refine r_seq ?_
                        refine r_reg (l := [(4, .u (.c (.v (.bool false))))]) (cg_then (ds := [4]) 1 rfl (by kernel_rfl) (.nil)) rfl (by kernel_rfl) ?_
                        obtain rfl := Option.some.inj h
                        have h : Option.some _ = Option.some r := h_y12
                        refine r_ret ?_
                        obtain rfl := Option.some.inj h
                        exact ⟨.inr rfl, _, _, .cons (.copy rfl rfl rfl) (.nil), rfl, outs_of trivial⟩
                      · have h := cond_f hb h
                        have hs45 := hb
                        rcases Bool.eq_false_or_eq_true (!r33) with hb | hb
                        · have h := cond_t hb h
                          have hs46 := hb
                          refine r_reg (l := [(1, .u (.c (.sl false 3 (a1.map eD)))), (5, .u (.c (.v (.bool r1)))), (6, .u (.c (storeC r32.1))), (8, .u (.c (.sl true 1 (v6.map eB)))), (9, .u (.c (.v (.int .i64 v7)))), (191, .u (.c (.v (.bool (!(r32.2 == (some 7)))))))]) (cg_then (ds := [178]) 1 rfl (by kernel_rfl) (co_then 2 rfl (os_ge (d := 179) (t := .u (.c (.v (.bool r33)))) (t' := .u (.c (.v (.bool true)))) (by kernel_rfl) (by rw [hs43])) (cg_then (ds := [180, 181, 182]) 5 rfl (by kernel_rfl) (co_then 6 rfl (os_ge (d := 183) (t := .u (.c (.v (.bool (!(r32.2 == none)))))) (t' := .u (.c (.v (.bool false)))) (by kernel_rfl) (by rw [hs45])) (cg_then (ds := [184, 185]) 8 rfl (by kernel_rfl) (co_then 9 rfl (os_ge (d := 186) (t := .u (.c (.v (.bool (!r33))))) (t' := .u (.c (.v (.bool true)))) (by kernel_rfl) (by rw [hs46])) (cg_then (ds := [187]) 10 rfl (by kernel_rfl) (co_then 11 rfl (os_gy rfl rfl rfl (by kernel_rfl) (s_iface (n := 7) rfl (errB_ok (by kernel_rfl)) rfl (by kernel_rfl) rfl (by kernel_rfl))) (cg_then (ds := [189, 190, 191]) 14 rfl (by kernel_rfl) (.nil)))))))))) rfl (by kernel_rfl) ?_
                          rcases Bool.eq_false_or_eq_true (!(r32.2 == (some 7))) with hb | hb
                          · have h := cond_t hb h
                            refine r_condT hb rfl ?_
                            refine r_seq ?_
                            refine r_reg (l := [(4, .u (.c (.v (.bool false))))]) (cg_then (ds := [4]) 1 rfl (by kernel_rfl) (.nil)) rfl (by kernel_rfl) ?_
                            obtain rfl := Option.some.inj h
                            have h : Option.some _ = Option.some r := h_y12
                            refine r_ret ?_
                            obtain rfl := Option.some.inj h
                            exact ⟨.inr rfl, _, _, .cons (.copy rfl rfl rfl) (.nil), rfl, outs_of trivial⟩
                          · have h := cond_f hb h
                            refine r_condF hb rfl ?_
                            refine r_skip ?_
                            exact ⟨(r32.1, v6), (Option.some.inj h).symm, of_weak (by kernel_rfl)⟩
                        · have h := cond_f hb h
                          have hs47 := hb
                          refine r_reg (l := [(1, .u (.c (.sl false 3 (a1.map eD)))), (5, .u (.c (.v (.bool r1)))), (6, .u (.c (storeC r32.1))), (8, .u (.c (.sl true 1 (v6.map eB)))), (9, .u (.c (.v (.int .i64 v7)))), (191, .u (.c (.v (.bool false))))]) (cg_then (ds := [178]) 1 rfl (by kernel_rfl) (co_then 2 rfl (os_ge (d := 179) (t := .u (.c (.v (.bool r33)))) (t' := .u (.c (.v (.bool true)))) (by kernel_rfl) (by rw [hs43])) (cg_then (ds := [180, 181, 182]) 5 rfl (by kernel_rfl) (co_then 6 rfl (os_ge (d := 183) (t := .u (.c (.v (.bool (!(r32.2 == none)))))) (t' := .u (.c (.v (.bool false)))) (by kernel_rfl) (by rw [hs45])) (cg_then (ds := [184, 185]) 8 rfl (by kernel_rfl) (co_then 9 rfl (os_ge (d := 186) (t := .u (.c (.v (.bool (!r33))))) (t' := .u (.c (.v (.bool false)))) (by kernel_rfl) (by rw [hs47])) (cg_then (ds := [187, 188, 189, 190, 191]) 14 rfl (by kernel_rfl) (.nil)))))))) rfl (by kernel_rfl) ?_
                          refine r_condF rfl rfl ?_
                          refine r_skip ?_
                          exact ⟨(r32.1, v6), (Option.some.inj h).symm, of_weak (by kernel_rfl)⟩
                    · have h := cond_f hb h
                      have hs48 := hb
                      rcases Bool.eq_false_or_eq_true (!r33) with hb | hb
                      · have h := cond_t hb h
                        have hs49 := hb
                        refine r_reg (l := [(1, .u (.c (.sl false 3 (a1.map eD)))), (5, .u (.c (.v (.bool r1)))), (6, .u (.c (storeC r32.1))), (8, .u (.c (.sl true 1 (v6.map eB)))), (9, .u (.c (.v (.int .i64 v7)))), (191, .u (.c (.v (.bool (!(r32.2 == (some 7)))))))]) (cg_then (ds := [178]) 1 rfl (by kernel_rfl) (co_then 2 rfl (os_ge (d := 179) (t := .u (.c (.v (.bool r33)))) (t' := .u (.c (.v (.bool false)))) (by kernel_rfl) (by rw [hs48])) (cg_then (ds := [180, 181, 182, 183, 184, 185]) 8 rfl (by kernel_rfl) (co_then 9 rfl (os_ge (d := 186) (t := .u (.c (.v (.bool (!r33))))) (t' := .u (.c (.v (.bool true)))) (by kernel_rfl) (by rw [hs49])) (cg_then (ds := [187]) 10 rfl (by kernel_rfl) (co_then 11 rfl (os_gy rfl rfl rfl (by kernel_rfl) (s_iface (n := 7) rfl (errB_ok (by kernel_rfl)) rfl (by kernel_rfl) rfl (by kernel_rfl))) (cg_then (ds := [189, 190, 191]) 14 rfl (by kernel_rfl) (.nil)))))))) rfl (by kernel_rfl) ?_
                        rcases Bool.eq_false_or_eq_true (!(r32.2 == (some 7))) with hb | hb
                        · have h := cond_t hb h
                          refine r_condT hb rfl ?_
                          refine r_seq ?_
                          refine r_reg (l := [(4, .u (.c (.v (.bool false))))]) (cg_then (ds := [4]) 1 rfl (by kernel_rfl) (.nil)) rfl (by kernel_rfl) ?_
                          obtain rfl := Option.some.inj h
                          have h : Option.some _ = Option.some r := h_y12
                          refine r_ret ?_
                          obtain rfl := Option.some.inj h
                          exact ⟨.inr rfl, _, _, .cons (.copy rfl rfl rfl) (.nil), rfl, outs_of trivial⟩
                        · have h := cond_f hb h
                          refine r_condF hb rfl ?_
                          refine r_skip ?_
                          exact ⟨(r32.1, v6), (Option.some.inj h).symm, of_weak (by kernel_rfl)⟩
                      · have h := cond_f hb h
                        have hs50 := hb
                        refine r_reg (l := [(1, .u (.c (.sl false 3 (a1.map eD)))), (5, .u (.c (.v (.bool r1)))), (6, .u (.c (storeC r32.1))), (8, .u (.c (.sl true 1 (v6.map eB)))), (9, .u (.c (.v (.int .i64 v7)))), (191, .u (.c (.v (.bool false))))]) (cg_then (ds := [178]) 1 rfl (by kernel_rfl) (co_then 2 rfl (os_ge (d := 179) (t := .u (.c (.v (.bool r33)))) (t' := .u (.c (.v (.bool false)))) (by kernel_rfl) (by rw [hs48])) (cg_then (ds := [180, 181, 182, 183, 184, 185]) 8 rfl (by kernel_rfl) (co_then 9 rfl (os_ge (d := 186) (t := .u (.c (.v (.bool (!r33))))) (t' := .u (.c (.v (.bool false)))) (by kernel_rfl) (by rw [hs50])) (cg_then (ds := [187, 188, 189, 190, 191]) 14 rfl (by kernel_rfl) (.nil)))))) rfl (by kernel_rfl) ?_
                        refine r_condF rfl rfl ?_
                        refine r_skip ?_
                        exact ⟨(r32.1, v6), (Option.some.inj h).symm, of_weak (by kernel_rfl)⟩
              · have h := cond_f hb h
                refine r_condF hb rfl ?_
                refine r_seq ?_
                obtain ⟨r51, hr51, h⟩ := bind_some h
                refine r_reg (l := [(1, .u (.c (.sl false 3 (a1.map eD)))), (5, .u (.c (.v (.bool r1)))), (6, .u (.c (storeC r51.1))), (8, .u (.c (.sl true 1 (v6.map eB)))), (9, .u (.c (.v (.int .i64 v7)))), (10, .u (.c (.pt true [.v (.int .i64 ((a1.getD v7.toNat zD).w)), .v (.int .i64 ((a1.getD v7.toNat zD).f)), .v (.int .i64 ((a1.getD v7.toNat zD).o))]))), (12, .u (.c (.v (.bool r11)))), (18, .u (.c (.err r51.2)))]) (cg_then (ds := [68, 69, 70, 71, 72]) 5 rfl (by kernel_rfl) (co_then 6 rfl (os_plain rfl rfl (c_call (AC.k (Give.ac (h := hr51))) ⟨_, Tryd.func17, rfl, by kernel_rfl⟩ rfl (hand_root (r := 6) (c := storeC v5) (by kernel_rfl) (by kernel_rfl) rfl (.rd (.copy (by kernel_rfl) rfl) (.rd (.copy (by kernel_rfl) rfl) (.nil)))) rfl (by kernel_rfl))) (cg_then (ds := [18]) 7 rfl (by kernel_rfl) (.nil)))) rfl (by kernel_rfl) ?_
                refine r_seq ?_
                refine r_seq ?_
                refine r_reg (l := [(1, .u (.c (.sl false 3 (a1.map eD)))), (5, .u (.c (.v (.bool r1)))), (6, .u (.c (storeC r51.1))), (8, .u (.c (.sl true 1 (v6.map eB)))), (9, .u (.c (.v (.int .i64 v7)))), (10, .u (.c (.pt true [.v (.int .i64 ((a1.getD v7.toNat zD).w)), .v (.int .i64 ((a1.getD v7.toNat zD).f)), .v (.int .i64 ((a1.getD v7.toNat zD).o))]))), (18, .u (.c (.err r51.2))), (75, .u (.c (.v (.bool (!r11)))))]) (cg_then (ds := [74, 75]) 2 rfl (by kernel_rfl) (.nil)) rfl (by kernel_rfl) ?_
                rcases Bool.eq_false_or_eq_true (!r11) with hb | hb
                · have h := cond_t hb h
                  refine r_condT hb rfl ?_
                  refine r_seq ?_
                  refine r_seq ?_
                  refine r_reg (l := [(1, .u (.c (.sl false 3 (a1.map eD)))), (5, .u (.c (.v (.bool r1)))), (6, .u (.c (storeC r51.1))), (8, .u (.c (.sl true 1 (v6.map eB)))), (9, .u (.c (.v (.int .i64 v7)))), (78, .u (.c (.v (.bool (!(r51.2 == (some 1)))))))]) (cg_then (ds := [76]) 1 rfl (by kernel_rfl) (co_then 2 rfl (os_plain rfl rfl (s_iface (n := 1) rfl (errB_ok (by kernel_rfl)) rfl (by kernel_rfl) rfl (by kernel_rfl))) (cg_then (ds := [78]) 3 rfl (by kernel_rfl) (.nil)))) rfl (by kernel_rfl) ?_
                  rcases Bool.eq_false_or_eq_true (!(r51.2 == (some 1))) with hb | hb
                  · have h := cond_t hb h
                    refine r_condT hb rfl ?_
                    refine r_seq ?_
                    refine r_reg (l := [(4, .u (.c (.v (.bool false))))]) (cg_then (ds := [4]) 1 rfl (by kernel_rfl) (.nil)) rfl (by kernel_rfl) ?_
                    obtain rfl := Option.some.inj h
                    have h : Option.some _ = Option.some r := h_y12
                    refine r_ret ?_
                    obtain rfl := Option.some.inj h
                    exact ⟨.inr rfl, _, _, .cons (.copy rfl rfl rfl) (.nil), rfl, outs_of trivial⟩
                  · have h := cond_f hb h
                    refine r_condF hb rfl ?_
                    refine r_skip ?_
                    refine r_exit ?_
                    exact ⟨(r51.1, v6), (Option.some.inj h).symm, of_weak (by kernel_rfl)⟩
                · have h := cond_f hb h
                  refine r_condF hb rfl ?_
                  refine r_skip ?_
                  refine r_seq ?_
                  obtain ⟨r52, hr52, h⟩ := bind_some h
                  refine r_reg (l := [(1, .u (.c (.sl false 3 (a1.map eD)))), (5, .u (.c (.v (.bool r1)))), (6, .u (.c (storeC r51.1))), (8, .u (.c (.sl true 1 (v6.map eB)))), (9, .u (.c (.v (.int .i64 v7)))), (10, .u (.c (.pt true [.v (.int .i64 ((a1.getD v7.toNat zD).w)), .v (.int .i64 ((a1.getD v7.toNat zD).f)), .v (.int .i64 ((a1.getD v7.toNat zD).o))]))), (18, .u (.c (.err r51.2))), (19, .u (.c (.v (.bool r52))))]) (cg_then (ds := [79, 80, 81, 82, 83]) 5 rfl (by kernel_rfl) (co_then 6 rfl (os_plain rfl rfl (c_callQL (res := [.c (.v (.bool r52))]) (AC.k (RAll.ac (h := hr52))) ⟨_, Tryd.func23, rfl, by kernel_rfl⟩ rfl (.cons (.view (.v0 (r := 8) (lo := 0) (n := (v6.map eB).length) (own := true) (rows := v6.map eB) (by kernel_rfl) (by kernel_rfl) rows_all) (copy_map eB_copy)) (.cons (.copy (.copy (by kernel_rfl) rfl)) (.cons (.copy (.copy (by kernel_rfl) rfl)) (.cons (.copy (.copy (by kernel_rfl) rfl)) (.nil))))) (⟨trivial, trivial⟩) (by kernel_rfl))) (cg_then (ds := [19]) 7 rfl (by kernel_rfl) (.nil)))) rfl (by kernel_rfl) ?_
                  refine r_seq ?_
                  refine r_seq ?_
                  refine r_reg (l := [(1, .u (.c (.sl false 3 (a1.map eD)))), (5, .u (.c (.v (.bool r1)))), (6, .u (.c (storeC r51.1))), (8, .u (.c (.sl true 1 (v6.map eB)))), (9, .u (.c (.v (.int .i64 v7)))), (10, .u (.c (.pt true [.v (.int .i64 ((a1.getD v7.toNat zD).w)), .v (.int .i64 ((a1.getD v7.toNat zD).f)), .v (.int .i64 ((a1.getD v7.toNat zD).o))]))), (18, .u (.c (.err r51.2))), (19, .u (.c (.v (.bool r52)))), (85, .u (.c (.v (.bool r52))))]) (cg_then (ds := [85]) 1 rfl (by kernel_rfl) (.nil)) rfl (by kernel_rfl) ?_
                  rcases Bool.eq_false_or_eq_true (r52) with hb | hb
                  · have h := cond_t hb h
                    refine r_condT hb rfl ?_
                    obtain ⟨r53, hr53, h⟩ := bind_some h
                    refine r_reg (l := [(1, .u (.c (.sl false 3 (a1.map eD)))), (5, .u (.c (.v (.bool r1)))), (6, .u (.c (storeC r51.1))), (8, .u (.c (.sl true 1 (r53.map eB)))), (9, .u (.c (.v (.int .i64 v7)))), (18, .u (.c (.err r51.2))), (19, .u (.c (.v (.bool r52))))]) (cg_then (ds := [86, 87, 88, 89, 90]) 5 rfl (by kernel_rfl) (co_then 6 rfl (os_plain rfl rfl (c_call (AC.k (RSet.ac (h := hr53))) ⟨_, Tryd.func24, rfl, by kernel_rfl⟩ rfl (hand_sl (sz := 1) (n := (v6.map eB).length) (r := 8) (c := .sl true 1 (v6.map eB)) (by kernel_rfl) (by kernel_rfl) rfl (.rd (.copy (by kernel_rfl) rfl) (.rd (.copy (by kernel_rfl) rfl) (.rd (.copy (by kernel_rfl) rfl) (.nil))))) rfl (by kernel_rfl))) (.nil))) rfl (by kernel_rfl) ?_
                    refine r_seq ?_
                    rcases Bool.eq_false_or_eq_true (r52) with hb | hb
                    · have h := cond_t hb h
                      have hs54 := hb
                      rcases Bool.eq_false_or_eq_true (!(r51.2 == none)) with hb | hb
                      · have h := cond_t hb h
                        have hs55 := hb
                        refine r_reg (l := [(1, .u (.c (.sl false 3 (a1.map eD)))), (5, .u (.c (.v (.bool r1)))), (6, .u (.c (storeC r51.1))), (8, .u (.c (.sl true 1 (r53.map eB)))), (9, .u (.c (.v (.int .i64 v7)))), (105, .u (.c (.v (.bool true))))]) (cg_then (ds := [92]) 1 rfl (by kernel_rfl) (co_then 2 rfl (os_ge (d := 93) (t := .u (.c (.v (.bool r52)))) (t' := .u (.c (.v (.bool true)))) (by kernel_rfl) (by rw [hs54])) (cg_then (ds := [94, 95, 96]) 5 rfl (by kernel_rfl) (co_then 6 rfl (os_ge (d := 97) (t := .u (.c (.v (.bool (!(r51.2 == none)))))) (t' := .u (.c (.v (.bool true)))) (by kernel_rfl) (by rw [hs55])) (cg_then (ds := [98, 99, 100, 101, 102, 103, 104, 105]) 14 rfl (by kernel_rfl) (.nil)))))) rfl (by kernel_rfl) ?_
                        refine r_condT rfl rfl ?_
                        refine r_seq ?_
                        refine r_reg (l := [(4, .u (.c (.v (.bool false))))]) (cg_then (ds := [4]) 1 rfl (by kernel_rfl) (.nil)) rfl (by kernel_rfl) ?_
                        obtain rfl := Option.some.inj h
                        have h : Option.some _ = Option.some r := h_y12
                        refine r_ret ?_
                        obtain rfl := Option.some.inj h
                        exact ⟨.inr rfl, _, _, .cons (.copy rfl rfl rfl) (.nil), rfl, outs_of trivial⟩
                      · have h := cond_f hb h
                        have hs56 := hb
                        rcases Bool.eq_false_or_eq_true (!r52) with hb | hb
                        · have h := cond_t hb h
                          have hs57 := hb
                          refine r_reg (l := [(1, .u (.c (.sl false 3 (a1.map eD)))), (5, .u (.c (.v (.bool r1)))), (6, .u (.c (storeC r51.1))), (8, .u (.c (.sl true 1 (r53.map eB)))), (9, .u (.c (.v (.int .i64 v7)))), (105, .u (.c (.v (.bool (!(r51.2 == (some 7)))))))]) (cg_then (ds := [92]) 1 rfl (by kernel_rfl) (co_then 2 rfl (os_ge (d := 93) (t := .u (.c (.v (.bool r52)))) (t' := .u (.c (.v (.bool true)))) (by kernel_rfl) (by rw [hs54])) (cg_then (ds := [94, 95, 96]) 5 rfl (by kernel_rfl) (co_then 6 rfl (os_ge (d := 97) (t := .u (.c (.v (.bool (!(r51.2 == none)))))) (t' := .u (.c (.v (.bool false)))) (by kernel_rfl) (by rw [hs56])) (cg_then (ds := [98, 99]) 8 rfl (by kernel_rfl) (co_then 9 rfl (os_ge (d := 100) (t := .u (.c (.v (.bool (!r52))))) (t' := .u (.c (.v (.bool true)))) (by kernel_rfl) (by rw [hs57])) (cg_then (ds := [101]) 10 rfl (by kernel_rfl) (co_then 11 rfl (os_gy rfl rfl rfl (by kernel_rfl) (s_iface (n := 7) rfl (errB_ok (by kernel_rfl)) rfl (by kernel_rfl) rfl (by kernel_rfl))) (cg_then (ds := [103, 104, 105]) 14 rfl (by kernel_rfl) (.nil)))))))))) rfl (by kernel_rfl) ?_
                          rcases Bool.eq_false_or_eq_true (!(r51.2 == (some 7))) with hb | hb
                          · have h := cond_t hb h
                            refine r_condT hb rfl ?_
                            refine r_seq ?_
                            refine r_reg (l := [(4, .u (.c (.v (.bool false))))]) (cg_then (ds := [4]) 1 rfl (by kernel_rfl) (.nil)) rfl (by kernel_rfl) ?_
                            obtain rfl := Option.some.inj h
                            have h : Option.some _ = Option.some r := h_y12
                            refine r_ret ?_
                            obtain rfl := Option.some.inj h
                            exact ⟨.inr rfl, _, _, .cons (.copy rfl rfl rfl) (.nil), rfl, outs_of trivial⟩
                          · have h := cond_f hb h
                            refine r_condF hb rfl ?_
                            refine r_skip ?_
                            exact ⟨(r51.1, r53), (Option.some.inj h).symm, of_weak (by kernel_rfl)⟩
                        · have h := cond_f hb h
                          have hs58 := hb
                          refine r_reg (l := [(1, .u (.c (.sl false 3 (a1.map eD)))), (5, .u (.c (.v (.bool r1)))), (6, .u (.c (storeC r51.1))), (8, .u (.c (.sl true 1 (r53.map eB)))), (9, .u (.c (.v (.int .i64 v7)))), (105, .u (.c (.v (.bool false))))]) (cg_then (ds := [92]) 1 rfl (by kernel_rfl) (co_then 2 rfl (os_ge (d := 93) (t := .u (.c (.v (.bool r52)))) (t' := .u (.c (.v (.bool true)))) (by kernel_rfl) (by rw [hs54])) (cg_then (ds := [94, 95, 96]) 5 rfl (by kernel_rfl) (co_then 6 rfl (os_ge (d := 97) (t := .u (.c (.v (.bool (!(r51.2 == none)))))) (t' := .u (.c (.v (.bool false)))) (by kernel_rfl) (by rw [hs56])) (cg_then (ds := [98, 99]) 8 rfl (by kernel_rfl) (co_then 9 rfl (os_ge (d := 100) (t := .u (.c (.v (.bool (!r52))))) (t' := .u (.c (.v (.bool false)))) (by kernel_rfl) (by rw [hs58])) (cg_then (ds := [101, 102, 103, 104, 105]) 14 rfl (by kernel_rfl) (.nil)))))))) rfl (by kernel_rfl) ?_
                          refine r_condF rfl rfl ?_
                          refine r_skip ?_
                          exact ⟨(r51.1, r53), (Option.some.inj h).symm, of_weak (by kernel_rfl)⟩
                    · have h := cond_f hb h
                      have hs59 := hb
                      rcases Bool.eq_false_or_eq_true (!r52) with hb | hb
                      · have h := cond_t hb h
                        have hs60 := hb
                        refine r_reg (l := [(1, .u (.c (.sl false 3 (a1.map eD)))), (5, .u (.c (.v (.bool r1)))), (6, .u (.c (storeC r51.1))), (8, .u (.c (.sl true 1 (r53.map eB)))), (9, .u (.c (.v (.int .i64 v7)))), (105, .u (.c (.v (.bool (!(r51.2 == (some 7)))))))]) (cg_then (ds := [92]) 1 rfl (by kernel_rfl) (co_then 2 rfl (os_ge (d := 93) (t := .u (.c (.v (.bool r52)))) (t' := .u (.c (.v (.bool false)))) (by kernel_rfl) (by rw [hs59])) (cg_then (ds := [94, 95, 96, 97, 98, 99]) 8 rfl (by kernel_rfl) (co_then 9 rfl (os_ge (d := 100) (t := .u (.c (.v (.bool (!r52))))) (t' := .u (.c (.v (.bool true)))) (by kernel_rfl) (by rw [hs60])) (cg_then (ds := [101]) 10 rfl (by kernel_rfl) (co_then 11 rfl (os_gy rfl rfl rfl (by kernel_rfl) (s_iface (n := 7) rfl (errB_ok (by kernel_rfl)) rfl (by kernel_rfl) rfl (by kernel_rfl))) (cg_then (ds := [103, 104, 105]) 14 rfl (by kernel_rfl) (.nil)))))))) rfl (by kernel_rfl) ?_
                        rcases Bool.eq_false_or_eq_true (!(r51.2 == (some 7))) with hb | hb
                        · have h := cond_t hb h
                          refine r_condT hb rfl ?_
                          refine r_seq ?_
                          refine r_reg (l := [(4, .u (.c (.v (.bool false))))]) (cg_then (ds := [4]) 1 rfl (by kernel_rfl) (.nil)) rfl (by kernel_rfl) ?_
                          obtain rfl := Option.some.inj h
                          have h : Option.some _ = Option.some r := h_y12
                          refine r_ret ?_
                          obtain rfl := Option.some.inj h
                          exact ⟨.inr rfl, _, _, .cons (.copy rfl rfl rfl) (.nil), rfl, outs_of trivial⟩
                        · have h := cond_f hb h
                          refine r_condF hb rfl ?_
                          refine r_skip ?_
                          exact ⟨(r51.1, r53), (Option.some.inj h).symm, of_weak (by kernel_rfl)⟩
                      · have h := cond_f hb h
                        have hs61 := hb
                        refine r_reg (l := [(1, .u (.c (.sl false 3 (a1.map eD)))), (5, .u (.c (.v (.bool r1)))), (6, .u (.c (storeC r51.1))), (8, .u (.c (.sl true 1 (r53.map eB)))), (9, .u (.c (.v (.int .i64 v7)))), (105, .u (.c (.v (.bool false))))]) (cg_then (ds := [92]) 1 rfl (by kernel_rfl) (co_then 2 rfl (os_ge (d := 93) (t := .u (.c (.v (.bool r52)))) (t' := .u (.c (.v (.bool false)))) (by kernel_rfl) (by rw [hs59])) (cg_then (ds := [94, 95, 96, 97, 98, 99]) 8 rfl (by kernel_rfl) (co_then 9 rfl (os_ge (d := 100) (t := .u (.c (.v (.bool (!r52))))) (t' := .u (.c (.v (.bool false)))) (by kernel_rfl) (by rw [hs61])) (cg_then (ds := [101, 102, 103, 104, 105]) 14 rfl (by kernel_rfl) (.nil)))))) rfl (by kernel_rfl) ?_
                        refine r_condF rfl rfl ?_
                        refine r_skip ?_
                        exact ⟨(r51.1, r53), (Option.some.inj h).symm, of_weak (by kernel_rfl)⟩
                  · have h := cond_f hb h
                    refine r_condF hb rfl ?_
                    refine r_skip ?_
                    refine r_seq ?_
                    rcases Bool.eq_false_or_eq_true (r52) with hb | hb
                    · have h := cond_t hb h
                      have hs62 := hb
                      rcases Bool.eq_false_or_eq_true (!(r51.2 == none)) with hb | hb
                      · have h := cond_t hb h
                        have hs63 := hb
                        refine r_reg (l := [(1, .u (.c (.sl false 3 (a1.map eD)))), (5, .u (.c (.v (.bool r1)))), (6, .u (.c (storeC r51.1))), (8, .u (.c (.sl true 1 (v6.map eB)))), (9, .u (.c (.v (.int .i64 v7)))), (105, .u (.c (.v (.bool true))))]) (cg_then (ds := [92]) 1 rfl (by kernel_rfl) (co_then 2 rfl (os_ge (d := 93) (t := .u (.c (.v (.bool r52)))) (t' := .u (.c (.v (.bool true)))) (by kernel_rfl) (by rw [hs62])) (cg_then (ds := [94, 95, 96]) 5 rfl (by kernel_rfl) (co_then 6 rfl (os_ge (d := 97) (t := .u (.c (.v (.bool (!(r51.2 == none)))))) (t' := .u (.c (.v (.bool true)))) (by kernel_rfl) (by rw [hs63])) (cg_then (ds := [98, 99, 100, 101, 102, 103, 104, 105]) 14 rfl (by kernel_rfl) (.nil)))))) rfl (by kernel_rfl) ?_
                        refine r_condT rfl rfl ?_
                        refine r_seq ?_
                        refine r_reg (l := [(4, .u (.c (.v (.bool false))))]) (cg_then (ds := [4]) 1 rfl (by kernel_rfl) (.nil)) rfl (by kernel_rfl) ?_
                        obtain rfl := Option.some.inj h
                        have h : Option.some _ = Option.some r := h_y12
                        refine r_ret ?_
                        obtain rfl := Option.some.inj h
                        exact ⟨.inr rfl, _, _, .cons (.copy rfl rfl rfl) (.nil), rfl, outs_of trivial⟩
                      · have h := cond_f hb h
                        have hs64 := hb
                        rcases Bool.eq_false_or_eq_true (!r52) with hb | hb
                        · have h := cond_t hb h
                          have hs65 := hb
                          refine r_reg (l := [(1, .u (.c (.sl false 3 (a1.map eD)))), (5, .u (.c (.v (.bool r1)))), (6, .u (.c (storeC r51.1))), (8, .u (.c (.sl true 1 (v6.map eB)))), (9, .u (.c (.v (.int .i64 v7)))), (105, .u (.c (.v (.bool (!(r51.2 == (some 7)))))))]) (cg_then (ds := [92]) 1 rfl (by kernel_rfl) (co_then 2 rfl (os_ge (d := 93) (t := .u (.c (.v (.bool r52)))) (t' := .u (.c (.v (.bool true)))) (by kernel_rfl) (by rw [hs62])) (cg_then (ds := [94, 95, 96]) 5 rfl (by kernel_rfl) (co_then 6 rfl (os_ge (d := 97) (t := .u (.c (.v (.bool (!(r51.2 == none)))))) (t' := .u (.c (.v (.bool false)))) (by kernel_rfl) (by rw [hs64])) (cg_then (ds := [98, 99]) 8 rfl (by kernel_rfl) (co_then 9 rfl (os_ge (d := 100) (t := .u (.c (.v (.bool (!r52))))) (t' := .u (.c (.v (.bool true)))) (by kernel_rfl) (by rw [hs65])) (cg_then (ds := [101]) 10 rfl (by kernel_rfl) (co_then 11 rfl (os_gy rfl rfl rfl (by kernel_rfl) (s_iface (n := 7) rfl (errB_ok (by kernel_rfl)) rfl (by kernel_rfl) rfl (by kernel_rfl))) (cg_then (ds := [103, 104, 105]) 14 rfl (by kernel_rfl) (.nil)))))))))) rfl (by kernel_rfl) ?_
                          rcases Bool.eq_false_or_eq_true (!(r51.2 == (some 7))) with hb | hb
                          · have h := cond_t hb h
                            refine r_condT hb rfl ?_
                            refine r_seq ?_
                            refine r_reg (l := [(4, .u (.c (.v (.bool false))))]) (cg_then (ds := [4]) 1 rfl (by kernel_rfl) (.nil)) rfl (by kernel_rfl) ?_
                            obtain rfl := Option.some.inj h
                            have h : Option.some _ = Option.some r := h_y12
                            refine r_ret ?_
                            obtain rfl := Option.some.inj h
                            exact ⟨.inr rfl, _, _, .cons (.copy rfl rfl rfl) (.nil), rfl, outs_of trivial⟩
                          · have h := cond_f hb h
                            refine r_condF hb rfl ?_
                            refine r_skip ?_
                            exact ⟨(r51.1, v6), (Option.some.inj h).symm, of_weak (by kernel_rfl)⟩
                        · have h := cond_f hb h
                          have hs66 := hb
                          refine r_reg (l := [(1, .u (.c (.sl false 3 (a1.map eD)))), (5, .u (.c (.v (.bool r1)))), (6, .u (.c (storeC r51.1))), (8, .u (.c (.sl true 1 (v6.map eB)))), (9, .u (.c (.v (.int .i64 v7)))), (105, .u (.c (.v (.bool false))))]) (cg_then (ds := [92]) 1 rfl (by kernel_rfl) (co_then 2 rfl (os_ge (d := 93) (t := .u (.c (.v (.bool r52)))) (t' := .u (.c (.v (.bool true)))) (by kernel_rfl) (by rw [hs62])) (cg_then (ds := [94, 95, 96]) 5 rfl (by kernel_rfl) (co_then 6 rfl (os_ge (d := 97) (t := .u (.c (.v (.bool (!(r51.2 == none)))))) (t' := .u (.c (.v (.bool false)))) (by kernel_rfl) (by rw [hs64])) (cg_then (ds := [98, 99]) 8 rfl (by kernel_rfl) (co_then 9 rfl (os_ge (d := 100) (t := .u (.c (.v (.bool (!r52))))) (t' := .u (.c (.v (.bool false)))) (by kernel_rfl) (by rw [hs66])) (cg_then (ds := [101, 102, 103, 104, 105]) 14 rfl (by kernel_rfl) (.nil)))))))) rfl (by kernel_rfl) ?_
                          refine r_condF rfl rfl ?_
                          refine r_skip ?_
                          exact ⟨(r51.1, v6), (Option.some.inj h).symm, of_weak (by kernel_rfl)⟩
                    · have h := cond_f hb h
                      have hs67 := hb
                      rcases Bool.eq_false_or_eq_true (!r52) with hb | hb
                      · have h := cond_t hb h
                        have hs68 := hb
                        refine r_reg (l := [(1, .u (.c (.sl false 3 (a1.map eD)))), (5, .u (.c (.v (.bool r1)))), (6, .u (.c (storeC r51.1))), (8, .u (.c (.sl true 1 (v6.map eB)))), (9, .u (.c (.v (.int .i64 v7)))), (105, .u (.c (.v (.bool (!(r51.2 == (some 7)))))))]) (cg_then (ds := [92]) 1 rfl (by kernel_rfl) (co_then 2 rfl (os_ge (d := 93) (t := .u (.c (.v (.bool r52)))) (t' := .u (.c (.v (.bool false)))) (by kernel_rfl) (by rw [hs67])) (cg_then (ds := [94, 95, 96, 97, 98, 99]) 8 rfl (by kernel_rfl) (co_then 9 rfl (os_ge (d := 100) (t := .u (.c (.v (.bool (!r52))))) (t' := .u (.c (.v (.bool true)))) (by kernel_rfl) (by rw [hs68])) (cg_then (ds := [101]) 10 rfl (by kernel_rfl) (co_then 11 rfl (os_gy rfl rfl rfl (by kernel_rfl) (s_iface (n := 7) rfl (errB_ok (by kernel_rfl)) rfl (by kernel_rfl) rfl (by kernel_rfl))) (cg_then (ds := [103, 104, 105]) 14 rfl (by kernel_rfl) (.nil)))))))) rfl (by kernel_rfl) ?_
                        rcases Bool.eq_false_or_eq_true (!(r51.2 == (some 7))) with hb | hb
                        · have h := cond_t hb h
                          refine r_condT hb rfl ?_
                          refine r_seq ?_
                          refine r_reg (l := [(4, .u (.c (.v (.bool false))))]) (cg_then (ds := [4]) 1 rfl (by kernel_rfl) (.nil)) rfl (by kernel_rfl) ?_
                          obtain rfl := Option.some.inj h
                          have h : Option.some _ = Option.some r := h_y12
                          refine r_ret ?_
                          obtain rfl := Option.some.inj h
                          exact ⟨.inr rfl, _, _, .cons (.copy rfl rfl rfl) (.nil), rfl, outs_of trivial⟩
                        · have h := cond_f hb h
                          refine r_condF hb rfl ?_
                          refine r_skip ?_
                          exact ⟨(r51.1, v6), (Option.some.inj h).symm, of_weak (by kernel_rfl)⟩
                      · have h := cond_f hb h
                        have hs69 := hb
                        refine r_reg (l := [(1, .u (.c (.sl false 3 (a1.map eD)))), (5, .u (.c (.v (.bool r1)))), (6, .u (.c (storeC r51.1))), (8, .u (.c (.sl true 1 (v6.map eB)))), (9, .u (.c (.v (.int .i64 v7)))), (105, .u (.c (.v (.bool false))))]) (cg_then (ds := [92]) 1 rfl (by kernel_rfl) (co_then 2 rfl (os_ge (d := 93) (t := .u (.c (.v (.bool r52)))) (t' := .u (.c (.v (.bool false)))) (by kernel_rfl) (by rw [hs67])) (cg_then (ds := [94, 95, 96, 97, 98, 99]) 8 rfl (by kernel_rfl) (co_then 9 rfl (os_ge (d := 100) (t := .u (.c (.v (.bool (!r52))))) (t' := .u (.c (.v (.bool false)))) (by kernel_rfl) (by rw [hs69])) (cg_then (ds := [101, 102, 103, 104, 105]) 14 rfl (by kernel_rfl) (.nil)))))) rfl (by kernel_rfl) ?_
                        refine r_condF rfl rfl ?_
                        refine r_skip ?_
                        exact ⟨(r51.1, v6), (Option.some.inj h).symm, of_weak (by kernel_rfl)⟩
          · rintro y12v rfl
            replace h := h_y12
            replace h := elim_go h
            try dsimp only at h
            refine r_seq ?_
            obtain ⟨r70, hr70, h⟩ := bind_some h
            refine r_reg (l := [(1, .u (.c (.sl false 3 (a1.map eD)))), (5, .u (.c (.v (.bool r1)))), (6, .u (.c (storeC r70.1))), (8, .u (.c (.sl true 1 (y12v.2.map eB)))), (9, .u (.c (.v (.int .i64 v7)))), (195, .u (.c (.v (.bool (!r70.2)))))]) (cg_then (ds := [192, 193]) 2 rfl (by kernel_rfl) (co_then 3 rfl (os_plain rfl rfl (c_callL (res := [.c (.v (.bool r70.2))]) (outs := [some (.c (storeC r70.1)), none]) (AC.k (same.ac (h := hr70))) ⟨_, Tryd.func15, rfl, by kernel_rfl⟩ rfl (hand_root (r := 6) (c := storeC y12v.1) (by kernel_rfl) (by kernel_rfl) rfl (.rd (.view (.v0 (r := 8) (lo := 0) (n := (y12v.2.map eB).length) (own := true) (rows := y12v.2.map eB) (by kernel_rfl) (by kernel_rfl) rows_all) (copy_map eB_copy)) (.nil))) rfl (⟨⟨rfl, ⟨trivial, ⟨rfl, mine_map (fun _ => rfl)⟩, trivial⟩⟩, trivial⟩) (⟨trivial, trivial⟩) (by kernel_rfl))) (cg_then (ds := [195]) 4 rfl (by kernel_rfl) (.nil)))) rfl (by kernel_rfl) ?_
            rcases Bool.eq_false_or_eq_true (!r70.2) with hb | hb
            · have h := cond_t hb h
              refine r_condT hb rfl ?_
              refine r_seq ?_
              refine r_reg (l := [(4, .u (.c (.v (.bool false))))]) (cg_then (ds := [4]) 1 rfl (by kernel_rfl) (.nil)) rfl (by kernel_rfl) ?_
              refine r_ret ?_
              obtain rfl := Option.some.inj h
              exact ⟨.inr rfl, _, _, .cons (.copy rfl rfl rfl) (.nil), rfl, outs_of trivial⟩
            · have h := cond_f hb h
              refine r_condF hb rfl ?_
              refine r_skip ?_
              refine r_reg (l := [(1, .u (.c (.sl false 3 (a1.map eD)))), (5, .u (.c (.v (.bool r1)))), (6, .u (.c (storeC r70.1))), (8, .u (.c (.sl true 1 (y12v.2.map eB)))), (9, .u (.c (.v (.int .i64 (IntKind.i64.wrap (v7 + 1))))))]) (cg_then (ds := [45, 46, 9]) 3 rfl (by kernel_rfl) (.nil)) rfl (by kernel_rfl) ?_
              exact ⟨(r70.1, y12v.2, IntKind.i64.wrap (v7 + 1)), h, of_weak (by kernel_rfl)⟩
        · have h := cond_f hb h
          have hs71 := hb
          refine r_reg (l := [(1, .u (.c (.sl false 3 (a1.map eD)))), (5, .u (.c (.v (.bool r1)))), (6, .u (.c (storeC v5))), (8, .u (.c (.sl true 1 (v6.map eB)))), (9, .u (.c (.v (.int .i64 v7)))), (10, .u (.c (.pt true [.v (.int .i64 ((a1.getD v7.toNat zD).w)), .v (.int .i64 ((a1.getD v7.toNat zD).f)), .v (.int .i64 ((a1.getD v7.toNat zD).o))]))), (11, .u (.c (.v (.bool false))))]) (cg_then (ds := [51, 52, 53]) 3 rfl (by kernel_rfl) (co_then 4 rfl (os_ge (d := 54) (t := .u (.c (.v (.bool (decide (((a1.getD v7.toNat zD).o) ≥ 0)))))) (t' := .u (.c (.v (.bool false)))) (by kernel_rfl) (by rw [hs71])) (cg_then (ds := [55, 56, 57, 58, 11]) 9 rfl (by kernel_rfl) (.nil)))) rfl (by kernel_rfl) ?_
          refine r_seq ?_
          obtain ⟨r72, hr72, h⟩ := bind_some h
          refine r_reg (l := [(1, .u (.c (.sl false 3 (a1.map eD)))), (5, .u (.c (.v (.bool r1)))), (6, .u (.c (storeC v5))), (8, .u (.c (.sl true 1 (v6.map eB)))), (9, .u (.c (.v (.int .i64 v7)))), (10, .u (.c (.pt true [.v (.int .i64 ((a1.getD v7.toNat zD).w)), .v (.int .i64 ((a1.getD v7.toNat zD).f)), .v (.int .i64 ((a1.getD v7.toNat zD).o))]))), (11, .u (.c (.v (.bool false)))), (12, .u (.c (.v (.bool r72))))]) (cg_then (ds := [59, 60, 61, 62, 63]) 5 rfl (by kernel_rfl) (co_then 6 rfl (os_plain rfl rfl (c_callQL (res := [.c (.v (.bool r72))]) (AC.k (RBlock.ac (h := hr72))) ⟨_, Tryd.func21, rfl, by kernel_rfl⟩ rfl (.cons (.view (.v0 (r := 8) (lo := 0) (n := (v6.map eB).length) (own := true) (rows := v6.map eB) (by kernel_rfl) (by kernel_rfl) rows_all) (copy_map eB_copy)) (.cons (.copy (.copy (by kernel_rfl) rfl)) (.cons (.copy (.copy (by kernel_rfl) rfl)) (.nil)))) (⟨trivial, trivial⟩) (by kernel_rfl))) (cg_then (ds := [12]) 7 rfl (by kernel_rfl) (.nil)))) rfl (by kernel_rfl) ?_
          refine r_seq ?_
          obtain ⟨y73, hy73, h_y73⟩ := bind_some h
          refine r_joinC (α := Sto × (List Bool)) (fun x => [(1, .u (.c (.sl false 3 (a1.map eD)))), (5, .u (.c (.v (.bool r1)))), (6, .u (.c (storeC x.1))), (8, .u (.c (.sl true 1 (x.2.map eB)))), (9, .u (.c (.v (.int .i64 v7))))]) (fun x => y73 = Sum.inl x) ?_ ?_
          · replace h := hy73
            unfold BuddyPlays.j2 at h
            refine r_seq ?_
            obtain ⟨r74, hr74, h⟩ := bind_some h
            refine r_reg (l := [(1, .u (.c (.sl false 3 (a1.map eD)))), (5, .u (.c (.v (.bool r1)))), (6, .u (.c (storeC v5))), (8, .u (.c (.sl true 1 (v6.map eB)))), (9, .u (.c (.v (.int .i64 v7)))), (10, .u (.c (.pt true [.v (.int .i64 ((a1.getD v7.toNat zD).w)), .v (.int .i64 ((a1.getD v7.toNat zD).f)), .v (.int .i64 ((a1.getD v7.toNat zD).o))]))), (11, .u (.c (.v (.bool false)))), (12, .u (.c (.v (.bool r72)))), (67, .u (.c (.v (.int .i64 r74))))]) (cg_then (ds := [65, 66]) 2 rfl (by kernel_rfl) (co_then 3 rfl (os_plain rfl rfl (c_callQ (AC.k (paviorlaw07_pick.ac (h := hr74))) ⟨_, Tryd.func9, rfl, by kernel_rfl⟩ rfl (.cons (.copy (by kernel_rfl) rfl) (.cons (.copy (by kernel_rfl) rfl) (.nil))) (by kernel_rfl))) (.nil))) rfl (by kernel_rfl) ?_
            refine r_block ?_
            refine r_seq ?_
            refine r_reg (l := [(1, .u (.c (.sl false 3 (a1.map eD)))), (5, .u (.c (.v (.bool r1)))), (6, .u (.c (storeC v5))), (8, .u (.c (.sl true 1 (v6.map eB)))), (9, .u (.c (.v (.int .i64 v7)))), (10, .u (.c (.pt true [.v (.int .i64 ((a1.getD v7.toNat zD).w)), .v (.int .i64 ((a1.getD v7.toNat zD).f)), .v (.int .i64 ((a1.getD v7.toNat zD).o))]))), (11, .u (.c (.v (.bool false)))), (12, .u (.c (.v (.bool r72)))), (67, .u (.c (.v (.int .i64 r74)))), (106, .u (.c (.v (.bool (r74 == 0)))))]) (cg_then (ds := [107, 106]) 2 rfl (by kernel_rfl) (.nil)) rfl (by kernel_rfl) ?_
            rcases Bool.eq_false_or_eq_true (r74 == 0) with hb | hb
            · have h := cond_t hb h
              refine r_condT hb rfl ?_
              refine r_seq ?_
              obtain ⟨r75, hr75, h⟩ := bind_some h
              refine r_reg (l := [(1, .u (.c (.sl false 3 (a1.map eD)))), (5, .u (.c (.v (.bool r1)))), (6, .u (.c (storeC r75.1))), (8, .u (.c (.sl true 1 (v6.map eB)))), (9, .u (.c (.v (.int .i64 v7)))), (10, .u (.c (.pt true [.v (.int .i64 ((a1.getD v7.toNat zD).w)), .v (.int .i64 ((a1.getD v7.toNat zD).f)), .v (.int .i64 ((a1.getD v7.toNat zD).o))]))), (11, .u (.c (.v (.bool false)))), (13, .u (.c (.v (.int .i64 r75.2.1)))), (14, .u (.c (.err r75.2.2)))]) (cg_then (ds := [109, 110, 111]) 3 rfl (by kernel_rfl) (co_then 4 rfl (os_plain rfl rfl (c_call (AC.k (Take.ac (h := hr75))) ⟨_, Tryd.func13, rfl, by kernel_rfl⟩ rfl (hand_root (r := 6) (c := storeC v5) (by kernel_rfl) (by kernel_rfl) rfl (.rd (.copy (by kernel_rfl) rfl) (.nil))) rfl (by kernel_rfl))) (co_then 5 rfl (os_plain rfl rfl (s_moveT (us := [.c (.v (.int .i64 r75.2.1)), .c (.err r75.2.2)]) (.inl rfl) (by kernel_rfl) rfl (by kernel_rfl))) (cg_then (ds := [113, 114, 13, 14]) 9 rfl (by kernel_rfl) (.nil))))) rfl (by kernel_rfl) ?_
              refine r_seq ?_
              refine r_seq ?_
              refine r_reg (l := [(1, .u (.c (.sl false 3 (a1.map eD)))), (5, .u (.c (.v (.bool r1)))), (6, .u (.c (storeC r75.1))), (8, .u (.c (.sl true 1 (v6.map eB)))), (9, .u (.c (.v (.int .i64 v7)))), (10, .u (.c (.pt true [.v (.int .i64 ((a1.getD v7.toNat zD).w)), .v (.int .i64 ((a1.getD v7.toNat zD).f)), .v (.int .i64 ((a1.getD v7.toNat zD).o))]))), (13, .u (.c (.v (.int .i64 r75.2.1)))), (14, .u (.c (.err r75.2.2))), (116, .u (.c (.v (.bool true))))]) (cg_then (ds := [115, 116]) 2 rfl (by kernel_rfl) (.nil)) rfl (by kernel_rfl) ?_
              refine r_condT rfl rfl ?_
              refine r_seq ?_
              refine r_seq ?_
              rcases Bool.eq_false_or_eq_true (!(r75.2.2 == (some 1))) with hb | hb
              · have h := cond_t hb h
                have hs76 := hb
                refine r_reg (l := [(1, .u (.c (.sl false 3 (a1.map eD)))), (5, .u (.c (.v (.bool r1)))), (6, .u (.c (storeC r75.1))), (8, .u (.c (.sl true 1 (v6.map eB)))), (9, .u (.c (.v (.int .i64 v7)))), (123, .u (.c (.v (.bool true))))]) (cg_then (ds := [117]) 1 rfl (by kernel_rfl) (co_then 2 rfl (os_plain rfl rfl (s_iface (n := 1) rfl (errB_ok (by kernel_rfl)) rfl (by kernel_rfl) rfl (by kernel_rfl))) (cg_then (ds := [119]) 3 rfl (by kernel_rfl) (co_then 4 rfl (os_ge (d := 120) (t := .u (.c (.v (.bool (!(r75.2.2 == (some 1))))))) (t' := .u (.c (.v (.bool true)))) (by kernel_rfl) (by rw [hs76])) (cg_then (ds := [121, 122, 123]) 7 rfl (by kernel_rfl) (.nil)))))) rfl (by kernel_rfl) ?_
                refine r_condT rfl rfl ?_
                refine r_seq ?_
                refine r_reg (l := [(4, .u (.c (.v (.bool false))))]) (cg_then (ds := [4]) 1 rfl (by kernel_rfl) (.nil)) rfl (by kernel_rfl) ?_
                obtain rfl := Option.some.inj h
                have h : Option.some _ = Option.some r := h_y73
                refine r_ret ?_
                obtain rfl := Option.some.inj h
                exact ⟨.inr rfl, _, _, .cons (.copy rfl rfl rfl) (.nil), rfl, outs_of trivial⟩
              · have h := cond_f hb h
                have hs77 := hb
                refine r_reg (l := [(1, .u (.c (.sl false 3 (a1.map eD)))), (5, .u (.c (.v (.bool r1)))), (6, .u (.c (storeC r75.1))), (8, .u (.c (.sl true 1 (v6.map eB)))), (9, .u (.c (.v (.int .i64 v7)))), (123, .u (.c (.v (.bool (r75.2.1 != 0)))))]) (cg_then (ds := [117]) 1 rfl (by kernel_rfl) (co_then 2 rfl (os_plain rfl rfl (s_iface (n := 1) rfl (errB_ok (by kernel_rfl)) rfl (by kernel_rfl) rfl (by kernel_rfl))) (cg_then (ds := [119]) 3 rfl (by kernel_rfl) (co_then 4 rfl (os_ge (d := 120) (t := .u (.c (.v (.bool (!(r75.2.2 == (some 1))))))) (t' := .u (.c (.v (.bool false)))) (by kernel_rfl) (by rw [hs77])) (cg_then (ds := [121, 122, 123]) 7 rfl (by kernel_rfl) (.nil)))))) rfl (by kernel_rfl) ?_
                rcases Bool.eq_false_or_eq_true (r75.2.1 != 0) with hb | hb
                · have h := cond_t hb h
                  refine r_condT hb rfl ?_
                  refine r_seq ?_
                  refine r_reg (l := [(4, .u (.c (.v (.bool false))))]) (cg_then (ds := [4]) 1 rfl (by kernel_rfl) (.nil)) rfl (by kernel_rfl) ?_
                  obtain rfl := Option.some.inj h
                  have h : Option.some _ = Option.some r := h_y73
                  refine r_ret ?_
                  obtain rfl := Option.some.inj h
                  exact ⟨.inr rfl, _, _, .cons (.copy rfl rfl rfl) (.nil), rfl, outs_of trivial⟩
                · have h := cond_f hb h
                  refine r_condF hb rfl ?_
                  refine r_skip ?_
                  refine r_exit ?_
                  exact ⟨(r75.1, v6), (Option.some.inj h).symm, of_weak (by kernel_rfl)⟩
            · have h := cond_f hb h
              refine r_condF hb rfl ?_
              refine r_seq ?_
              refine r_reg (l := [(1, .u (.c (.sl false 3 (a1.map eD)))), (5, .u (.c (.v (.bool r1)))), (6, .u (.c (storeC v5))), (8, .u (.c (.sl true 1 (v6.map eB)))), (9, .u (.c (.v (.int .i64 v7)))), (10, .u (.c (.pt true [.v (.int .i64 ((a1.getD v7.toNat zD).w)), .v (.int .i64 ((a1.getD v7.toNat zD).f)), .v (.int .i64 ((a1.getD v7.toNat zD).o))]))), (12, .u (.c (.v (.bool r72)))), (152, .u (.c (.v (.bool (r74 == 1)))))]) (cg_then (ds := [153, 152]) 2 rfl (by kernel_rfl) (.nil)) rfl (by kernel_rfl) ?_
              rcases Bool.eq_false_or_eq_true (r74 == 1) with hb | hb
              · have h := cond_t hb h
                refine r_condT hb rfl ?_
                refine r_seq ?_
                obtain ⟨r78, hr78, h⟩ := bind_some h
                refine r_reg (l := [(1, .u (.c (.sl false 3 (a1.map eD)))), (5, .u (.c (.v (.bool r1)))), (6, .u (.c (storeC r78.1))), (8, .u (.c (.sl true 1 (v6.map eB)))), (9, .u (.c (.v (.int .i64 v7)))), (10, .u (.c (.pt true [.v (.int .i64 ((a1.getD v7.toNat zD).w)), .v (.int .i64 ((a1.getD v7.toNat zD).f)), .v (.int .i64 ((a1.getD v7.toNat zD).o))]))), (12, .u (.c (.v (.bool r72)))), (16, .u (.c (.err r78.2)))]) (cg_then (ds := [154, 155, 156, 157, 158]) 5 rfl (by kernel_rfl) (co_then 6 rfl (os_plain rfl rfl (c_call (ACT.k hT (TakeAt.ac (h := hr78))) ⟨_, Tryd.func20, rfl, by kernel_rfl⟩ rfl (hand_root (r := 6) (c := storeC v5) (by kernel_rfl) (by kernel_rfl) rfl (.rd (.copy (by kernel_rfl) rfl) (.rd (.copy (by kernel_rfl) rfl) (.nil)))) rfl (by kernel_rfl))) (cg_then (ds := [16]) 7 rfl (by kernel_rfl) (.nil)))) rfl (by kernel_rfl) ?_
                refine r_seq ?_
                refine r_seq ?_
                refine r_reg (l := [(1, .u (.c (.sl false 3 (a1.map eD)))), (5, .u (.c (.v (.bool r1)))), (6, .u (.c (storeC r78.1))), (8, .u (.c (.sl true 1 (v6.map eB)))), (9, .u (.c (.v (.int .i64 v7)))), (10, .u (.c (.pt true [.v (.int .i64 ((a1.getD v7.toNat zD).w)), .v (.int .i64 ((a1.getD v7.toNat zD).f)), .v (.int .i64 ((a1.getD v7.toNat zD).o))]))), (16, .u (.c (.err r78.2))), (161, .u (.c (.v (.bool (!r72)))))]) (cg_then (ds := [160, 161]) 2 rfl (by kernel_rfl) (.nil)) rfl (by kernel_rfl) ?_
                rcases Bool.eq_false_or_eq_true (!r72) with hb | hb
                · have h := cond_t hb h
                  refine r_condT hb rfl ?_
                  refine r_seq ?_
                  refine r_seq ?_
                  refine r_reg (l := [(1, .u (.c (.sl false 3 (a1.map eD)))), (5, .u (.c (.v (.bool r1)))), (6, .u (.c (storeC r78.1))), (8, .u (.c (.sl true 1 (v6.map eB)))), (9, .u (.c (.v (.int .i64 v7)))), (164, .u (.c (.v (.bool (!(r78.2 == (some 1)))))))]) (cg_then (ds := [162]) 1 rfl (by kernel_rfl) (co_then 2 rfl (os_plain rfl rfl (s_iface (n := 1) rfl (errB_ok (by kernel_rfl)) rfl (by kernel_rfl) rfl (by kernel_rfl))) (cg_then (ds := [164]) 3 rfl (by kernel_rfl) (.nil)))) rfl (by kernel_rfl) ?_
                  rcases Bool.eq_false_or_eq_true (!(r78.2 == (some 1))) with hb | hb
                  · have h := cond_t hb h
                    refine r_condT hb rfl ?_
                    refine r_seq ?_
                    refine r_reg (l := [(4, .u (.c (.v (.bool false))))]) (cg_then (ds := [4]) 1 rfl (by kernel_rfl) (.nil)) rfl (by kernel_rfl) ?_
                    obtain rfl := Option.some.inj h
                    have h : Option.some _ = Option.some r := h_y73
                    refine r_ret ?_
                    obtain rfl := Option.some.inj h
                    exact ⟨.inr rfl, _, _, .cons (.copy rfl rfl rfl) (.nil), rfl, outs_of trivial⟩
                  · have h := cond_f hb h
                    refine r_condF hb rfl ?_
                    refine r_skip ?_
                    refine r_exit ?_
                    exact ⟨(r78.1, v6), (Option.some.inj h).symm, of_weak (by kernel_rfl)⟩
                · have h := cond_f hb h
                  refine r_condF hb rfl ?_
                  refine r_skip ?_
                  refine r_seq ?_
                  obtain ⟨r79, hr79, h⟩ := bind_some h
                  refine r_reg (l := [(1, .u (.c (.sl false 3 (a1.map eD)))), (5, .u (.c (.v (.bool r1)))), (6, .u (.c (storeC r78.1))), (8, .u (.c (.sl true 1 (v6.map eB)))), (9, .u (.c (.v (.int .i64 v7)))), (10, .u (.c (.pt true [.v (.int .i64 ((a1.getD v7.toNat zD).w)), .v (.int .i64 ((a1.getD v7.toNat zD).f)), .v (.int .i64 ((a1.getD v7.toNat zD).o))]))), (16, .u (.c (.err r78.2))), (17, .u (.c (.v (.bool r79))))]) (cg_then (ds := [165, 166, 167, 168, 169]) 5 rfl (by kernel_rfl) (co_then 6 rfl (os_plain rfl rfl (c_callQL (res := [.c (.v (.bool r79))]) (AC.k (RAll.ac (h := hr79))) ⟨_, Tryd.func23, rfl, by kernel_rfl⟩ rfl (.cons (.view (.v0 (r := 8) (lo := 0) (n := (v6.map eB).length) (own := true) (rows := v6.map eB) (by kernel_rfl) (by kernel_rfl) rows_all) (copy_map eB_copy)) (.cons (.copy (.copy (by kernel_rfl) rfl)) (.cons (.copy (.copy (by kernel_rfl) rfl)) (.cons (.copy (.copy (by kernel_rfl) rfl)) (.nil))))) (⟨trivial, trivial⟩) (by kernel_rfl))) (cg_then (ds := [17]) 7 rfl (by kernel_rfl) (.nil)))) rfl (by kernel_rfl) ?_
                  refine r_seq ?_
                  refine r_seq ?_
                  refine r_reg (l := [(1, .u (.c (.sl false 3 (a1.map eD)))), (5, .u (.c (.v (.bool r1)))), (6, .u (.c (storeC r78.1))), (8, .u (.c (.sl true 1 (v6.map eB)))), (9, .u (.c (.v (.int .i64 v7)))), (10, .u (.c (.pt true [.v (.int .i64 ((a1.getD v7.toNat zD).w)), .v (.int .i64 ((a1.getD v7.toNat zD).f)), .v (.int .i64 ((a1.getD v7.toNat zD).o))]))), (16, .u (.c (.err r78.2))), (17, .u (.c (.v (.bool r79)))), (171, .u (.c (.v (.bool r79))))]) (cg_then (ds := [171]) 1 rfl (by kernel_rfl) (.nil)) rfl (by kernel_rfl) ?_
                  rcases Bool.eq_false_or_eq_true (r79) with hb | hb
                  · have h := cond_t hb h
                    refine r_condT hb rfl ?_
                    obtain ⟨r80, hr80, h⟩ := bind_some h
                    refine r_reg (l := [(1, .u (.c (.sl false 3 (a1.map eD)))), (5, .u (.c (.v (.bool r1)))), (6, .u (.c (storeC r78.1))), (8, .u (.c (.sl true 1 (r80.map eB)))), (9, .u (.c (.v (.int .i64 v7)))), (16, .u (.c (.err r78.2))), (17, .u (.c (.v (.bool r79))))]) (cg_then (ds := [172, 173, 174, 175, 176]) 5 rfl (by kernel_rfl) (co_then 6 rfl (os_plain rfl rfl (c_call (AC.k (RSet.ac (h := hr80))) ⟨_, Tryd.func24, rfl, by kernel_rfl⟩ rfl (hand_sl (sz := 1) (n := (v6.map eB).length) (r := 8) (c := .sl true 1 (v6.map eB)) (by kernel_rfl) (by kernel_rfl) rfl (.rd (.copy (by kernel_rfl) rfl) (.rd (.copy (by kernel_rfl) rfl) (.rd (.copy (by kernel_rfl) rfl) (.nil))))) rfl (by kernel_rfl))) (.nil))) rfl (by kernel_rfl) ?_
                    refine r_seq ?_
                    rcases Bool.eq_false_or_eq_true (r79) with hb | hb
                    · have h := cond_t hb h
                      have hs81 := hb
                      rcases Bool.eq_false_or_eq_true (!(r78.2 == none)) with hb | hb
                      · have h := cond_t hb h
                        have hs82 := hb
                        refine r_reg (l := [(1, .u (.c (.sl false 3 (a1.map eD)))), (5, .u (.c (.v (.bool r1)))), (6, .u (.c (storeC r78.1))), (8, .u (.c (.sl true 1 (r80.map eB)))), (9, .u (.c (.v (.int .i64 v7)))), (191, .u (.c (.v (.bool true))))]) (cg_then (ds := [178]) 1 rfl (by kernel_rfl) (co_then 2 rfl (os_ge (d := 179) (t := .u (.c (.v (.bool r79)))) (t' := .u (.c (.v (.bool true)))) (by kernel_rfl) (by rw [hs81])) (cg_then (ds := [180, 181, 182]) 5 rfl (by kernel_rfl) (co_then 6 rfl (os_ge (d := 183) (t := .u (.c (.v (.bool (!(r78.2 == none)))))) (t' := .u (.c (.v (.bool true)))) (by kernel_rfl) (by rw [hs82])) (cg_then (ds := [184, 185, 186, 187, 188, 189, 190, 191]) 14 rfl (by kernel_rfl) (.nil)))))) rfl (by kernel_rfl) ?_
                        refine r_condT rfl rfl ?_
                        refine r_seq ?_
                        refine r_reg (l := [(4, .u (.c (.v (.bool false))))]) (cg_then (ds := [4]) 1 rfl (by kernel_rfl) (.nil)) rfl (by kernel_rfl) ?_
                        obtain rfl := Option.some.inj h
                        have h : Option.some _ = Option.some r := h_y73
                        refine r_ret ?_
                        obtain rfl := Option.some.inj h
                        exact ⟨.inr rfl, _, _, .cons (.copy rfl rfl rfl) (.nil), rfl, outs_of trivial⟩
                      · have h := cond_f hb h
                        have hs83 := hb
                        rcases Bool.eq_false_or_eq_true (!r79) with hb | hb
                        · have h := cond_t hb h
                          have hs84 := hb
                          refine r_reg (l := [(1, .u (.c (.sl false 3 (a1.map eD)))), (5, .u (.c (.v (.bool r1)))), (6, .u (.c (storeC r78.1))), (8, .u (.c (.sl true 1 (r80.map eB)))), (9, .u (.c (.v (.int .i64 v7)))), (191, .u (.c (.v (.bool (!(r78.2 == (some 7)))))))]) (cg_then (ds := [178]) 1 rfl (by kernel_rfl) (co_then 2 rfl (os_ge (d := 179) (t := .u (.c (.v (.bool r79)))) (t' := .u (.c (.v (.bool true)))) (by kernel_rfl) (by rw [hs81])) (cg_then (ds := [180, 181, 182]) 5 rfl (by kernel_rfl) (co_then 6 rfl (os_ge (d := 183) (t := .u (.c (.v (.bool (!(r78.2 == none)))))) (t' := .u (.c (.v (.bool false)))) (by kernel_rfl) (by rw [hs83])) (cg_then (ds := [184, 185]) 8 rfl (by kernel_rfl) (co_then 9 rfl (os_ge (d := 186) (t := .u (.c (.v (.bool (!r79))))) (t' := .u (.c (.v (.bool true)))) (by kernel_rfl) (by rw [hs84])) (cg_then (ds := [187]) 10 rfl (by kernel_rfl) (co_then 11 rfl (os_gy rfl rfl rfl (by kernel_rfl) (s_iface (n := 7) rfl (errB_ok (by kernel_rfl)) rfl (by kernel_rfl) rfl (by kernel_rfl))) (cg_then (ds := [189, 190, 191]) 14 rfl (by kernel_rfl) (.nil)))))))))) rfl (by kernel_rfl) ?_
                          rcases Bool.eq_false_or_eq_true (!(r78.2 == (some 7))) with hb | hb
                          · have h := cond_t hb h
                            refine r_condT hb rfl ?_
                            refine r_seq ?_
                            refine r_reg (l := [(4, .u (.c (.v (.bool false))))]) (cg_then (ds := [4]) 1 rfl (by kernel_rfl) (.nil)) rfl (by kernel_rfl) ?_
                            obtain rfl := Option.some.inj h
                            have h : Option.some _ = Option.some r := h_y73
                            refine r_ret ?_
                            obtain rfl := Option.some.inj h
                            exact ⟨.inr rfl, _, _, .cons (.copy rfl rfl rfl) (.nil), rfl, outs_of trivial⟩
                          · have h := cond_f hb h
                            refine r_condF hb rfl ?_
                            refine r_skip ?_
                            exact ⟨(r78.1, r80), (Option.some.inj h).symm, of_weak (by kernel_rfl)⟩
                        · have h := cond_f hb h
                          have hs85 := hb
                          refine r_reg (l := [(1, .u (.c (.sl false 3 (a1.map eD)))), (5, .u (.c (.v (.bool r1)))), (6, .u (.c (storeC r78.1))), (8, .u (.c (.sl true 1 (r80.map eB)))), (9, .u (.c (.v (.int .i64 v7)))), (191, .u (.c (.v (.bool false))))]) (cg_then (ds := [178]) 1 rfl (by kernel_rfl) (co_then 2 rfl (os_ge (d := 179) (t := .u (.c (.v (.bool r79)))) (t' := .u (.c (.v (.bool true)))) (by kernel_rfl) (by rw [hs81])) (cg_then (ds := [180, 181, 182]) 5 rfl (by kernel_rfl) (co_then 6 rfl (os_ge (d := 183) (t := .u (.c (.v (.bool (!(r78.2 == none)))))) (t' := .u (.c (.v (.bool false)))) (by kernel_rfl) (by rw [hs83])) (cg_then (ds := [184, 185]) 8 rfl (by kernel_rfl) (co_then 9 rfl (os_ge (d := 186) (t := .u (.c (.v (.bool (!r79))))) (t' := .u (.c (.v (.bool false)))) (by kernel_rfl) (by rw [hs85])) (cg_then (ds := [187, 188, 189, 190, 191]) 14 rfl (by kernel_rfl) (.nil)))))))) rfl (by kernel_rfl) ?_
                          refine r_condF rfl rfl ?_
                          refine r_skip ?_
                          exact ⟨(r78.1, r80), (Option.some.inj h).symm, of_weak (by kernel_rfl)⟩
                    · have h := cond_f hb h
                      have hs86 := hb
                      rcases Bool.eq_false_or_eq_true (!r79) with hb | hb
                      · have h := cond_t hb h
                        have hs87 := hb
                        refine r_reg (l := [(1, .u (.c (.sl false 3 (a1.map eD)))), (5, .u (.c (.v (.bool r1)))), (6, .u (.c (storeC r78.1))), (8, .u (.c (.sl true 1 (r80.map eB)))), (9, .u (.c (.v (.int .i64 v7)))), (191, .u (.c (.v (.bool (!(r78.2 == (some 7)))))))]) (cg_then (ds := [178]) 1 rfl (by kernel_rfl) (co_then 2 rfl (os_ge (d := 179) (t := .u (.c (.v (.bool r79)))) (t' := .u (.c (.v (.bool false)))) (by kernel_rfl) (by rw [hs86])) (cg_then (ds := [180, 181, 182, 183, 184, 185]) 8 rfl (by kernel_rfl) (co_then 9 rfl (os_ge (d := 186) (t := .u (.c (.v (.bool (!r79))))) (t' := .u (.c (.v (.bool true)))) (by kernel_rfl) (by rw [hs87])) (cg_then (ds := [187]) 10 rfl (by kernel_rfl) (co_then 11 rfl (os_gy rfl rfl rfl (by kernel_rfl) (s_iface (n := 7) rfl (errB_ok (by kernel_rfl)) rfl (by kernel_rfl) rfl (by kernel_rfl))) (cg_then (ds := [189, 190, 191]) 14 rfl (by kernel_rfl) (.nil)))))))) rfl (by kernel_rfl) ?_
                        rcases Bool.eq_false_or_eq_true (!(r78.2 == (some 7))) with hb | hb
                        · have h := cond_t hb h
                          refine r_condT hb rfl ?_
                          refine r_seq ?_
                          refine r_reg (l := [(4, .u (.c (.v (.bool false))))]) (cg_then (ds := [4]) 1 rfl (by kernel_rfl) (.nil)) rfl (by kernel_rfl) ?_
                          obtain rfl := Option.some.inj h
                          have h : Option.some _ = Option.some r := h_y73
                          refine r_ret ?_
                          obtain rfl := Option.some.inj h
                          exact ⟨.inr rfl, _, _, .cons (.copy rfl rfl rfl) (.nil), rfl, outs_of trivial⟩
                        · have h := cond_f hb h
                          refine r_condF hb rfl ?_
                          refine r_skip ?_
                          exact ⟨(r78.1, r80), (Option.some.inj h).symm, of_weak (by kernel_rfl)⟩
                      · have h := cond_f hb h
                        have hs88 := hb
                        refine r_reg (l := [(1, .u (.c (.sl false 3 (a1.map eD)))), (5, .u (.c (.v (.bool r1)))), (6, .u (.c (storeC r78.1))), (8, .u (.c (.sl true 1 (r80.map eB)))), (9, .u (.c (.v (.int .i64 v7)))), (191, .u (.c (.v (.bool false))))]) (cg_then (ds := [178]) 1 rfl (by kernel_rfl) (co_then 2 rfl (os_ge (d := 179) (t := .u (.c (.v (.bool r79)))) (t' := .u (.c (.v (.bool false)))) (by kernel_rfl) (by rw [hs86])) (cg_then (ds := [180, 181, 182, 183, 184, 185]) 8 rfl (by kernel_rfl) (co_then 9 rfl (os_ge (d := 186) (t := .u (.c (.v (.bool (!r79))))) (t' := .u (.c (.v (.bool false)))) (by kernel_rfl) (by rw [hs88])) (cg_then (ds := [187, 188, 189, 190, 191]) 14 rfl (by kernel_rfl) (.nil)))))) rfl (by kernel_rfl) ?_
                        refine r_condF rfl rfl ?_
                        refine r_skip ?_
                        exact ⟨(r78.1, r80), (Option.some.inj h).symm, of_weak (by kernel_rfl)⟩
                  · have h := cond_f hb h
                    refine r_condF hb rfl ?_
                    refine r_skip ?_
                    refine r_seq ?_
                    rcases Bool.eq_false_or_eq_true (r79) with hb | hb
                    · have h := cond_t hb h
                      have hs89 := hb
                      rcases Bool.eq_false_or_eq_true (!(r78.2 == none)) with hb | hb
                      · have h := cond_t hb h
                        have hs90 := hb
                        refine r_reg (l := [(1, .u (.c (.sl false 3 (a1.map eD)))), (5, .u (.c (.v (.bool r1)))), (6, .u (.c (storeC r78.1))), (8, .u (.c (.sl true 1 (v6.map eB)))), (9, .u (.c (.v (.int .i64 v7)))), (191, .u (.c (.v (.bool true))))]) (cg_then (ds := [178]) 1 rfl (by kernel_rfl) (co_then 2 rfl (os_ge (d := 179) (t := .u (.c (.v (.bool r79)))) (t' := .u (.c (.v (.bool true)))) (by kernel_rfl) (by rw [hs89])) (cg_then (ds := [180, 181, 182]) 5 rfl (by kernel_rfl) (co_then 6 rfl (os_ge (d := 183) (t := .u (.c (.v (.bool (!(r78.2 == none)))))) (t' := .u (.c (.v (.bool true)))) (by kernel_rfl) (by rw [hs90])) (cg_then (ds := [184, 185, 186, 187, 188, 189, 190, 191]) 14 rfl (by kernel_rfl) (.nil)))))) rfl (by kernel_rfl) ?_
                        refine r_condT rfl rfl ?_
                        refine r_seq ?_
                        refine r_reg (l := [(4, .u (.c (.v (.bool false))))]) (cg_then (ds := [4]) 1 rfl (by kernel_rfl) (.nil)) rfl (by kernel_rfl) ?_
                        obtain rfl := Option.some.inj h
                        have h : Option.some _ = Option.some r := h_y73
                        refine r_ret ?_
                        obtain rfl := Option.some.inj h
                        exact ⟨.inr rfl, _, _, .cons (.copy rfl rfl rfl) (.nil), rfl, outs_of trivial⟩
                      · have h := cond_f hb h
                        have hs91 := hb
                        rcases Bool.eq_false_or_eq_true (!r79) with hb | hb
                        · have h := cond_t hb h
                          have hs92 := hb
                          refine r_reg (l := [(1, .u (.c (.sl false 3 (a1.map eD)))), (5, .u (.c (.v (.bool r1)))), (6, .u (.c (storeC r78.1))), (8, .u (.c (.sl true 1 (v6.map eB)))), (9, .u (.c (.v (.int .i64 v7)))), (191, .u (.c (.v (.bool (!(r78.2 == (some 7)))))))]) (cg_then (ds := [178]) 1 rfl (by kernel_rfl) (co_then 2 rfl (os_ge (d := 179) (t := .u (.c (.v (.bool r79)))) (t' := .u (.c (.v (.bool true)))) (by kernel_rfl) (by rw [hs89])) (cg_then (ds := [180, 181, 182]) 5 rfl (by kernel_rfl) (co_then 6 rfl (os_ge (d := 183) (t := .u (.c (.v (.bool (!(r78.2 == none)))))) (t' := .u (.c (.v (.bool false)))) (by kernel_rfl) (by rw [hs91])) (cg_then (ds := [184, 185]) 8 rfl (by kernel_rfl) (co_then 9 rfl (os_ge (d := 186) (t := .u (.c (.v (.bool (!r79))))) (t' := .u (.c (.v (.bool true)))) (by kernel_rfl) (by rw [hs92])) (cg_then (ds := [187]) 10 rfl (by kernel_rfl) (co_then 11 rfl (os_gy rfl rfl rfl (by kernel_rfl) (s_iface (n := 7) rfl (errB_ok (by kernel_rfl)) rfl (by kernel_rfl) rfl (by kernel_rfl))) (cg_then (ds := [189, 190, 191]) 14 rfl (by kernel_rfl) (.nil)))))))))) rfl (by kernel_rfl) ?_
                          rcases Bool.eq_false_or_eq_true (!(r78.2 == (some 7))) with hb | hb
                          · have h := cond_t hb h
                            refine r_condT hb rfl ?_
                            refine r_seq ?_
                            refine r_reg (l := [(4, .u (.c (.v (.bool false))))]) (cg_then (ds := [4]) 1 rfl (by kernel_rfl) (.nil)) rfl (by kernel_rfl) ?_
                            obtain rfl := Option.some.inj h
                            have h : Option.some _ = Option.some r := h_y73
                            refine r_ret ?_
                            obtain rfl := Option.some.inj h
                            exact ⟨.inr rfl, _, _, .cons (.copy rfl rfl rfl) (.nil), rfl, outs_of trivial⟩
                          · have h := cond_f hb h
                            refine r_condF hb rfl ?_
                            refine r_skip ?_
                            exact ⟨(r78.1, v6), (Option.some.inj h).symm, of_weak (by kernel_rfl)⟩
                        · have h := cond_f hb h
                          have hs93 := hb
                          refine r_reg (l := [(1, .u (.c (.sl false 3 (a1.map eD)))), (5, .u (.c (.v (.bool r1)))), (6, .u (.c (storeC r78.1))), (8, .u (.c (.sl true 1 (v6.map eB)))), (9, .u (.c (.v (.int .i64 v7)))), (191, .u (.c (.v (.bool false))))]) (cg_then (ds := [178]) 1 rfl (by kernel_rfl) (co_then 2 rfl (os_ge (d := 179) (t := .u (.c (.v (.bool r79)))) (t' := .u (.c (.v (.bool true)))) (by kernel_rfl) (by rw [hs89])) (cg_then (ds := [180, 181, 182]) 5 rfl (by kernel_rfl) (co_then 6 rfl (os_ge (d := 183) (t := .u (.c (.v (.bool (!(r78.2 == none)))))) (t' := .u (.c (.v (.bool false)))) (by kernel_rfl) (by rw [hs91])) (cg_then (ds := [184, 185]) 8 rfl (by kernel_rfl) (co_then 9 rfl (os_ge (d := 186) (t := .u (.c (.v (.bool (!r79))))) (t' := .u (.c (.v (.bool false)))) (by kernel_rfl) (by rw [hs93])) (cg_then (ds := [187, 188, 189, 190, 191]) 14 rfl (by kernel_rfl) (.nil)))))))) rfl (by kernel_rfl) ?_
                          refine r_condF rfl rfl ?_
                          refine r_skip ?_
                          exact ⟨(r78.1, v6), (Option.some.inj h).symm, of_weak (by kernel_rfl)⟩
                    · have h := cond_f hb h
                      have hs94 := hb
                      rcases Bool.eq_false_or_eq_true (!r79) with hb | hb
                      · have h := cond_t hb h
                        have hs95 := hb
                        refine r_reg (l := [(1, .u (.c (.sl false 3 (a1.map eD)))), (5, .u (.c (.v (.bool r1)))), (6, .u (.c (storeC r78.1))), (8, .u (.c (.sl true 1 (v6.map eB)))), (9, .u (.c (.v (.int .i64 v7)))), (191, .u (.c (.v (.bool (!(r78.2 == (some 7)))))))]) (cg_then (ds := [178]) 1 rfl (by kernel_rfl) (co_then 2 rfl (os_ge (d := 179) (t := .u (.c (.v (.bool r79)))) (t' := .u (.c (.v (.bool false)))) (by kernel_rfl) (by rw [hs94])) (cg_then (ds := [180, 181, 182, 183, 184, 185]) 8 rfl (by kernel_rfl) (co_then 9 rfl (os_ge (d := 186) (t := .u (.c (.v (.bool (!r79))))) (t' := .u (.c (.v (.bool true)))) (by kernel_rfl) (by rw [hs95])) (cg_then (ds := [187]) 10 rfl (by kernel_rfl) (co_then 11 rfl (os_gy rfl rfl rfl (by kernel_rfl) (s_iface (n := 7) rfl (errB_ok (by kernel_rfl)) rfl (by kernel_rfl) rfl (by kernel_rfl))) (cg_then (ds := [189, 190, 191]) 14 rfl (by kernel_rfl) (.nil)))))))) rfl (by kernel_rfl) ?_
                        rcases Bool.eq_false_or_eq_true (!(r78.2 == (some 7))) with hb | hb
                        · have h := cond_t hb h
                          refine r_condT hb rfl ?_
                          refine r_seq ?_
                          refine r_reg (l := [(4, .u (.c (.v (.bool false))))]) (cg_then (ds := [4]) 1 rfl (by kernel_rfl) (.nil)) rfl (by kernel_rfl) ?_
                          obtain rfl := Option.some.inj h
                          have h : Option.some _ = Option.some r := h_y73
                          refine r_ret ?_
                          obtain rfl := Option.some.inj h
                          exact ⟨.inr rfl, _, _, .cons (.copy rfl rfl rfl) (.nil), rfl, outs_of trivial⟩
                        · have h := cond_f hb h
                          refine r_condF hb rfl ?_
                          refine r_skip ?_
                          exact ⟨(r78.1, v6), (Option.some.inj h).symm, of_weak (by kernel_rfl)⟩
                      · have h := cond_f hb h
                        have hs96 := hb
                        refine r_reg (l := [(1, .u (.c (.sl false 3 (a1.map eD)))), (5, .u (.c (.v (.bool r1)))), (6, .u (.c (storeC r78.1))), (8, .u (.c (.sl true 1 (v6.map eB)))), (9, .u (.c (.v (.int .i64 v7)))), (191, .u (.c (.v (.bool false))))]) (cg_then (ds := [178]) 1 rfl (by kernel_rfl) (co_then 2 rfl (os_ge (d := 179) (t := .u (.c (.v (.bool r79)))) (t' := .u (.c (.v (.bool false)))) (by kernel_rfl) (by rw [hs94])) (cg_then (ds := [180, 181, 182, 183, 184, 185]) 8 rfl (by kernel_rfl) (co_then 9 rfl (os_ge (d := 186) (t := .u (.c (.v (.bool (!r79))))) (t' := .u (.c (.v (.bool false)))) (by kernel_rfl) (by rw [hs96])) (cg_then (ds := [187, 188, 189, 190, 191]) 14 rfl (by kernel_rfl) (.nil)))))) rfl (by kernel_rfl) ?_
                        refine r_condF rfl rfl ?_
                        refine r_skip ?_
                        exact ⟨(r78.1, v6), (Option.some.inj h).symm, of_weak (by kernel_rfl)⟩
              · have h := cond_f hb h
                refine r_condF hb rfl ?_
                refine r_seq ?_
                obtain ⟨r97, hr97, h⟩ := bind_some h
                refine r_reg (l := [(1, .u (.c (.sl false 3 (a1.map eD)))), (5, .u (.c (.v (.bool r1)))), (6, .u (.c (storeC r97.1))), (8, .u (.c (.sl true 1 (v6.map eB)))), (9, .u (.c (.v (.int .i64 v7)))), (10, .u (.c (.pt true [.v (.int .i64 ((a1.getD v7.toNat zD).w)), .v (.int .i64 ((a1.getD v7.toNat zD).f)), .v (.int .i64 ((a1.getD v7.toNat zD).o))]))), (12, .u (.c (.v (.bool r72)))), (18, .u (.c (.err r97.2)))]) (cg_then (ds := [68, 69, 70, 71, 72]) 5 rfl (by kernel_rfl) (co_then 6 rfl (os_plain rfl rfl (c_call (AC.k (Give.ac (h := hr97))) ⟨_, Tryd.func17, rfl, by kernel_rfl⟩ rfl (hand_root (r := 6) (c := storeC v5) (by kernel_rfl) (by kernel_rfl) rfl (.rd (.copy (by kernel_rfl) rfl) (.rd (.copy (by kernel_rfl) rfl) (.nil)))) rfl (by kernel_rfl))) (cg_then (ds := [18]) 7 rfl (by kernel_rfl) (.nil)))) rfl (by kernel_rfl) ?_
                refine r_seq ?_
                refine r_seq ?_
                refine r_reg (l := [(1, .u (.c (.sl false 3 (a1.map eD)))), (5, .u (.c (.v (.bool r1)))), (6, .u (.c (storeC r97.1))), (8, .u (.c (.sl true 1 (v6.map eB)))), (9, .u (.c (.v (.int .i64 v7)))), (10, .u (.c (.pt true [.v (.int .i64 ((a1.getD v7.toNat zD).w)), .v (.int .i64 ((a1.getD v7.toNat zD).f)), .v (.int .i64 ((a1.getD v7.toNat zD).o))]))), (18, .u (.c (.err r97.2))), (75, .u (.c (.v (.bool (!r72)))))]) (cg_then (ds := [74, 75]) 2 rfl (by kernel_rfl) (.nil)) rfl (by kernel_rfl) ?_
                rcases Bool.eq_false_or_eq_true (!r72) with hb | hb
                · have h := cond_t hb h
                  refine r_condT hb rfl ?_
                  refine r_seq ?_
                  refine r_seq ?_
                  refine r_reg (l := [(1, .u (.c (.sl false 3 (a1.map eD)))), (5, .u (.c (.v (.bool r1)))), (6, .u (.c (storeC r97.1))), (8, .u (.c (.sl true 1 (v6.map eB)))), (9, .u (.c (.v (.int .i64 v7)))), (78, .u (.c (.v (.bool (!(r97.2 == (some 1)))))))]) (cg_then (ds := [76]) 1 rfl (by kernel_rfl) (co_then 2 rfl (os_plain rfl rfl (s_iface (n := 1) rfl (errB_ok (by kernel_rfl)) rfl (by kernel_rfl) rfl (by kernel_rfl))) (cg_then (ds := [78]) 3 rfl (by kernel_rfl) (.nil)))) rfl (by kernel_rfl) ?_
                  rcases Bool.eq_false_or_eq_true (!(r97.2 == (some 1))) with hb | hb
                  · have h := cond_t hb h
                    refine r_condT hb rfl ?_
                    refine r_seq ?_
                    refine r_reg (l := [(4, .u (.c (.v (.bool false))))]) (cg_then (ds := [4]) 1 rfl (by kernel_rfl) (.nil)) rfl (by kernel_rfl) ?_
                    obtain rfl := Option.some.inj h
                    have h : Option.some _ = Option.some r := h_y73
                    refine r_ret ?_
                    obtain rfl := Option.some.inj h
                    exact ⟨.inr rfl, _, _, .cons (.copy rfl rfl rfl) (.nil), rfl, outs_of trivial⟩
                  · have h := cond_f hb h
                    refine r_condF hb rfl ?_
                    refine r_skip ?_
                    refine r_exit ?_
                    exact ⟨(r97.1, v6), (Option.some.inj h).symm, of_weak (by kernel_rfl)⟩
                · have h := cond_f hb h
                  refine r_condF hb rfl ?_
                  refine r_skip ?_
                  refine r_seq ?_
                  obtain ⟨r98, hr98, h⟩ := bind_some h
                  refine r_reg (l := [(1, .u (.c (.sl false 3 (a1.map eD)))), (5, .u (.c (.v (.bool r1)))), (6, .u (.c (storeC r97.1))), (8, .u (.c (.sl true 1 (v6.map eB)))), (9, .u (.c (.v (.int .i64 v7)))), (10, .u (.c (.pt true [.v (.int .i64 ((a1.getD v7.toNat zD).w)), .v (.int .i64 ((a1.getD v7.toNat zD).f)), .v (.int .i64 ((a1.getD v7.toNat zD).o))]))), (18, .u (.c (.err r97.2))), (19, .u (.c (.v (.bool r98))))]) (cg_then (ds := [79, 80, 81, 82, 83]) 5 rfl (by kernel_rfl) (co_then 6 rfl (os_plain rfl rfl (c_callQL (res := [.c (.v (.bool r98))]) (AC.k (RAll.ac (h := hr98))) ⟨_, Tryd.func23, rfl, by kernel_rfl⟩ rfl (.cons (.view (.v0 (r := 8) (lo := 0) (n := (v6.map eB).length) (own := true) (rows := v6.map eB) (by kernel_rfl) (by kernel_rfl) rows_all) (copy_map eB_copy)) (.cons (.copy (.copy (by kernel_rfl) rfl)) (.cons (.copy (.copy (by kernel_rfl) rfl)) (.cons (.copy (.copy (by kernel_rfl) rfl)) (.nil))))) (⟨trivial, trivial⟩) (by kernel_rfl))) (cg_then (ds := [19]) 7 rfl (by kernel_rfl) (.nil)))) rfl (by kernel_rfl) ?_
                  refine r_seq ?_
                  refine r_seq ?_
                  refine r_reg (l := [(1, .u (.c (.sl false 3 (a1.map eD)))), (5, .u (.c (.v (.bool r1)))), (6, .u (.c (storeC r97.1))), (8, .u (.c (.sl true 1 (v6.map eB)))), (9, .u (.c (.v (.int .i64 v7)))), (10, .u (.c (.pt true [.v (.int .i64 ((a1.getD v7.toNat zD).w)), .v (.int .i64 ((a1.getD v7.toNat zD).f)), .v (.int .i64 ((a1.getD v7.toNat zD).o))]))), (18, .u (.c (.err r97.2))), (19, .u (.c (.v (.bool r98)))), (85, .u (.c (.v (.bool r98))))]) (cg_then (ds := [85]) 1 rfl (by kernel_rfl) (.nil)) rfl (by kernel_rfl) ?_
                  rcases Bool.eq_false_or_eq_true (r98) with hb | hb
                  · have h := cond_t hb h
                    refine r_condT hb rfl ?_
                    obtain ⟨r99, hr99, h⟩ := bind_some h
                    refine r_reg (l := [(1, .u (.c (.sl false 3 (a1.map eD)))), (5, .u (.c (.v (.bool r1)))), (6, .u (.c (storeC r97.1))), (8, .u (.c (.sl true 1 (r99.map eB)))), (9, .u (.c (.v (.int .i64 v7)))), (18, .u (.c (.err r97.2))), (19, .u (.c (.v (.bool r98))))]) (cg_then (ds := [86, 87, 88, 89, 90]) 5 rfl (by kernel_rfl) (co_then 6 rfl (os_plain rfl rfl (c_call (AC.k (RSet.ac (h := hr99))) ⟨_, Tryd.func24, rfl, by kernel_rfl⟩ rfl (hand_sl (sz := 1) (n := (v6.map eB).length) (r := 8) (c := .sl true 1 (v6.map eB)) (by kernel_rfl) (by kernel_rfl) rfl (.rd (.copy (by kernel_rfl) rfl) (.rd (.copy (by kernel_rfl) rfl) (.rd (.copy (by kernel_rfl) rfl) (.nil))))) rfl (by kernel_rfl))) (.nil))) rfl (by kernel_rfl) ?_
                    refine r_seq ?_
                    rcases Bool.eq_false_or_eq_true (r98) with hb | hb
                    · have h := cond_t hb h
                      have hs100 := hb
                      rcases Bool.eq_false_or_eq_true (!(r97.2 == none)) with hb | hb
                      · have h := cond_t hb h
                        have hs101 := hb
                        refine r_reg (l := [(1, .u (.c (.sl false 3 (a1.map eD)))), (5, .u (.c (.v (.bool r1)))), (6, .u (.c (storeC r97.1))), (8, .u (.c (.sl true 1 (r99.map eB)))), (9, .u (.c (.v (.int .i64 v7)))), (105, .u (.c (.v (.bool true))))]) (cg_then (ds := [92]) 1 rfl (by kernel_rfl) (co_then 2 rfl (os_ge (d := 93) (t := .u (.c (.v (.bool r98)))) (t' := .u (.c (.v (.bool true)))) (by kernel_rfl) (by rw [hs100])) (cg_then (ds := [94, 95, 96]) 5 rfl (by kernel_rfl) (co_then 6 rfl (os_ge (d := 97) (t := .u (.c (.v (.bool (!(r97.2 == none)))))) (t' := .u (.c (.v (.bool true)))) (by kernel_rfl) (by rw [hs101])) (cg_then (ds := [98, 99, 100, 101, 102, 103, 104, 105]) 14 rfl (by kernel_rfl) (.nil)))))) rfl (by kernel_rfl) ?_
                        refine r_condT rfl rfl ?_
                        refine r_seq ?_
                        refine r_reg (l := [(4, .u (.c (.v (.bool false))))]) (cg_then (ds := [4]) 1 rfl (by kernel_rfl) (.nil)) rfl (by kernel_rfl) ?_
                        obtain rfl := Option.some.inj h
                        have h : Option.some _ = Option.some r := h_y73
                        refine r_ret ?_
                        obtain rfl := Option.some.inj h
                        exact ⟨.inr rfl, _, _, .cons (.copy rfl rfl rfl) (.nil), rfl, outs_of trivial⟩
                      · have h := cond_f hb h
                        have hs102 := hb
                        rcases Bool.eq_false_or_eq_true (!r98) with hb | hb
                        · have h := cond_t hb h
                          have hs103 := hb
                          refine r_reg (l := [(1, .u (.c (.sl false 3 (a1.map eD)))), (5, .u (.c (.v (.bool r1)))), (6, .u (.c (storeC r97.1))), (8, .u (.c (.sl true 1 (r99.map eB)))), (9, .u (.c (.v (.int .i64 v7)))), (105, .u (.c (.v (.bool (!(r97.2 == (some 7)))))))]) (cg_then (ds := [92]) 1 rfl (by kernel_rfl) (co_then 2 rfl (os_ge (d := 93) (t := .u (.c (.v (.bool r98)))) (t' := .u (.c (.v (.bool true)))) (by kernel_rfl) (by rw [hs100])) (cg_then (ds := [94, 95, 96]) 5 rfl (by kernel_rfl) (co_then 6 rfl (os_ge (d := 97) (t := .u (.c (.v (.bool (!(r97.2 == none)))))) (t' := .u (.c (.v (.bool false)))) (by kernel_rfl) (by rw [hs102])) (cg_then (ds := [98, 99]) 8 rfl (by kernel_rfl) (co_then 9 rfl (os_ge (d := 100) (t := .u (.c (.v (.bool (!r98))))) (t' := .u (.c (.v (.bool true)))) (by kernel_rfl) (by rw [hs103])) (cg_then (ds := [101]) 10 rfl (by kernel_rfl) (co_then 11 rfl (os_gy rfl rfl rfl (by kernel_rfl) (s_iface (n := 7) rfl (errB_ok (by kernel_rfl)) rfl (by kernel_rfl) rfl (by kernel_rfl))) (cg_then (ds := [103, 104, 105]) 14 rfl (by kernel_rfl) (.nil)))))))))) rfl (by kernel_rfl) ?_
                          rcases Bool.eq_false_or_eq_true (!(r97.2 == (some 7))) with hb | hb
                          · have h := cond_t hb h
                            refine r_condT hb rfl ?_
                            refine r_seq ?_
                            refine r_reg (l := [(4, .u (.c (.v (.bool false))))]) (cg_then (ds := [4]) 1 rfl (by kernel_rfl) (.nil)) rfl (by kernel_rfl) ?_
                            obtain rfl := Option.some.inj h
                            have h : Option.some _ = Option.some r := h_y73
                            refine r_ret ?_
                            obtain rfl := Option.some.inj h
                            exact ⟨.inr rfl, _, _, .cons (.copy rfl rfl rfl) (.nil), rfl, outs_of trivial⟩
                          · have h := cond_f hb h
                            refine r_condF hb rfl ?_
                            refine r_skip ?_
                            exact ⟨(r97.1, r99), (Option.some.inj h).symm, of_weak (by kernel_rfl)⟩
                        · have h := cond_f hb h
                          have hs104 := hb
                          refine r_reg (l := [(1, .u (.c (.sl false 3 (a1.map eD)))), (5, .u (.c (.v (.bool r1)))), (6, .u (.c (storeC r97.1))), (8, .u (.c (.sl true 1 (r99.map eB)))), (9, .u (.c (.v (.int .i64 v7)))), (105, .u (.c (.v (.bool false))))]) (cg_then (ds := [92]) 1 rfl (by kernel_rfl) (co_then 2 rfl (os_ge (d := 93) (t := .u (.c (.v (.bool r98)))) (t' := .u (.c (.v (.bool true)))) (by kernel_rfl) (by rw [hs100])) (cg_then (ds := [94, 95, 96]) 5 rfl (by kernel_rfl) (co_then 6 rfl (os_ge (d := 97) (t := .u (.c (.v (.bool (!(r97.2 == none)))))) (t' := .u (.c (.v (.bool false)))) (by kernel_rfl) (by rw [hs102])) (cg_then (ds := [98, 99]) 8 rfl (by kernel_rfl) (co_then 9 rfl (os_ge (d := 100) (t := .u (.c (.v (.bool (!r98))))) (t' := .u (.c (.v (.bool false)))) (by kernel_rfl) (by rw [hs104])) (cg_then (ds := [101, 102, 103, 104, 105]) 14 rfl (by kernel_rfl) (.nil)))))))) rfl (by kernel_rfl) ?_
                          refine r_condF rfl rfl ?_
                          refine r_skip ?_
                          exact ⟨(r97.1, r99), (Option.some.inj h).symm, of_weak (by kernel_rfl)⟩
                    · have h := cond_f hb h
                      have hs105 := hb
                      rcases Bool.eq_false_or_eq_true (!r98) with hb | hb
                      · have h := cond_t hb h
                        have hs106 := hb
                        refine r_reg (l := [(1, .u (.c (.sl false 3 (a1.map eD)))), (5, .u (.c (.v (.bool r1)))), (6, .u (.c (storeC r97.1))), (8, .u (.c (.sl true 1 (r99.map eB)))), (9, .u (.c (.v (.int .i64 v7)))), (105, .u (.c (.v (.bool (!(r97.2 == (some 7)))))))]) (cg_then (ds := [92]) 1 rfl (by kernel_rfl) (co_then 2 rfl (os_ge (d := 93) (t := .u (.c (.v (.bool r98)))) (t' := .u (.c (.v (.bool false)))) (by kernel_rfl) (by rw [hs105])) (cg_then (ds := [94, 95, 96, 97, 98, 99]) 8 rfl (by kernel_rfl) (co_then 9 rfl (os_ge (d := 100) (t := .u (.c (.v (.bool (!r98))))) (t' := .u (.c (.v (.bool true)))) (by kernel_rfl) (by rw [hs106])) (cg_then (ds := [101]) 10 rfl (by kernel_rfl) (co_then 11 rfl (os_gy rfl rfl rfl (by kernel_rfl) (s_iface (n := 7) rfl (errB_ok (by kernel_rfl)) rfl (by kernel_rfl) rfl (by kernel_rfl))) (cg_then (ds := [103, 104, 105]) 14 rfl (by kernel_rfl) (.nil)))))))) rfl (by kernel_rfl) ?_
                        rcases Bool.eq_false_or_eq_true (!(r97.2 == (some 7))) with hb | hb
                        · have h := cond_t hb h
                          refine r_condT hb rfl ?_
                          refine r_seq ?_
                          refine r_reg (l := [(4, .u (.c (.v (.bool false))))]) (cg_then (ds := [4]) 1 rfl (by kernel_rfl) (.nil)) rfl (by kernel_rfl) ?_
                          obtain rfl := Option.some.inj h
                          have h : Option.some _ = Option.some r := h_y73
                          refine r_ret ?_
                          obtain rfl := Option.some.inj h
                          exact ⟨.inr rfl, _, _, .cons (.copy rfl rfl rfl) (.nil), rfl, outs_of trivial⟩
                        · have h := cond_f hb h
                          refine r_condF hb rfl ?_
                          refine r_skip ?_
                          exact ⟨(r97.1, r99), (Option.some.inj h).symm, of_weak (by kernel_rfl)⟩
                      · have h := cond_f hb h
                        have hs107 := hb
                        refine r_reg (l := [(1, .u (.c (.sl false 3 (a1.map eD)))), (5, .u (.c (.v (.bool r1)))), (6, .u (.c (storeC r97.1))), (8, .u (.c (.sl true 1 (r99.map eB)))), (9, .u (.c (.v (.int .i64 v7)))), (105, .u (.c (.v (.bool false))))]) (cg_then (ds := [92]) 1 rfl (by kernel_rfl) (co_then 2 rfl (os_ge (d := 93) (t := .u (.c (.v (.bool r98)))) (t' := .u (.c (.v (.bool false)))) (by kernel_rfl) (by rw [hs105])) (cg_then (ds := [94, 95, 96, 97, 98, 99]) 8 rfl (by kernel_rfl) (co_then 9 rfl (os_ge (d := 100) (t := .u (.c (.v (.bool (!r98))))) (t' := .u (.c (.v (.bool false)))) (by kernel_rfl) (by rw [hs107])) (cg_then (ds := [101, 102, 103, 104, 105]) 14 rfl (by kernel_rfl) (.nil)))))) rfl (by kernel_rfl) ?_
                        refine r_condF rfl rfl ?_
                        refine r_skip ?_
                        exact ⟨(r97.1, r99), (Option.some.inj h).symm, of_weak (by kernel_rfl)⟩
                  · have h := cond_f hb h
                    refine r_condF hb rfl ?_
                    refine r_skip ?_
                    refine r_seq ?_
                    rcases Bool.eq_false_or_eq_true (r98) with hb | hb
                    · have h := cond_t hb h
                      have hs108 := hb
                      rcases Bool.eq_false_or_eq_true (!(r97.2 == none)) with hb | hb
                      · have h := cond_t hb h
                        have hs109 := hb
                        refine r_reg (l := [(1, .u (.c (.sl false 3 (a1.map eD)))), (5, .u (.c (.v (.bool r1)))), (6, .u (.c (storeC r97.1))), (8, .u (.c (.sl true 1 (v6.map eB)))), (9, .u (.c (.v (.int .i64 v7)))), (105, .u (.c (.v (.bool true))))]) (cg_then (ds := [92]) 1 rfl (by kernel_rfl) (co_then 2 rfl (os_ge (d := 93) (t := .u (.c (.v (.bool r98)))) (t' := .u (.c (.v (.bool true)))) (by kernel_rfl) (by rw [hs108])) (cg_then (ds := [94, 95, 96]) 5 rfl (by kernel_rfl) (co_then 6 rfl (os_ge (d := 97) (t := .u (.c (.v (.bool (!(r97.2 == none)))))) (t' := .u (.c (.v (.bool true)))) (by kernel_rfl) (by rw [hs109])) (cg_then (ds := [98, 99, 100, 101, 102, 103, 104, 105]) 14 rfl (by kernel_rfl) (.nil)))))) rfl (by kernel_rfl) ?_
                        refine r_condT rfl rfl ?_
                        refine r_seq ?_
                        refine r_reg (l := [(4, .u (.c (.v (.bool false))))]) (cg_then (ds := [4]) 1 rfl (by kernel_rfl) (.nil)) rfl (by kernel_rfl) ?_
                        obtain rfl := Option.some.inj h
                        have h : Option.some _ = Option.some r := h_y73
                        refine r_ret ?_
                        obtain rfl := Option.some.inj h
                        exact ⟨.inr rfl, _, _, .cons (.copy rfl rfl rfl) (.nil), rfl, outs_of trivial⟩
                      · have h := cond_f hb h
                        have hs110 := hb
                        rcases Bool.eq_false_or_eq_true (!r98) with hb | hb
                        · have h := cond_t hb h
                          have hs111 := hb
                          refine r_reg (l := [(1, .u (.c (.sl false 3 (a1.map eD)))), (5, .u (.c (.v (.bool r1)))), (6, .u (.c (storeC r97.1))), (8, .u (.c (.sl true 1 (v6.map eB)))), (9, .u (.c (.v (.int .i64 v7)))), (105, .u (.c (.v (.bool (!(r97.2 == (some 7)))))))]) (cg_then (ds := [92]) 1 rfl (by kernel_rfl) (co_then 2 rfl (os_ge (d := 93) (t := .u (.c (.v (.bool r98)))) (t' := .u (.c (.v (.bool true)))) (by kernel_rfl) (by rw [hs108])) (cg_then (ds := [94, 95, 96]) 5 rfl (by kernel_rfl) (co_then 6 rfl (os_ge (d := 97) (t := .u (.c (.v (.bool (!(r97.2 == none)))))) (t' := .u (.c (.v (.bool false)))) (by kernel_rfl) (by rw [hs110])) (cg_then (ds := [98, 99]) 8 rfl (by kernel_rfl) (co_then 9 rfl (os_ge (d := 100) (t := .u (.c (.v (.bool (!r98))))) (t' := .u (.c (.v (.bool true)))) (by kernel_rfl) (by rw [hs111])) (cg_then (ds := [101]) 10 rfl (by kernel_rfl) (co_then 11 rfl (os_gy rfl rfl rfl (by kernel_rfl) (s_iface (n := 7) rfl (errB_ok (by kernel_rfl)) rfl (by kernel_rfl) rfl (by kernel_rfl))) (cg_then (ds := [103, 104, 105]) 14 rfl (by kernel_rfl) (.nil)))))))))) rfl (by kernel_rfl) ?_
                          rcases Bool.eq_false_or_eq_true (!(r97.2 == (some 7))) with hb | hb
                          · have h := cond_t hb h
                            refine r_condT hb rfl ?_
                            refine r_seq ?_
                            refine r_reg (l := [(4, .u (.c (.v (.bool false))))]) (cg_then (ds := [4]) 1 rfl (by kernel_rfl) (.nil)) rfl (by kernel_rfl) ?_
                            obtain rfl := Option.some.inj h
                            have h : Option.some _ = Option.some r := h_y73
                            refine r_ret ?_
                            obtain rfl := Option.some.inj h
                            exact ⟨.inr rfl, _, _, .cons (.copy rfl rfl rfl) (.nil), rfl, outs_of trivial⟩
                          · have h := cond_f hb h
                            refine r_condF hb rfl ?_
                            refine r_skip ?_
                            exact ⟨(r97.1, v6), (Option.some.inj h).symm, of_weak (by kernel_rfl)⟩
                        · have h := cond_f hb h
                          have hs112 := hb
                          refine r_reg (l := [(1, .u (.c (.sl false 3 (a1.map eD)))), (5, .u (.c (.v (.bool r1)))), (6, .u (.c (storeC r97.1))), (8, .u (.c (.sl true 1 (v6.map eB)))), (9, .u (.c (.v (.int .i64 v7)))), (105, .u (.c (.v (.bool false))))]) (cg_then (ds := [92]) 1 rfl (by kernel_rfl) (co_then 2 rfl (os_ge (d := 93) (t := .u (.c (.v (.bool r98)))) (t' := .u (.c (.v (.bool true)))) (by kernel_rfl) (by rw [hs108])) (cg_then (ds := [94, 95, 96]) 5 rfl (by kernel_rfl) (co_then 6 rfl (os_ge (d := 97) (t := .u (.c (.v (.bool (!(r97.2 == none)))))) (t' := .u (.c (.v (.bool false)))) (by kernel_rfl) (by rw [hs110])) (cg_then (ds := [98, 99]) 8 rfl (by kernel_rfl) (co_then 9 rfl (os_ge (d := 100) (t := .u (.c (.v (.bool (!r98))))) (t' := .u (.c (.v (.bool false)))) (by kernel_rfl) (by rw [hs112])) (cg_then (ds := [101, 102, 103, 104, 105]) 14 rfl (by kernel_rfl) (.nil)))))))) rfl (by kernel_rfl) ?_
                          refine r_condF rfl rfl ?_
                          refine r_skip ?_
                          exact ⟨(r97.1, v6), (Option.some.inj h).symm, of_weak (by kernel_rfl)⟩
                    · have h := cond_f hb h
                      have hs113 := hb
                      rcases Bool.eq_false_or_eq_true (!r98) with hb | hb
                      · have h := cond_t hb h
                        have hs114 := hb
                        refine r_reg (l := [(1, .u (.c (.sl false 3 (a1.map eD)))), (5, .u (.c (.v (.bool r1)))), (6, .u (.c (storeC r97.1))), (8, .u (.c (.sl true 1 (v6.map eB)))), (9, .u (.c (.v (.int .i64 v7)))), (105, .u (.c (.v (.bool (!(r97.2 == (some 7)))))))]) (cg_then (ds := [92]) 1 rfl (by kernel_rfl) (co_then 2 rfl (os_ge (d := 93) (t := .u (.c (.v (.bool r98)))) (t' := .u (.c (.v (.bool false)))) (by kernel_rfl) (by rw [hs113])) (cg_then (ds := [94, 95, 96, 97, 98, 99]) 8 rfl (by kernel_rfl) (co_then 9 rfl (os_ge (d := 100) (t := .u (.c (.v (.bool (!r98))))) (t' := .u (.c (.v (.bool true)))) (by kernel_rfl) (by rw [hs114])) (cg_then (ds := [101]) 10 rfl (by kernel_rfl) (co_then 11 rfl (os_gy rfl rfl rfl (by kernel_rfl) (s_iface (n := 7) rfl (errB_ok (by kernel_rfl)) rfl (by kernel_rfl) rfl (by kernel_rfl))) (cg_then (ds := [103, 104, 105]) 14 rfl (by kernel_rfl) (.nil)))))))) rfl (by kernel_rfl) ?_
                        rcases Bool.eq_false_or_eq_true (!(r97.2 == (some 7))) with hb | hb
                        · have h := cond_t hb h
                          refine r_condT hb rfl ?_
                          refine r_seq ?_
                          refine r_reg (l := [(4, .u (.c (.v (.bool false))))]) (cg_then (ds := [4]) 1 rfl (by kernel_rfl) (.nil)) rfl (by kernel_rfl) ?_
                          obtain rfl := Option.some.inj h
                          have h : Option.some _ = Option.some r := h_y73
                          refine r_ret ?_
                          obtain rfl := Option.some.inj h
                          exact ⟨.inr rfl, _, _, .cons (.copy rfl rfl rfl) (.nil), rfl, outs_of trivial⟩
                        · have h := cond_f hb h
                          refine r_condF hb rfl ?_
                          refine r_skip ?_
                          exact ⟨(r97.1, v6), (Option.some.inj h).symm, of_weak (by kernel_rfl)⟩
                      · have h := cond_f hb h
                        have hs115 := hb
                        refine r_reg (l := [(1, .u (.c (.sl false 3 (a1.map eD)))), (5, .u (.c (.v (.bool r1)))), (6, .u (.c (storeC r97.1))), (8, .u (.c (.sl true 1 (v6.map eB)))), (9, .u (.c (.v (.int .i64 v7)))), (105, .u (.c (.v (.bool false))))]) (cg_then (ds := [92]) 1 rfl (by kernel_rfl) (co_then 2 rfl (os_ge (d := 93) (t := .u (.c (.v (.bool r98)))) (t' := .u (.c (.v (.bool false)))) (by kernel_rfl) (by rw [hs113])) (cg_then (ds := [94, 95, 96, 97, 98, 99]) 8 rfl (by kernel_rfl) (co_then 9 rfl (os_ge (d := 100) (t := .u (.c (.v (.bool (!r98))))) (t' := .u (.c (.v (.bool false)))) (by kernel_rfl) (by rw [hs115])) (cg_then (ds := [101, 102, 103, 104, 105]) 14 rfl (by kernel_rfl) (.nil)))))) rfl (by kernel_rfl) ?_
                        refine r_condF rfl rfl ?_
                        refine r_skip ?_
                        exact ⟨(r97.1, v6), (Option.some.inj h).symm, of_weak (by kernel_rfl)⟩
          · rintro y73v rfl
            replace h := h_y73
            replace h := elim_go h
            try dsimp only at h
            refine r_seq ?_
            obtain ⟨r116, hr116, h⟩ := bind_some h
            refine r_reg (l := [(1, .u (.c (.sl false 3 (a1.map eD)))), (5, .u (.c (.v (.bool r1)))), (6, .u (.c (storeC r116.1))), (8, .u (.c (.sl true 1 (y73v.2.map eB)))), (9, .u (.c (.v (.int .i64 v7)))), (195, .u (.c (.v (.bool (!r116.2)))))]) (cg_then (ds := [192, 193]) 2 rfl (by kernel_rfl) (co_then 3 rfl (os_plain rfl rfl (c_callL (res := [.c (.v (.bool r116.2))]) (outs := [some (.c (storeC r116.1)), none]) (AC.k (same.ac (h := hr116))) ⟨_, Tryd.func15, rfl, by kernel_rfl⟩ rfl (hand_root (r := 6) (c := storeC y73v.1) (by kernel_rfl) (by kernel_rfl) rfl (.rd (.view (.v0 (r := 8) (lo := 0) (n := (y73v.2.map eB).length) (own := true) (rows := y73v.2.map eB) (by kernel_rfl) (by kernel_rfl) rows_all) (copy_map eB_copy)) (.nil))) rfl (⟨⟨rfl, ⟨trivial, ⟨rfl, mine_map (fun _ => rfl)⟩, trivial⟩⟩, trivial⟩) (⟨trivial, trivial⟩) (by kernel_rfl))) (cg_then (ds := [195]) 4 rfl (by kernel_rfl) (.nil)))) rfl (by kernel_rfl) ?_
            rcases Bool.eq_false_or_eq_true (!r116.2) with hb | hb
            · have h := cond_t hb h
              refine r_condT hb rfl ?_
              refine r_seq ?_
              refine r_reg (l := [(4, .u (.c (.v (.bool false))))]) (cg_then (ds := [4]) 1 rfl (by kernel_rfl) (.nil)) rfl (by kernel_rfl) ?_
              refine r_ret ?_
              obtain rfl := Option.some.inj h
              exact ⟨.inr rfl, _, _, .cons (.copy rfl rfl rfl) (.nil), rfl, outs_of trivial⟩
            · have h := cond_f hb h
              refine r_condF hb rfl ?_
              refine r_skip ?_
              refine r_reg (l := [(1, .u (.c (.sl false 3 (a1.map eD)))), (5, .u (.c (.v (.bool r1)))), (6, .u (.c (storeC r116.1))), (8, .u (.c (.sl true 1 (y73v.2.map eB)))), (9, .u (.c (.v (.int .i64 (IntKind.i64.wrap (v7 + 1))))))]) (cg_then (ds := [45, 46, 9]) 3 rfl (by kernel_rfl) (.nil)) rfl (by kernel_rfl) ?_
              exact ⟨(r116.1, y73v.2, IntKind.i64.wrap (v7 + 1)), h, of_weak (by kernel_rfl)⟩
      · have h := cond_f hb h
        refine r_condF hb rfl ?_
        refine r_exit ?_
        refine r_seq ?_
        refine r_reg (l := [(4, .u (.c (.v (.bool r1))))]) (cg_then (ds := [196, 4]) 2 rfl (by kernel_rfl) (.nil)) rfl (by kernel_rfl) ?_
        refine r_ret ?_
        obtain rfl := Option.some.inj h
        exact ⟨.inr rfl, _, _, .cons (.copy rfl rfl rfl) (.nil), rfl, outs_of trivial⟩
    · have h := cond_f hb h
      have hs117 := hb
      refine r_reg (l := [(1, .u (.c (.sl false 3 (a1.map eD)))), (5, .u (.c (.v (.bool r1)))), (6, .u (.c (storeC v5))), (8, .u (.c (.sl true 1 (v6.map eB)))), (9, .u (.c (.v (.int .i64 v7)))), (44, .u (.c (.v (.bool false))))]) (cg_then (ds := [37, 38]) 2 rfl (by kernel_rfl) (co_then 3 rfl (os_to (os_plain rfl rfl (s_lenU (own := false) (sz := 3) (rows := (a1.map eD)) rfl sl44 (by kernel_rfl) rfl (by kernel_rfl))) (t' := .u (.c (.v (.int .i64 (a1.length : Int))))) (by rw [List.length_map])) (cg_then (ds := [40]) 4 rfl (by kernel_rfl) (co_then 5 rfl (os_ge (d := 41) (t := .u (.c (.v (.bool (decide (v7 < (a1.length : Int))))))) (t' := .u (.c (.v (.bool false)))) (by kernel_rfl) (by rw [hs117])) (cg_then (ds := [42, 43, 44]) 8 rfl (by kernel_rfl) (.nil)))))) rfl (by kernel_rfl) ?_
      refine r_condF rfl rfl ?_
      refine r_exit ?_
      refine r_seq ?_
      refine r_reg (l := [(4, .u (.c (.v (.bool r1))))]) (cg_then (ds := [196, 4]) 2 rfl (by kernel_rfl) (.nil)) rfl (by kernel_rfl) ?_
      refine r_ret ?_
      obtain rfl := Option.some.inj h
      exact ⟨.inr rfl, _, _, .cons (.copy rfl rfl rfl) (.nil), rfl, outs_of trivial⟩
end Go.Proofs.YtehbhpkmlmeblaaDoor.V
