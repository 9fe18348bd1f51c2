import Derived.Test.YtehbhpkmlmeblaaDoorB1
namespace Go.Proofs.YtehbhpkmlmeblaaDoor.V
open Go Go.RowKit Go.Proofs Go.Proofs.YtehbhpkmlmeblaaDoor.Q Go.Proofs.YtehbhpkmlmeblaaDoorW.PrintWords
set_option linter.unusedVariables false
set_option linter.unusedSimpArgs false
set_option maxRecDepth 100000
abbrev eB (b : Bool) : List C := [.v (.bool b)]
theorem eB_copy (x : Bool) : (eB x).all copyC = true := rfl
structure D3 where
  w : Int
  f : Int
  o : Int
abbrev zD : D3 := ⟨0, 0, 0⟩
theorem sliceZ41 : SliceZ Tryd.prog 41 1 1 [.v (.bool false)] := slZ_ok (vs := [(.bool false)]) (by kernel_rfl) (by kernel_rfl) rfl (fun _ _ _ => .cons (F := []) (.v rfl) (.nil))
theorem sl41 : SliceT Tryd.prog 41 1 1 := slB_ok (by kernel_rfl)
def RNew.l1 (k : Nat) (a0 : Int) : Nat → (List Bool) → Int → Option ((List Bool))
  | 0, _, _ => none
  | n1 + 1, v1, v2 => (bif decide (v2 < a0) then (bif decide (v1.length + [true].length ≤ 1000000) then RNew.l1 k a0 n1 (v1 ++ [true]) (IntKind.i64.wrap (v2 + 1)) else none) else some v1)
set_option maxHeartbeats 4000000 in
def RNew.f (k : Nat) (a0 : Int) : Option ((List Bool)) :=
  RNew.l1 k a0 k [] 0
set_option maxHeartbeats 4000000 in
theorem RNew.ac (k : Nat) (a0 : Int) (r : (List Bool)) (h : RNew.f k a0 = some r) : AC Tryd.prog 38 16 [.c (.v (.int .i64 a0))] [none] [.c (.sl true 1 (r.map eB))] := by
  unfold RNew.f at h
  refine ac_intro (fn := Tryd.f16) (pins := []) (rts := [2]) Tryd.func16 rfl Tryd.ntmps16 rfl (Nat.le_of_ble_eq_true rfl) (pins_lt rfl) rfl (fun w R E vs => ?_)
  refine r_weak (of_weak (l := [(0, .u (.c (.v (.int .i64 a0))))]) (by kernel_rfl)) ?_
  refine r_seq ?_
  refine r_reg (l := [(0, .u (.c (.v (.int .i64 a0))))]) (co_then 1 rfl (os_plain rfl rfl (s_take (.inr rfl) (.sl 1) rfl (by kernel_rfl))) (.nil)) rfl (by kernel_rfl) ?_
  refine r_seq ?_
  refine r_reg (l := [(0, .u (.c (.v (.int .i64 a0)))), (3, .u (.c (.sl true 1 ([].map eB))))]) (co_then 1 rfl (os_plain rfl rfl (s_take (.inr rfl) (.sl 1) rfl (by kernel_rfl))) (.nil)) rfl (by kernel_rfl) ?_
  refine r_seq ?_
  refine r_seq ?_
  refine r_reg (l := [(0, .u (.c (.v (.int .i64 a0)))), (3, .u (.c (.sl true 1 ([].map eB)))), (4, .u (.c (.v (.int .i64 0))))]) (cg_then (ds := [4]) 1 rfl (by kernel_rfl) (.nil)) rfl (by kernel_rfl) ?_
  refine r_block ?_
  refine r_weak (of_weak (l := [(0, .u (.c (.v (.int .i64 a0)))), (3, .u (.c (.sl true 1 ([].map eB)))), (4, .u (.c (.v (.int .i64 0))))]) (by kernel_rfl)) ?_
  refine r_loopI (α := (List Bool) × Int) (fun x => [(0, .u (.c (.v (.int .i64 a0)))), (3, .u (.c (.sl true 1 (x.1.map eB)))), (4, .u (.c (.v (.int .i64 x.2))))]) (fun n x => RNew.l1 k a0 n x.1 x.2 = some r) k ([], 0) h (by intro x h; unfold RNew.l1 at h; cases h) ?_
  rintro n1 ⟨v1, v2⟩ h
  replace h : RNew.l1 k a0 (n1 + 1) v1 v2 = some r := h
  unfold RNew.l1 at h
  show Run _ _ _ (St.of [(0, .u (.c (.v (.int .i64 a0)))), (3, .u (.c (.sl true 1 (v1.map eB)))), (4, .u (.c (.v (.int .i64 v2))))]) _
  refine r_seq ?_
  refine r_seq ?_
  refine r_reg (l := [(0, .u (.c (.v (.int .i64 a0)))), (3, .u (.c (.sl true 1 (v1.map eB)))), (4, .u (.c (.v (.int .i64 v2)))), (7, .u (.c (.v (.bool (decide (v2 < a0))))))]) (cg_then (ds := [5, 6, 7]) 3 rfl (by kernel_rfl) (.nil)) rfl (by kernel_rfl) ?_
  rcases Bool.eq_false_or_eq_true (decide (v2 < a0)) with hb | hb
  · have h := cond_t hb h
    refine r_condT hb rfl ?_
    refine r_skip ?_
    refine r_seq ?_
    refine r_block ?_
    obtain ⟨hg3, h⟩ := guard_some h
    simp only [decide_eq_true_eq] at hg3
    refine r_reg (l := [(0, .u (.c (.v (.int .i64 a0)))), (3, .u (.c (.sl true 1 ((v1 ++ [true]).map eB)))), (4, .u (.c (.v (.int .i64 v2))))]) (co_then 1 rfl (os_plain rfl rfl (s_take (u := .c (.sl true 1 (v1.map eB))) (.inl rfl) (.move (by kernel_rfl) rfl) rfl (by kernel_rfl))) (co_then 2 rfl (os_toG (os_plain rfl rfl (s_buildSlice (sz := 1) (len := 1) (us := [(0, .c (.v (.bool true)))]) (cs := [.v (.bool true)]) rfl sliceZ41 (.cons (.copy (by kernel_rfl) (by kernel_rfl) (by kernel_rfl)) (.nil)) (by kernel_rfl) (Nat.le_of_ble_eq_true rfl) rfl (by kernel_rfl))) (t' := .u (.c (.sl true 1 ([true].map eB)))) (by kernel_rfl)) (co_then 3 rfl (os_toG (os_plain rfl rfl (s_appendM (i := 10) (sz := 1) (rows := v1.map eB) (rows2 := [true].map eB) rfl sliceZ41 (by kernel_rfl) (.v0 (r := 11) (lo := 0) (n := ([true].map eB).length) (own := true) (rows := [true].map eB) (by kernel_rfl) (by kernel_rfl) rows_all) (copy_map eB_copy) (lenMap2 hg3) (Nat.le_of_ble_eq_true rfl) rfl (by kernel_rfl))) (t' := .u (.c (.sl true 1 ((v1 ++ [true]).map eB)))) (by rw [List.map_append])) (co_then 4 rfl (os_plain rfl rfl (s_take (u := .c (.sl true 1 ((v1 ++ [true]).map eB))) (.inr rfl) (.move (by kernel_rfl) rfl) rfl (by kernel_rfl))) (.nil))))) rfl (by kernel_rfl) ?_
    refine r_reg (l := [(0, .u (.c (.v (.int .i64 a0)))), (3, .u (.c (.sl true 1 ((v1 ++ [true]).map eB)))), (4, .u (.c (.v (.int .i64 (IntKind.i64.wrap (v2 + 1))))))]) (cg_then (ds := [8, 9, 4]) 3 rfl (by kernel_rfl) (.nil)) rfl (by kernel_rfl) ?_
    exact ⟨((v1 ++ [true]), IntKind.i64.wrap (v2 + 1)), h, of_weak (by kernel_rfl)⟩
  · have h := cond_f hb h
    refine r_condF hb rfl ?_
    refine r_exit ?_
    refine r_seq ?_
    refine r_reg (l := [(2, .u (.c (.sl true 1 (v1.map eB))))]) (co_then 1 rfl (os_plain rfl rfl (s_take (u := .c (.sl true 1 (v1.map eB))) (.inl rfl) (.move (by kernel_rfl) rfl) rfl (by kernel_rfl))) (co_then 2 rfl (os_plain rfl rfl (s_take (u := .c (.sl true 1 (v1.map eB))) (.inr rfl) (.move (by kernel_rfl) rfl) rfl (by kernel_rfl))) (.nil))) rfl (by kernel_rfl) ?_
    refine r_ret ?_
    obtain rfl := Option.some.inj h
    exact ⟨.inr rfl, _, _, .cons (.move rfl rfl) (.nil), rfl, outs_of trivial⟩
def RAll.l1 (k : Nat) (a0 : List Bool) (a1 : Int) (a2 : Int) (a3 : Bool) : Nat → Int → Option (Bool)
  | 0, _ => none
  | n1 + 1, v1 => (paviorref01_Power.f k a2).bind fun (r2 : Int) => (bif decide (v1 < r2) then (bif decide (0 ≤ (IntKind.i64.wrap (a1 + v1))) && decide ((IntKind.i64.wrap (a1 + v1)) < (a0.length : Int)) then (bif !((a0.getD ((IntKind.i64.wrap (a1 + v1)).toNat) false) == a3) then some false else RAll.l1 k a0 a1 a2 a3 n1 (IntKind.i64.wrap (v1 + 1))) else none) else some true)
set_option maxHeartbeats 4000000 in
def RAll.f (k : Nat) (a0 : List Bool) (a1 : Int) (a2 : Int) (a3 : Bool) : Option (Bool) :=
  RAll.l1 k a0 a1 a2 a3 k 0
set_option maxHeartbeats 4000000 in
theorem RAll.ac (k : Nat) (a0 : List Bool) (a1 : Int) (a2 : Int) (a3 : Bool) (r : Bool) (h : RAll.f k a0 a1 a2 a3 = some r) : AC Tryd.prog 38 23 [.c (.sl false 1 (a0.map eB)), .c (.v (.int .i64 a1)), .c (.v (.int .i64 a2)), .c (.v (.bool a3))] [none, none, none, none] [.c (.v (.bool r))] := by
  unfold RAll.f at h
  refine ac_intro (fn := Tryd.f23) (pins := []) (rts := [8]) Tryd.func23 rfl Tryd.ntmps23 rfl (Nat.le_of_ble_eq_true rfl) (pins_lt rfl) rfl (fun w R E vs => ?_)
  refine r_weak (of_weak (l := [(0, .u (.c (.sl false 1 (a0.map eB)))), (1, .u (.c (.v (.int .i64 a1)))), (2, .u (.c (.v (.int .i64 a2)))), (3, .u (.c (.v (.bool a3))))]) (by kernel_rfl)) ?_
  refine r_seq ?_
  refine r_reg (l := [(0, .u (.c (.sl false 1 (a0.map eB)))), (1, .u (.c (.v (.int .i64 a1)))), (2, .u (.c (.v (.int .i64 a2)))), (3, .u (.c (.v (.bool a3))))]) (cg_then (ds := [8]) 1 rfl (by kernel_rfl) (.nil)) rfl (by kernel_rfl) ?_
  refine r_seq ?_
  refine r_seq ?_
  refine r_reg (l := [(0, .u (.c (.sl false 1 (a0.map eB)))), (1, .u (.c (.v (.int .i64 a1)))), (2, .u (.c (.v (.int .i64 a2)))), (3, .u (.c (.v (.bool a3)))), (9, .u (.c (.v (.int .i64 0))))]) (cg_then (ds := [9]) 1 rfl (by kernel_rfl) (.nil)) rfl (by kernel_rfl) ?_
  refine r_block ?_
  refine r_weak (of_weak (l := [(0, .u (.c (.sl false 1 (a0.map eB)))), (1, .u (.c (.v (.int .i64 a1)))), (2, .u (.c (.v (.int .i64 a2)))), (3, .u (.c (.v (.bool a3)))), (9, .u (.c (.v (.int .i64 0))))]) (by kernel_rfl)) ?_
  refine r_loopI (α := Int) (fun x => [(0, .u (.c (.sl false 1 (a0.map eB)))), (1, .u (.c (.v (.int .i64 a1)))), (2, .u (.c (.v (.int .i64 a2)))), (3, .u (.c (.v (.bool a3)))), (9, .u (.c (.v (.int .i64 x))))]) (fun n x => RAll.l1 k a0 a1 a2 a3 n x = some r) k 0 h (by intro x h; unfold RAll.l1 at h; cases h) ?_
  rintro n1 v1 h
  replace h : RAll.l1 k a0 a1 a2 a3 (n1 + 1) v1 = some r := h
  unfold RAll.l1 at h
  show Run _ _ _ (St.of [(0, .u (.c (.sl false 1 (a0.map eB)))), (1, .u (.c (.v (.int .i64 a1)))), (2, .u (.c (.v (.int .i64 a2)))), (3, .u (.c (.v (.bool a3)))), (9, .u (.c (.v (.int .i64 v1))))]) _
  refine r_seq ?_
  refine r_seq ?_
  obtain ⟨r2, hr2, h⟩ := bind_some h
  refine r_reg (l := [(0, .u (.c (.sl false 1 (a0.map eB)))), (1, .u (.c (.v (.int .i64 a1)))), (2, .u (.c (.v (.int .i64 a2)))), (3, .u (.c (.v (.bool a3)))), (9, .u (.c (.v (.int .i64 v1)))), (13, .u (.c (.v (.bool (decide (v1 < r2))))))]) (cg_then (ds := [10, 11]) 2 rfl (by kernel_rfl) (co_then 3 rfl (os_plain rfl rfl (c_callQ (AC.k (paviorref01_Power.ac (h := hr2))) ⟨_, Tryd.func18, rfl, by kernel_rfl⟩ rfl (.cons (.copy (by kernel_rfl) rfl) (.nil)) (by kernel_rfl))) (cg_then (ds := [13]) 4 rfl (by kernel_rfl) (.nil)))) rfl (by kernel_rfl) ?_
  rcases Bool.eq_false_or_eq_true (decide (v1 < r2)) with hb | hb
  · have h := cond_t hb h
    refine r_condT hb rfl ?_
    refine r_skip ?_
    refine r_seq ?_
    refine r_block ?_
    refine r_seq ?_
    obtain ⟨hg3, h⟩ := guard_some h
    simp only [Bool.and_eq_true, decide_eq_true_eq] at hg3
    refine r_reg (l := [(0, .u (.c (.sl false 1 (a0.map eB)))), (1, .u (.c (.v (.int .i64 a1)))), (2, .u (.c (.v (.int .i64 a2)))), (3, .u (.c (.v (.bool a3)))), (9, .u (.c (.v (.int .i64 v1)))), (23, .u (.c (.v (.bool (!((a0.getD ((IntKind.i64.wrap (a1 + v1)).toNat) false) == a3))))))]) (cg_then (ds := [16, 17, 18, 19]) 4 rfl (by kernel_rfl) (co_then 5 rfl (os_plain rfl rfl (s_indexU (own := false) (sz := 1) (rows := (a0.map eB)) (e := (IntKind.i64.wrap (a1 + v1))) (ik := .i64) rfl sl41 (by kernel_rfl) (.tmp (by kernel_rfl)) hg3.1 (by rw [List.length_map]; exact hg3.2) rfl (by kernel_rfl) (by kernel_rfl))) (co_then 6 rfl (os_plain rfl rfl (s_load1 (x := .v (.bool (a0.getD ((IntKind.i64.wrap (a1 + v1)).toNat) false))) (r := 16) (off := 0) (s := .i ((IntKind.i64.wrap (a1 + v1)).toNat) 1) (p := []) (c := .sl false 1 (a0.map eB)) (cs := eB (a0.getD ((IntKind.i64.wrap (a1 + v1)).toNat) false)) rfl (oneB_ok (by kernel_rfl)) (by kernel_rfl) (by kernel_rfl) (getP_map false (by have := hg3; omega)) rfl rfl rfl (by kernel_rfl))) (cg_then (ds := [22, 23]) 8 rfl (by kernel_rfl) (.nil))))) rfl (by kernel_rfl) ?_
    rcases Bool.eq_false_or_eq_true (!((a0.getD ((IntKind.i64.wrap (a1 + v1)).toNat) false) == a3)) with hb | hb
    · have h := cond_t hb h
      refine r_condT hb rfl ?_
      refine r_seq ?_
      refine r_reg (l := [(8, .u (.c (.v (.bool false))))]) (cg_then (ds := [8]) 1 rfl (by kernel_rfl) (.nil)) rfl (by kernel_rfl) ?_
      refine r_ret ?_
      obtain rfl := Option.some.inj h
      exact ⟨.inr rfl, _, _, .cons (.copy rfl rfl rfl) (.nil), rfl, outs_of trivial⟩
    · have h := cond_f hb h
      refine r_condF hb rfl ?_
      refine r_skip ?_
      refine r_reg (l := [(0, .u (.c (.sl false 1 (a0.map eB)))), (1, .u (.c (.v (.int .i64 a1)))), (2, .u (.c (.v (.int .i64 a2)))), (3, .u (.c (.v (.bool a3)))), (9, .u (.c (.v (.int .i64 (IntKind.i64.wrap (v1 + 1))))))]) (cg_then (ds := [14, 15, 9]) 3 rfl (by kernel_rfl) (.nil)) rfl (by kernel_rfl) ?_
      exact ⟨IntKind.i64.wrap (v1 + 1), h, of_weak (by kernel_rfl)⟩
  · have h := cond_f hb h
    refine r_condF hb rfl ?_
    refine r_exit ?_
    refine r_seq ?_
    refine r_reg (l := [(8, .u (.c (.v (.bool true))))]) (cg_then (ds := [8]) 1 rfl (by kernel_rfl) (.nil)) rfl (by kernel_rfl) ?_
    refine r_ret ?_
    obtain rfl := Option.some.inj h
    exact ⟨.inr rfl, _, _, .cons (.copy rfl rfl rfl) (.nil), rfl, outs_of trivial⟩
set_option maxHeartbeats 4000000 in
def RBlock.f (k : Nat) (a0 : List Bool) (a1 : Int) (a2 : Int) : Option (Bool) :=
  (bif decide (a2 ≥ 0) then (bif decide (a2 ≤ 5) then (bif decide (a1 ≥ 0) then (bif decide (a1 < (a0.length : Int)) then (paviorref01_Power.f k a2).bind fun (r5 : Int) => (bif decide (r5 ≠ 0) then (bif (a1.tmod r5) == 0 then (paviorref01_Power.f k a2).bind fun (r8 : Int) => some (decide ((IntKind.i64.wrap (a1 + r8)) ≤ (a0.length : Int))) else some false) else none) else some false) else some false) else some false) else some false)
set_option maxHeartbeats 4000000 in
theorem RBlock.ac (k : Nat) (a0 : List Bool) (a1 : Int) (a2 : Int) (r : Bool) (h : RBlock.f k a0 a1 a2 = some r) : AC Tryd.prog 38 21 [.c (.sl false 1 (a0.map eB)), .c (.v (.int .i64 a1)), .c (.v (.int .i64 a2))] [none, none, none] [.c (.v (.bool r))] := by
  unfold RBlock.f at h
  refine ac_intro (fn := Tryd.f21) (pins := []) (rts := [6]) Tryd.func21 rfl Tryd.ntmps21 rfl (Nat.le_of_ble_eq_true rfl) (pins_lt rfl) rfl (fun w R E vs => ?_)
  refine r_weak (of_weak (l := [(0, .u (.c (.sl false 1 (a0.map eB)))), (1, .u (.c (.v (.int .i64 a1)))), (2, .u (.c (.v (.int .i64 a2))))]) (by kernel_rfl)) ?_
  refine r_seq ?_
  refine r_reg (l := [(0, .u (.c (.sl false 1 (a0.map eB)))), (1, .u (.c (.v (.int .i64 a1)))), (2, .u (.c (.v (.int .i64 a2))))]) (cg_then (ds := [6]) 1 rfl (by kernel_rfl) (.nil)) rfl (by kernel_rfl) ?_
  refine r_seq ?_
  rcases Bool.eq_false_or_eq_true (decide (a2 ≥ 0)) with hb | hb
  · have h := cond_t hb h
    have hs1 := hb
    rcases Bool.eq_false_or_eq_true (decide (a2 ≤ 5)) with hb | hb
    · have h := cond_t hb h
      have hs2 := hb
      rcases Bool.eq_false_or_eq_true (decide (a1 ≥ 0)) with hb | hb
      · have h := cond_t hb h
        have hs3 := hb
        rcases Bool.eq_false_or_eq_true (decide (a1 < (a0.length : Int))) with hb | hb
        · have h := cond_t hb h
          have hs4 := hb
          obtain ⟨r5, hr5, h⟩ := bind_some h
          obtain ⟨hg6, h⟩ := guard_some h
          simp only [decide_eq_true_eq] at hg6
          rcases Bool.eq_false_or_eq_true ((a1.tmod r5) == 0) with hb | hb
          · have h := cond_t hb h
            have hs7 := hb
            obtain ⟨r8, hr8, h⟩ := bind_some h
            refine r_reg (l := [(6, .u (.c (.v (.bool (decide ((IntKind.i64.wrap (a1 + r8)) ≤ (a0.length : Int)))))))]) (cg_then (ds := [7, 8]) 2 rfl (by kernel_rfl) (co_then 3 rfl (os_ge (d := 9) (t := .u (.c (.v (.bool (decide (a2 ≥ 0)))))) (t' := .u (.c (.v (.bool true)))) (by kernel_rfl) (by rw [hs1])) (cg_then (ds := [10, 11, 12]) 6 rfl (by kernel_rfl) (co_then 7 rfl (os_ge (d := 13) (t := .u (.c (.v (.bool (decide (a2 ≤ 5)))))) (t' := .u (.c (.v (.bool true)))) (by kernel_rfl) (by rw [hs2])) (cg_then (ds := [14, 15, 16]) 10 rfl (by kernel_rfl) (co_then 11 rfl (os_ge (d := 17) (t := .u (.c (.v (.bool (decide (a1 ≥ 0)))))) (t' := .u (.c (.v (.bool true)))) (by kernel_rfl) (by rw [hs3])) (cg_then (ds := [18, 19]) 13 rfl (by kernel_rfl) (co_then 14 rfl (os_to (os_gy rfl rfl rfl (by kernel_rfl) (s_lenU (own := false) (sz := 1) (rows := (a0.map eB)) rfl sl41 (by kernel_rfl) rfl (by kernel_rfl))) (t' := .u (.c (.v (.int .i64 (a0.length : Int))))) (by rw [List.length_map])) (cg_then (ds := [21, 22]) 16 rfl (by kernel_rfl) (co_then 17 rfl (os_ge (d := 23) (t := .u (.c (.v (.bool (decide (a1 < (a0.length : Int))))))) (t' := .u (.c (.v (.bool true)))) (by kernel_rfl) (by rw [hs4])) (cg_then (ds := [24, 25]) 19 rfl (by kernel_rfl) (co_then 20 rfl (os_gy rfl rfl rfl (by kernel_rfl) (c_callQ (AC.k (paviorref01_Power.ac (h := hr5))) ⟨_, Tryd.func18, rfl, by kernel_rfl⟩ rfl (.cons (.copy (by kernel_rfl) rfl) (.nil)) (by kernel_rfl))) (co_then 21 rfl (os_to (os_gy rfl rfl rfl (by kernel_rfl) (s_div (op := .rem) (k := .i64) (p := a1) (q := r5) rfl (.inr rfl) (by kernel_rfl) (by kernel_rfl) hg6 rfl (by kernel_rfl))) (t' := .u (.c (.v (.int .i64 (a1.tmod r5))))) (by kernel_rfl)) (cg_then (ds := [28, 29]) 23 rfl (by kernel_rfl) (co_then 24 rfl (os_ge (d := 30) (t := .u (.c (.v (.bool ((a1.tmod r5) == 0))))) (t' := .u (.c (.v (.bool true)))) (by kernel_rfl) (by rw [hs7])) (cg_then (ds := [31, 32]) 26 rfl (by kernel_rfl) (co_then 27 rfl (os_gy rfl rfl rfl (by kernel_rfl) (c_callQ (AC.k (paviorref01_Power.ac (h := hr8))) ⟨_, Tryd.func18, rfl, by kernel_rfl⟩ rfl (.cons (.copy (by kernel_rfl) rfl) (.nil)) (by kernel_rfl))) (cg_then (ds := [34, 35]) 29 rfl (by kernel_rfl) (co_then 30 rfl (os_to (os_gy rfl rfl rfl (by kernel_rfl) (s_lenU (own := false) (sz := 1) (rows := (a0.map eB)) rfl sl41 (by kernel_rfl) rfl (by kernel_rfl))) (t' := .u (.c (.v (.int .i64 (a0.length : Int))))) (by rw [List.length_map])) (cg_then (ds := [37, 38, 6]) 33 rfl (by kernel_rfl) (.nil))))))))))))))))))))) rfl (by kernel_rfl) ?_
            refine r_ret ?_
            obtain rfl := Option.some.inj h
            exact ⟨.inr rfl, _, _, .cons (.copy rfl rfl rfl) (.nil), rfl, outs_of trivial⟩
          · have h := cond_f hb h
            have hs9 := hb
            refine r_reg (l := [(6, .u (.c (.v (.bool false))))]) (cg_then (ds := [7, 8]) 2 rfl (by kernel_rfl) (co_then 3 rfl (os_ge (d := 9) (t := .u (.c (.v (.bool (decide (a2 ≥ 0)))))) (t' := .u (.c (.v (.bool true)))) (by kernel_rfl) (by rw [hs1])) (cg_then (ds := [10, 11, 12]) 6 rfl (by kernel_rfl) (co_then 7 rfl (os_ge (d := 13) (t := .u (.c (.v (.bool (decide (a2 ≤ 5)))))) (t' := .u (.c (.v (.bool true)))) (by kernel_rfl) (by rw [hs2])) (cg_then (ds := [14, 15, 16]) 10 rfl (by kernel_rfl) (co_then 11 rfl (os_ge (d := 17) (t := .u (.c (.v (.bool (decide (a1 ≥ 0)))))) (t' := .u (.c (.v (.bool true)))) (by kernel_rfl) (by rw [hs3])) (cg_then (ds := [18, 19]) 13 rfl (by kernel_rfl) (co_then 14 rfl (os_to (os_gy rfl rfl rfl (by kernel_rfl) (s_lenU (own := false) (sz := 1) (rows := (a0.map eB)) rfl sl41 (by kernel_rfl) rfl (by kernel_rfl))) (t' := .u (.c (.v (.int .i64 (a0.length : Int))))) (by rw [List.length_map])) (cg_then (ds := [21, 22]) 16 rfl (by kernel_rfl) (co_then 17 rfl (os_ge (d := 23) (t := .u (.c (.v (.bool (decide (a1 < (a0.length : Int))))))) (t' := .u (.c (.v (.bool true)))) (by kernel_rfl) (by rw [hs4])) (cg_then (ds := [24, 25]) 19 rfl (by kernel_rfl) (co_then 20 rfl (os_gy rfl rfl rfl (by kernel_rfl) (c_callQ (AC.k (paviorref01_Power.ac (h := hr5))) ⟨_, Tryd.func18, rfl, by kernel_rfl⟩ rfl (.cons (.copy (by kernel_rfl) rfl) (.nil)) (by kernel_rfl))) (co_then 21 rfl (os_to (os_gy rfl rfl rfl (by kernel_rfl) (s_div (op := .rem) (k := .i64) (p := a1) (q := r5) rfl (.inr rfl) (by kernel_rfl) (by kernel_rfl) hg6 rfl (by kernel_rfl))) (t' := .u (.c (.v (.int .i64 (a1.tmod r5))))) (by kernel_rfl)) (cg_then (ds := [28, 29]) 23 rfl (by kernel_rfl) (co_then 24 rfl (os_ge (d := 30) (t := .u (.c (.v (.bool ((a1.tmod r5) == 0))))) (t' := .u (.c (.v (.bool false)))) (by kernel_rfl) (by rw [hs9])) (cg_then (ds := [31, 32, 33, 34, 35, 36, 37, 38, 6]) 33 rfl (by kernel_rfl) (.nil))))))))))))))))) rfl (by kernel_rfl) ?_
            refine r_ret ?_
            obtain rfl := Option.some.inj h
            exact ⟨.inr rfl, _, _, .cons (.copy rfl rfl rfl) (.nil), rfl, outs_of trivial⟩
        · have h := cond_f hb h
          have hs10 := hb
          refine r_reg (l := [(6, .u (.c (.v (.bool false))))]) (cg_then (ds := [7, 8]) 2 rfl (by kernel_rfl) (co_then 3 rfl (os_ge (d := 9) (t := .u (.c (.v (.bool (decide (a2 ≥ 0)))))) (t' := .u (.c (.v (.bool true)))) (by kernel_rfl) (by rw [hs1])) (cg_then (ds := [10, 11, 12]) 6 rfl (by kernel_rfl) (co_then 7 rfl (os_ge (d := 13) (t := .u (.c (.v (.bool (decide (a2 ≤ 5)))))) (t' := .u (.c (.v (.bool true)))) (by kernel_rfl) (by rw [hs2])) (cg_then (ds := [14, 15, 16]) 10 rfl (by kernel_rfl) (co_then 11 rfl (os_ge (d := 17) (t := .u (.c (.v (.bool (decide (a1 ≥ 0)))))) (t' := .u (.c (.v (.bool true)))) (by kernel_rfl) (by rw [hs3])) (cg_then (ds := [18, 19]) 13 rfl (by kernel_rfl) (co_then 14 rfl (os_to (os_gy rfl rfl rfl (by kernel_rfl) (s_lenU (own := false) (sz := 1) (rows := (a0.map eB)) rfl sl41 (by kernel_rfl) rfl (by kernel_rfl))) (t' := .u (.c (.v (.int .i64 (a0.length : Int))))) (by rw [List.length_map])) (cg_then (ds := [21, 22]) 16 rfl (by kernel_rfl) (co_then 17 rfl (os_ge (d := 23) (t := .u (.c (.v (.bool (decide (a1 < (a0.length : Int))))))) (t' := .u (.c (.v (.bool false)))) (by kernel_rfl) (by rw [hs10])) (cg_then (ds := [24, 25, 26, 27, 28, 29, 30, 31, 32, 33, 34, 35, 36, 37, 38, 6]) 33 rfl (by kernel_rfl) (.nil)))))))))))) rfl (by kernel_rfl) ?_
          refine r_ret ?_
          obtain rfl := Option.some.inj h
          exact ⟨.inr rfl, _, _, .cons (.copy rfl rfl rfl) (.nil), rfl, outs_of trivial⟩
      · have h := cond_f hb h
        have hs11 := hb
        refine r_reg (l := [(6, .u (.c (.v (.bool false))))]) (cg_then (ds := [7, 8]) 2 rfl (by kernel_rfl) (co_then 3 rfl (os_ge (d := 9) (t := .u (.c (.v (.bool (decide (a2 ≥ 0)))))) (t' := .u (.c (.v (.bool true)))) (by kernel_rfl) (by rw [hs1])) (cg_then (ds := [10, 11, 12]) 6 rfl (by kernel_rfl) (co_then 7 rfl (os_ge (d := 13) (t := .u (.c (.v (.bool (decide (a2 ≤ 5)))))) (t' := .u (.c (.v (.bool true)))) (by kernel_rfl) (by rw [hs2])) (cg_then (ds := [14, 15, 16]) 10 rfl (by kernel_rfl) (co_then 11 rfl (os_ge (d := 17) (t := .u (.c (.v (.bool (decide (a1 ≥ 0)))))) (t' := .u (.c (.v (.bool false)))) (by kernel_rfl) (by rw [hs11])) (cg_then (ds := [18, 19, 20, 21, 22, 23, 24, 25, 26, 27, 28, 29, 30, 31, 32, 33, 34, 35, 36, 37, 38, 6]) 33 rfl (by kernel_rfl) (.nil)))))))) rfl (by kernel_rfl) ?_
        refine r_ret ?_
        obtain rfl := Option.some.inj h
        exact ⟨.inr rfl, _, _, .cons (.copy rfl rfl rfl) (.nil), rfl, outs_of trivial⟩
    · have h := cond_f hb h
      have hs12 := hb
      refine r_reg (l := [(6, .u (.c (.v (.bool false))))]) (cg_then (ds := [7, 8]) 2 rfl (by kernel_rfl) (co_then 3 rfl (os_ge (d := 9) (t := .u (.c (.v (.bool (decide (a2 ≥ 0)))))) (t' := .u (.c (.v (.bool true)))) (by kernel_rfl) (by rw [hs1])) (cg_then (ds := [10, 11, 12]) 6 rfl (by kernel_rfl) (co_then 7 rfl (os_ge (d := 13) (t := .u (.c (.v (.bool (decide (a2 ≤ 5)))))) (t' := .u (.c (.v (.bool false)))) (by kernel_rfl) (by rw [hs12])) (cg_then (ds := [14, 15, 16, 17, 18, 19, 20, 21, 22, 23, 24, 25, 26, 27, 28, 29, 30, 31, 32, 33, 34, 35, 36, 37, 38, 6]) 33 rfl (by kernel_rfl) (.nil)))))) rfl (by kernel_rfl) ?_
      refine r_ret ?_
      obtain rfl := Option.some.inj h
      exact ⟨.inr rfl, _, _, .cons (.copy rfl rfl rfl) (.nil), rfl, outs_of trivial⟩
  · have h := cond_f hb h
    have hs13 := hb
    refine r_reg (l := [(6, .u (.c (.v (.bool false))))]) (cg_then (ds := [7, 8]) 2 rfl (by kernel_rfl) (co_then 3 rfl (os_ge (d := 9) (t := .u (.c (.v (.bool (decide (a2 ≥ 0)))))) (t' := .u (.c (.v (.bool false)))) (by kernel_rfl) (by rw [hs13])) (cg_then (ds := [10, 11, 12, 13, 14, 15, 16, 17, 18, 19, 20, 21, 22, 23, 24, 25, 26, 27, 28, 29, 30, 31, 32, 33, 34, 35, 36, 37, 38, 6]) 33 rfl (by kernel_rfl) (.nil)))) rfl (by kernel_rfl) ?_
    refine r_ret ?_
    obtain rfl := Option.some.inj h
    exact ⟨.inr rfl, _, _, .cons (.copy rfl rfl rfl) (.nil), rfl, outs_of trivial⟩
def RFree.l2 (k : Nat) (a0 : List Bool) (v1 : List Blk) (v2 : Int) : Nat → (List Blk) → Int → Option ((List Blk) × Int)
  | 0, _, _ => none
  | n2 + 1, v4, v5 => (bif decide (v5 < 5) then (RBlock.f k a0 v2 (IntKind.i64.wrap (v5 + 1))).bind fun (r8 : Bool) => (bif r8 then (RAll.f k a0 v2 (IntKind.i64.wrap (v5 + 1)) true).bind fun (r10 : Bool) => (bif r10 then RFree.l2 k a0 v1 v2 n2 v4 (IntKind.i64.wrap (v5 + 1)) else some (v4, v5)) else some (v4, v5)) else some (v4, v5))
def RFree.l1 (k : Nat) (a0 : List Bool) : Nat → (List Blk) → Int → Option ((List Blk))
  | 0, _, _ => none
  | n1 + 1, v1, v2 => (bif decide (v2 < (a0.length : Int)) then (bif decide (0 ≤ v2) && decide (v2 < (a0.length : Int)) then (bif !(a0.getD v2.toNat false) then RFree.l1 k a0 n1 v1 (IntKind.i64.wrap (v2 + 1)) else (RFree.l2 k a0 v1 v2 k v1 0).bind fun (y6 : (List Blk) × Int) => (bif decide (y6.1.length + [(⟨v2, y6.2⟩ : Blk)].length ≤ 1000000) then (paviorref01_Power.f k y6.2).bind fun (r12 : Int) => RFree.l1 k a0 n1 (y6.1 ++ [(⟨v2, y6.2⟩ : Blk)]) (IntKind.i64.wrap (v2 + r12)) else none)) else none) else some v1)
set_option maxHeartbeats 4000000 in
def RFree.f (k : Nat) (a0 : List Bool) : Option ((List Blk)) :=
  RFree.l1 k a0 k [] 0
set_option maxHeartbeats 4000000 in
theorem RFree.ac (k : Nat) (a0 : List Bool) (r : (List Blk)) (h : RFree.f k a0 = some r) : AC Tryd.prog 38 30 [.c (.sl false 1 (a0.map eB))] [none] [.c (.sl true 2 (r.map eR))] := by
  unfold RFree.f at h
  refine ac_intro (fn := Tryd.f30) (pins := []) (rts := [2]) Tryd.func30 rfl Tryd.ntmps30 rfl (Nat.le_of_ble_eq_true rfl) (pins_lt rfl) rfl (fun w R E vs => ?_)
  refine r_weak (of_weak (l := [(0, .u (.c (.sl false 1 (a0.map eB))))]) (by kernel_rfl)) ?_
  refine r_seq ?_
  refine r_reg (l := [(0, .u (.c (.sl false 1 (a0.map eB))))]) (co_then 1 rfl (os_plain rfl rfl (s_take (.inr rfl) (.sl 2) rfl (by kernel_rfl))) (.nil)) rfl (by kernel_rfl) ?_
  refine r_seq ?_
  refine r_reg (l := [(0, .u (.c (.sl false 1 (a0.map eB)))), (3, .u (.c (.sl true 2 ([].map eR))))]) (co_then 1 rfl (os_plain rfl rfl (s_take (.inr rfl) (.sl 2) rfl (by kernel_rfl))) (.nil)) rfl (by kernel_rfl) ?_
  refine r_seq ?_
  refine r_reg (l := [(0, .u (.c (.sl false 1 (a0.map eB)))), (3, .u (.c (.sl true 2 ([].map eR)))), (4, .u (.c (.v (.int .i64 0))))]) (cg_then (ds := [4]) 1 rfl (by kernel_rfl) (.nil)) rfl (by kernel_rfl) ?_
  refine r_seq ?_
  refine r_block ?_
  refine r_weak (of_weak (l := [(0, .u (.c (.sl false 1 (a0.map eB)))), (3, .u (.c (.sl true 2 ([].map eR)))), (4, .u (.c (.v (.int .i64 0))))]) (by kernel_rfl)) ?_
  refine r_loopI (α := (List Blk) × Int) (fun x => [(0, .u (.c (.sl false 1 (a0.map eB)))), (3, .u (.c (.sl true 2 (x.1.map eR)))), (4, .u (.c (.v (.int .i64 x.2))))]) (fun n x => RFree.l1 k a0 n x.1 x.2 = some r) k ([], 0) h (by intro x h; unfold RFree.l1 at h; cases h) ?_
  rintro n1 ⟨v1, v2⟩ h
  replace h : RFree.l1 k a0 (n1 + 1) v1 v2 = some r := h
  unfold RFree.l1 at h
  show Run _ _ _ (St.of [(0, .u (.c (.sl false 1 (a0.map eB)))), (3, .u (.c (.sl true 2 (v1.map eR)))), (4, .u (.c (.v (.int .i64 v2))))]) _
  refine r_seq ?_
  refine r_seq ?_
  refine r_reg (l := [(0, .u (.c (.sl false 1 (a0.map eB)))), (3, .u (.c (.sl true 2 (v1.map eR)))), (4, .u (.c (.v (.int .i64 v2)))), (9, .u (.c (.v (.bool (decide (v2 < (a0.length : Int)))))))]) (cg_then (ds := [6, 7]) 2 rfl (by kernel_rfl) (co_then 3 rfl (os_to (os_plain rfl rfl (s_lenU (own := false) (sz := 1) (rows := (a0.map eB)) rfl sl41 (by kernel_rfl) rfl (by kernel_rfl))) (t' := .u (.c (.v (.int .i64 (a0.length : Int))))) (by rw [List.length_map])) (cg_then (ds := [9]) 4 rfl (by kernel_rfl) (.nil)))) rfl (by kernel_rfl) ?_
  rcases Bool.eq_false_or_eq_true (decide (v2 < (a0.length : Int))) with hb | hb
  · have h := cond_t hb h
    refine r_condT hb rfl ?_
    refine r_skip ?_
    refine r_block ?_
    refine r_seq ?_
    refine r_seq ?_
    obtain ⟨hg3, h⟩ := guard_some h
    simp only [Bool.and_eq_true, decide_eq_true_eq] at hg3
    refine r_reg (l := [(0, .u (.c (.sl false 1 (a0.map eB)))), (3, .u (.c (.sl true 2 (v1.map eR)))), (4, .u (.c (.v (.int .i64 v2)))), (14, .u (.c (.v (.bool (!(a0.getD v2.toNat false))))))]) (cg_then (ds := [10, 11]) 2 rfl (by kernel_rfl) (co_then 3 rfl (os_plain rfl rfl (s_indexU (own := false) (sz := 1) (rows := (a0.map eB)) (e := v2) (ik := .i64) rfl sl41 (by kernel_rfl) (.tmp (by kernel_rfl)) hg3.1 (by rw [List.length_map]; exact hg3.2) rfl (by kernel_rfl) (by kernel_rfl))) (co_then 4 rfl (os_plain rfl rfl (s_load1 (x := .v (.bool (a0.getD v2.toNat false))) (r := 10) (off := 0) (s := .i v2.toNat 1) (p := []) (c := .sl false 1 (a0.map eB)) (cs := eB (a0.getD v2.toNat false)) rfl (oneB_ok (by kernel_rfl)) (by kernel_rfl) (by kernel_rfl) (getP_map false (by have := hg3; omega)) rfl rfl rfl (by kernel_rfl))) (cg_then (ds := [14]) 5 rfl (by kernel_rfl) (.nil))))) rfl (by kernel_rfl) ?_
    rcases Bool.eq_false_or_eq_true (!(a0.getD v2.toNat false)) with hb | hb
    · have h := cond_t hb h
      refine r_condT hb rfl ?_
      refine r_seq ?_
      refine r_reg (l := [(0, .u (.c (.sl false 1 (a0.map eB)))), (3, .u (.c (.sl true 2 (v1.map eR)))), (4, .u (.c (.v (.int .i64 (IntKind.i64.wrap (v2 + 1))))))]) (cg_then (ds := [15, 16, 4]) 3 rfl (by kernel_rfl) (.nil)) rfl (by kernel_rfl) ?_
      refine r_exit ?_
      exact ⟨(v1, IntKind.i64.wrap (v2 + 1)), h, of_weak (by kernel_rfl)⟩
    · have h := cond_f hb h
      refine r_condF hb rfl ?_
      refine r_skip ?_
      refine r_seq ?_
      refine r_reg (l := [(0, .u (.c (.sl false 1 (a0.map eB)))), (3, .u (.c (.sl true 2 (v1.map eR)))), (4, .u (.c (.v (.int .i64 v2)))), (5, .u (.c (.v (.int .i64 0))))]) (cg_then (ds := [5]) 1 rfl (by kernel_rfl) (.nil)) rfl (by kernel_rfl) ?_
      refine r_seq ?_
      refine r_block ?_
      refine r_weak (of_weak (l := [(0, .u (.c (.sl false 1 (a0.map eB)))), (3, .u (.c (.sl true 2 (v1.map eR)))), (4, .u (.c (.v (.int .i64 v2)))), (5, .u (.c (.v (.int .i64 0))))]) (by kernel_rfl)) ?_
      obtain ⟨y6, hy6, h_y6⟩ := bind_some h
      refine r_loopI (α := (List Blk) × Int) (fun x => [(0, .u (.c (.sl false 1 (a0.map eB)))), (3, .u (.c (.sl true 2 (x.1.map eR)))), (4, .u (.c (.v (.int .i64 v2)))), (5, .u (.c (.v (.int .i64 x.2))))]) (fun n x => RFree.l2 k a0 v1 v2 n x.1 x.2 = some y6) k (v1, 0) hy6 (by intro x h; unfold RFree.l2 at h; cases h) ?_
      rintro n2 ⟨v4, v5⟩ h
      replace h : RFree.l2 k a0 v1 v2 (n2 + 1) v4 v5 = some y6 := h
      unfold RFree.l2 at h
      show Run _ _ _ (St.of [(0, .u (.c (.sl false 1 (a0.map eB)))), (3, .u (.c (.sl true 2 (v4.map eR)))), (4, .u (.c (.v (.int .i64 v2)))), (5, .u (.c (.v (.int .i64 v5))))]) _
      refine r_seq ?_
      refine r_seq ?_
      rcases Bool.eq_false_or_eq_true (decide (v5 < 5)) with hb | hb
      · have h := cond_t hb h
        have hs7 := hb
        obtain ⟨r8, hr8, h⟩ := bind_some h
        rcases Bool.eq_false_or_eq_true (r8) with hb | hb
        · have h := cond_t hb h
          have hs9 := hb
          obtain ⟨r10, hr10, h⟩ := bind_some h
          refine r_reg (l := [(0, .u (.c (.sl false 1 (a0.map eB)))), (3, .u (.c (.sl true 2 (v4.map eR)))), (4, .u (.c (.v (.int .i64 v2)))), (5, .u (.c (.v (.int .i64 v5)))), (32, .u (.c (.v (.bool r10))))]) (cg_then (ds := [17, 18]) 2 rfl (by kernel_rfl) (co_then 3 rfl (os_ge (d := 19) (t := .u (.c (.v (.bool (decide (v5 < 5)))))) (t' := .u (.c (.v (.bool true)))) (by kernel_rfl) (by rw [hs7])) (cg_then (ds := [20, 21, 22, 23]) 7 rfl (by kernel_rfl) (co_then 8 rfl (os_gy rfl rfl rfl (by kernel_rfl) (c_callQ (AC.k (RBlock.ac (h := hr8))) ⟨_, Tryd.func21, rfl, by kernel_rfl⟩ rfl (.cons (.copy (by kernel_rfl) rfl) (.cons (.copy (by kernel_rfl) rfl) (.cons (.copy (by kernel_rfl) rfl) (.nil)))) (by kernel_rfl))) (cg_then (ds := [25]) 9 rfl (by kernel_rfl) (co_then 10 rfl (os_ge (d := 26) (t := .u (.c (.v (.bool r8)))) (t' := .u (.c (.v (.bool true)))) (by kernel_rfl) (by rw [hs9])) (cg_then (ds := [27, 28, 29, 30]) 14 rfl (by kernel_rfl) (co_then 15 rfl (os_gy rfl rfl rfl (by kernel_rfl) (c_callQ (AC.k (RAll.ac (h := hr10))) ⟨_, Tryd.func23, rfl, by kernel_rfl⟩ rfl (.cons (.copy (by kernel_rfl) rfl) (.cons (.copy (by kernel_rfl) rfl) (.cons (.copy (by kernel_rfl) rfl) (.cons (.copy (by kernel_rfl) rfl) (.nil))))) (by kernel_rfl))) (cg_then (ds := [32]) 16 rfl (by kernel_rfl) (.nil)))))))))) rfl (by kernel_rfl) ?_
          rcases Bool.eq_false_or_eq_true (r10) with hb | hb
          · have h := cond_t hb h
            refine r_condT hb rfl ?_
            refine r_skip ?_
            refine r_block ?_
            refine r_reg (l := [(0, .u (.c (.sl false 1 (a0.map eB)))), (3, .u (.c (.sl true 2 (v4.map eR)))), (4, .u (.c (.v (.int .i64 v2)))), (5, .u (.c (.v (.int .i64 (IntKind.i64.wrap (v5 + 1))))))]) (cg_then (ds := [33, 34, 5]) 3 rfl (by kernel_rfl) (.nil)) rfl (by kernel_rfl) ?_
            exact ⟨(v4, IntKind.i64.wrap (v5 + 1)), h, of_weak (by kernel_rfl)⟩
          · have h := cond_f hb h
            refine r_condF hb rfl ?_
            refine r_weak (of_weak (l := [(0, .u (.c (.sl false 1 (a0.map eB)))), (3, .u (.c (.sl true 2 (v4.map eR)))), (4, .u (.c (.v (.int .i64 v2)))), (5, .u (.c (.v (.int .i64 v5))))]) (by kernel_rfl)) ?_
            refine run_cast (α := (List Blk) × Int) (fun x => [(0, .u (.c (.sl false 1 (a0.map eB)))), (3, .u (.c (.sl true 2 (x.1.map eR)))), (4, .u (.c (.v (.int .i64 v2)))), (5, .u (.c (.v (.int .i64 x.2))))]) (x := (v4, v5)) (y := y6) (Option.some.inj h) ?_
            refine r_exit ?_
            replace h := h_y6
            refine r_seq ?_
            obtain ⟨hg11, h⟩ := guard_some h
            simp only [decide_eq_true_eq] at hg11
            refine r_reg (l := [(0, .u (.c (.sl false 1 (a0.map eB)))), (3, .u (.c (.sl true 2 ((y6.1 ++ [(⟨v2, y6.2⟩ : Blk)]).map eR)))), (4, .u (.c (.v (.int .i64 v2)))), (5, .u (.c (.v (.int .i64 y6.2))))]) (co_then 1 rfl (os_plain rfl rfl (s_take (u := .c (.sl true 2 (y6.1.map eR))) (.inl rfl) (.move (by kernel_rfl) rfl) rfl (by kernel_rfl))) (cg_then (ds := [36, 37]) 3 rfl (by kernel_rfl) (co_then 4 rfl (os_plain rfl rfl (s_build (us := [(0, .c (.v (.int .i64 v2))), (1, .c (.v (.int .i64 y6.2)))]) (zs := [.v (.int .i64 0), .v (.int .i64 0)]) (cs := [.v (.int .i64 v2), .v (.int .i64 y6.2)]) rfl build33 zero33 (.cons (.copy (by kernel_rfl) (by kernel_rfl) (by kernel_rfl)) (.cons (.copy (by kernel_rfl) (by kernel_rfl) (by kernel_rfl)) (.nil))) (by kernel_rfl) rfl (by kernel_rfl))) (co_then 5 rfl (os_toG (os_plain rfl rfl (s_buildSlice (sz := 2) (len := 1) (us := [(0, .agg [.v (.int .i64 v2), .v (.int .i64 y6.2)])]) (cs := [.v (.int .i64 v2), .v (.int .i64 y6.2)]) rfl sliceZ30 (.cons (.copy (by kernel_rfl) (by kernel_rfl) (by kernel_rfl)) (.nil)) (by kernel_rfl) (Nat.le_of_ble_eq_true rfl) rfl (by kernel_rfl))) (t' := .u (.c (.sl true 2 ([(⟨v2, y6.2⟩ : Blk)].map eR)))) (by kernel_rfl)) (co_then 6 rfl (os_toG (os_plain rfl rfl (s_appendM (i := 35) (sz := 2) (rows := y6.1.map eR) (rows2 := [(⟨v2, y6.2⟩ : Blk)].map eR) rfl sliceZ30 (by kernel_rfl) (.v0 (r := 39) (lo := 0) (n := ([(⟨v2, y6.2⟩ : Blk)].map eR).length) (own := true) (rows := [(⟨v2, y6.2⟩ : Blk)].map eR) (by kernel_rfl) (by kernel_rfl) rows_all) (copy_map eR_copy) (lenMap2 hg11) (Nat.le_of_ble_eq_true rfl) rfl (by kernel_rfl))) (t' := .u (.c (.sl true 2 ((y6.1 ++ [(⟨v2, y6.2⟩ : Blk)]).map eR)))) (by rw [List.map_append])) (co_then 7 rfl (os_plain rfl rfl (s_take (u := .c (.sl true 2 ((y6.1 ++ [(⟨v2, y6.2⟩ : Blk)]).map eR))) (.inr rfl) (.move (by kernel_rfl) rfl) rfl (by kernel_rfl))) (.nil))))))) rfl (by kernel_rfl) ?_
            obtain ⟨r12, hr12, h⟩ := bind_some h
            refine r_reg (l := [(0, .u (.c (.sl false 1 (a0.map eB)))), (3, .u (.c (.sl true 2 ((y6.1 ++ [(⟨v2, y6.2⟩ : Blk)]).map eR)))), (4, .u (.c (.v (.int .i64 (IntKind.i64.wrap (v2 + r12))))))]) (cg_then (ds := [41, 42]) 2 rfl (by kernel_rfl) (co_then 3 rfl (os_plain rfl rfl (c_callQ (AC.k (paviorref01_Power.ac (h := hr12))) ⟨_, Tryd.func18, rfl, by kernel_rfl⟩ rfl (.cons (.copy (by kernel_rfl) rfl) (.nil)) (by kernel_rfl))) (cg_then (ds := [44, 4]) 5 rfl (by kernel_rfl) (.nil)))) rfl (by kernel_rfl) ?_
            exact ⟨((y6.1 ++ [(⟨v2, y6.2⟩ : Blk)]), IntKind.i64.wrap (v2 + r12)), h, of_weak (by kernel_rfl)⟩
        · have h := cond_f hb h
          have hs13 := hb
          refine r_reg (l := [(0, .u (.c (.sl false 1 (a0.map eB)))), (3, .u (.c (.sl true 2 (v4.map eR)))), (4, .u (.c (.v (.int .i64 v2)))), (5, .u (.c (.v (.int .i64 v5)))), (32, .u (.c (.v (.bool false))))]) (cg_then (ds := [17, 18]) 2 rfl (by kernel_rfl) (co_then 3 rfl (os_ge (d := 19) (t := .u (.c (.v (.bool (decide (v5 < 5)))))) (t' := .u (.c (.v (.bool true)))) (by kernel_rfl) (by rw [hs7])) (cg_then (ds := [20, 21, 22, 23]) 7 rfl (by kernel_rfl) (co_then 8 rfl (os_gy rfl rfl rfl (by kernel_rfl) (c_callQ (AC.k (RBlock.ac (h := hr8))) ⟨_, Tryd.func21, rfl, by kernel_rfl⟩ rfl (.cons (.copy (by kernel_rfl) rfl) (.cons (.copy (by kernel_rfl) rfl) (.cons (.copy (by kernel_rfl) rfl) (.nil)))) (by kernel_rfl))) (cg_then (ds := [25]) 9 rfl (by kernel_rfl) (co_then 10 rfl (os_ge (d := 26) (t := .u (.c (.v (.bool r8)))) (t' := .u (.c (.v (.bool false)))) (by kernel_rfl) (by rw [hs13])) (cg_then (ds := [27, 28, 29, 30, 31, 32]) 16 rfl (by kernel_rfl) (.nil)))))))) rfl (by kernel_rfl) ?_
          refine r_condF rfl rfl ?_
          refine r_weak (of_weak (l := [(0, .u (.c (.sl false 1 (a0.map eB)))), (3, .u (.c (.sl true 2 (v4.map eR)))), (4, .u (.c (.v (.int .i64 v2)))), (5, .u (.c (.v (.int .i64 v5))))]) (by kernel_rfl)) ?_
          refine run_cast (α := (List Blk) × Int) (fun x => [(0, .u (.c (.sl false 1 (a0.map eB)))), (3, .u (.c (.sl true 2 (x.1.map eR)))), (4, .u (.c (.v (.int .i64 v2)))), (5, .u (.c (.v (.int .i64 x.2))))]) (x := (v4, v5)) (y := y6) (Option.some.inj h) ?_
          refine r_exit ?_
          replace h := h_y6
          refine r_seq ?_
          obtain ⟨hg11, h⟩ := guard_some h
          simp only [decide_eq_true_eq] at hg11
          refine r_reg (l := [(0, .u (.c (.sl false 1 (a0.map eB)))), (3, .u (.c (.sl true 2 ((y6.1 ++ [(⟨v2, y6.2⟩ : Blk)]).map eR)))), (4, .u (.c (.v (.int .i64 v2)))), (5, .u (.c (.v (.int .i64 y6.2))))]) (co_then 1 rfl (os_plain rfl rfl (s_take (u := .c (.sl true 2 (y6.1.map eR))) (.inl rfl) (.move (by kernel_rfl) rfl) rfl (by kernel_rfl))) (cg_then (ds := [36, 37]) 3 rfl (by kernel_rfl) (co_then 4 rfl (os_plain rfl rfl (s_build (us := [(0, .c (.v (.int .i64 v2))), (1, .c (.v (.int .i64 y6.2)))]) (zs := [.v (.int .i64 0), .v (.int .i64 0)]) (cs := [.v (.int .i64 v2), .v (.int .i64 y6.2)]) rfl build33 zero33 (.cons (.copy (by kernel_rfl) (by kernel_rfl) (by kernel_rfl)) (.cons (.copy (by kernel_rfl) (by kernel_rfl) (by kernel_rfl)) (.nil))) (by kernel_rfl) rfl (by kernel_rfl))) (co_then 5 rfl (os_toG (os_plain rfl rfl (s_buildSlice (sz := 2) (len := 1) (us := [(0, .agg [.v (.int .i64 v2), .v (.int .i64 y6.2)])]) (cs := [.v (.int .i64 v2), .v (.int .i64 y6.2)]) rfl sliceZ30 (.cons (.copy (by kernel_rfl) (by kernel_rfl) (by kernel_rfl)) (.nil)) (by kernel_rfl) (Nat.le_of_ble_eq_true rfl) rfl (by kernel_rfl))) (t' := .u (.c (.sl true 2 ([(⟨v2, y6.2⟩ : Blk)].map eR)))) (by kernel_rfl)) (co_then 6 rfl (os_toG (os_plain rfl rfl (s_appendM (i := 35) (sz := 2) (rows := y6.1.map eR) (rows2 := [(⟨v2, y6.2⟩ : Blk)].map eR) rfl sliceZ30 (by kernel_rfl) (.v0 (r := 39) (lo := 0) (n := ([(⟨v2, y6.2⟩ : Blk)].map eR).length) (own := true) (rows := [(⟨v2, y6.2⟩ : Blk)].map eR) (by kernel_rfl) (by kernel_rfl) rows_all) (copy_map eR_copy) (lenMap2 hg11) (Nat.le_of_ble_eq_true rfl) rfl (by kernel_rfl))) (t' := .u (.c (.sl true 2 ((y6.1 ++ [(⟨v2, y6.2⟩ : Blk)]).map eR)))) (by rw [List.map_append])) (co_then 7 rfl (os_plain rfl rfl (s_take (u := .c (.sl true 2 ((y6.1 ++ [(⟨v2, y6.2⟩ : Blk)]).map eR))) (.inr rfl) (.move (by kernel_rfl) rfl) rfl (by kernel_rfl))) (.nil))))))) rfl (by kernel_rfl) ?_
          obtain ⟨r12, hr12, h⟩ := bind_some h
          refine r_reg (l := [(0, .u (.c (.sl false 1 (a0.map eB)))), (3, .u (.c (.sl true 2 ((y6.1 ++ [(⟨v2, y6.2⟩ : Blk)]).map eR)))), (4, .u (.c (.v (.int .i64 (IntKind.i64.wrap (v2 + r12))))))]) (cg_then (ds := [41, 42]) 2 rfl (by kernel_rfl) (co_then 3 rfl (os_plain rfl rfl (c_callQ (AC.k (paviorref01_Power.ac (h := hr12))) ⟨_, Tryd.func18, rfl, by kernel_rfl⟩ rfl (.cons (.copy (by kernel_rfl) rfl) (.nil)) (by kernel_rfl))) (cg_then (ds := [44, 4]) 5 rfl (by kernel_rfl) (.nil)))) rfl (by kernel_rfl) ?_
          exact ⟨((y6.1 ++ [(⟨v2, y6.2⟩ : Blk)]), IntKind.i64.wrap (v2 + r12)), h, of_weak (by kernel_rfl)⟩
      · have h := cond_f hb h
        have hs14 := hb
        refine r_reg (l := [(0, .u (.c (.sl false 1 (a0.map eB)))), (3, .u (.c (.sl true 2 (v4.map eR)))), (4, .u (.c (.v (.int .i64 v2)))), (5, .u (.c (.v (.int .i64 v5)))), (32, .u (.c (.v (.bool false))))]) (cg_then (ds := [17, 18]) 2 rfl (by kernel_rfl) (co_then 3 rfl (os_ge (d := 19) (t := .u (.c (.v (.bool (decide (v5 < 5)))))) (t' := .u (.c (.v (.bool false)))) (by kernel_rfl) (by rw [hs14])) (cg_then (ds := [20, 21, 22, 23, 24, 25, 26, 27, 28, 29, 30, 31, 32]) 16 rfl (by kernel_rfl) (.nil)))) rfl (by kernel_rfl) ?_
        refine r_condF rfl rfl ?_
        refine r_weak (of_weak (l := [(0, .u (.c (.sl false 1 (a0.map eB)))), (3, .u (.c (.sl true 2 (v4.map eR)))), (4, .u (.c (.v (.int .i64 v2)))), (5, .u (.c (.v (.int .i64 v5))))]) (by kernel_rfl)) ?_
        refine run_cast (α := (List Blk) × Int) (fun x => [(0, .u (.c (.sl false 1 (a0.map eB)))), (3, .u (.c (.sl true 2 (x.1.map eR)))), (4, .u (.c (.v (.int .i64 v2)))), (5, .u (.c (.v (.int .i64 x.2))))]) (x := (v4, v5)) (y := y6) (Option.some.inj h) ?_
        refine r_exit ?_
        replace h := h_y6
        refine r_seq ?_
        obtain ⟨hg11, h⟩ := guard_some h
        simp only [decide_eq_true_eq] at hg11
        refine r_reg (l := [(0, .u (.c (.sl false 1 (a0.map eB)))), (3, .u (.c (.sl true 2 ((y6.1 ++ [(⟨v2, y6.2⟩ : Blk)]).map eR)))), (4, .u (.c (.v (.int .i64 v2)))), (5, .u (.c (.v (.int .i64 y6.2))))]) (co_then 1 rfl (os_plain rfl rfl (s_take (u := .c (.sl true 2 (y6.1.map eR))) (.inl rfl) (.move (by kernel_rfl) rfl) rfl (by kernel_rfl))) (cg_then (ds := [36, 37]) 3 rfl (by kernel_rfl) (co_then 4 rfl (os_plain rfl rfl (s_build (us := [(0, .c (.v (.int .i64 v2))), (1, .c (.v (.int .i64 y6.2)))]) (zs := [.v (.int .i64 0), .v (.int .i64 0)]) (cs := [.v (.int .i64 v2), .v (.int .i64 y6.2)]) rfl build33 zero33 (.cons (.copy (by kernel_rfl) (by kernel_rfl) (by kernel_rfl)) (.cons (.copy (by kernel_rfl) (by kernel_rfl) (by kernel_rfl)) (.nil))) (by kernel_rfl) rfl (by kernel_rfl))) (co_then 5 rfl (os_toG (os_plain rfl rfl (s_buildSlice (sz := 2) (len := 1) (us := [(0, .agg [.v (.int .i64 v2), .v (.int .i64 y6.2)])]) (cs := [.v (.int .i64 v2), .v (.int .i64 y6.2)]) rfl sliceZ30 (.cons (.copy (by kernel_rfl) (by kernel_rfl) (by kernel_rfl)) (.nil)) (by kernel_rfl) (Nat.le_of_ble_eq_true rfl) rfl (by kernel_rfl))) (t' := .u (.c (.sl true 2 ([(⟨v2, y6.2⟩ : Blk)].map eR)))) (by kernel_rfl)) (co_then 6 rfl (os_toG (os_plain rfl rfl (s_appendM (i := 35) (sz := 2) (rows := y6.1.map eR) (rows2 := [(⟨v2, y6.2⟩ : Blk)].map eR) rfl sliceZ30 (by kernel_rfl) (.v0 (r := 39) (lo := 0) (n := ([(⟨v2, y6.2⟩ : Blk)].map eR).length) (own := true) (rows := [(⟨v2, y6.2⟩ : Blk)].map eR) (by kernel_rfl) (by kernel_rfl) rows_all) (copy_map eR_copy) (lenMap2 hg11) (Nat.le_of_ble_eq_true rfl) rfl (by kernel_rfl))) (t' := .u (.c (.sl true 2 ((y6.1 ++ [(⟨v2, y6.2⟩ : Blk)]).map eR)))) (by rw [List.map_append])) (co_then 7 rfl (os_plain rfl rfl (s_take (u := .c (.sl true 2 ((y6.1 ++ [(⟨v2, y6.2⟩ : Blk)]).map eR))) (.inr rfl) (.move (by kernel_rfl) rfl) rfl (by kernel_rfl))) (.nil))))))) rfl (by kernel_rfl) ?_
        obtain ⟨r12, hr12, h⟩ := bind_some h
        refine r_reg (l := [(0, .u (.c (.sl false 1 (a0.map eB)))), (3, .u (.c (.sl true 2 ((y6.1 ++ [(⟨v2, y6.2⟩ : Blk)]).map eR)))), (4, .u (.c (.v (.int .i64 (IntKind.i64.wrap (v2 + r12))))))]) (cg_then (ds := [41, 42]) 2 rfl (by kernel_rfl) (co_then 3 rfl (os_plain rfl rfl (c_callQ (AC.k (paviorref01_Power.ac (h := hr12))) ⟨_, Tryd.func18, rfl, by kernel_rfl⟩ rfl (.cons (.copy (by kernel_rfl) rfl) (.nil)) (by kernel_rfl))) (cg_then (ds := [44, 4]) 5 rfl (by kernel_rfl) (.nil)))) rfl (by kernel_rfl) ?_
        exact ⟨((y6.1 ++ [(⟨v2, y6.2⟩ : Blk)]), IntKind.i64.wrap (v2 + r12)), h, of_weak (by kernel_rfl)⟩
  · have h := cond_f hb h
    refine r_condF hb rfl ?_
    refine r_exit ?_
    refine r_seq ?_
    refine r_reg (l := [(2, .u (.c (.sl true 2 (v1.map eR))))]) (co_then 1 rfl (os_plain rfl rfl (s_take (u := .c (.sl true 2 (v1.map eR))) (.inl rfl) (.move (by kernel_rfl) rfl) rfl (by kernel_rfl))) (co_then 2 rfl (os_plain rfl rfl (s_take (u := .c (.sl true 2 (v1.map eR))) (.inr rfl) (.move (by kernel_rfl) rfl) rfl (by kernel_rfl))) (.nil))) rfl (by kernel_rfl) ?_
    refine r_ret ?_
    obtain rfl := Option.some.inj h
    exact ⟨.inr rfl, _, _, .cons (.move rfl rfl) (.nil), rfl, outs_of trivial⟩
def same.l2 (k : Nat) (a0 : Sto) (a1 : List Bool) (r1 : Sto × (List Blk)) (r2 : (List Blk)) (v3 : Int) : Nat → Sto → Int → Int → Option (Sto × Bool)
  | 0, _, _, _ => none
  | n2 + 1, v6, v7, v8 => (bif decide (v8 < (a1.length : Int)) then (bif decide (0 ≤ v8) && decide (v8 < (a1.length : Int)) then (bif (a1.getD v8.toNat false) then (IsFree.f k v6 v8).bind fun (r10 : Sto × Bool) => (bif decide (0 ≤ v8) && decide (v8 < (a1.length : Int)) then (bif !(r10.2 == (a1.getD v8.toNat false)) then some (r10.1, false) else same.l2 k a0 a1 r1 r2 v3 n2 r10.1 (IntKind.i64.wrap (v7 + 1)) (IntKind.i64.wrap (v8 + 1))) else none) else (IsFree.f k v6 v8).bind fun (r12 : Sto × Bool) => (bif decide (0 ≤ v8) && decide (v8 < (a1.length : Int)) then (bif !(r12.2 == (a1.getD v8.toNat false)) then some (r12.1, false) else same.l2 k a0 a1 r1 r2 v3 n2 r12.1 v7 (IntKind.i64.wrap (v8 + 1))) else none)) else none) else (Count.f k v6).bind fun (r14 : Sto × Int) => (bif r14.2 == v7 then (IsFree.f k r14.1 (-1)).bind fun (r16 : Sto × Bool) => (bif !r16.2 then (IsFree.f k r16.1 (a1.length : Int)).bind fun (r18 : Sto × Bool) => some (r18.1, !r18.2) else some (r16.1, false)) else some (r14.1, false)))
def same.l1 (k : Nat) (a0 : Sto) (a1 : List Bool) (r1 : Sto × (List Blk)) (r2 : (List Blk)) : Nat → Int → Option (Sto × Bool)
  | 0, _ => none
  | n1 + 1, v3 => (bif decide (v3 < (r1.2.length : Int)) then (bif decide (0 ≤ v3) && decide (v3 < (r1.2.length : Int)) then (bif decide (0 ≤ v3) && decide (v3 < (r2.length : Int)) then (bif !(((r1.2.getD ((v3).toNat) zR).f) == ((r2.getD ((v3).toNat) zR).f) && (((r1.2.getD ((v3).toNat) zR).o) == ((r2.getD ((v3).toNat) zR).o))) then some (r1.1, false) else same.l1 k a0 a1 r1 r2 n1 (IntKind.i64.wrap (v3 + 1))) else none) else none) else same.l2 k a0 a1 r1 r2 v3 k r1.1 0 0)
set_option maxHeartbeats 4000000 in
def same.f (k : Nat) (a0 : Sto) (a1 : List Bool) : Option (Sto × Bool) :=
  (Free.f k a0).bind fun (r1 : Sto × (List Blk)) => (RFree.f k a1).bind fun (r2 : (List Blk)) => (bif (r1.2.length : Int) != (r2.length : Int) then some (r1.1, false) else same.l1 k a0 a1 r1 r2 k 0)
set_option maxHeartbeats 4000000 in
theorem same.ac (k : Nat) (a0 : Sto) (a1 : List Bool) (r : Sto × Bool) (h : same.f k a0 a1 = some r) : AC Tryd.prog 38 15 [.c (storeC a0), .c (.sl false 1 (a1.map eB))] [some (.c (storeC r.1)), none] [.c (.v (.bool r.2))] := by
  unfold same.f at h
  refine ac_intro (fn := Tryd.f15) (pins := [0]) (rts := [4]) Tryd.func15 rfl Tryd.ntmps15 rfl (Nat.le_of_ble_eq_true rfl) (pins_lt rfl) rfl (fun w R E vs => ?_)
  refine r_weak (of_weak (l := [(0, .u (.c (storeC a0))), (1, .u (.c (.sl false 1 (a1.map eB))))]) (by kernel_rfl)) ?_
  refine r_seq ?_
  refine r_reg (l := [(0, .u (.c (storeC a0))), (1, .u (.c (.sl false 1 (a1.map eB))))]) (cg_then (ds := [4]) 1 rfl (by kernel_rfl) (.nil)) rfl (by kernel_rfl) ?_
  refine r_seq ?_
  obtain ⟨r1, hr1, h⟩ := bind_some h
  refine r_reg (l := [(0, .u (.c (storeC r1.1))), (1, .u (.c (.sl false 1 (a1.map eB)))), (5, .u (.c (.sl true 2 (r1.2.map eR))))]) (cg_then (ds := [10]) 1 rfl (by kernel_rfl) (co_then 2 rfl (os_plain rfl rfl (c_call (AC.k (Free.ac (h := hr1))) ⟨_, Tryd.func12, rfl, by kernel_rfl⟩ rfl (hand_root (r := 0) (c := storeC a0) (by kernel_rfl) (by kernel_rfl) rfl (.nil)) rfl (by kernel_rfl))) (co_then 3 rfl (os_plain rfl rfl (s_take (u := .c (.sl true 2 (r1.2.map eR))) (.inr rfl) (.move (by kernel_rfl) rfl) rfl (by kernel_rfl))) (.nil)))) rfl (by kernel_rfl) ?_
  refine r_seq ?_
  obtain ⟨r2, hr2, h⟩ := bind_some h
  refine r_reg (l := [(0, .u (.c (storeC r1.1))), (1, .u (.c (.sl false 1 (a1.map eB)))), (5, .u (.c (.sl true 2 (r1.2.map eR)))), (6, .u (.c (.sl true 2 (r2.map eR))))]) (cg_then (ds := [12]) 1 rfl (by kernel_rfl) (co_then 2 rfl (os_plain rfl rfl (c_callQ (AC.k (RFree.ac (h := hr2))) ⟨_, Tryd.func30, rfl, by kernel_rfl⟩ rfl (.cons (.copy (by kernel_rfl) rfl) (.nil)) (by kernel_rfl))) (co_then 3 rfl (os_plain rfl rfl (s_take (u := .c (.sl true 2 (r2.map eR))) (.inr rfl) (.move (by kernel_rfl) rfl) rfl (by kernel_rfl))) (.nil)))) rfl (by kernel_rfl) ?_
  refine r_seq ?_
  refine r_seq ?_
  refine r_reg (l := [(0, .u (.c (storeC r1.1))), (1, .u (.c (.sl false 1 (a1.map eB)))), (5, .u (.c (.sl true 2 (r1.2.map eR)))), (6, .u (.c (.sl true 2 (r2.map eR)))), (18, .u (.c (.v (.bool ((r1.2.length : Int) != (r2.length : Int))))))]) (cg_then (ds := [14]) 1 rfl (by kernel_rfl) (co_then 2 rfl (os_to (os_plain rfl rfl (s_lenV (r := 5) (lo := 0) (n := (r1.2.map eR).length) (pl := none) (sz := 2) rfl sl30 (by kernel_rfl) rfl (by kernel_rfl))) (t' := .u (.c (.v (.int .i64 (r1.2.length : Int))))) (by rw [List.length_map])) (cg_then (ds := [16]) 3 rfl (by kernel_rfl) (co_then 4 rfl (os_to (os_plain rfl rfl (s_lenV (r := 6) (lo := 0) (n := (r2.map eR).length) (pl := none) (sz := 2) rfl sl30 (by kernel_rfl) rfl (by kernel_rfl))) (t' := .u (.c (.v (.int .i64 (r2.length : Int))))) (by rw [List.length_map])) (cg_then (ds := [18]) 5 rfl (by kernel_rfl) (.nil)))))) rfl (by kernel_rfl) ?_
  rcases Bool.eq_false_or_eq_true ((r1.2.length : Int) != (r2.length : Int)) with hb | hb
  · have h := cond_t hb h
    refine r_condT hb rfl ?_
    refine r_seq ?_
    refine r_reg (l := [(0, .u (.c (storeC r1.1))), (4, .u (.c (.v (.bool false))))]) (cg_then (ds := [4]) 1 rfl (by kernel_rfl) (.nil)) rfl (by kernel_rfl) ?_
    refine r_ret ?_
    obtain rfl := Option.some.inj h
    exact ⟨.inr rfl, _, _, .cons (.copy rfl rfl rfl) (.nil), rfl, outs_of ⟨⟨rfl, rfl⟩, trivial⟩⟩
  · have h := cond_f hb h
    refine r_condF hb rfl ?_
    refine r_skip ?_
    refine r_seq ?_
    refine r_seq ?_
    refine r_reg (l := [(0, .u (.c (storeC r1.1))), (1, .u (.c (.sl false 1 (a1.map eB)))), (5, .u (.c (.sl true 2 (r1.2.map eR)))), (6, .u (.c (.sl true 2 (r2.map eR)))), (7, .u (.c (.v (.int .i64 0))))]) (cg_then (ds := [7]) 1 rfl (by kernel_rfl) (.nil)) rfl (by kernel_rfl) ?_
    refine r_block ?_
    refine r_weak (of_weak (l := [(0, .u (.c (storeC r1.1))), (1, .u (.c (.sl false 1 (a1.map eB)))), (5, .u (.c (.sl true 2 (r1.2.map eR)))), (6, .u (.c (.sl true 2 (r2.map eR)))), (7, .u (.c (.v (.int .i64 0))))]) (by kernel_rfl)) ?_
    refine r_loopI (α := Int) (fun x => [(0, .u (.c (storeC r1.1))), (1, .u (.c (.sl false 1 (a1.map eB)))), (5, .u (.c (.sl true 2 (r1.2.map eR)))), (6, .u (.c (.sl true 2 (r2.map eR)))), (7, .u (.c (.v (.int .i64 x))))]) (fun n x => same.l1 k a0 a1 r1 r2 n x = some r) k 0 h (by intro x h; unfold same.l1 at h; cases h) ?_
    rintro n1 v3 h
    replace h : same.l1 k a0 a1 r1 r2 (n1 + 1) v3 = some r := h
    unfold same.l1 at h
    show Run _ _ _ (St.of [(0, .u (.c (storeC r1.1))), (1, .u (.c (.sl false 1 (a1.map eB)))), (5, .u (.c (.sl true 2 (r1.2.map eR)))), (6, .u (.c (.sl true 2 (r2.map eR)))), (7, .u (.c (.v (.int .i64 v3))))]) _
    refine r_seq ?_
    refine r_seq ?_
    refine r_reg (l := [(0, .u (.c (storeC r1.1))), (1, .u (.c (.sl false 1 (a1.map eB)))), (5, .u (.c (.sl true 2 (r1.2.map eR)))), (6, .u (.c (.sl true 2 (r2.map eR)))), (7, .u (.c (.v (.int .i64 v3)))), (22, .u (.c (.v (.bool (decide (v3 < (r1.2.length : Int)))))))]) (cg_then (ds := [19, 20]) 2 rfl (by kernel_rfl) (co_then 3 rfl (os_to (os_plain rfl rfl (s_lenV (r := 5) (lo := 0) (n := (r1.2.map eR).length) (pl := none) (sz := 2) rfl sl30 (by kernel_rfl) rfl (by kernel_rfl))) (t' := .u (.c (.v (.int .i64 (r1.2.length : Int))))) (by rw [List.length_map])) (cg_then (ds := [22]) 4 rfl (by kernel_rfl) (.nil)))) rfl (by kernel_rfl) ?_
    rcases Bool.eq_false_or_eq_true (decide (v3 < (r1.2.length : Int))) with hb | hb
    · have h := cond_t hb h
      refine r_condT hb rfl ?_
      refine r_skip ?_
      refine r_seq ?_
      refine r_block ?_
      refine r_seq ?_
      obtain ⟨hg4, h⟩ := guard_some h
      simp only [Bool.and_eq_true, decide_eq_true_eq] at hg4
      obtain ⟨hg5, h⟩ := guard_some h
      simp only [Bool.and_eq_true, decide_eq_true_eq] at hg5
      refine r_weak (of_weak (l := [(0, .u (.c (storeC r1.1))), (1, .u (.c (.sl false 1 (a1.map eB)))), (5, .u (.c (.sl true 2 (r1.2.map eR)))), (6, .u (.c (.sl true 2 (r2.map eR)))), (7, .u (.c (.v (.int .i64 v3)))), (22, .u (.c (.v (.bool (decide (v3 < (r1.2.length : Int)))))))]) (by kernel_rfl)) ?_
      refine r_anyW (l := [(0, .u (.c (storeC r1.1))), (1, .u (.c (.sl false 1 (a1.map eB)))), (5, .u (.c (.sl true 2 (r1.2.map eR)))), (6, .u (.c (.sl true 2 (r2.map eR)))), (7, .u (.c (.v (.int .i64 v3)))), (33, .u (.c (.v (.bool (!(((r1.2.getD ((v3).toNat) zR).f) == ((r2.getD ((v3).toNat) zR).f) && (((r1.2.getD ((v3).toNat) zR).o) == ((r2.getD ((v3).toNat) zR).o))))))))]) (tab := [[], [], [0, 1], [2], [], [], [4, 5], [6], [3, 7]]) [⟨[], [5], [(25, .whole 5 none 2 ((r1.2.map eR).length))], some 25, false⟩, ⟨[], [7], [(26, .u (.c (.v (.int .i64 v3))))], some 26, false⟩, ⟨[0, 1], [5, 25, 26], [(27, .addr 5 (.i ((v3).toNat) 2) [] 0)], some 27, false⟩, ⟨[0, 1, 2], [5, 27], [(28, .u (.agg [.v (.int .i64 ((r1.2.getD ((v3).toNat) zR).f)), .v (.int .i64 ((r1.2.getD ((v3).toNat) zR).o))]))], some 28, false⟩, ⟨[], [6], [(29, .whole 6 none 2 ((r2.map eR).length))], some 29, false⟩, ⟨[], [7], [(30, .u (.c (.v (.int .i64 v3))))], some 30, false⟩, ⟨[4, 5], [6, 29, 30], [(31, .addr 6 (.i ((v3).toNat) 2) [] 0)], some 31, false⟩, ⟨[4, 5, 6], [6, 31], [(32, .u (.agg [.v (.int .i64 ((r2.getD ((v3).toNat) zR).f)), .v (.int .i64 ((r2.getD ((v3).toNat) zR).o))]))], some 32, false⟩, ⟨[0, 1, 2, 3, 4, 5, 6, 7], [28, 32], [(33, .u (.c (.v (.bool (!(((r1.2.getD ((v3).toNat) zR).f) == ((r2.getD ((v3).toNat) zR).f) && (((r1.2.getD ((v3).toNat) zR).o) == ((r2.getD ((v3).toNat) zR).o))))))))], some 33, false⟩] hm (by kernel_rfl) (by kernel_rfl) (by kernel_rfl) (.cons (fun σ hc => e_g (d := 25) (t := .whole 5 none 2 ((r1.2.map eR).length)) hc rfl rfl (by kernel_rfl)) (.cons (fun σ hc => e_g (d := 26) (t := .u (.c (.v (.int .i64 v3)))) hc rfl rfl (by kernel_rfl)) (.cons (fun σ hc => e_put hc rfl rfl (os_plain rfl rfl (s_indexV (r := 5) (lo := 0) (n := (r1.2.map eR).length) (pl := none) (sz := 2) (e := v3) (ik := .i64) (k := (v3).toNat) rfl sl30 (by kernel_rfl) (.tmp (by kernel_rfl)) hg4.1 (by rw [List.length_map]; exact hg4.2) (Nat.zero_add _) rfl (by kernel_rfl) (by kernel_rfl)))) (.cons (fun σ hc => e_put hc rfl rfl (os_plain rfl rfl (s_loadA (n := 2) (xs := [.v (.int .i64 ((r1.2.getD ((v3).toNat) zR).f)), .v (.int .i64 ((r1.2.getD ((v3).toNat) zR).o))]) (r := 5) (off := 0) (s := .i ((v3).toNat) 2) (p := []) (c := .sl true 2 (r1.2.map eR)) (cs := eR (r1.2.getD ((v3).toNat) zR)) rfl (aggB_ok (by kernel_rfl)) (by kernel_rfl) (by kernel_rfl) (getP_map zR (by have := hg4; omega)) rfl rfl rfl rfl (by kernel_rfl)))) (.cons (fun σ hc => e_g (d := 29) (t := .whole 6 none 2 ((r2.map eR).length)) hc rfl rfl (by kernel_rfl)) (.cons (fun σ hc => e_g (d := 30) (t := .u (.c (.v (.int .i64 v3)))) hc rfl rfl (by kernel_rfl)) (.cons (fun σ hc => e_put hc rfl rfl (os_plain rfl rfl (s_indexV (r := 6) (lo := 0) (n := (r2.map eR).length) (pl := none) (sz := 2) (e := v3) (ik := .i64) (k := (v3).toNat) rfl sl30 (by kernel_rfl) (.tmp (by kernel_rfl)) hg5.1 (by rw [List.length_map]; exact hg5.2) (Nat.zero_add _) rfl (by kernel_rfl) (by kernel_rfl)))) (.cons (fun σ hc => e_put hc rfl rfl (os_plain rfl rfl (s_loadA (n := 2) (xs := [.v (.int .i64 ((r2.getD ((v3).toNat) zR).f)), .v (.int .i64 ((r2.getD ((v3).toNat) zR).o))]) (r := 6) (off := 0) (s := .i ((v3).toNat) 2) (p := []) (c := .sl true 2 (r2.map eR)) (cs := eR (r2.getD ((v3).toNat) zR)) rfl (aggB_ok (by kernel_rfl)) (by kernel_rfl) (by kernel_rfl) (getP_map zR (by have := hg5; omega)) rfl rfl rfl rfl (by kernel_rfl)))) (.cons (fun σ hc => e_put hc rfl rfl (os_plain rfl rfl (s_eqA (b := ((r1.2.getD ((v3).toNat) zR).f) == ((r2.getD ((v3).toNat) zR).f) && (((r1.2.getD ((v3).toNat) zR).o) == ((r2.getD ((v3).toNat) zR).o))) rfl (.inr rfl) eqAgg33 (by kernel_rfl) rfl rfl rfl rfl rfl rfl (by kernel_rfl)))) (.nil)))))))))) (by kernel_rfl) ?_
      rcases Bool.eq_false_or_eq_true (!(((r1.2.getD ((v3).toNat) zR).f) == ((r2.getD ((v3).toNat) zR).f) && (((r1.2.getD ((v3).toNat) zR).o) == ((r2.getD ((v3).toNat) zR).o)))) with hb | hb
      · have h := cond_t hb h
        refine r_condT hb rfl ?_
        refine r_seq ?_
        refine r_reg (l := [(0, .u (.c (storeC r1.1))), (4, .u (.c (.v (.bool false))))]) (cg_then (ds := [4]) 1 rfl (by kernel_rfl) (.nil)) rfl (by kernel_rfl) ?_
        refine r_ret ?_
        obtain rfl := Option.some.inj h
        exact ⟨.inr rfl, _, _, .cons (.copy rfl rfl rfl) (.nil), rfl, outs_of ⟨⟨rfl, rfl⟩, trivial⟩⟩
      · have h := cond_f hb h
        refine r_condF hb rfl ?_
        refine r_skip ?_
        refine r_reg (l := [(0, .u (.c (storeC r1.1))), (1, .u (.c (.sl false 1 (a1.map eB)))), (5, .u (.c (.sl true 2 (r1.2.map eR)))), (6, .u (.c (.sl true 2 (r2.map eR)))), (7, .u (.c (.v (.int .i64 (IntKind.i64.wrap (v3 + 1))))))]) (cg_then (ds := [23, 24, 7]) 3 rfl (by kernel_rfl) (.nil)) rfl (by kernel_rfl) ?_
        exact ⟨IntKind.i64.wrap (v3 + 1), h, of_weak (by kernel_rfl)⟩
    · have h := cond_f hb h
      refine r_condF hb rfl ?_
      refine r_exit ?_
      refine r_seq ?_
      refine r_reg (l := [(0, .u (.c (storeC r1.1))), (1, .u (.c (.sl false 1 (a1.map eB)))), (8, .u (.c (.v (.int .i64 0))))]) (cg_then (ds := [8]) 1 rfl (by kernel_rfl) (.nil)) rfl (by kernel_rfl) ?_
      refine r_seq ?_
      refine r_seq ?_
      refine r_reg (l := [(0, .u (.c (storeC r1.1))), (1, .u (.c (.sl false 1 (a1.map eB)))), (8, .u (.c (.v (.int .i64 0)))), (9, .u (.c (.v (.int .i64 0))))]) (cg_then (ds := [9]) 1 rfl (by kernel_rfl) (.nil)) rfl (by kernel_rfl) ?_
      refine r_block ?_
      refine r_weak (of_weak (l := [(0, .u (.c (storeC r1.1))), (1, .u (.c (.sl false 1 (a1.map eB)))), (8, .u (.c (.v (.int .i64 0)))), (9, .u (.c (.v (.int .i64 0))))]) (by kernel_rfl)) ?_
      refine r_loopI (α := Sto × Int × Int) (fun x => [(0, .u (.c (storeC x.1))), (1, .u (.c (.sl false 1 (a1.map eB)))), (8, .u (.c (.v (.int .i64 x.2.1)))), (9, .u (.c (.v (.int .i64 x.2.2))))]) (fun n x => same.l2 k a0 a1 r1 r2 v3 n x.1 x.2.1 x.2.2 = some r) k (r1.1, 0, 0) h (by intro x h; unfold same.l2 at h; cases h) ?_
      rintro n2 ⟨v6, v7, v8⟩ h
      replace h : same.l2 k a0 a1 r1 r2 v3 (n2 + 1) v6 v7 v8 = some r := h
      unfold same.l2 at h
      show Run _ _ _ (St.of [(0, .u (.c (storeC v6))), (1, .u (.c (.sl false 1 (a1.map eB)))), (8, .u (.c (.v (.int .i64 v7)))), (9, .u (.c (.v (.int .i64 v8))))]) _
      refine r_seq ?_
      refine r_seq ?_
      refine r_reg (l := [(0, .u (.c (storeC v6))), (1, .u (.c (.sl false 1 (a1.map eB)))), (8, .u (.c (.v (.int .i64 v7)))), (9, .u (.c (.v (.int .i64 v8)))), (37, .u (.c (.v (.bool (decide (v8 < (a1.length : Int)))))))]) (cg_then (ds := [34, 35]) 2 rfl (by kernel_rfl) (co_then 3 rfl (os_to (os_plain rfl rfl (s_lenU (own := false) (sz := 1) (rows := (a1.map eB)) rfl sl41 (by kernel_rfl) rfl (by kernel_rfl))) (t' := .u (.c (.v (.int .i64 (a1.length : Int))))) (by rw [List.length_map])) (cg_then (ds := [37]) 4 rfl (by kernel_rfl) (.nil)))) rfl (by kernel_rfl) ?_
      rcases Bool.eq_false_or_eq_true (decide (v8 < (a1.length : Int))) with hb | hb
      · have h := cond_t hb h
        refine r_condT hb rfl ?_
        refine r_skip ?_
        refine r_seq ?_
        refine r_block ?_
        refine r_seq ?_
        refine r_seq ?_
        obtain ⟨hg9, h⟩ := guard_some h
        simp only [Bool.and_eq_true, decide_eq_true_eq] at hg9
        refine r_reg (l := [(0, .u (.c (storeC v6))), (1, .u (.c (.sl false 1 (a1.map eB)))), (8, .u (.c (.v (.int .i64 v7)))), (9, .u (.c (.v (.int .i64 v8)))), (43, .u (.c (.v (.bool (a1.getD v8.toNat false)))))]) (cg_then (ds := [40, 41]) 2 rfl (by kernel_rfl) (co_then 3 rfl (os_plain rfl rfl (s_indexU (own := false) (sz := 1) (rows := (a1.map eB)) (e := v8) (ik := .i64) rfl sl41 (by kernel_rfl) (.tmp (by kernel_rfl)) hg9.1 (by rw [List.length_map]; exact hg9.2) rfl (by kernel_rfl) (by kernel_rfl))) (co_then 4 rfl (os_plain rfl rfl (s_load1 (x := .v (.bool (a1.getD v8.toNat false))) (r := 40) (off := 0) (s := .i v8.toNat 1) (p := []) (c := .sl false 1 (a1.map eB)) (cs := eB (a1.getD v8.toNat false)) rfl (oneB_ok (by kernel_rfl)) (by kernel_rfl) (by kernel_rfl) (getP_map false (by have := hg9; omega)) rfl rfl rfl (by kernel_rfl))) (.nil)))) rfl (by kernel_rfl) ?_
        rcases Bool.eq_false_or_eq_true ((a1.getD v8.toNat false)) with hb | hb
        · have h := cond_t hb h
          refine r_condT hb rfl ?_
          refine r_reg (l := [(0, .u (.c (storeC v6))), (1, .u (.c (.sl false 1 (a1.map eB)))), (8, .u (.c (.v (.int .i64 (IntKind.i64.wrap (v7 + 1)))))), (9, .u (.c (.v (.int .i64 v8))))]) (cg_then (ds := [44, 45, 8]) 3 rfl (by kernel_rfl) (.nil)) rfl (by kernel_rfl) ?_
          refine r_seq ?_
          obtain ⟨r10, hr10, h⟩ := bind_some h
          obtain ⟨hg11, h⟩ := guard_some h
          simp only [Bool.and_eq_true, decide_eq_true_eq] at hg11
          refine r_weak (of_weak (l := [(0, .u (.c (storeC v6))), (1, .u (.c (.sl false 1 (a1.map eB)))), (8, .u (.c (.v (.int .i64 (IntKind.i64.wrap (v7 + 1)))))), (9, .u (.c (.v (.int .i64 v8))))]) (by kernel_rfl)) ?_
          refine r_anyW (l := [(0, .u (.c (storeC r10.1))), (1, .u (.c (.sl false 1 (a1.map eB)))), (8, .u (.c (.v (.int .i64 (IntKind.i64.wrap (v7 + 1)))))), (9, .u (.c (.v (.int .i64 v8)))), (53, .u (.c (.v (.bool (!(r10.2 == (a1.getD v8.toNat false)))))))]) (tab := [[], [], [0, 1], [], [], [3, 4], [5], [2, 6]]) [⟨[], [0], [(46, .addr 0 (.d) [] 0)], some 46, false⟩, ⟨[], [9], [(47, .u (.c (.v (.int .i64 v8))))], some 47, false⟩, ⟨[0, 1], [0, 46, 47], [(48, .u (.c (.v (.bool r10.2)))), (0, .u (.c (storeC r10.1)))], some 48, true⟩, ⟨[], [1], [(49, .u (.c (.sl false 1 (a1.map eB))))], some 49, false⟩, ⟨[], [9], [(50, .u (.c (.v (.int .i64 v8))))], some 50, false⟩, ⟨[3, 4], [49, 50], [(51, .addr 49 (.i v8.toNat 1) [] 0)], some 51, false⟩, ⟨[3, 4, 5], [49, 51], [(52, .u (.c (.v (.bool (a1.getD v8.toNat false)))))], some 52, false⟩, ⟨[0, 1, 2, 3, 4, 5, 6], [48, 52], [(53, .u (.c (.v (.bool (!(r10.2 == (a1.getD v8.toNat false)))))))], some 53, false⟩] hm (by kernel_rfl) (by kernel_rfl) (by kernel_rfl) (.cons (fun σ hc => e_g (d := 46) (t := .addr 0 (.d) [] 0) hc rfl rfl (by kernel_rfl)) (.cons (fun σ hc => e_g (d := 47) (t := .u (.c (.v (.int .i64 v8)))) hc rfl rfl (by kernel_rfl)) (.cons (fun σ hc => e_eq (os_plain rfl rfl (c_call (outs := [some (.c (storeC r10.1)), none]) (res := [.c (.v (.bool r10.2))]) (AC.k (IsFree.ac (h := hr10))) ⟨_, Tryd.func19, rfl, by kernel_rfl⟩ rfl (hand_root (r := 0) (c := storeC v6) (by kernel_rfl) (by kernel_rfl) rfl (.rd (.copy (by kernel_rfl) rfl) (.nil))) rfl (by kernel_rfl))) (hand_put_over hc rfl rfl rfl rfl)) (.cons (fun σ hc => e_g (d := 49) (t := .u (.c (.sl false 1 (a1.map eB)))) hc rfl rfl (by kernel_rfl)) (.cons (fun σ hc => e_g (d := 50) (t := .u (.c (.v (.int .i64 v8)))) hc rfl rfl (by kernel_rfl)) (.cons (fun σ hc => e_put hc rfl rfl (os_plain rfl rfl (s_indexU (own := false) (sz := 1) (rows := (a1.map eB)) (e := v8) (ik := .i64) rfl sl41 (by kernel_rfl) (.tmp (by kernel_rfl)) hg11.1 (by rw [List.length_map]; exact hg11.2) rfl (by kernel_rfl) (by kernel_rfl)))) (.cons (fun σ hc => e_put hc rfl rfl (os_plain rfl rfl (s_load1 (x := .v (.bool (a1.getD v8.toNat false))) (r := 49) (off := 0) (s := .i v8.toNat 1) (p := []) (c := .sl false 1 (a1.map eB)) (cs := eB (a1.getD v8.toNat false)) rfl (oneB_ok (by kernel_rfl)) (by kernel_rfl) (by kernel_rfl) (getP_map false (by have := hg11; omega)) rfl rfl rfl (by kernel_rfl)))) (.cons (fun σ hc => e_g (d := 53) (t := .u (.c (.v (.bool (!(r10.2 == (a1.getD v8.toNat false))))))) hc rfl rfl (by kernel_rfl)) (.nil))))))))) (by kernel_rfl) ?_
          rcases Bool.eq_false_or_eq_true (!(r10.2 == (a1.getD v8.toNat false))) with hb | hb
          · have h := cond_t hb h
            refine r_condT hb rfl ?_
            refine r_seq ?_
            refine r_reg (l := [(0, .u (.c (storeC r10.1))), (4, .u (.c (.v (.bool false))))]) (cg_then (ds := [4]) 1 rfl (by kernel_rfl) (.nil)) rfl (by kernel_rfl) ?_
            refine r_ret ?_
            obtain rfl := Option.some.inj h
            exact ⟨.inr rfl, _, _, .cons (.copy rfl rfl rfl) (.nil), rfl, outs_of ⟨⟨rfl, rfl⟩, trivial⟩⟩
          · have h := cond_f hb h
            refine r_condF hb rfl ?_
            refine r_skip ?_
            refine r_reg (l := [(0, .u (.c (storeC r10.1))), (1, .u (.c (.sl false 1 (a1.map eB)))), (8, .u (.c (.v (.int .i64 (IntKind.i64.wrap (v7 + 1)))))), (9, .u (.c (.v (.int .i64 (IntKind.i64.wrap (v8 + 1))))))]) (cg_then (ds := [38, 39, 9]) 3 rfl (by kernel_rfl) (.nil)) rfl (by kernel_rfl) ?_
            exact ⟨(r10.1, IntKind.i64.wrap (v7 + 1), IntKind.i64.wrap (v8 + 1)), h, of_weak (by kernel_rfl)⟩
        · have h := cond_f hb h
          refine r_condF hb rfl ?_
          refine r_skip ?_
          refine r_seq ?_
          obtain ⟨r12, hr12, h⟩ := bind_some h
          obtain ⟨hg13, h⟩ := guard_some h
          simp only [Bool.and_eq_true, decide_eq_true_eq] at hg13
          refine r_weak (of_weak (l := [(0, .u (.c (storeC v6))), (1, .u (.c (.sl false 1 (a1.map eB)))), (8, .u (.c (.v (.int .i64 v7)))), (9, .u (.c (.v (.int .i64 v8)))), (43, .u (.c (.v (.bool (a1.getD v8.toNat false)))))]) (by kernel_rfl)) ?_
          refine r_anyW (l := [(0, .u (.c (storeC r12.1))), (1, .u (.c (.sl false 1 (a1.map eB)))), (8, .u (.c (.v (.int .i64 v7)))), (9, .u (.c (.v (.int .i64 v8)))), (53, .u (.c (.v (.bool (!(r12.2 == (a1.getD v8.toNat false)))))))]) (tab := [[], [], [0, 1], [], [], [3, 4], [5], [2, 6]]) [⟨[], [0], [(46, .addr 0 (.d) [] 0)], some 46, false⟩, ⟨[], [9], [(47, .u (.c (.v (.int .i64 v8))))], some 47, false⟩, ⟨[0, 1], [0, 46, 47], [(48, .u (.c (.v (.bool r12.2)))), (0, .u (.c (storeC r12.1)))], some 48, true⟩, ⟨[], [1], [(49, .u (.c (.sl false 1 (a1.map eB))))], some 49, false⟩, ⟨[], [9], [(50, .u (.c (.v (.int .i64 v8))))], some 50, false⟩, ⟨[3, 4], [49, 50], [(51, .addr 49 (.i v8.toNat 1) [] 0)], some 51, false⟩, ⟨[3, 4, 5], [49, 51], [(52, .u (.c (.v (.bool (a1.getD v8.toNat false)))))], some 52, false⟩, ⟨[0, 1, 2, 3, 4, 5, 6], [48, 52], [(53, .u (.c (.v (.bool (!(r12.2 == (a1.getD v8.toNat false)))))))], some 53, false⟩] hm (by kernel_rfl) (by kernel_rfl) (by kernel_rfl) (.cons (fun σ hc => e_g (d := 46) (t := .addr 0 (.d) [] 0) hc rfl rfl (by kernel_rfl)) (.cons (fun σ hc => e_g (d := 47) (t := .u (.c (.v (.int .i64 v8)))) hc rfl rfl (by kernel_rfl)) (.cons (fun σ hc => e_eq (os_plain rfl rfl (c_call (outs := [some (.c (storeC r12.1)), none]) (res := [.c (.v (.bool r12.2))]) (AC.k (IsFree.ac (h := hr12))) ⟨_, Tryd.func19, rfl, by kernel_rfl⟩ rfl (hand_root (r := 0) (c := storeC v6) (by kernel_rfl) (by kernel_rfl) rfl (.rd (.copy (by kernel_rfl) rfl) (.nil))) rfl (by kernel_rfl))) (hand_put_over hc rfl rfl rfl rfl)) (.cons (fun σ hc => e_g (d := 49) (t := .u (.c (.sl false 1 (a1.map eB)))) hc rfl rfl (by kernel_rfl)) (.cons (fun σ hc => e_g (d := 50) (t := .u (.c (.v (.int .i64 v8)))) hc rfl rfl (by kernel_rfl)) (.cons (fun σ hc => e_put hc rfl rfl (os_plain rfl rfl (s_indexU (own := false) (sz := 1) (rows := (a1.map eB)) (e := v8) (ik := .i64) rfl sl41 (by kernel_rfl) (.tmp (by kernel_rfl)) hg13.1 (by rw [List.length_map]; exact hg13.2) rfl (by kernel_rfl) (by kernel_rfl)))) (.cons (fun σ hc => e_put hc rfl rfl (os_plain rfl rfl (s_load1 (x := .v (.bool (a1.getD v8.toNat false))) (r := 49) (off := 0) (s := .i v8.toNat 1) (p := []) (c := .sl false 1 (a1.map eB)) (cs := eB (a1.getD v8.toNat false)) rfl (oneB_ok (by kernel_rfl)) (by kernel_rfl) (by kernel_rfl) (getP_map false (by have := hg13; omega)) rfl rfl rfl (by kernel_rfl)))) (.cons (fun σ hc => e_g (d := 53) (t := .u (.c (.v (.bool (!(r12.2 == (a1.getD v8.toNat false))))))) hc rfl rfl (by kernel_rfl)) (.nil))))))))) (by kernel_rfl) ?_
          rcases Bool.eq_false_or_eq_true (!(r12.2 == (a1.getD v8.toNat false))) with hb | hb
          · have h := cond_t hb h
            refine r_condT hb rfl ?_
            refine r_seq ?_
            refine r_reg (l := [(0, .u (.c (storeC r12.1))), (4, .u (.c (.v (.bool false))))]) (cg_then (ds := [4]) 1 rfl (by kernel_rfl) (.nil)) rfl (by kernel_rfl) ?_
            refine r_ret ?_
            obtain rfl := Option.some.inj h
            exact ⟨.inr rfl, _, _, .cons (.copy rfl rfl rfl) (.nil), rfl, outs_of ⟨⟨rfl, rfl⟩, trivial⟩⟩
          · have h := cond_f hb h
            refine r_condF hb rfl ?_
            refine r_skip ?_
            refine r_reg (l := [(0, .u (.c (storeC r12.1))), (1, .u (.c (.sl false 1 (a1.map eB)))), (8, .u (.c (.v (.int .i64 v7)))), (9, .u (.c (.v (.int .i64 (IntKind.i64.wrap (v8 + 1))))))]) (cg_then (ds := [38, 39, 9]) 3 rfl (by kernel_rfl) (.nil)) rfl (by kernel_rfl) ?_
            exact ⟨(r12.1, v7, IntKind.i64.wrap (v8 + 1)), h, of_weak (by kernel_rfl)⟩
      · have h := cond_f hb h
        refine r_condF hb rfl ?_
        refine r_exit ?_
        refine r_seq ?_
        obtain ⟨r14, hr14, h⟩ := bind_some h
        rcases Bool.eq_false_or_eq_true (r14.2 == v7) with hb | hb
        · have h := cond_t hb h
          have hs15 := hb
          obtain ⟨r16, hr16, h⟩ := bind_some h
          rcases Bool.eq_false_or_eq_true (!r16.2) with hb | hb
          · have h := cond_t hb h
            have hs17 := hb
            obtain ⟨r18, hr18, h⟩ := bind_some h
            refine r_reg (l := [(0, .u (.c (storeC r18.1))), (4, .u (.c (.v (.bool (!r18.2)))))]) (cg_then (ds := [54]) 1 rfl (by kernel_rfl) (co_then 2 rfl (os_plain rfl rfl (c_call (AC.k (Count.ac (h := hr14))) ⟨_, Tryd.func14, rfl, by kernel_rfl⟩ rfl (hand_root (r := 0) (c := storeC v6) (by kernel_rfl) (by kernel_rfl) rfl (.nil)) rfl (by kernel_rfl))) (cg_then (ds := [56, 57]) 4 rfl (by kernel_rfl) (co_then 5 rfl (os_ge (d := 58) (t := .u (.c (.v (.bool (r14.2 == v7))))) (t' := .u (.c (.v (.bool true)))) (by kernel_rfl) (by rw [hs15])) (cg_then (ds := [59]) 6 rfl (by kernel_rfl) (co_then 7 rfl (os_gy rfl rfl rfl (by kernel_rfl) (c_call (AC.k (IsFree.ac (h := hr16))) ⟨_, Tryd.func19, rfl, by kernel_rfl⟩ rfl (hand_root (r := 0) (c := storeC r14.1) (by kernel_rfl) (by kernel_rfl) rfl (.rd (.copy (by kernel_rfl) rfl) (.nil))) rfl (by kernel_rfl))) (cg_then (ds := [61, 62]) 9 rfl (by kernel_rfl) (co_then 10 rfl (os_ge (d := 63) (t := .u (.c (.v (.bool (!r16.2))))) (t' := .u (.c (.v (.bool true)))) (by kernel_rfl) (by rw [hs17])) (cg_then (ds := [64, 65]) 12 rfl (by kernel_rfl) (co_then 13 rfl (os_to (os_gy rfl rfl rfl (by kernel_rfl) (s_lenU (own := false) (sz := 1) (rows := (a1.map eB)) rfl sl41 (by kernel_rfl) rfl (by kernel_rfl))) (t' := .u (.c (.v (.int .i64 (a1.length : Int))))) (by rw [List.length_map])) (co_then 14 rfl (os_gy rfl rfl rfl (by kernel_rfl) (c_call (AC.k (IsFree.ac (h := hr18))) ⟨_, Tryd.func19, rfl, by kernel_rfl⟩ rfl (hand_root (r := 0) (c := storeC r16.1) (by kernel_rfl) (by kernel_rfl) rfl (.rd (.copy (by kernel_rfl) rfl) (.nil))) rfl (by kernel_rfl))) (cg_then (ds := [68, 69, 4]) 17 rfl (by kernel_rfl) (.nil))))))))))))) rfl (by kernel_rfl) ?_
            refine r_ret ?_
            obtain rfl := Option.some.inj h
            exact ⟨.inr rfl, _, _, .cons (.copy rfl rfl rfl) (.nil), rfl, outs_of ⟨⟨rfl, rfl⟩, trivial⟩⟩
          · have h := cond_f hb h
            have hs19 := hb
            refine r_reg (l := [(0, .u (.c (storeC r16.1))), (4, .u (.c (.v (.bool false))))]) (cg_then (ds := [54]) 1 rfl (by kernel_rfl) (co_then 2 rfl (os_plain rfl rfl (c_call (AC.k (Count.ac (h := hr14))) ⟨_, Tryd.func14, rfl, by kernel_rfl⟩ rfl (hand_root (r := 0) (c := storeC v6) (by kernel_rfl) (by kernel_rfl) rfl (.nil)) rfl (by kernel_rfl))) (cg_then (ds := [56, 57]) 4 rfl (by kernel_rfl) (co_then 5 rfl (os_ge (d := 58) (t := .u (.c (.v (.bool (r14.2 == v7))))) (t' := .u (.c (.v (.bool true)))) (by kernel_rfl) (by rw [hs15])) (cg_then (ds := [59]) 6 rfl (by kernel_rfl) (co_then 7 rfl (os_gy rfl rfl rfl (by kernel_rfl) (c_call (AC.k (IsFree.ac (h := hr16))) ⟨_, Tryd.func19, rfl, by kernel_rfl⟩ rfl (hand_root (r := 0) (c := storeC r14.1) (by kernel_rfl) (by kernel_rfl) rfl (.rd (.copy (by kernel_rfl) rfl) (.nil))) rfl (by kernel_rfl))) (cg_then (ds := [61, 62]) 9 rfl (by kernel_rfl) (co_then 10 rfl (os_ge (d := 63) (t := .u (.c (.v (.bool (!r16.2))))) (t' := .u (.c (.v (.bool false)))) (by kernel_rfl) (by rw [hs19])) (cg_then (ds := [64, 65, 66, 67, 68, 69, 4]) 17 rfl (by kernel_rfl) (.nil)))))))))) rfl (by kernel_rfl) ?_
            refine r_ret ?_
            obtain rfl := Option.some.inj h
            exact ⟨.inr rfl, _, _, .cons (.copy rfl rfl rfl) (.nil), rfl, outs_of ⟨⟨rfl, rfl⟩, trivial⟩⟩
        · have h := cond_f hb h
          have hs20 := hb
          refine r_reg (l := [(0, .u (.c (storeC r14.1))), (4, .u (.c (.v (.bool false))))]) (cg_then (ds := [54]) 1 rfl (by kernel_rfl) (co_then 2 rfl (os_plain rfl rfl (c_call (AC.k (Count.ac (h := hr14))) ⟨_, Tryd.func14, rfl, by kernel_rfl⟩ rfl (hand_root (r := 0) (c := storeC v6) (by kernel_rfl) (by kernel_rfl) rfl (.nil)) rfl (by kernel_rfl))) (cg_then (ds := [56, 57]) 4 rfl (by kernel_rfl) (co_then 5 rfl (os_ge (d := 58) (t := .u (.c (.v (.bool (r14.2 == v7))))) (t' := .u (.c (.v (.bool false)))) (by kernel_rfl) (by rw [hs20])) (cg_then (ds := [59, 60, 61, 62, 63, 64, 65, 66, 67, 68, 69, 4]) 17 rfl (by kernel_rfl) (.nil)))))) rfl (by kernel_rfl) ?_
          refine r_ret ?_
          obtain rfl := Option.some.inj h
          exact ⟨.inr rfl, _, _, .cons (.copy rfl rfl rfl) (.nil), rfl, outs_of ⟨⟨rfl, rfl⟩, trivial⟩⟩
set_option maxHeartbeats 4000000 in
def BuddyNew.f (k : Nat) (a0 : Int) : Option (Bool) :=
  (up.f k).bind fun (r1 : Bool) => (New.f k a0).bind fun (r2 : Sto × (Option Int)) => (bif decide (a0 < 1) then (bif r1 then some false else some false) else (bif decide (a0 > 512) then (bif r1 then some false else some false) else (bif r1 then (bif r2.2 == none then (RNew.f k a0).bind fun (r11 : (List Bool)) => (same.f k r2.1 r11).bind fun (r12 : Sto × Bool) => some r12.2 else some false) else some false)))
set_option maxHeartbeats 4000000 in
theorem BuddyNew.ac (k : Nat) (a0 : Int) (r : Bool) (h : BuddyNew.f k a0 = some r) : ACD Tryd.prog 38 4 [.c (.v (.int .i64 a0))] [none] [.c (.v (.bool r))] := by
  unfold BuddyNew.f at h
  refine act_intro (fn := Tryd.f4) (pins := []) (rts := [2]) Tryd.func4 rfl Tryd.ntmps4 rfl (Nat.le_of_ble_eq_true rfl) (pins_lt rfl) rfl (fun w R E vs hT => ?_)
  refine r_weak (of_weak (l := [(0, .u (.c (.v (.int .i64 a0))))]) (by kernel_rfl)) ?_
  refine r_seq ?_
  refine r_reg (l := [(0, .u (.c (.v (.int .i64 a0))))]) (cg_then (ds := [2]) 1 rfl (by kernel_rfl) (.nil)) rfl (by kernel_rfl) ?_
  refine r_seq ?_
  obtain ⟨r1, hr1, h⟩ := bind_some h
  refine r_reg (l := [(0, .u (.c (.v (.int .i64 a0)))), (3, .u (.c (.v (.bool r1))))]) (co_then 1 rfl (os_plain rfl rfl (c_callQ (ACT.k hT (up.ac (h := hr1))) ⟨_, Tryd.func8, rfl, by kernel_rfl⟩ rfl (.nil) (by kernel_rfl))) (cg_then (ds := [3]) 2 rfl (by kernel_rfl) (.nil))) rfl (by kernel_rfl) ?_
  refine r_seq ?_
  obtain ⟨r2, hr2, h⟩ := bind_some h
  refine r_reg (l := [(0, .u (.c (.v (.int .i64 a0)))), (3, .u (.c (.v (.bool r1)))), (4, .u (.c (storeC r2.1))), (5, .u (.c (.err r2.2)))]) (cg_then (ds := [8]) 1 rfl (by kernel_rfl) (co_then 2 rfl (os_plain rfl rfl (c_callQ (ACT.k hT (New.ac (h := hr2))) ⟨_, Tryd.func10, rfl, by kernel_rfl⟩ rfl (.cons (.copy (by kernel_rfl) rfl) (.nil)) (by kernel_rfl))) (co_then 3 rfl (os_plain rfl rfl (s_moveT (us := [.c (storeC r2.1), .c (.err r2.2)]) (.inl rfl) (by kernel_rfl) rfl (by kernel_rfl))) (co_then 4 rfl (os_plain rfl rfl (s_xmove (us := [.c (storeC r2.1), .c (.err r2.2)]) rfl (by kernel_rfl) rfl rfl (by kernel_rfl))) (cg_then (ds := [11]) 5 rfl (by kernel_rfl) (co_then 6 rfl (os_plain rfl rfl (s_take (u := .c (storeC r2.1)) (.inr rfl) (.move (by kernel_rfl) rfl) rfl (by kernel_rfl))) (cg_then (ds := [5]) 7 rfl (by kernel_rfl) (.nil)))))))) rfl (by kernel_rfl) ?_
  refine r_seq ?_
  refine r_seq ?_
  rcases Bool.eq_false_or_eq_true (decide (a0 < 1)) with hb | hb
  · have h := cond_t hb h
    have hs3 := hb
    refine r_reg (l := [(0, .u (.c (.v (.int .i64 a0)))), (3, .u (.c (.v (.bool r1)))), (4, .u (.c (storeC r2.1))), (5, .u (.c (.err r2.2))), (17, .u (.c (.v (.bool true))))]) (cg_then (ds := [12, 13]) 2 rfl (by kernel_rfl) (co_then 3 rfl (os_ge (d := 14) (t := .u (.c (.v (.bool (decide (a0 < 1)))))) (t' := .u (.c (.v (.bool true)))) (by kernel_rfl) (by rw [hs3])) (cg_then (ds := [15, 16, 17]) 6 rfl (by kernel_rfl) (.nil)))) rfl (by kernel_rfl) ?_
    refine r_condT rfl rfl ?_
    refine r_seq ?_
    rcases Bool.eq_false_or_eq_true (r1) with hb | hb
    · have h := cond_t hb h
      have hs4 := hb
      refine r_reg (l := [(2, .u (.c (.v (.bool false))))]) (cg_then (ds := [18]) 1 rfl (by kernel_rfl) (co_then 2 rfl (os_ge (d := 19) (t := .u (.c (.v (.bool r1)))) (t' := .u (.c (.v (.bool true)))) (by kernel_rfl) (by rw [hs4])) (co_then 3 rfl (os_gy rfl rfl rfl (by kernel_rfl) (s_take (u := .c (storeC r2.1)) (.inl rfl) (.move (by kernel_rfl) rfl) rfl (by kernel_rfl))) (cg_then (ds := [21, 22, 23, 24, 25, 26, 27, 2]) 11 rfl (by kernel_rfl) (.nil))))) rfl (by kernel_rfl) ?_
      refine r_ret ?_
      obtain rfl := Option.some.inj h
      exact ⟨.inr rfl, _, _, .cons (.copy rfl rfl rfl) (.nil), rfl, outs_of trivial⟩
    · have h := cond_f hb h
      have hs5 := hb
      refine r_reg (l := [(2, .u (.c (.v (.bool false))))]) (cg_then (ds := [18]) 1 rfl (by kernel_rfl) (co_then 2 rfl (os_ge (d := 19) (t := .u (.c (.v (.bool r1)))) (t' := .u (.c (.v (.bool false)))) (by kernel_rfl) (by rw [hs5])) (cg_then (ds := [20, 21, 22, 23, 24, 25, 26, 27, 2]) 11 rfl (by kernel_rfl) (.nil)))) rfl (by kernel_rfl) ?_
      refine r_ret ?_
      obtain rfl := Option.some.inj h
      exact ⟨.inr rfl, _, _, .cons (.copy rfl rfl rfl) (.nil), rfl, outs_of trivial⟩
  · have h := cond_f hb h
    have hs6 := hb
    refine r_reg (l := [(0, .u (.c (.v (.int .i64 a0)))), (3, .u (.c (.v (.bool r1)))), (4, .u (.c (storeC r2.1))), (5, .u (.c (.err r2.2))), (17, .u (.c (.v (.bool (decide (a0 > 512))))))]) (cg_then (ds := [12, 13]) 2 rfl (by kernel_rfl) (co_then 3 rfl (os_ge (d := 14) (t := .u (.c (.v (.bool (decide (a0 < 1)))))) (t' := .u (.c (.v (.bool false)))) (by kernel_rfl) (by rw [hs6])) (cg_then (ds := [15, 16, 17]) 6 rfl (by kernel_rfl) (.nil)))) rfl (by kernel_rfl) ?_
    rcases Bool.eq_false_or_eq_true (decide (a0 > 512)) with hb | hb
    · have h := cond_t hb h
      refine r_condT hb rfl ?_
      refine r_seq ?_
      rcases Bool.eq_false_or_eq_true (r1) with hb | hb
      · have h := cond_t hb h
        have hs7 := hb
        refine r_reg (l := [(2, .u (.c (.v (.bool false))))]) (cg_then (ds := [18]) 1 rfl (by kernel_rfl) (co_then 2 rfl (os_ge (d := 19) (t := .u (.c (.v (.bool r1)))) (t' := .u (.c (.v (.bool true)))) (by kernel_rfl) (by rw [hs7])) (co_then 3 rfl (os_gy rfl rfl rfl (by kernel_rfl) (s_take (u := .c (storeC r2.1)) (.inl rfl) (.move (by kernel_rfl) rfl) rfl (by kernel_rfl))) (cg_then (ds := [21, 22, 23, 24, 25, 26, 27, 2]) 11 rfl (by kernel_rfl) (.nil))))) rfl (by kernel_rfl) ?_
        refine r_ret ?_
        obtain rfl := Option.some.inj h
        exact ⟨.inr rfl, _, _, .cons (.copy rfl rfl rfl) (.nil), rfl, outs_of trivial⟩
      · have h := cond_f hb h
        have hs8 := hb
        refine r_reg (l := [(2, .u (.c (.v (.bool false))))]) (cg_then (ds := [18]) 1 rfl (by kernel_rfl) (co_then 2 rfl (os_ge (d := 19) (t := .u (.c (.v (.bool r1)))) (t' := .u (.c (.v (.bool false)))) (by kernel_rfl) (by rw [hs8])) (cg_then (ds := [20, 21, 22, 23, 24, 25, 26, 27, 2]) 11 rfl (by kernel_rfl) (.nil)))) rfl (by kernel_rfl) ?_
        refine r_ret ?_
        obtain rfl := Option.some.inj h
        exact ⟨.inr rfl, _, _, .cons (.copy rfl rfl rfl) (.nil), rfl, outs_of trivial⟩
    · have h := cond_f hb h
      refine r_condF hb rfl ?_
      refine r_skip ?_
      refine r_seq ?_
      rcases Bool.eq_false_or_eq_true (r1) with hb | hb
      · have h := cond_t hb h
        have hs9 := hb
        rcases Bool.eq_false_or_eq_true (r2.2 == none) with hb | hb
        · have h := cond_t hb h
          have hs10 := hb
          obtain ⟨r11, hr11, h⟩ := bind_some h
          obtain ⟨r12, hr12, h⟩ := bind_some h
          refine r_reg (l := [(2, .u (.c (.v (.bool r12.2))))]) (cg_then (ds := [28]) 1 rfl (by kernel_rfl) (co_then 2 rfl (os_ge (d := 29) (t := .u (.c (.v (.bool r1)))) (t' := .u (.c (.v (.bool true)))) (by kernel_rfl) (by rw [hs9])) (cg_then (ds := [30, 31, 32, 33, 34, 35, 36]) 9 rfl (by kernel_rfl) (co_then 10 rfl (os_ge (d := 37) (t := .u (.c (.v (.bool (r2.2 == none))))) (t' := .u (.c (.v (.bool true)))) (by kernel_rfl) (by rw [hs10])) (co_then 11 rfl (os_gy rfl rfl rfl (by kernel_rfl) (s_take (u := .c (storeC r2.1)) (.inl rfl) (.move (by kernel_rfl) rfl) rfl (by kernel_rfl))) (cg_then (ds := [39]) 12 rfl (by kernel_rfl) (co_then 13 rfl (os_gy rfl rfl rfl (by kernel_rfl) (c_callQ (AC.k (RNew.ac (h := hr11))) ⟨_, Tryd.func16, rfl, by kernel_rfl⟩ rfl (.cons (.copy (by kernel_rfl) rfl) (.nil)) (by kernel_rfl))) (co_then 14 rfl (os_gy rfl rfl rfl (by kernel_rfl) (c_callL (res := [.c (.v (.bool r12.2))]) (outs := [some (.c (storeC r12.1)), none]) (AC.k (same.ac (h := hr12))) ⟨_, Tryd.func15, rfl, by kernel_rfl⟩ rfl (hand_root (r := 38) (c := storeC r2.1) (by kernel_rfl) (by kernel_rfl) rfl (.rd (.view (.v0 (r := 40) (lo := 0) (n := (r11.map eB).length) (own := true) (rows := r11.map eB) (by kernel_rfl) (by kernel_rfl) rows_all) (copy_map eB_copy)) (.nil))) rfl (⟨⟨rfl, ⟨trivial, ⟨rfl, mine_map (fun _ => rfl)⟩, trivial⟩⟩, trivial⟩) (⟨trivial, trivial⟩) (by kernel_rfl))) (cg_then (ds := [42, 2]) 16 rfl (by kernel_rfl) (.nil)))))))))) rfl (by kernel_rfl) ?_
          refine r_ret ?_
          obtain rfl := Option.some.inj h
          exact ⟨.inr rfl, _, _, .cons (.copy rfl rfl rfl) (.nil), rfl, outs_of trivial⟩
        · have h := cond_f hb h
          have hs13 := hb
          refine r_reg (l := [(2, .u (.c (.v (.bool false))))]) (cg_then (ds := [28]) 1 rfl (by kernel_rfl) (co_then 2 rfl (os_ge (d := 29) (t := .u (.c (.v (.bool r1)))) (t' := .u (.c (.v (.bool true)))) (by kernel_rfl) (by rw [hs9])) (cg_then (ds := [30, 31, 32, 33, 34, 35, 36]) 9 rfl (by kernel_rfl) (co_then 10 rfl (os_ge (d := 37) (t := .u (.c (.v (.bool (r2.2 == none))))) (t' := .u (.c (.v (.bool false)))) (by kernel_rfl) (by rw [hs13])) (cg_then (ds := [38, 39, 40, 41, 42, 2]) 16 rfl (by kernel_rfl) (.nil)))))) rfl (by kernel_rfl) ?_
          refine r_ret ?_
          obtain rfl := Option.some.inj h
          exact ⟨.inr rfl, _, _, .cons (.copy rfl rfl rfl) (.nil), rfl, outs_of trivial⟩
      · have h := cond_f hb h
        have hs14 := hb
        refine r_reg (l := [(2, .u (.c (.v (.bool false))))]) (cg_then (ds := [28]) 1 rfl (by kernel_rfl) (co_then 2 rfl (os_ge (d := 29) (t := .u (.c (.v (.bool r1)))) (t' := .u (.c (.v (.bool false)))) (by kernel_rfl) (by rw [hs14])) (cg_then (ds := [30, 31, 32, 33, 34, 35, 36, 37, 38, 39, 40, 41, 42, 2]) 16 rfl (by kernel_rfl) (.nil)))) rfl (by kernel_rfl) ?_
        refine r_ret ?_
        obtain rfl := Option.some.inj h
        exact ⟨.inr rfl, _, _, .cons (.copy rfl rfl rfl) (.nil), rfl, outs_of trivial⟩
end Go.Proofs.YtehbhpkmlmeblaaDoor.V
