import Derived.Test.YtmjnenjeckeklaaDoorB1
namespace Go.Proofs.YtmjnenjeckeklaaDoor.V
open Go Go.RowKit Go.Proofs Go.Proofs.YtmjnenjeckeklaaDoor.Q Go.Proofs.YtmjnenjeckeklaaDoorW.PrintWords
open Go.IntKind (i64)
set_option linter.unusedVariables false
set_option linter.unusedSimpArgs false
set_option maxRecDepth 100000
abbrev eB (b : Bool) : List C := [.v (.bool b)]
theorem eB_copy (x : Bool) : (eB x).all copyC = true := rfl
abbrev eI (i : Int) : List C := [.v (.int .i64 i)]
theorem eI_copy (x : Int) : (eI x).all copyC = true := rfl
structure Zon where
  s : Sto
  n : Int
  t : List Int
  c : List Bool
def zoneC (x : Zon) : C := .pt true [storeC x.s, .v (.int .i64 x.n), .sl true 1 (x.t.map eI), .sl true 1 (x.c.map eB)]
theorem sliceZ53 : SliceZ Tryd.prog 53 1 1 [.v (.bool false)] := slZ_ok (vs := [(.bool false)]) (by kernel_rfl) (by kernel_rfl) rfl (fun _ _ _ => .cons (F := []) (.v rfl) (.nil))
theorem sl53 : SliceT Tryd.prog 53 1 1 := slB_ok (by kernel_rfl)
theorem sl48 : SliceT Tryd.prog 48 1 8 := slB_ok (by kernel_rfl)
theorem sliceZ48 : SliceZ Tryd.prog 48 1 8 [.v (.int .i64 0)] := slZ_ok (vs := [(.int .i64 0)]) (by kernel_rfl) (by kernel_rfl) rfl (fun _ _ _ => .cons (F := []) (.v rfl) (.nil))
theorem sl52 : SliceT Tryd.prog 52 1 1 := slB_ok (by kernel_rfl)
theorem sliceZ52 : SliceZ Tryd.prog 52 1 1 [.v (.bool false)] := slZ_ok (vs := [(.bool false)]) (by kernel_rfl) (by kernel_rfl) rfl (fun _ _ _ => .cons (F := []) (.v rfl) (.nil))
theorem build63 : BuildT Tryd.prog 63 [(0, 1), (1, 1), (2, 1), (3, 1)] := buildB_ok (by kernel_rfl)
theorem zero63 : ZeroT Tryd.prog 63 [.v (.pointer none), .v (.int .i64 0), .sl true 1 ([].map eI), .sl true 1 ([].map eB)] := zeroB_ok (vs := [(.pointer none), (.int .i64 0), (.slice none 0 0), (.slice none 0 0)]) (by kernel_rfl) (fun _ _ _ => .cons (F := []) (.v rfl) (.cons (F := []) (.v rfl) (.cons (F := []) (.nil _ _) (.cons (F := []) (.nil _ _) (.nil)))))
def RNew.l1 (k : Nat) (a0 : Int) : Nat → (List Bool) → Int → Option ((List Bool))
  | 0, _, _ => none
  | n1 + 1, v1, v2 => (bif decide (v2 < a0) then (bif decide (v1.length + [true].length ≤ 1000000) then RNew.l1 k a0 n1 (v1 ++ [true]) (i64.wrap (v2 + 1)) else none) else some v1)
set_option maxHeartbeats 4000000 in
def RNew.f (k : Nat) (a0 : Int) : Option ((List Bool)) :=
  RNew.l1 k a0 k [] 0
set_option maxHeartbeats 4000000 in
theorem RNew.ac (k : Nat) (a0 : Int) (r : (List Bool)) (h : RNew.f k a0 = some r) : AC Tryd.prog 28 31 [.c (.v (.int .i64 a0))] [none] [.c (.sl true 1 (r.map eB))] := by
  unfold RNew.f at h
  refine ac_intro (fn := Tryd.f31) (pins := []) (rts := [2]) Tryd.func31 rfl Tryd.ntmps31 rfl (Nat.le_of_ble_eq_true rfl) (pins_lt rfl) rfl (fun w R E vs => ?_)
  refine r_weak (of_weak (l := [(0, tI a0)]) (by kernel_rfl)) ?_
  refine r_seq ?_
  refine rr [(0, tI a0)] (cot 1 (os_plain rfl rfl (s_take (.inr rfl) (.sl 1) rfl (by kernel_rfl))) .nil) ?_
  refine r_seq ?_
  refine rr [(0, tI a0), (3, .u (.c (.sl true 1 ([].map eB))))] (cot 1 (os_plain rfl rfl (s_take (.inr rfl) (.sl 1) rfl (by kernel_rfl))) .nil) ?_
  refine r_seq ?_
  refine r_seq ?_
  refine rr [(0, tI a0), (3, .u (.c (.sl true 1 ([].map eB)))), (4, tI 0)] (cgt 1 [4] .nil) ?_
  refine r_block ?_
  refine r_weak (of_weak (l := [(0, tI a0), (3, .u (.c (.sl true 1 ([].map eB)))), (4, tI 0)]) (by kernel_rfl)) ?_
  refine r_loopI (α := (List Bool) × Int) (fun x => [(0, tI a0), (3, .u (.c (.sl true 1 (x.1.map eB)))), (4, tI x.2)]) (fun n x => RNew.l1 k a0 n x.1 x.2 = some r) k ([], 0) h (by intro x h; unfold RNew.l1 at h; cases h) ?_
  rintro n1 ⟨v1, v2⟩ h
  replace h : RNew.l1 k a0 (n1 + 1) v1 v2 = some r := h
  unfold RNew.l1 at h
  show Run _ _ _ (St.of [(0, tI a0), (3, .u (.c (.sl true 1 (v1.map eB)))), (4, tI v2)]) _
  refine r_seq ?_
  refine r_seq ?_
  refine rr [(0, tI a0), (3, .u (.c (.sl true 1 (v1.map eB)))), (4, tI v2), (7, tB (decide (v2 < a0)))] (cgt 3 [5, 6, 7] .nil) ?_
  rcases Bool.eq_false_or_eq_true (decide (v2 < a0)) with hb | hb
  · have h := cond_t hb h
    refine r_condT hb rfl ?_
    refine r_skip ?_
    refine r_seq ?_
    refine r_block ?_
    obtain ⟨hg3, h⟩ := guard_some h
    simp only [decide_eq_true_eq] at hg3
    refine rr [(0, tI a0), (3, .u (.c (.sl true 1 ((v1 ++ [true]).map eB)))), (4, tI v2)] (cot 1 (os_plain rfl rfl (s_take (u := .c (.sl true 1 (v1.map eB))) (.inl rfl) (.move (by kernel_rfl) rfl) rfl (by kernel_rfl))) (cot 2 (os_toG (os_plain rfl rfl (s_buildSlice (sz := 1) (len := 1) (us := [(0, .c (.v (.bool true)))]) (cs := [.v (.bool true)]) rfl sliceZ53 (.cons (.copy (by kernel_rfl) (by kernel_rfl) (by kernel_rfl)) .nil) (by kernel_rfl) (Nat.le_of_ble_eq_true rfl) rfl (by kernel_rfl))) (t' := .u (.c (.sl true 1 ([true].map eB)))) (by kernel_rfl)) (cot 3 (os_toG (os_plain rfl rfl (s_appendM (i := 10) (sz := 1) (rows := v1.map eB) (rows2 := [true].map eB) rfl sliceZ53 (by kernel_rfl) (.v0 (r := 11) (lo := 0) (n := ([true].map eB).length) (own := true) (rows := [true].map eB) (by kernel_rfl) (by kernel_rfl) rows_all) (copy_map eB_copy) (lenMap2 hg3) (Nat.le_of_ble_eq_true rfl) rfl (by kernel_rfl))) (t' := .u (.c (.sl true 1 ((v1 ++ [true]).map eB)))) (by simp only [List.map_append])) (cot 4 (os_plain rfl rfl (s_take (u := .c (.sl true 1 ((v1 ++ [true]).map eB))) (.inr rfl) (.move (by kernel_rfl) rfl) rfl (by kernel_rfl))) .nil)))) ?_
    refine rr [(0, tI a0), (3, .u (.c (.sl true 1 ((v1 ++ [true]).map eB)))), (4, tI (i64.wrap (v2 + 1)))] (cgt 3 [8, 9, 4] .nil) ?_
    exact ⟨((v1 ++ [true]), i64.wrap (v2 + 1)), h, of_weak (by kernel_rfl)⟩
  have h := cond_f hb h
  refine r_condF hb rfl ?_
  refine r_exit ?_
  refine r_seq ?_
  refine rr [(2, .u (.c (.sl true 1 (v1.map eB))))] (cot 1 (os_plain rfl rfl (s_take (u := .c (.sl true 1 (v1.map eB))) (.inl rfl) (.move (by kernel_rfl) rfl) rfl (by kernel_rfl))) (cot 2 (os_plain rfl rfl (s_take (u := .c (.sl true 1 (v1.map eB))) (.inr rfl) (.move (by kernel_rfl) rfl) rfl (by kernel_rfl))) .nil)) ?_
  refine r_ret ?_
  obtain rfl := Option.some.inj h
  exact ⟨.inr rfl, _, _, .cons (.move rfl rfl) .nil, rfl, outs_of trivial⟩
def RAll.l1 (k : Nat) (a0 : List Bool) (a1 : Int) (a2 : Int) (a3 : Bool) : Nat → Int → Option (Bool)
  | 0, _ => none
  | n1 + 1, v1 => (paviorref01_Power.f k a2).bind fun (r2 : Int) => (bif decide (v1 < r2) then (bif decide (0 ≤ (i64.wrap (a1 + v1))) && decide ((i64.wrap (a1 + v1)) < (a0.length : Int)) then (bif !((a0.getD ((i64.wrap (a1 + v1)).toNat) false) == a3) then some false else RAll.l1 k a0 a1 a2 a3 n1 (i64.wrap (v1 + 1))) else none) else some true)
set_option maxHeartbeats 4000000 in
def RAll.f (k : Nat) (a0 : List Bool) (a1 : Int) (a2 : Int) (a3 : Bool) : Option (Bool) :=
  RAll.l1 k a0 a1 a2 a3 k 0
set_option maxHeartbeats 4000000 in
theorem RAll.ac (k : Nat) (a0 : List Bool) (a1 : Int) (a2 : Int) (a3 : Bool) (r : Bool) (h : RAll.f k a0 a1 a2 a3 = some r) : AC Tryd.prog 28 26 [.c (.sl false 1 (a0.map eB)), .c (.v (.int .i64 a1)), .c (.v (.int .i64 a2)), .c (.v (.bool a3))] [none, none, none, none] [.c (.v (.bool r))] := by
  unfold RAll.f at h
  refine ac_intro (fn := Tryd.f26) (pins := []) (rts := [8]) Tryd.func26 rfl Tryd.ntmps26 rfl (Nat.le_of_ble_eq_true rfl) (pins_lt rfl) rfl (fun w R E vs => ?_)
  refine r_weak (of_weak (l := [(0, .u (.c (.sl false 1 (a0.map eB)))), (1, tI a1), (2, tI a2), (3, tB a3)]) (by kernel_rfl)) ?_
  refine r_seq ?_
  refine rr [(0, .u (.c (.sl false 1 (a0.map eB)))), (1, tI a1), (2, tI a2), (3, tB a3)] (cgt 1 [8] .nil) ?_
  refine r_seq ?_
  refine r_seq ?_
  refine rr [(0, .u (.c (.sl false 1 (a0.map eB)))), (1, tI a1), (2, tI a2), (3, tB a3), (9, tI 0)] (cgt 1 [9] .nil) ?_
  refine r_block ?_
  refine r_weak (of_weak (l := [(0, .u (.c (.sl false 1 (a0.map eB)))), (1, tI a1), (2, tI a2), (3, tB a3), (9, tI 0)]) (by kernel_rfl)) ?_
  refine r_loopI (α := Int) (fun x => [(0, .u (.c (.sl false 1 (a0.map eB)))), (1, tI a1), (2, tI a2), (3, tB a3), (9, tI x)]) (fun n x => RAll.l1 k a0 a1 a2 a3 n x = some r) k 0 h (by intro x h; unfold RAll.l1 at h; cases h) ?_
  rintro n1 v1 h
  replace h : RAll.l1 k a0 a1 a2 a3 (n1 + 1) v1 = some r := h
  unfold RAll.l1 at h
  show Run _ _ _ (St.of [(0, .u (.c (.sl false 1 (a0.map eB)))), (1, tI a1), (2, tI a2), (3, tB a3), (9, tI v1)]) _
  refine r_seq ?_
  refine r_seq ?_
  obtain ⟨r2, hr2, h⟩ := bind_some h
  refine rr [(0, .u (.c (.sl false 1 (a0.map eB)))), (1, tI a1), (2, tI a2), (3, tB a3), (9, tI v1), (13, tB (decide (v1 < r2)))] (cgt 2 [10, 11] (cot 3 (os_plain rfl rfl (c_callQ (AC.k (paviorref01_Power.ac (h := hr2))) ⟨_, Tryd.func42, rfl, by kernel_rfl⟩ rfl (.cons (.copy (by kernel_rfl) rfl) .nil) (by kernel_rfl))) (cgt 4 [13] .nil))) ?_
  rcases Bool.eq_false_or_eq_true (decide (v1 < r2)) with hb | hb
  · have h := cond_t hb h
    refine r_condT hb rfl ?_
    refine r_skip ?_
    refine r_seq ?_
    refine r_block ?_
    refine r_seq ?_
    obtain ⟨hg3, h⟩ := guard_some h
    simp only [Bool.and_eq_true, decide_eq_true_eq] at hg3
    refine rr [(0, .u (.c (.sl false 1 (a0.map eB)))), (1, tI a1), (2, tI a2), (3, tB a3), (9, tI v1), (23, tB (!((a0.getD ((i64.wrap (a1 + v1)).toNat) false) == a3)))] (cgt 4 [16, 17, 18, 19] (cot 5 (os_plain rfl rfl (s_indexU (own := false) (sz := 1) (rows := (a0.map eB)) (e := (i64.wrap (a1 + v1))) (ik := .i64) rfl sl53 (by kernel_rfl) (.tmp (by kernel_rfl)) hg3.1 (by rw [List.length_map]; exact hg3.2) rfl (by kernel_rfl) (by kernel_rfl))) (cot 6 (os_plain rfl rfl (s_load1 (x := .v (.bool (a0.getD ((i64.wrap (a1 + v1)).toNat) false))) (r := 16) (off := 0) (s := .i ((i64.wrap (a1 + v1)).toNat) 1) (p := []) (c := .sl false 1 (a0.map eB)) (cs := eB (a0.getD ((i64.wrap (a1 + v1)).toNat) false)) rfl (oneB_ok (by kernel_rfl)) (by kernel_rfl) (by kernel_rfl) (getP_map false (by have := hg3; omega)) rfl rfl rfl (by kernel_rfl))) (cgt 8 [22, 23] .nil)))) ?_
    rcases Bool.eq_false_or_eq_true (!((a0.getD ((i64.wrap (a1 + v1)).toNat) false) == a3)) with hb | hb
    · have h := cond_t hb h
      refine r_condT hb rfl ?_
      refine r_seq ?_
      refine rr [(8, tB false)] (cgt 1 [8] .nil) ?_
      refine r_ret ?_
      obtain rfl := Option.some.inj h
      exact ⟨.inr rfl, _, _, .cons (.copy rfl rfl rfl) .nil, rfl, outs_of trivial⟩
    have h := cond_f hb h
    refine r_condF hb rfl ?_
    refine r_skip ?_
    refine rr [(0, .u (.c (.sl false 1 (a0.map eB)))), (1, tI a1), (2, tI a2), (3, tB a3), (9, tI (i64.wrap (v1 + 1)))] (cgt 3 [14, 15, 9] .nil) ?_
    exact ⟨i64.wrap (v1 + 1), h, of_weak (by kernel_rfl)⟩
  have h := cond_f hb h
  refine r_condF hb rfl ?_
  refine r_exit ?_
  refine r_seq ?_
  refine rr [(8, tB true)] (cgt 1 [8] .nil) ?_
  refine r_ret ?_
  obtain rfl := Option.some.inj h
  exact ⟨.inr rfl, _, _, .cons (.copy rfl rfl rfl) .nil, rfl, outs_of trivial⟩
set_option maxHeartbeats 4000000 in
def RBlock.f (k : Nat) (a0 : List Bool) (a1 : Int) (a2 : Int) : Option (Bool) :=
  (bif decide (a2 ≥ 0) then (bif decide (a2 ≤ 5) then (bif decide (a1 ≥ 0) then (bif decide (a1 < (a0.length : Int)) then (paviorref01_Power.f k a2).bind fun (r5 : Int) => (bif decide (r5 ≠ 0) then (bif (a1.tmod r5) == 0 then (paviorref01_Power.f k a2).bind fun (r8 : Int) => some (decide ((i64.wrap (a1 + r8)) ≤ (a0.length : Int))) else some false) else none) else some false) else some false) else some false) else some false)
set_option maxHeartbeats 4000000 in
theorem RBlock.ac (k : Nat) (a0 : List Bool) (a1 : Int) (a2 : Int) (r : Bool) (h : RBlock.f k a0 a1 a2 = some r) : AC Tryd.prog 28 23 [.c (.sl false 1 (a0.map eB)), .c (.v (.int .i64 a1)), .c (.v (.int .i64 a2))] [none, none, none] [.c (.v (.bool r))] := by
  unfold RBlock.f at h
  refine ac_intro (fn := Tryd.f23) (pins := []) (rts := [6]) Tryd.func23 rfl Tryd.ntmps23 rfl (Nat.le_of_ble_eq_true rfl) (pins_lt rfl) rfl (fun w R E vs => ?_)
  refine r_weak (of_weak (l := [(0, .u (.c (.sl false 1 (a0.map eB)))), (1, tI a1), (2, tI a2)]) (by kernel_rfl)) ?_
  refine r_seq ?_
  refine rr [(0, .u (.c (.sl false 1 (a0.map eB)))), (1, tI a1), (2, tI a2)] (cgt 1 [6] .nil) ?_
  refine r_seq ?_
  rcases Bool.eq_false_or_eq_true (decide (a2 ≥ 0)) with hb | hb
  · have h := cond_t hb h
    have hs1 := hb
    rcases Bool.eq_false_or_eq_true (decide (a2 ≤ 5)) with hb | hb
    · have h := cond_t hb h
      have hs2 := hb
      rcases Bool.eq_false_or_eq_true (decide (a1 ≥ 0)) with hb | hb
      · have h := cond_t hb h
        have hs3 := hb
        rcases Bool.eq_false_or_eq_true (decide (a1 < (a0.length : Int))) with hb | hb
        · have h := cond_t hb h
          have hs4 := hb
          obtain ⟨r5, hr5, h⟩ := bind_some h
          obtain ⟨hg6, h⟩ := guard_some h
          simp only [decide_eq_true_eq] at hg6
          rcases Bool.eq_false_or_eq_true ((a1.tmod r5) == 0) with hb | hb
          · have h := cond_t hb h
            have hs7 := hb
            obtain ⟨r8, hr8, h⟩ := bind_some h
            refine rr [(6, tB (decide ((i64.wrap (a1 + r8)) ≤ (a0.length : Int))))] (cgt 2 [7, 8] (cot 3 (os_ge (d := 9) (t := tB (decide (a2 ≥ 0))) (t' := tB true) (by kernel_rfl) (by rw [hs1])) (cgt 6 [10, 11, 12] (cot 7 (os_ge (d := 13) (t := tB (decide (a2 ≤ 5))) (t' := tB true) (by kernel_rfl) (by rw [hs2])) (cgt 10 [14, 15, 16] (cot 11 (os_ge (d := 17) (t := tB (decide (a1 ≥ 0))) (t' := tB true) (by kernel_rfl) (by rw [hs3])) (cgt 13 [18, 19] (cot 14 (os_to (os_gy rfl rfl rfl (by kernel_rfl) (s_lenU (own := false) (sz := 1) (rows := (a0.map eB)) rfl sl53 (by kernel_rfl) rfl (by kernel_rfl))) (t' := tI (a0.length : Int)) (by rw [List.length_map])) (cgt 16 [21, 22] (cot 17 (os_ge (d := 23) (t := tB (decide (a1 < (a0.length : Int)))) (t' := tB true) (by kernel_rfl) (by rw [hs4])) (cgt 19 [24, 25] (cot 20 (os_gy rfl rfl rfl (by kernel_rfl) (c_callQ (AC.k (paviorref01_Power.ac (h := hr5))) ⟨_, Tryd.func42, rfl, by kernel_rfl⟩ rfl (.cons (.copy (by kernel_rfl) rfl) .nil) (by kernel_rfl))) (cot 21 (os_to (os_gy rfl rfl rfl (by kernel_rfl) (s_div (op := .rem) (k := .i64) (p := a1) (q := r5) rfl (.inr rfl) (by kernel_rfl) (by kernel_rfl) hg6 rfl (by kernel_rfl))) (t' := tI (a1.tmod r5)) (by kernel_rfl)) (cgt 23 [28, 29] (cot 24 (os_ge (d := 30) (t := tB ((a1.tmod r5) == 0)) (t' := tB true) (by kernel_rfl) (by rw [hs7])) (cgt 26 [31, 32] (cot 27 (os_gy rfl rfl rfl (by kernel_rfl) (c_callQ (AC.k (paviorref01_Power.ac (h := hr8))) ⟨_, Tryd.func42, rfl, by kernel_rfl⟩ rfl (.cons (.copy (by kernel_rfl) rfl) .nil) (by kernel_rfl))) (cgt 29 [34, 35] (cot 30 (os_to (os_gy rfl rfl rfl (by kernel_rfl) (s_lenU (own := false) (sz := 1) (rows := (a0.map eB)) rfl sl53 (by kernel_rfl) rfl (by kernel_rfl))) (t' := tI (a0.length : Int)) (by rw [List.length_map])) (cgt 33 [37, 38, 6] .nil)))))))))))))))))))) ?_
            refine r_ret ?_
            obtain rfl := Option.some.inj h
            exact ⟨.inr rfl, _, _, .cons (.copy rfl rfl rfl) .nil, rfl, outs_of trivial⟩
          have h := cond_f hb h
          have hs9 := hb
          refine rr [(6, tB false)] (cgt 2 [7, 8] (cot 3 (os_ge (d := 9) (t := tB (decide (a2 ≥ 0))) (t' := tB true) (by kernel_rfl) (by rw [hs1])) (cgt 6 [10, 11, 12] (cot 7 (os_ge (d := 13) (t := tB (decide (a2 ≤ 5))) (t' := tB true) (by kernel_rfl) (by rw [hs2])) (cgt 10 [14, 15, 16] (cot 11 (os_ge (d := 17) (t := tB (decide (a1 ≥ 0))) (t' := tB true) (by kernel_rfl) (by rw [hs3])) (cgt 13 [18, 19] (cot 14 (os_to (os_gy rfl rfl rfl (by kernel_rfl) (s_lenU (own := false) (sz := 1) (rows := (a0.map eB)) rfl sl53 (by kernel_rfl) rfl (by kernel_rfl))) (t' := tI (a0.length : Int)) (by rw [List.length_map])) (cgt 16 [21, 22] (cot 17 (os_ge (d := 23) (t := tB (decide (a1 < (a0.length : Int)))) (t' := tB true) (by kernel_rfl) (by rw [hs4])) (cgt 19 [24, 25] (cot 20 (os_gy rfl rfl rfl (by kernel_rfl) (c_callQ (AC.k (paviorref01_Power.ac (h := hr5))) ⟨_, Tryd.func42, rfl, by kernel_rfl⟩ rfl (.cons (.copy (by kernel_rfl) rfl) .nil) (by kernel_rfl))) (cot 21 (os_to (os_gy rfl rfl rfl (by kernel_rfl) (s_div (op := .rem) (k := .i64) (p := a1) (q := r5) rfl (.inr rfl) (by kernel_rfl) (by kernel_rfl) hg6 rfl (by kernel_rfl))) (t' := tI (a1.tmod r5)) (by kernel_rfl)) (cgt 23 [28, 29] (cot 24 (os_ge (d := 30) (t := tB ((a1.tmod r5) == 0)) (t' := tB false) (by kernel_rfl) (by rw [hs9])) (cgt 33 [31, 32, 33, 34, 35, 36, 37, 38, 6] .nil)))))))))))))))) ?_
          refine r_ret ?_
          obtain rfl := Option.some.inj h
          exact ⟨.inr rfl, _, _, .cons (.copy rfl rfl rfl) .nil, rfl, outs_of trivial⟩
        have h := cond_f hb h
        have hs10 := hb
        refine rr [(6, tB false)] (cgt 2 [7, 8] (cot 3 (os_ge (d := 9) (t := tB (decide (a2 ≥ 0))) (t' := tB true) (by kernel_rfl) (by rw [hs1])) (cgt 6 [10, 11, 12] (cot 7 (os_ge (d := 13) (t := tB (decide (a2 ≤ 5))) (t' := tB true) (by kernel_rfl) (by rw [hs2])) (cgt 10 [14, 15, 16] (cot 11 (os_ge (d := 17) (t := tB (decide (a1 ≥ 0))) (t' := tB true) (by kernel_rfl) (by rw [hs3])) (cgt 13 [18, 19] (cot 14 (os_to (os_gy rfl rfl rfl (by kernel_rfl) (s_lenU (own := false) (sz := 1) (rows := (a0.map eB)) rfl sl53 (by kernel_rfl) rfl (by kernel_rfl))) (t' := tI (a0.length : Int)) (by rw [List.length_map])) (cgt 16 [21, 22] (cot 17 (os_ge (d := 23) (t := tB (decide (a1 < (a0.length : Int)))) (t' := tB false) (by kernel_rfl) (by rw [hs10])) (cgt 33 [24, 25, 26, 27, 28, 29, 30, 31, 32, 33, 34, 35, 36, 37, 38, 6] .nil))))))))))) ?_
        refine r_ret ?_
        obtain rfl := Option.some.inj h
        exact ⟨.inr rfl, _, _, .cons (.copy rfl rfl rfl) .nil, rfl, outs_of trivial⟩
      have h := cond_f hb h
      have hs11 := hb
      refine rr [(6, tB false)] (cgt 2 [7, 8] (cot 3 (os_ge (d := 9) (t := tB (decide (a2 ≥ 0))) (t' := tB true) (by kernel_rfl) (by rw [hs1])) (cgt 6 [10, 11, 12] (cot 7 (os_ge (d := 13) (t := tB (decide (a2 ≤ 5))) (t' := tB true) (by kernel_rfl) (by rw [hs2])) (cgt 10 [14, 15, 16] (cot 11 (os_ge (d := 17) (t := tB (decide (a1 ≥ 0))) (t' := tB false) (by kernel_rfl) (by rw [hs11])) (cgt 33 [18, 19, 20, 21, 22, 23, 24, 25, 26, 27, 28, 29, 30, 31, 32, 33, 34, 35, 36, 37, 38, 6] .nil))))))) ?_
      refine r_ret ?_
      obtain rfl := Option.some.inj h
      exact ⟨.inr rfl, _, _, .cons (.copy rfl rfl rfl) .nil, rfl, outs_of trivial⟩
    have h := cond_f hb h
    have hs12 := hb
    refine rr [(6, tB false)] (cgt 2 [7, 8] (cot 3 (os_ge (d := 9) (t := tB (decide (a2 ≥ 0))) (t' := tB true) (by kernel_rfl) (by rw [hs1])) (cgt 6 [10, 11, 12] (cot 7 (os_ge (d := 13) (t := tB (decide (a2 ≤ 5))) (t' := tB false) (by kernel_rfl) (by rw [hs12])) (cgt 33 [14, 15, 16, 17, 18, 19, 20, 21, 22, 23, 24, 25, 26, 27, 28, 29, 30, 31, 32, 33, 34, 35, 36, 37, 38, 6] .nil))))) ?_
    refine r_ret ?_
    obtain rfl := Option.some.inj h
    exact ⟨.inr rfl, _, _, .cons (.copy rfl rfl rfl) .nil, rfl, outs_of trivial⟩
  have h := cond_f hb h
  have hs13 := hb
  refine rr [(6, tB false)] (cgt 2 [7, 8] (cot 3 (os_ge (d := 9) (t := tB (decide (a2 ≥ 0))) (t' := tB false) (by kernel_rfl) (by rw [hs13])) (cgt 33 [10, 11, 12, 13, 14, 15, 16, 17, 18, 19, 20, 21, 22, 23, 24, 25, 26, 27, 28, 29, 30, 31, 32, 33, 34, 35, 36, 37, 38, 6] .nil))) ?_
  refine r_ret ?_
  obtain rfl := Option.some.inj h
  exact ⟨.inr rfl, _, _, .cons (.copy rfl rfl rfl) .nil, rfl, outs_of trivial⟩
def RFree.l2 (k : Nat) (a0 : List Bool) (v1 : List Blk) (v2 : Int) : Nat → (List Blk) → Int → Option ((List Blk) × Int)
  | 0, _, _ => none
  | n2 + 1, v4, v5 => (bif decide (v5 < 5) then (RBlock.f k a0 v2 (i64.wrap (v5 + 1))).bind fun (r8 : Bool) => (bif r8 then (RAll.f k a0 v2 (i64.wrap (v5 + 1)) true).bind fun (r10 : Bool) => (bif r10 then RFree.l2 k a0 v1 v2 n2 v4 (i64.wrap (v5 + 1)) else some (v4, v5)) else some (v4, v5)) else some (v4, v5))
def RFree.l1 (k : Nat) (a0 : List Bool) : Nat → (List Blk) → Int → Option ((List Blk))
  | 0, _, _ => none
  | n1 + 1, v1, v2 => (bif decide (v2 < (a0.length : Int)) then (bif decide (0 ≤ v2) && decide (v2 < (a0.length : Int)) then (bif !(a0.getD v2.toNat false) then RFree.l1 k a0 n1 v1 (i64.wrap (v2 + 1)) else (RFree.l2 k a0 v1 v2 k v1 0).bind fun (y6 : (List Blk) × Int) => (bif decide (y6.1.length + [(⟨v2, y6.2⟩ : Blk)].length ≤ 1000000) then (paviorref01_Power.f k y6.2).bind fun (r12 : Int) => RFree.l1 k a0 n1 (y6.1 ++ [(⟨v2, y6.2⟩ : Blk)]) (i64.wrap (v2 + r12)) else none)) else none) else some v1)
set_option maxHeartbeats 4000000 in
def RFree.f (k : Nat) (a0 : List Bool) : Option ((List Blk)) :=
  RFree.l1 k a0 k [] 0
set_option maxHeartbeats 4000000 in
theorem RFree.ac (k : Nat) (a0 : List Bool) (r : (List Blk)) (h : RFree.f k a0 = some r) : AC Tryd.prog 28 30 [.c (.sl false 1 (a0.map eB))] [none] [.c (.sl true 2 (r.map eR))] := by
  unfold RFree.f at h
  refine ac_intro (fn := Tryd.f30) (pins := []) (rts := [2]) Tryd.func30 rfl Tryd.ntmps30 rfl (Nat.le_of_ble_eq_true rfl) (pins_lt rfl) rfl (fun w R E vs => ?_)
  refine r_weak (of_weak (l := [(0, .u (.c (.sl false 1 (a0.map eB))))]) (by kernel_rfl)) ?_
  refine r_seq ?_
  refine rr [(0, .u (.c (.sl false 1 (a0.map eB))))] (cot 1 (os_plain rfl rfl (s_take (.inr rfl) (.sl 2) rfl (by kernel_rfl))) .nil) ?_
  refine r_seq ?_
  refine rr [(0, .u (.c (.sl false 1 (a0.map eB)))), (3, .u (.c (.sl true 2 ([].map eR))))] (cot 1 (os_plain rfl rfl (s_take (.inr rfl) (.sl 2) rfl (by kernel_rfl))) .nil) ?_
  refine r_seq ?_
  refine rr [(0, .u (.c (.sl false 1 (a0.map eB)))), (3, .u (.c (.sl true 2 ([].map eR)))), (4, tI 0)] (cgt 1 [4] .nil) ?_
  refine r_seq ?_
  refine r_block ?_
  refine r_weak (of_weak (l := [(0, .u (.c (.sl false 1 (a0.map eB)))), (3, .u (.c (.sl true 2 ([].map eR)))), (4, tI 0)]) (by kernel_rfl)) ?_
  refine r_loopI (α := (List Blk) × Int) (fun x => [(0, .u (.c (.sl false 1 (a0.map eB)))), (3, .u (.c (.sl true 2 (x.1.map eR)))), (4, tI x.2)]) (fun n x => RFree.l1 k a0 n x.1 x.2 = some r) k ([], 0) h (by intro x h; unfold RFree.l1 at h; cases h) ?_
  rintro n1 ⟨v1, v2⟩ h
  replace h : RFree.l1 k a0 (n1 + 1) v1 v2 = some r := h
  unfold RFree.l1 at h
  show Run _ _ _ (St.of [(0, .u (.c (.sl false 1 (a0.map eB)))), (3, .u (.c (.sl true 2 (v1.map eR)))), (4, tI v2)]) _
  refine r_seq ?_
  refine r_seq ?_
  refine rr [(0, .u (.c (.sl false 1 (a0.map eB)))), (3, .u (.c (.sl true 2 (v1.map eR)))), (4, tI v2), (9, tB (decide (v2 < (a0.length : Int))))] (cgt 2 [6, 7] (cot 3 (os_to (os_plain rfl rfl (s_lenU (own := false) (sz := 1) (rows := (a0.map eB)) rfl sl53 (by kernel_rfl) rfl (by kernel_rfl))) (t' := tI (a0.length : Int)) (by rw [List.length_map])) (cgt 4 [9] .nil))) ?_
  rcases Bool.eq_false_or_eq_true (decide (v2 < (a0.length : Int))) with hb | hb
  · have h := cond_t hb h
    refine r_condT hb rfl ?_
    refine r_skip ?_
    refine r_block ?_
    refine r_seq ?_
    refine r_seq ?_
    obtain ⟨hg3, h⟩ := guard_some h
    simp only [Bool.and_eq_true, decide_eq_true_eq] at hg3
    refine rr [(0, .u (.c (.sl false 1 (a0.map eB)))), (3, .u (.c (.sl true 2 (v1.map eR)))), (4, tI v2), (14, tB (!(a0.getD v2.toNat false)))] (cgt 2 [10, 11] (cot 3 (os_plain rfl rfl (s_indexU (own := false) (sz := 1) (rows := (a0.map eB)) (e := v2) (ik := .i64) rfl sl53 (by kernel_rfl) (.tmp (by kernel_rfl)) hg3.1 (by rw [List.length_map]; exact hg3.2) rfl (by kernel_rfl) (by kernel_rfl))) (cot 4 (os_plain rfl rfl (s_load1 (x := .v (.bool (a0.getD v2.toNat false))) (r := 10) (off := 0) (s := .i v2.toNat 1) (p := []) (c := .sl false 1 (a0.map eB)) (cs := eB (a0.getD v2.toNat false)) rfl (oneB_ok (by kernel_rfl)) (by kernel_rfl) (by kernel_rfl) (getP_map false (by have := hg3; omega)) rfl rfl rfl (by kernel_rfl))) (cgt 5 [14] .nil)))) ?_
    rcases Bool.eq_false_or_eq_true (!(a0.getD v2.toNat false)) with hb | hb
    · have h := cond_t hb h
      refine r_condT hb rfl ?_
      refine r_seq ?_
      refine rr [(0, .u (.c (.sl false 1 (a0.map eB)))), (3, .u (.c (.sl true 2 (v1.map eR)))), (4, tI (i64.wrap (v2 + 1)))] (cgt 3 [15, 16, 4] .nil) ?_
      refine r_exit ?_
      exact ⟨(v1, i64.wrap (v2 + 1)), h, of_weak (by kernel_rfl)⟩
    have h := cond_f hb h
    refine r_condF hb rfl ?_
    refine r_skip ?_
    refine r_seq ?_
    refine rr [(0, .u (.c (.sl false 1 (a0.map eB)))), (3, .u (.c (.sl true 2 (v1.map eR)))), (4, tI v2), (5, tI 0)] (cgt 1 [5] .nil) ?_
    refine r_seq ?_
    refine r_block ?_
    refine r_weak (of_weak (l := [(0, .u (.c (.sl false 1 (a0.map eB)))), (3, .u (.c (.sl true 2 (v1.map eR)))), (4, tI v2), (5, tI 0)]) (by kernel_rfl)) ?_
    obtain ⟨y6, hy6, h_y6⟩ := bind_some h
    refine r_loopI (α := (List Blk) × Int) (fun x => [(0, .u (.c (.sl false 1 (a0.map eB)))), (3, .u (.c (.sl true 2 (x.1.map eR)))), (4, tI v2), (5, tI x.2)]) (fun n x => RFree.l2 k a0 v1 v2 n x.1 x.2 = some y6) k (v1, 0) hy6 (by intro x h; unfold RFree.l2 at h; cases h) ?_
    rintro n2 ⟨v4, v5⟩ h
    replace h : RFree.l2 k a0 v1 v2 (n2 + 1) v4 v5 = some y6 := h
    unfold RFree.l2 at h
    show Run _ _ _ (St.of [(0, .u (.c (.sl false 1 (a0.map eB)))), (3, .u (.c (.sl true 2 (v4.map eR)))), (4, tI v2), (5, tI v5)]) _
    refine r_seq ?_
    refine r_seq ?_
    rcases Bool.eq_false_or_eq_true (decide (v5 < 5)) with hb | hb
    · have h := cond_t hb h
      have hs7 := hb
      obtain ⟨r8, hr8, h⟩ := bind_some h
      rcases Bool.eq_false_or_eq_true (r8) with hb | hb
      · have h := cond_t hb h
        have hs9 := hb
        obtain ⟨r10, hr10, h⟩ := bind_some h
        refine rr [(0, .u (.c (.sl false 1 (a0.map eB)))), (3, .u (.c (.sl true 2 (v4.map eR)))), (4, tI v2), (5, tI v5), (32, tB r10)] (cgt 2 [17, 18] (cot 3 (os_ge (d := 19) (t := tB (decide (v5 < 5))) (t' := tB true) (by kernel_rfl) (by rw [hs7])) (cgt 7 [20, 21, 22, 23] (cot 8 (os_gy rfl rfl rfl (by kernel_rfl) (c_callQ (AC.k (RBlock.ac (h := hr8))) ⟨_, Tryd.func23, rfl, by kernel_rfl⟩ rfl (.cons (.copy (by kernel_rfl) rfl) (.cons (.copy (by kernel_rfl) rfl) (.cons (.copy (by kernel_rfl) rfl) .nil))) (by kernel_rfl))) (cgt 9 [25] (cot 10 (os_ge (d := 26) (t := tB r8) (t' := tB true) (by kernel_rfl) (by rw [hs9])) (cgt 14 [27, 28, 29, 30] (cot 15 (os_gy rfl rfl rfl (by kernel_rfl) (c_callQ (AC.k (RAll.ac (h := hr10))) ⟨_, Tryd.func26, rfl, by kernel_rfl⟩ rfl (.cons (.copy (by kernel_rfl) rfl) (.cons (.copy (by kernel_rfl) rfl) (.cons (.copy (by kernel_rfl) rfl) (.cons (.copy (by kernel_rfl) rfl) .nil)))) (by kernel_rfl))) (cgt 16 [32] .nil))))))))) ?_
        rcases Bool.eq_false_or_eq_true (r10) with hb | hb
        · have h := cond_t hb h
          refine r_condT hb rfl ?_
          refine r_skip ?_
          refine r_block ?_
          refine rr [(0, .u (.c (.sl false 1 (a0.map eB)))), (3, .u (.c (.sl true 2 (v4.map eR)))), (4, tI v2), (5, tI (i64.wrap (v5 + 1)))] (cgt 3 [33, 34, 5] .nil) ?_
          exact ⟨(v4, i64.wrap (v5 + 1)), h, of_weak (by kernel_rfl)⟩
        have h := cond_f hb h
        refine r_condF hb rfl ?_
        refine r_weak (of_weak (l := [(0, .u (.c (.sl false 1 (a0.map eB)))), (3, .u (.c (.sl true 2 (v4.map eR)))), (4, tI v2), (5, tI v5)]) (by kernel_rfl)) ?_
        refine run_cast (α := (List Blk) × Int) (fun x => [(0, .u (.c (.sl false 1 (a0.map eB)))), (3, .u (.c (.sl true 2 (x.1.map eR)))), (4, tI v2), (5, tI x.2)]) (x := (v4, v5)) (y := y6) (Option.some.inj h) ?_
        refine r_exit ?_
        replace h := h_y6
        refine r_seq ?_
        obtain ⟨hg11, h⟩ := guard_some h
        simp only [decide_eq_true_eq] at hg11
        refine rr [(0, .u (.c (.sl false 1 (a0.map eB)))), (3, .u (.c (.sl true 2 ((y6.1 ++ [(⟨v2, y6.2⟩ : Blk)]).map eR)))), (4, tI v2), (5, tI y6.2)] (cot 1 (os_plain rfl rfl (s_take (u := .c (.sl true 2 (y6.1.map eR))) (.inl rfl) (.move (by kernel_rfl) rfl) rfl (by kernel_rfl))) (cgt 3 [36, 37] (cot 4 (os_plain rfl rfl (s_build (us := [(0, .c (.v (.int .i64 v2))), (1, .c (.v (.int .i64 y6.2)))]) (zs := [.v (.int .i64 0), .v (.int .i64 0)]) (cs := [.v (.int .i64 v2), .v (.int .i64 y6.2)]) rfl build39 zero39 (.cons (.copy (by kernel_rfl) (by kernel_rfl) (by kernel_rfl)) (.cons (.copy (by kernel_rfl) (by kernel_rfl) (by kernel_rfl)) .nil)) (by kernel_rfl) rfl (by kernel_rfl))) (cot 5 (os_toG (os_plain rfl rfl (s_buildSlice (sz := 2) (len := 1) (us := [(0, .agg [.v (.int .i64 v2), .v (.int .i64 y6.2)])]) (cs := [.v (.int .i64 v2), .v (.int .i64 y6.2)]) rfl sliceZ36 (.cons (.copy (by kernel_rfl) (by kernel_rfl) (by kernel_rfl)) .nil) (by kernel_rfl) (Nat.le_of_ble_eq_true rfl) rfl (by kernel_rfl))) (t' := .u (.c (.sl true 2 ([(⟨v2, y6.2⟩ : Blk)].map eR)))) (by kernel_rfl)) (cot 6 (os_toG (os_plain rfl rfl (s_appendM (i := 35) (sz := 2) (rows := y6.1.map eR) (rows2 := [(⟨v2, y6.2⟩ : Blk)].map eR) rfl sliceZ36 (by kernel_rfl) (.v0 (r := 39) (lo := 0) (n := ([(⟨v2, y6.2⟩ : Blk)].map eR).length) (own := true) (rows := [(⟨v2, y6.2⟩ : Blk)].map eR) (by kernel_rfl) (by kernel_rfl) rows_all) (copy_map eR_copy) (lenMap2 hg11) (Nat.le_of_ble_eq_true rfl) rfl (by kernel_rfl))) (t' := .u (.c (.sl true 2 ((y6.1 ++ [(⟨v2, y6.2⟩ : Blk)]).map eR)))) (by simp only [List.map_append])) (cot 7 (os_plain rfl rfl (s_take (u := .c (.sl true 2 ((y6.1 ++ [(⟨v2, y6.2⟩ : Blk)]).map eR))) (.inr rfl) (.move (by kernel_rfl) rfl) rfl (by kernel_rfl))) .nil)))))) ?_
        obtain ⟨r12, hr12, h⟩ := bind_some h
        refine rr [(0, .u (.c (.sl false 1 (a0.map eB)))), (3, .u (.c (.sl true 2 ((y6.1 ++ [(⟨v2, y6.2⟩ : Blk)]).map eR)))), (4, tI (i64.wrap (v2 + r12)))] (cgt 2 [41, 42] (cot 3 (os_plain rfl rfl (c_callQ (AC.k (paviorref01_Power.ac (h := hr12))) ⟨_, Tryd.func42, rfl, by kernel_rfl⟩ rfl (.cons (.copy (by kernel_rfl) rfl) .nil) (by kernel_rfl))) (cgt 5 [44, 4] .nil))) ?_
        exact ⟨((y6.1 ++ [(⟨v2, y6.2⟩ : Blk)]), i64.wrap (v2 + r12)), h, of_weak (by kernel_rfl)⟩
      have h := cond_f hb h
      have hs13 := hb
      refine rr [(0, .u (.c (.sl false 1 (a0.map eB)))), (3, .u (.c (.sl true 2 (v4.map eR)))), (4, tI v2), (5, tI v5), (32, tB false)] (cgt 2 [17, 18] (cot 3 (os_ge (d := 19) (t := tB (decide (v5 < 5))) (t' := tB true) (by kernel_rfl) (by rw [hs7])) (cgt 7 [20, 21, 22, 23] (cot 8 (os_gy rfl rfl rfl (by kernel_rfl) (c_callQ (AC.k (RBlock.ac (h := hr8))) ⟨_, Tryd.func23, rfl, by kernel_rfl⟩ rfl (.cons (.copy (by kernel_rfl) rfl) (.cons (.copy (by kernel_rfl) rfl) (.cons (.copy (by kernel_rfl) rfl) .nil))) (by kernel_rfl))) (cgt 9 [25] (cot 10 (os_ge (d := 26) (t := tB r8) (t' := tB false) (by kernel_rfl) (by rw [hs13])) (cgt 16 [27, 28, 29, 30, 31, 32] .nil))))))) ?_
      refine r_condF rfl rfl ?_
      refine r_weak (of_weak (l := [(0, .u (.c (.sl false 1 (a0.map eB)))), (3, .u (.c (.sl true 2 (v4.map eR)))), (4, tI v2), (5, tI v5)]) (by kernel_rfl)) ?_
      refine run_cast (α := (List Blk) × Int) (fun x => [(0, .u (.c (.sl false 1 (a0.map eB)))), (3, .u (.c (.sl true 2 (x.1.map eR)))), (4, tI v2), (5, tI x.2)]) (x := (v4, v5)) (y := y6) (Option.some.inj h) ?_
      refine r_exit ?_
      replace h := h_y6
      refine r_seq ?_
      obtain ⟨hg11, h⟩ := guard_some h
      simp only [decide_eq_true_eq] at hg11
      refine rr [(0, .u (.c (.sl false 1 (a0.map eB)))), (3, .u (.c (.sl true 2 ((y6.1 ++ [(⟨v2, y6.2⟩ : Blk)]).map eR)))), (4, tI v2), (5, tI y6.2)] (cot 1 (os_plain rfl rfl (s_take (u := .c (.sl true 2 (y6.1.map eR))) (.inl rfl) (.move (by kernel_rfl) rfl) rfl (by kernel_rfl))) (cgt 3 [36, 37] (cot 4 (os_plain rfl rfl (s_build (us := [(0, .c (.v (.int .i64 v2))), (1, .c (.v (.int .i64 y6.2)))]) (zs := [.v (.int .i64 0), .v (.int .i64 0)]) (cs := [.v (.int .i64 v2), .v (.int .i64 y6.2)]) rfl build39 zero39 (.cons (.copy (by kernel_rfl) (by kernel_rfl) (by kernel_rfl)) (.cons (.copy (by kernel_rfl) (by kernel_rfl) (by kernel_rfl)) .nil)) (by kernel_rfl) rfl (by kernel_rfl))) (cot 5 (os_toG (os_plain rfl rfl (s_buildSlice (sz := 2) (len := 1) (us := [(0, .agg [.v (.int .i64 v2), .v (.int .i64 y6.2)])]) (cs := [.v (.int .i64 v2), .v (.int .i64 y6.2)]) rfl sliceZ36 (.cons (.copy (by kernel_rfl) (by kernel_rfl) (by kernel_rfl)) .nil) (by kernel_rfl) (Nat.le_of_ble_eq_true rfl) rfl (by kernel_rfl))) (t' := .u (.c (.sl true 2 ([(⟨v2, y6.2⟩ : Blk)].map eR)))) (by kernel_rfl)) (cot 6 (os_toG (os_plain rfl rfl (s_appendM (i := 35) (sz := 2) (rows := y6.1.map eR) (rows2 := [(⟨v2, y6.2⟩ : Blk)].map eR) rfl sliceZ36 (by kernel_rfl) (.v0 (r := 39) (lo := 0) (n := ([(⟨v2, y6.2⟩ : Blk)].map eR).length) (own := true) (rows := [(⟨v2, y6.2⟩ : Blk)].map eR) (by kernel_rfl) (by kernel_rfl) rows_all) (copy_map eR_copy) (lenMap2 hg11) (Nat.le_of_ble_eq_true rfl) rfl (by kernel_rfl))) (t' := .u (.c (.sl true 2 ((y6.1 ++ [(⟨v2, y6.2⟩ : Blk)]).map eR)))) (by simp only [List.map_append])) (cot 7 (os_plain rfl rfl (s_take (u := .c (.sl true 2 ((y6.1 ++ [(⟨v2, y6.2⟩ : Blk)]).map eR))) (.inr rfl) (.move (by kernel_rfl) rfl) rfl (by kernel_rfl))) .nil)))))) ?_
      obtain ⟨r12, hr12, h⟩ := bind_some h
      refine rr [(0, .u (.c (.sl false 1 (a0.map eB)))), (3, .u (.c (.sl true 2 ((y6.1 ++ [(⟨v2, y6.2⟩ : Blk)]).map eR)))), (4, tI (i64.wrap (v2 + r12)))] (cgt 2 [41, 42] (cot 3 (os_plain rfl rfl (c_callQ (AC.k (paviorref01_Power.ac (h := hr12))) ⟨_, Tryd.func42, rfl, by kernel_rfl⟩ rfl (.cons (.copy (by kernel_rfl) rfl) .nil) (by kernel_rfl))) (cgt 5 [44, 4] .nil))) ?_
      exact ⟨((y6.1 ++ [(⟨v2, y6.2⟩ : Blk)]), i64.wrap (v2 + r12)), h, of_weak (by kernel_rfl)⟩
    have h := cond_f hb h
    have hs14 := hb
    refine rr [(0, .u (.c (.sl false 1 (a0.map eB)))), (3, .u (.c (.sl true 2 (v4.map eR)))), (4, tI v2), (5, tI v5), (32, tB false)] (cgt 2 [17, 18] (cot 3 (os_ge (d := 19) (t := tB (decide (v5 < 5))) (t' := tB false) (by kernel_rfl) (by rw [hs14])) (cgt 16 [20, 21, 22, 23, 24, 25, 26, 27, 28, 29, 30, 31, 32] .nil))) ?_
    refine r_condF rfl rfl ?_
    refine r_weak (of_weak (l := [(0, .u (.c (.sl false 1 (a0.map eB)))), (3, .u (.c (.sl true 2 (v4.map eR)))), (4, tI v2), (5, tI v5)]) (by kernel_rfl)) ?_
    refine run_cast (α := (List Blk) × Int) (fun x => [(0, .u (.c (.sl false 1 (a0.map eB)))), (3, .u (.c (.sl true 2 (x.1.map eR)))), (4, tI v2), (5, tI x.2)]) (x := (v4, v5)) (y := y6) (Option.some.inj h) ?_
    refine r_exit ?_
    replace h := h_y6
    refine r_seq ?_
    obtain ⟨hg11, h⟩ := guard_some h
    simp only [decide_eq_true_eq] at hg11
    refine rr [(0, .u (.c (.sl false 1 (a0.map eB)))), (3, .u (.c (.sl true 2 ((y6.1 ++ [(⟨v2, y6.2⟩ : Blk)]).map eR)))), (4, tI v2), (5, tI y6.2)] (cot 1 (os_plain rfl rfl (s_take (u := .c (.sl true 2 (y6.1.map eR))) (.inl rfl) (.move (by kernel_rfl) rfl) rfl (by kernel_rfl))) (cgt 3 [36, 37] (cot 4 (os_plain rfl rfl (s_build (us := [(0, .c (.v (.int .i64 v2))), (1, .c (.v (.int .i64 y6.2)))]) (zs := [.v (.int .i64 0), .v (.int .i64 0)]) (cs := [.v (.int .i64 v2), .v (.int .i64 y6.2)]) rfl build39 zero39 (.cons (.copy (by kernel_rfl) (by kernel_rfl) (by kernel_rfl)) (.cons (.copy (by kernel_rfl) (by kernel_rfl) (by kernel_rfl)) .nil)) (by kernel_rfl) rfl (by kernel_rfl))) (cot 5 (os_toG (os_plain rfl rfl (s_buildSlice (sz := 2) (len := 1) (us := [(0, .agg [.v (.int .i64 v2), .v (.int .i64 y6.2)])]) (cs := [.v (.int .i64 v2), .v (.int .i64 y6.2)]) rfl sliceZ36 (.cons (.copy (by kernel_rfl) (by kernel_rfl) (by kernel_rfl)) .nil) (by kernel_rfl) (Nat.le_of_ble_eq_true rfl) rfl (by kernel_rfl))) (t' := .u (.c (.sl true 2 ([(⟨v2, y6.2⟩ : Blk)].map eR)))) (by kernel_rfl)) (cot 6 (os_toG (os_plain rfl rfl (s_appendM (i := 35) (sz := 2) (rows := y6.1.map eR) (rows2 := [(⟨v2, y6.2⟩ : Blk)].map eR) rfl sliceZ36 (by kernel_rfl) (.v0 (r := 39) (lo := 0) (n := ([(⟨v2, y6.2⟩ : Blk)].map eR).length) (own := true) (rows := [(⟨v2, y6.2⟩ : Blk)].map eR) (by kernel_rfl) (by kernel_rfl) rows_all) (copy_map eR_copy) (lenMap2 hg11) (Nat.le_of_ble_eq_true rfl) rfl (by kernel_rfl))) (t' := .u (.c (.sl true 2 ((y6.1 ++ [(⟨v2, y6.2⟩ : Blk)]).map eR)))) (by simp only [List.map_append])) (cot 7 (os_plain rfl rfl (s_take (u := .c (.sl true 2 ((y6.1 ++ [(⟨v2, y6.2⟩ : Blk)]).map eR))) (.inr rfl) (.move (by kernel_rfl) rfl) rfl (by kernel_rfl))) .nil)))))) ?_
    obtain ⟨r12, hr12, h⟩ := bind_some h
    refine rr [(0, .u (.c (.sl false 1 (a0.map eB)))), (3, .u (.c (.sl true 2 ((y6.1 ++ [(⟨v2, y6.2⟩ : Blk)]).map eR)))), (4, tI (i64.wrap (v2 + r12)))] (cgt 2 [41, 42] (cot 3 (os_plain rfl rfl (c_callQ (AC.k (paviorref01_Power.ac (h := hr12))) ⟨_, Tryd.func42, rfl, by kernel_rfl⟩ rfl (.cons (.copy (by kernel_rfl) rfl) .nil) (by kernel_rfl))) (cgt 5 [44, 4] .nil))) ?_
    exact ⟨((y6.1 ++ [(⟨v2, y6.2⟩ : Blk)]), i64.wrap (v2 + r12)), h, of_weak (by kernel_rfl)⟩
  have h := cond_f hb h
  refine r_condF hb rfl ?_
  refine r_exit ?_
  refine r_seq ?_
  refine rr [(2, .u (.c (.sl true 2 (v1.map eR))))] (cot 1 (os_plain rfl rfl (s_take (u := .c (.sl true 2 (v1.map eR))) (.inl rfl) (.move (by kernel_rfl) rfl) rfl (by kernel_rfl))) (cot 2 (os_plain rfl rfl (s_take (u := .c (.sl true 2 (v1.map eR))) (.inr rfl) (.move (by kernel_rfl) rfl) rfl (by kernel_rfl))) .nil)) ?_
  refine r_ret ?_
  obtain rfl := Option.some.inj h
  exact ⟨.inr rfl, _, _, .cons (.move rfl rfl) .nil, rfl, outs_of trivial⟩
def RSet.l1 (k : Nat) (a0 : List Bool) (a1 : Int) (a2 : Int) (a3 : Bool) : Nat → (List Bool) → Int → Option ((List Bool))
  | 0, _, _ => none
  | n1 + 1, v1, v2 => (paviorref01_Power.f k a2).bind fun (r3 : Int) => (bif decide (v2 < r3) then (bif decide (0 ≤ (i64.wrap (a1 + v2))) && decide ((i64.wrap (a1 + v2)) < (v1.length : Int)) then RSet.l1 k a0 a1 a2 a3 n1 (v1.set ((i64.wrap (a1 + v2)).toNat) a3) (i64.wrap (v2 + 1)) else none) else some v1)
set_option maxHeartbeats 4000000 in
def RSet.f (k : Nat) (a0 : List Bool) (a1 : Int) (a2 : Int) (a3 : Bool) : Option ((List Bool)) :=
  RSet.l1 k a0 a1 a2 a3 k a0 0
set_option maxHeartbeats 4000000 in
theorem RSet.ac (k : Nat) (a0 : List Bool) (a1 : Int) (a2 : Int) (a3 : Bool) (r : (List Bool)) (h : RSet.f k a0 a1 a2 a3 = some r) : AC Tryd.prog 28 27 [.c (.sl true 1 (a0.map eB)), .c (.v (.int .i64 a1)), .c (.v (.int .i64 a2)), .c (.v (.bool a3))] [some (.c (.sl true 1 (r.map eB))), none, none, none] [] := by
  unfold RSet.f at h
  refine ac_intro (fn := Tryd.f27) (pins := [0]) (rts := []) Tryd.func27 rfl Tryd.ntmps27 rfl (Nat.le_of_ble_eq_true rfl) (pins_lt rfl) rfl (fun w R E vs => ?_)
  refine r_weak (of_weak (l := [(0, .u (.c (.sl true 1 (a0.map eB)))), (1, tI a1), (2, tI a2), (3, tB a3)]) (by kernel_rfl)) ?_
  refine r_seq ?_
  refine rr [(0, .u (.c (.sl true 1 (a0.map eB)))), (1, tI a1), (2, tI a2), (3, tB a3), (8, tI 0)] (cgt 1 [8] .nil) ?_
  refine r_block ?_
  refine r_weak (of_weak (l := [(0, .u (.c (.sl true 1 (a0.map eB)))), (1, tI a1), (2, tI a2), (3, tB a3), (8, tI 0)]) (by kernel_rfl)) ?_
  refine r_loopI (α := (List Bool) × Int) (fun x => [(0, .u (.c (.sl true 1 (x.1.map eB)))), (1, tI a1), (2, tI a2), (3, tB a3), (8, tI x.2)]) (fun n x => RSet.l1 k a0 a1 a2 a3 n x.1 x.2 = some r) k (a0, 0) h (by intro x h; unfold RSet.l1 at h; cases h) ?_
  rintro n1 ⟨v1, v2⟩ h
  replace h : RSet.l1 k a0 a1 a2 a3 (n1 + 1) v1 v2 = some r := h
  unfold RSet.l1 at h
  show Run _ _ _ (St.of [(0, .u (.c (.sl true 1 (v1.map eB)))), (1, tI a1), (2, tI a2), (3, tB a3), (8, tI v2)]) _
  refine r_seq ?_
  refine r_seq ?_
  obtain ⟨r3, hr3, h⟩ := bind_some h
  refine rr [(0, .u (.c (.sl true 1 (v1.map eB)))), (1, tI a1), (2, tI a2), (3, tB a3), (8, tI v2), (12, tB (decide (v2 < r3)))] (cgt 2 [9, 10] (cot 3 (os_plain rfl rfl (c_callQ (AC.k (paviorref01_Power.ac (h := hr3))) ⟨_, Tryd.func42, rfl, by kernel_rfl⟩ rfl (.cons (.copy (by kernel_rfl) rfl) .nil) (by kernel_rfl))) (cgt 4 [12] .nil))) ?_
  rcases Bool.eq_false_or_eq_true (decide (v2 < r3)) with hb | hb
  · have h := cond_t hb h
    refine r_condT hb rfl ?_
    refine r_skip ?_
    refine r_seq ?_
    refine r_block ?_
    obtain ⟨hg4, h⟩ := guard_some h
    simp only [Bool.and_eq_true, decide_eq_true_eq] at hg4
    refine rr [(0, .u (.c (.sl true 1 ((v1.set ((i64.wrap (a1 + v2)).toNat) a3).map eB)))), (1, tI a1), (2, tI a2), (3, tB a3), (8, tI v2)] (cgt 5 [15, 16, 17, 18, 19] (cot 6 (os_plain rfl rfl (s_indexV (r := 0) (lo := 0) (n := (v1.map eB).length) (pl := none) (sz := 1) (e := (i64.wrap (a1 + v2))) (ik := .i64) (k := (i64.wrap (a1 + v2)).toNat) rfl sl53 (by kernel_rfl) (.tmp (by kernel_rfl)) hg4.1 (by rw [List.length_map]; exact hg4.2) (Nat.zero_add _) rfl (by kernel_rfl) (by kernel_rfl))) (cot 7 (os_plain rfl rfl (s_storeR (f := eB) (k := 0) (sz := 0) (n := 1) (r := 0) (off := 0) (s := .i ((i64.wrap (a1 + v2)).toNat) 1) (p := []) (c := .sl true 1 (v1.map eB)) (cs := eB (v1.getD ((i64.wrap (a1 + v2)).toNat) false)) (u := .c (.v (.bool a3))) (us := [.v (.bool a3)]) (c' := .sl true 1 ((v1.set ((i64.wrap (a1 + v2)).toNat) a3).map eB)) rfl (by kernel_rfl) (by kernel_rfl) (by kernel_rfl) rfl (by kernel_rfl) (getP_map (f := eB) (own := true) (xs := v1) (k := (i64.wrap (a1 + v2)).toNat) false (by have := hg4; omega)) (by kernel_rfl) rfl rfl (Nat.le_of_ble_eq_true rfl) (by kernel_rfl) (by kernel_rfl) (by kernel_rfl) rfl (row_set (f := eB) (l := v1) (k := (i64.wrap (a1 + v2)).toNat) (y := a3) rfl))) .nil))) ?_
    refine rr [(0, .u (.c (.sl true 1 ((v1.set ((i64.wrap (a1 + v2)).toNat) a3).map eB)))), (1, tI a1), (2, tI a2), (3, tB a3), (8, tI (i64.wrap (v2 + 1)))] (cgt 3 [13, 14, 8] .nil) ?_
    exact ⟨((v1.set ((i64.wrap (a1 + v2)).toNat) a3), i64.wrap (v2 + 1)), h, of_weak (by kernel_rfl)⟩
  have h := cond_f hb h
  refine r_condF hb rfl ?_
  refine r_exit ?_
  obtain rfl := Option.some.inj h
  exact ⟨.inl rfl, _, _, .nil, rfl, outs_of ⟨⟨rfl, rfl⟩, trivial⟩⟩
set_option maxHeartbeats 4000000 in
def CloneI.f (k : Nat) (a0 : List Int) : Option ((List Int)) :=
  (bif decide (([] : List Int).length + a0.length ≤ 1000000) then some (([] : List Int) ++ a0) else none)
set_option maxHeartbeats 4000000 in
set_option maxHeartbeats 4000000 in
def CloneB.f (k : Nat) (a0 : List Bool) : Option ((List Bool)) :=
  (bif decide (([] : List Bool).length + a0.length ≤ 1000000) then some (([] : List Bool) ++ a0) else none)
set_option maxHeartbeats 4000000 in
set_option maxHeartbeats 4000000 in
def SCloneR.f (k : Nat) (a0 : Sto) : Option (Sto) :=
  (Clone.f k a0.l).bind fun (r1 : (List Blk)) => some (⟨a0.n, r1⟩ : Sto)
set_option maxHeartbeats 4000000 in
def ZNew.l1 (k : Nat) (a0 : Int) (r1 : Sto × (Option Int)) : Nat → Zon → Int → Option (Zon × (Option Int))
  | 0, _, _ => none
  | n1 + 1, v4, v5 => (bif decide (v5 < ((List.replicate (i64.wrap ((i64.wrap ((i64.wrap (a0 + 8)) - 1)).tdiv 8)).toNat (0 : Int)).length : Int)) then (bif decide (0 ≤ v5) && decide (v5 < (v4.t.length : Int)) then ZNew.l1 k a0 r1 n1 (⟨v4.s, v4.n, (v4.t.set ((v5).toNat) 1), v4.c⟩ : Zon) (i64.wrap (v5 + 1)) else none) else some (v4, none))
set_option maxHeartbeats 4000000 in
def ZNew.f (k : Nat) (a0 : Int) : Option (Zon × (Option Int)) :=
  (New.f k a0).bind fun (r1 : Sto × (Option Int)) => (bif !(r1.2 == none) then none else (bif decide (0 ≤ (i64.wrap ((i64.wrap ((i64.wrap (a0 + 8)) - 1)).tdiv 8))) && decide ((i64.wrap ((i64.wrap ((i64.wrap (a0 + 8)) - 1)).tdiv 8)) ≤ 1000000000) then (bif decide (0 ≤ (i64.wrap ((i64.wrap ((i64.wrap (a0 + 8)) - 1)).tdiv 8))) && decide ((i64.wrap ((i64.wrap ((i64.wrap (a0 + 8)) - 1)).tdiv 8)) ≤ 1000000000) then ZNew.l1 k a0 r1 k (⟨r1.1, a0, (List.replicate (i64.wrap ((i64.wrap ((i64.wrap (a0 + 8)) - 1)).tdiv 8)).toNat (0 : Int)), (List.replicate (i64.wrap ((i64.wrap ((i64.wrap (a0 + 8)) - 1)).tdiv 8)).toNat false)⟩ : Zon) 0 else none) else none))
set_option maxHeartbeats 4000000 in
theorem ZNew.ac (k : Nat) (a0 : Int) (r : Zon × (Option Int)) (h : ZNew.f k a0 = some r) : ACD Tryd.prog 28 9 [.c (.v (.int .i64 a0))] [none] [.c (zoneC r.1), .c (.err r.2)] := by
  unfold ZNew.f at h
  refine act_intro (fn := Tryd.f9) (pins := []) (rts := [2, 3]) Tryd.func9 rfl Tryd.ntmps9 rfl (Nat.le_of_ble_eq_true rfl) (pins_lt rfl) rfl (fun w R E vs hT => ?_)
  refine r_weak (of_weak (l := [(0, tI a0)]) (by kernel_rfl)) ?_
  refine r_seq ?_
  refine rr [(0, tI a0)] (cgt 2 [2, 3] .nil) ?_
  refine r_seq ?_
  obtain ⟨r1, hr1, h⟩ := bind_some h
  refine rr [(0, tI a0), (4, .u (.c (storeC r1.1))), (5, .u (.c (.err r1.2)))] (cgt 1 [10] (cot 2 (os_plain rfl rfl (c_callQ (ACT.k hT (New.ac (h := hr1))) ⟨_, Tryd.func29, rfl, by kernel_rfl⟩ rfl (.cons (.copy (by kernel_rfl) rfl) .nil) (by kernel_rfl))) (cot 3 (os_plain rfl rfl (s_moveT (us := [.c (storeC r1.1), .c (.err r1.2)]) (.inl rfl) (by kernel_rfl) rfl (by kernel_rfl))) (cot 4 (os_plain rfl rfl (s_xmove (us := [.c (storeC r1.1), .c (.err r1.2)]) rfl (by kernel_rfl) rfl rfl (by kernel_rfl))) (cgt 5 [13] (cot 6 (os_plain rfl rfl (s_take (u := .c (storeC r1.1)) (.inr rfl) (.move (by kernel_rfl) rfl) rfl (by kernel_rfl))) (cgt 7 [5] .nil))))))) ?_
  refine r_seq ?_
  refine r_seq ?_
  refine rr [(0, tI a0), (4, .u (.c (storeC r1.1))), (5, .u (.c (.err r1.2))), (15, tB (!(r1.2 == none)))] (cgt 2 [14, 15] .nil) ?_
  rcases Bool.eq_false_or_eq_true (!(r1.2 == none)) with hb | hb
  · have h := cond_t hb h
    refine r_condT hb rfl ?_
    refine r_seq ?_
    refine rr [(2, .u (.c (.v (.pointer none)))), (3, .u (.c (.err r1.2)))] (cgt 3 [16, 2, 3] .nil) ?_
    refine r_ret ?_
    cases h
  have h := cond_f hb h
  refine r_condF hb rfl ?_
  refine r_skip ?_
  refine r_seq ?_
  refine rr [(0, tI a0), (4, .u (.c (storeC r1.1))), (6, tI (i64.wrap ((i64.wrap ((i64.wrap (a0 + 8)) - 1)).tdiv 8)))] (cgt 3 [17, 18, 19] (cot 4 (os_to (os_plain rfl rfl (s_div (op := .quo) (k := .i64) (p := (i64.wrap ((i64.wrap (a0 + 8)) - 1))) (q := 8) rfl (.inl rfl) (by kernel_rfl) (by kernel_rfl) (by decide) rfl (by kernel_rfl))) (t' := tI (i64.wrap ((i64.wrap ((i64.wrap (a0 + 8)) - 1)).tdiv 8))) (by kernel_rfl)) (cgt 5 [6] .nil))) ?_
  refine r_seq ?_
  obtain ⟨hg2, h⟩ := guard_some h
  simp only [Bool.and_eq_true, decide_eq_true_eq] at hg2
  obtain ⟨hg3, h⟩ := guard_some h
  simp only [Bool.and_eq_true, decide_eq_true_eq] at hg3
  refine r_weak (of_weak (l := [(0, tI a0), (4, .u (.c (storeC r1.1))), (6, tI (i64.wrap ((i64.wrap ((i64.wrap (a0 + 8)) - 1)).tdiv 8)))]) (by kernel_rfl)) ?_
  refine r_anyW (l := [(7, .u (.c (.pt true [storeC r1.1, .v (.int .i64 a0), .sl true 1 ((List.replicate (i64.wrap ((i64.wrap ((i64.wrap (a0 + 8)) - 1)).tdiv 8)).toNat (0 : Int)).map eI), .sl true 1 ((List.replicate (i64.wrap ((i64.wrap ((i64.wrap (a0 + 8)) - 1)).tdiv 8)).toNat false).map eB)])))]) (tab := [[], [], [], [2, 2], [], [4, 4], [0, 1, 3, 5], [6], [7, 0, 1, 2, 3, 4, 5, 6, 7]]) [⟨[], [4], [(21, .u (.c (storeC r1.1))), (4, .junk)], some 21, false⟩, ev [] [0] 22 (tI a0), ev [] [6] 23 (tI (i64.wrap ((i64.wrap ((i64.wrap (a0 + 8)) - 1)).tdiv 8))), ev [2] [23] 24 (.u (.c (.sl true 1 ((List.replicate (i64.wrap ((i64.wrap ((i64.wrap (a0 + 8)) - 1)).tdiv 8)).toNat (0 : Int)).map eI)))), ev [] [6] 25 (tI (i64.wrap ((i64.wrap ((i64.wrap (a0 + 8)) - 1)).tdiv 8))), ev [4] [25] 26 (.u (.c (.sl true 1 ((List.replicate (i64.wrap ((i64.wrap ((i64.wrap (a0 + 8)) - 1)).tdiv 8)).toNat false).map eB)))), ⟨List.range 6, [21, 22, 24, 26], [(27, .u (.agg [storeC r1.1, .v (.int .i64 a0), .sl true 1 ((List.replicate (i64.wrap ((i64.wrap ((i64.wrap (a0 + 8)) - 1)).tdiv 8)).toNat (0 : Int)).map eI), .sl true 1 ((List.replicate (i64.wrap ((i64.wrap ((i64.wrap (a0 + 8)) - 1)).tdiv 8)).toNat false).map eB)])), (21, .junk), (24, .junk), (26, .junk)], some 27, false⟩, ⟨List.range 7, [27], [(28, .u (.c (.pt true [storeC r1.1, .v (.int .i64 a0), .sl true 1 ((List.replicate (i64.wrap ((i64.wrap ((i64.wrap (a0 + 8)) - 1)).tdiv 8)).toNat (0 : Int)).map eI), .sl true 1 ((List.replicate (i64.wrap ((i64.wrap ((i64.wrap (a0 + 8)) - 1)).tdiv 8)).toNat false).map eB)]))), (27, .junk)], some 28, false⟩, ⟨List.range 8, [28], [(7, .u (.c (.pt true [storeC r1.1, .v (.int .i64 a0), .sl true 1 ((List.replicate (i64.wrap ((i64.wrap ((i64.wrap (a0 + 8)) - 1)).tdiv 8)).toNat (0 : Int)).map eI), .sl true 1 ((List.replicate (i64.wrap ((i64.wrap ((i64.wrap (a0 + 8)) - 1)).tdiv 8)).toNat false).map eB)]))), (28, .junk)], some 7, false⟩] hm (by kernel_rfl) (by kernel_rfl) (by kernel_rfl) (.cons (fun σ hc => e_eq (os_plain rfl rfl (s_take (u := .c (storeC r1.1)) (.inl rfl) (.move (by kernel_rfl) rfl) rfl (by kernel_rfl))) (put_junks_over (l := [4]) hc rfl)) (en (en (.cons (fun σ hc => e_put hc rfl rfl (os_to (os_plain rfl rfl (s_makeSlice (zs := [.v (.int .i64 0)]) (sz := 1) (k := .i64) (k2 := .i64) (e := (i64.wrap ((i64.wrap ((i64.wrap (a0 + 8)) - 1)).tdiv 8))) rfl sliceZ48 (by kernel_rfl) (by kernel_rfl) hg2.1 hg2.2 (Nat.le_of_ble_eq_true rfl) rfl (by kernel_rfl))) (t' := .u (.c (.sl true 1 ((List.replicate (i64.wrap ((i64.wrap ((i64.wrap (a0 + 8)) - 1)).tdiv 8)).toNat (0 : Int)).map eI)))) (by rw [List.map_replicate] <;> rfl))) (en (.cons (fun σ hc => e_put hc rfl rfl (os_to (os_plain rfl rfl (s_makeSlice (zs := [.v (.bool false)]) (sz := 1) (k := .i64) (k2 := .i64) (e := (i64.wrap ((i64.wrap ((i64.wrap (a0 + 8)) - 1)).tdiv 8))) rfl sliceZ52 (by kernel_rfl) (by kernel_rfl) hg3.1 hg3.2 (Nat.le_of_ble_eq_true rfl) rfl (by kernel_rfl))) (t' := .u (.c (.sl true 1 ((List.replicate (i64.wrap ((i64.wrap ((i64.wrap (a0 + 8)) - 1)).tdiv 8)).toNat false).map eB)))) (by rw [List.map_replicate] <;> rfl))) (.cons (fun σ hc => e_eq (os_plain rfl rfl (s_build (us := [(0, .c (storeC r1.1)), (1, .c (.v (.int .i64 a0))), (2, .c (.sl true 1 ((List.replicate (i64.wrap ((i64.wrap ((i64.wrap (a0 + 8)) - 1)).tdiv 8)).toNat (0 : Int)).map eI))), (3, .c (.sl true 1 ((List.replicate (i64.wrap ((i64.wrap ((i64.wrap (a0 + 8)) - 1)).tdiv 8)).toNat false).map eB)))]) (zs := [.v (.pointer none), .v (.int .i64 0), .sl true 1 ([].map eI), .sl true 1 ([].map eB)]) (cs := [storeC r1.1, .v (.int .i64 a0), .sl true 1 ((List.replicate (i64.wrap ((i64.wrap ((i64.wrap (a0 + 8)) - 1)).tdiv 8)).toNat (0 : Int)).map eI), .sl true 1 ((List.replicate (i64.wrap ((i64.wrap ((i64.wrap (a0 + 8)) - 1)).tdiv 8)).toNat false).map eB)]) rfl build63 zero63 (.cons (.move (by kernel_rfl) (by kernel_rfl)) (.cons (.copy (by kernel_rfl) (by kernel_rfl) (by kernel_rfl)) (.cons (.move (by kernel_rfl) (by kernel_rfl)) (.cons (.move (by kernel_rfl) (by kernel_rfl)) .nil)))) (by kernel_rfl) rfl (by kernel_rfl))) (put_junks_overN (ls := [[21], [], [24], [26]]) hc rfl rfl)) (.cons (fun σ hc => e_eq (os_plain rfl rfl (s_box (u := .agg [storeC r1.1, .v (.int .i64 a0), .sl true 1 ((List.replicate (i64.wrap ((i64.wrap ((i64.wrap (a0 + 8)) - 1)).tdiv 8)).toNat (0 : Int)).map eI), .sl true 1 ((List.replicate (i64.wrap ((i64.wrap ((i64.wrap (a0 + 8)) - 1)).tdiv 8)).toNat false).map eB)]) rfl (.move (by kernel_rfl) (by kernel_rfl)) rfl (by kernel_rfl))) (put_junks_over (l := [27]) hc rfl)) (.cons (fun σ hc => e_eq (os_plain rfl rfl (s_take (u := .c (.pt true [storeC r1.1, .v (.int .i64 a0), .sl true 1 ((List.replicate (i64.wrap ((i64.wrap ((i64.wrap (a0 + 8)) - 1)).tdiv 8)).toNat (0 : Int)).map eI), .sl true 1 ((List.replicate (i64.wrap ((i64.wrap ((i64.wrap (a0 + 8)) - 1)).tdiv 8)).toNat false).map eB)])) (.inr rfl) (.move (by kernel_rfl) rfl) rfl (by kernel_rfl))) (put_junks_over (l := [28]) hc rfl)) .nil))))))))) (by kernel_rfl) ?_
  refine r_seq ?_
  refine r_seq ?_
  refine rr [(7, .u (.c (.pt true [storeC r1.1, .v (.int .i64 a0), .sl true 1 ((List.replicate (i64.wrap ((i64.wrap ((i64.wrap (a0 + 8)) - 1)).tdiv 8)).toNat (0 : Int)).map eI), .sl true 1 ((List.replicate (i64.wrap ((i64.wrap ((i64.wrap (a0 + 8)) - 1)).tdiv 8)).toNat false).map eB)]))), (33, tI ((List.replicate (i64.wrap ((i64.wrap ((i64.wrap (a0 + 8)) - 1)).tdiv 8)).toNat (0 : Int)).length : Int)), (34, tI 0)] (cgt 4 [29, 30, 31, 32] (cot 5 (os_to (os_plain rfl rfl (s_lenV (r := 7) (lo := 0) (n := ((List.replicate (i64.wrap ((i64.wrap ((i64.wrap (a0 + 8)) - 1)).tdiv 8)).toNat (0 : Int)).map eI).length) (pl := (some (.d, [], 2))) (sz := 1) rfl sl48 (by kernel_rfl) rfl (by kernel_rfl))) (t' := tI ((List.replicate (i64.wrap ((i64.wrap ((i64.wrap (a0 + 8)) - 1)).tdiv 8)).toNat (0 : Int)).length : Int)) (by rw [List.length_map])) (cgt 6 [34] .nil))) ?_
  refine r_block ?_
  refine r_weak (of_weak (l := [(7, .u (.c (.pt true [storeC r1.1, .v (.int .i64 a0), .sl true 1 ((List.replicate (i64.wrap ((i64.wrap ((i64.wrap (a0 + 8)) - 1)).tdiv 8)).toNat (0 : Int)).map eI), .sl true 1 ((List.replicate (i64.wrap ((i64.wrap ((i64.wrap (a0 + 8)) - 1)).tdiv 8)).toNat false).map eB)]))), (33, tI ((List.replicate (i64.wrap ((i64.wrap ((i64.wrap (a0 + 8)) - 1)).tdiv 8)).toNat (0 : Int)).length : Int)), (34, tI 0)]) (by kernel_rfl)) ?_
  refine r_loopI (α := Zon × Int) (fun x => [(7, .u (.c (zoneC x.1))), (33, tI ((List.replicate (i64.wrap ((i64.wrap ((i64.wrap (a0 + 8)) - 1)).tdiv 8)).toNat (0 : Int)).length : Int)), (34, tI x.2)]) (fun n x => ZNew.l1 k a0 r1 n x.1 x.2 = some r) k ((⟨r1.1, a0, (List.replicate (i64.wrap ((i64.wrap ((i64.wrap (a0 + 8)) - 1)).tdiv 8)).toNat (0 : Int)), (List.replicate (i64.wrap ((i64.wrap ((i64.wrap (a0 + 8)) - 1)).tdiv 8)).toNat false)⟩ : Zon), 0) h (by intro x h; unfold ZNew.l1 at h; cases h) ?_
  rintro n1 ⟨v4, v5⟩ h
  replace h : ZNew.l1 k a0 r1 (n1 + 1) v4 v5 = some r := h
  unfold ZNew.l1 at h
  show Run _ _ _ (St.of [(7, .u (.c (zoneC v4))), (33, tI ((List.replicate (i64.wrap ((i64.wrap ((i64.wrap (a0 + 8)) - 1)).tdiv 8)).toNat (0 : Int)).length : Int)), (34, tI v5)]) _
  refine r_seq ?_
  refine rr [(7, .u (.c (zoneC v4))), (33, tI ((List.replicate (i64.wrap ((i64.wrap ((i64.wrap (a0 + 8)) - 1)).tdiv 8)).toNat (0 : Int)).length : Int)), (34, tI v5), (35, tB (decide (v5 < ((List.replicate (i64.wrap ((i64.wrap ((i64.wrap (a0 + 8)) - 1)).tdiv 8)).toNat (0 : Int)).length : Int))))] (cgt 1 [35] .nil) ?_
  refine r_seq ?_
  rcases Bool.eq_false_or_eq_true (decide (v5 < ((List.replicate (i64.wrap ((i64.wrap ((i64.wrap (a0 + 8)) - 1)).tdiv 8)).toNat (0 : Int)).length : Int))) with hb | hb
  · have h := cond_t hb h
    refine r_condT hb rfl ?_
    refine r_skip ?_
    refine r_seq ?_
    refine r_block ?_
    refine r_seq ?_
    refine rr [(7, .u (.c (zoneC v4))), (8, tI v5), (33, tI ((List.replicate (i64.wrap ((i64.wrap ((i64.wrap (a0 + 8)) - 1)).tdiv 8)).toNat (0 : Int)).length : Int)), (34, tI v5)] (cgt 2 [36, 8] .nil) ?_
    obtain ⟨hg6, h⟩ := guard_some h
    simp only [Bool.and_eq_true, decide_eq_true_eq] at hg6
    refine rr [(7, .u (.c (.pt true [storeC v4.s, .v (.int .i64 v4.n), .sl true 1 ((v4.t.set ((v5).toNat) 1).map eI), .sl true 1 (v4.c.map eB)]))), (33, tI ((List.replicate (i64.wrap ((i64.wrap ((i64.wrap (a0 + 8)) - 1)).tdiv 8)).toNat (0 : Int)).length : Int)), (34, tI v5)] (cgt 5 [37, 38, 39, 40, 41] (cot 6 (os_plain rfl rfl (s_indexV (r := 7) (lo := 0) (n := (v4.t.map eI).length) (pl := (some (.d, [], 2))) (sz := 1) (e := v5) (ik := .i64) (k := (v5).toNat) rfl sl48 (by kernel_rfl) (.tmp (by kernel_rfl)) hg6.1 (by rw [List.length_map]; exact hg6.2) (Nat.zero_add _) rfl (by kernel_rfl) (by kernel_rfl))) (cot 7 (os_plain rfl rfl (s_storeR (f := eI) (k := 0) (sz := 0) (n := 1) (r := 7) (off := 0) (s := .d) (p := [(2, .i ((v5).toNat) 1)]) (c := zoneC v4) (cs := (eI (v4.t.getD ((v5).toNat) (0 : Int)))) (u := .c (.v (.int .i64 1))) (us := [.v (.int .i64 1)]) (c' := .pt true [storeC v4.s, .v (.int .i64 v4.n), .sl true 1 ((v4.t.set ((v5).toNat) 1).map eI), .sl true 1 (v4.c.map eB)]) rfl (by kernel_rfl) (by kernel_rfl) (by kernel_rfl) rfl (by kernel_rfl) (getP_in (c' := .sl true 1 (v4.t.map eI)) rfl (getP_map (f := eI) (own := true) (xs := v4.t) (k := (v5).toNat) (0 : Int) (by have := hg6; omega))) rfl rfl rfl (Nat.le_of_ble_eq_true rfl) (by kernel_rfl) rfl rfl rfl (congrArg (fun x => C.pt true [storeC v4.s, .v (.int .i64 v4.n), .sl true 1 x, .sl true 1 (v4.c.map eB)]) (map_setC (f := eI) (y := 1) rfl)))) .nil))) ?_
    refine rr [(7, .u (.c (.pt true [storeC v4.s, .v (.int .i64 v4.n), .sl true 1 ((v4.t.set ((v5).toNat) 1).map eI), .sl true 1 (v4.c.map eB)]))), (33, tI ((List.replicate (i64.wrap ((i64.wrap ((i64.wrap (a0 + 8)) - 1)).tdiv 8)).toNat (0 : Int)).length : Int)), (34, tI (i64.wrap (v5 + 1)))] (cgt 2 [43, 34] .nil) ?_
    exact ⟨((⟨v4.s, v4.n, (v4.t.set ((v5).toNat) 1), v4.c⟩ : Zon), i64.wrap (v5 + 1)), h, of_weak (by kernel_rfl)⟩
  have h := cond_f hb h
  refine r_condF hb rfl ?_
  refine r_exit ?_
  refine r_seq ?_
  refine rr [(2, .u (.c (zoneC v4))), (3, .u (.c (.err none)))] (cot 1 (os_plain rfl rfl (s_take (u := .c (zoneC v4)) (.inl rfl) (.move (by kernel_rfl) rfl) rfl (by kernel_rfl))) (cot 2 (os_plain rfl rfl (s_take (u := .c (zoneC v4)) (.inr rfl) (.move (by kernel_rfl) rfl) rfl (by kernel_rfl))) (cgt 3 [3] .nil))) ?_
  refine r_ret ?_
  obtain rfl := Option.some.inj h
  exact ⟨.inr rfl, _, _, .cons (.move rfl rfl) (.cons (.copy rfl rfl rfl) .nil), rfl, outs_of trivial⟩
def rooms.l2 (k : Nat) (a0 : Zon) (r1 : Sto × (List Blk)) (v2 : List Blk) (v3 : Int) : Nat → (List Blk) → Int → Option ((List Blk) × Int)
  | 0, _, _ => none
  | n2 + 1, v5, v6 => (bif decide (0 ≤ ((r1.2.getD ((v3).toNat) zR).o)) then (bif decide (v6 < (i64.wrap (((r1.2.getD ((v3).toNat) zR).f) + (i64.wrap (1 * 2 ^ min ((r1.2.getD ((v3).toNat) zR).o).toNat (IntKind.i64).bits))))) then (bif decide (0 ≤ (i64.wrap (v6.tdiv 8))) && decide ((i64.wrap (v6.tdiv 8)) < (a0.c.length : Int)) then (bif !(a0.c.getD (((i64.wrap (v6.tdiv 8))).toNat) false) then (bif decide (v5.length + [(⟨v6, (if 3 < (r1.2.getD ((v3).toNat) zR).o then 3 else (r1.2.getD ((v3).toNat) zR).o)⟩ : Blk)].length ≤ 1000000) then (bif decide (0 ≤ (if 3 < (r1.2.getD ((v3).toNat) zR).o then 3 else (r1.2.getD ((v3).toNat) zR).o)) then rooms.l2 k a0 r1 v2 v3 n2 (v5 ++ [(⟨v6, (if 3 < (r1.2.getD ((v3).toNat) zR).o then 3 else (r1.2.getD ((v3).toNat) zR).o)⟩ : Blk)]) (i64.wrap (v6 + (i64.wrap (1 * 2 ^ min ((if 3 < (r1.2.getD ((v3).toNat) zR).o then 3 else (r1.2.getD ((v3).toNat) zR).o)).toNat (IntKind.i64).bits)))) else none) else none) else (bif decide (0 ≤ (if 3 < (r1.2.getD ((v3).toNat) zR).o then 3 else (r1.2.getD ((v3).toNat) zR).o)) then rooms.l2 k a0 r1 v2 v3 n2 v5 (i64.wrap (v6 + (i64.wrap (1 * 2 ^ min ((if 3 < (r1.2.getD ((v3).toNat) zR).o then 3 else (r1.2.getD ((v3).toNat) zR).o)).toNat (IntKind.i64).bits)))) else none)) else none) else some (v5, v6)) else none)
def rooms.l1 (k : Nat) (a0 : Zon) (r1 : Sto × (List Blk)) : Nat → (List Blk) → Int → Option (Zon × (List Blk))
  | 0, _, _ => none
  | n1 + 1, v2, v3 => (bif decide (v3 < (r1.2.length : Int)) then (bif decide (0 ≤ v3) && decide (v3 < (r1.2.length : Int)) then (rooms.l2 k a0 r1 v2 v3 k v2 ((r1.2.getD ((v3).toNat) zR).f)).bind fun (y7 : (List Blk) × Int) => rooms.l1 k a0 r1 n1 y7.1 (i64.wrap (v3 + 1)) else none) else some ((⟨r1.1, a0.n, a0.t, a0.c⟩ : Zon), v2))
set_option maxHeartbeats 4000000 in
def rooms.f (k : Nat) (a0 : Zon) : Option (Zon × (List Blk)) :=
  (Free.f k a0.s).bind fun (r1 : Sto × (List Blk)) => rooms.l1 k a0 r1 k [] 0
set_option maxHeartbeats 4000000 in
theorem rooms.ac (k : Nat) (a0 : Zon) (r : Zon × (List Blk)) (h : rooms.f k a0 = some r) : AC Tryd.prog 28 32 [.c (zoneC a0)] [some (.c (zoneC r.1))] [.c (.sl true 2 (r.2.map eR))] := by
  unfold rooms.f at h
  refine ac_intro (fn := Tryd.f32) (pins := [0]) (rts := [2]) Tryd.func32 rfl Tryd.ntmps32 rfl (Nat.le_of_ble_eq_true rfl) (pins_lt rfl) rfl (fun w R E vs => ?_)
  refine r_weak (of_weak (l := [(0, .u (.c (zoneC a0)))]) (by kernel_rfl)) ?_
  refine r_seq ?_
  refine rr [(0, .u (.c (zoneC a0)))] (cot 1 (os_plain rfl rfl (s_take (.inr rfl) (.sl 2) rfl (by kernel_rfl))) .nil) ?_
  refine r_seq ?_
  refine rr [(0, .u (.c (zoneC a0))), (3, .u (.c (.sl true 2 ([].map eR))))] (cot 1 (os_plain rfl rfl (s_take (.inr rfl) (.sl 2) rfl (by kernel_rfl))) .nil) ?_
  refine r_seq ?_
  refine r_seq ?_
  obtain ⟨r1, hr1, h⟩ := bind_some h
  refine rr [(0, .u (.c (.pt true [storeC r1.1, .v (.int .i64 a0.n), .sl true 1 (a0.t.map eI), .sl true 1 (a0.c.map eB)]))), (3, .u (.c (.sl true 2 ([].map eR)))), (12, .u (.c (.sl true 2 (r1.2.map eR)))), (13, tI (r1.2.length : Int)), (14, tI 0)] (cgt 4 [8, 9, 10, 11] (cot 5 (os_plain rfl rfl (c_call (AC.k (Free.ac (h := hr1))) ⟨_, Tryd.func34, rfl, by kernel_rfl⟩ rfl (hand_ptrC (r := 0) (off := 0) (own := true) (c := zoneC a0) (cs := [storeC a0.s, .v (.int .i64 a0.n), .sl true 1 (a0.t.map eI), .sl true 1 (a0.c.map eB)]) (ds := [.v (.int .i64 a0.s.n), .sl true 2 (a0.s.l.map eR)]) (by kernel_rfl) (by kernel_rfl) (by kernel_rfl) (by kernel_rfl) (by kernel_rfl) .nil) rfl (by kernel_rfl))) (cot 6 (os_to (os_plain rfl rfl (s_lenV (r := 12) (lo := 0) (n := (r1.2.map eR).length) (pl := none) (sz := 2) rfl sl36 (by kernel_rfl) rfl (by kernel_rfl))) (t' := tI (r1.2.length : Int)) (by rw [List.length_map])) (cgt 7 [14] .nil)))) ?_
  refine r_block ?_
  refine r_weak (of_weak (l := [(0, .u (.c (.pt true [storeC r1.1, .v (.int .i64 a0.n), .sl true 1 (a0.t.map eI), .sl true 1 (a0.c.map eB)]))), (3, .u (.c (.sl true 2 ([].map eR)))), (12, .u (.c (.sl true 2 (r1.2.map eR)))), (13, tI (r1.2.length : Int)), (14, tI 0)]) (by kernel_rfl)) ?_
  refine r_loopI (α := (List Blk) × Int) (fun x => [(0, .u (.c (.pt true [storeC r1.1, .v (.int .i64 a0.n), .sl true 1 (a0.t.map eI), .sl true 1 (a0.c.map eB)]))), (3, .u (.c (.sl true 2 (x.1.map eR)))), (12, .u (.c (.sl true 2 (r1.2.map eR)))), (13, tI (r1.2.length : Int)), (14, tI x.2)]) (fun n x => rooms.l1 k a0 r1 n x.1 x.2 = some r) k ([], 0) h (by intro x h; unfold rooms.l1 at h; cases h) ?_
  rintro n1 ⟨v2, v3⟩ h
  replace h : rooms.l1 k a0 r1 (n1 + 1) v2 v3 = some r := h
  unfold rooms.l1 at h
  show Run _ _ _ (St.of [(0, .u (.c (.pt true [storeC r1.1, .v (.int .i64 a0.n), .sl true 1 (a0.t.map eI), .sl true 1 (a0.c.map eB)]))), (3, .u (.c (.sl true 2 (v2.map eR)))), (12, .u (.c (.sl true 2 (r1.2.map eR)))), (13, tI (r1.2.length : Int)), (14, tI v3)]) _
  refine r_seq ?_
  refine rr [(0, .u (.c (.pt true [storeC r1.1, .v (.int .i64 a0.n), .sl true 1 (a0.t.map eI), .sl true 1 (a0.c.map eB)]))), (3, .u (.c (.sl true 2 (v2.map eR)))), (12, .u (.c (.sl true 2 (r1.2.map eR)))), (13, tI (r1.2.length : Int)), (14, tI v3), (15, tB (decide (v3 < (r1.2.length : Int))))] (cgt 1 [15] .nil) ?_
  refine r_seq ?_
  rcases Bool.eq_false_or_eq_true (decide (v3 < (r1.2.length : Int))) with hb | hb
  · have h := cond_t hb h
    refine r_condT hb rfl ?_
    refine r_skip ?_
    refine r_seq ?_
    refine r_block ?_
    refine r_seq ?_
    obtain ⟨hg4, h⟩ := guard_some h
    simp only [Bool.and_eq_true, decide_eq_true_eq] at hg4
    refine rr [(0, .u (.c (.pt true [storeC r1.1, .v (.int .i64 a0.n), .sl true 1 (a0.t.map eI), .sl true 1 (a0.c.map eB)]))), (3, .u (.c (.sl true 2 (v2.map eR)))), (5, .u (.c (.pt true [.v (.int .i64 ((r1.2.getD ((v3).toNat) zR).f)), .v (.int .i64 ((r1.2.getD ((v3).toNat) zR).o))]))), (12, .u (.c (.sl true 2 (r1.2.map eR)))), (13, tI (r1.2.length : Int)), (14, tI v3)] (cot 1 (os_plain rfl rfl (s_indexV (r := 12) (lo := 0) (n := (r1.2.map eR).length) (pl := none) (sz := 2) (e := v3) (ik := .i64) (k := (v3).toNat) rfl sl36 (by kernel_rfl) (.tmp (by kernel_rfl)) hg4.1 (by rw [List.length_map]; exact hg4.2) (Nat.zero_add _) rfl (by kernel_rfl) (by kernel_rfl))) (cot 2 (os_plain rfl rfl (s_loadA (n := 2) (xs := [.v (.int .i64 ((r1.2.getD ((v3).toNat) zR).f)), .v (.int .i64 ((r1.2.getD ((v3).toNat) zR).o))]) (r := 12) (off := 0) (s := .i ((v3).toNat) 2) (p := []) (c := .sl true 2 (r1.2.map eR)) (cs := eR (r1.2.getD ((v3).toNat) zR)) rfl (aggB_ok (by kernel_rfl)) (by kernel_rfl) (by kernel_rfl) (getP_map zR (by have := hg4; omega)) rfl rfl rfl rfl (by kernel_rfl))) (cot 3 (os_plain rfl rfl (s_alloc rfl zero39 rfl (by kernel_rfl))) (cot 4 (os_plain rfl rfl (s_storeS (n := 2) (r := 5) (off := 0) (s := .d) (p := []) (c := .pt true [.v (.int .i64 0), .v (.int .i64 0)]) (cs := [.v (.int .i64 0), .v (.int .i64 0)]) (u := .agg [.v (.int .i64 ((r1.2.getD ((v3).toNat) zR).f)), .v (.int .i64 ((r1.2.getD ((v3).toNat) zR).o))]) rfl (by kernel_rfl) (by kernel_rfl) (by kernel_rfl) rfl (by kernel_rfl) rfl rfl rfl rfl (Nat.le_of_ble_eq_true rfl) (by kernel_rfl) (by kernel_rfl) rfl rfl)) .nil)))) ?_
    refine r_seq ?_
    refine rr [(0, .u (.c (.pt true [storeC r1.1, .v (.int .i64 a0.n), .sl true 1 (a0.t.map eI), .sl true 1 (a0.c.map eB)]))), (3, .u (.c (.sl true 2 (v2.map eR)))), (5, .u (.c (.pt true [.v (.int .i64 ((r1.2.getD ((v3).toNat) zR).f)), .v (.int .i64 ((r1.2.getD ((v3).toNat) zR).o))]))), (6, tI (if 3 < (r1.2.getD ((v3).toNat) zR).o then 3 else (r1.2.getD ((v3).toNat) zR).o)), (12, .u (.c (.sl true 2 (r1.2.map eR)))), (13, tI (r1.2.length : Int)), (14, tI v3)] (cgt 2 [18, 19] (cot 3 (os_plain rfl rfl (s_min (k := .i64) (p := (r1.2.getD ((v3).toNat) zR).o) (q := 3) rfl (by kernel_rfl) (by kernel_rfl) rfl (by kernel_rfl))) (cgt 4 [6] .nil))) ?_
    refine r_seq ?_
    refine rr [(0, .u (.c (.pt true [storeC r1.1, .v (.int .i64 a0.n), .sl true 1 (a0.t.map eI), .sl true 1 (a0.c.map eB)]))), (3, .u (.c (.sl true 2 (v2.map eR)))), (5, .u (.c (.pt true [.v (.int .i64 ((r1.2.getD ((v3).toNat) zR).f)), .v (.int .i64 ((r1.2.getD ((v3).toNat) zR).o))]))), (6, tI (if 3 < (r1.2.getD ((v3).toNat) zR).o then 3 else (r1.2.getD ((v3).toNat) zR).o)), (7, tI ((r1.2.getD ((v3).toNat) zR).f)), (12, .u (.c (.sl true 2 (r1.2.map eR)))), (13, tI (r1.2.length : Int)), (14, tI v3)] (cgt 3 [21, 22, 7] .nil) ?_
    refine r_block ?_
    refine r_weak (of_weak (l := [(0, .u (.c (.pt true [storeC r1.1, .v (.int .i64 a0.n), .sl true 1 (a0.t.map eI), .sl true 1 (a0.c.map eB)]))), (3, .u (.c (.sl true 2 (v2.map eR)))), (5, .u (.c (.pt true [.v (.int .i64 ((r1.2.getD ((v3).toNat) zR).f)), .v (.int .i64 ((r1.2.getD ((v3).toNat) zR).o))]))), (6, tI (if 3 < (r1.2.getD ((v3).toNat) zR).o then 3 else (r1.2.getD ((v3).toNat) zR).o)), (7, tI ((r1.2.getD ((v3).toNat) zR).f)), (12, .u (.c (.sl true 2 (r1.2.map eR)))), (13, tI (r1.2.length : Int)), (14, tI v3)]) (by kernel_rfl)) ?_
    obtain ⟨y7, hy7, h_y7⟩ := bind_some h
    refine r_loopI (α := (List Blk) × Int) (fun x => [(0, .u (.c (.pt true [storeC r1.1, .v (.int .i64 a0.n), .sl true 1 (a0.t.map eI), .sl true 1 (a0.c.map eB)]))), (3, .u (.c (.sl true 2 (x.1.map eR)))), (5, .u (.c (.pt true [.v (.int .i64 ((r1.2.getD ((v3).toNat) zR).f)), .v (.int .i64 ((r1.2.getD ((v3).toNat) zR).o))]))), (6, tI (if 3 < (r1.2.getD ((v3).toNat) zR).o then 3 else (r1.2.getD ((v3).toNat) zR).o)), (7, tI x.2), (12, .u (.c (.sl true 2 (r1.2.map eR)))), (13, tI (r1.2.length : Int)), (14, tI v3)]) (fun n x => rooms.l2 k a0 r1 v2 v3 n x.1 x.2 = some y7) k (v2, (r1.2.getD ((v3).toNat) zR).f) hy7 (by intro x h; unfold rooms.l2 at h; cases h) ?_
    rintro n2 ⟨v5, v6⟩ h
    replace h : rooms.l2 k a0 r1 v2 v3 (n2 + 1) v5 v6 = some y7 := h
    unfold rooms.l2 at h
    show Run _ _ _ (St.of [(0, .u (.c (.pt true [storeC r1.1, .v (.int .i64 a0.n), .sl true 1 (a0.t.map eI), .sl true 1 (a0.c.map eB)]))), (3, .u (.c (.sl true 2 (v5.map eR)))), (5, .u (.c (.pt true [.v (.int .i64 ((r1.2.getD ((v3).toNat) zR).f)), .v (.int .i64 ((r1.2.getD ((v3).toNat) zR).o))]))), (6, tI (if 3 < (r1.2.getD ((v3).toNat) zR).o then 3 else (r1.2.getD ((v3).toNat) zR).o)), (7, tI v6), (12, .u (.c (.sl true 2 (r1.2.map eR)))), (13, tI (r1.2.length : Int)), (14, tI v3)]) _
    refine r_seq ?_
    refine r_seq ?_
    obtain ⟨hg8, h⟩ := guard_some h
    simp only [decide_eq_true_eq] at hg8
    refine r_weak (of_weak (l := [(0, .u (.c (.pt true [storeC r1.1, .v (.int .i64 a0.n), .sl true 1 (a0.t.map eI), .sl true 1 (a0.c.map eB)]))), (3, .u (.c (.sl true 2 (v5.map eR)))), (5, .u (.c (.pt true [.v (.int .i64 ((r1.2.getD ((v3).toNat) zR).f)), .v (.int .i64 ((r1.2.getD ((v3).toNat) zR).o))]))), (6, tI (if 3 < (r1.2.getD ((v3).toNat) zR).o then 3 else (r1.2.getD ((v3).toNat) zR).o)), (7, tI v6), (12, .u (.c (.sl true 2 (r1.2.map eR)))), (13, tI (r1.2.length : Int)), (14, tI v3)]) (by kernel_rfl)) ?_
    refine r_anyW (l := [(0, .u (.c (.pt true [storeC r1.1, .v (.int .i64 a0.n), .sl true 1 (a0.t.map eI), .sl true 1 (a0.c.map eB)]))), (3, .u (.c (.sl true 2 (v5.map eR)))), (5, .u (.c (.pt true [.v (.int .i64 ((r1.2.getD ((v3).toNat) zR).f)), .v (.int .i64 ((r1.2.getD ((v3).toNat) zR).o))]))), (6, tI (if 3 < (r1.2.getD ((v3).toNat) zR).o then 3 else (r1.2.getD ((v3).toNat) zR).o)), (7, tI v6), (12, .u (.c (.sl true 2 (r1.2.map eR)))), (13, tI (r1.2.length : Int)), (14, tI v3), (30, tB (decide (v6 < (i64.wrap (((r1.2.getD ((v3).toNat) zR).f) + (i64.wrap (1 * 2 ^ min ((r1.2.getD ((v3).toNat) zR).o).toNat (IntKind.i64).bits)))))))]) (tab := [[], [], [1], [], [3], [4], [2, 5], [0, 6]]) [ev [] [7] 23 (tI v6), ev [] [5] 24 (.addr 5 (.d) [] 0), ev [1] [5, 24] 25 (tI ((r1.2.getD ((v3).toNat) zR).f)), ev [] [5] 26 (.addr 5 (.d) [] 1), ev [3] [5, 26] 27 (tI ((r1.2.getD ((v3).toNat) zR).o)), ev [3, 4] [27] 28 (tI (i64.wrap (1 * 2 ^ min ((r1.2.getD ((v3).toNat) zR).o).toNat (IntKind.i64).bits))), ev [1, 2, 3, 4, 5] [25, 28] 29 (tI (i64.wrap (((r1.2.getD ((v3).toNat) zR).f) + (i64.wrap (1 * 2 ^ min ((r1.2.getD ((v3).toNat) zR).o).toNat (IntKind.i64).bits))))), eu 7 [23, 29] 30 (tB (decide (v6 < (i64.wrap (((r1.2.getD ((v3).toNat) zR).f) + (i64.wrap (1 * 2 ^ min ((r1.2.getD ((v3).toNat) zR).o).toNat (IntKind.i64).bits)))))))] hm (by kernel_rfl) (by kernel_rfl) (by kernel_rfl) (en (en (en (en (en (.cons (fun σ hc => e_put hc rfl rfl (os_to (os_plain rfl rfl (s_shift (op := .shl) (k := .i64) (p := 1) (q := (r1.2.getD ((v3).toNat) zR).o) (yk := .i64) rfl (.inl rfl) (by kernel_rfl) (by kernel_rfl) hg8 rfl (by kernel_rfl))) (t' := tI (i64.wrap (1 * 2 ^ min ((r1.2.getD ((v3).toNat) zR).o).toNat (IntKind.i64).bits))) (by kernel_rfl))) (en (en .nil)))))))) (by kernel_rfl) ?_
    rcases Bool.eq_false_or_eq_true (decide (v6 < (i64.wrap (((r1.2.getD ((v3).toNat) zR).f) + (i64.wrap (1 * 2 ^ min ((r1.2.getD ((v3).toNat) zR).o).toNat (IntKind.i64).bits)))))) with hb | hb
    · have h := cond_t hb h
      refine r_condT hb rfl ?_
      refine r_skip ?_
      refine r_seq ?_
      refine r_block ?_
      refine r_seq ?_
      obtain ⟨hg9, h⟩ := guard_some h
      simp only [Bool.and_eq_true, decide_eq_true_eq] at hg9
      refine rr [(0, .u (.c (.pt true [storeC r1.1, .v (.int .i64 a0.n), .sl true 1 (a0.t.map eI), .sl true 1 (a0.c.map eB)]))), (3, .u (.c (.sl true 2 (v5.map eR)))), (5, .u (.c (.pt true [.v (.int .i64 ((r1.2.getD ((v3).toNat) zR).f)), .v (.int .i64 ((r1.2.getD ((v3).toNat) zR).o))]))), (6, tI (if 3 < (r1.2.getD ((v3).toNat) zR).o then 3 else (r1.2.getD ((v3).toNat) zR).o)), (7, tI v6), (12, .u (.c (.sl true 2 (r1.2.map eR)))), (13, tI (r1.2.length : Int)), (14, tI v3), (43, tB (!(a0.c.getD (((i64.wrap (v6.tdiv 8))).toNat) false)))] (cgt 5 [35, 36, 37, 38, 39] (cot 6 (os_to (os_plain rfl rfl (s_div (op := .quo) (k := .i64) (p := v6) (q := 8) rfl (.inl rfl) (by kernel_rfl) (by kernel_rfl) (by decide) rfl (by kernel_rfl))) (t' := tI (i64.wrap (v6.tdiv 8))) (by kernel_rfl)) (cot 7 (os_plain rfl rfl (s_indexV (r := 0) (lo := 0) (n := (a0.c.map eB).length) (pl := (some (.d, [], 3))) (sz := 1) (e := (i64.wrap (v6.tdiv 8))) (ik := .i64) (k := ((i64.wrap (v6.tdiv 8))).toNat) rfl sl52 (by kernel_rfl) (.tmp (by kernel_rfl)) hg9.1 (by rw [List.length_map]; exact hg9.2) (Nat.zero_add _) rfl (by kernel_rfl) (by kernel_rfl))) (cot 8 (os_plain rfl rfl (s_load1 (x := .v (.bool (a0.c.getD (((i64.wrap (v6.tdiv 8))).toNat) false))) (r := 0) (off := 0) (s := .d) (p := [(3, .i (((i64.wrap (v6.tdiv 8))).toNat) 1)]) (c := .pt true [storeC r1.1, .v (.int .i64 a0.n), .sl true 1 (a0.t.map eI), .sl true 1 (a0.c.map eB)]) (cs := (eB (a0.c.getD (((i64.wrap (v6.tdiv 8))).toNat) false))) rfl (oneB_ok (by kernel_rfl)) (by kernel_rfl) (by kernel_rfl) (getP_in (c' := .sl true 1 (a0.c.map eB)) rfl (getP_map (f := eB) (own := true) (xs := a0.c) (k := ((i64.wrap (v6.tdiv 8))).toNat) false (by have := hg9; omega))) rfl rfl rfl (by kernel_rfl))) (cgt 9 [43] .nil))))) ?_
      rcases Bool.eq_false_or_eq_true (!(a0.c.getD (((i64.wrap (v6.tdiv 8))).toNat) false)) with hb | hb
      · have h := cond_t hb h
        refine r_condT hb rfl ?_
        obtain ⟨hg10, h⟩ := guard_some h
        simp only [decide_eq_true_eq] at hg10
        refine rr [(0, .u (.c (.pt true [storeC r1.1, .v (.int .i64 a0.n), .sl true 1 (a0.t.map eI), .sl true 1 (a0.c.map eB)]))), (3, .u (.c (.sl true 2 ((v5 ++ [(⟨v6, (if 3 < (r1.2.getD ((v3).toNat) zR).o then 3 else (r1.2.getD ((v3).toNat) zR).o)⟩ : Blk)]).map eR)))), (5, .u (.c (.pt true [.v (.int .i64 ((r1.2.getD ((v3).toNat) zR).f)), .v (.int .i64 ((r1.2.getD ((v3).toNat) zR).o))]))), (6, tI (if 3 < (r1.2.getD ((v3).toNat) zR).o then 3 else (r1.2.getD ((v3).toNat) zR).o)), (7, tI v6), (12, .u (.c (.sl true 2 (r1.2.map eR)))), (13, tI (r1.2.length : Int)), (14, tI v3)] (cot 1 (os_plain rfl rfl (s_take (u := .c (.sl true 2 (v5.map eR))) (.inl rfl) (.move (by kernel_rfl) rfl) rfl (by kernel_rfl))) (cgt 3 [45, 46] (cot 4 (os_plain rfl rfl (s_build (us := [(0, .c (.v (.int .i64 v6))), (1, .c (.v (.int .i64 (if 3 < (r1.2.getD ((v3).toNat) zR).o then 3 else (r1.2.getD ((v3).toNat) zR).o))))]) (zs := [.v (.int .i64 0), .v (.int .i64 0)]) (cs := [.v (.int .i64 v6), .v (.int .i64 (if 3 < (r1.2.getD ((v3).toNat) zR).o then 3 else (r1.2.getD ((v3).toNat) zR).o))]) rfl build39 zero39 (.cons (.copy (by kernel_rfl) (by kernel_rfl) (by kernel_rfl)) (.cons (.copy (by kernel_rfl) (by kernel_rfl) (by kernel_rfl)) .nil)) (by kernel_rfl) rfl (by kernel_rfl))) (cot 5 (os_toG (os_plain rfl rfl (s_buildSlice (sz := 2) (len := 1) (us := [(0, .agg [.v (.int .i64 v6), .v (.int .i64 (if 3 < (r1.2.getD ((v3).toNat) zR).o then 3 else (r1.2.getD ((v3).toNat) zR).o))])]) (cs := [.v (.int .i64 v6), .v (.int .i64 (if 3 < (r1.2.getD ((v3).toNat) zR).o then 3 else (r1.2.getD ((v3).toNat) zR).o))]) rfl sliceZ36 (.cons (.copy (by kernel_rfl) (by kernel_rfl) (by kernel_rfl)) .nil) (by kernel_rfl) (Nat.le_of_ble_eq_true rfl) rfl (by kernel_rfl))) (t' := .u (.c (.sl true 2 ([(⟨v6, (if 3 < (r1.2.getD ((v3).toNat) zR).o then 3 else (r1.2.getD ((v3).toNat) zR).o)⟩ : Blk)].map eR)))) (by kernel_rfl)) (cot 6 (os_toG (os_plain rfl rfl (s_appendM (i := 44) (sz := 2) (rows := v5.map eR) (rows2 := [(⟨v6, (if 3 < (r1.2.getD ((v3).toNat) zR).o then 3 else (r1.2.getD ((v3).toNat) zR).o)⟩ : Blk)].map eR) rfl sliceZ36 (by kernel_rfl) (.v0 (r := 48) (lo := 0) (n := ([(⟨v6, (if 3 < (r1.2.getD ((v3).toNat) zR).o then 3 else (r1.2.getD ((v3).toNat) zR).o)⟩ : Blk)].map eR).length) (own := true) (rows := [(⟨v6, (if 3 < (r1.2.getD ((v3).toNat) zR).o then 3 else (r1.2.getD ((v3).toNat) zR).o)⟩ : Blk)].map eR) (by kernel_rfl) (by kernel_rfl) rows_all) (copy_map eR_copy) (lenMap2 hg10) (Nat.le_of_ble_eq_true rfl) rfl (by kernel_rfl))) (t' := .u (.c (.sl true 2 ((v5 ++ [(⟨v6, (if 3 < (r1.2.getD ((v3).toNat) zR).o then 3 else (r1.2.getD ((v3).toNat) zR).o)⟩ : Blk)]).map eR)))) (by simp only [List.map_append])) (cot 7 (os_plain rfl rfl (s_take (u := .c (.sl true 2 ((v5 ++ [(⟨v6, (if 3 < (r1.2.getD ((v3).toNat) zR).o then 3 else (r1.2.getD ((v3).toNat) zR).o)⟩ : Blk)]).map eR))) (.inr rfl) (.move (by kernel_rfl) rfl) rfl (by kernel_rfl))) .nil)))))) ?_
        obtain ⟨hg11, h⟩ := guard_some h
        simp only [decide_eq_true_eq] at hg11
        refine rr [(0, .u (.c (.pt true [storeC r1.1, .v (.int .i64 a0.n), .sl true 1 (a0.t.map eI), .sl true 1 (a0.c.map eB)]))), (3, .u (.c (.sl true 2 ((v5 ++ [(⟨v6, (if 3 < (r1.2.getD ((v3).toNat) zR).o then 3 else (r1.2.getD ((v3).toNat) zR).o)⟩ : Blk)]).map eR)))), (5, .u (.c (.pt true [.v (.int .i64 ((r1.2.getD ((v3).toNat) zR).f)), .v (.int .i64 ((r1.2.getD ((v3).toNat) zR).o))]))), (6, tI (if 3 < (r1.2.getD ((v3).toNat) zR).o then 3 else (r1.2.getD ((v3).toNat) zR).o)), (7, tI (i64.wrap (v6 + (i64.wrap (1 * 2 ^ min ((if 3 < (r1.2.getD ((v3).toNat) zR).o then 3 else (r1.2.getD ((v3).toNat) zR).o)).toNat (IntKind.i64).bits))))), (12, .u (.c (.sl true 2 (r1.2.map eR)))), (13, tI (r1.2.length : Int)), (14, tI v3)] (cgt 2 [31, 32] (cot 3 (os_to (os_plain rfl rfl (s_shift (op := .shl) (k := .i64) (p := 1) (q := (if 3 < (r1.2.getD ((v3).toNat) zR).o then 3 else (r1.2.getD ((v3).toNat) zR).o)) (yk := .i64) rfl (.inl rfl) (by kernel_rfl) (by kernel_rfl) hg11 rfl (by kernel_rfl))) (t' := tI (i64.wrap (1 * 2 ^ min ((if 3 < (r1.2.getD ((v3).toNat) zR).o then 3 else (r1.2.getD ((v3).toNat) zR).o)).toNat (IntKind.i64).bits))) (by kernel_rfl)) (cgt 5 [34, 7] .nil))) ?_
        exact ⟨((v5 ++ [(⟨v6, (if 3 < (r1.2.getD ((v3).toNat) zR).o then 3 else (r1.2.getD ((v3).toNat) zR).o)⟩ : Blk)]), i64.wrap (v6 + (i64.wrap (1 * 2 ^ min ((if 3 < (r1.2.getD ((v3).toNat) zR).o then 3 else (r1.2.getD ((v3).toNat) zR).o)).toNat (IntKind.i64).bits)))), h, of_weak (by kernel_rfl)⟩
      have h := cond_f hb h
      refine r_condF hb rfl ?_
      refine r_skip ?_
      obtain ⟨hg12, h⟩ := guard_some h
      simp only [decide_eq_true_eq] at hg12
      refine rr [(0, .u (.c (.pt true [storeC r1.1, .v (.int .i64 a0.n), .sl true 1 (a0.t.map eI), .sl true 1 (a0.c.map eB)]))), (3, .u (.c (.sl true 2 (v5.map eR)))), (5, .u (.c (.pt true [.v (.int .i64 ((r1.2.getD ((v3).toNat) zR).f)), .v (.int .i64 ((r1.2.getD ((v3).toNat) zR).o))]))), (6, tI (if 3 < (r1.2.getD ((v3).toNat) zR).o then 3 else (r1.2.getD ((v3).toNat) zR).o)), (7, tI (i64.wrap (v6 + (i64.wrap (1 * 2 ^ min ((if 3 < (r1.2.getD ((v3).toNat) zR).o then 3 else (r1.2.getD ((v3).toNat) zR).o)).toNat (IntKind.i64).bits))))), (12, .u (.c (.sl true 2 (r1.2.map eR)))), (13, tI (r1.2.length : Int)), (14, tI v3)] (cgt 2 [31, 32] (cot 3 (os_to (os_plain rfl rfl (s_shift (op := .shl) (k := .i64) (p := 1) (q := (if 3 < (r1.2.getD ((v3).toNat) zR).o then 3 else (r1.2.getD ((v3).toNat) zR).o)) (yk := .i64) rfl (.inl rfl) (by kernel_rfl) (by kernel_rfl) hg12 rfl (by kernel_rfl))) (t' := tI (i64.wrap (1 * 2 ^ min ((if 3 < (r1.2.getD ((v3).toNat) zR).o then 3 else (r1.2.getD ((v3).toNat) zR).o)).toNat (IntKind.i64).bits))) (by kernel_rfl)) (cgt 5 [34, 7] .nil))) ?_
      exact ⟨(v5, i64.wrap (v6 + (i64.wrap (1 * 2 ^ min ((if 3 < (r1.2.getD ((v3).toNat) zR).o then 3 else (r1.2.getD ((v3).toNat) zR).o)).toNat (IntKind.i64).bits)))), h, of_weak (by kernel_rfl)⟩
    have h := cond_f hb h
    refine r_condF hb rfl ?_
    refine r_weak (of_weak (l := [(0, .u (.c (.pt true [storeC r1.1, .v (.int .i64 a0.n), .sl true 1 (a0.t.map eI), .sl true 1 (a0.c.map eB)]))), (3, .u (.c (.sl true 2 (v5.map eR)))), (12, .u (.c (.sl true 2 (r1.2.map eR)))), (13, tI (r1.2.length : Int)), (14, tI v3)]) (by kernel_rfl)) ?_
    refine run_cast (α := (List Blk) × Int) (fun x => [(0, .u (.c (.pt true [storeC r1.1, .v (.int .i64 a0.n), .sl true 1 (a0.t.map eI), .sl true 1 (a0.c.map eB)]))), (3, .u (.c (.sl true 2 (x.1.map eR)))), (12, .u (.c (.sl true 2 (r1.2.map eR)))), (13, tI (r1.2.length : Int)), (14, tI v3)]) (x := (v5, v6)) (y := y7) (Option.some.inj h) ?_
    refine r_exit ?_
    replace h := h_y7
    refine rr [(0, .u (.c (.pt true [storeC r1.1, .v (.int .i64 a0.n), .sl true 1 (a0.t.map eI), .sl true 1 (a0.c.map eB)]))), (3, .u (.c (.sl true 2 (y7.1.map eR)))), (12, .u (.c (.sl true 2 (r1.2.map eR)))), (13, tI (r1.2.length : Int)), (14, tI (i64.wrap (v3 + 1)))] (cgt 2 [50, 14] .nil) ?_
    exact ⟨(y7.1, i64.wrap (v3 + 1)), h, of_weak (by kernel_rfl)⟩
  have h := cond_f hb h
  refine r_condF hb rfl ?_
  refine r_exit ?_
  refine r_seq ?_
  refine rr [(0, .u (.c (.pt true [storeC r1.1, .v (.int .i64 a0.n), .sl true 1 (a0.t.map eI), .sl true 1 (a0.c.map eB)]))), (2, .u (.c (.sl true 2 (v2.map eR))))] (cot 1 (os_plain rfl rfl (s_take (u := .c (.sl true 2 (v2.map eR))) (.inl rfl) (.move (by kernel_rfl) rfl) rfl (by kernel_rfl))) (cot 2 (os_plain rfl rfl (s_take (u := .c (.sl true 2 (v2.map eR))) (.inr rfl) (.move (by kernel_rfl) rfl) rfl (by kernel_rfl))) .nil)) ?_
  refine r_ret ?_
  obtain rfl := Option.some.inj h
  exact ⟨.inr rfl, _, _, .cons (.move rfl rfl) .nil, rfl, outs_of ⟨⟨rfl, rfl⟩, trivial⟩⟩
set_option maxHeartbeats 4000000 in
def has.f (k : Nat) (a0 : Zon) (a1 : Int) : Option (Zon × Bool) :=
  (bif decide (a1 ≥ 0) then some (a0, decide (a1 < (a0.t.length : Int))) else some (a0, false))
set_option maxHeartbeats 4000000 in
theorem has.ac (k : Nat) (a0 : Zon) (a1 : Int) (r : Zon × Bool) (h : has.f k a0 a1 = some r) : AC Tryd.prog 28 38 [.c (zoneC a0), .c (.v (.int .i64 a1))] [some (.c (zoneC r.1)), none] [.c (.v (.bool r.2))] := by
  unfold has.f at h
  refine ac_intro (fn := Tryd.f38) (pins := [0]) (rts := [4]) Tryd.func38 rfl Tryd.ntmps38 rfl (Nat.le_of_ble_eq_true rfl) (pins_lt rfl) rfl (fun w R E vs => ?_)
  refine r_weak (of_weak (l := [(0, .u (.c (zoneC a0))), (1, tI a1)]) (by kernel_rfl)) ?_
  refine r_seq ?_
  refine rr [(0, .u (.c (zoneC a0))), (1, tI a1)] (cgt 1 [4] .nil) ?_
  refine r_seq ?_
  rcases Bool.eq_false_or_eq_true (decide (a1 ≥ 0)) with hb | hb
  · have h := cond_t hb h
    have hs1 := hb
    refine rr [(0, .u (.c (zoneC a0))), (4, tB (decide (a1 < (a0.t.length : Int))))] (cgt 2 [5, 6] (cot 3 (os_ge (d := 7) (t := tB (decide (a1 ≥ 0))) (t' := tB true) (by kernel_rfl) (by rw [hs1])) (cgt 8 [8, 9, 10, 11, 12] (cot 9 (os_to (os_gy rfl rfl rfl (by kernel_rfl) (s_lenV (r := 0) (lo := 0) (n := (a0.t.map eI).length) (pl := (some (.d, [], 2))) (sz := 1) rfl sl48 (by kernel_rfl) rfl (by kernel_rfl))) (t' := tI (a0.t.length : Int)) (by rw [List.length_map])) (cgt 12 [14, 15, 4] .nil))))) ?_
    refine r_ret ?_
    obtain rfl := Option.some.inj h
    exact ⟨.inr rfl, _, _, .cons (.copy rfl rfl rfl) .nil, rfl, outs_of ⟨⟨rfl, rfl⟩, trivial⟩⟩
  have h := cond_f hb h
  have hs2 := hb
  refine rr [(0, .u (.c (zoneC a0))), (4, tB false)] (cgt 2 [5, 6] (cot 3 (os_ge (d := 7) (t := tB (decide (a1 ≥ 0))) (t' := tB false) (by kernel_rfl) (by rw [hs2])) (cgt 12 [8, 9, 10, 11, 12, 13, 14, 15, 4] .nil))) ?_
  refine r_ret ?_
  obtain rfl := Option.some.inj h
  exact ⟨.inr rfl, _, _, .cons (.copy rfl rfl rfl) .nil, rfl, outs_of ⟨⟨rfl, rfl⟩, trivial⟩⟩
def ZTake.j1 (k : Nat) (a0 : Zon) (a1 : Int) (a2 : Int) : Option (Sum (Unit) (Zon × Int × (Option Int))) :=
  (bif a1 != 0 then (bif a1 != 1 then some (Sum.inr (a0, 0, (some 1))) else (bif decide (a2 < 0) then some (Sum.inr (a0, 0, (some 1))) else (bif decide (a2 > 3) then some (Sum.inr (a0, 0, (some 1))) else some (Sum.inl ())))) else (bif decide (a2 < 0) then some (Sum.inr (a0, 0, (some 1))) else (bif decide (a2 > 3) then some (Sum.inr (a0, 0, (some 1))) else some (Sum.inl ()))))
def ZTake.j2 (k : Nat) (a0 : Zon) (a1 : Int) (a2 : Int) (y1v : Unit) (r10 : Zon × (List Blk)) (v11 : Zon) (v12 : Blk) (v13 : Blk) (v14 : Int) : Option (Blk) :=
  (bif decide (0 ≤ (i64.wrap (((r10.2.getD ((v14).toNat) zR).f).tdiv 8))) && decide ((i64.wrap (((r10.2.getD ((v14).toNat) zR).f).tdiv 8)) < (v11.t.length : Int)) then (bif (v11.t.getD (((i64.wrap (((r10.2.getD ((v14).toNat) zR).f).tdiv 8))).toNat) (0 : Int)) == a1 then (bif decide (v12.o < 0) then some (r10.2.getD ((v14).toNat) zR) else (bif decide (((r10.2.getD ((v14).toNat) zR).o) < v12.o) then some (r10.2.getD ((v14).toNat) zR) else some v12)) else some v12) else none)
def ZTake.j3 (k : Nat) (a0 : Zon) (a1 : Int) (a2 : Int) (y1v : Unit) (r10 : Zon × (List Blk)) (v11 : Zon) (v12 : Blk) (v13 : Blk) (v14 : Int) : Option (Blk) :=
  (bif decide (v12.o < 0) then some v13 else some v12)
def ZTake.l1 (k : Nat) (a0 : Zon) (a1 : Int) (a2 : Int) (y1v : Unit) (r10 : Zon × (List Blk)) : Nat → Zon → Blk → Blk → Int → Option (Zon × Int × (Option Int))
  | 0, _, _, _, _ => none
  | n1 + 1, v11, v12, v13, v14 => (bif decide (v14 < (r10.2.length : Int)) then (bif decide (0 ≤ v14) && decide (v14 < (r10.2.length : Int)) then (bif decide (((r10.2.getD ((v14).toNat) zR).o) < a2) then ZTake.l1 k a0 a1 a2 y1v r10 n1 v11 v12 v13 (i64.wrap (v14 + 1)) else (ZTake.j2 k a0 a1 a2 y1v r10 v11 v12 v13 v14).bind fun (y16 : Blk) => (bif decide (((r10.2.getD ((v14).toNat) zR).o) > v13.o) then ZTake.l1 k a0 a1 a2 y1v r10 n1 v11 y16 (r10.2.getD ((v14).toNat) zR) (i64.wrap (v14 + 1)) else ZTake.l1 k a0 a1 a2 y1v r10 n1 v11 y16 v13 (i64.wrap (v14 + 1)))) else none) else (ZTake.j3 k a0 a1 a2 y1v r10 v11 v12 v13 v14).bind fun (y22 : Blk) => (bif decide (y22.o < 0) then some (v11, 0, (some 5)) else (TakeAt.f k v11.s y22.f a2).bind fun (r23 : Sto × (Option Int)) => (bif !(r23.2 == none) then some ((⟨r23.1, v11.n, v11.t, v11.c⟩ : Zon), 0, r23.2) else (bif decide (0 ≤ (i64.wrap (y22.f.tdiv 8))) && decide ((i64.wrap (y22.f.tdiv 8)) < (v11.t.length : Int)) then some ((⟨r23.1, v11.n, (v11.t.set (((i64.wrap (y22.f.tdiv 8))).toNat) a1), v11.c⟩ : Zon), y22.f, none) else none))))
set_option maxHeartbeats 4000000 in
def ZTake.f (k : Nat) (a0 : Zon) (a1 : Int) (a2 : Int) : Option (Zon × Int × (Option Int)) :=
  (ZTake.j1 k a0 a1 a2).bind fun (y1 : Sum (Unit) (Zon × Int × (Option Int))) => Sum.elim (fun (y1v : Unit) => (rooms.f k a0).bind fun (r10 : Zon × (List Blk)) => ZTake.l1 k a0 a1 a2 y1v r10 k r10.1 (⟨0, (-1)⟩ : Blk) (⟨0, (-1)⟩ : Blk) 0) some y1
set_option maxHeartbeats 4000000 in
theorem ZTake.ac (k : Nat) (a0 : Zon) (a1 : Int) (a2 : Int) (r : Zon × Int × (Option Int)) (h : ZTake.f k a0 a1 a2 = some r) : ACD Tryd.prog 28 13 [.c (zoneC a0), .c (.v (.int .i64 a1)), .c (.v (.int .i64 a2))] [some (.c (zoneC r.1)), none, none] [.c (.v (.int .i64 r.2.1)), .c (.err r.2.2)] := by
  unfold ZTake.f at h
  refine act_intro (fn := Tryd.f13) (pins := [0]) (rts := [6, 7]) Tryd.func13 rfl Tryd.ntmps13 rfl (Nat.le_of_ble_eq_true rfl) (pins_lt rfl) rfl (fun w R E vs hT => ?_)
  refine r_weak (of_weak (l := [(0, .u (.c (zoneC a0))), (1, tI a1), (2, tI a2)]) (by kernel_rfl)) ?_
  refine r_seq ?_
  refine rr [(0, .u (.c (zoneC a0))), (1, tI a1), (2, tI a2)] (cgt 2 [6, 7] .nil) ?_
  refine r_seq ?_
  obtain ⟨y1, hy1, h_y1⟩ := bind_some h
  refine r_joinC (α := Unit) (fun x => [(0, .u (.c (zoneC a0))), (1, tI a1), (2, tI a2)]) (fun x => y1 = Sum.inl x) ?_ ?_
  · replace h := hy1
    unfold ZTake.j1 at h
    refine r_seq ?_
    rcases Bool.eq_false_or_eq_true (a1 != 0) with hb | hb
    · have h := cond_t hb h
      have hs2 := hb
      rcases Bool.eq_false_or_eq_true (a1 != 1) with hb | hb
      · have h := cond_t hb h
        have hs3 := hb
        refine rr [(0, .u (.c (zoneC a0))), (1, tI a1), (2, tI a2), (26, tB true)] (cgt 2 [13, 14] (cot 3 (os_ge (d := 15) (t := tB (a1 != 0)) (t' := tB true) (by kernel_rfl) (by rw [hs2])) (cgt 6 [16, 17, 18] (cot 7 (os_ge (d := 19) (t := tB (a1 != 1)) (t' := tB true) (by kernel_rfl) (by rw [hs3])) (cgt 14 [20, 21, 22, 23, 24, 25, 26] .nil))))) ?_
        refine r_condT rfl rfl ?_
        refine r_seq ?_
        refine rr [(0, .u (.c (zoneC a0))), (6, tI 0), (7, .u (.c (.err (some 1))))] (cot 1 (os_plain rfl rfl (s_iface (n := 1) rfl (errB_ok (by kernel_rfl)) rfl (by kernel_rfl) rfl (by kernel_rfl))) (cgt 3 [6, 7] .nil)) ?_
        obtain rfl := Option.some.inj h
        have h : Option.some _ = Option.some r := h_y1
        refine r_ret ?_
        obtain rfl := Option.some.inj h
        exact ⟨.inr rfl, _, _, .cons (.copy rfl rfl rfl) (.cons (.copy rfl rfl rfl) .nil), rfl, outs_of ⟨⟨rfl, rfl⟩, trivial⟩⟩
      have h := cond_f hb h
      have hs4 := hb
      rcases Bool.eq_false_or_eq_true (decide (a2 < 0)) with hb | hb
      · have h := cond_t hb h
        have hs5 := hb
        refine rr [(0, .u (.c (zoneC a0))), (1, tI a1), (2, tI a2), (26, tB true)] (cgt 2 [13, 14] (cot 3 (os_ge (d := 15) (t := tB (a1 != 0)) (t' := tB true) (by kernel_rfl) (by rw [hs2])) (cgt 6 [16, 17, 18] (cot 7 (os_ge (d := 19) (t := tB (a1 != 1)) (t' := tB false) (by kernel_rfl) (by rw [hs4])) (cgt 10 [20, 21, 22] (cot 11 (os_ge (d := 23) (t := tB (decide (a2 < 0))) (t' := tB true) (by kernel_rfl) (by rw [hs5])) (cgt 14 [24, 25, 26] .nil))))))) ?_
        refine r_condT rfl rfl ?_
        refine r_seq ?_
        refine rr [(0, .u (.c (zoneC a0))), (6, tI 0), (7, .u (.c (.err (some 1))))] (cot 1 (os_plain rfl rfl (s_iface (n := 1) rfl (errB_ok (by kernel_rfl)) rfl (by kernel_rfl) rfl (by kernel_rfl))) (cgt 3 [6, 7] .nil)) ?_
        obtain rfl := Option.some.inj h
        have h : Option.some _ = Option.some r := h_y1
        refine r_ret ?_
        obtain rfl := Option.some.inj h
        exact ⟨.inr rfl, _, _, .cons (.copy rfl rfl rfl) (.cons (.copy rfl rfl rfl) .nil), rfl, outs_of ⟨⟨rfl, rfl⟩, trivial⟩⟩
      have h := cond_f hb h
      have hs6 := hb
      refine rr [(0, .u (.c (zoneC a0))), (1, tI a1), (2, tI a2), (26, tB (decide (a2 > 3)))] (cgt 2 [13, 14] (cot 3 (os_ge (d := 15) (t := tB (a1 != 0)) (t' := tB true) (by kernel_rfl) (by rw [hs2])) (cgt 6 [16, 17, 18] (cot 7 (os_ge (d := 19) (t := tB (a1 != 1)) (t' := tB false) (by kernel_rfl) (by rw [hs4])) (cgt 10 [20, 21, 22] (cot 11 (os_ge (d := 23) (t := tB (decide (a2 < 0))) (t' := tB false) (by kernel_rfl) (by rw [hs6])) (cgt 14 [24, 25, 26] .nil))))))) ?_
      rcases Bool.eq_false_or_eq_true (decide (a2 > 3)) with hb | hb
      · have h := cond_t hb h
        refine r_condT hb rfl ?_
        refine r_seq ?_
        refine rr [(0, .u (.c (zoneC a0))), (6, tI 0), (7, .u (.c (.err (some 1))))] (cot 1 (os_plain rfl rfl (s_iface (n := 1) rfl (errB_ok (by kernel_rfl)) rfl (by kernel_rfl) rfl (by kernel_rfl))) (cgt 3 [6, 7] .nil)) ?_
        obtain rfl := Option.some.inj h
        have h : Option.some _ = Option.some r := h_y1
        refine r_ret ?_
        obtain rfl := Option.some.inj h
        exact ⟨.inr rfl, _, _, .cons (.copy rfl rfl rfl) (.cons (.copy rfl rfl rfl) .nil), rfl, outs_of ⟨⟨rfl, rfl⟩, trivial⟩⟩
      have h := cond_f hb h
      refine r_condF hb rfl ?_
      refine r_skip ?_
      exact ⟨(), (Option.some.inj h).symm, of_weak (by kernel_rfl)⟩
    have h := cond_f hb h
    have hs7 := hb
    rcases Bool.eq_false_or_eq_true (decide (a2 < 0)) with hb | hb
    · have h := cond_t hb h
      have hs8 := hb
      refine rr [(0, .u (.c (zoneC a0))), (1, tI a1), (2, tI a2), (26, tB true)] (cgt 2 [13, 14] (cot 3 (os_ge (d := 15) (t := tB (a1 != 0)) (t' := tB false) (by kernel_rfl) (by rw [hs7])) (cgt 10 [16, 17, 18, 19, 20, 21, 22] (cot 11 (os_ge (d := 23) (t := tB (decide (a2 < 0))) (t' := tB true) (by kernel_rfl) (by rw [hs8])) (cgt 14 [24, 25, 26] .nil))))) ?_
      refine r_condT rfl rfl ?_
      refine r_seq ?_
      refine rr [(0, .u (.c (zoneC a0))), (6, tI 0), (7, .u (.c (.err (some 1))))] (cot 1 (os_plain rfl rfl (s_iface (n := 1) rfl (errB_ok (by kernel_rfl)) rfl (by kernel_rfl) rfl (by kernel_rfl))) (cgt 3 [6, 7] .nil)) ?_
      obtain rfl := Option.some.inj h
      have h : Option.some _ = Option.some r := h_y1
      refine r_ret ?_
      obtain rfl := Option.some.inj h
      exact ⟨.inr rfl, _, _, .cons (.copy rfl rfl rfl) (.cons (.copy rfl rfl rfl) .nil), rfl, outs_of ⟨⟨rfl, rfl⟩, trivial⟩⟩
    have h := cond_f hb h
    have hs9 := hb
    refine rr [(0, .u (.c (zoneC a0))), (1, tI a1), (2, tI a2), (26, tB (decide (a2 > 3)))] (cgt 2 [13, 14] (cot 3 (os_ge (d := 15) (t := tB (a1 != 0)) (t' := tB false) (by kernel_rfl) (by rw [hs7])) (cgt 10 [16, 17, 18, 19, 20, 21, 22] (cot 11 (os_ge (d := 23) (t := tB (decide (a2 < 0))) (t' := tB false) (by kernel_rfl) (by rw [hs9])) (cgt 14 [24, 25, 26] .nil))))) ?_
    rcases Bool.eq_false_or_eq_true (decide (a2 > 3)) with hb | hb
    · have h := cond_t hb h
      refine r_condT hb rfl ?_
      refine r_seq ?_
      refine rr [(0, .u (.c (zoneC a0))), (6, tI 0), (7, .u (.c (.err (some 1))))] (cot 1 (os_plain rfl rfl (s_iface (n := 1) rfl (errB_ok (by kernel_rfl)) rfl (by kernel_rfl) rfl (by kernel_rfl))) (cgt 3 [6, 7] .nil)) ?_
      obtain rfl := Option.some.inj h
      have h : Option.some _ = Option.some r := h_y1
      refine r_ret ?_
      obtain rfl := Option.some.inj h
      exact ⟨.inr rfl, _, _, .cons (.copy rfl rfl rfl) (.cons (.copy rfl rfl rfl) .nil), rfl, outs_of ⟨⟨rfl, rfl⟩, trivial⟩⟩
    have h := cond_f hb h
    refine r_condF hb rfl ?_
    refine r_skip ?_
    exact ⟨(), (Option.some.inj h).symm, of_weak (by kernel_rfl)⟩
  rintro y1v rfl
  replace h := h_y1
  replace h := elim_go h
  try dsimp only at h
  refine r_seq ?_
  refine rr [(0, .u (.c (zoneC a0))), (1, tI a1), (2, tI a2), (8, .u (.c (.pt true [.v (.int .i64 0), .v (.int .i64 (-1))]))), (9, .u (.c (.pt true [.v (.int .i64 0), .v (.int .i64 (-1))])))] (cot 1 (os_plain rfl rfl (s_build (us := [(1, .c (.v (.int .i64 (-1))))]) (zs := [.v (.int .i64 0), .v (.int .i64 0)]) (cs := [.v (.int .i64 0), .v (.int .i64 (-1))]) rfl build39 zero39 (.cons (.copy (by kernel_rfl) (by kernel_rfl) (by kernel_rfl)) .nil) (by kernel_rfl) rfl (by kernel_rfl))) (cot 2 (os_plain rfl rfl (s_build (us := [(1, .c (.v (.int .i64 (-1))))]) (zs := [.v (.int .i64 0), .v (.int .i64 0)]) (cs := [.v (.int .i64 0), .v (.int .i64 (-1))]) rfl build39 zero39 (.cons (.copy (by kernel_rfl) (by kernel_rfl) (by kernel_rfl)) .nil) (by kernel_rfl) rfl (by kernel_rfl))) (cot 3 (os_plain rfl rfl (s_alloc rfl zero39 rfl (by kernel_rfl))) (cot 4 (os_plain rfl rfl (s_alloc rfl zero39 rfl (by kernel_rfl))) (cot 5 (os_plain rfl rfl (s_storeS (n := 2) (r := 8) (off := 0) (s := .d) (p := []) (c := .pt true [.v (.int .i64 0), .v (.int .i64 0)]) (cs := [.v (.int .i64 0), .v (.int .i64 0)]) (u := .agg [.v (.int .i64 0), .v (.int .i64 (-1))]) rfl (by kernel_rfl) (by kernel_rfl) (by kernel_rfl) rfl (by kernel_rfl) rfl rfl rfl rfl (Nat.le_of_ble_eq_true rfl) (by kernel_rfl) (by kernel_rfl) rfl rfl)) (cot 6 (os_plain rfl rfl (s_storeS (n := 2) (r := 9) (off := 0) (s := .d) (p := []) (c := .pt true [.v (.int .i64 0), .v (.int .i64 0)]) (cs := [.v (.int .i64 0), .v (.int .i64 0)]) (u := .agg [.v (.int .i64 0), .v (.int .i64 (-1))]) rfl (by kernel_rfl) (by kernel_rfl) (by kernel_rfl) rfl (by kernel_rfl) rfl rfl rfl rfl (Nat.le_of_ble_eq_true rfl) (by kernel_rfl) (by kernel_rfl) rfl rfl)) .nil)))))) ?_
  refine r_seq ?_
  refine r_seq ?_
  obtain ⟨r10, hr10, h⟩ := bind_some h
  refine rr [(0, .u (.c (zoneC r10.1))), (1, tI a1), (2, tI a2), (8, .u (.c (.pt true [.v (.int .i64 0), .v (.int .i64 (-1))]))), (9, .u (.c (.pt true [.v (.int .i64 0), .v (.int .i64 (-1))]))), (31, .u (.c (.sl true 2 (r10.2.map eR)))), (32, tI (r10.2.length : Int)), (33, tI 0)] (cgt 1 [30] (cot 2 (os_plain rfl rfl (c_call (AC.k (rooms.ac (h := hr10))) ⟨_, Tryd.func32, rfl, by kernel_rfl⟩ rfl (hand_root (r := 0) (c := zoneC a0) (by kernel_rfl) (by kernel_rfl) rfl .nil) rfl (by kernel_rfl))) (cot 3 (os_to (os_plain rfl rfl (s_lenV (r := 31) (lo := 0) (n := (r10.2.map eR).length) (pl := none) (sz := 2) rfl sl36 (by kernel_rfl) rfl (by kernel_rfl))) (t' := tI (r10.2.length : Int)) (by rw [List.length_map])) (cgt 4 [33] .nil)))) ?_
  refine r_block ?_
  refine r_weak (of_weak (l := [(0, .u (.c (zoneC r10.1))), (1, tI a1), (2, tI a2), (8, .u (.c (.pt true [.v (.int .i64 0), .v (.int .i64 (-1))]))), (9, .u (.c (.pt true [.v (.int .i64 0), .v (.int .i64 (-1))]))), (31, .u (.c (.sl true 2 (r10.2.map eR)))), (32, tI (r10.2.length : Int)), (33, tI 0)]) (by kernel_rfl)) ?_
  refine r_loopI (α := Zon × Blk × Blk × Int) (fun x => [(0, .u (.c (zoneC x.1))), (1, tI a1), (2, tI a2), (8, .u (.c (.pt true [.v (.int .i64 x.2.1.f), .v (.int .i64 x.2.1.o)]))), (9, .u (.c (.pt true [.v (.int .i64 x.2.2.1.f), .v (.int .i64 x.2.2.1.o)]))), (31, .u (.c (.sl true 2 (r10.2.map eR)))), (32, tI (r10.2.length : Int)), (33, tI x.2.2.2)]) (fun n x => ZTake.l1 k a0 a1 a2 y1v r10 n x.1 x.2.1 x.2.2.1 x.2.2.2 = some r) k (r10.1, (⟨0, (-1)⟩ : Blk), (⟨0, (-1)⟩ : Blk), 0) h (by intro x h; unfold ZTake.l1 at h; cases h) ?_
  rintro n1 ⟨v11, v12, v13, v14⟩ h
  replace h : ZTake.l1 k a0 a1 a2 y1v r10 (n1 + 1) v11 v12 v13 v14 = some r := h
  unfold ZTake.l1 at h
  show Run _ _ _ (St.of [(0, .u (.c (zoneC v11))), (1, tI a1), (2, tI a2), (8, .u (.c (.pt true [.v (.int .i64 v12.f), .v (.int .i64 v12.o)]))), (9, .u (.c (.pt true [.v (.int .i64 v13.f), .v (.int .i64 v13.o)]))), (31, .u (.c (.sl true 2 (r10.2.map eR)))), (32, tI (r10.2.length : Int)), (33, tI v14)]) _
  refine r_seq ?_
  refine rr [(0, .u (.c (zoneC v11))), (1, tI a1), (2, tI a2), (8, .u (.c (.pt true [.v (.int .i64 v12.f), .v (.int .i64 v12.o)]))), (9, .u (.c (.pt true [.v (.int .i64 v13.f), .v (.int .i64 v13.o)]))), (31, .u (.c (.sl true 2 (r10.2.map eR)))), (32, tI (r10.2.length : Int)), (33, tI v14), (34, tB (decide (v14 < (r10.2.length : Int))))] (cgt 1 [34] .nil) ?_
  refine r_seq ?_
  rcases Bool.eq_false_or_eq_true (decide (v14 < (r10.2.length : Int))) with hb | hb
  · have h := cond_t hb h
    refine r_condT hb rfl ?_
    refine r_skip ?_
    refine r_seq ?_
    refine r_block ?_
    refine r_seq ?_
    obtain ⟨hg15, h⟩ := guard_some h
    simp only [Bool.and_eq_true, decide_eq_true_eq] at hg15
    refine rr [(0, .u (.c (zoneC v11))), (1, tI a1), (2, tI a2), (8, .u (.c (.pt true [.v (.int .i64 v12.f), .v (.int .i64 v12.o)]))), (9, .u (.c (.pt true [.v (.int .i64 v13.f), .v (.int .i64 v13.o)]))), (11, .u (.c (.pt true [.v (.int .i64 ((r10.2.getD ((v14).toNat) zR).f)), .v (.int .i64 ((r10.2.getD ((v14).toNat) zR).o))]))), (31, .u (.c (.sl true 2 (r10.2.map eR)))), (32, tI (r10.2.length : Int)), (33, tI v14)] (cot 1 (os_plain rfl rfl (s_indexV (r := 31) (lo := 0) (n := (r10.2.map eR).length) (pl := none) (sz := 2) (e := v14) (ik := .i64) (k := (v14).toNat) rfl sl36 (by kernel_rfl) (.tmp (by kernel_rfl)) hg15.1 (by rw [List.length_map]; exact hg15.2) (Nat.zero_add _) rfl (by kernel_rfl) (by kernel_rfl))) (cot 2 (os_plain rfl rfl (s_loadA (n := 2) (xs := [.v (.int .i64 ((r10.2.getD ((v14).toNat) zR).f)), .v (.int .i64 ((r10.2.getD ((v14).toNat) zR).o))]) (r := 31) (off := 0) (s := .i ((v14).toNat) 2) (p := []) (c := .sl true 2 (r10.2.map eR)) (cs := eR (r10.2.getD ((v14).toNat) zR)) rfl (aggB_ok (by kernel_rfl)) (by kernel_rfl) (by kernel_rfl) (getP_map zR (by have := hg15; omega)) rfl rfl rfl rfl (by kernel_rfl))) (cot 3 (os_plain rfl rfl (s_alloc rfl zero39 rfl (by kernel_rfl))) (cot 4 (os_plain rfl rfl (s_storeS (n := 2) (r := 11) (off := 0) (s := .d) (p := []) (c := .pt true [.v (.int .i64 0), .v (.int .i64 0)]) (cs := [.v (.int .i64 0), .v (.int .i64 0)]) (u := .agg [.v (.int .i64 ((r10.2.getD ((v14).toNat) zR).f)), .v (.int .i64 ((r10.2.getD ((v14).toNat) zR).o))]) rfl (by kernel_rfl) (by kernel_rfl) (by kernel_rfl) rfl (by kernel_rfl) rfl rfl rfl rfl (Nat.le_of_ble_eq_true rfl) (by kernel_rfl) (by kernel_rfl) rfl rfl)) .nil)))) ?_
    refine r_seq ?_
    refine r_seq ?_
    refine rr [(0, .u (.c (zoneC v11))), (1, tI a1), (2, tI a2), (8, .u (.c (.pt true [.v (.int .i64 v12.f), .v (.int .i64 v12.o)]))), (9, .u (.c (.pt true [.v (.int .i64 v13.f), .v (.int .i64 v13.o)]))), (11, .u (.c (.pt true [.v (.int .i64 ((r10.2.getD ((v14).toNat) zR).f)), .v (.int .i64 ((r10.2.getD ((v14).toNat) zR).o))]))), (31, .u (.c (.sl true 2 (r10.2.map eR)))), (32, tI (r10.2.length : Int)), (33, tI v14), (40, tB (decide (((r10.2.getD ((v14).toNat) zR).o) < a2)))] (cgt 4 [37, 38, 39, 40] .nil) ?_
    rcases Bool.eq_false_or_eq_true (decide (((r10.2.getD ((v14).toNat) zR).o) < a2)) with hb | hb
    · have h := cond_t hb h
      refine r_condT hb rfl ?_
      refine r_exit ?_
      refine rr [(0, .u (.c (zoneC v11))), (1, tI a1), (2, tI a2), (8, .u (.c (.pt true [.v (.int .i64 v12.f), .v (.int .i64 v12.o)]))), (9, .u (.c (.pt true [.v (.int .i64 v13.f), .v (.int .i64 v13.o)]))), (31, .u (.c (.sl true 2 (r10.2.map eR)))), (32, tI (r10.2.length : Int)), (33, tI (i64.wrap (v14 + 1)))] (cgt 2 [71, 33] .nil) ?_
      exact ⟨(v11, v12, v13, i64.wrap (v14 + 1)), h, of_weak (by kernel_rfl)⟩
    have h := cond_f hb h
    refine r_condF hb rfl ?_
    refine r_skip ?_
    refine r_seq ?_
    obtain ⟨y16, hy16, h_y16⟩ := bind_some h
    refine r_joinC (α := Blk) (fun x => [(0, .u (.c (zoneC v11))), (1, tI a1), (2, tI a2), (8, .u (.c (.pt true [.v (.int .i64 x.f), .v (.int .i64 x.o)]))), (9, .u (.c (.pt true [.v (.int .i64 v13.f), .v (.int .i64 v13.o)]))), (11, .u (.c (.pt true [.v (.int .i64 ((r10.2.getD ((v14).toNat) zR).f)), .v (.int .i64 ((r10.2.getD ((v14).toNat) zR).o))]))), (31, .u (.c (.sl true 2 (r10.2.map eR)))), (32, tI (r10.2.length : Int)), (33, tI v14)]) (fun x => y16 = x) ?_ ?_
    · replace h := hy16
      unfold ZTake.j2 at h
      refine r_seq ?_
      obtain ⟨hg17, h⟩ := guard_some h
      simp only [Bool.and_eq_true, decide_eq_true_eq] at hg17
      rcases Bool.eq_false_or_eq_true ((v11.t.getD (((i64.wrap (((r10.2.getD ((v14).toNat) zR).f).tdiv 8))).toNat) (0 : Int)) == a1) with hb | hb
      · have h := cond_t hb h
        have hs18 := hb
        rcases Bool.eq_false_or_eq_true (decide (v12.o < 0)) with hb | hb
        · have h := cond_t hb h
          have hs19 := hb
          refine r_weak (of_weak (l := [(0, .u (.c (zoneC v11))), (1, tI a1), (2, tI a2), (8, .u (.c (.pt true [.v (.int .i64 v12.f), .v (.int .i64 v12.o)]))), (9, .u (.c (.pt true [.v (.int .i64 v13.f), .v (.int .i64 v13.o)]))), (11, .u (.c (.pt true [.v (.int .i64 ((r10.2.getD ((v14).toNat) zR).f)), .v (.int .i64 ((r10.2.getD ((v14).toNat) zR).o))]))), (31, .u (.c (.sl true 2 (r10.2.map eR)))), (32, tI (r10.2.length : Int)), (33, tI v14), (40, tB (decide (((r10.2.getD ((v14).toNat) zR).o) < a2)))]) (by kernel_rfl)) ?_
          refine r_anyW (l := [(0, .u (.c (zoneC v11))), (1, tI a1), (2, tI a2), (8, .u (.c (.pt true [.v (.int .i64 v12.f), .v (.int .i64 v12.o)]))), (9, .u (.c (.pt true [.v (.int .i64 v13.f), .v (.int .i64 v13.o)]))), (11, .u (.c (.pt true [.v (.int .i64 ((r10.2.getD ((v14).toNat) zR).f)), .v (.int .i64 ((r10.2.getD ((v14).toNat) zR).o))]))), (31, .u (.c (.sl true 2 (r10.2.map eR)))), (32, tI (r10.2.length : Int)), (33, tI v14), (63, tB true)]) (tab := [[], [0], [1], [2], [], [4], [5], [3, 6], [7], [], [8, 9], [10], [11], [12, 11], [13, 11], [14, 11, 11], [15], [16, 15], [15], [18, 15], [17, 19, 15], [15, 20, 11], [11, 21]]) [ev [] [0] 41 (.addr 0 (.d) [] 0), ev [0] [41] 42 (.addr 0 (.d) [] 0), ev [0, 1] [42] 43 (.addr 0 (.d) [] 2), ev [0, 1, 2] [0, 43] 44 (.whole 0 (some (.d, [], 2)) 1 ((v11.t.map eI).length)), ev [] [11] 45 (.addr 11 (.d) [] 0), ev [4] [11, 45] 46 (tI ((r10.2.getD ((v14).toNat) zR).f)), ev [4, 5] [46] 47 (tI (i64.wrap (((r10.2.getD ((v14).toNat) zR).f).tdiv 8))), eu 7 [0, 44, 47] 48 (.addr 0 (.d) [(2, .i (((i64.wrap (((r10.2.getD ((v14).toNat) zR).f).tdiv 8))).toNat) 1)] 0), eu 8 [0, 48] 49 (tI (v11.t.getD (((i64.wrap (((r10.2.getD ((v14).toNat) zR).f).tdiv 8))).toNat) (0 : Int))), ev [] [1] 50 (tI a1), eu 10 [49, 50] 51 (tB ((v11.t.getD (((i64.wrap (((r10.2.getD ((v14).toNat) zR).f).tdiv 8))).toNat) (0 : Int)) == a1)), eu 11 [51] 52 (tB true), eu 12 [8, 52] 53 (.addr 8 (.d) [] 1), eu 13 [8, 52, 53] 54 (tI v12.o), eu 14 [52, 54] 55 (tB (decide (v12.o < 0))), eu 15 [52, 55] 56 (tB true), eu 16 [56] 57 (.tup []), eu 17 [56] 58 (.tup []), eu 16 [56] 59 (.tup []), ev [0, 1, 2, 3, 4, 5, 6, 7, 8, 9, 10, 11, 12, 13, 14, 15, 18] [56] 60 (.tup []), eu 20 [56] 61 (.tup []), eu 21 [52, 56] 62 (tB true), eu 22 [52, 62] 63 (tB true)] hm (by kernel_rfl) (by kernel_rfl) (by kernel_rfl) (en (en (en (en (en (en (.cons (fun σ hc => e_put hc rfl rfl (os_to (os_plain rfl rfl (s_div (op := .quo) (k := .i64) (p := ((r10.2.getD ((v14).toNat) zR).f)) (q := 8) rfl (.inl rfl) (by kernel_rfl) (by kernel_rfl) (by decide) rfl (by kernel_rfl))) (t' := tI (i64.wrap (((r10.2.getD ((v14).toNat) zR).f).tdiv 8))) (by kernel_rfl))) (.cons (fun σ hc => e_put hc rfl rfl (os_plain rfl rfl (s_indexV (r := 0) (lo := 0) (n := (v11.t.map eI).length) (pl := (some (.d, [], 2))) (sz := 1) (e := (i64.wrap (((r10.2.getD ((v14).toNat) zR).f).tdiv 8))) (ik := .i64) (k := ((i64.wrap (((r10.2.getD ((v14).toNat) zR).f).tdiv 8))).toNat) rfl sl48 (by kernel_rfl) (.tmp (by kernel_rfl)) hg17.1 (by rw [List.length_map]; exact hg17.2) (Nat.zero_add _) rfl (by kernel_rfl) (by kernel_rfl)))) (.cons (fun σ hc => e_put hc rfl rfl (os_plain rfl rfl (s_load1 (x := .v (.int .i64 (v11.t.getD (((i64.wrap (((r10.2.getD ((v14).toNat) zR).f).tdiv 8))).toNat) (0 : Int)))) (r := 0) (off := 0) (s := .d) (p := [(2, .i (((i64.wrap (((r10.2.getD ((v14).toNat) zR).f).tdiv 8))).toNat) 1)]) (c := zoneC v11) (cs := (eI (v11.t.getD (((i64.wrap (((r10.2.getD ((v14).toNat) zR).f).tdiv 8))).toNat) (0 : Int)))) rfl (oneB_ok (by kernel_rfl)) (by kernel_rfl) (by kernel_rfl) (getP_in (c' := .sl true 1 (v11.t.map eI)) rfl (getP_map (f := eI) (own := true) (xs := v11.t) (k := ((i64.wrap (((r10.2.getD ((v14).toNat) zR).f).tdiv 8))).toNat) (0 : Int) (by have := hg17; omega))) rfl rfl rfl (by kernel_rfl)))) (en (en (.cons (fun σ hc => e_put hc rfl rfl (os_ge (d := 52) (t := tB ((v11.t.getD (((i64.wrap (((r10.2.getD ((v14).toNat) zR).f).tdiv 8))).toNat) (0 : Int)) == a1)) (t' := tB true) (by kernel_rfl) (by rw [hs18]))) (en (en (en (.cons (fun σ hc => e_put hc rfl rfl (os_ge (d := 56) (t := tB (decide (v12.o < 0))) (t' := tB true) (by kernel_rfl) (by rw [hs19]))) (en (en (en (en (en (en (en .nil))))))))))))))))))))))) (by kernel_rfl) ?_
          refine r_condT rfl rfl ?_
          refine rr [(0, .u (.c (zoneC v11))), (1, tI a1), (2, tI a2), (8, .u (.c (.pt true [.v (.int .i64 ((r10.2.getD ((v14).toNat) zR).f)), .v (.int .i64 ((r10.2.getD ((v14).toNat) zR).o))]))), (9, .u (.c (.pt true [.v (.int .i64 v13.f), .v (.int .i64 v13.o)]))), (11, .u (.c (.pt true [.v (.int .i64 ((r10.2.getD ((v14).toNat) zR).f)), .v (.int .i64 ((r10.2.getD ((v14).toNat) zR).o))]))), (31, .u (.c (.sl true 2 (r10.2.map eR)))), (32, tI (r10.2.length : Int)), (33, tI v14)] (cgt 1 [64] (cot 2 (os_plain rfl rfl (s_storeS (n := 2) (r := 8) (off := 0) (s := .d) (p := []) (c := .pt true [.v (.int .i64 v12.f), .v (.int .i64 v12.o)]) (cs := [.v (.int .i64 v12.f), .v (.int .i64 v12.o)]) (u := .agg [.v (.int .i64 ((r10.2.getD ((v14).toNat) zR).f)), .v (.int .i64 ((r10.2.getD ((v14).toNat) zR).o))]) rfl (by kernel_rfl) (by kernel_rfl) (by kernel_rfl) rfl (by kernel_rfl) rfl rfl rfl rfl (Nat.le_of_ble_eq_true rfl) (by kernel_rfl) (by kernel_rfl) rfl rfl)) .nil)) ?_
          exact ⟨(r10.2.getD ((v14).toNat) zR), (Option.some.inj h).symm, of_weak (by kernel_rfl)⟩
        have h := cond_f hb h
        have hs20 := hb
        refine r_weak (of_weak (l := [(0, .u (.c (zoneC v11))), (1, tI a1), (2, tI a2), (8, .u (.c (.pt true [.v (.int .i64 v12.f), .v (.int .i64 v12.o)]))), (9, .u (.c (.pt true [.v (.int .i64 v13.f), .v (.int .i64 v13.o)]))), (11, .u (.c (.pt true [.v (.int .i64 ((r10.2.getD ((v14).toNat) zR).f)), .v (.int .i64 ((r10.2.getD ((v14).toNat) zR).o))]))), (31, .u (.c (.sl true 2 (r10.2.map eR)))), (32, tI (r10.2.length : Int)), (33, tI v14), (40, tB (decide (((r10.2.getD ((v14).toNat) zR).o) < a2)))]) (by kernel_rfl)) ?_
        refine r_anyW (l := [(0, .u (.c (zoneC v11))), (1, tI a1), (2, tI a2), (8, .u (.c (.pt true [.v (.int .i64 v12.f), .v (.int .i64 v12.o)]))), (9, .u (.c (.pt true [.v (.int .i64 v13.f), .v (.int .i64 v13.o)]))), (11, .u (.c (.pt true [.v (.int .i64 ((r10.2.getD ((v14).toNat) zR).f)), .v (.int .i64 ((r10.2.getD ((v14).toNat) zR).o))]))), (31, .u (.c (.sl true 2 (r10.2.map eR)))), (32, tI (r10.2.length : Int)), (33, tI v14), (63, tB (decide (((r10.2.getD ((v14).toNat) zR).o) < v12.o)))]) (tab := [[], [0], [1], [2], [], [4], [5], [3, 6], [7], [], [8, 9], [10], [11], [12, 11], [13, 11], [14, 11, 11], [15], [16, 15], [15], [18, 15], [17, 19, 15], [15, 20, 11], [11, 21]]) [ev [] [0] 41 (.addr 0 (.d) [] 0), ev [0] [41] 42 (.addr 0 (.d) [] 0), ev [0, 1] [42] 43 (.addr 0 (.d) [] 2), ev [0, 1, 2] [0, 43] 44 (.whole 0 (some (.d, [], 2)) 1 ((v11.t.map eI).length)), ev [] [11] 45 (.addr 11 (.d) [] 0), ev [4] [11, 45] 46 (tI ((r10.2.getD ((v14).toNat) zR).f)), ev [4, 5] [46] 47 (tI (i64.wrap (((r10.2.getD ((v14).toNat) zR).f).tdiv 8))), eu 7 [0, 44, 47] 48 (.addr 0 (.d) [(2, .i (((i64.wrap (((r10.2.getD ((v14).toNat) zR).f).tdiv 8))).toNat) 1)] 0), eu 8 [0, 48] 49 (tI (v11.t.getD (((i64.wrap (((r10.2.getD ((v14).toNat) zR).f).tdiv 8))).toNat) (0 : Int))), ev [] [1] 50 (tI a1), eu 10 [49, 50] 51 (tB ((v11.t.getD (((i64.wrap (((r10.2.getD ((v14).toNat) zR).f).tdiv 8))).toNat) (0 : Int)) == a1)), eu 11 [51] 52 (tB true), eu 12 [8, 52] 53 (.addr 8 (.d) [] 1), eu 13 [8, 52, 53] 54 (tI v12.o), eu 14 [52, 54] 55 (tB (decide (v12.o < 0))), eu 15 [52, 55] 56 (tB false), eu 16 [11, 56] 57 (.addr 11 (.d) [] 1), eu 17 [11, 56, 57] 58 (tI ((r10.2.getD ((v14).toNat) zR).o)), eu 16 [8, 56] 59 (.addr 8 (.d) [] 1), ev [0, 1, 2, 3, 4, 5, 6, 7, 8, 9, 10, 11, 12, 13, 14, 15, 18] [8, 56, 59] 60 (tI v12.o), eu 20 [56, 58, 60] 61 (tB (decide (((r10.2.getD ((v14).toNat) zR).o) < v12.o))), eu 21 [52, 56, 61] 62 (tB (decide (((r10.2.getD ((v14).toNat) zR).o) < v12.o))), eu 22 [52, 62] 63 (tB (decide (((r10.2.getD ((v14).toNat) zR).o) < v12.o)))] hm (by kernel_rfl) (by kernel_rfl) (by kernel_rfl) (en (en (en (en (en (en (.cons (fun σ hc => e_put hc rfl rfl (os_to (os_plain rfl rfl (s_div (op := .quo) (k := .i64) (p := ((r10.2.getD ((v14).toNat) zR).f)) (q := 8) rfl (.inl rfl) (by kernel_rfl) (by kernel_rfl) (by decide) rfl (by kernel_rfl))) (t' := tI (i64.wrap (((r10.2.getD ((v14).toNat) zR).f).tdiv 8))) (by kernel_rfl))) (.cons (fun σ hc => e_put hc rfl rfl (os_plain rfl rfl (s_indexV (r := 0) (lo := 0) (n := (v11.t.map eI).length) (pl := (some (.d, [], 2))) (sz := 1) (e := (i64.wrap (((r10.2.getD ((v14).toNat) zR).f).tdiv 8))) (ik := .i64) (k := ((i64.wrap (((r10.2.getD ((v14).toNat) zR).f).tdiv 8))).toNat) rfl sl48 (by kernel_rfl) (.tmp (by kernel_rfl)) hg17.1 (by rw [List.length_map]; exact hg17.2) (Nat.zero_add _) rfl (by kernel_rfl) (by kernel_rfl)))) (.cons (fun σ hc => e_put hc rfl rfl (os_plain rfl rfl (s_load1 (x := .v (.int .i64 (v11.t.getD (((i64.wrap (((r10.2.getD ((v14).toNat) zR).f).tdiv 8))).toNat) (0 : Int)))) (r := 0) (off := 0) (s := .d) (p := [(2, .i (((i64.wrap (((r10.2.getD ((v14).toNat) zR).f).tdiv 8))).toNat) 1)]) (c := zoneC v11) (cs := (eI (v11.t.getD (((i64.wrap (((r10.2.getD ((v14).toNat) zR).f).tdiv 8))).toNat) (0 : Int)))) rfl (oneB_ok (by kernel_rfl)) (by kernel_rfl) (by kernel_rfl) (getP_in (c' := .sl true 1 (v11.t.map eI)) rfl (getP_map (f := eI) (own := true) (xs := v11.t) (k := ((i64.wrap (((r10.2.getD ((v14).toNat) zR).f).tdiv 8))).toNat) (0 : Int) (by have := hg17; omega))) rfl rfl rfl (by kernel_rfl)))) (en (en (.cons (fun σ hc => e_put hc rfl rfl (os_ge (d := 52) (t := tB ((v11.t.getD (((i64.wrap (((r10.2.getD ((v14).toNat) zR).f).tdiv 8))).toNat) (0 : Int)) == a1)) (t' := tB true) (by kernel_rfl) (by rw [hs18]))) (en (en (en (.cons (fun σ hc => e_put hc rfl rfl (os_ge (d := 56) (t := tB (decide (v12.o < 0))) (t' := tB false) (by kernel_rfl) (by rw [hs20]))) (en (en (en (en (en (en (en .nil))))))))))))))))))))))) (by kernel_rfl) ?_
        rcases Bool.eq_false_or_eq_true (decide (((r10.2.getD ((v14).toNat) zR).o) < v12.o)) with hb | hb
        · have h := cond_t hb h
          refine r_condT hb rfl ?_
          refine rr [(0, .u (.c (zoneC v11))), (1, tI a1), (2, tI a2), (8, .u (.c (.pt true [.v (.int .i64 ((r10.2.getD ((v14).toNat) zR).f)), .v (.int .i64 ((r10.2.getD ((v14).toNat) zR).o))]))), (9, .u (.c (.pt true [.v (.int .i64 v13.f), .v (.int .i64 v13.o)]))), (11, .u (.c (.pt true [.v (.int .i64 ((r10.2.getD ((v14).toNat) zR).f)), .v (.int .i64 ((r10.2.getD ((v14).toNat) zR).o))]))), (31, .u (.c (.sl true 2 (r10.2.map eR)))), (32, tI (r10.2.length : Int)), (33, tI v14)] (cgt 1 [64] (cot 2 (os_plain rfl rfl (s_storeS (n := 2) (r := 8) (off := 0) (s := .d) (p := []) (c := .pt true [.v (.int .i64 v12.f), .v (.int .i64 v12.o)]) (cs := [.v (.int .i64 v12.f), .v (.int .i64 v12.o)]) (u := .agg [.v (.int .i64 ((r10.2.getD ((v14).toNat) zR).f)), .v (.int .i64 ((r10.2.getD ((v14).toNat) zR).o))]) rfl (by kernel_rfl) (by kernel_rfl) (by kernel_rfl) rfl (by kernel_rfl) rfl rfl rfl rfl (Nat.le_of_ble_eq_true rfl) (by kernel_rfl) (by kernel_rfl) rfl rfl)) .nil)) ?_
          exact ⟨(r10.2.getD ((v14).toNat) zR), (Option.some.inj h).symm, of_weak (by kernel_rfl)⟩
        have h := cond_f hb h
        refine r_condF hb rfl ?_
        refine r_skip ?_
        exact ⟨v12, (Option.some.inj h).symm, of_weak (by kernel_rfl)⟩
      have h := cond_f hb h
      have hs21 := hb
      refine r_weak (of_weak (l := [(0, .u (.c (zoneC v11))), (1, tI a1), (2, tI a2), (8, .u (.c (.pt true [.v (.int .i64 v12.f), .v (.int .i64 v12.o)]))), (9, .u (.c (.pt true [.v (.int .i64 v13.f), .v (.int .i64 v13.o)]))), (11, .u (.c (.pt true [.v (.int .i64 ((r10.2.getD ((v14).toNat) zR).f)), .v (.int .i64 ((r10.2.getD ((v14).toNat) zR).o))]))), (31, .u (.c (.sl true 2 (r10.2.map eR)))), (32, tI (r10.2.length : Int)), (33, tI v14), (40, tB (decide (((r10.2.getD ((v14).toNat) zR).o) < a2)))]) (by kernel_rfl)) ?_
      refine r_anyW (l := [(0, .u (.c (zoneC v11))), (1, tI a1), (2, tI a2), (8, .u (.c (.pt true [.v (.int .i64 v12.f), .v (.int .i64 v12.o)]))), (9, .u (.c (.pt true [.v (.int .i64 v13.f), .v (.int .i64 v13.o)]))), (11, .u (.c (.pt true [.v (.int .i64 ((r10.2.getD ((v14).toNat) zR).f)), .v (.int .i64 ((r10.2.getD ((v14).toNat) zR).o))]))), (31, .u (.c (.sl true 2 (r10.2.map eR)))), (32, tI (r10.2.length : Int)), (33, tI v14), (63, tB false)]) (tab := [[], [0], [1], [2], [], [4], [5], [3, 6], [7], [], [8, 9], [10], [11], [12, 11], [13, 11], [14, 11, 11], [15], [16, 15], [15], [18, 15], [17, 19, 15], [15, 20, 11], [11, 21]]) [ev [] [0] 41 (.addr 0 (.d) [] 0), ev [0] [41] 42 (.addr 0 (.d) [] 0), ev [0, 1] [42] 43 (.addr 0 (.d) [] 2), ev [0, 1, 2] [0, 43] 44 (.whole 0 (some (.d, [], 2)) 1 ((v11.t.map eI).length)), ev [] [11] 45 (.addr 11 (.d) [] 0), ev [4] [11, 45] 46 (tI ((r10.2.getD ((v14).toNat) zR).f)), ev [4, 5] [46] 47 (tI (i64.wrap (((r10.2.getD ((v14).toNat) zR).f).tdiv 8))), eu 7 [0, 44, 47] 48 (.addr 0 (.d) [(2, .i (((i64.wrap (((r10.2.getD ((v14).toNat) zR).f).tdiv 8))).toNat) 1)] 0), eu 8 [0, 48] 49 (tI (v11.t.getD (((i64.wrap (((r10.2.getD ((v14).toNat) zR).f).tdiv 8))).toNat) (0 : Int))), ev [] [1] 50 (tI a1), eu 10 [49, 50] 51 (tB ((v11.t.getD (((i64.wrap (((r10.2.getD ((v14).toNat) zR).f).tdiv 8))).toNat) (0 : Int)) == a1)), eu 11 [51] 52 (tB false), eu 12 [52] 53 (.tup []), eu 13 [52] 54 (.tup []), eu 14 [52] 55 (.tup []), eu 15 [52] 56 (.tup []), eu 16 [56] 57 (.tup []), eu 17 [56] 58 (.tup []), eu 16 [56] 59 (.tup []), ev [0, 1, 2, 3, 4, 5, 6, 7, 8, 9, 10, 11, 12, 13, 14, 15, 18] [56] 60 (.tup []), eu 20 [56] 61 (.tup []), eu 21 [52] 62 (.tup []), eu 22 [52] 63 (tB false)] hm (by kernel_rfl) (by kernel_rfl) (by kernel_rfl) (en (en (en (en (en (en (.cons (fun σ hc => e_put hc rfl rfl (os_to (os_plain rfl rfl (s_div (op := .quo) (k := .i64) (p := ((r10.2.getD ((v14).toNat) zR).f)) (q := 8) rfl (.inl rfl) (by kernel_rfl) (by kernel_rfl) (by decide) rfl (by kernel_rfl))) (t' := tI (i64.wrap (((r10.2.getD ((v14).toNat) zR).f).tdiv 8))) (by kernel_rfl))) (.cons (fun σ hc => e_put hc rfl rfl (os_plain rfl rfl (s_indexV (r := 0) (lo := 0) (n := (v11.t.map eI).length) (pl := (some (.d, [], 2))) (sz := 1) (e := (i64.wrap (((r10.2.getD ((v14).toNat) zR).f).tdiv 8))) (ik := .i64) (k := ((i64.wrap (((r10.2.getD ((v14).toNat) zR).f).tdiv 8))).toNat) rfl sl48 (by kernel_rfl) (.tmp (by kernel_rfl)) hg17.1 (by rw [List.length_map]; exact hg17.2) (Nat.zero_add _) rfl (by kernel_rfl) (by kernel_rfl)))) (.cons (fun σ hc => e_put hc rfl rfl (os_plain rfl rfl (s_load1 (x := .v (.int .i64 (v11.t.getD (((i64.wrap (((r10.2.getD ((v14).toNat) zR).f).tdiv 8))).toNat) (0 : Int)))) (r := 0) (off := 0) (s := .d) (p := [(2, .i (((i64.wrap (((r10.2.getD ((v14).toNat) zR).f).tdiv 8))).toNat) 1)]) (c := zoneC v11) (cs := (eI (v11.t.getD (((i64.wrap (((r10.2.getD ((v14).toNat) zR).f).tdiv 8))).toNat) (0 : Int)))) rfl (oneB_ok (by kernel_rfl)) (by kernel_rfl) (by kernel_rfl) (getP_in (c' := .sl true 1 (v11.t.map eI)) rfl (getP_map (f := eI) (own := true) (xs := v11.t) (k := ((i64.wrap (((r10.2.getD ((v14).toNat) zR).f).tdiv 8))).toNat) (0 : Int) (by have := hg17; omega))) rfl rfl rfl (by kernel_rfl)))) (en (en (.cons (fun σ hc => e_put hc rfl rfl (os_ge (d := 52) (t := tB ((v11.t.getD (((i64.wrap (((r10.2.getD ((v14).toNat) zR).f).tdiv 8))).toNat) (0 : Int)) == a1)) (t' := tB false) (by kernel_rfl) (by rw [hs21]))) (en (en (en (en (en (en (en (en (en (en (en .nil))))))))))))))))))))))) (by kernel_rfl) ?_
      refine r_condF rfl rfl ?_
      refine r_skip ?_
      exact ⟨v12, (Option.some.inj h).symm, of_weak (by kernel_rfl)⟩
    rintro y16 rfl
    replace h := h_y16
    try dsimp only at h
    refine r_seq ?_
    refine rr [(0, .u (.c (zoneC v11))), (1, tI a1), (2, tI a2), (8, .u (.c (.pt true [.v (.int .i64 y16.f), .v (.int .i64 y16.o)]))), (9, .u (.c (.pt true [.v (.int .i64 v13.f), .v (.int .i64 v13.o)]))), (11, .u (.c (.pt true [.v (.int .i64 ((r10.2.getD ((v14).toNat) zR).f)), .v (.int .i64 ((r10.2.getD ((v14).toNat) zR).o))]))), (31, .u (.c (.sl true 2 (r10.2.map eR)))), (32, tI (r10.2.length : Int)), (33, tI v14), (69, tB (decide (((r10.2.getD ((v14).toNat) zR).o) > v13.o)))] (cgt 5 [65, 66, 67, 68, 69] .nil) ?_
    rcases Bool.eq_false_or_eq_true (decide (((r10.2.getD ((v14).toNat) zR).o) > v13.o)) with hb | hb
    · have h := cond_t hb h
      refine r_condT hb rfl ?_
      refine rr [(0, .u (.c (zoneC v11))), (1, tI a1), (2, tI a2), (8, .u (.c (.pt true [.v (.int .i64 y16.f), .v (.int .i64 y16.o)]))), (9, .u (.c (.pt true [.v (.int .i64 ((r10.2.getD ((v14).toNat) zR).f)), .v (.int .i64 ((r10.2.getD ((v14).toNat) zR).o))]))), (31, .u (.c (.sl true 2 (r10.2.map eR)))), (32, tI (r10.2.length : Int)), (33, tI v14)] (cgt 1 [70] (cot 2 (os_plain rfl rfl (s_storeS (n := 2) (r := 9) (off := 0) (s := .d) (p := []) (c := .pt true [.v (.int .i64 v13.f), .v (.int .i64 v13.o)]) (cs := [.v (.int .i64 v13.f), .v (.int .i64 v13.o)]) (u := .agg [.v (.int .i64 ((r10.2.getD ((v14).toNat) zR).f)), .v (.int .i64 ((r10.2.getD ((v14).toNat) zR).o))]) rfl (by kernel_rfl) (by kernel_rfl) (by kernel_rfl) rfl (by kernel_rfl) rfl rfl rfl rfl (Nat.le_of_ble_eq_true rfl) (by kernel_rfl) (by kernel_rfl) rfl rfl)) .nil)) ?_
      refine rr [(0, .u (.c (zoneC v11))), (1, tI a1), (2, tI a2), (8, .u (.c (.pt true [.v (.int .i64 y16.f), .v (.int .i64 y16.o)]))), (9, .u (.c (.pt true [.v (.int .i64 ((r10.2.getD ((v14).toNat) zR).f)), .v (.int .i64 ((r10.2.getD ((v14).toNat) zR).o))]))), (31, .u (.c (.sl true 2 (r10.2.map eR)))), (32, tI (r10.2.length : Int)), (33, tI (i64.wrap (v14 + 1)))] (cgt 2 [71, 33] .nil) ?_
      exact ⟨(v11, y16, (r10.2.getD ((v14).toNat) zR), i64.wrap (v14 + 1)), h, of_weak (by kernel_rfl)⟩
    have h := cond_f hb h
    refine r_condF hb rfl ?_
    refine r_skip ?_
    refine rr [(0, .u (.c (zoneC v11))), (1, tI a1), (2, tI a2), (8, .u (.c (.pt true [.v (.int .i64 y16.f), .v (.int .i64 y16.o)]))), (9, .u (.c (.pt true [.v (.int .i64 v13.f), .v (.int .i64 v13.o)]))), (31, .u (.c (.sl true 2 (r10.2.map eR)))), (32, tI (r10.2.length : Int)), (33, tI (i64.wrap (v14 + 1)))] (cgt 2 [71, 33] .nil) ?_
    exact ⟨(v11, y16, v13, i64.wrap (v14 + 1)), h, of_weak (by kernel_rfl)⟩
  have h := cond_f hb h
  refine r_condF hb rfl ?_
  refine r_exit ?_
  refine r_seq ?_
  obtain ⟨y22, hy22, h_y22⟩ := bind_some h
  refine r_joinC (α := Blk) (fun x => [(0, .u (.c (zoneC v11))), (1, tI a1), (2, tI a2), (8, .u (.c (.pt true [.v (.int .i64 x.f), .v (.int .i64 x.o)])))]) (fun x => y22 = x) ?_ ?_
  · replace h := hy22
    unfold ZTake.j3 at h
    refine r_seq ?_
    refine rr [(0, .u (.c (zoneC v11))), (1, tI a1), (2, tI a2), (8, .u (.c (.pt true [.v (.int .i64 v12.f), .v (.int .i64 v12.o)]))), (9, .u (.c (.pt true [.v (.int .i64 v13.f), .v (.int .i64 v13.o)]))), (74, tB (decide (v12.o < 0)))] (cgt 3 [72, 73, 74] .nil) ?_
    rcases Bool.eq_false_or_eq_true (decide (v12.o < 0)) with hb | hb
    · have h := cond_t hb h
      refine r_condT hb rfl ?_
      refine rr [(0, .u (.c (zoneC v11))), (1, tI a1), (2, tI a2), (8, .u (.c (.pt true [.v (.int .i64 v13.f), .v (.int .i64 v13.o)])))] (cgt 1 [75] (cot 2 (os_plain rfl rfl (s_storeS (n := 2) (r := 8) (off := 0) (s := .d) (p := []) (c := .pt true [.v (.int .i64 v12.f), .v (.int .i64 v12.o)]) (cs := [.v (.int .i64 v12.f), .v (.int .i64 v12.o)]) (u := .agg [.v (.int .i64 v13.f), .v (.int .i64 v13.o)]) rfl (by kernel_rfl) (by kernel_rfl) (by kernel_rfl) rfl (by kernel_rfl) rfl rfl rfl rfl (Nat.le_of_ble_eq_true rfl) (by kernel_rfl) (by kernel_rfl) rfl rfl)) .nil)) ?_
      exact ⟨v13, (Option.some.inj h).symm, of_weak (by kernel_rfl)⟩
    have h := cond_f hb h
    refine r_condF hb rfl ?_
    refine r_skip ?_
    exact ⟨v12, (Option.some.inj h).symm, of_weak (by kernel_rfl)⟩
  rintro y22 rfl
  replace h := h_y22
  try dsimp only at h
  refine r_seq ?_
  refine r_seq ?_
  refine rr [(0, .u (.c (zoneC v11))), (1, tI a1), (2, tI a2), (8, .u (.c (.pt true [.v (.int .i64 y22.f), .v (.int .i64 y22.o)]))), (78, tB (decide (y22.o < 0)))] (cgt 3 [76, 77, 78] .nil) ?_
  rcases Bool.eq_false_or_eq_true (decide (y22.o < 0)) with hb | hb
  · have h := cond_t hb h
    refine r_condT hb rfl ?_
    refine r_seq ?_
    refine rr [(0, .u (.c (zoneC v11))), (6, tI 0), (7, .u (.c (.err (some 5))))] (cot 1 (os_plain rfl rfl (s_iface (n := 5) rfl (errB_ok (by kernel_rfl)) rfl (by kernel_rfl) rfl (by kernel_rfl))) (cgt 3 [6, 7] .nil)) ?_
    refine r_ret ?_
    obtain rfl := Option.some.inj h
    exact ⟨.inr rfl, _, _, .cons (.copy rfl rfl rfl) (.cons (.copy rfl rfl rfl) .nil), rfl, outs_of ⟨⟨rfl, rfl⟩, trivial⟩⟩
  have h := cond_f hb h
  refine r_condF hb rfl ?_
  refine r_skip ?_
  refine r_seq ?_
  refine r_seq ?_
  obtain ⟨r23, hr23, h⟩ := bind_some h
  refine r_weak (of_weak (l := [(0, .u (.c (zoneC v11))), (1, tI a1), (2, tI a2), (8, .u (.c (.pt true [.v (.int .i64 y22.f), .v (.int .i64 y22.o)]))), (78, tB (decide (y22.o < 0)))]) (by kernel_rfl)) ?_
  refine r_anyW (l := [(0, .u (.c (.pt true [storeC r23.1, .v (.int .i64 v11.n), .sl true 1 (v11.t.map eI), .sl true 1 (v11.c.map eB)]))), (1, tI a1), (8, .u (.c (.pt true [.v (.int .i64 y22.f), .v (.int .i64 y22.o)]))), (12, .u (.c (.err r23.2)))]) (tab := [[], [0], [1], [2], [], [4], [], [3, 5, 6], [7, 7, 0, 1, 2, 3, 4, 5, 6, 7]]) [ev [] [0] 80 (.addr 0 (.d) [] 0), ev [0] [80] 81 (.addr 0 (.d) [] 0), ev [0, 1] [81] 82 (.addr 0 (.d) [] 0), ev [0, 1, 2] [0, 82] 83 (.addr 0 (.d) [(0, .d)] 0), ev [] [8] 84 (.addr 8 (.d) [] 0), ev [4] [8, 84] 85 (tI y22.f), ev [] [2] 86 (tI a2), ⟨List.range 7, [0, 83, 85, 86], [(87, .u (.c (.err r23.2))), (0, .u (.c (.pt true [storeC r23.1, .v (.int .i64 v11.n), .sl true 1 (v11.t.map eI), .sl true 1 (v11.c.map eB)]))), (83, .junk)], some 87, true⟩, eu 8 [87] 12 (.u (.c (.err r23.2)))] hm (by kernel_rfl) (by kernel_rfl) (by kernel_rfl) (en (en (en (en (en (en (en (.cons (fun σ hc => e_eq (os_plain rfl rfl (c_call (outs := [some (.c (storeC r23.1)), none, none]) (res := [.c (.err r23.2)]) (ACT.k hT (TakeAt.ac (h := hr23))) ⟨_, Tryd.func33, rfl, by kernel_rfl⟩ rfl (hand_ptrC (r := 0) (off := 0) (own := true) (c := zoneC v11) (cs := [storeC v11.s, .v (.int .i64 v11.n), .sl true 1 (v11.t.map eI), .sl true 1 (v11.c.map eB)]) (ds := [.v (.int .i64 v11.s.n), .sl true 2 (v11.s.l.map eR)]) (by kernel_rfl) (by kernel_rfl) (by kernel_rfl) (by kernel_rfl) (by kernel_rfl) (.rd (.copy (by kernel_rfl) rfl) (.rd (.copy (by kernel_rfl) rfl) .nil))) rfl (by kernel_rfl))) (hand_put_overD (D := [83]) hc rfl rfl rfl (by kernel_rfl) rfl)) (en .nil))))))))) (by kernel_rfl) ?_
  refine r_seq ?_
  refine rr [(0, .u (.c (.pt true [storeC r23.1, .v (.int .i64 v11.n), .sl true 1 (v11.t.map eI), .sl true 1 (v11.c.map eB)]))), (1, tI a1), (8, .u (.c (.pt true [.v (.int .i64 y22.f), .v (.int .i64 y22.o)]))), (12, .u (.c (.err r23.2))), (89, tB (!(r23.2 == none)))] (cgt 2 [88, 89] .nil) ?_
  rcases Bool.eq_false_or_eq_true (!(r23.2 == none)) with hb | hb
  · have h := cond_t hb h
    refine r_condT hb rfl ?_
    refine r_seq ?_
    refine rr [(0, .u (.c (.pt true [storeC r23.1, .v (.int .i64 v11.n), .sl true 1 (v11.t.map eI), .sl true 1 (v11.c.map eB)]))), (6, tI 0), (7, .u (.c (.err r23.2)))] (cgt 3 [90, 6, 7] .nil) ?_
    refine r_ret ?_
    obtain rfl := Option.some.inj h
    exact ⟨.inr rfl, _, _, .cons (.copy rfl rfl rfl) (.cons (.copy rfl rfl rfl) .nil), rfl, outs_of ⟨⟨rfl, rfl⟩, trivial⟩⟩
  have h := cond_f hb h
  refine r_condF hb rfl ?_
  refine r_skip ?_
  refine r_seq ?_
  obtain ⟨hg24, h⟩ := guard_some h
  simp only [Bool.and_eq_true, decide_eq_true_eq] at hg24
  refine r_weak (of_weak (l := [(0, .u (.c (.pt true [storeC r23.1, .v (.int .i64 v11.n), .sl true 1 (v11.t.map eI), .sl true 1 (v11.c.map eB)]))), (1, tI a1), (8, .u (.c (.pt true [.v (.int .i64 y22.f), .v (.int .i64 y22.o)]))), (12, .u (.c (.err r23.2))), (89, tB (!(r23.2 == none)))]) (by kernel_rfl)) ?_
  refine r_anyW (l := [(0, .u (.c (.pt true [storeC r23.1, .v (.int .i64 v11.n), .sl true 1 ((v11.t.set (((i64.wrap (y22.f.tdiv 8))).toNat) a1).map eI), .sl true 1 (v11.c.map eB)]))), (8, .u (.c (.pt true [.v (.int .i64 y22.f), .v (.int .i64 y22.o)])))]) (tab := [[], [0], [1], [2], [], [4], [5], [], [3, 6, 0, 1, 2, 3, 4, 5, 6, 7], [8, 7, 0, 1, 2, 3, 4, 5, 6, 7]]) [ev [] [0] 91 (.addr 0 (.d) [] 0), ev [0] [91] 92 (.addr 0 (.d) [] 0), ev [0, 1] [92] 93 (.addr 0 (.d) [] 2), ev [0, 1, 2] [0, 93] 94 (.whole 0 (some (.d, [], 2)) 1 ((v11.t.map eI).length)), ev [] [8] 95 (.addr 8 (.d) [] 0), ev [4] [8, 95] 96 (tI y22.f), ev [4, 5] [96] 97 (tI (i64.wrap (y22.f.tdiv 8))), ev [] [1] 98 (tI a1), eu 8 [0, 94, 97] 99 (.addr 0 (.d) [(2, .i (((i64.wrap (y22.f.tdiv 8))).toNat) 1)] 0), ⟨List.range 9, [0, 98, 99], [(0, .u (.c (.pt true [storeC r23.1, .v (.int .i64 v11.n), .sl true 1 ((v11.t.set (((i64.wrap (y22.f.tdiv 8))).toNat) a1).map eI), .sl true 1 (v11.c.map eB)])))], none, false⟩] hm (by kernel_rfl) (by kernel_rfl) (by kernel_rfl) (en (en (en (en (en (en (.cons (fun σ hc => e_put hc rfl rfl (os_to (os_plain rfl rfl (s_div (op := .quo) (k := .i64) (p := y22.f) (q := 8) rfl (.inl rfl) (by kernel_rfl) (by kernel_rfl) (by decide) rfl (by kernel_rfl))) (t' := tI (i64.wrap (y22.f.tdiv 8))) (by kernel_rfl))) (en (.cons (fun σ hc => e_put hc rfl rfl (os_plain rfl rfl (s_indexV (r := 0) (lo := 0) (n := (v11.t.map eI).length) (pl := (some (.d, [], 2))) (sz := 1) (e := (i64.wrap (y22.f.tdiv 8))) (ik := .i64) (k := ((i64.wrap (y22.f.tdiv 8))).toNat) rfl sl48 (by kernel_rfl) (.tmp (by kernel_rfl)) hg24.1 (by rw [List.length_map]; exact hg24.2) (Nat.zero_add _) rfl (by kernel_rfl) (by kernel_rfl)))) (.cons (fun σ hc => e_eq (os_plain rfl rfl (s_storeR (f := eI) (k := 0) (sz := 0) (n := 1) (r := 0) (off := 0) (s := .d) (p := [(2, .i (((i64.wrap (y22.f.tdiv 8))).toNat) 1)]) (c := .pt true [storeC r23.1, .v (.int .i64 v11.n), .sl true 1 (v11.t.map eI), .sl true 1 (v11.c.map eB)]) (cs := (eI (v11.t.getD (((i64.wrap (y22.f.tdiv 8))).toNat) (0 : Int)))) (u := .c (.v (.int .i64 a1))) (us := [.v (.int .i64 a1)]) (c' := .pt true [storeC r23.1, .v (.int .i64 v11.n), .sl true 1 ((v11.t.set (((i64.wrap (y22.f.tdiv 8))).toNat) a1).map eI), .sl true 1 (v11.c.map eB)]) rfl (by kernel_rfl) (by kernel_rfl) (by kernel_rfl) rfl (by kernel_rfl) (getP_in (c' := .sl true 1 (v11.t.map eI)) rfl (getP_map (f := eI) (own := true) (xs := v11.t) (k := ((i64.wrap (y22.f.tdiv 8))).toNat) (0 : Int) (by have := hg24; omega))) rfl rfl rfl (Nat.le_of_ble_eq_true rfl) (by kernel_rfl) rfl rfl rfl (congrArg (fun x => C.pt true [storeC r23.1, .v (.int .i64 v11.n), .sl true 1 x, .sl true 1 (v11.c.map eB)]) (map_setC (f := eI) (y := a1) rfl)))) (upd_junks_over (l := []))) .nil)))))))))) (by kernel_rfl) ?_
  refine r_seq ?_
  refine rr [(0, .u (.c (.pt true [storeC r23.1, .v (.int .i64 v11.n), .sl true 1 ((v11.t.set (((i64.wrap (y22.f.tdiv 8))).toNat) a1).map eI), .sl true 1 (v11.c.map eB)]))), (6, tI y22.f), (7, .u (.c (.err none)))] (cgt 4 [100, 101, 6, 7] .nil) ?_
  refine r_ret ?_
  obtain rfl := Option.some.inj h
  exact ⟨.inr rfl, _, _, .cons (.copy rfl rfl rfl) (.cons (.copy rfl rfl rfl) .nil), rfl, outs_of ⟨⟨rfl, rfl⟩, trivial⟩⟩
set_option maxHeartbeats 4000000 in
def ZSort.f (k : Nat) (a0 : Zon) (a1 : Int) : Option (Zon × Int × (Option Int)) :=
  (has.f k a0 a1).bind fun (r1 : Zon × Bool) => (bif !r1.2 then some (r1.1, 0, (some 1)) else (bif decide (0 ≤ a1) && decide (a1 < (r1.1.t.length : Int)) then some (r1.1, (r1.1.t.getD ((a1).toNat) (0 : Int)), none) else none))
set_option maxHeartbeats 4000000 in
theorem ZSort.ac (k : Nat) (a0 : Zon) (a1 : Int) (r : Zon × Int × (Option Int)) (h : ZSort.f k a0 a1 = some r) : AC Tryd.prog 28 19 [.c (zoneC a0), .c (.v (.int .i64 a1))] [some (.c (zoneC r.1)), none] [.c (.v (.int .i64 r.2.1)), .c (.err r.2.2)] := by
  unfold ZSort.f at h
  refine ac_intro (fn := Tryd.f19) (pins := [0]) (rts := [4, 5]) Tryd.func19 rfl Tryd.ntmps19 rfl (Nat.le_of_ble_eq_true rfl) (pins_lt rfl) rfl (fun w R E vs => ?_)
  refine r_weak (of_weak (l := [(0, .u (.c (zoneC a0))), (1, tI a1)]) (by kernel_rfl)) ?_
  refine r_seq ?_
  refine rr [(0, .u (.c (zoneC a0))), (1, tI a1)] (cgt 2 [4, 5] .nil) ?_
  refine r_seq ?_
  refine r_seq ?_
  obtain ⟨r1, hr1, h⟩ := bind_some h
  refine rr [(0, .u (.c (zoneC r1.1))), (1, tI a1), (9, tB (!r1.2))] (cgt 2 [6, 7] (cot 3 (os_plain rfl rfl (c_call (AC.k (has.ac (h := hr1))) ⟨_, Tryd.func38, rfl, by kernel_rfl⟩ rfl (hand_root (r := 0) (c := zoneC a0) (by kernel_rfl) (by kernel_rfl) rfl (.rd (.copy (by kernel_rfl) rfl) .nil)) rfl (by kernel_rfl))) (cgt 4 [9] .nil))) ?_
  rcases Bool.eq_false_or_eq_true (!r1.2) with hb | hb
  · have h := cond_t hb h
    refine r_condT hb rfl ?_
    refine r_seq ?_
    refine rr [(0, .u (.c (zoneC r1.1))), (4, tI 0), (5, .u (.c (.err (some 1))))] (cot 1 (os_plain rfl rfl (s_iface (n := 1) rfl (errB_ok (by kernel_rfl)) rfl (by kernel_rfl) rfl (by kernel_rfl))) (cgt 3 [4, 5] .nil)) ?_
    refine r_ret ?_
    obtain rfl := Option.some.inj h
    exact ⟨.inr rfl, _, _, .cons (.copy rfl rfl rfl) (.cons (.copy rfl rfl rfl) .nil), rfl, outs_of ⟨⟨rfl, rfl⟩, trivial⟩⟩
  have h := cond_f hb h
  refine r_condF hb rfl ?_
  refine r_skip ?_
  refine r_seq ?_
  obtain ⟨hg2, h⟩ := guard_some h
  simp only [Bool.and_eq_true, decide_eq_true_eq] at hg2
  refine rr [(0, .u (.c (zoneC r1.1))), (4, tI (r1.1.t.getD ((a1).toNat) (0 : Int))), (5, .u (.c (.err none)))] (cgt 5 [11, 12, 13, 14, 15] (cot 6 (os_plain rfl rfl (s_indexV (r := 0) (lo := 0) (n := (r1.1.t.map eI).length) (pl := (some (.d, [], 2))) (sz := 1) (e := a1) (ik := .i64) (k := (a1).toNat) rfl sl48 (by kernel_rfl) (.tmp (by kernel_rfl)) hg2.1 (by rw [List.length_map]; exact hg2.2) (Nat.zero_add _) rfl (by kernel_rfl) (by kernel_rfl))) (cot 7 (os_plain rfl rfl (s_load1 (x := .v (.int .i64 (r1.1.t.getD ((a1).toNat) (0 : Int)))) (r := 0) (off := 0) (s := .d) (p := [(2, .i ((a1).toNat) 1)]) (c := zoneC r1.1) (cs := (eI (r1.1.t.getD ((a1).toNat) (0 : Int)))) rfl (oneB_ok (by kernel_rfl)) (by kernel_rfl) (by kernel_rfl) (getP_in (c' := .sl true 1 (r1.1.t.map eI)) rfl (getP_map (f := eI) (own := true) (xs := r1.1.t) (k := (a1).toNat) (0 : Int) (by have := hg2; omega))) rfl rfl rfl (by kernel_rfl))) (cgt 9 [4, 5] .nil)))) ?_
  refine r_ret ?_
  obtain rfl := Option.some.inj h
  exact ⟨.inr rfl, _, _, .cons (.copy rfl rfl rfl) (.cons (.copy rfl rfl rfl) .nil), rfl, outs_of ⟨⟨rfl, rfl⟩, trivial⟩⟩
set_option maxHeartbeats 4000000 in
def ZFree.f (k : Nat) (a0 : Zon) : Option (Zon × (List Blk)) :=
  (Free.f k a0.s).bind fun (r1 : Sto × (List Blk)) => some ((⟨r1.1, a0.n, a0.t, a0.c⟩ : Zon), r1.2)
set_option maxHeartbeats 4000000 in
set_option maxHeartbeats 4000000 in
set_option maxHeartbeats 4000000 in
set_option maxHeartbeats 4000000 in
def ZClosed.f (k : Nat) (a0 : Zon) (a1 : Int) : Option (Zon × Bool) :=
  (has.f k a0 a1).bind fun (r1 : Zon × Bool) => (bif r1.2 then (bif decide (0 ≤ a1) && decide (a1 < (r1.1.c.length : Int)) then some (r1.1, (r1.1.c.getD ((a1).toNat) false)) else none) else some (r1.1, false))
set_option maxHeartbeats 4000000 in
set_option maxHeartbeats 4000000 in
def ZIsFree.f (k : Nat) (a0 : Zon) (a1 : Int) : Option (Zon × Bool) :=
  (IsFree.f k a0.s a1).bind fun (r1 : Sto × Bool) => some ((⟨r1.1, a0.n, a0.t, a0.c⟩ : Zon), r1.2)
set_option maxHeartbeats 4000000 in
set_option maxHeartbeats 4000000 in
def ZClone.f (k : Nat) (a0 : Zon) : Option (Zon × Zon) :=
  (SCloneR.f k a0.s).bind fun (r1 : Sto) => (CloneI.f k a0.t).bind fun (r2 : (List Int)) => (CloneB.f k a0.c).bind fun (r3 : (List Bool)) => some (a0, (⟨r1, a0.n, r2, r3⟩ : Zon))
set_option maxHeartbeats 4000000 in
set_option maxHeartbeats 4000000 in
def ZClose.f (k : Nat) (a0 : Zon) (a1 : Int) : Option (Zon × (Option Int)) :=
  (has.f k a0 a1).bind fun (r1 : Zon × Bool) => (bif !r1.2 then some (r1.1, (some 1)) else (bif decide (0 ≤ a1) && decide (a1 < (r1.1.c.length : Int)) then (bif (r1.1.c.getD ((a1).toNat) false) then some (r1.1, (some 7)) else (bif decide (0 ≤ a1) && decide (a1 < (r1.1.c.length : Int)) then some ((⟨r1.1.s, r1.1.n, r1.1.t, (r1.1.c.set ((a1).toNat) true)⟩ : Zon), none) else none)) else none))
set_option maxHeartbeats 4000000 in
theorem ZClose.ac (k : Nat) (a0 : Zon) (a1 : Int) (r : Zon × (Option Int)) (h : ZClose.f k a0 a1 = some r) : AC Tryd.prog 28 17 [.c (zoneC a0), .c (.v (.int .i64 a1))] [some (.c (zoneC r.1)), none] [.c (.err r.2)] := by
  unfold ZClose.f at h
  refine ac_intro (fn := Tryd.f17) (pins := [0]) (rts := [4]) Tryd.func17 rfl Tryd.ntmps17 rfl (Nat.le_of_ble_eq_true rfl) (pins_lt rfl) rfl (fun w R E vs => ?_)
  refine r_weak (of_weak (l := [(0, .u (.c (zoneC a0))), (1, tI a1)]) (by kernel_rfl)) ?_
  refine r_seq ?_
  refine rr [(0, .u (.c (zoneC a0))), (1, tI a1)] (cgt 1 [4] .nil) ?_
  refine r_seq ?_
  refine r_block ?_
  refine r_seq ?_
  obtain ⟨r1, hr1, h⟩ := bind_some h
  refine rr [(0, .u (.c (zoneC r1.1))), (1, tI a1), (5, tB (!r1.2))] (cgt 2 [6, 7] (cot 3 (os_plain rfl rfl (c_call (AC.k (has.ac (h := hr1))) ⟨_, Tryd.func38, rfl, by kernel_rfl⟩ rfl (hand_root (r := 0) (c := zoneC a0) (by kernel_rfl) (by kernel_rfl) rfl (.rd (.copy (by kernel_rfl) rfl) .nil)) rfl (by kernel_rfl))) (cgt 5 [9, 5] .nil))) ?_
  rcases Bool.eq_false_or_eq_true (!r1.2) with hb | hb
  · have h := cond_t hb h
    refine r_condT hb rfl ?_
    refine r_seq ?_
    refine rr [(0, .u (.c (zoneC r1.1))), (4, .u (.c (.err (some 1))))] (cot 1 (os_plain rfl rfl (s_iface (n := 1) rfl (errB_ok (by kernel_rfl)) rfl (by kernel_rfl) rfl (by kernel_rfl))) (cgt 2 [4] .nil)) ?_
    refine r_ret ?_
    obtain rfl := Option.some.inj h
    exact ⟨.inr rfl, _, _, .cons (.copy rfl rfl rfl) .nil, rfl, outs_of ⟨⟨rfl, rfl⟩, trivial⟩⟩
  have h := cond_f hb h
  refine r_condF hb rfl ?_
  refine r_seq ?_
  obtain ⟨hg2, h⟩ := guard_some h
  simp only [Bool.and_eq_true, decide_eq_true_eq] at hg2
  refine rr [(0, .u (.c (zoneC r1.1))), (1, tI a1), (11, tB (r1.1.c.getD ((a1).toNat) false))] (cgt 5 [12, 13, 14, 15, 16] (cot 6 (os_plain rfl rfl (s_indexV (r := 0) (lo := 0) (n := (r1.1.c.map eB).length) (pl := (some (.d, [], 3))) (sz := 1) (e := a1) (ik := .i64) (k := (a1).toNat) rfl sl52 (by kernel_rfl) (.tmp (by kernel_rfl)) hg2.1 (by rw [List.length_map]; exact hg2.2) (Nat.zero_add _) rfl (by kernel_rfl) (by kernel_rfl))) (cot 7 (os_plain rfl rfl (s_load1 (x := .v (.bool (r1.1.c.getD ((a1).toNat) false))) (r := 0) (off := 0) (s := .d) (p := [(3, .i ((a1).toNat) 1)]) (c := zoneC r1.1) (cs := (eB (r1.1.c.getD ((a1).toNat) false))) rfl (oneB_ok (by kernel_rfl)) (by kernel_rfl) (by kernel_rfl) (getP_in (c' := .sl true 1 (r1.1.c.map eB)) rfl (getP_map (f := eB) (own := true) (xs := r1.1.c) (k := (a1).toNat) false (by have := hg2; omega))) rfl rfl rfl (by kernel_rfl))) (cgt 8 [11] .nil)))) ?_
  rcases Bool.eq_false_or_eq_true ((r1.1.c.getD ((a1).toNat) false)) with hb | hb
  · have h := cond_t hb h
    refine r_condT hb rfl ?_
    refine r_seq ?_
    refine rr [(0, .u (.c (zoneC r1.1))), (4, .u (.c (.err (some 7))))] (cot 1 (os_plain rfl rfl (s_iface (n := 7) rfl (errB_ok (by kernel_rfl)) rfl (by kernel_rfl) rfl (by kernel_rfl))) (cgt 2 [4] .nil)) ?_
    refine r_ret ?_
    obtain rfl := Option.some.inj h
    exact ⟨.inr rfl, _, _, .cons (.copy rfl rfl rfl) .nil, rfl, outs_of ⟨⟨rfl, rfl⟩, trivial⟩⟩
  have h := cond_f hb h
  refine r_condF hb rfl ?_
  refine r_skip ?_
  refine r_seq ?_
  obtain ⟨hg3, h⟩ := guard_some h
  simp only [Bool.and_eq_true, decide_eq_true_eq] at hg3
  refine rr [(0, .u (.c (.pt true [storeC r1.1.s, .v (.int .i64 r1.1.n), .sl true 1 (r1.1.t.map eI), .sl true 1 ((r1.1.c.set ((a1).toNat) true).map eB)])))] (cgt 5 [20, 21, 22, 23, 24] (cot 6 (os_plain rfl rfl (s_indexV (r := 0) (lo := 0) (n := (r1.1.c.map eB).length) (pl := (some (.d, [], 3))) (sz := 1) (e := a1) (ik := .i64) (k := (a1).toNat) rfl sl52 (by kernel_rfl) (.tmp (by kernel_rfl)) hg3.1 (by rw [List.length_map]; exact hg3.2) (Nat.zero_add _) rfl (by kernel_rfl) (by kernel_rfl))) (cot 7 (os_plain rfl rfl (s_storeR (f := eB) (k := 0) (sz := 0) (n := 1) (r := 0) (off := 0) (s := .d) (p := [(3, .i ((a1).toNat) 1)]) (c := zoneC r1.1) (cs := (eB (r1.1.c.getD ((a1).toNat) false))) (u := .c (.v (.bool true))) (us := [.v (.bool true)]) (c' := .pt true [storeC r1.1.s, .v (.int .i64 r1.1.n), .sl true 1 (r1.1.t.map eI), .sl true 1 ((r1.1.c.set ((a1).toNat) true).map eB)]) rfl (by kernel_rfl) (by kernel_rfl) (by kernel_rfl) rfl (by kernel_rfl) (getP_in (c' := .sl true 1 (r1.1.c.map eB)) rfl (getP_map (f := eB) (own := true) (xs := r1.1.c) (k := (a1).toNat) false (by have := hg3; omega))) rfl rfl rfl (Nat.le_of_ble_eq_true rfl) (by kernel_rfl) rfl rfl rfl (congrArg (fun x => C.pt true [storeC r1.1.s, .v (.int .i64 r1.1.n), .sl true 1 (r1.1.t.map eI), .sl true 1 x]) (map_setC (f := eB) (y := true) rfl)))) .nil))) ?_
  refine r_seq ?_
  refine rr [(0, .u (.c (.pt true [storeC r1.1.s, .v (.int .i64 r1.1.n), .sl true 1 (r1.1.t.map eI), .sl true 1 ((r1.1.c.set ((a1).toNat) true).map eB)]))), (4, .u (.c (.err none)))] (cgt 1 [4] .nil) ?_
  refine r_ret ?_
  obtain rfl := Option.some.inj h
  exact ⟨.inr rfl, _, _, .cons (.copy rfl rfl rfl) .nil, rfl, outs_of ⟨⟨rfl, rfl⟩, trivial⟩⟩
def ZEmpty.l1 (k : Nat) (a0 : Zon) (a1 : Int) : Nat → Zon → Int → Option (Zon × Bool)
  | 0, _, _ => none
  | n1 + 1, v1, v2 => (bif decide (v2 < (if v1.n < i64.wrap ((i64.wrap (a1 + 1)) * 8) then v1.n else i64.wrap ((i64.wrap (a1 + 1)) * 8))) then (IsFree.f k v1.s v2).bind fun (r3 : Sto × Bool) => (bif !r3.2 then some ((⟨r3.1, v1.n, v1.t, v1.c⟩ : Zon), false) else ZEmpty.l1 k a0 a1 n1 (⟨r3.1, v1.n, v1.t, v1.c⟩ : Zon) (i64.wrap (v2 + 1))) else some (v1, true))
set_option maxHeartbeats 4000000 in
def ZEmpty.f (k : Nat) (a0 : Zon) (a1 : Int) : Option (Zon × Bool) :=
  ZEmpty.l1 k a0 a1 k a0 (i64.wrap (a1 * 8))
set_option maxHeartbeats 4000000 in
theorem ZEmpty.ac (k : Nat) (a0 : Zon) (a1 : Int) (r : Zon × Bool) (h : ZEmpty.f k a0 a1 = some r) : AC Tryd.prog 28 39 [.c (zoneC a0), .c (.v (.int .i64 a1))] [some (.c (zoneC r.1)), none] [.c (.v (.bool r.2))] := by
  unfold ZEmpty.f at h
  refine ac_intro (fn := Tryd.f39) (pins := [0]) (rts := [4]) Tryd.func39 rfl Tryd.ntmps39 rfl (Nat.le_of_ble_eq_true rfl) (pins_lt rfl) rfl (fun w R E vs => ?_)
  refine r_weak (of_weak (l := [(0, .u (.c (zoneC a0))), (1, tI a1)]) (by kernel_rfl)) ?_
  refine r_seq ?_
  refine rr [(0, .u (.c (zoneC a0))), (1, tI a1)] (cgt 1 [4] .nil) ?_
  refine r_seq ?_
  refine r_seq ?_
  refine rr [(0, .u (.c (zoneC a0))), (1, tI a1), (5, tI (i64.wrap (a1 * 8)))] (cgt 3 [6, 7, 5] .nil) ?_
  refine r_block ?_
  refine r_weak (of_weak (l := [(0, .u (.c (zoneC a0))), (1, tI a1), (5, tI (i64.wrap (a1 * 8)))]) (by kernel_rfl)) ?_
  refine r_loopI (α := Zon × Int) (fun x => [(0, .u (.c (zoneC x.1))), (1, tI a1), (5, tI x.2)]) (fun n x => ZEmpty.l1 k a0 a1 n x.1 x.2 = some r) k (a0, i64.wrap (a1 * 8)) h (by intro x h; unfold ZEmpty.l1 at h; cases h) ?_
  rintro n1 ⟨v1, v2⟩ h
  replace h : ZEmpty.l1 k a0 a1 (n1 + 1) v1 v2 = some r := h
  unfold ZEmpty.l1 at h
  show Run _ _ _ (St.of [(0, .u (.c (zoneC v1))), (1, tI a1), (5, tI v2)]) _
  refine r_seq ?_
  refine r_seq ?_
  refine rr [(0, .u (.c (zoneC v1))), (1, tI a1), (5, tI v2), (17, tB (decide (v2 < (if v1.n < i64.wrap ((i64.wrap (a1 + 1)) * 8) then v1.n else i64.wrap ((i64.wrap (a1 + 1)) * 8)))))] (cgt 8 [8, 9, 10, 11, 12, 13, 14, 15] (cot 9 (os_plain rfl rfl (s_min (k := .i64) (p := i64.wrap ((i64.wrap (a1 + 1)) * 8)) (q := v1.n) rfl (by kernel_rfl) (by kernel_rfl) rfl (by kernel_rfl))) (cgt 10 [17] .nil))) ?_
  rcases Bool.eq_false_or_eq_true (decide (v2 < (if v1.n < i64.wrap ((i64.wrap (a1 + 1)) * 8) then v1.n else i64.wrap ((i64.wrap (a1 + 1)) * 8)))) with hb | hb
  · have h := cond_t hb h
    refine r_condT hb rfl ?_
    refine r_skip ?_
    refine r_seq ?_
    refine r_block ?_
    refine r_seq ?_
    obtain ⟨r3, hr3, h⟩ := bind_some h
    refine rr [(0, .u (.c (.pt true [storeC r3.1, .v (.int .i64 v1.n), .sl true 1 (v1.t.map eI), .sl true 1 (v1.c.map eB)]))), (1, tI a1), (5, tI v2), (26, tB (!r3.2))] (cgt 5 [20, 21, 22, 23, 24] (cot 6 (os_plain rfl rfl (c_call (AC.k (IsFree.ac (h := hr3))) ⟨_, Tryd.func40, rfl, by kernel_rfl⟩ rfl (hand_ptrC (r := 0) (off := 0) (own := true) (c := zoneC v1) (cs := [storeC v1.s, .v (.int .i64 v1.n), .sl true 1 (v1.t.map eI), .sl true 1 (v1.c.map eB)]) (ds := [.v (.int .i64 v1.s.n), .sl true 2 (v1.s.l.map eR)]) (by kernel_rfl) (by kernel_rfl) (by kernel_rfl) (by kernel_rfl) (by kernel_rfl) (.rd (.copy (by kernel_rfl) rfl) .nil)) rfl (by kernel_rfl))) (cgt 7 [26] .nil))) ?_
    rcases Bool.eq_false_or_eq_true (!r3.2) with hb | hb
    · have h := cond_t hb h
      refine r_condT hb rfl ?_
      refine r_seq ?_
      refine rr [(0, .u (.c (.pt true [storeC r3.1, .v (.int .i64 v1.n), .sl true 1 (v1.t.map eI), .sl true 1 (v1.c.map eB)]))), (4, tB false)] (cgt 1 [4] .nil) ?_
      refine r_ret ?_
      obtain rfl := Option.some.inj h
      exact ⟨.inr rfl, _, _, .cons (.copy rfl rfl rfl) .nil, rfl, outs_of ⟨⟨rfl, rfl⟩, trivial⟩⟩
    have h := cond_f hb h
    refine r_condF hb rfl ?_
    refine r_skip ?_
    refine rr [(0, .u (.c (.pt true [storeC r3.1, .v (.int .i64 v1.n), .sl true 1 (v1.t.map eI), .sl true 1 (v1.c.map eB)]))), (1, tI a1), (5, tI (i64.wrap (v2 + 1)))] (cgt 3 [18, 19, 5] .nil) ?_
    exact ⟨((⟨r3.1, v1.n, v1.t, v1.c⟩ : Zon), i64.wrap (v2 + 1)), h, of_weak (by kernel_rfl)⟩
  have h := cond_f hb h
  refine r_condF hb rfl ?_
  refine r_exit ?_
  refine r_seq ?_
  refine rr [(0, .u (.c (zoneC v1))), (4, tB true)] (cgt 1 [4] .nil) ?_
  refine r_ret ?_
  obtain rfl := Option.some.inj h
  exact ⟨.inr rfl, _, _, .cons (.copy rfl rfl rfl) .nil, rfl, outs_of ⟨⟨rfl, rfl⟩, trivial⟩⟩
set_option maxHeartbeats 4000000 in
def ZOpen.f (k : Nat) (a0 : Zon) (a1 : Int) : Option (Zon × (Option Int)) :=
  (has.f k a0 a1).bind fun (r1 : Zon × Bool) => (bif !r1.2 then some (r1.1, (some 1)) else (bif decide (0 ≤ a1) && decide (a1 < (r1.1.c.length : Int)) then (bif !(r1.1.c.getD ((a1).toNat) false) then some (r1.1, (some 7)) else (bif decide (0 ≤ a1) && decide (a1 < (r1.1.c.length : Int)) then (ZEmpty.f k (⟨r1.1.s, r1.1.n, r1.1.t, (r1.1.c.set ((a1).toNat) false)⟩ : Zon) a1).bind fun (r4 : Zon × Bool) => (bif r4.2 then (bif decide (0 ≤ a1) && decide (a1 < (r4.1.t.length : Int)) then some ((⟨r4.1.s, r4.1.n, (r4.1.t.set ((a1).toNat) 1), r4.1.c⟩ : Zon), none) else none) else some (r4.1, none)) else none)) else none))
set_option maxHeartbeats 4000000 in
theorem ZOpen.ac (k : Nat) (a0 : Zon) (a1 : Int) (r : Zon × (Option Int)) (h : ZOpen.f k a0 a1 = some r) : AC Tryd.prog 28 20 [.c (zoneC a0), .c (.v (.int .i64 a1))] [some (.c (zoneC r.1)), none] [.c (.err r.2)] := by
  unfold ZOpen.f at h
  refine ac_intro (fn := Tryd.f20) (pins := [0]) (rts := [4]) Tryd.func20 rfl Tryd.ntmps20 rfl (Nat.le_of_ble_eq_true rfl) (pins_lt rfl) rfl (fun w R E vs => ?_)
  refine r_weak (of_weak (l := [(0, .u (.c (zoneC a0))), (1, tI a1)]) (by kernel_rfl)) ?_
  refine r_seq ?_
  refine rr [(0, .u (.c (zoneC a0))), (1, tI a1)] (cgt 1 [4] .nil) ?_
  refine r_seq ?_
  refine r_block ?_
  refine r_seq ?_
  obtain ⟨r1, hr1, h⟩ := bind_some h
  refine rr [(0, .u (.c (zoneC r1.1))), (1, tI a1), (5, tB (!r1.2))] (cgt 2 [6, 7] (cot 3 (os_plain rfl rfl (c_call (AC.k (has.ac (h := hr1))) ⟨_, Tryd.func38, rfl, by kernel_rfl⟩ rfl (hand_root (r := 0) (c := zoneC a0) (by kernel_rfl) (by kernel_rfl) rfl (.rd (.copy (by kernel_rfl) rfl) .nil)) rfl (by kernel_rfl))) (cgt 5 [9, 5] .nil))) ?_
  rcases Bool.eq_false_or_eq_true (!r1.2) with hb | hb
  · have h := cond_t hb h
    refine r_condT hb rfl ?_
    refine r_seq ?_
    refine rr [(0, .u (.c (zoneC r1.1))), (4, .u (.c (.err (some 1))))] (cot 1 (os_plain rfl rfl (s_iface (n := 1) rfl (errB_ok (by kernel_rfl)) rfl (by kernel_rfl) rfl (by kernel_rfl))) (cgt 2 [4] .nil)) ?_
    refine r_ret ?_
    obtain rfl := Option.some.inj h
    exact ⟨.inr rfl, _, _, .cons (.copy rfl rfl rfl) .nil, rfl, outs_of ⟨⟨rfl, rfl⟩, trivial⟩⟩
  have h := cond_f hb h
  refine r_condF hb rfl ?_
  refine r_seq ?_
  obtain ⟨hg2, h⟩ := guard_some h
  simp only [Bool.and_eq_true, decide_eq_true_eq] at hg2
  refine rr [(0, .u (.c (zoneC r1.1))), (1, tI a1), (11, tB (!(r1.1.c.getD ((a1).toNat) false)))] (cgt 5 [12, 13, 14, 15, 16] (cot 6 (os_plain rfl rfl (s_indexV (r := 0) (lo := 0) (n := (r1.1.c.map eB).length) (pl := (some (.d, [], 3))) (sz := 1) (e := a1) (ik := .i64) (k := (a1).toNat) rfl sl52 (by kernel_rfl) (.tmp (by kernel_rfl)) hg2.1 (by rw [List.length_map]; exact hg2.2) (Nat.zero_add _) rfl (by kernel_rfl) (by kernel_rfl))) (cot 7 (os_plain rfl rfl (s_load1 (x := .v (.bool (r1.1.c.getD ((a1).toNat) false))) (r := 0) (off := 0) (s := .d) (p := [(3, .i ((a1).toNat) 1)]) (c := zoneC r1.1) (cs := (eB (r1.1.c.getD ((a1).toNat) false))) rfl (oneB_ok (by kernel_rfl)) (by kernel_rfl) (by kernel_rfl) (getP_in (c' := .sl true 1 (r1.1.c.map eB)) rfl (getP_map (f := eB) (own := true) (xs := r1.1.c) (k := (a1).toNat) false (by have := hg2; omega))) rfl rfl rfl (by kernel_rfl))) (cgt 9 [19, 11] .nil)))) ?_
  rcases Bool.eq_false_or_eq_true (!(r1.1.c.getD ((a1).toNat) false)) with hb | hb
  · have h := cond_t hb h
    refine r_condT hb rfl ?_
    refine r_seq ?_
    refine rr [(0, .u (.c (zoneC r1.1))), (4, .u (.c (.err (some 7))))] (cot 1 (os_plain rfl rfl (s_iface (n := 7) rfl (errB_ok (by kernel_rfl)) rfl (by kernel_rfl) rfl (by kernel_rfl))) (cgt 2 [4] .nil)) ?_
    refine r_ret ?_
    obtain rfl := Option.some.inj h
    exact ⟨.inr rfl, _, _, .cons (.copy rfl rfl rfl) .nil, rfl, outs_of ⟨⟨rfl, rfl⟩, trivial⟩⟩
  have h := cond_f hb h
  refine r_condF hb rfl ?_
  refine r_skip ?_
  refine r_seq ?_
  obtain ⟨hg3, h⟩ := guard_some h
  simp only [Bool.and_eq_true, decide_eq_true_eq] at hg3
  refine rr [(0, .u (.c (.pt true [storeC r1.1.s, .v (.int .i64 r1.1.n), .sl true 1 (r1.1.t.map eI), .sl true 1 ((r1.1.c.set ((a1).toNat) false).map eB)]))), (1, tI a1)] (cgt 5 [21, 22, 23, 24, 25] (cot 6 (os_plain rfl rfl (s_indexV (r := 0) (lo := 0) (n := (r1.1.c.map eB).length) (pl := (some (.d, [], 3))) (sz := 1) (e := a1) (ik := .i64) (k := (a1).toNat) rfl sl52 (by kernel_rfl) (.tmp (by kernel_rfl)) hg3.1 (by rw [List.length_map]; exact hg3.2) (Nat.zero_add _) rfl (by kernel_rfl) (by kernel_rfl))) (cot 7 (os_plain rfl rfl (s_storeR (f := eB) (k := 0) (sz := 0) (n := 1) (r := 0) (off := 0) (s := .d) (p := [(3, .i ((a1).toNat) 1)]) (c := zoneC r1.1) (cs := (eB (r1.1.c.getD ((a1).toNat) false))) (u := .c (.v (.bool false))) (us := [.v (.bool false)]) (c' := .pt true [storeC r1.1.s, .v (.int .i64 r1.1.n), .sl true 1 (r1.1.t.map eI), .sl true 1 ((r1.1.c.set ((a1).toNat) false).map eB)]) rfl (by kernel_rfl) (by kernel_rfl) (by kernel_rfl) rfl (by kernel_rfl) (getP_in (c' := .sl true 1 (r1.1.c.map eB)) rfl (getP_map (f := eB) (own := true) (xs := r1.1.c) (k := (a1).toNat) false (by have := hg3; omega))) rfl rfl rfl (Nat.le_of_ble_eq_true rfl) (by kernel_rfl) rfl rfl rfl (congrArg (fun x => C.pt true [storeC r1.1.s, .v (.int .i64 r1.1.n), .sl true 1 (r1.1.t.map eI), .sl true 1 x]) (map_setC (f := eB) (y := false) rfl)))) .nil))) ?_
  refine r_seq ?_
  refine r_seq ?_
  obtain ⟨r4, hr4, h⟩ := bind_some h
  refine rr [(0, .u (.c (zoneC r4.1))), (1, tI a1), (29, tB r4.2)] (cgt 2 [27, 28] (cot 3 (os_plain rfl rfl (c_call (AC.k (ZEmpty.ac (h := hr4))) ⟨_, Tryd.func39, rfl, by kernel_rfl⟩ rfl (hand_root (r := 0) (c := .pt true [storeC r1.1.s, .v (.int .i64 r1.1.n), .sl true 1 (r1.1.t.map eI), .sl true 1 ((r1.1.c.set ((a1).toNat) false).map eB)]) (by kernel_rfl) (by kernel_rfl) rfl (.rd (.copy (by kernel_rfl) rfl) .nil)) rfl (by kernel_rfl))) .nil)) ?_
  rcases Bool.eq_false_or_eq_true (r4.2) with hb | hb
  · have h := cond_t hb h
    refine r_condT hb rfl ?_
    obtain ⟨hg5, h⟩ := guard_some h
    simp only [Bool.and_eq_true, decide_eq_true_eq] at hg5
    refine rr [(0, .u (.c (.pt true [storeC r4.1.s, .v (.int .i64 r4.1.n), .sl true 1 ((r4.1.t.set ((a1).toNat) 1).map eI), .sl true 1 (r4.1.c.map eB)])))] (cgt 5 [30, 31, 32, 33, 34] (cot 6 (os_plain rfl rfl (s_indexV (r := 0) (lo := 0) (n := (r4.1.t.map eI).length) (pl := (some (.d, [], 2))) (sz := 1) (e := a1) (ik := .i64) (k := (a1).toNat) rfl sl48 (by kernel_rfl) (.tmp (by kernel_rfl)) hg5.1 (by rw [List.length_map]; exact hg5.2) (Nat.zero_add _) rfl (by kernel_rfl) (by kernel_rfl))) (cot 7 (os_plain rfl rfl (s_storeR (f := eI) (k := 0) (sz := 0) (n := 1) (r := 0) (off := 0) (s := .d) (p := [(2, .i ((a1).toNat) 1)]) (c := zoneC r4.1) (cs := (eI (r4.1.t.getD ((a1).toNat) (0 : Int)))) (u := .c (.v (.int .i64 1))) (us := [.v (.int .i64 1)]) (c' := .pt true [storeC r4.1.s, .v (.int .i64 r4.1.n), .sl true 1 ((r4.1.t.set ((a1).toNat) 1).map eI), .sl true 1 (r4.1.c.map eB)]) rfl (by kernel_rfl) (by kernel_rfl) (by kernel_rfl) rfl (by kernel_rfl) (getP_in (c' := .sl true 1 (r4.1.t.map eI)) rfl (getP_map (f := eI) (own := true) (xs := r4.1.t) (k := (a1).toNat) (0 : Int) (by have := hg5; omega))) rfl rfl rfl (Nat.le_of_ble_eq_true rfl) (by kernel_rfl) rfl rfl rfl (congrArg (fun x => C.pt true [storeC r4.1.s, .v (.int .i64 r4.1.n), .sl true 1 x, .sl true 1 (r4.1.c.map eB)]) (map_setC (f := eI) (y := 1) rfl)))) .nil))) ?_
    refine r_seq ?_
    refine rr [(0, .u (.c (.pt true [storeC r4.1.s, .v (.int .i64 r4.1.n), .sl true 1 ((r4.1.t.set ((a1).toNat) 1).map eI), .sl true 1 (r4.1.c.map eB)]))), (4, .u (.c (.err none)))] (cgt 1 [4] .nil) ?_
    refine r_ret ?_
    obtain rfl := Option.some.inj h
    exact ⟨.inr rfl, _, _, .cons (.copy rfl rfl rfl) .nil, rfl, outs_of ⟨⟨rfl, rfl⟩, trivial⟩⟩
  have h := cond_f hb h
  refine r_condF hb rfl ?_
  refine r_skip ?_
  refine r_seq ?_
  refine rr [(0, .u (.c (zoneC r4.1))), (4, .u (.c (.err none)))] (cgt 1 [4] .nil) ?_
  refine r_ret ?_
  obtain rfl := Option.some.inj h
  exact ⟨.inr rfl, _, _, .cons (.copy rfl rfl rfl) .nil, rfl, outs_of ⟨⟨rfl, rfl⟩, trivial⟩⟩
set_option maxHeartbeats 4000000 in
def ZGive.f (k : Nat) (a0 : Zon) (a1 : Int) (a2 : Int) : Option (Zon × (Option Int)) :=
  (bif decide (a2 > 3) then some (a0, (some 1)) else (Give.f k a0.s a1 a2).bind fun (r1 : Sto × (Option Int)) => some ((⟨r1.1, a0.n, a0.t, a0.c⟩ : Zon), r1.2))
set_option maxHeartbeats 4000000 in
theorem ZGive.ac (k : Nat) (a0 : Zon) (a1 : Int) (a2 : Int) (r : Zon × (Option Int)) (h : ZGive.f k a0 a1 a2 = some r) : AC Tryd.prog 28 22 [.c (zoneC a0), .c (.v (.int .i64 a1)), .c (.v (.int .i64 a2))] [some (.c (zoneC r.1)), none, none] [.c (.err r.2)] := by
  unfold ZGive.f at h
  refine ac_intro (fn := Tryd.f22) (pins := [0]) (rts := [6]) Tryd.func22 rfl Tryd.ntmps22 rfl (Nat.le_of_ble_eq_true rfl) (pins_lt rfl) rfl (fun w R E vs => ?_)
  refine r_weak (of_weak (l := [(0, .u (.c (zoneC a0))), (1, tI a1), (2, tI a2)]) (by kernel_rfl)) ?_
  refine r_seq ?_
  refine rr [(0, .u (.c (zoneC a0))), (1, tI a1), (2, tI a2)] (cgt 1 [6] .nil) ?_
  refine r_seq ?_
  refine r_seq ?_
  refine rr [(0, .u (.c (zoneC a0))), (1, tI a1), (2, tI a2), (8, tB (decide (a2 > 3)))] (cgt 2 [7, 8] .nil) ?_
  rcases Bool.eq_false_or_eq_true (decide (a2 > 3)) with hb | hb
  · have h := cond_t hb h
    refine r_condT hb rfl ?_
    refine r_seq ?_
    refine rr [(0, .u (.c (zoneC a0))), (6, .u (.c (.err (some 1))))] (cot 1 (os_plain rfl rfl (s_iface (n := 1) rfl (errB_ok (by kernel_rfl)) rfl (by kernel_rfl) rfl (by kernel_rfl))) (cgt 2 [6] .nil)) ?_
    refine r_ret ?_
    obtain rfl := Option.some.inj h
    exact ⟨.inr rfl, _, _, .cons (.copy rfl rfl rfl) .nil, rfl, outs_of ⟨⟨rfl, rfl⟩, trivial⟩⟩
  have h := cond_f hb h
  refine r_condF hb rfl ?_
  refine r_skip ?_
  refine r_seq ?_
  obtain ⟨r1, hr1, h⟩ := bind_some h
  refine rr [(0, .u (.c (.pt true [storeC r1.1, .v (.int .i64 a0.n), .sl true 1 (a0.t.map eI), .sl true 1 (a0.c.map eB)]))), (6, .u (.c (.err r1.2)))] (cgt 6 [10, 11, 12, 13, 14, 15] (cot 7 (os_plain rfl rfl (c_call (AC.k (Give.ac (h := hr1))) ⟨_, Tryd.func41, rfl, by kernel_rfl⟩ rfl (hand_ptrC (r := 0) (off := 0) (own := true) (c := zoneC a0) (cs := [storeC a0.s, .v (.int .i64 a0.n), .sl true 1 (a0.t.map eI), .sl true 1 (a0.c.map eB)]) (ds := [.v (.int .i64 a0.s.n), .sl true 2 (a0.s.l.map eR)]) (by kernel_rfl) (by kernel_rfl) (by kernel_rfl) (by kernel_rfl) (by kernel_rfl) (.rd (.copy (by kernel_rfl) rfl) (.rd (.copy (by kernel_rfl) rfl) .nil))) rfl (by kernel_rfl))) (cgt 8 [6] .nil))) ?_
  refine r_ret ?_
  obtain rfl := Option.some.inj h
  exact ⟨.inr rfl, _, _, .cons (.copy rfl rfl rfl) .nil, rfl, outs_of ⟨⟨rfl, rfl⟩, trivial⟩⟩
set_option maxHeartbeats 4000000 in
def ZTakeAt.f (k : Nat) (a0 : Zon) (a1 : Int) (a2 : Int) : Option (Zon × (Option Int)) :=
  (bif decide (a2 > 3) then some (a0, (some 1)) else (TakeAt.f k a0.s a1 a2).bind fun (r1 : Sto × (Option Int)) => some ((⟨r1.1, a0.n, a0.t, a0.c⟩ : Zon), r1.2))
set_option maxHeartbeats 4000000 in
theorem ZTakeAt.ac (k : Nat) (a0 : Zon) (a1 : Int) (a2 : Int) (r : Zon × (Option Int)) (h : ZTakeAt.f k a0 a1 a2 = some r) : ACD Tryd.prog 28 25 [.c (zoneC a0), .c (.v (.int .i64 a1)), .c (.v (.int .i64 a2))] [some (.c (zoneC r.1)), none, none] [.c (.err r.2)] := by
  unfold ZTakeAt.f at h
  refine act_intro (fn := Tryd.f25) (pins := [0]) (rts := [6]) Tryd.func25 rfl Tryd.ntmps25 rfl (Nat.le_of_ble_eq_true rfl) (pins_lt rfl) rfl (fun w R E vs hT => ?_)
  refine r_weak (of_weak (l := [(0, .u (.c (zoneC a0))), (1, tI a1), (2, tI a2)]) (by kernel_rfl)) ?_
  refine r_seq ?_
  refine rr [(0, .u (.c (zoneC a0))), (1, tI a1), (2, tI a2)] (cgt 1 [6] .nil) ?_
  refine r_seq ?_
  refine r_seq ?_
  refine rr [(0, .u (.c (zoneC a0))), (1, tI a1), (2, tI a2), (8, tB (decide (a2 > 3)))] (cgt 2 [7, 8] .nil) ?_
  rcases Bool.eq_false_or_eq_true (decide (a2 > 3)) with hb | hb
  · have h := cond_t hb h
    refine r_condT hb rfl ?_
    refine r_seq ?_
    refine rr [(0, .u (.c (zoneC a0))), (6, .u (.c (.err (some 1))))] (cot 1 (os_plain rfl rfl (s_iface (n := 1) rfl (errB_ok (by kernel_rfl)) rfl (by kernel_rfl) rfl (by kernel_rfl))) (cgt 2 [6] .nil)) ?_
    refine r_ret ?_
    obtain rfl := Option.some.inj h
    exact ⟨.inr rfl, _, _, .cons (.copy rfl rfl rfl) .nil, rfl, outs_of ⟨⟨rfl, rfl⟩, trivial⟩⟩
  have h := cond_f hb h
  refine r_condF hb rfl ?_
  refine r_skip ?_
  refine r_seq ?_
  obtain ⟨r1, hr1, h⟩ := bind_some h
  refine rr [(0, .u (.c (.pt true [storeC r1.1, .v (.int .i64 a0.n), .sl true 1 (a0.t.map eI), .sl true 1 (a0.c.map eB)]))), (6, .u (.c (.err r1.2)))] (cgt 6 [10, 11, 12, 13, 14, 15] (cot 7 (os_plain rfl rfl (c_call (ACT.k hT (TakeAt.ac (h := hr1))) ⟨_, Tryd.func33, rfl, by kernel_rfl⟩ rfl (hand_ptrC (r := 0) (off := 0) (own := true) (c := zoneC a0) (cs := [storeC a0.s, .v (.int .i64 a0.n), .sl true 1 (a0.t.map eI), .sl true 1 (a0.c.map eB)]) (ds := [.v (.int .i64 a0.s.n), .sl true 2 (a0.s.l.map eR)]) (by kernel_rfl) (by kernel_rfl) (by kernel_rfl) (by kernel_rfl) (by kernel_rfl) (.rd (.copy (by kernel_rfl) rfl) (.rd (.copy (by kernel_rfl) rfl) .nil))) rfl (by kernel_rfl))) (cgt 8 [6] .nil))) ?_
  refine r_ret ?_
  obtain rfl := Option.some.inj h
  exact ⟨.inr rfl, _, _, .cons (.copy rfl rfl rfl) .nil, rfl, outs_of ⟨⟨rfl, rfl⟩, trivial⟩⟩
set_option maxHeartbeats 4000000 in
def up.f (k : Nat) : Option (Bool) :=
  (ZNew.f k 24).bind fun (r1 : Zon × (Option Int)) => (bif !(r1.2 == none) then some false else (ZTake.f k r1.1 0 0).bind fun (r2 : Zon × Int × (Option Int)) => (ZSort.f k r2.1 0).bind fun (r3 : Zon × Int × (Option Int)) => (ZTake.f k r3.1 1 0).bind fun (r4 : Zon × Int × (Option Int)) => (bif r2.2.2 == none then (bif r2.2.1 == 0 then (bif r3.2.2 == none then (bif r3.2.1 == 0 then (bif r4.2.2 == none then some (r4.2.1 == 8) else some false) else some false) else some false) else some false) else some false))
set_option maxHeartbeats 4000000 in
theorem up.ac (k : Nat) (r : Bool) (h : up.f k = some r) : ACD Tryd.prog 28 8 [] [] [.c (.v (.bool r))] := by
  unfold up.f at h
  refine act_intro (fn := Tryd.f8) (pins := []) (rts := [0]) Tryd.func8 rfl Tryd.ntmps8 rfl (Nat.le_of_ble_eq_true rfl) (pins_lt rfl) rfl (fun w R E vs hT => ?_)
  refine r_weak (of_weak (l := []) (by kernel_rfl)) ?_
  refine r_seq ?_
  refine rr [] (cgt 1 [0] .nil) ?_
  refine r_seq ?_
  obtain ⟨r1, hr1, h⟩ := bind_some h
  refine rr [(1, .u (.c (zoneC r1.1))), (2, .u (.c (.err r1.2)))] (cot 1 (os_plain rfl rfl (c_callQ (ACT.k hT (ZNew.ac (h := hr1))) ⟨_, Tryd.func9, rfl, by kernel_rfl⟩ rfl (.cons (.copy (by kernel_rfl) rfl) .nil) (by kernel_rfl))) (cot 2 (os_plain rfl rfl (s_moveT (us := [.c (zoneC r1.1), .c (.err r1.2)]) (.inl rfl) (by kernel_rfl) rfl (by kernel_rfl))) (cot 3 (os_plain rfl rfl (s_xmove (us := [.c (zoneC r1.1), .c (.err r1.2)]) rfl (by kernel_rfl) rfl rfl (by kernel_rfl))) (cgt 4 [12] (cot 5 (os_plain rfl rfl (s_take (u := .c (zoneC r1.1)) (.inr rfl) (.move (by kernel_rfl) rfl) rfl (by kernel_rfl))) (cgt 6 [2] .nil)))))) ?_
  refine r_seq ?_
  refine r_seq ?_
  refine rr [(1, .u (.c (zoneC r1.1))), (18, tB (!(r1.2 == none)))] (cgt 6 [13, 14, 15, 16, 17, 18] .nil) ?_
  rcases Bool.eq_false_or_eq_true (!(r1.2 == none)) with hb | hb
  · have h := cond_t hb h
    refine r_condT hb rfl ?_
    refine r_seq ?_
    refine rr [(0, tB false)] (cgt 1 [0] .nil) ?_
    refine r_ret ?_
    obtain rfl := Option.some.inj h
    exact ⟨.inr rfl, _, _, .cons (.copy rfl rfl rfl) .nil, rfl, outs_of trivial⟩
  have h := cond_f hb h
  refine r_condF hb rfl ?_
  refine r_skip ?_
  refine r_seq ?_
  obtain ⟨r2, hr2, h⟩ := bind_some h
  refine rr [(1, .u (.c (zoneC r2.1))), (3, tI r2.2.1), (4, .u (.c (.err r2.2.2)))] (cgt 1 [20] (cot 2 (os_plain rfl rfl (c_call (ACT.k hT (ZTake.ac (h := hr2))) ⟨_, Tryd.func13, rfl, by kernel_rfl⟩ rfl (hand_root (r := 1) (c := zoneC r1.1) (by kernel_rfl) (by kernel_rfl) rfl (.rd (.copy (by kernel_rfl) rfl) (.rd (.copy (by kernel_rfl) rfl) .nil))) rfl (by kernel_rfl))) (cot 3 (os_plain rfl rfl (s_moveT (us := [.c (.v (.int .i64 r2.2.1)), .c (.err r2.2.2)]) (.inl rfl) (by kernel_rfl) rfl (by kernel_rfl))) (cgt 7 [22, 23, 3, 4] .nil)))) ?_
  refine r_seq ?_
  obtain ⟨r3, hr3, h⟩ := bind_some h
  refine rr [(1, .u (.c (zoneC r3.1))), (3, tI r2.2.1), (4, .u (.c (.err r2.2.2))), (5, tI r3.2.1), (6, .u (.c (.err r3.2.2)))] (cgt 1 [25] (cot 2 (os_plain rfl rfl (c_call (AC.k (ZSort.ac (h := hr3))) ⟨_, Tryd.func19, rfl, by kernel_rfl⟩ rfl (hand_root (r := 1) (c := zoneC r2.1) (by kernel_rfl) (by kernel_rfl) rfl (.rd (.copy (by kernel_rfl) rfl) .nil)) rfl (by kernel_rfl))) (cot 3 (os_plain rfl rfl (s_moveT (us := [.c (.v (.int .i64 r3.2.1)), .c (.err r3.2.2)]) (.inl rfl) (by kernel_rfl) rfl (by kernel_rfl))) (cgt 7 [27, 28, 5, 6] .nil)))) ?_
  refine r_seq ?_
  obtain ⟨r4, hr4, h⟩ := bind_some h
  refine rr [(3, tI r2.2.1), (4, .u (.c (.err r2.2.2))), (5, tI r3.2.1), (6, .u (.c (.err r3.2.2))), (7, tI r4.2.1), (8, .u (.c (.err r4.2.2)))] (cot 1 (os_plain rfl rfl (s_take (u := .c (zoneC r3.1)) (.inl rfl) (.move (by kernel_rfl) rfl) rfl (by kernel_rfl))) (cot 2 (os_plain rfl rfl (c_call (ACT.k hT (ZTake.ac (h := hr4))) ⟨_, Tryd.func13, rfl, by kernel_rfl⟩ rfl (hand_root (r := 30) (c := zoneC r3.1) (by kernel_rfl) (by kernel_rfl) rfl (.rd (.copy (by kernel_rfl) rfl) (.rd (.copy (by kernel_rfl) rfl) .nil))) rfl (by kernel_rfl))) (cot 3 (os_plain rfl rfl (s_moveT (us := [.c (.v (.int .i64 r4.2.1)), .c (.err r4.2.2)]) (.inl rfl) (by kernel_rfl) rfl (by kernel_rfl))) (cgt 7 [32, 33, 7, 8] .nil)))) ?_
  refine r_seq ?_
  rcases Bool.eq_false_or_eq_true (r2.2.2 == none) with hb | hb
  · have h := cond_t hb h
    have hs5 := hb
    rcases Bool.eq_false_or_eq_true (r2.2.1 == 0) with hb | hb
    · have h := cond_t hb h
      have hs6 := hb
      rcases Bool.eq_false_or_eq_true (r3.2.2 == none) with hb | hb
      · have h := cond_t hb h
        have hs7 := hb
        rcases Bool.eq_false_or_eq_true (r3.2.1 == 0) with hb | hb
        · have h := cond_t hb h
          have hs8 := hb
          rcases Bool.eq_false_or_eq_true (r4.2.2 == none) with hb | hb
          · have h := cond_t hb h
            have hs9 := hb
            refine rr [(0, tB (r4.2.1 == 8))] (cgt 2 [34, 35] (cot 3 (os_ge (d := 36) (t := tB (r2.2.2 == none)) (t' := tB true) (by kernel_rfl) (by rw [hs5])) (cgt 6 [37, 38, 39] (cot 7 (os_ge (d := 40) (t := tB (r2.2.1 == 0)) (t' := tB true) (by kernel_rfl) (by rw [hs6])) (cgt 10 [41, 42, 43] (cot 11 (os_ge (d := 44) (t := tB (r3.2.2 == none)) (t' := tB true) (by kernel_rfl) (by rw [hs7])) (cgt 14 [45, 46, 47] (cot 15 (os_ge (d := 48) (t := tB (r3.2.1 == 0)) (t' := tB true) (by kernel_rfl) (by rw [hs8])) (cgt 18 [49, 50, 51] (cot 19 (os_ge (d := 52) (t := tB (r4.2.2 == none)) (t' := tB true) (by kernel_rfl) (by rw [hs9])) (cgt 23 [53, 54, 55, 0] .nil))))))))))) ?_
            refine r_ret ?_
            obtain rfl := Option.some.inj h
            exact ⟨.inr rfl, _, _, .cons (.copy rfl rfl rfl) .nil, rfl, outs_of trivial⟩
          have h := cond_f hb h
          have hs10 := hb
          refine rr [(0, tB false)] (cgt 2 [34, 35] (cot 3 (os_ge (d := 36) (t := tB (r2.2.2 == none)) (t' := tB true) (by kernel_rfl) (by rw [hs5])) (cgt 6 [37, 38, 39] (cot 7 (os_ge (d := 40) (t := tB (r2.2.1 == 0)) (t' := tB true) (by kernel_rfl) (by rw [hs6])) (cgt 10 [41, 42, 43] (cot 11 (os_ge (d := 44) (t := tB (r3.2.2 == none)) (t' := tB true) (by kernel_rfl) (by rw [hs7])) (cgt 14 [45, 46, 47] (cot 15 (os_ge (d := 48) (t := tB (r3.2.1 == 0)) (t' := tB true) (by kernel_rfl) (by rw [hs8])) (cgt 18 [49, 50, 51] (cot 19 (os_ge (d := 52) (t := tB (r4.2.2 == none)) (t' := tB false) (by kernel_rfl) (by rw [hs10])) (cgt 23 [53, 54, 55, 0] .nil))))))))))) ?_
          refine r_ret ?_
          obtain rfl := Option.some.inj h
          exact ⟨.inr rfl, _, _, .cons (.copy rfl rfl rfl) .nil, rfl, outs_of trivial⟩
        have h := cond_f hb h
        have hs11 := hb
        refine rr [(0, tB false)] (cgt 2 [34, 35] (cot 3 (os_ge (d := 36) (t := tB (r2.2.2 == none)) (t' := tB true) (by kernel_rfl) (by rw [hs5])) (cgt 6 [37, 38, 39] (cot 7 (os_ge (d := 40) (t := tB (r2.2.1 == 0)) (t' := tB true) (by kernel_rfl) (by rw [hs6])) (cgt 10 [41, 42, 43] (cot 11 (os_ge (d := 44) (t := tB (r3.2.2 == none)) (t' := tB true) (by kernel_rfl) (by rw [hs7])) (cgt 14 [45, 46, 47] (cot 15 (os_ge (d := 48) (t := tB (r3.2.1 == 0)) (t' := tB false) (by kernel_rfl) (by rw [hs11])) (cgt 23 [49, 50, 51, 52, 53, 54, 55, 0] .nil))))))))) ?_
        refine r_ret ?_
        obtain rfl := Option.some.inj h
        exact ⟨.inr rfl, _, _, .cons (.copy rfl rfl rfl) .nil, rfl, outs_of trivial⟩
      have h := cond_f hb h
      have hs12 := hb
      refine rr [(0, tB false)] (cgt 2 [34, 35] (cot 3 (os_ge (d := 36) (t := tB (r2.2.2 == none)) (t' := tB true) (by kernel_rfl) (by rw [hs5])) (cgt 6 [37, 38, 39] (cot 7 (os_ge (d := 40) (t := tB (r2.2.1 == 0)) (t' := tB true) (by kernel_rfl) (by rw [hs6])) (cgt 10 [41, 42, 43] (cot 11 (os_ge (d := 44) (t := tB (r3.2.2 == none)) (t' := tB false) (by kernel_rfl) (by rw [hs12])) (cgt 23 [45, 46, 47, 48, 49, 50, 51, 52, 53, 54, 55, 0] .nil))))))) ?_
      refine r_ret ?_
      obtain rfl := Option.some.inj h
      exact ⟨.inr rfl, _, _, .cons (.copy rfl rfl rfl) .nil, rfl, outs_of trivial⟩
    have h := cond_f hb h
    have hs13 := hb
    refine rr [(0, tB false)] (cgt 2 [34, 35] (cot 3 (os_ge (d := 36) (t := tB (r2.2.2 == none)) (t' := tB true) (by kernel_rfl) (by rw [hs5])) (cgt 6 [37, 38, 39] (cot 7 (os_ge (d := 40) (t := tB (r2.2.1 == 0)) (t' := tB false) (by kernel_rfl) (by rw [hs13])) (cgt 23 [41, 42, 43, 44, 45, 46, 47, 48, 49, 50, 51, 52, 53, 54, 55, 0] .nil))))) ?_
    refine r_ret ?_
    obtain rfl := Option.some.inj h
    exact ⟨.inr rfl, _, _, .cons (.copy rfl rfl rfl) .nil, rfl, outs_of trivial⟩
  have h := cond_f hb h
  have hs14 := hb
  refine rr [(0, tB false)] (cgt 2 [34, 35] (cot 3 (os_ge (d := 36) (t := tB (r2.2.2 == none)) (t' := tB false) (by kernel_rfl) (by rw [hs14])) (cgt 23 [37, 38, 39, 40, 41, 42, 43, 44, 45, 46, 47, 48, 49, 50, 51, 52, 53, 54, 55, 0] .nil))) ?_
  refine r_ret ?_
  obtain rfl := Option.some.inj h
  exact ⟨.inr rfl, _, _, .cons (.copy rfl rfl rfl) .nil, rfl, outs_of trivial⟩
end Go.Proofs.YtmjnenjeckeklaaDoor.V
