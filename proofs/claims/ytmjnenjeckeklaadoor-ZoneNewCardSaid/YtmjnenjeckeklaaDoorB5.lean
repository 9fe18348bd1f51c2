import Derived.Test.YtmjnenjeckeklaaDoorB4
namespace Go.Proofs.YtmjnenjeckeklaaDoor.V
open Go Go.RowKit Go.Proofs Go.Proofs.YtmjnenjeckeklaaDoor.Q Go.Proofs.YtmjnenjeckeklaaDoorW.PrintWords
set_option linter.unusedVariables false
set_option linter.unusedSimpArgs false
set_option maxRecDepth 100000

set_option maxHeartbeats 4000000 in
def NewNo.f (k : Nat) (a0 : Int) : Option (Unit × (Option Int)) :=
  (bif decide (a0 < 1) then some ((), (some 1)) else (bif decide (a0 > 512) then some ((), (some 1)) else (add.f k (⟨a0, []⟩ : Sto) 0 a0).bind fun (r3 : Sto) => none))
set_option maxHeartbeats 4000000 in
theorem NewNo.ac (k : Nat) (a0 : Int) (r : Unit × (Option Int)) (h : NewNo.f k a0 = some r) : ACD Tryd.prog 28 29 [.c (.v (.int .i64 a0))] [none] [.c (.v (.pointer none)), .c (.err r.2)] := by
  unfold NewNo.f at h
  refine act_intro (fn := Tryd.f29) (pins := []) (rts := [2, 3]) Tryd.func29 rfl Tryd.ntmps29 rfl (Nat.le_of_ble_eq_true rfl) (pins_lt rfl) rfl (fun w R E vs hT => ?_)
  refine r_weak (of_weak (l := [(0, .u (.c (.v (.int .i64 a0))))]) (by kernel_rfl)) ?_
  refine r_seq ?_
  refine r_reg (l := [(0, .u (.c (.v (.int .i64 a0))))]) (cg_then (ds := [2, 3]) 2 rfl (by kernel_rfl) (.nil)) rfl (by kernel_rfl) ?_
  refine r_seq ?_
  refine r_seq ?_
  rcases Bool.eq_false_or_eq_true (decide (a0 < 1)) with hb | hb
  · have h := cond_t hb h
    have hs1 := hb
    refine r_reg (l := [(0, .u (.c (.v (.int .i64 a0)))), (10, .u (.c (.v (.bool true))))]) (cg_then (ds := [5, 6]) 2 rfl (by kernel_rfl) (co_then 3 rfl (os_ge (d := 7) (t := .u (.c (.v (.bool (decide (a0 < 1)))))) (t' := .u (.c (.v (.bool true)))) (by kernel_rfl) (by rw [hs1])) (cg_then (ds := [8, 9, 10]) 6 rfl (by kernel_rfl) (.nil)))) rfl (by kernel_rfl) ?_
    refine r_condT rfl rfl ?_
    refine r_seq ?_
    refine r_reg (l := [(2, .u (.c (.v (.pointer none)))), (3, .u (.c (.err (some 1))))]) (co_then 1 rfl (os_plain rfl rfl (s_iface (n := 1) rfl (errB_ok (by kernel_rfl)) rfl (by kernel_rfl) rfl (by kernel_rfl))) (cg_then (ds := [2, 3]) 3 rfl (by kernel_rfl) (.nil))) rfl (by kernel_rfl) ?_
    refine r_ret ?_
    obtain rfl := Option.some.inj h
    exact ⟨.inr rfl, _, _, .cons (.copy rfl rfl rfl) (.cons (.copy rfl rfl rfl) (.nil)), rfl, outs_of trivial⟩
  · have h := cond_f hb h
    have hs2 := hb
    refine r_reg (l := [(0, .u (.c (.v (.int .i64 a0)))), (10, .u (.c (.v (.bool (decide (a0 > 512))))))]) (cg_then (ds := [5, 6]) 2 rfl (by kernel_rfl) (co_then 3 rfl (os_ge (d := 7) (t := .u (.c (.v (.bool (decide (a0 < 1)))))) (t' := .u (.c (.v (.bool false)))) (by kernel_rfl) (by rw [hs2])) (cg_then (ds := [8, 9, 10]) 6 rfl (by kernel_rfl) (.nil)))) rfl (by kernel_rfl) ?_
    rcases Bool.eq_false_or_eq_true (decide (a0 > 512)) with hb | hb
    · have h := cond_t hb h
      refine r_condT hb rfl ?_
      refine r_seq ?_
      refine r_reg (l := [(2, .u (.c (.v (.pointer none)))), (3, .u (.c (.err (some 1))))]) (co_then 1 rfl (os_plain rfl rfl (s_iface (n := 1) rfl (errB_ok (by kernel_rfl)) rfl (by kernel_rfl) rfl (by kernel_rfl))) (cg_then (ds := [2, 3]) 3 rfl (by kernel_rfl) (.nil))) rfl (by kernel_rfl) ?_
      refine r_ret ?_
      obtain rfl := Option.some.inj h
      exact ⟨.inr rfl, _, _, .cons (.copy rfl rfl rfl) (.cons (.copy rfl rfl rfl) (.nil)), rfl, outs_of trivial⟩
    · have h := cond_f hb h
      refine r_condF hb rfl ?_
      refine r_skip ?_
      refine r_seq ?_
      refine r_reg (l := [(0, .u (.c (.v (.int .i64 a0)))), (4, .u (.c (.pt true [.v (.int .i64 a0), .sl true 2 ([].map eR)])))]) (cg_then (ds := [12]) 1 rfl (by kernel_rfl) (co_then 2 rfl (os_plain rfl rfl (s_build (us := [(0, .c (.v (.int .i64 a0)))]) (zs := [.v (.int .i64 0), .sl true 2 ([].map eR)]) (cs := [.v (.int .i64 a0), .sl true 2 ([].map eR)]) rfl build72 zero72 (.cons (.copy (by kernel_rfl) (by kernel_rfl) (by kernel_rfl)) (.nil)) (by kernel_rfl) rfl (by kernel_rfl))) (co_then 3 rfl (os_plain rfl rfl (s_box (u := .agg [.v (.int .i64 a0), .sl true 2 ([].map eR)]) rfl (.move (by kernel_rfl) (by kernel_rfl)) rfl (by kernel_rfl))) (co_then 4 rfl (os_plain rfl rfl (s_take (u := .c (.pt true [.v (.int .i64 a0), .sl true 2 ([].map eR)])) (.inr rfl) (.move (by kernel_rfl) rfl) rfl (by kernel_rfl))) (.nil))))) rfl (by kernel_rfl) ?_
      refine r_seq ?_
      obtain ⟨r3, hr3, h⟩ := bind_some h
      refine r_reg (l := [(4, .u (.c (storeC r3)))]) (cg_then (ds := [15, 16]) 2 rfl (by kernel_rfl) (co_then 3 rfl (os_plain rfl rfl (c_call (ACT.k hT (add.ac (h := hr3))) ⟨_, Tryd.func44, rfl, by kernel_rfl⟩ rfl (hand_root (r := 4) (c := .pt true [.v (.int .i64 a0), .sl true 2 ([].map eR)]) (by kernel_rfl) (by kernel_rfl) rfl (.rd (.copy (by kernel_rfl) rfl) (.rd (.copy (by kernel_rfl) rfl) (.nil)))) rfl (by kernel_rfl))) (.nil))) rfl (by kernel_rfl) ?_
      refine r_seq ?_
      refine r_reg (l := [(2, .u (.c (storeC r3))), (3, .u (.c (.err none)))]) (co_then 1 rfl (os_plain rfl rfl (s_take (u := .c (storeC r3)) (.inl rfl) (.move (by kernel_rfl) rfl) rfl (by kernel_rfl))) (co_then 2 rfl (os_plain rfl rfl (s_take (u := .c (storeC r3)) (.inr rfl) (.move (by kernel_rfl) rfl) rfl (by kernel_rfl))) (cg_then (ds := [3]) 3 rfl (by kernel_rfl) (.nil)))) rfl (by kernel_rfl) ?_
      refine r_ret ?_
      cases h
set_option maxHeartbeats 4000000 in
def ZNewNo.f (k : Nat) (a0 : Int) : Option (Unit × (Option Int)) :=
  (NewNo.f k a0).bind fun (r1 : Unit × (Option Int)) => (bif !(r1.2 == none) then some ((), r1.2) else none)
set_option maxHeartbeats 4000000 in
theorem ZNewNo.ac (k : Nat) (a0 : Int) (r : Unit × (Option Int)) (h : ZNewNo.f k a0 = some r) : ACD Tryd.prog 28 9 [.c (.v (.int .i64 a0))] [none] [.c (.v (.pointer none)), .c (.err r.2)] := by
  unfold ZNewNo.f at h
  refine act_intro (fn := Tryd.f9) (pins := []) (rts := [2, 3]) Tryd.func9 rfl Tryd.ntmps9 rfl (Nat.le_of_ble_eq_true rfl) (pins_lt rfl) rfl (fun w R E vs hT => ?_)
  refine r_weak (of_weak (l := [(0, .u (.c (.v (.int .i64 a0))))]) (by kernel_rfl)) ?_
  refine r_seq ?_
  refine r_reg (l := [(0, .u (.c (.v (.int .i64 a0))))]) (cg_then (ds := [2, 3]) 2 rfl (by kernel_rfl) (.nil)) rfl (by kernel_rfl) ?_
  refine r_seq ?_
  obtain ⟨r1, hr1, h⟩ := bind_some h
  refine r_reg (l := [(0, .u (.c (.v (.int .i64 a0)))), (4, .u (.c (.v (.pointer none)))), (5, .u (.c (.err r1.2)))]) (cg_then (ds := [10]) 1 rfl (by kernel_rfl) (co_then 2 rfl (os_plain rfl rfl (c_callQ (ACT.k hT (NewNo.ac (h := hr1))) ⟨_, Tryd.func29, rfl, by kernel_rfl⟩ rfl (.cons (.copy (by kernel_rfl) rfl) (.nil)) (by kernel_rfl))) (co_then 3 rfl (os_plain rfl rfl (s_moveT (us := [.c (.v (.pointer none)), .c (.err r1.2)]) (.inl rfl) (by kernel_rfl) rfl (by kernel_rfl))) (cg_then (ds := [12, 13, 4, 5]) 7 rfl (by kernel_rfl) (.nil))))) rfl (by kernel_rfl) ?_
  refine r_seq ?_
  refine r_seq ?_
  refine r_reg (l := [(0, .u (.c (.v (.int .i64 a0)))), (4, .u (.c (.v (.pointer none)))), (5, .u (.c (.err r1.2))), (15, .u (.c (.v (.bool (!(r1.2 == none))))))]) (cg_then (ds := [14, 15]) 2 rfl (by kernel_rfl) (.nil)) rfl (by kernel_rfl) ?_
  rcases Bool.eq_false_or_eq_true (!(r1.2 == none)) with hb | hb
  · have h := cond_t hb h
    refine r_condT hb rfl ?_
    refine r_seq ?_
    refine r_reg (l := [(2, .u (.c (.v (.pointer none)))), (3, .u (.c (.err r1.2)))]) (cg_then (ds := [16, 2, 3]) 3 rfl (by kernel_rfl) (.nil)) rfl (by kernel_rfl) ?_
    refine r_ret ?_
    obtain rfl := Option.some.inj h
    exact ⟨.inr rfl, _, _, .cons (.copy rfl rfl rfl) (.cons (.copy rfl rfl rfl) (.nil)), rfl, outs_of trivial⟩
  · have h := cond_f hb h
    refine r_condF hb rfl ?_
    refine r_skip ?_
    refine r_seq ?_
    cases h
set_option maxHeartbeats 4000000 in
def ZoneNewNo.f (k : Nat) (a0 : Int) : Option (Bool) :=
  (up.f k).bind fun (r1 : Bool) => (ZNewNo.f k a0).bind fun (r2 : Unit × (Option Int)) => (bif decide (a0 < 1) then (bif r1 then some (r2.2 == (some 1)) else some false) else (bif decide (a0 > 512) then (bif r1 then some (r2.2 == (some 1)) else some false) else (bif r1 then some false else some false)))
set_option maxHeartbeats 4000000 in
theorem ZoneNewNo.ac (k : Nat) (a0 : Int) (r : Bool) (h : ZoneNewNo.f k a0 = some r) : ACD Tryd.prog 28 3 [.c (.v (.int .i64 a0))] [none] [.c (.v (.bool r))] := by
  unfold ZoneNewNo.f at h
  refine act_intro (fn := Tryd.f3) (pins := []) (rts := [2]) Tryd.func3 rfl Tryd.ntmps3 rfl (Nat.le_of_ble_eq_true rfl) (pins_lt rfl) rfl (fun w R E vs hT => ?_)
  refine r_weak (of_weak (l := [(0, .u (.c (.v (.int .i64 a0))))]) (by kernel_rfl)) ?_
  refine r_seq ?_
  refine r_reg (l := [(0, .u (.c (.v (.int .i64 a0))))]) (cg_then (ds := [2]) 1 rfl (by kernel_rfl) (.nil)) rfl (by kernel_rfl) ?_
  refine r_seq ?_
  obtain ⟨r1, hr1, h⟩ := bind_some h
  refine r_reg (l := [(0, .u (.c (.v (.int .i64 a0)))), (3, .u (.c (.v (.bool r1))))]) (co_then 1 rfl (os_plain rfl rfl (c_callQ (ACT.k hT (up.ac (h := hr1))) ⟨_, Tryd.func8, rfl, by kernel_rfl⟩ rfl (.nil) (by kernel_rfl))) (cg_then (ds := [3]) 2 rfl (by kernel_rfl) (.nil))) rfl (by kernel_rfl) ?_
  refine r_seq ?_
  obtain ⟨r2, hr2, h⟩ := bind_some h
  refine r_reg (l := [(0, .u (.c (.v (.int .i64 a0)))), (3, .u (.c (.v (.bool r1)))), (4, .u (.c (.v (.pointer none)))), (5, .u (.c (.err r2.2)))]) (cg_then (ds := [8]) 1 rfl (by kernel_rfl) (co_then 2 rfl (os_plain rfl rfl (c_callQ (ACT.k hT (ZNewNo.ac (h := hr2))) ⟨_, Tryd.func9, rfl, by kernel_rfl⟩ rfl (.cons (.copy (by kernel_rfl) rfl) (.nil)) (by kernel_rfl))) (co_then 3 rfl (os_plain rfl rfl (s_moveT (us := [.c (.v (.pointer none)), .c (.err r2.2)]) (.inl rfl) (by kernel_rfl) rfl (by kernel_rfl))) (cg_then (ds := [10, 11, 4, 5]) 7 rfl (by kernel_rfl) (.nil))))) rfl (by kernel_rfl) ?_
  refine r_seq ?_
  refine r_seq ?_
  rcases Bool.eq_false_or_eq_true (decide (a0 < 1)) with hb | hb
  · have h := cond_t hb h
    have hs3 := hb
    refine r_reg (l := [(0, .u (.c (.v (.int .i64 a0)))), (3, .u (.c (.v (.bool r1)))), (4, .u (.c (.v (.pointer none)))), (5, .u (.c (.err r2.2))), (17, .u (.c (.v (.bool true))))]) (cg_then (ds := [12, 13]) 2 rfl (by kernel_rfl) (co_then 3 rfl (os_ge (d := 14) (t := .u (.c (.v (.bool (decide (a0 < 1)))))) (t' := .u (.c (.v (.bool true)))) (by kernel_rfl) (by rw [hs3])) (cg_then (ds := [15, 16, 17]) 6 rfl (by kernel_rfl) (.nil)))) rfl (by kernel_rfl) ?_
    refine r_condT rfl rfl ?_
    refine r_seq ?_
    rcases Bool.eq_false_or_eq_true (r1) with hb | hb
    · have h := cond_t hb h
      have hs4 := hb
      refine r_reg (l := [(2, .u (.c (.v (.bool (r2.2 == (some 1))))))]) (cg_then (ds := [18]) 1 rfl (by kernel_rfl) (co_then 2 rfl (os_ge (d := 19) (t := .u (.c (.v (.bool r1)))) (t' := .u (.c (.v (.bool true)))) (by kernel_rfl) (by rw [hs4])) (cg_then (ds := [20, 21, 22, 23, 24]) 7 rfl (by kernel_rfl) (co_then 8 rfl (os_gy rfl rfl rfl (by kernel_rfl) (s_iface (n := 1) rfl (errB_ok (by kernel_rfl)) rfl (by kernel_rfl) rfl (by kernel_rfl))) (cg_then (ds := [26, 27, 2]) 11 rfl (by kernel_rfl) (.nil)))))) rfl (by kernel_rfl) ?_
      refine r_ret ?_
      obtain rfl := Option.some.inj h
      exact ⟨.inr rfl, _, _, .cons (.copy rfl rfl rfl) (.nil), rfl, outs_of trivial⟩
    · have h := cond_f hb h
      have hs5 := hb
      refine r_reg (l := [(2, .u (.c (.v (.bool false))))]) (cg_then (ds := [18]) 1 rfl (by kernel_rfl) (co_then 2 rfl (os_ge (d := 19) (t := .u (.c (.v (.bool r1)))) (t' := .u (.c (.v (.bool false)))) (by kernel_rfl) (by rw [hs5])) (cg_then (ds := [20, 21, 22, 23, 24, 25, 26, 27, 2]) 11 rfl (by kernel_rfl) (.nil)))) rfl (by kernel_rfl) ?_
      refine r_ret ?_
      obtain rfl := Option.some.inj h
      exact ⟨.inr rfl, _, _, .cons (.copy rfl rfl rfl) (.nil), rfl, outs_of trivial⟩
  · have h := cond_f hb h
    have hs6 := hb
    refine r_reg (l := [(0, .u (.c (.v (.int .i64 a0)))), (3, .u (.c (.v (.bool r1)))), (4, .u (.c (.v (.pointer none)))), (5, .u (.c (.err r2.2))), (17, .u (.c (.v (.bool (decide (a0 > 512))))))]) (cg_then (ds := [12, 13]) 2 rfl (by kernel_rfl) (co_then 3 rfl (os_ge (d := 14) (t := .u (.c (.v (.bool (decide (a0 < 1)))))) (t' := .u (.c (.v (.bool false)))) (by kernel_rfl) (by rw [hs6])) (cg_then (ds := [15, 16, 17]) 6 rfl (by kernel_rfl) (.nil)))) rfl (by kernel_rfl) ?_
    rcases Bool.eq_false_or_eq_true (decide (a0 > 512)) with hb | hb
    · have h := cond_t hb h
      refine r_condT hb rfl ?_
      refine r_seq ?_
      rcases Bool.eq_false_or_eq_true (r1) with hb | hb
      · have h := cond_t hb h
        have hs7 := hb
        refine r_reg (l := [(2, .u (.c (.v (.bool (r2.2 == (some 1))))))]) (cg_then (ds := [18]) 1 rfl (by kernel_rfl) (co_then 2 rfl (os_ge (d := 19) (t := .u (.c (.v (.bool r1)))) (t' := .u (.c (.v (.bool true)))) (by kernel_rfl) (by rw [hs7])) (cg_then (ds := [20, 21, 22, 23, 24]) 7 rfl (by kernel_rfl) (co_then 8 rfl (os_gy rfl rfl rfl (by kernel_rfl) (s_iface (n := 1) rfl (errB_ok (by kernel_rfl)) rfl (by kernel_rfl) rfl (by kernel_rfl))) (cg_then (ds := [26, 27, 2]) 11 rfl (by kernel_rfl) (.nil)))))) rfl (by kernel_rfl) ?_
        refine r_ret ?_
        obtain rfl := Option.some.inj h
        exact ⟨.inr rfl, _, _, .cons (.copy rfl rfl rfl) (.nil), rfl, outs_of trivial⟩
      · have h := cond_f hb h
        have hs8 := hb
        refine r_reg (l := [(2, .u (.c (.v (.bool false))))]) (cg_then (ds := [18]) 1 rfl (by kernel_rfl) (co_then 2 rfl (os_ge (d := 19) (t := .u (.c (.v (.bool r1)))) (t' := .u (.c (.v (.bool false)))) (by kernel_rfl) (by rw [hs8])) (cg_then (ds := [20, 21, 22, 23, 24, 25, 26, 27, 2]) 11 rfl (by kernel_rfl) (.nil)))) rfl (by kernel_rfl) ?_
        refine r_ret ?_
        obtain rfl := Option.some.inj h
        exact ⟨.inr rfl, _, _, .cons (.copy rfl rfl rfl) (.nil), rfl, outs_of trivial⟩
    · have h := cond_f hb h
      refine r_condF hb rfl ?_
      refine r_skip ?_
      refine r_seq ?_
      rcases Bool.eq_false_or_eq_true (r1) with hb | hb
      · have h := cond_t hb h
        have hs9 := hb
        refine r_reg (l := [(2, .u (.c (.v (.bool false))))]) (cg_then (ds := [28]) 1 rfl (by kernel_rfl) (co_then 2 rfl (os_ge (d := 29) (t := .u (.c (.v (.bool r1)))) (t' := .u (.c (.v (.bool true)))) (by kernel_rfl) (by rw [hs9])) (cg_then (ds := [30, 31, 32, 33, 34, 35, 36, 37, 38, 39, 40, 41, 42, 2]) 16 rfl (by kernel_rfl) (.nil)))) rfl (by kernel_rfl) ?_
        refine r_ret ?_
        obtain rfl := Option.some.inj h
        exact ⟨.inr rfl, _, _, .cons (.copy rfl rfl rfl) (.nil), rfl, outs_of trivial⟩
      · have h := cond_f hb h
        have hs10 := hb
        refine r_reg (l := [(2, .u (.c (.v (.bool false))))]) (cg_then (ds := [28]) 1 rfl (by kernel_rfl) (co_then 2 rfl (os_ge (d := 29) (t := .u (.c (.v (.bool r1)))) (t' := .u (.c (.v (.bool false)))) (by kernel_rfl) (by rw [hs10])) (cg_then (ds := [30, 31, 32, 33, 34, 35, 36, 37, 38, 39, 40, 41, 42, 2]) 16 rfl (by kernel_rfl) (.nil)))) rfl (by kernel_rfl) ?_
        refine r_ret ?_
        obtain rfl := Option.some.inj h
        exact ⟨.inr rfl, _, _, .cons (.copy rfl rfl rfl) (.nil), rfl, outs_of trivial⟩
end Go.Proofs.YtmjnenjeckeklaaDoor.V
