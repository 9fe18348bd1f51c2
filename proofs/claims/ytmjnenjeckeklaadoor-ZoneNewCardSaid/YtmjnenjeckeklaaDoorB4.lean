import Derived.Test.YtmjnenjeckeklaaDoorB3
namespace Go.Proofs.YtmjnenjeckeklaaDoor.V
open Go Go.RowKit Go.Proofs Go.Proofs.YtmjnenjeckeklaaDoor.Q Go.Proofs.YtmjnenjeckeklaaDoorW.PrintWords
set_option linter.unusedVariables false
set_option linter.unusedSimpArgs false
set_option maxRecDepth 100000
structure D4 where
  w : Int
  s : Int
  o : Int
  a : Int
abbrev zD : D4 := ⟨0, 0, 0, 0⟩
set_option maxHeartbeats 4000000 in
def ZoneNew.f (k : Nat) (a0 : Int) : Option (Bool) :=
  (up.f k).bind fun (r1 : Bool) => (ZNew.f k a0).bind fun (r2 : Zon × (Option Int)) => (bif decide (a0 < 1) then (bif r1 then some false else some false) else (bif decide (a0 > 512) then (bif r1 then some false else some false) else (bif r1 then (bif r2.2 == none then (MNew.f k a0).bind fun (r11 : ZM) => (same.f k r2.1 r11).bind fun (r12 : Bool) => some r12 else some false) else some false)))
set_option maxHeartbeats 4000000 in
theorem ZoneNew.ac (k : Nat) (a0 : Int) (r : Bool) (h : ZoneNew.f k a0 = some r) : ACD Tryd.prog 28 3 [.c (.v (.int .i64 a0))] [none] [.c (.v (.bool r))] := by
  unfold ZoneNew.f at h
  refine act_intro (fn := Tryd.f3) (pins := []) (rts := [2]) Tryd.func3 rfl Tryd.ntmps3 rfl (Nat.le_of_ble_eq_true rfl) (pins_lt rfl) rfl (fun w R E vs hT => ?_)
  refine r_weak (of_weak (l := [(0, .u (.c (.v (.int .i64 a0))))]) (by kernel_rfl)) ?_
  refine r_seq ?_
  refine r_reg (l := [(0, .u (.c (.v (.int .i64 a0))))]) (cg_then (ds := [2]) 1 rfl (by kernel_rfl) (.nil)) rfl (by kernel_rfl) ?_
  refine r_seq ?_
  obtain ⟨r1, hr1, h⟩ := bind_some h
  refine r_reg (l := [(0, .u (.c (.v (.int .i64 a0)))), (3, .u (.c (.v (.bool r1))))]) (co_then 1 rfl (os_plain rfl rfl (c_callQ (ACT.k hT (up.ac (h := hr1))) ⟨_, Tryd.func8, rfl, by kernel_rfl⟩ rfl (.nil) (by kernel_rfl))) (cg_then (ds := [3]) 2 rfl (by kernel_rfl) (.nil))) rfl (by kernel_rfl) ?_
  refine r_seq ?_
  obtain ⟨r2, hr2, h⟩ := bind_some h
  refine r_reg (l := [(0, .u (.c (.v (.int .i64 a0)))), (3, .u (.c (.v (.bool r1)))), (4, .u (.c (zoneC r2.1))), (5, .u (.c (.err r2.2)))]) (cg_then (ds := [8]) 1 rfl (by kernel_rfl) (co_then 2 rfl (os_plain rfl rfl (c_callQ (ACT.k hT (ZNew.ac (h := hr2))) ⟨_, Tryd.func9, rfl, by kernel_rfl⟩ rfl (.cons (.copy (by kernel_rfl) rfl) (.nil)) (by kernel_rfl))) (co_then 3 rfl (os_plain rfl rfl (s_moveT (us := [.c (zoneC r2.1), .c (.err r2.2)]) (.inl rfl) (by kernel_rfl) rfl (by kernel_rfl))) (co_then 4 rfl (os_plain rfl rfl (s_xmove (us := [.c (zoneC r2.1), .c (.err r2.2)]) rfl (by kernel_rfl) rfl rfl (by kernel_rfl))) (cg_then (ds := [11]) 5 rfl (by kernel_rfl) (co_then 6 rfl (os_plain rfl rfl (s_take (u := .c (zoneC r2.1)) (.inr rfl) (.move (by kernel_rfl) rfl) rfl (by kernel_rfl))) (cg_then (ds := [5]) 7 rfl (by kernel_rfl) (.nil)))))))) rfl (by kernel_rfl) ?_
  refine r_seq ?_
  refine r_seq ?_
  rcases Bool.eq_false_or_eq_true (decide (a0 < 1)) with hb | hb
  · have h := cond_t hb h
    have hs3 := hb
    refine r_reg (l := [(0, .u (.c (.v (.int .i64 a0)))), (3, .u (.c (.v (.bool r1)))), (4, .u (.c (zoneC r2.1))), (5, .u (.c (.err r2.2))), (17, .u (.c (.v (.bool true))))]) (cg_then (ds := [12, 13]) 2 rfl (by kernel_rfl) (co_then 3 rfl (os_ge (d := 14) (t := .u (.c (.v (.bool (decide (a0 < 1)))))) (t' := .u (.c (.v (.bool true)))) (by kernel_rfl) (by rw [hs3])) (cg_then (ds := [15, 16, 17]) 6 rfl (by kernel_rfl) (.nil)))) rfl (by kernel_rfl) ?_
    refine r_condT rfl rfl ?_
    refine r_seq ?_
    rcases Bool.eq_false_or_eq_true (r1) with hb | hb
    · have h := cond_t hb h
      have hs4 := hb
      refine r_reg (l := [(2, .u (.c (.v (.bool false))))]) (cg_then (ds := [18]) 1 rfl (by kernel_rfl) (co_then 2 rfl (os_ge (d := 19) (t := .u (.c (.v (.bool r1)))) (t' := .u (.c (.v (.bool true)))) (by kernel_rfl) (by rw [hs4])) (co_then 3 rfl (os_gy rfl rfl rfl (by kernel_rfl) (s_take (u := .c (zoneC r2.1)) (.inl rfl) (.move (by kernel_rfl) rfl) rfl (by kernel_rfl))) (cg_then (ds := [21, 22, 23, 24, 25, 26, 27, 2]) 11 rfl (by kernel_rfl) (.nil))))) rfl (by kernel_rfl) ?_
      refine r_ret ?_
      obtain rfl := Option.some.inj h
      exact ⟨.inr rfl, _, _, .cons (.copy rfl rfl rfl) (.nil), rfl, outs_of trivial⟩
    · have h := cond_f hb h
      have hs5 := hb
      refine r_reg (l := [(2, .u (.c (.v (.bool false))))]) (cg_then (ds := [18]) 1 rfl (by kernel_rfl) (co_then 2 rfl (os_ge (d := 19) (t := .u (.c (.v (.bool r1)))) (t' := .u (.c (.v (.bool false)))) (by kernel_rfl) (by rw [hs5])) (cg_then (ds := [20, 21, 22, 23, 24, 25, 26, 27, 2]) 11 rfl (by kernel_rfl) (.nil)))) rfl (by kernel_rfl) ?_
      refine r_ret ?_
      obtain rfl := Option.some.inj h
      exact ⟨.inr rfl, _, _, .cons (.copy rfl rfl rfl) (.nil), rfl, outs_of trivial⟩
  · have h := cond_f hb h
    have hs6 := hb
    refine r_reg (l := [(0, .u (.c (.v (.int .i64 a0)))), (3, .u (.c (.v (.bool r1)))), (4, .u (.c (zoneC r2.1))), (5, .u (.c (.err r2.2))), (17, .u (.c (.v (.bool (decide (a0 > 512))))))]) (cg_then (ds := [12, 13]) 2 rfl (by kernel_rfl) (co_then 3 rfl (os_ge (d := 14) (t := .u (.c (.v (.bool (decide (a0 < 1)))))) (t' := .u (.c (.v (.bool false)))) (by kernel_rfl) (by rw [hs6])) (cg_then (ds := [15, 16, 17]) 6 rfl (by kernel_rfl) (.nil)))) rfl (by kernel_rfl) ?_
    rcases Bool.eq_false_or_eq_true (decide (a0 > 512)) with hb | hb
    · have h := cond_t hb h
      refine r_condT hb rfl ?_
      refine r_seq ?_
      rcases Bool.eq_false_or_eq_true (r1) with hb | hb
      · have h := cond_t hb h
        have hs7 := hb
        refine r_reg (l := [(2, .u (.c (.v (.bool false))))]) (cg_then (ds := [18]) 1 rfl (by kernel_rfl) (co_then 2 rfl (os_ge (d := 19) (t := .u (.c (.v (.bool r1)))) (t' := .u (.c (.v (.bool true)))) (by kernel_rfl) (by rw [hs7])) (co_then 3 rfl (os_gy rfl rfl rfl (by kernel_rfl) (s_take (u := .c (zoneC r2.1)) (.inl rfl) (.move (by kernel_rfl) rfl) rfl (by kernel_rfl))) (cg_then (ds := [21, 22, 23, 24, 25, 26, 27, 2]) 11 rfl (by kernel_rfl) (.nil))))) rfl (by kernel_rfl) ?_
        refine r_ret ?_
        obtain rfl := Option.some.inj h
        exact ⟨.inr rfl, _, _, .cons (.copy rfl rfl rfl) (.nil), rfl, outs_of trivial⟩
      · have h := cond_f hb h
        have hs8 := hb
        refine r_reg (l := [(2, .u (.c (.v (.bool false))))]) (cg_then (ds := [18]) 1 rfl (by kernel_rfl) (co_then 2 rfl (os_ge (d := 19) (t := .u (.c (.v (.bool r1)))) (t' := .u (.c (.v (.bool false)))) (by kernel_rfl) (by rw [hs8])) (cg_then (ds := [20, 21, 22, 23, 24, 25, 26, 27, 2]) 11 rfl (by kernel_rfl) (.nil)))) rfl (by kernel_rfl) ?_
        refine r_ret ?_
        obtain rfl := Option.some.inj h
        exact ⟨.inr rfl, _, _, .cons (.copy rfl rfl rfl) (.nil), rfl, outs_of trivial⟩
    · have h := cond_f hb h
      refine r_condF hb rfl ?_
      refine r_skip ?_
      refine r_seq ?_
      rcases Bool.eq_false_or_eq_true (r1) with hb | hb
      · have h := cond_t hb h
        have hs9 := hb
        rcases Bool.eq_false_or_eq_true (r2.2 == none) with hb | hb
        · have h := cond_t hb h
          have hs10 := hb
          obtain ⟨r11, hr11, h⟩ := bind_some h
          obtain ⟨r12, hr12, h⟩ := bind_some h
          refine r_reg (l := [(2, .u (.c (.v (.bool r12))))]) (cg_then (ds := [28]) 1 rfl (by kernel_rfl) (co_then 2 rfl (os_ge (d := 29) (t := .u (.c (.v (.bool r1)))) (t' := .u (.c (.v (.bool true)))) (by kernel_rfl) (by rw [hs9])) (cg_then (ds := [30, 31, 32, 33, 34, 35, 36]) 9 rfl (by kernel_rfl) (co_then 10 rfl (os_ge (d := 37) (t := .u (.c (.v (.bool (r2.2 == none))))) (t' := .u (.c (.v (.bool true)))) (by kernel_rfl) (by rw [hs10])) (co_then 11 rfl (os_gy rfl rfl rfl (by kernel_rfl) (s_take (u := .c (zoneC r2.1)) (.inl rfl) (.move (by kernel_rfl) rfl) rfl (by kernel_rfl))) (cg_then (ds := [39]) 12 rfl (by kernel_rfl) (co_then 13 rfl (os_gy rfl rfl rfl (by kernel_rfl) (c_callQ (AC.k (MNew.ac (h := hr11))) ⟨_, Tryd.func11, rfl, by kernel_rfl⟩ rfl (.cons (.copy (by kernel_rfl) rfl) (.nil)) (by kernel_rfl))) (co_then 14 rfl (os_gy rfl rfl rfl (by kernel_rfl) (c_callQL (res := [.c (.v (.bool r12))]) (AC.k (same.ac (h := hr12))) ⟨_, Tryd.func10, rfl, by kernel_rfl⟩ rfl (.cons (.lend (r := 38) (pl := none) (c := zoneC r2.1) (y := zoneC r2.1) (.ptr (own := true) (cs := [storeC r2.1.s, .v (.int .i64 r2.1.n), .sl true 1 (r2.1.t.map eI), .sl true 1 (r2.1.c.map eB)]) (by kernel_rfl) (by kernel_rfl)) (by kernel_rfl) (by kernel_rfl) (show _ ∧ _ ∧ _ ∧ _ ∧ True from ⟨(show _ ∧ _ ∧ True from ⟨trivial, (copy_map eR_copy), trivial⟩), trivial, (copy_map eI_copy), (copy_map eB_copy), trivial⟩) rfl) (.cons (.lend (r := 40) (pl := none) (c := zmC r11) (y := zmC r11) (.ptr (own := true) (cs := [.sl true 1 (r11.s.map eB), .sl true 1 (r11.t.map eI), .sl true 1 (r11.c.map eB)]) (by kernel_rfl) (by kernel_rfl)) (by kernel_rfl) (by kernel_rfl) (show _ ∧ _ ∧ _ ∧ True from ⟨(copy_map eB_copy), (copy_map eI_copy), (copy_map eB_copy), trivial⟩) rfl) (.nil))) (⟨trivial, trivial⟩) (by kernel_rfl))) (cg_then (ds := [42, 2]) 16 rfl (by kernel_rfl) (.nil)))))))))) rfl (by kernel_rfl) ?_
          refine r_ret ?_
          obtain rfl := Option.some.inj h
          exact ⟨.inr rfl, _, _, .cons (.copy rfl rfl rfl) (.nil), rfl, outs_of trivial⟩
        · have h := cond_f hb h
          have hs13 := hb
          refine r_reg (l := [(2, .u (.c (.v (.bool false))))]) (cg_then (ds := [28]) 1 rfl (by kernel_rfl) (co_then 2 rfl (os_ge (d := 29) (t := .u (.c (.v (.bool r1)))) (t' := .u (.c (.v (.bool true)))) (by kernel_rfl) (by rw [hs9])) (cg_then (ds := [30, 31, 32, 33, 34, 35, 36]) 9 rfl (by kernel_rfl) (co_then 10 rfl (os_ge (d := 37) (t := .u (.c (.v (.bool (r2.2 == none))))) (t' := .u (.c (.v (.bool false)))) (by kernel_rfl) (by rw [hs13])) (cg_then (ds := [38, 39, 40, 41, 42, 2]) 16 rfl (by kernel_rfl) (.nil)))))) rfl (by kernel_rfl) ?_
          refine r_ret ?_
          obtain rfl := Option.some.inj h
          exact ⟨.inr rfl, _, _, .cons (.copy rfl rfl rfl) (.nil), rfl, outs_of trivial⟩
      · have h := cond_f hb h
        have hs14 := hb
        refine r_reg (l := [(2, .u (.c (.v (.bool false))))]) (cg_then (ds := [28]) 1 rfl (by kernel_rfl) (co_then 2 rfl (os_ge (d := 29) (t := .u (.c (.v (.bool r1)))) (t' := .u (.c (.v (.bool false)))) (by kernel_rfl) (by rw [hs14])) (cg_then (ds := [30, 31, 32, 33, 34, 35, 36, 37, 38, 39, 40, 41, 42, 2]) 16 rfl (by kernel_rfl) (.nil)))) rfl (by kernel_rfl) ?_
        refine r_ret ?_
        obtain rfl := Option.some.inj h
        exact ⟨.inr rfl, _, _, .cons (.copy rfl rfl rfl) (.nil), rfl, outs_of trivial⟩
end Go.Proofs.YtmjnenjeckeklaaDoor.V
