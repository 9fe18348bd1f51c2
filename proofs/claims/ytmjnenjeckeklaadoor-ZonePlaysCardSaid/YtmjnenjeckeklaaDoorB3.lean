import Derived.Test.YtmjnenjeckeklaaDoorB2
namespace Go.Proofs.YtmjnenjeckeklaaDoor.V
open Go Go.RowKit Go.Proofs Go.Proofs.YtmjnenjeckeklaaDoor.Q Go.Proofs.YtmjnenjeckeklaaDoorW.PrintWords
open Go.IntKind (i64)
set_option linter.unusedVariables false
set_option linter.unusedSimpArgs false
set_option maxRecDepth 100000
structure ZM where
  s : List Bool
  t : List Int
  c : List Bool
def zmC (x : ZM) : C := .pt true [.sl true 1 (x.s.map eB), .sl true 1 (x.t.map eI), .sl true 1 (x.c.map eB)]
theorem build55 : BuildT Tryd.prog 55 [(0, 1), (1, 1), (2, 1)] := buildB_ok (by kernel_rfl)
theorem zero55 : ZeroT Tryd.prog 55 [.sl true 1 ([].map eB), .sl true 1 ([].map eI), .sl true 1 ([].map eB)] := zeroB_ok (vs := [(.slice none 0 0), (.slice none 0 0), (.slice none 0 0)]) (by kernel_rfl) (fun _ _ _ => .cons (F := []) (.nil _ _) (.cons (F := []) (.nil _ _) (.cons (F := []) (.nil _ _) (.nil))))
set_option maxHeartbeats 4000000 in
def FreeR.f (k : Nat) (a0 : Sto) : Option ((List Blk)) :=
  (Clone.f k a0.l).bind fun (r1 : (List Blk)) => some r1
set_option maxHeartbeats 4000000 in
theorem FreeR.ac (k : Nat) (a0 : Sto) (r : (List Blk)) (h : FreeR.f k a0 = some r) : AC Tryd.prog 28 34 [.c (.pt false [.v (.int .i64 a0.n), .sl false 2 (a0.l.map eR)])] [none] [.c (.sl true 2 (r.map eR))] := by
  unfold FreeR.f at h
  refine ac_intro (fn := Tryd.f34) (pins := []) (rts := [2]) Tryd.func34 rfl Tryd.ntmps34 rfl (Nat.le_of_ble_eq_true rfl) (pins_lt rfl) rfl (fun w R E vs => ?_)
  refine r_weak (of_weak (l := [(0, .u (.c (.pt false [.v (.int .i64 a0.n), .sl false 2 (a0.l.map eR)])))]) (by kernel_rfl)) ?_
  refine r_seq ?_
  refine rr [(0, .u (.c (.pt false [.v (.int .i64 a0.n), .sl false 2 (a0.l.map eR)])))] (cot 1 (os_plain rfl rfl (s_take (.inr rfl) (.sl 2) rfl (by kernel_rfl))) .nil) ?_
  refine r_seq ?_
  obtain ⟨r1, hr1, h⟩ := bind_some h
  refine rr [(2, .u (.c (.sl true 2 (r1.map eR))))] (cot 1 (os_plain rfl rfl (s_movRO (cs := [.v (.int .i64 a0.n), .sl false 2 (a0.l.map eR)]) rfl (by kernel_rfl) rfl (by kernel_rfl) rfl)) (cgt 4 [4, 5, 6] (cot 5 (os_plain rfl rfl (c_callQ (AC.k (Clone.ac (h := hr1))) ⟨_, Tryd.func48, rfl, by kernel_rfl⟩ rfl (.cons (.copy (by kernel_rfl) rfl) .nil) (by kernel_rfl))) (cot 6 (os_plain rfl rfl (s_take (u := .c (.sl true 2 (r1.map eR))) (.inr rfl) (.move (by kernel_rfl) rfl) rfl (by kernel_rfl))) .nil)))) ?_
  refine r_ret ?_
  obtain rfl := Option.some.inj h
  exact ⟨.inr rfl, _, _, .cons (.move rfl rfl) .nil, rfl, outs_of trivial⟩
set_option maxHeartbeats 4000000 in
def innR.f (k : Nat) (a0 : Sto) (a1 : Int) : Option (Int) :=
  (IndexFunc.f k a0.l (fun (x0 : Blk) => inL.f x0 a1)).bind fun (r1 : Int) => some r1
set_option maxHeartbeats 4000000 in
theorem innR.ac (k : Nat) (a0 : Sto) (a1 : Int) (r : Int) (h : innR.f k a0 a1 = some r) : AC Tryd.prog 28 46 [.c (.pt false [.v (.int .i64 a0.n), .sl false 2 (a0.l.map eR)]), .c (.v (.int .i64 a1))] [none, none] [.c (.v (.int .i64 r))] := by
  unfold innR.f at h
  refine ac_intro (fn := Tryd.f46) (pins := []) (rts := [4]) Tryd.func46 rfl Tryd.ntmps46 rfl (Nat.le_of_ble_eq_true rfl) (pins_lt rfl) rfl (fun w R E vs => ?_)
  refine r_weak (of_weak (l := [(0, .u (.c (.pt false [.v (.int .i64 a0.n), .sl false 2 (a0.l.map eR)]))), (1, tI a1)]) (by kernel_rfl)) ?_
  refine r_seq ?_
  refine rr [(0, .u (.c (.pt false [.v (.int .i64 a0.n), .sl false 2 (a0.l.map eR)]))), (3, .u (.c (.pt true [.v (.int .i64 a1)])))] (cot 1 (os_plain rfl rfl (s_box (u := .c (.v (.int .i64 a1))) rfl (.copy (by kernel_rfl) (by kernel_rfl) (by kernel_rfl)) rfl (by kernel_rfl))) (cgt 2 [4] .nil)) ?_
  refine r_seq ?_
  obtain ⟨r1, hr1, h⟩ := bind_some h
  refine rr [(4, tI r1)] (cot 1 (os_plain rfl rfl (s_movRO (cs := [.v (.int .i64 a0.n), .sl false 2 (a0.l.map eR)]) rfl (by kernel_rfl) rfl (by kernel_rfl) rfl)) (cgt 4 [6, 7, 8] (cot 5 (os_plain rfl rfl (s_makeFunc (is := [3]) rfl rfl rfl (by kernel_rfl) (by kernel_rfl))) (cot 6 (os_plain rfl rfl (c_callQL (res := [.c (.v (.int .i64 r1))]) (AC.k (IndexFunc.ac (a1F := ⟨55, [.pt false [.v (.int .i64 a1)]], ⟨_, Tryd.func55, rfl, by kernel_rfl⟩, fun x0 r h => inL.ac x0 a1 r h⟩) (h := hr1))) ⟨_, Tryd.func54, rfl, by kernel_rfl⟩ rfl (.cons (.copy (.copy (by kernel_rfl) rfl)) (.cons (.fn (f := 55) (caps := [.ref 3]) (by kernel_rfl) (.ref (r := 3) (own := true) (ds := [.v (.int .i64 a1)]) (by kernel_rfl) (by simp [flatL, flatC]) rfl .nil)) .nil)) (⟨trivial, trivial⟩) (by kernel_rfl))) (cgt 7 [4] .nil))))) ?_
  refine r_ret ?_
  obtain rfl := Option.some.inj h
  exact ⟨.inr rfl, _, _, .cons (.copy rfl rfl rfl) .nil, rfl, outs_of trivial⟩
set_option maxHeartbeats 4000000 in
def IsFreeR.f (k : Nat) (a0 : Sto) (a1 : Int) : Option (Bool) :=
  (innR.f k a0 a1).bind fun (r1 : Int) => some (decide (r1 ≥ 0))
set_option maxHeartbeats 4000000 in
theorem IsFreeR.ac (k : Nat) (a0 : Sto) (a1 : Int) (r : Bool) (h : IsFreeR.f k a0 a1 = some r) : AC Tryd.prog 28 40 [.c (.pt false [.v (.int .i64 a0.n), .sl false 2 (a0.l.map eR)]), .c (.v (.int .i64 a1))] [none, none] [.c (.v (.bool r))] := by
  unfold IsFreeR.f at h
  refine ac_intro (fn := Tryd.f40) (pins := []) (rts := [4]) Tryd.func40 rfl Tryd.ntmps40 rfl (Nat.le_of_ble_eq_true rfl) (pins_lt rfl) rfl (fun w R E vs => ?_)
  refine r_weak (of_weak (l := [(0, .u (.c (.pt false [.v (.int .i64 a0.n), .sl false 2 (a0.l.map eR)]))), (1, tI a1)]) (by kernel_rfl)) ?_
  refine r_seq ?_
  refine rr [(0, .u (.c (.pt false [.v (.int .i64 a0.n), .sl false 2 (a0.l.map eR)]))), (1, tI a1)] (cgt 1 [4] .nil) ?_
  refine r_seq ?_
  obtain ⟨r1, hr1, h⟩ := bind_some h
  refine rr [(4, tB (decide (r1 ≥ 0)))] (cgt 2 [5, 6] (cot 3 (os_plain rfl rfl (c_callQ (AC.k (innR.ac (h := hr1))) ⟨_, Tryd.func46, rfl, by kernel_rfl⟩ rfl (.cons (.copy (by kernel_rfl) rfl) (.cons (.copy (by kernel_rfl) rfl) .nil)) (by kernel_rfl))) (cgt 5 [8, 4] .nil))) ?_
  refine r_ret ?_
  obtain rfl := Option.some.inj h
  exact ⟨.inr rfl, _, _, .cons (.copy rfl rfl rfl) .nil, rfl, outs_of trivial⟩
set_option maxHeartbeats 4000000 in
def hasR.f (k : Nat) (a0 : Zon) (a1 : Int) : Option (Bool) :=
  (bif decide (a1 ≥ 0) then some (decide (a1 < (a0.t.length : Int))) else some false)
set_option maxHeartbeats 4000000 in
theorem hasR.ac (k : Nat) (a0 : Zon) (a1 : Int) (r : Bool) (h : hasR.f k a0 a1 = some r) : AC Tryd.prog 28 38 [.c (.pt false [.pt false [.v (.int .i64 a0.s.n), .sl false 2 (a0.s.l.map eR)], .v (.int .i64 a0.n), .sl false 1 (a0.t.map eI), .sl false 1 (a0.c.map eB)]), .c (.v (.int .i64 a1))] [none, none] [.c (.v (.bool r))] := by
  unfold hasR.f at h
  refine ac_intro (fn := Tryd.f38) (pins := []) (rts := [4]) Tryd.func38 rfl Tryd.ntmps38 rfl (Nat.le_of_ble_eq_true rfl) (pins_lt rfl) rfl (fun w R E vs => ?_)
  refine r_weak (of_weak (l := [(0, .u (.c (.pt false [.pt false [.v (.int .i64 a0.s.n), .sl false 2 (a0.s.l.map eR)], .v (.int .i64 a0.n), .sl false 1 (a0.t.map eI), .sl false 1 (a0.c.map eB)]))), (1, tI a1)]) (by kernel_rfl)) ?_
  refine r_seq ?_
  refine rr [(0, .u (.c (.pt false [.pt false [.v (.int .i64 a0.s.n), .sl false 2 (a0.s.l.map eR)], .v (.int .i64 a0.n), .sl false 1 (a0.t.map eI), .sl false 1 (a0.c.map eB)]))), (1, tI a1)] (cgt 1 [4] .nil) ?_
  refine r_seq ?_
  rcases Bool.eq_false_or_eq_true (decide (a1 ≥ 0)) with hb | hb
  · have h := cond_t hb h
    have hs1 := hb
    refine rr [(4, tB (decide (a1 < (a0.t.length : Int))))] (cgt 2 [5, 6] (cot 3 (os_ge (d := 7) (t := tB (decide (a1 ≥ 0))) (t' := tB true) (by kernel_rfl) (by rw [hs1])) (cgt 4 [8] (cot 5 (os_gy rfl rfl rfl (by kernel_rfl) (s_movRO (cs := [.pt false [.v (.int .i64 a0.s.n), .sl false 2 (a0.s.l.map eR)], .v (.int .i64 a0.n), .sl false 1 (a0.t.map eI), .sl false 1 (a0.c.map eB)]) rfl (by kernel_rfl) rfl (by kernel_rfl) rfl)) (cgt 8 [10, 11, 12] (cot 9 (os_to (os_gy rfl rfl rfl (by kernel_rfl) (s_lenU (own := false) (sz := 1) (rows := (a0.t.map eI)) rfl sl48 (by kernel_rfl) rfl (by kernel_rfl))) (t' := tI (a0.t.length : Int)) (by rw [List.length_map])) (cgt 12 [14, 15, 4] .nil))))))) ?_
    refine r_ret ?_
    obtain rfl := Option.some.inj h
    exact ⟨.inr rfl, _, _, .cons (.copy rfl rfl rfl) .nil, rfl, outs_of trivial⟩
  have h := cond_f hb h
  have hs2 := hb
  refine rr [(4, tB false)] (cgt 2 [5, 6] (cot 3 (os_ge (d := 7) (t := tB (decide (a1 ≥ 0))) (t' := tB false) (by kernel_rfl) (by rw [hs2])) (cgt 12 [8, 9, 10, 11, 12, 13, 14, 15, 4] .nil))) ?_
  refine r_ret ?_
  obtain rfl := Option.some.inj h
  exact ⟨.inr rfl, _, _, .cons (.copy rfl rfl rfl) .nil, rfl, outs_of trivial⟩
set_option maxHeartbeats 4000000 in
def ZSortR.f (k : Nat) (a0 : Zon) (a1 : Int) : Option (Int × (Option Int)) :=
  (hasR.f k a0 a1).bind fun (r1 : Bool) => (bif !r1 then some (0, (some 1)) else (bif decide (0 ≤ a1) && decide (a1 < (a0.t.length : Int)) then some ((a0.t.getD a1.toNat (0 : Int)), none) else none))
set_option maxHeartbeats 4000000 in
theorem ZSortR.ac (k : Nat) (a0 : Zon) (a1 : Int) (r : Int × (Option Int)) (h : ZSortR.f k a0 a1 = some r) : AC Tryd.prog 28 19 [.c (.pt false [.pt false [.v (.int .i64 a0.s.n), .sl false 2 (a0.s.l.map eR)], .v (.int .i64 a0.n), .sl false 1 (a0.t.map eI), .sl false 1 (a0.c.map eB)]), .c (.v (.int .i64 a1))] [none, none] [.c (.v (.int .i64 r.1)), .c (.err r.2)] := by
  unfold ZSortR.f at h
  refine ac_intro (fn := Tryd.f19) (pins := []) (rts := [4, 5]) Tryd.func19 rfl Tryd.ntmps19 rfl (Nat.le_of_ble_eq_true rfl) (pins_lt rfl) rfl (fun w R E vs => ?_)
  refine r_weak (of_weak (l := [(0, .u (.c (.pt false [.pt false [.v (.int .i64 a0.s.n), .sl false 2 (a0.s.l.map eR)], .v (.int .i64 a0.n), .sl false 1 (a0.t.map eI), .sl false 1 (a0.c.map eB)]))), (1, tI a1)]) (by kernel_rfl)) ?_
  refine r_seq ?_
  refine rr [(0, .u (.c (.pt false [.pt false [.v (.int .i64 a0.s.n), .sl false 2 (a0.s.l.map eR)], .v (.int .i64 a0.n), .sl false 1 (a0.t.map eI), .sl false 1 (a0.c.map eB)]))), (1, tI a1)] (cgt 2 [4, 5] .nil) ?_
  refine r_seq ?_
  refine r_seq ?_
  obtain ⟨r1, hr1, h⟩ := bind_some h
  refine rr [(0, .u (.c (.pt false [.pt false [.v (.int .i64 a0.s.n), .sl false 2 (a0.s.l.map eR)], .v (.int .i64 a0.n), .sl false 1 (a0.t.map eI), .sl false 1 (a0.c.map eB)]))), (1, tI a1), (9, tB (!r1))] (cgt 2 [6, 7] (cot 3 (os_plain rfl rfl (c_callQ (AC.k (hasR.ac (h := hr1))) ⟨_, Tryd.func38, rfl, by kernel_rfl⟩ rfl (.cons (.copy (by kernel_rfl) rfl) (.cons (.copy (by kernel_rfl) rfl) .nil)) (by kernel_rfl))) (cgt 4 [9] .nil))) ?_
  rcases Bool.eq_false_or_eq_true (!r1) with hb | hb
  · have h := cond_t hb h
    refine r_condT hb rfl ?_
    refine r_seq ?_
    refine rr [(4, tI 0), (5, .u (.c (.err (some 1))))] (cot 1 (os_plain rfl rfl (s_iface (n := 1) rfl (errB_ok (by kernel_rfl)) rfl (by kernel_rfl) rfl (by kernel_rfl))) (cgt 3 [4, 5] .nil)) ?_
    refine r_ret ?_
    obtain rfl := Option.some.inj h
    exact ⟨.inr rfl, _, _, .cons (.copy rfl rfl rfl) (.cons (.copy rfl rfl rfl) .nil), rfl, outs_of trivial⟩
  have h := cond_f hb h
  refine r_condF hb rfl ?_
  refine r_skip ?_
  refine r_seq ?_
  obtain ⟨hg2, h⟩ := guard_some h
  simp only [Bool.and_eq_true, decide_eq_true_eq] at hg2
  refine rr [(4, tI (a0.t.getD a1.toNat (0 : Int))), (5, .u (.c (.err none)))] (cot 1 (os_plain rfl rfl (s_movRO (cs := [.pt false [.v (.int .i64 a0.s.n), .sl false 2 (a0.s.l.map eR)], .v (.int .i64 a0.n), .sl false 1 (a0.t.map eI), .sl false 1 (a0.c.map eB)]) rfl (by kernel_rfl) rfl (by kernel_rfl) rfl)) (cgt 5 [12, 13, 14, 15] (cot 6 (os_plain rfl rfl (s_indexU (own := false) (sz := 1) (rows := (a0.t.map eI)) (e := a1) (ik := .i64) rfl sl48 (by kernel_rfl) (.tmp (by kernel_rfl)) hg2.1 (by rw [List.length_map]; exact hg2.2) rfl (by kernel_rfl) (by kernel_rfl))) (cot 7 (os_plain rfl rfl (s_load1 (x := .v (.int .i64 (a0.t.getD a1.toNat (0 : Int)))) (r := 14) (off := 0) (s := .i a1.toNat 1) (p := []) (c := .sl false 1 (a0.t.map eI)) (cs := eI (a0.t.getD a1.toNat (0 : Int))) rfl (oneB_ok (by kernel_rfl)) (by kernel_rfl) (by kernel_rfl) (getP_map (0 : Int) (by have := hg2; omega)) rfl rfl rfl (by kernel_rfl))) (cgt 9 [4, 5] .nil))))) ?_
  refine r_ret ?_
  obtain rfl := Option.some.inj h
  exact ⟨.inr rfl, _, _, .cons (.copy rfl rfl rfl) (.cons (.copy rfl rfl rfl) .nil), rfl, outs_of trivial⟩
set_option maxHeartbeats 4000000 in
def ZFreeR.f (k : Nat) (a0 : Zon) : Option ((List Blk)) :=
  (FreeR.f k a0.s).bind fun (r1 : (List Blk)) => some r1
set_option maxHeartbeats 4000000 in
theorem ZFreeR.ac (k : Nat) (a0 : Zon) (r : (List Blk)) (h : ZFreeR.f k a0 = some r) : AC Tryd.prog 28 14 [.c (.pt false [.pt false [.v (.int .i64 a0.s.n), .sl false 2 (a0.s.l.map eR)], .v (.int .i64 a0.n), .sl false 1 (a0.t.map eI), .sl false 1 (a0.c.map eB)])] [none] [.c (.sl true 2 (r.map eR))] := by
  unfold ZFreeR.f at h
  refine ac_intro (fn := Tryd.f14) (pins := []) (rts := [2]) Tryd.func14 rfl Tryd.ntmps14 rfl (Nat.le_of_ble_eq_true rfl) (pins_lt rfl) rfl (fun w R E vs => ?_)
  refine r_weak (of_weak (l := [(0, .u (.c (.pt false [.pt false [.v (.int .i64 a0.s.n), .sl false 2 (a0.s.l.map eR)], .v (.int .i64 a0.n), .sl false 1 (a0.t.map eI), .sl false 1 (a0.c.map eB)])))]) (by kernel_rfl)) ?_
  refine r_seq ?_
  refine rr [(0, .u (.c (.pt false [.pt false [.v (.int .i64 a0.s.n), .sl false 2 (a0.s.l.map eR)], .v (.int .i64 a0.n), .sl false 1 (a0.t.map eI), .sl false 1 (a0.c.map eB)])))] (cot 1 (os_plain rfl rfl (s_take (.inr rfl) (.sl 2) rfl (by kernel_rfl))) .nil) ?_
  refine r_seq ?_
  obtain ⟨r1, hr1, h⟩ := bind_some h
  refine rr [(2, .u (.c (.sl true 2 (r1.map eR))))] (cot 1 (os_plain rfl rfl (s_movRO (cs := [.pt false [.v (.int .i64 a0.s.n), .sl false 2 (a0.s.l.map eR)], .v (.int .i64 a0.n), .sl false 1 (a0.t.map eI), .sl false 1 (a0.c.map eB)]) rfl (by kernel_rfl) rfl (by kernel_rfl) rfl)) (cgt 4 [4, 5, 6] (cot 5 (os_plain rfl rfl (c_callQ (AC.k (FreeR.ac (h := hr1))) ⟨_, Tryd.func34, rfl, by kernel_rfl⟩ rfl (.cons (.copy (by kernel_rfl) rfl) .nil) (by kernel_rfl))) (cot 6 (os_plain rfl rfl (s_take (u := .c (.sl true 2 (r1.map eR))) (.inr rfl) (.move (by kernel_rfl) rfl) rfl (by kernel_rfl))) .nil)))) ?_
  refine r_ret ?_
  obtain rfl := Option.some.inj h
  exact ⟨.inr rfl, _, _, .cons (.move rfl rfl) .nil, rfl, outs_of trivial⟩
set_option maxHeartbeats 4000000 in
def ZGroupsR.f (k : Nat) (a0 : Zon) : Option (Int) :=
  some (a0.t.length : Int)
set_option maxHeartbeats 4000000 in
theorem ZGroupsR.ac (k : Nat) (a0 : Zon) (r : Int) (h : ZGroupsR.f k a0 = some r) : AC Tryd.prog 28 16 [.c (.pt false [.pt false [.v (.int .i64 a0.s.n), .sl false 2 (a0.s.l.map eR)], .v (.int .i64 a0.n), .sl false 1 (a0.t.map eI), .sl false 1 (a0.c.map eB)])] [none] [.c (.v (.int .i64 r))] := by
  unfold ZGroupsR.f at h
  refine ac_intro (fn := Tryd.f16) (pins := []) (rts := [2]) Tryd.func16 rfl Tryd.ntmps16 rfl (Nat.le_of_ble_eq_true rfl) (pins_lt rfl) rfl (fun w R E vs => ?_)
  refine r_weak (of_weak (l := [(0, .u (.c (.pt false [.pt false [.v (.int .i64 a0.s.n), .sl false 2 (a0.s.l.map eR)], .v (.int .i64 a0.n), .sl false 1 (a0.t.map eI), .sl false 1 (a0.c.map eB)])))]) (by kernel_rfl)) ?_
  refine r_seq ?_
  refine rr [(0, .u (.c (.pt false [.pt false [.v (.int .i64 a0.s.n), .sl false 2 (a0.s.l.map eR)], .v (.int .i64 a0.n), .sl false 1 (a0.t.map eI), .sl false 1 (a0.c.map eB)])))] (cgt 1 [2] .nil) ?_
  refine r_seq ?_
  refine rr [(2, tI (a0.t.length : Int))] (cot 1 (os_plain rfl rfl (s_movRO (cs := [.pt false [.v (.int .i64 a0.s.n), .sl false 2 (a0.s.l.map eR)], .v (.int .i64 a0.n), .sl false 1 (a0.t.map eI), .sl false 1 (a0.c.map eB)]) rfl (by kernel_rfl) rfl (by kernel_rfl) rfl)) (cgt 4 [4, 5, 6] (cot 5 (os_to (os_plain rfl rfl (s_lenU (own := false) (sz := 1) (rows := (a0.t.map eI)) rfl sl48 (by kernel_rfl) rfl (by kernel_rfl))) (t' := tI (a0.t.length : Int)) (by rw [List.length_map])) (cgt 6 [2] .nil)))) ?_
  refine r_ret ?_
  obtain rfl := Option.some.inj h
  exact ⟨.inr rfl, _, _, .cons (.copy rfl rfl rfl) .nil, rfl, outs_of trivial⟩
set_option maxHeartbeats 4000000 in
def ZClosedR.f (k : Nat) (a0 : Zon) (a1 : Int) : Option (Bool) :=
  (hasR.f k a0 a1).bind fun (r1 : Bool) => (bif r1 then (bif decide (0 ≤ a1) && decide (a1 < (a0.c.length : Int)) then some (a0.c.getD a1.toNat false) else none) else some false)
set_option maxHeartbeats 4000000 in
theorem ZClosedR.ac (k : Nat) (a0 : Zon) (a1 : Int) (r : Bool) (h : ZClosedR.f k a0 a1 = some r) : AC Tryd.prog 28 18 [.c (.pt false [.pt false [.v (.int .i64 a0.s.n), .sl false 2 (a0.s.l.map eR)], .v (.int .i64 a0.n), .sl false 1 (a0.t.map eI), .sl false 1 (a0.c.map eB)]), .c (.v (.int .i64 a1))] [none, none] [.c (.v (.bool r))] := by
  unfold ZClosedR.f at h
  refine ac_intro (fn := Tryd.f18) (pins := []) (rts := [4]) Tryd.func18 rfl Tryd.ntmps18 rfl (Nat.le_of_ble_eq_true rfl) (pins_lt rfl) rfl (fun w R E vs => ?_)
  refine r_weak (of_weak (l := [(0, .u (.c (.pt false [.pt false [.v (.int .i64 a0.s.n), .sl false 2 (a0.s.l.map eR)], .v (.int .i64 a0.n), .sl false 1 (a0.t.map eI), .sl false 1 (a0.c.map eB)]))), (1, tI a1)]) (by kernel_rfl)) ?_
  refine r_seq ?_
  refine rr [(0, .u (.c (.pt false [.pt false [.v (.int .i64 a0.s.n), .sl false 2 (a0.s.l.map eR)], .v (.int .i64 a0.n), .sl false 1 (a0.t.map eI), .sl false 1 (a0.c.map eB)]))), (1, tI a1)] (cgt 1 [4] .nil) ?_
  refine r_seq ?_
  obtain ⟨r1, hr1, h⟩ := bind_some h
  rcases Bool.eq_false_or_eq_true (r1) with hb | hb
  · have h := cond_t hb h
    have hs2 := hb
    obtain ⟨hg3, h⟩ := guard_some h
    simp only [Bool.and_eq_true, decide_eq_true_eq] at hg3
    refine rr [(4, tB (a0.c.getD a1.toNat false))] (cgt 2 [5, 6] (cot 3 (os_plain rfl rfl (c_callQ (AC.k (hasR.ac (h := hr1))) ⟨_, Tryd.func38, rfl, by kernel_rfl⟩ rfl (.cons (.copy (by kernel_rfl) rfl) (.cons (.copy (by kernel_rfl) rfl) .nil)) (by kernel_rfl))) (cot 4 (os_ge (d := 8) (t := tB r1) (t' := tB true) (by kernel_rfl) (by rw [hs2])) (cot 5 (os_gy rfl rfl rfl (by kernel_rfl) (s_movRO (cs := [.pt false [.v (.int .i64 a0.s.n), .sl false 2 (a0.s.l.map eR)], .v (.int .i64 a0.n), .sl false 1 (a0.t.map eI), .sl false 1 (a0.c.map eB)]) rfl (by kernel_rfl) rfl (by kernel_rfl) rfl)) (cgt 9 [10, 11, 12, 13] (cot 10 (os_gy rfl rfl rfl (by kernel_rfl) (s_indexU (own := false) (sz := 1) (rows := (a0.c.map eB)) (e := a1) (ik := .i64) rfl sl52 (by kernel_rfl) (.tmp (by kernel_rfl)) hg3.1 (by rw [List.length_map]; exact hg3.2) rfl (by kernel_rfl) (by kernel_rfl))) (cot 11 (os_gy rfl rfl rfl (by kernel_rfl) (s_load1 (x := .v (.bool (a0.c.getD a1.toNat false))) (r := 12) (off := 0) (s := .i a1.toNat 1) (p := []) (c := .sl false 1 (a0.c.map eB)) (cs := eB (a0.c.getD a1.toNat false)) rfl (oneB_ok (by kernel_rfl)) (by kernel_rfl) (by kernel_rfl) (getP_map false (by have := hg3; omega)) rfl rfl rfl (by kernel_rfl))) (cgt 13 [16, 4] .nil)))))))) ?_
    refine r_ret ?_
    obtain rfl := Option.some.inj h
    exact ⟨.inr rfl, _, _, .cons (.copy rfl rfl rfl) .nil, rfl, outs_of trivial⟩
  have h := cond_f hb h
  have hs4 := hb
  refine rr [(4, tB false)] (cgt 2 [5, 6] (cot 3 (os_plain rfl rfl (c_callQ (AC.k (hasR.ac (h := hr1))) ⟨_, Tryd.func38, rfl, by kernel_rfl⟩ rfl (.cons (.copy (by kernel_rfl) rfl) (.cons (.copy (by kernel_rfl) rfl) .nil)) (by kernel_rfl))) (cot 4 (os_ge (d := 8) (t := tB r1) (t' := tB false) (by kernel_rfl) (by rw [hs4])) (cgt 13 [9, 10, 11, 12, 13, 14, 15, 16, 4] .nil)))) ?_
  refine r_ret ?_
  obtain rfl := Option.some.inj h
  exact ⟨.inr rfl, _, _, .cons (.copy rfl rfl rfl) .nil, rfl, outs_of trivial⟩
set_option maxHeartbeats 4000000 in
def ZIsFreeR.f (k : Nat) (a0 : Zon) (a1 : Int) : Option (Bool) :=
  (IsFreeR.f k a0.s a1).bind fun (r1 : Bool) => some r1
set_option maxHeartbeats 4000000 in
theorem ZIsFreeR.ac (k : Nat) (a0 : Zon) (a1 : Int) (r : Bool) (h : ZIsFreeR.f k a0 a1 = some r) : AC Tryd.prog 28 21 [.c (.pt false [.pt false [.v (.int .i64 a0.s.n), .sl false 2 (a0.s.l.map eR)], .v (.int .i64 a0.n), .sl false 1 (a0.t.map eI), .sl false 1 (a0.c.map eB)]), .c (.v (.int .i64 a1))] [none, none] [.c (.v (.bool r))] := by
  unfold ZIsFreeR.f at h
  refine ac_intro (fn := Tryd.f21) (pins := []) (rts := [4]) Tryd.func21 rfl Tryd.ntmps21 rfl (Nat.le_of_ble_eq_true rfl) (pins_lt rfl) rfl (fun w R E vs => ?_)
  refine r_weak (of_weak (l := [(0, .u (.c (.pt false [.pt false [.v (.int .i64 a0.s.n), .sl false 2 (a0.s.l.map eR)], .v (.int .i64 a0.n), .sl false 1 (a0.t.map eI), .sl false 1 (a0.c.map eB)]))), (1, tI a1)]) (by kernel_rfl)) ?_
  refine r_seq ?_
  refine rr [(0, .u (.c (.pt false [.pt false [.v (.int .i64 a0.s.n), .sl false 2 (a0.s.l.map eR)], .v (.int .i64 a0.n), .sl false 1 (a0.t.map eI), .sl false 1 (a0.c.map eB)]))), (1, tI a1)] (cgt 1 [4] .nil) ?_
  refine r_seq ?_
  obtain ⟨r1, hr1, h⟩ := bind_some h
  refine rr [(4, tB r1)] (cot 1 (os_plain rfl rfl (s_movRO (cs := [.pt false [.v (.int .i64 a0.s.n), .sl false 2 (a0.s.l.map eR)], .v (.int .i64 a0.n), .sl false 1 (a0.t.map eI), .sl false 1 (a0.c.map eB)]) rfl (by kernel_rfl) rfl (by kernel_rfl) rfl)) (cgt 5 [6, 7, 8, 9] (cot 6 (os_plain rfl rfl (c_callQ (AC.k (IsFreeR.ac (h := hr1))) ⟨_, Tryd.func40, rfl, by kernel_rfl⟩ rfl (.cons (.copy (by kernel_rfl) rfl) (.cons (.copy (by kernel_rfl) rfl) .nil)) (by kernel_rfl))) (cgt 7 [4] .nil)))) ?_
  refine r_ret ?_
  obtain rfl := Option.some.inj h
  exact ⟨.inr rfl, _, _, .cons (.copy rfl rfl rfl) .nil, rfl, outs_of trivial⟩
def MNew.l1 (k : Nat) (a0 : Int) (r1 : (List Bool)) : Nat → ZM → Int → Option (ZM)
  | 0, _, _ => none
  | n1 + 1, v2, v3 => (bif decide (v3 < a0) then (bif decide (v2.t.length + [1].length ≤ 1000000) then (bif decide (v2.c.length + [false].length ≤ 1000000) then MNew.l1 k a0 r1 n1 (⟨v2.s, (v2.t ++ [1]), (v2.c ++ [false])⟩ : ZM) (i64.wrap (v3 + 8)) else none) else none) else some v2)
set_option maxHeartbeats 4000000 in
def MNew.f (k : Nat) (a0 : Int) : Option (ZM) :=
  (RNew.f k a0).bind fun (r1 : (List Bool)) => MNew.l1 k a0 r1 k (⟨r1, [], []⟩ : ZM) 0
set_option maxHeartbeats 4000000 in
theorem MNew.ac (k : Nat) (a0 : Int) (r : ZM) (h : MNew.f k a0 = some r) : AC Tryd.prog 28 11 [.c (.v (.int .i64 a0))] [none] [.c (zmC r)] := by
  unfold MNew.f at h
  refine ac_intro (fn := Tryd.f11) (pins := []) (rts := [2]) Tryd.func11 rfl Tryd.ntmps11 rfl (Nat.le_of_ble_eq_true rfl) (pins_lt rfl) rfl (fun w R E vs => ?_)
  refine r_weak (of_weak (l := [(0, tI a0)]) (by kernel_rfl)) ?_
  refine r_seq ?_
  refine rr [(0, tI a0)] (cgt 1 [2] .nil) ?_
  refine r_seq ?_
  obtain ⟨r1, hr1, h⟩ := bind_some h
  refine rr [(0, tI a0), (3, .u (.c (.pt true [.sl true 1 (r1.map eB), .sl true 1 ([].map eI), .sl true 1 ([].map eB)])))] (cgt 1 [5] (cot 2 (os_plain rfl rfl (c_callQ (AC.k (RNew.ac (h := hr1))) ⟨_, Tryd.func31, rfl, by kernel_rfl⟩ rfl (.cons (.copy (by kernel_rfl) rfl) .nil) (by kernel_rfl))) (cot 3 (os_plain rfl rfl (s_build (us := [(0, .c (.sl true 1 (r1.map eB)))]) (zs := [.sl true 1 ([].map eB), .sl true 1 ([].map eI), .sl true 1 ([].map eB)]) (cs := [.sl true 1 (r1.map eB), .sl true 1 ([].map eI), .sl true 1 ([].map eB)]) rfl build55 zero55 (.cons (.move (by kernel_rfl) (by kernel_rfl)) .nil) (by kernel_rfl) rfl (by kernel_rfl))) (cot 4 (os_plain rfl rfl (s_box (u := .agg [.sl true 1 (r1.map eB), .sl true 1 ([].map eI), .sl true 1 ([].map eB)]) rfl (.move (by kernel_rfl) (by kernel_rfl)) rfl (by kernel_rfl))) (cot 5 (os_plain rfl rfl (s_take (u := .c (.pt true [.sl true 1 (r1.map eB), .sl true 1 ([].map eI), .sl true 1 ([].map eB)])) (.inr rfl) (.move (by kernel_rfl) rfl) rfl (by kernel_rfl))) .nil))))) ?_
  refine r_seq ?_
  refine r_seq ?_
  refine rr [(0, tI a0), (3, .u (.c (.pt true [.sl true 1 (r1.map eB), .sl true 1 ([].map eI), .sl true 1 ([].map eB)]))), (4, tI 0)] (cgt 1 [4] .nil) ?_
  refine r_block ?_
  refine r_weak (of_weak (l := [(0, tI a0), (3, .u (.c (.pt true [.sl true 1 (r1.map eB), .sl true 1 ([].map eI), .sl true 1 ([].map eB)]))), (4, tI 0)]) (by kernel_rfl)) ?_
  refine r_loopI (α := ZM × Int) (fun x => [(0, tI a0), (3, .u (.c (zmC x.1))), (4, tI x.2)]) (fun n x => MNew.l1 k a0 r1 n x.1 x.2 = some r) k ((⟨r1, [], []⟩ : ZM), 0) h (by intro x h; unfold MNew.l1 at h; cases h) ?_
  rintro n1 ⟨v2, v3⟩ h
  replace h : MNew.l1 k a0 r1 (n1 + 1) v2 v3 = some r := h
  unfold MNew.l1 at h
  show Run _ _ _ (St.of [(0, tI a0), (3, .u (.c (zmC v2))), (4, tI v3)]) _
  refine r_seq ?_
  refine r_seq ?_
  refine rr [(0, tI a0), (3, .u (.c (zmC v2))), (4, tI v3), (11, tB (decide (v3 < a0)))] (cgt 3 [9, 10, 11] .nil) ?_
  rcases Bool.eq_false_or_eq_true (decide (v3 < a0)) with hb | hb
  · have h := cond_t hb h
    refine r_condT hb rfl ?_
    refine r_skip ?_
    refine r_seq ?_
    refine r_block ?_
    refine r_seq ?_
    obtain ⟨hg4, h⟩ := guard_some h
    simp only [decide_eq_true_eq] at hg4
    refine rr [(0, tI a0), (3, .u (.c (.pt true [.sl true 1 (v2.s.map eB), .sl true 1 ((v2.t ++ [1]).map eI), .sl true 1 (v2.c.map eB)]))), (4, tI v3)] (cgt 4 [14, 15, 16, 17] (cot 5 (os_plain rfl rfl (s_loadTake (r := 3) (off := 1) (s := .d) (p := []) (c := zmC v2) (c' := .pt true [.sl true 1 (v2.s.map eB), .dead, .sl true 1 (v2.c.map eB)]) (x := .sl true 1 (v2.t.map eI)) (cs := [.sl true 1 (v2.s.map eB), .sl true 1 (v2.t.map eI), .sl true 1 (v2.c.map eB)]) rfl (oneB_ok (by kernel_rfl)) (by kernel_rfl) (by kernel_rfl) rfl rfl (by kernel_rfl) rfl rfl (by kernel_rfl))) (cot 6 (os_toG (os_plain rfl rfl (s_buildSlice (sz := 1) (len := 1) (us := [(0, .c (.v (.int .i64 1)))]) (cs := [.v (.int .i64 1)]) rfl sliceZ48 (.cons (.copy (by kernel_rfl) (by kernel_rfl) (by kernel_rfl)) .nil) (by kernel_rfl) (Nat.le_of_ble_eq_true rfl) rfl (by kernel_rfl))) (t' := .u (.c (.sl true 1 ([1].map eI)))) (by kernel_rfl)) (cot 7 (os_toG (os_plain rfl rfl (s_appendM (i := 18) (sz := 1) (rows := v2.t.map eI) (rows2 := [1].map eI) rfl sliceZ48 (by kernel_rfl) (.v0 (r := 19) (lo := 0) (n := ([1].map eI).length) (own := true) (rows := [1].map eI) (by kernel_rfl) (by kernel_rfl) rows_all) (copy_map eI_copy) (lenMap2 hg4) (Nat.le_of_ble_eq_true rfl) rfl (by kernel_rfl))) (t' := .u (.c (.sl true 1 ((v2.t ++ [1]).map eI)))) (by simp only [List.map_append])) (cgt 9 [21, 22] (cot 10 (os_plain rfl rfl (s_store (n := 1) (r := 3) (off := 1) (s := .d) (p := []) (c := .pt true [.sl true 1 (v2.s.map eB), .dead, .sl true 1 (v2.c.map eB)]) (cs := [.sl true 1 (v2.s.map eB), .dead, .sl true 1 (v2.c.map eB)]) (u := .c (.sl true 1 ((v2.t ++ [1]).map eI))) (l := [20]) rfl (by kernel_rfl) (by kernel_rfl) (.move (by kernel_rfl) (by kernel_rfl)) (by kernel_rfl) rfl rfl rfl (Nat.le_of_ble_eq_true rfl) (by kernel_rfl) rfl)) .nil)))))) ?_
    obtain ⟨hg5, h⟩ := guard_some h
    simp only [decide_eq_true_eq] at hg5
    refine rr [(0, tI a0), (3, .u (.c (.pt true [.sl true 1 (v2.s.map eB), .sl true 1 ((v2.t ++ [1]).map eI), .sl true 1 ((v2.c ++ [false]).map eB)]))), (4, tI v3)] (cgt 4 [23, 24, 25, 26] (cot 5 (os_plain rfl rfl (s_loadTake (r := 3) (off := 2) (s := .d) (p := []) (c := .pt true [.sl true 1 (v2.s.map eB), .sl true 1 ((v2.t ++ [1]).map eI), .sl true 1 (v2.c.map eB)]) (c' := .pt true [.sl true 1 (v2.s.map eB), .sl true 1 ((v2.t ++ [1]).map eI), .dead]) (x := .sl true 1 (v2.c.map eB)) (cs := [.sl true 1 (v2.s.map eB), .sl true 1 ((v2.t ++ [1]).map eI), .sl true 1 (v2.c.map eB)]) rfl (oneB_ok (by kernel_rfl)) (by kernel_rfl) (by kernel_rfl) rfl rfl (by kernel_rfl) rfl rfl (by kernel_rfl))) (cot 6 (os_toG (os_plain rfl rfl (s_buildSlice (sz := 1) (len := 1) (us := [(0, .c (.v (.bool false)))]) (cs := [.v (.bool false)]) rfl sliceZ52 (.cons (.copy (by kernel_rfl) (by kernel_rfl) (by kernel_rfl)) .nil) (by kernel_rfl) (Nat.le_of_ble_eq_true rfl) rfl (by kernel_rfl))) (t' := .u (.c (.sl true 1 ([false].map eB)))) (by kernel_rfl)) (cot 7 (os_toG (os_plain rfl rfl (s_appendM (i := 27) (sz := 1) (rows := v2.c.map eB) (rows2 := [false].map eB) rfl sliceZ52 (by kernel_rfl) (.v0 (r := 28) (lo := 0) (n := ([false].map eB).length) (own := true) (rows := [false].map eB) (by kernel_rfl) (by kernel_rfl) rows_all) (copy_map eB_copy) (lenMap2 hg5) (Nat.le_of_ble_eq_true rfl) rfl (by kernel_rfl))) (t' := .u (.c (.sl true 1 ((v2.c ++ [false]).map eB)))) (by simp only [List.map_append])) (cgt 9 [30, 31] (cot 10 (os_plain rfl rfl (s_store (n := 1) (r := 3) (off := 2) (s := .d) (p := []) (c := .pt true [.sl true 1 (v2.s.map eB), .sl true 1 ((v2.t ++ [1]).map eI), .dead]) (cs := [.sl true 1 (v2.s.map eB), .sl true 1 ((v2.t ++ [1]).map eI), .dead]) (u := .c (.sl true 1 ((v2.c ++ [false]).map eB))) (l := [29]) rfl (by kernel_rfl) (by kernel_rfl) (.move (by kernel_rfl) (by kernel_rfl)) (by kernel_rfl) rfl rfl rfl (Nat.le_of_ble_eq_true rfl) (by kernel_rfl) rfl)) .nil)))))) ?_
    refine rr [(0, tI a0), (3, .u (.c (.pt true [.sl true 1 (v2.s.map eB), .sl true 1 ((v2.t ++ [1]).map eI), .sl true 1 ((v2.c ++ [false]).map eB)]))), (4, tI (i64.wrap (v3 + 8)))] (cgt 3 [12, 13, 4] .nil) ?_
    exact ⟨((⟨v2.s, (v2.t ++ [1]), (v2.c ++ [false])⟩ : ZM), i64.wrap (v3 + 8)), h, of_weak (by kernel_rfl)⟩
  have h := cond_f hb h
  refine r_condF hb rfl ?_
  refine r_exit ?_
  refine r_seq ?_
  refine rr [(2, .u (.c (zmC v2)))] (cot 1 (os_plain rfl rfl (s_take (u := .c (zmC v2)) (.inl rfl) (.move (by kernel_rfl) rfl) rfl (by kernel_rfl))) (cot 2 (os_plain rfl rfl (s_take (u := .c (zmC v2)) (.inr rfl) (.move (by kernel_rfl) rfl) rfl (by kernel_rfl))) .nil)) ?_
  refine r_ret ?_
  obtain rfl := Option.some.inj h
  exact ⟨.inr rfl, _, _, .cons (.move rfl rfl) .nil, rfl, outs_of trivial⟩
def MRooms.j1 (k : Nat) (a0 : ZM) (a1 : Int) (r1 : (List Blk)) (v2 : ZM) (v3 : List Blk) (v4 : Int) (y8 : ZM × Int × Int) : Option ((List Blk)) :=
  (bif decide (0 ≤ v4) && decide (v4 < (r1.length : Int)) then (bif decide (((r1.getD ((v4).toNat) zR).o) ≤ 3) then (bif decide (0 ≤ v4) && decide (v4 < (r1.length : Int)) then (bif (i64.wrap (((r1.getD ((v4).toNat) zR).f).tdiv 8)) == a1 then (bif decide (0 ≤ v4) && decide (v4 < (r1.length : Int)) then (bif decide (v3.length + [(r1.getD ((v4).toNat) zR)].length ≤ 1000000) then some (v3 ++ [(r1.getD ((v4).toNat) zR)]) else none) else none) else some v3) else none) else some v3) else none)
def MRooms.l2 (k : Nat) (a0 : ZM) (a1 : Int) (r1 : (List Blk)) (v2 : ZM) (v3 : List Blk) (v4 : Int) : Nat → ZM → Int → Int → Option (ZM × Int × Int)
  | 0, _, _, _ => none
  | n2 + 1, v5, v6, v7 => (bif decide (0 ≤ v4) && decide (v4 < (r1.length : Int)) then (bif decide (v7 < ((r1.getD ((v4).toNat) zR).o)) then MRooms.l2 k a0 a1 r1 v2 v3 v4 n2 v5 (i64.wrap (v6 * 2)) (i64.wrap (v7 + 1)) else some (v5, v6, v7)) else none)
def MRooms.l1 (k : Nat) (a0 : ZM) (a1 : Int) (r1 : (List Blk)) : Nat → ZM → (List Blk) → Int → Option (ZM × (List Blk))
  | 0, _, _, _ => none
  | n1 + 1, v2, v3, v4 => (bif decide (v4 < (r1.length : Int)) then (MRooms.l2 k a0 a1 r1 v2 v3 v4 k v2 1 0).bind fun (y8 : ZM × Int × Int) => (MRooms.j1 k a0 a1 r1 v2 v3 v4 y8).bind fun (y10 : (List Blk)) => (bif decide (0 ≤ v4) && decide (v4 < (r1.length : Int)) then (bif decide (((r1.getD ((v4).toNat) zR).o) > 3) then (bif decide (0 ≤ v4) && decide (v4 < (r1.length : Int)) then (bif decide ((i64.wrap (a1 * 8)) ≥ ((r1.getD ((v4).toNat) zR).f)) then (bif decide (0 ≤ v4) && decide (v4 < (r1.length : Int)) then (bif decide ((i64.wrap (a1 * 8)) < (i64.wrap (((r1.getD ((v4).toNat) zR).f) + y8.2.1))) then (bif decide (y10.length + [(⟨i64.wrap (a1 * 8), 3⟩ : Blk)].length ≤ 1000000) then MRooms.l1 k a0 a1 r1 n1 y8.1 (y10 ++ [(⟨i64.wrap (a1 * 8), 3⟩ : Blk)]) (i64.wrap (v4 + 1)) else none) else MRooms.l1 k a0 a1 r1 n1 y8.1 y10 (i64.wrap (v4 + 1))) else none) else MRooms.l1 k a0 a1 r1 n1 y8.1 y10 (i64.wrap (v4 + 1))) else none) else MRooms.l1 k a0 a1 r1 n1 y8.1 y10 (i64.wrap (v4 + 1))) else none) else some (v2, v3))
set_option maxHeartbeats 4000000 in
def MRooms.f (k : Nat) (a0 : ZM) (a1 : Int) : Option (ZM × (List Blk)) :=
  (RFree.f k a0.s).bind fun (r1 : (List Blk)) => MRooms.l1 k a0 a1 r1 k a0 [] 0
set_option maxHeartbeats 4000000 in
theorem MRooms.ac (k : Nat) (a0 : ZM) (a1 : Int) (r : ZM × (List Blk)) (h : MRooms.f k a0 a1 = some r) : AC Tryd.prog 28 51 [.c (zmC a0), .c (.v (.int .i64 a1))] [some (.c (zmC r.1)), none] [.c (.sl true 2 (r.2.map eR))] := by
  unfold MRooms.f at h
  refine ac_intro (fn := Tryd.f51) (pins := [0]) (rts := [4]) Tryd.func51 rfl Tryd.ntmps51 rfl (Nat.le_of_ble_eq_true rfl) (pins_lt rfl) rfl (fun w R E vs => ?_)
  refine r_weak (of_weak (l := [(0, .u (.c (zmC a0))), (1, tI a1)]) (by kernel_rfl)) ?_
  refine r_seq ?_
  refine rr [(0, .u (.c (zmC a0))), (1, tI a1)] (cot 1 (os_plain rfl rfl (s_take (.inr rfl) (.sl 2) rfl (by kernel_rfl))) .nil) ?_
  refine r_seq ?_
  refine rr [(0, .u (.c (zmC a0))), (1, tI a1), (5, .u (.c (.sl true 2 ([].map eR))))] (cot 1 (os_plain rfl rfl (s_take (.inr rfl) (.sl 2) rfl (by kernel_rfl))) .nil) ?_
  refine r_seq ?_
  obtain ⟨r1, hr1, h⟩ := bind_some h
  refine rr [(0, .u (.c (zmC a0))), (1, tI a1), (5, .u (.c (.sl true 2 ([].map eR)))), (6, .u (.c (.sl true 2 (r1.map eR))))] (cgt 4 [10, 11, 12, 13] (cot 5 (os_plain rfl rfl (c_callQL (res := [.c (.sl true 2 (r1.map eR))]) (AC.k (RFree.ac (h := hr1))) ⟨_, Tryd.func30, rfl, by kernel_rfl⟩ rfl (.cons (.view (.v1 (r := 0) (lo := 0) (n := (a0.s.map eB).length) (off := 0) (s := .d) (p := []) (c := zmC a0) (cs := [.sl true 1 (a0.s.map eB), .sl true 1 (a0.t.map eI), .sl true 1 (a0.c.map eB)]) (own := true) (rows := a0.s.map eB) (by kernel_rfl) (by kernel_rfl) rfl rfl rows_all) (copy_map eB_copy)) .nil) (⟨⟨rfl, mine_map (fun _ => rfl)⟩, trivial⟩) (by kernel_rfl))) (cot 6 (os_plain rfl rfl (s_take (u := .c (.sl true 2 (r1.map eR))) (.inr rfl) (.move (by kernel_rfl) rfl) rfl (by kernel_rfl))) .nil))) ?_
  refine r_seq ?_
  refine r_seq ?_
  refine rr [(0, .u (.c (zmC a0))), (1, tI a1), (5, .u (.c (.sl true 2 ([].map eR)))), (6, .u (.c (.sl true 2 (r1.map eR)))), (7, tI 0)] (cgt 1 [7] .nil) ?_
  refine r_block ?_
  refine r_weak (of_weak (l := [(0, .u (.c (zmC a0))), (1, tI a1), (5, .u (.c (.sl true 2 ([].map eR)))), (6, .u (.c (.sl true 2 (r1.map eR)))), (7, tI 0)]) (by kernel_rfl)) ?_
  refine r_loopI (α := ZM × (List Blk) × Int) (fun x => [(0, .u (.c (zmC x.1))), (1, tI a1), (5, .u (.c (.sl true 2 (x.2.1.map eR)))), (6, .u (.c (.sl true 2 (r1.map eR)))), (7, tI x.2.2)]) (fun n x => MRooms.l1 k a0 a1 r1 n x.1 x.2.1 x.2.2 = some r) k (a0, [], 0) h (by intro x h; unfold MRooms.l1 at h; cases h) ?_
  rintro n1 ⟨v2, v3, v4⟩ h
  replace h : MRooms.l1 k a0 a1 r1 (n1 + 1) v2 v3 v4 = some r := h
  unfold MRooms.l1 at h
  show Run _ _ _ (St.of [(0, .u (.c (zmC v2))), (1, tI a1), (5, .u (.c (.sl true 2 (v3.map eR)))), (6, .u (.c (.sl true 2 (r1.map eR)))), (7, tI v4)]) _
  refine r_seq ?_
  refine r_seq ?_
  refine rr [(0, .u (.c (zmC v2))), (1, tI a1), (5, .u (.c (.sl true 2 (v3.map eR)))), (6, .u (.c (.sl true 2 (r1.map eR)))), (7, tI v4), (18, tB (decide (v4 < (r1.length : Int))))] (cgt 2 [15, 16] (cot 3 (os_to (os_plain rfl rfl (s_lenV (r := 6) (lo := 0) (n := (r1.map eR).length) (pl := none) (sz := 2) rfl sl36 (by kernel_rfl) rfl (by kernel_rfl))) (t' := tI (r1.length : Int)) (by rw [List.length_map])) (cgt 4 [18] .nil))) ?_
  rcases Bool.eq_false_or_eq_true (decide (v4 < (r1.length : Int))) with hb | hb
  · have h := cond_t hb h
    refine r_condT hb rfl ?_
    refine r_skip ?_
    refine r_seq ?_
    refine r_block ?_
    refine r_seq ?_
    refine rr [(0, .u (.c (zmC v2))), (1, tI a1), (5, .u (.c (.sl true 2 (v3.map eR)))), (6, .u (.c (.sl true 2 (r1.map eR)))), (7, tI v4), (8, tI 1)] (cgt 1 [8] .nil) ?_
    refine r_seq ?_
    refine r_seq ?_
    refine rr [(0, .u (.c (zmC v2))), (1, tI a1), (5, .u (.c (.sl true 2 (v3.map eR)))), (6, .u (.c (.sl true 2 (r1.map eR)))), (7, tI v4), (8, tI 1), (9, tI 0)] (cgt 1 [9] .nil) ?_
    refine r_block ?_
    refine r_weak (of_weak (l := [(0, .u (.c (zmC v2))), (1, tI a1), (5, .u (.c (.sl true 2 (v3.map eR)))), (6, .u (.c (.sl true 2 (r1.map eR)))), (7, tI v4), (8, tI 1), (9, tI 0)]) (by kernel_rfl)) ?_
    obtain ⟨y8, hy8, h_y8⟩ := bind_some h
    refine r_loopI (α := ZM × Int × Int) (fun x => [(0, .u (.c (zmC x.1))), (1, tI a1), (5, .u (.c (.sl true 2 (v3.map eR)))), (6, .u (.c (.sl true 2 (r1.map eR)))), (7, tI v4), (8, tI x.2.1), (9, tI x.2.2)]) (fun n x => MRooms.l2 k a0 a1 r1 v2 v3 v4 n x.1 x.2.1 x.2.2 = some y8) k (v2, 1, 0) hy8 (by intro x h; unfold MRooms.l2 at h; cases h) ?_
    rintro n2 ⟨v5, v6, v7⟩ h
    replace h : MRooms.l2 k a0 a1 r1 v2 v3 v4 (n2 + 1) v5 v6 v7 = some y8 := h
    unfold MRooms.l2 at h
    show Run _ _ _ (St.of [(0, .u (.c (zmC v5))), (1, tI a1), (5, .u (.c (.sl true 2 (v3.map eR)))), (6, .u (.c (.sl true 2 (r1.map eR)))), (7, tI v4), (8, tI v6), (9, tI v7)]) _
    refine r_seq ?_
    refine r_seq ?_
    obtain ⟨hg9, h⟩ := guard_some h
    simp only [Bool.and_eq_true, decide_eq_true_eq] at hg9
    refine rr [(0, .u (.c (zmC v5))), (1, tI a1), (5, .u (.c (.sl true 2 (v3.map eR)))), (6, .u (.c (.sl true 2 (r1.map eR)))), (7, tI v4), (8, tI v6), (9, tI v7), (27, tB (decide (v7 < ((r1.getD ((v4).toNat) zR).o))))] (cgt 3 [21, 22, 23] (cot 4 (os_plain rfl rfl (s_indexV (r := 6) (lo := 0) (n := (r1.map eR).length) (pl := none) (sz := 2) (e := v4) (ik := .i64) (k := (v4).toNat) rfl sl36 (by kernel_rfl) (.tmp (by kernel_rfl)) hg9.1 (by rw [List.length_map]; exact hg9.2) (Nat.zero_add _) rfl (by kernel_rfl) (by kernel_rfl))) (cgt 5 [25] (cot 6 (os_plain rfl rfl (s_load1 (x := .v (.int .i64 ((r1.getD ((v4).toNat) zR).o))) (r := 6) (off := 1) (s := .i ((v4).toNat) 2) (p := []) (c := .sl true 2 (r1.map eR)) (cs := eR (r1.getD ((v4).toNat) zR)) rfl (oneB_ok (by kernel_rfl)) (by kernel_rfl) (by kernel_rfl) (getP_map zR (by have := hg9; omega)) rfl rfl rfl (by kernel_rfl))) (cgt 7 [27] .nil))))) ?_
    rcases Bool.eq_false_or_eq_true (decide (v7 < ((r1.getD ((v4).toNat) zR).o))) with hb | hb
    · have h := cond_t hb h
      refine r_condT hb rfl ?_
      refine r_skip ?_
      refine r_seq ?_
      refine r_block ?_
      refine rr [(0, .u (.c (zmC v5))), (1, tI a1), (5, .u (.c (.sl true 2 (v3.map eR)))), (6, .u (.c (.sl true 2 (r1.map eR)))), (7, tI v4), (8, tI (i64.wrap (v6 * 2))), (9, tI v7)] (cgt 3 [30, 31, 8] .nil) ?_
      refine rr [(0, .u (.c (zmC v5))), (1, tI a1), (5, .u (.c (.sl true 2 (v3.map eR)))), (6, .u (.c (.sl true 2 (r1.map eR)))), (7, tI v4), (8, tI (i64.wrap (v6 * 2))), (9, tI (i64.wrap (v7 + 1)))] (cgt 3 [28, 29, 9] .nil) ?_
      exact ⟨(v5, i64.wrap (v6 * 2), i64.wrap (v7 + 1)), h, of_weak (by kernel_rfl)⟩
    have h := cond_f hb h
    refine r_condF hb rfl ?_
    refine r_weak (of_weak (l := [(0, .u (.c (zmC v5))), (1, tI a1), (5, .u (.c (.sl true 2 (v3.map eR)))), (6, .u (.c (.sl true 2 (r1.map eR)))), (7, tI v4), (8, tI v6)]) (by kernel_rfl)) ?_
    refine run_cast (α := ZM × Int × Int) (fun x => [(0, .u (.c (zmC x.1))), (1, tI a1), (5, .u (.c (.sl true 2 (v3.map eR)))), (6, .u (.c (.sl true 2 (r1.map eR)))), (7, tI v4), (8, tI x.2.1)]) (x := (v5, v6, v7)) (y := y8) (Option.some.inj h) ?_
    refine r_exit ?_
    replace h := h_y8
    refine r_seq ?_
    obtain ⟨y10, hy10, h_y10⟩ := bind_some h
    refine r_joinC (α := (List Blk)) (fun x => [(0, .u (.c (zmC y8.1))), (1, tI a1), (5, .u (.c (.sl true 2 (x.map eR)))), (6, .u (.c (.sl true 2 (r1.map eR)))), (7, tI v4), (8, tI y8.2.1)]) (fun x => y10 = x) ?_ ?_
    · replace h := hy10
      unfold MRooms.j1 at h
      refine r_seq ?_
      obtain ⟨hg11, h⟩ := guard_some h
      simp only [Bool.and_eq_true, decide_eq_true_eq] at hg11
      rcases Bool.eq_false_or_eq_true (decide (((r1.getD ((v4).toNat) zR).o) ≤ 3)) with hb | hb
      · have h := cond_t hb h
        have hs12 := hb
        obtain ⟨hg13, h⟩ := guard_some h
        simp only [Bool.and_eq_true, decide_eq_true_eq] at hg13
        refine rr [(0, .u (.c (zmC y8.1))), (1, tI a1), (5, .u (.c (.sl true 2 (v3.map eR)))), (6, .u (.c (.sl true 2 (r1.map eR)))), (7, tI v4), (8, tI y8.2.1), (47, tB ((i64.wrap (((r1.getD ((v4).toNat) zR).f).tdiv 8)) == a1))] (cgt 2 [32, 33] (cot 3 (os_plain rfl rfl (s_indexV (r := 6) (lo := 0) (n := (r1.map eR).length) (pl := none) (sz := 2) (e := v4) (ik := .i64) (k := (v4).toNat) rfl sl36 (by kernel_rfl) (.tmp (by kernel_rfl)) hg11.1 (by rw [List.length_map]; exact hg11.2) (Nat.zero_add _) rfl (by kernel_rfl) (by kernel_rfl))) (cgt 4 [35] (cot 5 (os_plain rfl rfl (s_load1 (x := .v (.int .i64 ((r1.getD ((v4).toNat) zR).o))) (r := 6) (off := 1) (s := .i ((v4).toNat) 2) (p := []) (c := .sl true 2 (r1.map eR)) (cs := eR (r1.getD ((v4).toNat) zR)) rfl (oneB_ok (by kernel_rfl)) (by kernel_rfl) (by kernel_rfl) (getP_map zR (by have := hg11; omega)) rfl rfl rfl (by kernel_rfl))) (cgt 6 [37] (cot 7 (os_ge (d := 38) (t := tB (decide (((r1.getD ((v4).toNat) zR).o) ≤ 3))) (t' := tB true) (by kernel_rfl) (by rw [hs12])) (cgt 9 [39, 40] (cot 10 (os_gy rfl rfl rfl (by kernel_rfl) (s_indexV (r := 6) (lo := 0) (n := (r1.map eR).length) (pl := none) (sz := 2) (e := v4) (ik := .i64) (k := (v4).toNat) rfl sl36 (by kernel_rfl) (.tmp (by kernel_rfl)) hg13.1 (by rw [List.length_map]; exact hg13.2) (Nat.zero_add _) rfl (by kernel_rfl) (by kernel_rfl))) (cgt 11 [42] (cot 12 (os_gy rfl rfl rfl (by kernel_rfl) (s_load1 (x := .v (.int .i64 ((r1.getD ((v4).toNat) zR).f))) (r := 6) (off := 0) (s := .i ((v4).toNat) 2) (p := []) (c := .sl true 2 (r1.map eR)) (cs := eR (r1.getD ((v4).toNat) zR)) rfl (oneB_ok (by kernel_rfl)) (by kernel_rfl) (by kernel_rfl) (getP_map zR (by have := hg13; omega)) rfl rfl rfl (by kernel_rfl))) (cot 13 (os_to (os_gy rfl rfl rfl (by kernel_rfl) (s_div (op := .quo) (k := .i64) (p := ((r1.getD ((v4).toNat) zR).f)) (q := 8) rfl (.inl rfl) (by kernel_rfl) (by kernel_rfl) (by decide) rfl (by kernel_rfl))) (t' := tI (i64.wrap (((r1.getD ((v4).toNat) zR).f).tdiv 8))) (by kernel_rfl)) (cgt 16 [45, 46, 47] .nil)))))))))))) ?_
        rcases Bool.eq_false_or_eq_true ((i64.wrap (((r1.getD ((v4).toNat) zR).f).tdiv 8)) == a1) with hb | hb
        · have h := cond_t hb h
          refine r_condT hb rfl ?_
          obtain ⟨hg14, h⟩ := guard_some h
          simp only [Bool.and_eq_true, decide_eq_true_eq] at hg14
          obtain ⟨hg15, h⟩ := guard_some h
          simp only [decide_eq_true_eq] at hg15
          refine rr [(0, .u (.c (zmC y8.1))), (1, tI a1), (5, .u (.c (.sl true 2 ((v3 ++ [(r1.getD ((v4).toNat) zR)]).map eR)))), (6, .u (.c (.sl true 2 (r1.map eR)))), (7, tI v4), (8, tI y8.2.1)] (cot 1 (os_plain rfl rfl (s_take (u := .c (.sl true 2 (v3.map eR))) (.inl rfl) (.move (by kernel_rfl) rfl) rfl (by kernel_rfl))) (cgt 3 [49, 50] (cot 4 (os_plain rfl rfl (s_indexV (r := 6) (lo := 0) (n := (r1.map eR).length) (pl := none) (sz := 2) (e := v4) (ik := .i64) (k := (v4).toNat) rfl sl36 (by kernel_rfl) (.tmp (by kernel_rfl)) hg14.1 (by rw [List.length_map]; exact hg14.2) (Nat.zero_add _) rfl (by kernel_rfl) (by kernel_rfl))) (cot 5 (os_plain rfl rfl (s_loadA (n := 2) (xs := [.v (.int .i64 ((r1.getD ((v4).toNat) zR).f)), .v (.int .i64 ((r1.getD ((v4).toNat) zR).o))]) (r := 6) (off := 0) (s := .i ((v4).toNat) 2) (p := []) (c := .sl true 2 (r1.map eR)) (cs := eR (r1.getD ((v4).toNat) zR)) rfl (aggB_ok (by kernel_rfl)) (by kernel_rfl) (by kernel_rfl) (getP_map zR (by have := hg14; omega)) rfl rfl rfl rfl (by kernel_rfl))) (cot 6 (os_toG (os_plain rfl rfl (s_buildSlice (sz := 2) (len := 1) (us := [(0, .agg [.v (.int .i64 ((r1.getD ((v4).toNat) zR).f)), .v (.int .i64 ((r1.getD ((v4).toNat) zR).o))])]) (cs := [.v (.int .i64 ((r1.getD ((v4).toNat) zR).f)), .v (.int .i64 ((r1.getD ((v4).toNat) zR).o))]) rfl sliceZ36 (.cons (.copy (by kernel_rfl) (by kernel_rfl) (by kernel_rfl)) .nil) (by kernel_rfl) (Nat.le_of_ble_eq_true rfl) rfl (by kernel_rfl))) (t' := .u (.c (.sl true 2 ([(r1.getD ((v4).toNat) zR)].map eR)))) (by kernel_rfl)) (cot 7 (os_toG (os_plain rfl rfl (s_appendM (i := 48) (sz := 2) (rows := v3.map eR) (rows2 := [(r1.getD ((v4).toNat) zR)].map eR) rfl sliceZ36 (by kernel_rfl) (.v0 (r := 53) (lo := 0) (n := ([(r1.getD ((v4).toNat) zR)].map eR).length) (own := true) (rows := [(r1.getD ((v4).toNat) zR)].map eR) (by kernel_rfl) (by kernel_rfl) rows_all) (copy_map eR_copy) (lenMap2 hg15) (Nat.le_of_ble_eq_true rfl) rfl (by kernel_rfl))) (t' := .u (.c (.sl true 2 ((v3 ++ [(r1.getD ((v4).toNat) zR)]).map eR)))) (by simp only [List.map_append])) (cot 8 (os_plain rfl rfl (s_take (u := .c (.sl true 2 ((v3 ++ [(r1.getD ((v4).toNat) zR)]).map eR))) (.inr rfl) (.move (by kernel_rfl) rfl) rfl (by kernel_rfl))) .nil))))))) ?_
          exact ⟨(v3 ++ [(r1.getD ((v4).toNat) zR)]), (Option.some.inj h).symm, of_weak (by kernel_rfl)⟩
        have h := cond_f hb h
        refine r_condF hb rfl ?_
        refine r_skip ?_
        exact ⟨v3, (Option.some.inj h).symm, of_weak (by kernel_rfl)⟩
      have h := cond_f hb h
      have hs16 := hb
      refine rr [(0, .u (.c (zmC y8.1))), (1, tI a1), (5, .u (.c (.sl true 2 (v3.map eR)))), (6, .u (.c (.sl true 2 (r1.map eR)))), (7, tI v4), (8, tI y8.2.1), (47, tB false)] (cgt 2 [32, 33] (cot 3 (os_plain rfl rfl (s_indexV (r := 6) (lo := 0) (n := (r1.map eR).length) (pl := none) (sz := 2) (e := v4) (ik := .i64) (k := (v4).toNat) rfl sl36 (by kernel_rfl) (.tmp (by kernel_rfl)) hg11.1 (by rw [List.length_map]; exact hg11.2) (Nat.zero_add _) rfl (by kernel_rfl) (by kernel_rfl))) (cgt 4 [35] (cot 5 (os_plain rfl rfl (s_load1 (x := .v (.int .i64 ((r1.getD ((v4).toNat) zR).o))) (r := 6) (off := 1) (s := .i ((v4).toNat) 2) (p := []) (c := .sl true 2 (r1.map eR)) (cs := eR (r1.getD ((v4).toNat) zR)) rfl (oneB_ok (by kernel_rfl)) (by kernel_rfl) (by kernel_rfl) (getP_map zR (by have := hg11; omega)) rfl rfl rfl (by kernel_rfl))) (cgt 6 [37] (cot 7 (os_ge (d := 38) (t := tB (decide (((r1.getD ((v4).toNat) zR).o) ≤ 3))) (t' := tB false) (by kernel_rfl) (by rw [hs16])) (cgt 16 [39, 40, 41, 42, 43, 44, 45, 46, 47] .nil))))))) ?_
      refine r_condF rfl rfl ?_
      refine r_skip ?_
      exact ⟨v3, (Option.some.inj h).symm, of_weak (by kernel_rfl)⟩
    rintro y10 rfl
    replace h := h_y10
    try dsimp only at h
    refine r_seq ?_
    obtain ⟨hg17, h⟩ := guard_some h
    simp only [Bool.and_eq_true, decide_eq_true_eq] at hg17
    rcases Bool.eq_false_or_eq_true (decide (((r1.getD ((v4).toNat) zR).o) > 3)) with hb | hb
    · have h := cond_t hb h
      have hs18 := hb
      obtain ⟨hg19, h⟩ := guard_some h
      simp only [Bool.and_eq_true, decide_eq_true_eq] at hg19
      rcases Bool.eq_false_or_eq_true (decide ((i64.wrap (a1 * 8)) ≥ ((r1.getD ((v4).toNat) zR).f))) with hb | hb
      · have h := cond_t hb h
        have hs20 := hb
        obtain ⟨hg21, h⟩ := guard_some h
        simp only [Bool.and_eq_true, decide_eq_true_eq] at hg21
        refine rr [(0, .u (.c (zmC y8.1))), (1, tI a1), (5, .u (.c (.sl true 2 (y10.map eR)))), (6, .u (.c (.sl true 2 (r1.map eR)))), (7, tI v4), (82, tB (decide ((i64.wrap (a1 * 8)) < (i64.wrap (((r1.getD ((v4).toNat) zR).f) + y8.2.1)))))] (cgt 2 [55, 56] (cot 3 (os_plain rfl rfl (s_indexV (r := 6) (lo := 0) (n := (r1.map eR).length) (pl := none) (sz := 2) (e := v4) (ik := .i64) (k := (v4).toNat) rfl sl36 (by kernel_rfl) (.tmp (by kernel_rfl)) hg17.1 (by rw [List.length_map]; exact hg17.2) (Nat.zero_add _) rfl (by kernel_rfl) (by kernel_rfl))) (cgt 4 [58] (cot 5 (os_plain rfl rfl (s_load1 (x := .v (.int .i64 ((r1.getD ((v4).toNat) zR).o))) (r := 6) (off := 1) (s := .i ((v4).toNat) 2) (p := []) (c := .sl true 2 (r1.map eR)) (cs := eR (r1.getD ((v4).toNat) zR)) rfl (oneB_ok (by kernel_rfl)) (by kernel_rfl) (by kernel_rfl) (getP_map zR (by have := hg17; omega)) rfl rfl rfl (by kernel_rfl))) (cgt 6 [60] (cot 7 (os_ge (d := 61) (t := tB (decide (((r1.getD ((v4).toNat) zR).o) > 3))) (t' := tB true) (by kernel_rfl) (by rw [hs18])) (cgt 11 [62, 63, 64, 65] (cot 12 (os_gy rfl rfl rfl (by kernel_rfl) (s_indexV (r := 6) (lo := 0) (n := (r1.map eR).length) (pl := none) (sz := 2) (e := v4) (ik := .i64) (k := (v4).toNat) rfl sl36 (by kernel_rfl) (.tmp (by kernel_rfl)) hg19.1 (by rw [List.length_map]; exact hg19.2) (Nat.zero_add _) rfl (by kernel_rfl) (by kernel_rfl))) (cgt 13 [67] (cot 14 (os_gy rfl rfl rfl (by kernel_rfl) (s_load1 (x := .v (.int .i64 ((r1.getD ((v4).toNat) zR).f))) (r := 6) (off := 0) (s := .i ((v4).toNat) 2) (p := []) (c := .sl true 2 (r1.map eR)) (cs := eR (r1.getD ((v4).toNat) zR)) rfl (oneB_ok (by kernel_rfl)) (by kernel_rfl) (by kernel_rfl) (getP_map zR (by have := hg19; omega)) rfl rfl rfl (by kernel_rfl))) (cgt 16 [69, 70] (cot 17 (os_ge (d := 71) (t := tB (decide ((i64.wrap (a1 * 8)) ≥ ((r1.getD ((v4).toNat) zR).f)))) (t' := tB true) (by kernel_rfl) (by rw [hs20])) (cgt 21 [72, 73, 74, 75] (cot 22 (os_gy rfl rfl rfl (by kernel_rfl) (s_indexV (r := 6) (lo := 0) (n := (r1.map eR).length) (pl := none) (sz := 2) (e := v4) (ik := .i64) (k := (v4).toNat) rfl sl36 (by kernel_rfl) (.tmp (by kernel_rfl)) hg21.1 (by rw [List.length_map]; exact hg21.2) (Nat.zero_add _) rfl (by kernel_rfl) (by kernel_rfl))) (cgt 23 [77] (cot 24 (os_gy rfl rfl rfl (by kernel_rfl) (s_load1 (x := .v (.int .i64 ((r1.getD ((v4).toNat) zR).f))) (r := 6) (off := 0) (s := .i ((v4).toNat) 2) (p := []) (c := .sl true 2 (r1.map eR)) (cs := eR (r1.getD ((v4).toNat) zR)) rfl (oneB_ok (by kernel_rfl)) (by kernel_rfl) (by kernel_rfl) (getP_map zR (by have := hg21; omega)) rfl rfl rfl (by kernel_rfl))) (cgt 28 [79, 80, 81, 82] .nil))))))))))))))))) ?_
        rcases Bool.eq_false_or_eq_true (decide ((i64.wrap (a1 * 8)) < (i64.wrap (((r1.getD ((v4).toNat) zR).f) + y8.2.1)))) with hb | hb
        · have h := cond_t hb h
          refine r_condT hb rfl ?_
          obtain ⟨hg22, h⟩ := guard_some h
          simp only [decide_eq_true_eq] at hg22
          refine rr [(0, .u (.c (zmC y8.1))), (1, tI a1), (5, .u (.c (.sl true 2 ((y10 ++ [(⟨i64.wrap (a1 * 8), 3⟩ : Blk)]).map eR)))), (6, .u (.c (.sl true 2 (r1.map eR)))), (7, tI v4)] (cot 1 (os_plain rfl rfl (s_take (u := .c (.sl true 2 (y10.map eR))) (.inl rfl) (.move (by kernel_rfl) rfl) rfl (by kernel_rfl))) (cgt 3 [84, 85] (cot 4 (os_plain rfl rfl (s_build (us := [(0, .c (.v (.int .i64 (i64.wrap (a1 * 8))))), (1, .c (.v (.int .i64 3)))]) (zs := [.v (.int .i64 0), .v (.int .i64 0)]) (cs := [.v (.int .i64 (i64.wrap (a1 * 8))), .v (.int .i64 3)]) rfl build39 zero39 (.cons (.copy (by kernel_rfl) (by kernel_rfl) (by kernel_rfl)) (.cons (.copy (by kernel_rfl) (by kernel_rfl) (by kernel_rfl)) .nil)) (by kernel_rfl) rfl (by kernel_rfl))) (cot 5 (os_toG (os_plain rfl rfl (s_buildSlice (sz := 2) (len := 1) (us := [(0, .agg [.v (.int .i64 (i64.wrap (a1 * 8))), .v (.int .i64 3)])]) (cs := [.v (.int .i64 (i64.wrap (a1 * 8))), .v (.int .i64 3)]) rfl sliceZ36 (.cons (.copy (by kernel_rfl) (by kernel_rfl) (by kernel_rfl)) .nil) (by kernel_rfl) (Nat.le_of_ble_eq_true rfl) rfl (by kernel_rfl))) (t' := .u (.c (.sl true 2 ([(⟨i64.wrap (a1 * 8), 3⟩ : Blk)].map eR)))) (by kernel_rfl)) (cot 6 (os_toG (os_plain rfl rfl (s_appendM (i := 83) (sz := 2) (rows := y10.map eR) (rows2 := [(⟨i64.wrap (a1 * 8), 3⟩ : Blk)].map eR) rfl sliceZ36 (by kernel_rfl) (.v0 (r := 87) (lo := 0) (n := ([(⟨i64.wrap (a1 * 8), 3⟩ : Blk)].map eR).length) (own := true) (rows := [(⟨i64.wrap (a1 * 8), 3⟩ : Blk)].map eR) (by kernel_rfl) (by kernel_rfl) rows_all) (copy_map eR_copy) (lenMap2 hg22) (Nat.le_of_ble_eq_true rfl) rfl (by kernel_rfl))) (t' := .u (.c (.sl true 2 ((y10 ++ [(⟨i64.wrap (a1 * 8), 3⟩ : Blk)]).map eR)))) (by simp only [List.map_append])) (cot 7 (os_plain rfl rfl (s_take (u := .c (.sl true 2 ((y10 ++ [(⟨i64.wrap (a1 * 8), 3⟩ : Blk)]).map eR))) (.inr rfl) (.move (by kernel_rfl) rfl) rfl (by kernel_rfl))) .nil)))))) ?_
          refine rr [(0, .u (.c (zmC y8.1))), (1, tI a1), (5, .u (.c (.sl true 2 ((y10 ++ [(⟨i64.wrap (a1 * 8), 3⟩ : Blk)]).map eR)))), (6, .u (.c (.sl true 2 (r1.map eR)))), (7, tI (i64.wrap (v4 + 1)))] (cgt 3 [19, 20, 7] .nil) ?_
          exact ⟨(y8.1, (y10 ++ [(⟨i64.wrap (a1 * 8), 3⟩ : Blk)]), i64.wrap (v4 + 1)), h, of_weak (by kernel_rfl)⟩
        have h := cond_f hb h
        refine r_condF hb rfl ?_
        refine r_skip ?_
        refine rr [(0, .u (.c (zmC y8.1))), (1, tI a1), (5, .u (.c (.sl true 2 (y10.map eR)))), (6, .u (.c (.sl true 2 (r1.map eR)))), (7, tI (i64.wrap (v4 + 1)))] (cgt 3 [19, 20, 7] .nil) ?_
        exact ⟨(y8.1, y10, i64.wrap (v4 + 1)), h, of_weak (by kernel_rfl)⟩
      have h := cond_f hb h
      have hs23 := hb
      refine rr [(0, .u (.c (zmC y8.1))), (1, tI a1), (5, .u (.c (.sl true 2 (y10.map eR)))), (6, .u (.c (.sl true 2 (r1.map eR)))), (7, tI v4), (82, tB false)] (cgt 2 [55, 56] (cot 3 (os_plain rfl rfl (s_indexV (r := 6) (lo := 0) (n := (r1.map eR).length) (pl := none) (sz := 2) (e := v4) (ik := .i64) (k := (v4).toNat) rfl sl36 (by kernel_rfl) (.tmp (by kernel_rfl)) hg17.1 (by rw [List.length_map]; exact hg17.2) (Nat.zero_add _) rfl (by kernel_rfl) (by kernel_rfl))) (cgt 4 [58] (cot 5 (os_plain rfl rfl (s_load1 (x := .v (.int .i64 ((r1.getD ((v4).toNat) zR).o))) (r := 6) (off := 1) (s := .i ((v4).toNat) 2) (p := []) (c := .sl true 2 (r1.map eR)) (cs := eR (r1.getD ((v4).toNat) zR)) rfl (oneB_ok (by kernel_rfl)) (by kernel_rfl) (by kernel_rfl) (getP_map zR (by have := hg17; omega)) rfl rfl rfl (by kernel_rfl))) (cgt 6 [60] (cot 7 (os_ge (d := 61) (t := tB (decide (((r1.getD ((v4).toNat) zR).o) > 3))) (t' := tB true) (by kernel_rfl) (by rw [hs18])) (cgt 11 [62, 63, 64, 65] (cot 12 (os_gy rfl rfl rfl (by kernel_rfl) (s_indexV (r := 6) (lo := 0) (n := (r1.map eR).length) (pl := none) (sz := 2) (e := v4) (ik := .i64) (k := (v4).toNat) rfl sl36 (by kernel_rfl) (.tmp (by kernel_rfl)) hg19.1 (by rw [List.length_map]; exact hg19.2) (Nat.zero_add _) rfl (by kernel_rfl) (by kernel_rfl))) (cgt 13 [67] (cot 14 (os_gy rfl rfl rfl (by kernel_rfl) (s_load1 (x := .v (.int .i64 ((r1.getD ((v4).toNat) zR).f))) (r := 6) (off := 0) (s := .i ((v4).toNat) 2) (p := []) (c := .sl true 2 (r1.map eR)) (cs := eR (r1.getD ((v4).toNat) zR)) rfl (oneB_ok (by kernel_rfl)) (by kernel_rfl) (by kernel_rfl) (getP_map zR (by have := hg19; omega)) rfl rfl rfl (by kernel_rfl))) (cgt 16 [69, 70] (cot 17 (os_ge (d := 71) (t := tB (decide ((i64.wrap (a1 * 8)) ≥ ((r1.getD ((v4).toNat) zR).f)))) (t' := tB false) (by kernel_rfl) (by rw [hs23])) (cgt 28 [72, 73, 74, 75, 76, 77, 78, 79, 80, 81, 82] .nil))))))))))))) ?_
      refine r_condF rfl rfl ?_
      refine r_skip ?_
      refine rr [(0, .u (.c (zmC y8.1))), (1, tI a1), (5, .u (.c (.sl true 2 (y10.map eR)))), (6, .u (.c (.sl true 2 (r1.map eR)))), (7, tI (i64.wrap (v4 + 1)))] (cgt 3 [19, 20, 7] .nil) ?_
      exact ⟨(y8.1, y10, i64.wrap (v4 + 1)), h, of_weak (by kernel_rfl)⟩
    have h := cond_f hb h
    have hs24 := hb
    refine rr [(0, .u (.c (zmC y8.1))), (1, tI a1), (5, .u (.c (.sl true 2 (y10.map eR)))), (6, .u (.c (.sl true 2 (r1.map eR)))), (7, tI v4), (82, tB false)] (cgt 2 [55, 56] (cot 3 (os_plain rfl rfl (s_indexV (r := 6) (lo := 0) (n := (r1.map eR).length) (pl := none) (sz := 2) (e := v4) (ik := .i64) (k := (v4).toNat) rfl sl36 (by kernel_rfl) (.tmp (by kernel_rfl)) hg17.1 (by rw [List.length_map]; exact hg17.2) (Nat.zero_add _) rfl (by kernel_rfl) (by kernel_rfl))) (cgt 4 [58] (cot 5 (os_plain rfl rfl (s_load1 (x := .v (.int .i64 ((r1.getD ((v4).toNat) zR).o))) (r := 6) (off := 1) (s := .i ((v4).toNat) 2) (p := []) (c := .sl true 2 (r1.map eR)) (cs := eR (r1.getD ((v4).toNat) zR)) rfl (oneB_ok (by kernel_rfl)) (by kernel_rfl) (by kernel_rfl) (getP_map zR (by have := hg17; omega)) rfl rfl rfl (by kernel_rfl))) (cgt 6 [60] (cot 7 (os_ge (d := 61) (t := tB (decide (((r1.getD ((v4).toNat) zR).o) > 3))) (t' := tB false) (by kernel_rfl) (by rw [hs24])) (cgt 28 [62, 63, 64, 65, 66, 67, 68, 69, 70, 71, 72, 73, 74, 75, 76, 77, 78, 79, 80, 81, 82] .nil))))))) ?_
    refine r_condF rfl rfl ?_
    refine r_skip ?_
    refine rr [(0, .u (.c (zmC y8.1))), (1, tI a1), (5, .u (.c (.sl true 2 (y10.map eR)))), (6, .u (.c (.sl true 2 (r1.map eR)))), (7, tI (i64.wrap (v4 + 1)))] (cgt 3 [19, 20, 7] .nil) ?_
    exact ⟨(y8.1, y10, i64.wrap (v4 + 1)), h, of_weak (by kernel_rfl)⟩
  have h := cond_f hb h
  refine r_condF hb rfl ?_
  refine r_exit ?_
  refine r_seq ?_
  refine rr [(0, .u (.c (zmC v2))), (4, .u (.c (.sl true 2 (v3.map eR))))] (cot 1 (os_plain rfl rfl (s_take (u := .c (.sl true 2 (v3.map eR))) (.inl rfl) (.move (by kernel_rfl) rfl) rfl (by kernel_rfl))) (cot 2 (os_plain rfl rfl (s_take (u := .c (.sl true 2 (v3.map eR))) (.inr rfl) (.move (by kernel_rfl) rfl) rfl (by kernel_rfl))) .nil)) ?_
  refine r_ret ?_
  obtain rfl := Option.some.inj h
  exact ⟨.inr rfl, _, _, .cons (.move rfl rfl) .nil, rfl, outs_of ⟨⟨rfl, rfl⟩, trivial⟩⟩
def MBest.j1 (k : Nat) (a0 : ZM) (a1 : Int) (a2 : Int) (a3 : Bool) (v1 : ZM) (v2 : Blk) (v3 : Int) (v4 : Int) : Option (Bool) :=
  (bif decide (0 ≤ v4) && decide (v4 < (v1.c.length : Int)) then (bif (v1.c.getD ((v4).toNat) false) then some true else (bif decide (a1 ≥ 0) then (bif decide (0 ≤ v4) && decide (v4 < (v1.t.length : Int)) then some ((v1.t.getD ((v4).toNat) (0 : Int)) != a1) else none) else some false)) else none)
def MBest.j2 (k : Nat) (a0 : ZM) (a1 : Int) (a2 : Int) (a3 : Bool) (v1 : ZM) (v2 : Blk) (v3 : Int) (v4 : Int) (y5 : Bool) (r12 : ZM × (List Blk)) (v13 : ZM) (v14 : Blk) (v15 : Int) (v16 : Int) : Option (Bool) :=
  (bif decide (v15 < 0) then some true else (bif a3 then (bif decide (0 ≤ v16) && decide (v16 < (r12.2.length : Int)) then (bif decide (((r12.2.getD ((v16).toNat) zR).o) < v14.o) then some true else (bif !a3 then (bif decide (0 ≤ v16) && decide (v16 < (r12.2.length : Int)) then some (decide (((r12.2.getD ((v16).toNat) zR).o) > v14.o)) else none) else some false)) else none) else (bif !a3 then (bif decide (0 ≤ v16) && decide (v16 < (r12.2.length : Int)) then some (decide (((r12.2.getD ((v16).toNat) zR).o) > v14.o)) else none) else some false)))
def MBest.l2 (k : Nat) (a0 : ZM) (a1 : Int) (a2 : Int) (a3 : Bool) (v1 : ZM) (v2 : Blk) (v3 : Int) (v4 : Int) (y5 : Bool) (r12 : ZM × (List Blk)) : Nat → ZM → Blk → Int → Int → Option (ZM × Blk × Int × Int)
  | 0, _, _, _, _ => none
  | n2 + 1, v13, v14, v15, v16 => (bif decide (v16 < (r12.2.length : Int)) then (MBest.j2 k a0 a1 a2 a3 v1 v2 v3 v4 y5 r12 v13 v14 v15 v16).bind fun (y18 : Bool) => (bif decide (0 ≤ v16) && decide (v16 < (r12.2.length : Int)) then (bif decide (((r12.2.getD ((v16).toNat) zR).o) ≥ a2) then (bif y18 then (bif decide (0 ≤ v16) && decide (v16 < (r12.2.length : Int)) then MBest.l2 k a0 a1 a2 a3 v1 v2 v3 v4 y5 r12 n2 v13 (r12.2.getD ((v16).toNat) zR) v4 (i64.wrap (v16 + 1)) else none) else MBest.l2 k a0 a1 a2 a3 v1 v2 v3 v4 y5 r12 n2 v13 v14 v15 (i64.wrap (v16 + 1))) else MBest.l2 k a0 a1 a2 a3 v1 v2 v3 v4 y5 r12 n2 v13 v14 v15 (i64.wrap (v16 + 1))) else none) else some (v13, v14, v15, v16))
def MBest.l1 (k : Nat) (a0 : ZM) (a1 : Int) (a2 : Int) (a3 : Bool) : Nat → ZM → Blk → Int → Int → Option (ZM × Blk × Int)
  | 0, _, _, _, _ => none
  | n1 + 1, v1, v2, v3, v4 => (bif decide (v4 < (v1.t.length : Int)) then (MBest.j1 k a0 a1 a2 a3 v1 v2 v3 v4).bind fun (y5 : Bool) => (bif y5 then MBest.l1 k a0 a1 a2 a3 n1 v1 v2 v3 (i64.wrap (v4 + 1)) else (MRooms.f k v1 v4).bind fun (r12 : ZM × (List Blk)) => (MBest.l2 k a0 a1 a2 a3 v1 v2 v3 v4 y5 r12 k r12.1 v2 v3 0).bind fun (y17 : ZM × Blk × Int × Int) => MBest.l1 k a0 a1 a2 a3 n1 y17.1 y17.2.1 y17.2.2.1 (i64.wrap (v4 + 1))) else some (v1, v2, v3))
set_option maxHeartbeats 4000000 in
def MBest.f (k : Nat) (a0 : ZM) (a1 : Int) (a2 : Int) (a3 : Bool) : Option (ZM × Blk × Int) :=
  MBest.l1 k a0 a1 a2 a3 k a0 (⟨0, 0⟩ : Blk) (-1) 0
set_option maxHeartbeats 4000000 in
theorem MBest.ac (k : Nat) (a0 : ZM) (a1 : Int) (a2 : Int) (a3 : Bool) (r : ZM × Blk × Int) (h : MBest.f k a0 a1 a2 a3 = some r) : AC Tryd.prog 28 43 [.c (zmC a0), .c (.v (.int .i64 a1)), .c (.v (.int .i64 a2)), .c (.v (.bool a3))] [some (.c (zmC r.1)), none, none, none] [.agg [.v (.int .i64 r.2.1.f), .v (.int .i64 r.2.1.o)], .c (.v (.int .i64 r.2.2))] := by
  unfold MBest.f at h
  refine ac_introCT (fn := Tryd.f43) (pins := [0]) (b := 8) (t := 39) (c2 := 9) Tryd.func43 rfl Tryd.ntmps43 rfl (Nat.le_of_ble_eq_true rfl) (pins_lt rfl) rfl (fun w R E vs => ?_)
  refine r_weak (of_weak (l := [(0, .u (.c (zmC a0))), (1, tI a1), (2, tI a2), (3, tB a3)]) (by kernel_rfl)) ?_
  refine r_seq ?_
  refine rr [(0, .u (.c (zmC a0))), (1, tI a1), (2, tI a2), (3, tB a3), (8, .u (.c (.pt true [.v (.int .i64 0), .v (.int .i64 0)])))] (cot 1 (os_plain rfl rfl (s_alloc rfl zero39 rfl (by kernel_rfl))) (cgt 2 [9] .nil)) ?_
  refine r_seq ?_
  refine rr [(0, .u (.c (zmC a0))), (1, tI a1), (2, tI a2), (3, tB a3), (8, .u (.c (.pt true [.v (.int .i64 0), .v (.int .i64 0)]))), (10, .u (.c (.pt true [.v (.int .i64 0), .v (.int .i64 0)])))] (cot 1 (os_plain rfl rfl (s_build (us := []) (zs := [.v (.int .i64 0), .v (.int .i64 0)]) (cs := [.v (.int .i64 0), .v (.int .i64 0)]) rfl build39 zero39 .nil (by kernel_rfl) rfl (by kernel_rfl))) (cot 2 (os_plain rfl rfl (s_alloc rfl zero39 rfl (by kernel_rfl))) (cot 3 (os_plain rfl rfl (s_storeS (n := 2) (r := 10) (off := 0) (s := .d) (p := []) (c := .pt true [.v (.int .i64 0), .v (.int .i64 0)]) (cs := [.v (.int .i64 0), .v (.int .i64 0)]) (u := .agg [.v (.int .i64 0), .v (.int .i64 0)]) rfl (by kernel_rfl) (by kernel_rfl) (by kernel_rfl) rfl (by kernel_rfl) rfl rfl rfl rfl (Nat.le_of_ble_eq_true rfl) (by kernel_rfl) (by kernel_rfl) rfl rfl)) .nil))) ?_
  refine r_seq ?_
  refine rr [(0, .u (.c (zmC a0))), (1, tI a1), (2, tI a2), (3, tB a3), (8, .u (.c (.pt true [.v (.int .i64 0), .v (.int .i64 0)]))), (10, .u (.c (.pt true [.v (.int .i64 0), .v (.int .i64 0)]))), (11, tI (-1))] (cgt 1 [11] .nil) ?_
  refine r_seq ?_
  refine r_seq ?_
  refine rr [(0, .u (.c (zmC a0))), (1, tI a1), (2, tI a2), (3, tB a3), (8, .u (.c (.pt true [.v (.int .i64 0), .v (.int .i64 0)]))), (10, .u (.c (.pt true [.v (.int .i64 0), .v (.int .i64 0)]))), (11, tI (-1)), (12, tI 0)] (cgt 1 [12] .nil) ?_
  refine r_block ?_
  refine r_weak (of_weak (l := [(0, .u (.c (zmC a0))), (1, tI a1), (2, tI a2), (3, tB a3), (8, .u (.c (.pt true [.v (.int .i64 0), .v (.int .i64 0)]))), (10, .u (.c (.pt true [.v (.int .i64 0), .v (.int .i64 0)]))), (11, tI (-1)), (12, tI 0)]) (by kernel_rfl)) ?_
  refine r_loopI (α := ZM × Blk × Int × Int) (fun x => [(0, .u (.c (zmC x.1))), (1, tI a1), (2, tI a2), (3, tB a3), (8, .u (.c (.pt true [.v (.int .i64 0), .v (.int .i64 0)]))), (10, .u (.c (.pt true [.v (.int .i64 x.2.1.f), .v (.int .i64 x.2.1.o)]))), (11, tI x.2.2.1), (12, tI x.2.2.2)]) (fun n x => MBest.l1 k a0 a1 a2 a3 n x.1 x.2.1 x.2.2.1 x.2.2.2 = some r) k (a0, (⟨0, 0⟩ : Blk), (-1), 0) h (by intro x h; unfold MBest.l1 at h; cases h) ?_
  rintro n1 ⟨v1, v2, v3, v4⟩ h
  replace h : MBest.l1 k a0 a1 a2 a3 (n1 + 1) v1 v2 v3 v4 = some r := h
  unfold MBest.l1 at h
  show Run _ _ _ (St.of [(0, .u (.c (zmC v1))), (1, tI a1), (2, tI a2), (3, tB a3), (8, .u (.c (.pt true [.v (.int .i64 0), .v (.int .i64 0)]))), (10, .u (.c (.pt true [.v (.int .i64 v2.f), .v (.int .i64 v2.o)]))), (11, tI v3), (12, tI v4)]) _
  refine r_seq ?_
  refine r_seq ?_
  refine rr [(0, .u (.c (zmC v1))), (1, tI a1), (2, tI a2), (3, tB a3), (8, .u (.c (.pt true [.v (.int .i64 0), .v (.int .i64 0)]))), (10, .u (.c (.pt true [.v (.int .i64 v2.f), .v (.int .i64 v2.o)]))), (11, tI v3), (12, tI v4), (23, tB (decide (v4 < (v1.t.length : Int))))] (cgt 5 [17, 18, 19, 20, 21] (cot 6 (os_to (os_plain rfl rfl (s_lenV (r := 0) (lo := 0) (n := (v1.t.map eI).length) (pl := (some (.d, [], 1))) (sz := 1) rfl sl48 (by kernel_rfl) rfl (by kernel_rfl))) (t' := tI (v1.t.length : Int)) (by rw [List.length_map])) (cgt 7 [23] .nil))) ?_
  rcases Bool.eq_false_or_eq_true (decide (v4 < (v1.t.length : Int))) with hb | hb
  · have h := cond_t hb h
    refine r_condT hb rfl ?_
    refine r_skip ?_
    refine r_seq ?_
    refine r_block ?_
    refine r_seq ?_
    refine r_seq ?_
    obtain ⟨y5, hy5, h_y5⟩ := bind_some h
    refine r_joinC (α := Bool) (fun x => [(0, .u (.c (zmC v1))), (1, tI a1), (2, tI a2), (3, tB a3), (8, .u (.c (.pt true [.v (.int .i64 0), .v (.int .i64 0)]))), (10, .u (.c (.pt true [.v (.int .i64 v2.f), .v (.int .i64 v2.o)]))), (11, tI v3), (12, tI v4), (47, tB x)]) (fun x => y5 = x) ?_ ?_
    · replace h := hy5
      unfold MBest.j1 at h
      obtain ⟨hg6, h⟩ := guard_some h
      simp only [Bool.and_eq_true, decide_eq_true_eq] at hg6
      rcases Bool.eq_false_or_eq_true ((v1.c.getD ((v4).toNat) false)) with hb | hb
      · have h := cond_t hb h
        have hs7 := hb
        refine rr [(0, .u (.c (zmC v1))), (1, tI a1), (2, tI a2), (3, tB a3), (8, .u (.c (.pt true [.v (.int .i64 0), .v (.int .i64 0)]))), (10, .u (.c (.pt true [.v (.int .i64 v2.f), .v (.int .i64 v2.o)]))), (11, tI v3), (12, tI v4), (47, tB true)] (cgt 5 [26, 27, 28, 29, 30] (cot 6 (os_plain rfl rfl (s_indexV (r := 0) (lo := 0) (n := (v1.c.map eB).length) (pl := (some (.d, [], 2))) (sz := 1) (e := v4) (ik := .i64) (k := (v4).toNat) rfl sl52 (by kernel_rfl) (.tmp (by kernel_rfl)) hg6.1 (by rw [List.length_map]; exact hg6.2) (Nat.zero_add _) rfl (by kernel_rfl) (by kernel_rfl))) (cot 7 (os_plain rfl rfl (s_load1 (x := .v (.bool (v1.c.getD ((v4).toNat) false))) (r := 0) (off := 0) (s := .d) (p := [(2, .i ((v4).toNat) 1)]) (c := zmC v1) (cs := (eB (v1.c.getD ((v4).toNat) false))) rfl (oneB_ok (by kernel_rfl)) (by kernel_rfl) (by kernel_rfl) (getP_in (c' := .sl true 1 (v1.c.map eB)) rfl (getP_map (f := eB) (own := true) (xs := v1.c) (k := (v4).toNat) false (by have := hg6; omega))) rfl rfl rfl (by kernel_rfl))) (cot 8 (os_ge (d := 33) (t := tB (v1.c.getD ((v4).toNat) false)) (t' := tB true) (by kernel_rfl) (by rw [hs7])) (cgt 22 [34, 35, 36, 37, 38, 39, 40, 41, 42, 43, 44, 45, 46, 47] .nil))))) ?_
        exact ⟨true, (Option.some.inj h).symm, of_weak (by kernel_rfl)⟩
      have h := cond_f hb h
      have hs8 := hb
      rcases Bool.eq_false_or_eq_true (decide (a1 ≥ 0)) with hb | hb
      · have h := cond_t hb h
        have hs9 := hb
        obtain ⟨hg10, h⟩ := guard_some h
        simp only [Bool.and_eq_true, decide_eq_true_eq] at hg10
        refine rr [(0, .u (.c (zmC v1))), (1, tI a1), (2, tI a2), (3, tB a3), (8, .u (.c (.pt true [.v (.int .i64 0), .v (.int .i64 0)]))), (10, .u (.c (.pt true [.v (.int .i64 v2.f), .v (.int .i64 v2.o)]))), (11, tI v3), (12, tI v4), (47, tB ((v1.t.getD ((v4).toNat) (0 : Int)) != a1))] (cgt 5 [26, 27, 28, 29, 30] (cot 6 (os_plain rfl rfl (s_indexV (r := 0) (lo := 0) (n := (v1.c.map eB).length) (pl := (some (.d, [], 2))) (sz := 1) (e := v4) (ik := .i64) (k := (v4).toNat) rfl sl52 (by kernel_rfl) (.tmp (by kernel_rfl)) hg6.1 (by rw [List.length_map]; exact hg6.2) (Nat.zero_add _) rfl (by kernel_rfl) (by kernel_rfl))) (cot 7 (os_plain rfl rfl (s_load1 (x := .v (.bool (v1.c.getD ((v4).toNat) false))) (r := 0) (off := 0) (s := .d) (p := [(2, .i ((v4).toNat) 1)]) (c := zmC v1) (cs := (eB (v1.c.getD ((v4).toNat) false))) rfl (oneB_ok (by kernel_rfl)) (by kernel_rfl) (by kernel_rfl) (getP_in (c' := .sl true 1 (v1.c.map eB)) rfl (getP_map (f := eB) (own := true) (xs := v1.c) (k := (v4).toNat) false (by have := hg6; omega))) rfl rfl rfl (by kernel_rfl))) (cot 8 (os_ge (d := 33) (t := tB (v1.c.getD ((v4).toNat) false)) (t' := tB false) (by kernel_rfl) (by rw [hs8])) (cgt 10 [34, 35] (cot 11 (os_ge (d := 36) (t := tB (decide (a1 ≥ 0))) (t' := tB true) (by kernel_rfl) (by rw [hs9])) (cgt 16 [37, 38, 39, 40, 41] (cot 17 (os_gy rfl rfl rfl (by kernel_rfl) (s_indexV (r := 0) (lo := 0) (n := (v1.t.map eI).length) (pl := (some (.d, [], 1))) (sz := 1) (e := v4) (ik := .i64) (k := (v4).toNat) rfl sl48 (by kernel_rfl) (.tmp (by kernel_rfl)) hg10.1 (by rw [List.length_map]; exact hg10.2) (Nat.zero_add _) rfl (by kernel_rfl) (by kernel_rfl))) (cot 18 (os_gy rfl rfl rfl (by kernel_rfl) (s_load1 (x := .v (.int .i64 (v1.t.getD ((v4).toNat) (0 : Int)))) (r := 0) (off := 0) (s := .d) (p := [(1, .i ((v4).toNat) 1)]) (c := zmC v1) (cs := (eI (v1.t.getD ((v4).toNat) (0 : Int)))) rfl (oneB_ok (by kernel_rfl)) (by kernel_rfl) (by kernel_rfl) (getP_in (c' := .sl true 1 (v1.t.map eI)) rfl (getP_map (f := eI) (own := true) (xs := v1.t) (k := (v4).toNat) (0 : Int) (by have := hg10; omega))) rfl rfl rfl (by kernel_rfl))) (cgt 22 [44, 45, 46, 47] .nil)))))))))) ?_
        exact ⟨(v1.t.getD ((v4).toNat) (0 : Int)) != a1, (Option.some.inj h).symm, of_weak (by kernel_rfl)⟩
      have h := cond_f hb h
      have hs11 := hb
      refine rr [(0, .u (.c (zmC v1))), (1, tI a1), (2, tI a2), (3, tB a3), (8, .u (.c (.pt true [.v (.int .i64 0), .v (.int .i64 0)]))), (10, .u (.c (.pt true [.v (.int .i64 v2.f), .v (.int .i64 v2.o)]))), (11, tI v3), (12, tI v4), (47, tB false)] (cgt 5 [26, 27, 28, 29, 30] (cot 6 (os_plain rfl rfl (s_indexV (r := 0) (lo := 0) (n := (v1.c.map eB).length) (pl := (some (.d, [], 2))) (sz := 1) (e := v4) (ik := .i64) (k := (v4).toNat) rfl sl52 (by kernel_rfl) (.tmp (by kernel_rfl)) hg6.1 (by rw [List.length_map]; exact hg6.2) (Nat.zero_add _) rfl (by kernel_rfl) (by kernel_rfl))) (cot 7 (os_plain rfl rfl (s_load1 (x := .v (.bool (v1.c.getD ((v4).toNat) false))) (r := 0) (off := 0) (s := .d) (p := [(2, .i ((v4).toNat) 1)]) (c := zmC v1) (cs := (eB (v1.c.getD ((v4).toNat) false))) rfl (oneB_ok (by kernel_rfl)) (by kernel_rfl) (by kernel_rfl) (getP_in (c' := .sl true 1 (v1.c.map eB)) rfl (getP_map (f := eB) (own := true) (xs := v1.c) (k := (v4).toNat) false (by have := hg6; omega))) rfl rfl rfl (by kernel_rfl))) (cot 8 (os_ge (d := 33) (t := tB (v1.c.getD ((v4).toNat) false)) (t' := tB false) (by kernel_rfl) (by rw [hs8])) (cgt 10 [34, 35] (cot 11 (os_ge (d := 36) (t := tB (decide (a1 ≥ 0))) (t' := tB false) (by kernel_rfl) (by rw [hs11])) (cgt 22 [37, 38, 39, 40, 41, 42, 43, 44, 45, 46, 47] .nil))))))) ?_
      exact ⟨false, (Option.some.inj h).symm, of_weak (by kernel_rfl)⟩
    rintro y5 rfl
    replace h := h_y5
    try dsimp only at h
    rcases Bool.eq_false_or_eq_true (y5) with hb | hb
    · have h := cond_t hb h
      refine r_condT hb rfl ?_
      refine r_exit ?_
      refine rr [(0, .u (.c (zmC v1))), (1, tI a1), (2, tI a2), (3, tB a3), (8, .u (.c (.pt true [.v (.int .i64 0), .v (.int .i64 0)]))), (10, .u (.c (.pt true [.v (.int .i64 v2.f), .v (.int .i64 v2.o)]))), (11, tI v3), (12, tI (i64.wrap (v4 + 1)))] (cgt 3 [24, 25, 12] .nil) ?_
      exact ⟨(v1, v2, v3, i64.wrap (v4 + 1)), h, of_weak (by kernel_rfl)⟩
    have h := cond_f hb h
    refine r_condF hb rfl ?_
    refine r_skip ?_
    refine r_seq ?_
    obtain ⟨r12, hr12, h⟩ := bind_some h
    refine rr [(0, .u (.c (zmC r12.1))), (1, tI a1), (2, tI a2), (3, tB a3), (8, .u (.c (.pt true [.v (.int .i64 0), .v (.int .i64 0)]))), (10, .u (.c (.pt true [.v (.int .i64 v2.f), .v (.int .i64 v2.o)]))), (11, tI v3), (12, tI v4), (13, .u (.c (.sl true 2 (r12.2.map eR))))] (cgt 2 [48, 49] (cot 3 (os_plain rfl rfl (c_call (AC.k (MRooms.ac (h := hr12))) ⟨_, Tryd.func51, rfl, by kernel_rfl⟩ rfl (hand_root (r := 0) (c := zmC v1) (by kernel_rfl) (by kernel_rfl) rfl (.rd (.copy (by kernel_rfl) rfl) .nil)) rfl (by kernel_rfl))) (cot 4 (os_plain rfl rfl (s_take (u := .c (.sl true 2 (r12.2.map eR))) (.inr rfl) (.move (by kernel_rfl) rfl) rfl (by kernel_rfl))) .nil))) ?_
    refine r_seq ?_
    refine rr [(0, .u (.c (zmC r12.1))), (1, tI a1), (2, tI a2), (3, tB a3), (8, .u (.c (.pt true [.v (.int .i64 0), .v (.int .i64 0)]))), (10, .u (.c (.pt true [.v (.int .i64 v2.f), .v (.int .i64 v2.o)]))), (11, tI v3), (12, tI v4), (13, .u (.c (.sl true 2 (r12.2.map eR)))), (14, tI 0)] (cgt 1 [14] .nil) ?_
    refine r_block ?_
    refine r_weak (of_weak (l := [(0, .u (.c (zmC r12.1))), (1, tI a1), (2, tI a2), (3, tB a3), (8, .u (.c (.pt true [.v (.int .i64 0), .v (.int .i64 0)]))), (10, .u (.c (.pt true [.v (.int .i64 v2.f), .v (.int .i64 v2.o)]))), (11, tI v3), (12, tI v4), (13, .u (.c (.sl true 2 (r12.2.map eR)))), (14, tI 0)]) (by kernel_rfl)) ?_
    obtain ⟨y17, hy17, h_y17⟩ := bind_some h
    refine r_loopI (α := ZM × Blk × Int × Int) (fun x => [(0, .u (.c (zmC x.1))), (1, tI a1), (2, tI a2), (3, tB a3), (8, .u (.c (.pt true [.v (.int .i64 0), .v (.int .i64 0)]))), (10, .u (.c (.pt true [.v (.int .i64 x.2.1.f), .v (.int .i64 x.2.1.o)]))), (11, tI x.2.2.1), (12, tI v4), (13, .u (.c (.sl true 2 (r12.2.map eR)))), (14, tI x.2.2.2)]) (fun n x => MBest.l2 k a0 a1 a2 a3 v1 v2 v3 v4 y5 r12 n x.1 x.2.1 x.2.2.1 x.2.2.2 = some y17) k (r12.1, v2, v3, 0) hy17 (by intro x h; unfold MBest.l2 at h; cases h) ?_
    rintro n2 ⟨v13, v14, v15, v16⟩ h
    replace h : MBest.l2 k a0 a1 a2 a3 v1 v2 v3 v4 y5 r12 (n2 + 1) v13 v14 v15 v16 = some y17 := h
    unfold MBest.l2 at h
    show Run _ _ _ (St.of [(0, .u (.c (zmC v13))), (1, tI a1), (2, tI a2), (3, tB a3), (8, .u (.c (.pt true [.v (.int .i64 0), .v (.int .i64 0)]))), (10, .u (.c (.pt true [.v (.int .i64 v14.f), .v (.int .i64 v14.o)]))), (11, tI v15), (12, tI v4), (13, .u (.c (.sl true 2 (r12.2.map eR)))), (14, tI v16)]) _
    refine r_seq ?_
    refine r_seq ?_
    refine rr [(0, .u (.c (zmC v13))), (1, tI a1), (2, tI a2), (3, tB a3), (8, .u (.c (.pt true [.v (.int .i64 0), .v (.int .i64 0)]))), (10, .u (.c (.pt true [.v (.int .i64 v14.f), .v (.int .i64 v14.o)]))), (11, tI v15), (12, tI v4), (13, .u (.c (.sl true 2 (r12.2.map eR)))), (14, tI v16), (54, tB (decide (v16 < (r12.2.length : Int))))] (cgt 2 [51, 52] (cot 3 (os_to (os_plain rfl rfl (s_lenV (r := 13) (lo := 0) (n := (r12.2.map eR).length) (pl := none) (sz := 2) rfl sl36 (by kernel_rfl) rfl (by kernel_rfl))) (t' := tI (r12.2.length : Int)) (by rw [List.length_map])) (cgt 4 [54] .nil))) ?_
    rcases Bool.eq_false_or_eq_true (decide (v16 < (r12.2.length : Int))) with hb | hb
    · have h := cond_t hb h
      refine r_condT hb rfl ?_
      refine r_skip ?_
      refine r_seq ?_
      refine r_block ?_
      refine r_seq ?_
      obtain ⟨y18, hy18, h_y18⟩ := bind_some h
      refine r_joinC (α := Bool) (fun x => [(0, .u (.c (zmC v13))), (1, tI a1), (2, tI a2), (3, tB a3), (8, .u (.c (.pt true [.v (.int .i64 0), .v (.int .i64 0)]))), (10, .u (.c (.pt true [.v (.int .i64 v14.f), .v (.int .i64 v14.o)]))), (11, tI v15), (12, tI v4), (13, .u (.c (.sl true 2 (r12.2.map eR)))), (14, tI v16), (15, tB x)]) (fun x => y18 = x) ?_ ?_
      · replace h := hy18
        unfold MBest.j2 at h
        rcases Bool.eq_false_or_eq_true (decide (v15 < 0)) with hb | hb
        · have h := cond_t hb h
          have hs19 := hb
          refine r_weak (of_weak (l := [(0, .u (.c (zmC v13))), (1, tI a1), (2, tI a2), (3, tB a3), (8, .u (.c (.pt true [.v (.int .i64 0), .v (.int .i64 0)]))), (10, .u (.c (.pt true [.v (.int .i64 v14.f), .v (.int .i64 v14.o)]))), (11, tI v15), (12, tI v4), (13, .u (.c (.sl true 2 (r12.2.map eR)))), (14, tI v16), (54, tB (decide (v16 < (r12.2.length : Int))))]) (by kernel_rfl)) ?_
          refine r_anyW (l := [(0, .u (.c (zmC v13))), (1, tI a1), (2, tI a2), (3, tB a3), (8, .u (.c (.pt true [.v (.int .i64 0), .v (.int .i64 0)]))), (10, .u (.c (.pt true [.v (.int .i64 v14.f), .v (.int .i64 v14.o)]))), (11, tI v15), (12, tI v4), (13, .u (.c (.sl true 2 (r12.2.map eR)))), (14, tI v16), (15, tB true)]) (tab := [[], [0], [1], [2], [3, 2, 2], [4], [4], [5, 6, 4], [7, 4], [8, 4], [4], [10, 4], [9, 11, 4], [4, 12, 2], [2, 13], [14, 4], [15], [16, 15], [17, 15, 15], [18], [18], [19, 20, 18], [21, 18], [22, 18], [18], [24, 18], [23, 25, 18], [18, 26, 15], [15, 27], [28, 18, 0, 1, 2, 3, 4, 5, 6, 7, 8, 9, 10, 11, 12, 13, 14, 15, 16, 17, 18, 19, 20, 21, 22, 23, 24, 25, 26, 27, 28]]) [ev [] [11] 57 (tI v15), ev [0] [57] 58 (tB (decide (v15 < 0))), ev [0, 1] [58] 59 (tB true), ev [0, 1, 2] [59] 60 (.tup []), ev [0, 1, 2, 3] [59] 61 (.tup []), ev [0, 1, 2, 3, 4] [61] 62 (.tup []), ev [0, 1, 2, 3, 4] [61] 63 (.tup []), eu 7 [61] 64 (.tup []), eu 8 [61] 65 (.tup []), eu 9 [61] 66 (.tup []), ev [0, 1, 2, 3, 4] [61] 67 (.tup []), ev [0, 1, 2, 3, 4, 10] [61] 68 (.tup []), eu 12 [61] 69 (.tup []), eu 13 [59] 70 (.tup []), eu 14 [59] 71 (tB true), eu 15 [71] 72 (tB true), eu 16 [72] 73 (.tup []), eu 17 [72] 74 (.tup []), eu 18 [72] 75 (.tup []), eu 19 [75] 76 (.tup []), eu 19 [75] 77 (.tup []), eu 21 [75] 78 (.tup []), eu 22 [75] 79 (.tup []), eu 23 [75] 80 (.tup []), eu 19 [75] 81 (.tup []), ev [0, 1, 2, 3, 4, 5, 6, 7, 8, 9, 10, 11, 12, 13, 14, 15, 16, 17, 18, 24] [75] 82 (.tup []), eu 26 [75] 83 (.tup []), eu 27 [72] 84 (.tup []), eu 28 [72] 85 (tB true), eu 29 [85] 15 (tB true)] hm (by kernel_rfl) (by kernel_rfl) (by kernel_rfl) (en (en (.cons (fun σ hc => e_put hc rfl rfl (os_ge (d := 59) (t := tB (decide (v15 < 0))) (t' := tB true) (by kernel_rfl) (by rw [hs19]))) (en (en (en (en (en (en (en (en (en (en (en (en (en (en (en (en (en (en (en (en (en (en (en (en (en (en (en .nil)))))))))))))))))))))))))))))) (by kernel_rfl) ?_
          exact ⟨true, (Option.some.inj h).symm, of_weak (by kernel_rfl)⟩
        have h := cond_f hb h
        have hs20 := hb
        rcases Bool.eq_false_or_eq_true (a3) with hb | hb
        · have h := cond_t hb h
          have hs21 := hb
          obtain ⟨hg22, h⟩ := guard_some h
          simp only [Bool.and_eq_true, decide_eq_true_eq] at hg22
          rcases Bool.eq_false_or_eq_true (decide (((r12.2.getD ((v16).toNat) zR).o) < v14.o)) with hb | hb
          · have h := cond_t hb h
            have hs23 := hb
            refine r_weak (of_weak (l := [(0, .u (.c (zmC v13))), (1, tI a1), (2, tI a2), (3, tB a3), (8, .u (.c (.pt true [.v (.int .i64 0), .v (.int .i64 0)]))), (10, .u (.c (.pt true [.v (.int .i64 v14.f), .v (.int .i64 v14.o)]))), (11, tI v15), (12, tI v4), (13, .u (.c (.sl true 2 (r12.2.map eR)))), (14, tI v16), (54, tB (decide (v16 < (r12.2.length : Int))))]) (by kernel_rfl)) ?_
            refine r_anyW (l := [(0, .u (.c (zmC v13))), (1, tI a1), (2, tI a2), (3, tB a3), (8, .u (.c (.pt true [.v (.int .i64 0), .v (.int .i64 0)]))), (10, .u (.c (.pt true [.v (.int .i64 v14.f), .v (.int .i64 v14.o)]))), (11, tI v15), (12, tI v4), (13, .u (.c (.sl true 2 (r12.2.map eR)))), (14, tI v16), (15, tB true)]) (tab := [[], [0], [1], [2], [3, 2, 2], [4], [4], [5, 6, 4], [7, 4], [8, 4], [4], [10, 4], [9, 11, 4], [4, 12, 2], [2, 13], [14, 4], [15], [16, 15], [17, 15, 15], [18], [18], [19, 20, 18], [21, 18], [22, 18], [18], [24, 18], [23, 25, 18], [18, 26, 15], [15, 27], [28, 18, 0, 1, 2, 3, 4, 5, 6, 7, 8, 9, 10, 11, 12, 13, 14, 15, 16, 17, 18, 19, 20, 21, 22, 23, 24, 25, 26, 27, 28]]) [ev [] [11] 57 (tI v15), ev [0] [57] 58 (tB (decide (v15 < 0))), ev [0, 1] [58] 59 (tB false), ev [0, 1, 2] [3, 59] 60 (tB a3), ev [0, 1, 2, 3] [59, 60] 61 (tB true), ev [0, 1, 2, 3, 4] [13, 61] 62 (.whole 13 none 2 ((r12.2.map eR).length)), ev [0, 1, 2, 3, 4] [14, 61] 63 (tI v16), eu 7 [13, 61, 62, 63] 64 (.addr 13 (.i ((v16).toNat) 2) [] 0), eu 8 [61, 64] 65 (.addr 13 (.i ((v16).toNat) 2) [] 1), eu 9 [13, 61, 65] 66 (tI ((r12.2.getD ((v16).toNat) zR).o)), ev [0, 1, 2, 3, 4] [10, 61] 67 (.addr 10 (.d) [] 1), ev [0, 1, 2, 3, 4, 10] [10, 61, 67] 68 (tI v14.o), eu 12 [61, 66, 68] 69 (tB (decide (((r12.2.getD ((v16).toNat) zR).o) < v14.o))), eu 13 [59, 61, 69] 70 (tB (decide (((r12.2.getD ((v16).toNat) zR).o) < v14.o))), eu 14 [59, 70] 71 (tB (decide (((r12.2.getD ((v16).toNat) zR).o) < v14.o))), eu 15 [71] 72 (tB true), eu 16 [72] 73 (.tup []), eu 17 [72] 74 (.tup []), eu 18 [72] 75 (.tup []), eu 19 [75] 76 (.tup []), eu 19 [75] 77 (.tup []), eu 21 [75] 78 (.tup []), eu 22 [75] 79 (.tup []), eu 23 [75] 80 (.tup []), eu 19 [75] 81 (.tup []), ev [0, 1, 2, 3, 4, 5, 6, 7, 8, 9, 10, 11, 12, 13, 14, 15, 16, 17, 18, 24] [75] 82 (.tup []), eu 26 [75] 83 (.tup []), eu 27 [72] 84 (.tup []), eu 28 [72] 85 (tB true), eu 29 [85] 15 (tB true)] hm (by kernel_rfl) (by kernel_rfl) (by kernel_rfl) (en (en (.cons (fun σ hc => e_put hc rfl rfl (os_ge (d := 59) (t := tB (decide (v15 < 0))) (t' := tB false) (by kernel_rfl) (by rw [hs20]))) (en (.cons (fun σ hc => e_put hc rfl rfl (os_ge (d := 61) (t := tB a3) (t' := tB true) (by kernel_rfl) (by rw [hs21]))) (en (en (.cons (fun σ hc => e_put hc rfl rfl (os_gy rfl rfl rfl (by kernel_rfl) (s_indexV (r := 13) (lo := 0) (n := (r12.2.map eR).length) (pl := none) (sz := 2) (e := v16) (ik := .i64) (k := (v16).toNat) rfl sl36 (by kernel_rfl) (.tmp (by kernel_rfl)) hg22.1 (by rw [List.length_map]; exact hg22.2) (Nat.zero_add _) rfl (by kernel_rfl) (by kernel_rfl)))) (en (.cons (fun σ hc => e_put hc rfl rfl (os_gy rfl rfl rfl (by kernel_rfl) (s_load1 (x := .v (.int .i64 ((r12.2.getD ((v16).toNat) zR).o))) (r := 13) (off := 1) (s := .i ((v16).toNat) 2) (p := []) (c := .sl true 2 (r12.2.map eR)) (cs := eR (r12.2.getD ((v16).toNat) zR)) rfl (oneB_ok (by kernel_rfl)) (by kernel_rfl) (by kernel_rfl) (getP_map zR (by have := hg22; omega)) rfl rfl rfl (by kernel_rfl)))) (en (en (en (en (en (.cons (fun σ hc => e_put hc rfl rfl (os_ge (d := 72) (t := tB (decide (((r12.2.getD ((v16).toNat) zR).o) < v14.o))) (t' := tB true) (by kernel_rfl) (by rw [hs23]))) (en (en (en (en (en (en (en (en (en (en (en (en (en (en .nil)))))))))))))))))))))))))))))) (by kernel_rfl) ?_
            exact ⟨true, (Option.some.inj h).symm, of_weak (by kernel_rfl)⟩
          have h := cond_f hb h
          have hs24 := hb
          rcases Bool.eq_false_or_eq_true (!a3) with hb | hb
          · have h := cond_t hb h
            have hs25 := hb
            obtain ⟨hg26, h⟩ := guard_some h
            simp only [Bool.and_eq_true, decide_eq_true_eq] at hg26
            refine r_weak (of_weak (l := [(0, .u (.c (zmC v13))), (1, tI a1), (2, tI a2), (3, tB a3), (8, .u (.c (.pt true [.v (.int .i64 0), .v (.int .i64 0)]))), (10, .u (.c (.pt true [.v (.int .i64 v14.f), .v (.int .i64 v14.o)]))), (11, tI v15), (12, tI v4), (13, .u (.c (.sl true 2 (r12.2.map eR)))), (14, tI v16), (54, tB (decide (v16 < (r12.2.length : Int))))]) (by kernel_rfl)) ?_
            refine r_anyW (l := [(0, .u (.c (zmC v13))), (1, tI a1), (2, tI a2), (3, tB a3), (8, .u (.c (.pt true [.v (.int .i64 0), .v (.int .i64 0)]))), (10, .u (.c (.pt true [.v (.int .i64 v14.f), .v (.int .i64 v14.o)]))), (11, tI v15), (12, tI v4), (13, .u (.c (.sl true 2 (r12.2.map eR)))), (14, tI v16), (15, tB (decide (((r12.2.getD ((v16).toNat) zR).o) > v14.o)))]) (tab := [[], [0], [1], [2], [3, 2, 2], [4], [4], [5, 6, 4], [7, 4], [8, 4], [4], [10, 4], [9, 11, 4], [4, 12, 2], [2, 13], [14, 4], [15], [16, 15], [17, 15, 15], [18], [18], [19, 20, 18], [21, 18], [22, 18], [18], [24, 18], [23, 25, 18], [18, 26, 15], [15, 27], [28, 18, 0, 1, 2, 3, 4, 5, 6, 7, 8, 9, 10, 11, 12, 13, 14, 15, 16, 17, 18, 19, 20, 21, 22, 23, 24, 25, 26, 27, 28]]) [ev [] [11] 57 (tI v15), ev [0] [57] 58 (tB (decide (v15 < 0))), ev [0, 1] [58] 59 (tB false), ev [0, 1, 2] [3, 59] 60 (tB a3), ev [0, 1, 2, 3] [59, 60] 61 (tB true), ev [0, 1, 2, 3, 4] [13, 61] 62 (.whole 13 none 2 ((r12.2.map eR).length)), ev [0, 1, 2, 3, 4] [14, 61] 63 (tI v16), eu 7 [13, 61, 62, 63] 64 (.addr 13 (.i ((v16).toNat) 2) [] 0), eu 8 [61, 64] 65 (.addr 13 (.i ((v16).toNat) 2) [] 1), eu 9 [13, 61, 65] 66 (tI ((r12.2.getD ((v16).toNat) zR).o)), ev [0, 1, 2, 3, 4] [10, 61] 67 (.addr 10 (.d) [] 1), ev [0, 1, 2, 3, 4, 10] [10, 61, 67] 68 (tI v14.o), eu 12 [61, 66, 68] 69 (tB (decide (((r12.2.getD ((v16).toNat) zR).o) < v14.o))), eu 13 [59, 61, 69] 70 (tB (decide (((r12.2.getD ((v16).toNat) zR).o) < v14.o))), eu 14 [59, 70] 71 (tB (decide (((r12.2.getD ((v16).toNat) zR).o) < v14.o))), eu 15 [71] 72 (tB false), eu 16 [3, 72] 73 (tB a3), eu 17 [72, 73] 74 (tB (!a3)), eu 18 [72, 74] 75 (tB true), eu 19 [13, 75] 76 (.whole 13 none 2 ((r12.2.map eR).length)), eu 19 [14, 75] 77 (tI v16), eu 21 [13, 75, 76, 77] 78 (.addr 13 (.i ((v16).toNat) 2) [] 0), eu 22 [75, 78] 79 (.addr 13 (.i ((v16).toNat) 2) [] 1), eu 23 [13, 75, 79] 80 (tI ((r12.2.getD ((v16).toNat) zR).o)), eu 19 [10, 75] 81 (.addr 10 (.d) [] 1), ev [0, 1, 2, 3, 4, 5, 6, 7, 8, 9, 10, 11, 12, 13, 14, 15, 16, 17, 18, 24] [10, 75, 81] 82 (tI v14.o), eu 26 [75, 80, 82] 83 (tB (decide (((r12.2.getD ((v16).toNat) zR).o) > v14.o))), eu 27 [72, 75, 83] 84 (tB (decide (((r12.2.getD ((v16).toNat) zR).o) > v14.o))), eu 28 [72, 84] 85 (tB (decide (((r12.2.getD ((v16).toNat) zR).o) > v14.o))), eu 29 [85] 15 (tB (decide (((r12.2.getD ((v16).toNat) zR).o) > v14.o)))] hm (by kernel_rfl) (by kernel_rfl) (by kernel_rfl) (en (en (.cons (fun σ hc => e_put hc rfl rfl (os_ge (d := 59) (t := tB (decide (v15 < 0))) (t' := tB false) (by kernel_rfl) (by rw [hs20]))) (en (.cons (fun σ hc => e_put hc rfl rfl (os_ge (d := 61) (t := tB a3) (t' := tB true) (by kernel_rfl) (by rw [hs21]))) (en (en (.cons (fun σ hc => e_put hc rfl rfl (os_gy rfl rfl rfl (by kernel_rfl) (s_indexV (r := 13) (lo := 0) (n := (r12.2.map eR).length) (pl := none) (sz := 2) (e := v16) (ik := .i64) (k := (v16).toNat) rfl sl36 (by kernel_rfl) (.tmp (by kernel_rfl)) hg22.1 (by rw [List.length_map]; exact hg22.2) (Nat.zero_add _) rfl (by kernel_rfl) (by kernel_rfl)))) (en (.cons (fun σ hc => e_put hc rfl rfl (os_gy rfl rfl rfl (by kernel_rfl) (s_load1 (x := .v (.int .i64 ((r12.2.getD ((v16).toNat) zR).o))) (r := 13) (off := 1) (s := .i ((v16).toNat) 2) (p := []) (c := .sl true 2 (r12.2.map eR)) (cs := eR (r12.2.getD ((v16).toNat) zR)) rfl (oneB_ok (by kernel_rfl)) (by kernel_rfl) (by kernel_rfl) (getP_map zR (by have := hg22; omega)) rfl rfl rfl (by kernel_rfl)))) (en (en (en (en (en (.cons (fun σ hc => e_put hc rfl rfl (os_ge (d := 72) (t := tB (decide (((r12.2.getD ((v16).toNat) zR).o) < v14.o))) (t' := tB false) (by kernel_rfl) (by rw [hs24]))) (en (en (.cons (fun σ hc => e_put hc rfl rfl (os_ge (d := 75) (t := tB (!a3)) (t' := tB true) (by kernel_rfl) (by rw [hs25]))) (en (en (.cons (fun σ hc => e_put hc rfl rfl (os_gy rfl rfl rfl (by kernel_rfl) (s_indexV (r := 13) (lo := 0) (n := (r12.2.map eR).length) (pl := none) (sz := 2) (e := v16) (ik := .i64) (k := (v16).toNat) rfl sl36 (by kernel_rfl) (.tmp (by kernel_rfl)) hg26.1 (by rw [List.length_map]; exact hg26.2) (Nat.zero_add _) rfl (by kernel_rfl) (by kernel_rfl)))) (en (.cons (fun σ hc => e_put hc rfl rfl (os_gy rfl rfl rfl (by kernel_rfl) (s_load1 (x := .v (.int .i64 ((r12.2.getD ((v16).toNat) zR).o))) (r := 13) (off := 1) (s := .i ((v16).toNat) 2) (p := []) (c := .sl true 2 (r12.2.map eR)) (cs := eR (r12.2.getD ((v16).toNat) zR)) rfl (oneB_ok (by kernel_rfl)) (by kernel_rfl) (by kernel_rfl) (getP_map zR (by have := hg26; omega)) rfl rfl rfl (by kernel_rfl)))) (en (en (en (en (en (en .nil)))))))))))))))))))))))))))))) (by kernel_rfl) ?_
            exact ⟨decide (((r12.2.getD ((v16).toNat) zR).o) > v14.o), (Option.some.inj h).symm, of_weak (by kernel_rfl)⟩
          have h := cond_f hb h
          have hs27 := hb
          refine r_weak (of_weak (l := [(0, .u (.c (zmC v13))), (1, tI a1), (2, tI a2), (3, tB a3), (8, .u (.c (.pt true [.v (.int .i64 0), .v (.int .i64 0)]))), (10, .u (.c (.pt true [.v (.int .i64 v14.f), .v (.int .i64 v14.o)]))), (11, tI v15), (12, tI v4), (13, .u (.c (.sl true 2 (r12.2.map eR)))), (14, tI v16), (54, tB (decide (v16 < (r12.2.length : Int))))]) (by kernel_rfl)) ?_
          refine r_anyW (l := [(0, .u (.c (zmC v13))), (1, tI a1), (2, tI a2), (3, tB a3), (8, .u (.c (.pt true [.v (.int .i64 0), .v (.int .i64 0)]))), (10, .u (.c (.pt true [.v (.int .i64 v14.f), .v (.int .i64 v14.o)]))), (11, tI v15), (12, tI v4), (13, .u (.c (.sl true 2 (r12.2.map eR)))), (14, tI v16), (15, tB false)]) (tab := [[], [0], [1], [2], [3, 2, 2], [4], [4], [5, 6, 4], [7, 4], [8, 4], [4], [10, 4], [9, 11, 4], [4, 12, 2], [2, 13], [14, 4], [15], [16, 15], [17, 15, 15], [18], [18], [19, 20, 18], [21, 18], [22, 18], [18], [24, 18], [23, 25, 18], [18, 26, 15], [15, 27], [28, 18, 0, 1, 2, 3, 4, 5, 6, 7, 8, 9, 10, 11, 12, 13, 14, 15, 16, 17, 18, 19, 20, 21, 22, 23, 24, 25, 26, 27, 28]]) [ev [] [11] 57 (tI v15), ev [0] [57] 58 (tB (decide (v15 < 0))), ev [0, 1] [58] 59 (tB false), ev [0, 1, 2] [3, 59] 60 (tB a3), ev [0, 1, 2, 3] [59, 60] 61 (tB true), ev [0, 1, 2, 3, 4] [13, 61] 62 (.whole 13 none 2 ((r12.2.map eR).length)), ev [0, 1, 2, 3, 4] [14, 61] 63 (tI v16), eu 7 [13, 61, 62, 63] 64 (.addr 13 (.i ((v16).toNat) 2) [] 0), eu 8 [61, 64] 65 (.addr 13 (.i ((v16).toNat) 2) [] 1), eu 9 [13, 61, 65] 66 (tI ((r12.2.getD ((v16).toNat) zR).o)), ev [0, 1, 2, 3, 4] [10, 61] 67 (.addr 10 (.d) [] 1), ev [0, 1, 2, 3, 4, 10] [10, 61, 67] 68 (tI v14.o), eu 12 [61, 66, 68] 69 (tB (decide (((r12.2.getD ((v16).toNat) zR).o) < v14.o))), eu 13 [59, 61, 69] 70 (tB (decide (((r12.2.getD ((v16).toNat) zR).o) < v14.o))), eu 14 [59, 70] 71 (tB (decide (((r12.2.getD ((v16).toNat) zR).o) < v14.o))), eu 15 [71] 72 (tB false), eu 16 [3, 72] 73 (tB a3), eu 17 [72, 73] 74 (tB (!a3)), eu 18 [72, 74] 75 (tB false), eu 19 [75] 76 (.tup []), eu 19 [75] 77 (.tup []), eu 21 [75] 78 (.tup []), eu 22 [75] 79 (.tup []), eu 23 [75] 80 (.tup []), eu 19 [75] 81 (.tup []), ev [0, 1, 2, 3, 4, 5, 6, 7, 8, 9, 10, 11, 12, 13, 14, 15, 16, 17, 18, 24] [75] 82 (.tup []), eu 26 [75] 83 (.tup []), eu 27 [72, 75] 84 (tB false), eu 28 [72, 84] 85 (tB false), eu 29 [85] 15 (tB false)] hm (by kernel_rfl) (by kernel_rfl) (by kernel_rfl) (en (en (.cons (fun σ hc => e_put hc rfl rfl (os_ge (d := 59) (t := tB (decide (v15 < 0))) (t' := tB false) (by kernel_rfl) (by rw [hs20]))) (en (.cons (fun σ hc => e_put hc rfl rfl (os_ge (d := 61) (t := tB a3) (t' := tB true) (by kernel_rfl) (by rw [hs21]))) (en (en (.cons (fun σ hc => e_put hc rfl rfl (os_gy rfl rfl rfl (by kernel_rfl) (s_indexV (r := 13) (lo := 0) (n := (r12.2.map eR).length) (pl := none) (sz := 2) (e := v16) (ik := .i64) (k := (v16).toNat) rfl sl36 (by kernel_rfl) (.tmp (by kernel_rfl)) hg22.1 (by rw [List.length_map]; exact hg22.2) (Nat.zero_add _) rfl (by kernel_rfl) (by kernel_rfl)))) (en (.cons (fun σ hc => e_put hc rfl rfl (os_gy rfl rfl rfl (by kernel_rfl) (s_load1 (x := .v (.int .i64 ((r12.2.getD ((v16).toNat) zR).o))) (r := 13) (off := 1) (s := .i ((v16).toNat) 2) (p := []) (c := .sl true 2 (r12.2.map eR)) (cs := eR (r12.2.getD ((v16).toNat) zR)) rfl (oneB_ok (by kernel_rfl)) (by kernel_rfl) (by kernel_rfl) (getP_map zR (by have := hg22; omega)) rfl rfl rfl (by kernel_rfl)))) (en (en (en (en (en (.cons (fun σ hc => e_put hc rfl rfl (os_ge (d := 72) (t := tB (decide (((r12.2.getD ((v16).toNat) zR).o) < v14.o))) (t' := tB false) (by kernel_rfl) (by rw [hs24]))) (en (en (.cons (fun σ hc => e_put hc rfl rfl (os_ge (d := 75) (t := tB (!a3)) (t' := tB false) (by kernel_rfl) (by rw [hs27]))) (en (en (en (en (en (en (en (en (en (en (en .nil)))))))))))))))))))))))))))))) (by kernel_rfl) ?_
          exact ⟨false, (Option.some.inj h).symm, of_weak (by kernel_rfl)⟩
        have h := cond_f hb h
        have hs28 := hb
        rcases Bool.eq_false_or_eq_true (!a3) with hb | hb
        · have h := cond_t hb h
          have hs29 := hb
          obtain ⟨hg30, h⟩ := guard_some h
          simp only [Bool.and_eq_true, decide_eq_true_eq] at hg30
          refine r_weak (of_weak (l := [(0, .u (.c (zmC v13))), (1, tI a1), (2, tI a2), (3, tB a3), (8, .u (.c (.pt true [.v (.int .i64 0), .v (.int .i64 0)]))), (10, .u (.c (.pt true [.v (.int .i64 v14.f), .v (.int .i64 v14.o)]))), (11, tI v15), (12, tI v4), (13, .u (.c (.sl true 2 (r12.2.map eR)))), (14, tI v16), (54, tB (decide (v16 < (r12.2.length : Int))))]) (by kernel_rfl)) ?_
          refine r_anyW (l := [(0, .u (.c (zmC v13))), (1, tI a1), (2, tI a2), (3, tB a3), (8, .u (.c (.pt true [.v (.int .i64 0), .v (.int .i64 0)]))), (10, .u (.c (.pt true [.v (.int .i64 v14.f), .v (.int .i64 v14.o)]))), (11, tI v15), (12, tI v4), (13, .u (.c (.sl true 2 (r12.2.map eR)))), (14, tI v16), (15, tB (decide (((r12.2.getD ((v16).toNat) zR).o) > v14.o)))]) (tab := [[], [0], [1], [2], [3, 2, 2], [4], [4], [5, 6, 4], [7, 4], [8, 4], [4], [10, 4], [9, 11, 4], [4, 12, 2], [2, 13], [14, 4], [15], [16, 15], [17, 15, 15], [18], [18], [19, 20, 18], [21, 18], [22, 18], [18], [24, 18], [23, 25, 18], [18, 26, 15], [15, 27], [28, 18, 0, 1, 2, 3, 4, 5, 6, 7, 8, 9, 10, 11, 12, 13, 14, 15, 16, 17, 18, 19, 20, 21, 22, 23, 24, 25, 26, 27, 28]]) [ev [] [11] 57 (tI v15), ev [0] [57] 58 (tB (decide (v15 < 0))), ev [0, 1] [58] 59 (tB false), ev [0, 1, 2] [3, 59] 60 (tB a3), ev [0, 1, 2, 3] [59, 60] 61 (tB false), ev [0, 1, 2, 3, 4] [61] 62 (.tup []), ev [0, 1, 2, 3, 4] [61] 63 (.tup []), eu 7 [61] 64 (.tup []), eu 8 [61] 65 (.tup []), eu 9 [61] 66 (.tup []), ev [0, 1, 2, 3, 4] [61] 67 (.tup []), ev [0, 1, 2, 3, 4, 10] [61] 68 (.tup []), eu 12 [61] 69 (.tup []), eu 13 [59, 61] 70 (tB false), eu 14 [59, 70] 71 (tB false), eu 15 [71] 72 (tB false), eu 16 [3, 72] 73 (tB a3), eu 17 [72, 73] 74 (tB (!a3)), eu 18 [72, 74] 75 (tB true), eu 19 [13, 75] 76 (.whole 13 none 2 ((r12.2.map eR).length)), eu 19 [14, 75] 77 (tI v16), eu 21 [13, 75, 76, 77] 78 (.addr 13 (.i ((v16).toNat) 2) [] 0), eu 22 [75, 78] 79 (.addr 13 (.i ((v16).toNat) 2) [] 1), eu 23 [13, 75, 79] 80 (tI ((r12.2.getD ((v16).toNat) zR).o)), eu 19 [10, 75] 81 (.addr 10 (.d) [] 1), ev [0, 1, 2, 3, 4, 5, 6, 7, 8, 9, 10, 11, 12, 13, 14, 15, 16, 17, 18, 24] [10, 75, 81] 82 (tI v14.o), eu 26 [75, 80, 82] 83 (tB (decide (((r12.2.getD ((v16).toNat) zR).o) > v14.o))), eu 27 [72, 75, 83] 84 (tB (decide (((r12.2.getD ((v16).toNat) zR).o) > v14.o))), eu 28 [72, 84] 85 (tB (decide (((r12.2.getD ((v16).toNat) zR).o) > v14.o))), eu 29 [85] 15 (tB (decide (((r12.2.getD ((v16).toNat) zR).o) > v14.o)))] hm (by kernel_rfl) (by kernel_rfl) (by kernel_rfl) (en (en (.cons (fun σ hc => e_put hc rfl rfl (os_ge (d := 59) (t := tB (decide (v15 < 0))) (t' := tB false) (by kernel_rfl) (by rw [hs20]))) (en (.cons (fun σ hc => e_put hc rfl rfl (os_ge (d := 61) (t := tB a3) (t' := tB false) (by kernel_rfl) (by rw [hs28]))) (en (en (en (en (en (en (en (en (en (en (en (en (en (.cons (fun σ hc => e_put hc rfl rfl (os_ge (d := 75) (t := tB (!a3)) (t' := tB true) (by kernel_rfl) (by rw [hs29]))) (en (en (.cons (fun σ hc => e_put hc rfl rfl (os_gy rfl rfl rfl (by kernel_rfl) (s_indexV (r := 13) (lo := 0) (n := (r12.2.map eR).length) (pl := none) (sz := 2) (e := v16) (ik := .i64) (k := (v16).toNat) rfl sl36 (by kernel_rfl) (.tmp (by kernel_rfl)) hg30.1 (by rw [List.length_map]; exact hg30.2) (Nat.zero_add _) rfl (by kernel_rfl) (by kernel_rfl)))) (en (.cons (fun σ hc => e_put hc rfl rfl (os_gy rfl rfl rfl (by kernel_rfl) (s_load1 (x := .v (.int .i64 ((r12.2.getD ((v16).toNat) zR).o))) (r := 13) (off := 1) (s := .i ((v16).toNat) 2) (p := []) (c := .sl true 2 (r12.2.map eR)) (cs := eR (r12.2.getD ((v16).toNat) zR)) rfl (oneB_ok (by kernel_rfl)) (by kernel_rfl) (by kernel_rfl) (getP_map zR (by have := hg30; omega)) rfl rfl rfl (by kernel_rfl)))) (en (en (en (en (en (en .nil)))))))))))))))))))))))))))))) (by kernel_rfl) ?_
          exact ⟨decide (((r12.2.getD ((v16).toNat) zR).o) > v14.o), (Option.some.inj h).symm, of_weak (by kernel_rfl)⟩
        have h := cond_f hb h
        have hs31 := hb
        refine r_weak (of_weak (l := [(0, .u (.c (zmC v13))), (1, tI a1), (2, tI a2), (3, tB a3), (8, .u (.c (.pt true [.v (.int .i64 0), .v (.int .i64 0)]))), (10, .u (.c (.pt true [.v (.int .i64 v14.f), .v (.int .i64 v14.o)]))), (11, tI v15), (12, tI v4), (13, .u (.c (.sl true 2 (r12.2.map eR)))), (14, tI v16), (54, tB (decide (v16 < (r12.2.length : Int))))]) (by kernel_rfl)) ?_
        refine r_anyW (l := [(0, .u (.c (zmC v13))), (1, tI a1), (2, tI a2), (3, tB a3), (8, .u (.c (.pt true [.v (.int .i64 0), .v (.int .i64 0)]))), (10, .u (.c (.pt true [.v (.int .i64 v14.f), .v (.int .i64 v14.o)]))), (11, tI v15), (12, tI v4), (13, .u (.c (.sl true 2 (r12.2.map eR)))), (14, tI v16), (15, tB false)]) (tab := [[], [0], [1], [2], [3, 2, 2], [4], [4], [5, 6, 4], [7, 4], [8, 4], [4], [10, 4], [9, 11, 4], [4, 12, 2], [2, 13], [14, 4], [15], [16, 15], [17, 15, 15], [18], [18], [19, 20, 18], [21, 18], [22, 18], [18], [24, 18], [23, 25, 18], [18, 26, 15], [15, 27], [28, 18, 0, 1, 2, 3, 4, 5, 6, 7, 8, 9, 10, 11, 12, 13, 14, 15, 16, 17, 18, 19, 20, 21, 22, 23, 24, 25, 26, 27, 28]]) [ev [] [11] 57 (tI v15), ev [0] [57] 58 (tB (decide (v15 < 0))), ev [0, 1] [58] 59 (tB false), ev [0, 1, 2] [3, 59] 60 (tB a3), ev [0, 1, 2, 3] [59, 60] 61 (tB false), ev [0, 1, 2, 3, 4] [61] 62 (.tup []), ev [0, 1, 2, 3, 4] [61] 63 (.tup []), eu 7 [61] 64 (.tup []), eu 8 [61] 65 (.tup []), eu 9 [61] 66 (.tup []), ev [0, 1, 2, 3, 4] [61] 67 (.tup []), ev [0, 1, 2, 3, 4, 10] [61] 68 (.tup []), eu 12 [61] 69 (.tup []), eu 13 [59, 61] 70 (tB false), eu 14 [59, 70] 71 (tB false), eu 15 [71] 72 (tB false), eu 16 [3, 72] 73 (tB a3), eu 17 [72, 73] 74 (tB (!a3)), eu 18 [72, 74] 75 (tB false), eu 19 [75] 76 (.tup []), eu 19 [75] 77 (.tup []), eu 21 [75] 78 (.tup []), eu 22 [75] 79 (.tup []), eu 23 [75] 80 (.tup []), eu 19 [75] 81 (.tup []), ev [0, 1, 2, 3, 4, 5, 6, 7, 8, 9, 10, 11, 12, 13, 14, 15, 16, 17, 18, 24] [75] 82 (.tup []), eu 26 [75] 83 (.tup []), eu 27 [72, 75] 84 (tB false), eu 28 [72, 84] 85 (tB false), eu 29 [85] 15 (tB false)] hm (by kernel_rfl) (by kernel_rfl) (by kernel_rfl) (en (en (.cons (fun σ hc => e_put hc rfl rfl (os_ge (d := 59) (t := tB (decide (v15 < 0))) (t' := tB false) (by kernel_rfl) (by rw [hs20]))) (en (.cons (fun σ hc => e_put hc rfl rfl (os_ge (d := 61) (t := tB a3) (t' := tB false) (by kernel_rfl) (by rw [hs28]))) (en (en (en (en (en (en (en (en (en (en (en (en (en (.cons (fun σ hc => e_put hc rfl rfl (os_ge (d := 75) (t := tB (!a3)) (t' := tB false) (by kernel_rfl) (by rw [hs31]))) (en (en (en (en (en (en (en (en (en (en (en .nil)))))))))))))))))))))))))))))) (by kernel_rfl) ?_
        exact ⟨false, (Option.some.inj h).symm, of_weak (by kernel_rfl)⟩
      rintro y18 rfl
      replace h := h_y18
      try dsimp only at h
      refine r_seq ?_
      obtain ⟨hg32, h⟩ := guard_some h
      simp only [Bool.and_eq_true, decide_eq_true_eq] at hg32
      rcases Bool.eq_false_or_eq_true (decide (((r12.2.getD ((v16).toNat) zR).o) ≥ a2)) with hb | hb
      · have h := cond_t hb h
        have hs33 := hb
        refine rr [(0, .u (.c (zmC v13))), (1, tI a1), (2, tI a2), (3, tB a3), (8, .u (.c (.pt true [.v (.int .i64 0), .v (.int .i64 0)]))), (10, .u (.c (.pt true [.v (.int .i64 v14.f), .v (.int .i64 v14.o)]))), (11, tI v15), (12, tI v4), (13, .u (.c (.sl true 2 (r12.2.map eR)))), (14, tI v16), (95, tB y18)] (cgt 2 [86, 87] (cot 3 (os_plain rfl rfl (s_indexV (r := 13) (lo := 0) (n := (r12.2.map eR).length) (pl := none) (sz := 2) (e := v16) (ik := .i64) (k := (v16).toNat) rfl sl36 (by kernel_rfl) (.tmp (by kernel_rfl)) hg32.1 (by rw [List.length_map]; exact hg32.2) (Nat.zero_add _) rfl (by kernel_rfl) (by kernel_rfl))) (cgt 4 [89] (cot 5 (os_plain rfl rfl (s_load1 (x := .v (.int .i64 ((r12.2.getD ((v16).toNat) zR).o))) (r := 13) (off := 1) (s := .i ((v16).toNat) 2) (p := []) (c := .sl true 2 (r12.2.map eR)) (cs := eR (r12.2.getD ((v16).toNat) zR)) rfl (oneB_ok (by kernel_rfl)) (by kernel_rfl) (by kernel_rfl) (getP_map zR (by have := hg32; omega)) rfl rfl rfl (by kernel_rfl))) (cgt 7 [91, 92] (cot 8 (os_ge (d := 93) (t := tB (decide (((r12.2.getD ((v16).toNat) zR).o) ≥ a2))) (t' := tB true) (by kernel_rfl) (by rw [hs33])) (cgt 10 [94, 95] .nil))))))) ?_
        rcases Bool.eq_false_or_eq_true (y18) with hb | hb
        · have h := cond_t hb h
          refine r_condT hb rfl ?_
          refine r_seq ?_
          obtain ⟨hg34, h⟩ := guard_some h
          simp only [Bool.and_eq_true, decide_eq_true_eq] at hg34
          refine rr [(0, .u (.c (zmC v13))), (1, tI a1), (2, tI a2), (3, tB a3), (8, .u (.c (.pt true [.v (.int .i64 0), .v (.int .i64 0)]))), (10, .u (.c (.pt true [.v (.int .i64 ((r12.2.getD ((v16).toNat) zR).f)), .v (.int .i64 ((r12.2.getD ((v16).toNat) zR).o))]))), (12, tI v4), (13, .u (.c (.sl true 2 (r12.2.map eR)))), (14, tI v16)] (cgt 2 [96, 97] (cot 3 (os_plain rfl rfl (s_indexV (r := 13) (lo := 0) (n := (r12.2.map eR).length) (pl := none) (sz := 2) (e := v16) (ik := .i64) (k := (v16).toNat) rfl sl36 (by kernel_rfl) (.tmp (by kernel_rfl)) hg34.1 (by rw [List.length_map]; exact hg34.2) (Nat.zero_add _) rfl (by kernel_rfl) (by kernel_rfl))) (cot 4 (os_plain rfl rfl (s_loadA (n := 2) (xs := [.v (.int .i64 ((r12.2.getD ((v16).toNat) zR).f)), .v (.int .i64 ((r12.2.getD ((v16).toNat) zR).o))]) (r := 13) (off := 0) (s := .i ((v16).toNat) 2) (p := []) (c := .sl true 2 (r12.2.map eR)) (cs := eR (r12.2.getD ((v16).toNat) zR)) rfl (aggB_ok (by kernel_rfl)) (by kernel_rfl) (by kernel_rfl) (getP_map zR (by have := hg34; omega)) rfl rfl rfl rfl (by kernel_rfl))) (cot 5 (os_plain rfl rfl (s_storeS (n := 2) (r := 10) (off := 0) (s := .d) (p := []) (c := .pt true [.v (.int .i64 v14.f), .v (.int .i64 v14.o)]) (cs := [.v (.int .i64 v14.f), .v (.int .i64 v14.o)]) (u := .agg [.v (.int .i64 ((r12.2.getD ((v16).toNat) zR).f)), .v (.int .i64 ((r12.2.getD ((v16).toNat) zR).o))]) rfl (by kernel_rfl) (by kernel_rfl) (by kernel_rfl) rfl (by kernel_rfl) rfl rfl rfl rfl (Nat.le_of_ble_eq_true rfl) (by kernel_rfl) (by kernel_rfl) rfl rfl)) .nil)))) ?_
          refine rr [(0, .u (.c (zmC v13))), (1, tI a1), (2, tI a2), (3, tB a3), (8, .u (.c (.pt true [.v (.int .i64 0), .v (.int .i64 0)]))), (10, .u (.c (.pt true [.v (.int .i64 ((r12.2.getD ((v16).toNat) zR).f)), .v (.int .i64 ((r12.2.getD ((v16).toNat) zR).o))]))), (11, tI v4), (12, tI v4), (13, .u (.c (.sl true 2 (r12.2.map eR)))), (14, tI v16)] (cgt 2 [100, 11] .nil) ?_
          refine rr [(0, .u (.c (zmC v13))), (1, tI a1), (2, tI a2), (3, tB a3), (8, .u (.c (.pt true [.v (.int .i64 0), .v (.int .i64 0)]))), (10, .u (.c (.pt true [.v (.int .i64 ((r12.2.getD ((v16).toNat) zR).f)), .v (.int .i64 ((r12.2.getD ((v16).toNat) zR).o))]))), (11, tI v4), (12, tI v4), (13, .u (.c (.sl true 2 (r12.2.map eR)))), (14, tI (i64.wrap (v16 + 1)))] (cgt 3 [55, 56, 14] .nil) ?_
          exact ⟨(v13, (r12.2.getD ((v16).toNat) zR), v4, i64.wrap (v16 + 1)), h, of_weak (by kernel_rfl)⟩
        have h := cond_f hb h
        refine r_condF hb rfl ?_
        refine r_skip ?_
        refine rr [(0, .u (.c (zmC v13))), (1, tI a1), (2, tI a2), (3, tB a3), (8, .u (.c (.pt true [.v (.int .i64 0), .v (.int .i64 0)]))), (10, .u (.c (.pt true [.v (.int .i64 v14.f), .v (.int .i64 v14.o)]))), (11, tI v15), (12, tI v4), (13, .u (.c (.sl true 2 (r12.2.map eR)))), (14, tI (i64.wrap (v16 + 1)))] (cgt 3 [55, 56, 14] .nil) ?_
        exact ⟨(v13, v14, v15, i64.wrap (v16 + 1)), h, of_weak (by kernel_rfl)⟩
      have h := cond_f hb h
      have hs35 := hb
      refine rr [(0, .u (.c (zmC v13))), (1, tI a1), (2, tI a2), (3, tB a3), (8, .u (.c (.pt true [.v (.int .i64 0), .v (.int .i64 0)]))), (10, .u (.c (.pt true [.v (.int .i64 v14.f), .v (.int .i64 v14.o)]))), (11, tI v15), (12, tI v4), (13, .u (.c (.sl true 2 (r12.2.map eR)))), (14, tI v16), (95, tB false)] (cgt 2 [86, 87] (cot 3 (os_plain rfl rfl (s_indexV (r := 13) (lo := 0) (n := (r12.2.map eR).length) (pl := none) (sz := 2) (e := v16) (ik := .i64) (k := (v16).toNat) rfl sl36 (by kernel_rfl) (.tmp (by kernel_rfl)) hg32.1 (by rw [List.length_map]; exact hg32.2) (Nat.zero_add _) rfl (by kernel_rfl) (by kernel_rfl))) (cgt 4 [89] (cot 5 (os_plain rfl rfl (s_load1 (x := .v (.int .i64 ((r12.2.getD ((v16).toNat) zR).o))) (r := 13) (off := 1) (s := .i ((v16).toNat) 2) (p := []) (c := .sl true 2 (r12.2.map eR)) (cs := eR (r12.2.getD ((v16).toNat) zR)) rfl (oneB_ok (by kernel_rfl)) (by kernel_rfl) (by kernel_rfl) (getP_map zR (by have := hg32; omega)) rfl rfl rfl (by kernel_rfl))) (cgt 7 [91, 92] (cot 8 (os_ge (d := 93) (t := tB (decide (((r12.2.getD ((v16).toNat) zR).o) ≥ a2))) (t' := tB false) (by kernel_rfl) (by rw [hs35])) (cgt 10 [94, 95] .nil))))))) ?_
      refine r_condF rfl rfl ?_
      refine r_skip ?_
      refine rr [(0, .u (.c (zmC v13))), (1, tI a1), (2, tI a2), (3, tB a3), (8, .u (.c (.pt true [.v (.int .i64 0), .v (.int .i64 0)]))), (10, .u (.c (.pt true [.v (.int .i64 v14.f), .v (.int .i64 v14.o)]))), (11, tI v15), (12, tI v4), (13, .u (.c (.sl true 2 (r12.2.map eR)))), (14, tI (i64.wrap (v16 + 1)))] (cgt 3 [55, 56, 14] .nil) ?_
      exact ⟨(v13, v14, v15, i64.wrap (v16 + 1)), h, of_weak (by kernel_rfl)⟩
    have h := cond_f hb h
    refine r_condF hb rfl ?_
    refine r_weak (of_weak (l := [(0, .u (.c (zmC v13))), (1, tI a1), (2, tI a2), (3, tB a3), (8, .u (.c (.pt true [.v (.int .i64 0), .v (.int .i64 0)]))), (10, .u (.c (.pt true [.v (.int .i64 v14.f), .v (.int .i64 v14.o)]))), (11, tI v15), (12, tI v4)]) (by kernel_rfl)) ?_
    refine run_cast (α := ZM × Blk × Int × Int) (fun x => [(0, .u (.c (zmC x.1))), (1, tI a1), (2, tI a2), (3, tB a3), (8, .u (.c (.pt true [.v (.int .i64 0), .v (.int .i64 0)]))), (10, .u (.c (.pt true [.v (.int .i64 x.2.1.f), .v (.int .i64 x.2.1.o)]))), (11, tI x.2.2.1), (12, tI v4)]) (x := (v13, v14, v15, v16)) (y := y17) (Option.some.inj h) ?_
    refine r_exit ?_
    replace h := h_y17
    refine rr [(0, .u (.c (zmC y17.1))), (1, tI a1), (2, tI a2), (3, tB a3), (8, .u (.c (.pt true [.v (.int .i64 0), .v (.int .i64 0)]))), (10, .u (.c (.pt true [.v (.int .i64 y17.2.1.f), .v (.int .i64 y17.2.1.o)]))), (11, tI y17.2.2.1), (12, tI (i64.wrap (v4 + 1)))] (cgt 3 [24, 25, 12] .nil) ?_
    exact ⟨(y17.1, y17.2.1, y17.2.2.1, i64.wrap (v4 + 1)), h, of_weak (by kernel_rfl)⟩
  have h := cond_f hb h
  refine r_condF hb rfl ?_
  refine r_exit ?_
  refine r_seq ?_
  refine rr [(0, .u (.c (zmC v1))), (8, .u (.c (.pt true [.v (.int .i64 v2.f), .v (.int .i64 v2.o)]))), (9, tI v3)] (cgt 2 [101, 102] (cot 3 (os_plain rfl rfl (s_storeS (n := 2) (r := 8) (off := 0) (s := .d) (p := []) (c := .pt true [.v (.int .i64 0), .v (.int .i64 0)]) (cs := [.v (.int .i64 0), .v (.int .i64 0)]) (u := .agg [.v (.int .i64 v2.f), .v (.int .i64 v2.o)]) rfl (by kernel_rfl) (by kernel_rfl) (by kernel_rfl) rfl (by kernel_rfl) rfl rfl rfl rfl (Nat.le_of_ble_eq_true rfl) (by kernel_rfl) (by kernel_rfl) rfl rfl)) (cgt 4 [9] .nil))) ?_
  refine r_ret ?_
  obtain rfl := Option.some.inj h
  exact e_leafCT (.inr rfl) (by kernel_rfl) (by kernel_rfl) rfl (by kernel_rfl) ⟨⟨rfl, rfl⟩, trivial⟩
def MTake.j1 (k : Nat) (a0 : ZM) (a1 : Int) (a2 : Int) (r1 : ZM × Blk × Int) : Option (ZM × Blk × Int) :=
  (bif decide (r1.2.2 < 0) then (MBest.f k r1.1 (-1) a2 false).bind fun (r3 : ZM × Blk × Int) => some (r3.1, r3.2.1, r3.2.2) else some (r1.1, r1.2.1, r1.2.2))
set_option maxHeartbeats 4000000 in
def MTake.f (k : Nat) (a0 : ZM) (a1 : Int) (a2 : Int) : Option (ZM × Int) :=
  (MBest.f k a0 a1 a2 true).bind fun (r1 : ZM × Blk × Int) => (MTake.j1 k a0 a1 a2 r1).bind fun (y2 : ZM × Blk × Int) => (bif decide (y2.2.2 < 0) then some (y2.1, (-1)) else (bif decide (0 ≤ y2.2.2) && decide (y2.2.2 < (y2.1.t.length : Int)) then (RSet.f k y2.1.s y2.2.1.f a2 false).bind fun (r5 : (List Bool)) => some ((⟨r5, (y2.1.t.set ((y2.2.2).toNat) a1), y2.1.c⟩ : ZM), y2.2.1.f) else none))
set_option maxHeartbeats 4000000 in
theorem MTake.ac (k : Nat) (a0 : ZM) (a1 : Int) (a2 : Int) (r : ZM × Int) (h : MTake.f k a0 a1 a2 = some r) : AC Tryd.prog 28 24 [.c (zmC a0), .c (.v (.int .i64 a1)), .c (.v (.int .i64 a2))] [some (.c (zmC r.1)), none, none] [.c (.v (.int .i64 r.2))] := by
  unfold MTake.f at h
  refine ac_intro (fn := Tryd.f24) (pins := [0]) (rts := [6]) Tryd.func24 rfl Tryd.ntmps24 rfl (Nat.le_of_ble_eq_true rfl) (pins_lt rfl) rfl (fun w R E vs => ?_)
  refine r_weak (of_weak (l := [(0, .u (.c (zmC a0))), (1, tI a1), (2, tI a2)]) (by kernel_rfl)) ?_
  refine r_seq ?_
  refine rr [(0, .u (.c (zmC a0))), (1, tI a1), (2, tI a2)] (cgt 1 [6] .nil) ?_
  refine r_seq ?_
  obtain ⟨r1, hr1, h⟩ := bind_some h
  refine rr [(0, .u (.c (zmC r1.1))), (1, tI a1), (2, tI a2), (7, .u (.c (.pt true [.v (.int .i64 r1.2.1.f), .v (.int .i64 r1.2.1.o)]))), (8, tI r1.2.2)] (cgt 3 [10, 11, 12] (cot 4 (os_plain rfl rfl (c_call (AC.k (MBest.ac (h := hr1))) ⟨_, Tryd.func43, rfl, by kernel_rfl⟩ rfl (hand_root (r := 0) (c := zmC a0) (by kernel_rfl) (by kernel_rfl) rfl (.rd (.copy (by kernel_rfl) rfl) (.rd (.copy (by kernel_rfl) rfl) (.rd (.copy (by kernel_rfl) rfl) .nil)))) rfl (by kernel_rfl))) (cot 5 (os_plain rfl rfl (s_moveT (us := [.agg [.v (.int .i64 r1.2.1.f), .v (.int .i64 r1.2.1.o)], .c (.v (.int .i64 r1.2.2))]) (.inl rfl) (by kernel_rfl) rfl (by kernel_rfl))) (cgt 7 [14, 15] (cot 8 (os_plain rfl rfl (s_alloc rfl zero39 rfl (by kernel_rfl))) (cot 9 (os_plain rfl rfl (s_storeS (n := 2) (r := 7) (off := 0) (s := .d) (p := []) (c := .pt true [.v (.int .i64 0), .v (.int .i64 0)]) (cs := [.v (.int .i64 0), .v (.int .i64 0)]) (u := .agg [.v (.int .i64 r1.2.1.f), .v (.int .i64 r1.2.1.o)]) rfl (by kernel_rfl) (by kernel_rfl) (by kernel_rfl) rfl (by kernel_rfl) rfl rfl rfl rfl (Nat.le_of_ble_eq_true rfl) (by kernel_rfl) (by kernel_rfl) rfl rfl)) (cgt 10 [8] .nil))))))) ?_
  refine r_seq ?_
  obtain ⟨y2, hy2, h_y2⟩ := bind_some h
  refine r_joinC (α := ZM × Blk × Int) (fun x => [(0, .u (.c (zmC x.1))), (1, tI a1), (2, tI a2), (7, .u (.c (.pt true [.v (.int .i64 x.2.1.f), .v (.int .i64 x.2.1.o)]))), (8, tI x.2.2)]) (fun x => y2 = x) ?_ ?_
  · replace h := hy2
    unfold MTake.j1 at h
    refine r_seq ?_
    refine rr [(0, .u (.c (zmC r1.1))), (1, tI a1), (2, tI a2), (7, .u (.c (.pt true [.v (.int .i64 r1.2.1.f), .v (.int .i64 r1.2.1.o)]))), (8, tI r1.2.2), (17, tB (decide (r1.2.2 < 0)))] (cgt 2 [16, 17] .nil) ?_
    rcases Bool.eq_false_or_eq_true (decide (r1.2.2 < 0)) with hb | hb
    · have h := cond_t hb h
      refine r_condT hb rfl ?_
      obtain ⟨r3, hr3, h⟩ := bind_some h
      refine rr [(0, .u (.c (zmC r3.1))), (1, tI a1), (2, tI a2), (7, .u (.c (.pt true [.v (.int .i64 r3.2.1.f), .v (.int .i64 r3.2.1.o)]))), (8, tI r3.2.2)] (cgt 2 [19, 20] (cot 3 (os_plain rfl rfl (c_call (AC.k (MBest.ac (h := hr3))) ⟨_, Tryd.func43, rfl, by kernel_rfl⟩ rfl (hand_root (r := 0) (c := zmC r1.1) (by kernel_rfl) (by kernel_rfl) rfl (.rd (.copy (by kernel_rfl) rfl) (.rd (.copy (by kernel_rfl) rfl) (.rd (.copy (by kernel_rfl) rfl) .nil)))) rfl (by kernel_rfl))) (cot 4 (os_plain rfl rfl (s_moveT (us := [.agg [.v (.int .i64 r3.2.1.f), .v (.int .i64 r3.2.1.o)], .c (.v (.int .i64 r3.2.2))]) (.inl rfl) (by kernel_rfl) rfl (by kernel_rfl))) (cgt 6 [22, 23] (cot 7 (os_plain rfl rfl (s_storeS (n := 2) (r := 7) (off := 0) (s := .d) (p := []) (c := .pt true [.v (.int .i64 r1.2.1.f), .v (.int .i64 r1.2.1.o)]) (cs := [.v (.int .i64 r1.2.1.f), .v (.int .i64 r1.2.1.o)]) (u := .agg [.v (.int .i64 r3.2.1.f), .v (.int .i64 r3.2.1.o)]) rfl (by kernel_rfl) (by kernel_rfl) (by kernel_rfl) rfl (by kernel_rfl) rfl rfl rfl rfl (Nat.le_of_ble_eq_true rfl) (by kernel_rfl) (by kernel_rfl) rfl rfl)) (cgt 8 [8] .nil)))))) ?_
      exact ⟨(r3.1, r3.2.1, r3.2.2), (Option.some.inj h).symm, of_weak (by kernel_rfl)⟩
    have h := cond_f hb h
    refine r_condF hb rfl ?_
    refine r_skip ?_
    exact ⟨(r1.1, r1.2.1, r1.2.2), (Option.some.inj h).symm, of_weak (by kernel_rfl)⟩
  rintro y2 rfl
  replace h := h_y2
  try dsimp only at h
  refine r_seq ?_
  refine r_seq ?_
  refine rr [(0, .u (.c (zmC y2.1))), (1, tI a1), (2, tI a2), (7, .u (.c (.pt true [.v (.int .i64 y2.2.1.f), .v (.int .i64 y2.2.1.o)]))), (8, tI y2.2.2), (25, tB (decide (y2.2.2 < 0)))] (cgt 2 [24, 25] .nil) ?_
  rcases Bool.eq_false_or_eq_true (decide (y2.2.2 < 0)) with hb | hb
  · have h := cond_t hb h
    refine r_condT hb rfl ?_
    refine r_seq ?_
    refine rr [(0, .u (.c (zmC y2.1))), (6, tI (-1))] (cgt 1 [6] .nil) ?_
    refine r_ret ?_
    obtain rfl := Option.some.inj h
    exact ⟨.inr rfl, _, _, .cons (.copy rfl rfl rfl) .nil, rfl, outs_of ⟨⟨rfl, rfl⟩, trivial⟩⟩
  have h := cond_f hb h
  refine r_condF hb rfl ?_
  refine r_skip ?_
  refine r_seq ?_
  obtain ⟨hg4, h⟩ := guard_some h
  simp only [Bool.and_eq_true, decide_eq_true_eq] at hg4
  refine rr [(0, .u (.c (.pt true [.sl true 1 (y2.1.s.map eB), .sl true 1 ((y2.1.t.set ((y2.2.2).toNat) a1).map eI), .sl true 1 (y2.1.c.map eB)]))), (2, tI a2), (7, .u (.c (.pt true [.v (.int .i64 y2.2.1.f), .v (.int .i64 y2.2.1.o)])))] (cgt 6 [26, 27, 28, 29, 30, 31] (cot 7 (os_plain rfl rfl (s_indexV (r := 0) (lo := 0) (n := (y2.1.t.map eI).length) (pl := (some (.d, [], 1))) (sz := 1) (e := y2.2.2) (ik := .i64) (k := (y2.2.2).toNat) rfl sl48 (by kernel_rfl) (.tmp (by kernel_rfl)) hg4.1 (by rw [List.length_map]; exact hg4.2) (Nat.zero_add _) rfl (by kernel_rfl) (by kernel_rfl))) (cot 8 (os_plain rfl rfl (s_storeR (f := eI) (k := 0) (sz := 0) (n := 1) (r := 0) (off := 0) (s := .d) (p := [(1, .i ((y2.2.2).toNat) 1)]) (c := zmC y2.1) (cs := (eI (y2.1.t.getD ((y2.2.2).toNat) (0 : Int)))) (u := .c (.v (.int .i64 a1))) (us := [.v (.int .i64 a1)]) (c' := .pt true [.sl true 1 (y2.1.s.map eB), .sl true 1 ((y2.1.t.set ((y2.2.2).toNat) a1).map eI), .sl true 1 (y2.1.c.map eB)]) rfl (by kernel_rfl) (by kernel_rfl) (by kernel_rfl) rfl (by kernel_rfl) (getP_in (c' := .sl true 1 (y2.1.t.map eI)) rfl (getP_map (f := eI) (own := true) (xs := y2.1.t) (k := (y2.2.2).toNat) (0 : Int) (by have := hg4; omega))) rfl rfl rfl (Nat.le_of_ble_eq_true rfl) (by kernel_rfl) rfl rfl rfl (congrArg (fun x => C.pt true [.sl true 1 (y2.1.s.map eB), .sl true 1 x, .sl true 1 (y2.1.c.map eB)]) (map_setC (f := eI) (y := a1) rfl)))) .nil))) ?_
  refine r_seq ?_
  obtain ⟨r5, hr5, h⟩ := bind_some h
  refine r_weak (of_weak (l := [(0, .u (.c (.pt true [.sl true 1 (y2.1.s.map eB), .sl true 1 ((y2.1.t.set ((y2.2.2).toNat) a1).map eI), .sl true 1 (y2.1.c.map eB)]))), (2, tI a2), (7, .u (.c (.pt true [.v (.int .i64 y2.2.1.f), .v (.int .i64 y2.2.1.o)])))]) (by kernel_rfl)) ?_
  refine r_anyW (l := [(0, .u (.c (.pt true [.sl true 1 (r5.map eB), .sl true 1 ((y2.1.t.set ((y2.2.2).toNat) a1).map eI), .sl true 1 (y2.1.c.map eB)]))), (7, .u (.c (.pt true [.v (.int .i64 y2.2.1.f), .v (.int .i64 y2.2.1.o)])))]) (tab := [[], [0], [1], [2], [], [4], [], [3, 5, 6]]) [ev [] [0] 33 (.addr 0 (.d) [] 0), ev [0] [33] 34 (.addr 0 (.d) [] 0), ev [0, 1] [34] 35 (.addr 0 (.d) [] 0), ev [0, 1, 2] [0, 35] 36 (.whole 0 (some (.d, [], 0)) 1 ((y2.1.s.map eB).length)), ev [] [7] 37 (.addr 7 (.d) [] 0), ev [4] [7, 37] 38 (tI y2.2.1.f), ev [] [2] 39 (tI a2), ⟨List.range 7, [0, 36, 38, 39], [(40, .tup []), (0, .u (.c (.pt true [.sl true 1 (r5.map eB), .sl true 1 ((y2.1.t.set ((y2.2.2).toNat) a1).map eI), .sl true 1 (y2.1.c.map eB)]))), (36, .junk)], some 40, true⟩] hm (by kernel_rfl) (by kernel_rfl) (by kernel_rfl) (en (en (en (en (en (en (en (.cons (fun σ hc => e_eq (os_plain rfl rfl (c_call (outs := [some (.c (.sl true 1 (r5.map eB))), none, none, none]) (res := []) (AC.k (RSet.ac (h := hr5))) ⟨_, Tryd.func27, rfl, by kernel_rfl⟩ rfl (hand_slC (r := 0) (off := 0) (sz := 1) (n := (y2.1.s.map eB).length) (c := .pt true [.sl true 1 (y2.1.s.map eB), .sl true 1 ((y2.1.t.set ((y2.2.2).toNat) a1).map eI), .sl true 1 (y2.1.c.map eB)]) (cs := [.sl true 1 (y2.1.s.map eB), .sl true 1 ((y2.1.t.set ((y2.2.2).toNat) a1).map eI), .sl true 1 (y2.1.c.map eB)]) (y := .sl true 1 (y2.1.s.map eB)) (by kernel_rfl) (by kernel_rfl) (by kernel_rfl) (by kernel_rfl) (by kernel_rfl) (.rd (.copy (by kernel_rfl) rfl) (.rd (.copy (by kernel_rfl) rfl) (.rd (.copy (by kernel_rfl) rfl) .nil)))) rfl (by kernel_rfl))) (hand_put_overD (D := [36]) hc rfl rfl rfl (by kernel_rfl) rfl)) .nil)))))))) (by kernel_rfl) ?_
  refine r_seq ?_
  refine rr [(0, .u (.c (.pt true [.sl true 1 (r5.map eB), .sl true 1 ((y2.1.t.set ((y2.2.2).toNat) a1).map eI), .sl true 1 (y2.1.c.map eB)]))), (6, tI y2.2.1.f)] (cgt 3 [41, 42, 6] .nil) ?_
  refine r_ret ?_
  obtain rfl := Option.some.inj h
  exact ⟨.inr rfl, _, _, .cons (.copy rfl rfl rfl) .nil, rfl, outs_of ⟨⟨rfl, rfl⟩, trivial⟩⟩
def MOpen.l1 (k : Nat) (a0 : ZM) (a1 : Int) : Nat → Int → Option (ZM)
  | 0, _ => none
  | n1 + 1, v2 => (bif decide (v2 < 8) then (bif decide ((i64.wrap ((i64.wrap (a1 * 8)) + v2)) < (a0.s.length : Int)) then (bif decide (0 ≤ (i64.wrap ((i64.wrap (a1 * 8)) + v2))) && decide ((i64.wrap ((i64.wrap (a1 * 8)) + v2)) < (a0.s.length : Int)) then (bif !(a0.s.getD ((i64.wrap ((i64.wrap (a1 * 8)) + v2)).toNat) false) then some (⟨a0.s, a0.t, (a0.c.set ((a1).toNat) false)⟩ : ZM) else MOpen.l1 k a0 a1 n1 (i64.wrap (v2 + 1))) else none) else (bif decide (0 ≤ a1) && decide (a1 < (a0.t.length : Int)) then some (⟨a0.s, (a0.t.set ((a1).toNat) 1), (a0.c.set ((a1).toNat) false)⟩ : ZM) else none)) else (bif decide (0 ≤ a1) && decide (a1 < (a0.t.length : Int)) then some (⟨a0.s, (a0.t.set ((a1).toNat) 1), (a0.c.set ((a1).toNat) false)⟩ : ZM) else none))
set_option maxHeartbeats 4000000 in
def MOpen.f (k : Nat) (a0 : ZM) (a1 : Int) : Option (ZM) :=
  (bif decide (0 ≤ a1) && decide (a1 < (a0.c.length : Int)) then MOpen.l1 k a0 a1 k 0 else none)
set_option maxHeartbeats 4000000 in
theorem MOpen.ac (k : Nat) (a0 : ZM) (a1 : Int) (r : ZM) (h : MOpen.f k a0 a1 = some r) : AC Tryd.prog 28 28 [.c (zmC a0), .c (.v (.int .i64 a1))] [some (.c (zmC r)), none] [] := by
  unfold MOpen.f at h
  refine ac_intro (fn := Tryd.f28) (pins := [0]) (rts := []) Tryd.func28 rfl Tryd.ntmps28 rfl (Nat.le_of_ble_eq_true rfl) (pins_lt rfl) rfl (fun w R E vs => ?_)
  refine r_weak (of_weak (l := [(0, .u (.c (zmC a0))), (1, tI a1)]) (by kernel_rfl)) ?_
  refine r_seq ?_
  obtain ⟨hg1, h⟩ := guard_some h
  simp only [Bool.and_eq_true, decide_eq_true_eq] at hg1
  refine rr [(0, .u (.c (.pt true [.sl true 1 (a0.s.map eB), .sl true 1 (a0.t.map eI), .sl true 1 ((a0.c.set ((a1).toNat) false).map eB)]))), (1, tI a1)] (cgt 5 [5, 6, 7, 8, 9] (cot 6 (os_plain rfl rfl (s_indexV (r := 0) (lo := 0) (n := (a0.c.map eB).length) (pl := (some (.d, [], 2))) (sz := 1) (e := a1) (ik := .i64) (k := (a1).toNat) rfl sl52 (by kernel_rfl) (.tmp (by kernel_rfl)) hg1.1 (by rw [List.length_map]; exact hg1.2) (Nat.zero_add _) rfl (by kernel_rfl) (by kernel_rfl))) (cot 7 (os_plain rfl rfl (s_storeR (f := eB) (k := 0) (sz := 0) (n := 1) (r := 0) (off := 0) (s := .d) (p := [(2, .i ((a1).toNat) 1)]) (c := zmC a0) (cs := (eB (a0.c.getD ((a1).toNat) false))) (u := .c (.v (.bool false))) (us := [.v (.bool false)]) (c' := .pt true [.sl true 1 (a0.s.map eB), .sl true 1 (a0.t.map eI), .sl true 1 ((a0.c.set ((a1).toNat) false).map eB)]) rfl (by kernel_rfl) (by kernel_rfl) (by kernel_rfl) rfl (by kernel_rfl) (getP_in (c' := .sl true 1 (a0.c.map eB)) rfl (getP_map (f := eB) (own := true) (xs := a0.c) (k := (a1).toNat) false (by have := hg1; omega))) rfl rfl rfl (Nat.le_of_ble_eq_true rfl) (by kernel_rfl) rfl rfl rfl (congrArg (fun x => C.pt true [.sl true 1 (a0.s.map eB), .sl true 1 (a0.t.map eI), .sl true 1 x]) (map_setC (f := eB) (y := false) rfl)))) .nil))) ?_
  refine r_seq ?_
  refine r_seq ?_
  refine rr [(0, .u (.c (.pt true [.sl true 1 (a0.s.map eB), .sl true 1 (a0.t.map eI), .sl true 1 ((a0.c.set ((a1).toNat) false).map eB)]))), (1, tI a1), (4, tI 0)] (cgt 1 [4] .nil) ?_
  refine r_block ?_
  refine r_weak (of_weak (l := [(0, .u (.c (.pt true [.sl true 1 (a0.s.map eB), .sl true 1 (a0.t.map eI), .sl true 1 ((a0.c.set ((a1).toNat) false).map eB)]))), (1, tI a1), (4, tI 0)]) (by kernel_rfl)) ?_
  refine r_loopI (α := Int) (fun x => [(0, .u (.c (.pt true [.sl true 1 (a0.s.map eB), .sl true 1 (a0.t.map eI), .sl true 1 ((a0.c.set ((a1).toNat) false).map eB)]))), (1, tI a1), (4, tI x)]) (fun n x => MOpen.l1 k a0 a1 n x = some r) k 0 h (by intro x h; unfold MOpen.l1 at h; cases h) ?_
  rintro n1 v2 h
  replace h : MOpen.l1 k a0 a1 (n1 + 1) v2 = some r := h
  unfold MOpen.l1 at h
  show Run _ _ _ (St.of [(0, .u (.c (.pt true [.sl true 1 (a0.s.map eB), .sl true 1 (a0.t.map eI), .sl true 1 ((a0.c.set ((a1).toNat) false).map eB)]))), (1, tI a1), (4, tI v2)]) _
  refine r_seq ?_
  refine r_seq ?_
  rcases Bool.eq_false_or_eq_true (decide (v2 < 8)) with hb | hb
  · have h := cond_t hb h
    have hs3 := hb
    refine rr [(0, .u (.c (.pt true [.sl true 1 (a0.s.map eB), .sl true 1 (a0.t.map eI), .sl true 1 ((a0.c.set ((a1).toNat) false).map eB)]))), (1, tI a1), (4, tI v2), (24, tB (decide ((i64.wrap ((i64.wrap (a1 * 8)) + v2)) < (a0.s.length : Int))))] (cgt 2 [11, 12] (cot 3 (os_ge (d := 13) (t := tB (decide (v2 < 8))) (t' := tB true) (by kernel_rfl) (by rw [hs3])) (cgt 11 [14, 15, 16, 17, 18, 19, 20, 21] (cot 12 (os_to (os_gy rfl rfl rfl (by kernel_rfl) (s_lenV (r := 0) (lo := 0) (n := (a0.s.map eB).length) (pl := (some (.d, [], 0))) (sz := 1) rfl sl53 (by kernel_rfl) rfl (by kernel_rfl))) (t' := tI (a0.s.length : Int)) (by rw [List.length_map])) (cgt 14 [23, 24] .nil))))) ?_
    rcases Bool.eq_false_or_eq_true (decide ((i64.wrap ((i64.wrap (a1 * 8)) + v2)) < (a0.s.length : Int))) with hb | hb
    · have h := cond_t hb h
      refine r_condT hb rfl ?_
      refine r_skip ?_
      refine r_seq ?_
      refine r_block ?_
      refine r_seq ?_
      obtain ⟨hg4, h⟩ := guard_some h
      simp only [Bool.and_eq_true, decide_eq_true_eq] at hg4
      refine rr [(0, .u (.c (.pt true [.sl true 1 (a0.s.map eB), .sl true 1 (a0.t.map eI), .sl true 1 ((a0.c.set ((a1).toNat) false).map eB)]))), (1, tI a1), (4, tI v2), (37, tB (!(a0.s.getD ((i64.wrap ((i64.wrap (a1 * 8)) + v2)).toNat) false)))] (cgt 8 [27, 28, 29, 30, 31, 32, 33, 34] (cot 9 (os_plain rfl rfl (s_indexV (r := 0) (lo := 0) (n := (a0.s.map eB).length) (pl := (some (.d, [], 0))) (sz := 1) (e := (i64.wrap ((i64.wrap (a1 * 8)) + v2))) (ik := .i64) (k := (i64.wrap ((i64.wrap (a1 * 8)) + v2)).toNat) rfl sl53 (by kernel_rfl) (.tmp (by kernel_rfl)) hg4.1 (by rw [List.length_map]; exact hg4.2) (Nat.zero_add _) rfl (by kernel_rfl) (by kernel_rfl))) (cot 10 (os_plain rfl rfl (s_load1 (x := .v (.bool (a0.s.getD ((i64.wrap ((i64.wrap (a1 * 8)) + v2)).toNat) false))) (r := 0) (off := 0) (s := .d) (p := [(0, .i ((i64.wrap ((i64.wrap (a1 * 8)) + v2)).toNat) 1)]) (c := .pt true [.sl true 1 (a0.s.map eB), .sl true 1 (a0.t.map eI), .sl true 1 ((a0.c.set ((a1).toNat) false).map eB)]) (cs := (eB (a0.s.getD ((i64.wrap ((i64.wrap (a1 * 8)) + v2)).toNat) false))) rfl (oneB_ok (by kernel_rfl)) (by kernel_rfl) (by kernel_rfl) (getP_in (c' := .sl true 1 (a0.s.map eB)) rfl (getP_map (f := eB) (own := true) (xs := a0.s) (k := (i64.wrap ((i64.wrap (a1 * 8)) + v2)).toNat) false (by have := hg4; omega))) rfl rfl rfl (by kernel_rfl))) (cgt 11 [37] .nil)))) ?_
      rcases Bool.eq_false_or_eq_true (!(a0.s.getD ((i64.wrap ((i64.wrap (a1 * 8)) + v2)).toNat) false)) with hb | hb
      · have h := cond_t hb h
        refine r_condT hb rfl ?_
        refine r_ret ?_
        obtain rfl := Option.some.inj h
        exact ⟨.inr rfl, _, _, .nil, rfl, outs_of ⟨⟨rfl, rfl⟩, trivial⟩⟩
      have h := cond_f hb h
      refine r_condF hb rfl ?_
      refine r_skip ?_
      refine rr [(0, .u (.c (.pt true [.sl true 1 (a0.s.map eB), .sl true 1 (a0.t.map eI), .sl true 1 ((a0.c.set ((a1).toNat) false).map eB)]))), (1, tI a1), (4, tI (i64.wrap (v2 + 1)))] (cgt 3 [25, 26, 4] .nil) ?_
      exact ⟨i64.wrap (v2 + 1), h, of_weak (by kernel_rfl)⟩
    have h := cond_f hb h
    refine r_condF hb rfl ?_
    refine r_exit ?_
    obtain ⟨hg5, h⟩ := guard_some h
    simp only [Bool.and_eq_true, decide_eq_true_eq] at hg5
    refine rr [(0, .u (.c (.pt true [.sl true 1 (a0.s.map eB), .sl true 1 ((a0.t.set ((a1).toNat) 1).map eI), .sl true 1 ((a0.c.set ((a1).toNat) false).map eB)])))] (cgt 5 [38, 39, 40, 41, 42] (cot 6 (os_plain rfl rfl (s_indexV (r := 0) (lo := 0) (n := (a0.t.map eI).length) (pl := (some (.d, [], 1))) (sz := 1) (e := a1) (ik := .i64) (k := (a1).toNat) rfl sl48 (by kernel_rfl) (.tmp (by kernel_rfl)) hg5.1 (by rw [List.length_map]; exact hg5.2) (Nat.zero_add _) rfl (by kernel_rfl) (by kernel_rfl))) (cot 7 (os_plain rfl rfl (s_storeR (f := eI) (k := 0) (sz := 0) (n := 1) (r := 0) (off := 0) (s := .d) (p := [(1, .i ((a1).toNat) 1)]) (c := .pt true [.sl true 1 (a0.s.map eB), .sl true 1 (a0.t.map eI), .sl true 1 ((a0.c.set ((a1).toNat) false).map eB)]) (cs := (eI (a0.t.getD ((a1).toNat) (0 : Int)))) (u := .c (.v (.int .i64 1))) (us := [.v (.int .i64 1)]) (c' := .pt true [.sl true 1 (a0.s.map eB), .sl true 1 ((a0.t.set ((a1).toNat) 1).map eI), .sl true 1 ((a0.c.set ((a1).toNat) false).map eB)]) rfl (by kernel_rfl) (by kernel_rfl) (by kernel_rfl) rfl (by kernel_rfl) (getP_in (c' := .sl true 1 (a0.t.map eI)) rfl (getP_map (f := eI) (own := true) (xs := a0.t) (k := (a1).toNat) (0 : Int) (by have := hg5; omega))) rfl rfl rfl (Nat.le_of_ble_eq_true rfl) (by kernel_rfl) rfl rfl rfl (congrArg (fun x => C.pt true [.sl true 1 (a0.s.map eB), .sl true 1 x, .sl true 1 ((a0.c.set ((a1).toNat) false).map eB)]) (map_setC (f := eI) (y := 1) rfl)))) .nil))) ?_
    obtain rfl := Option.some.inj h
    exact ⟨.inl rfl, _, _, .nil, rfl, outs_of ⟨⟨rfl, rfl⟩, trivial⟩⟩
  have h := cond_f hb h
  have hs6 := hb
  refine rr [(0, .u (.c (.pt true [.sl true 1 (a0.s.map eB), .sl true 1 (a0.t.map eI), .sl true 1 ((a0.c.set ((a1).toNat) false).map eB)]))), (1, tI a1), (4, tI v2), (24, tB false)] (cgt 2 [11, 12] (cot 3 (os_ge (d := 13) (t := tB (decide (v2 < 8))) (t' := tB false) (by kernel_rfl) (by rw [hs6])) (cgt 14 [14, 15, 16, 17, 18, 19, 20, 21, 22, 23, 24] .nil))) ?_
  refine r_condF rfl rfl ?_
  refine r_exit ?_
  obtain ⟨hg7, h⟩ := guard_some h
  simp only [Bool.and_eq_true, decide_eq_true_eq] at hg7
  refine rr [(0, .u (.c (.pt true [.sl true 1 (a0.s.map eB), .sl true 1 ((a0.t.set ((a1).toNat) 1).map eI), .sl true 1 ((a0.c.set ((a1).toNat) false).map eB)])))] (cgt 5 [38, 39, 40, 41, 42] (cot 6 (os_plain rfl rfl (s_indexV (r := 0) (lo := 0) (n := (a0.t.map eI).length) (pl := (some (.d, [], 1))) (sz := 1) (e := a1) (ik := .i64) (k := (a1).toNat) rfl sl48 (by kernel_rfl) (.tmp (by kernel_rfl)) hg7.1 (by rw [List.length_map]; exact hg7.2) (Nat.zero_add _) rfl (by kernel_rfl) (by kernel_rfl))) (cot 7 (os_plain rfl rfl (s_storeR (f := eI) (k := 0) (sz := 0) (n := 1) (r := 0) (off := 0) (s := .d) (p := [(1, .i ((a1).toNat) 1)]) (c := .pt true [.sl true 1 (a0.s.map eB), .sl true 1 (a0.t.map eI), .sl true 1 ((a0.c.set ((a1).toNat) false).map eB)]) (cs := (eI (a0.t.getD ((a1).toNat) (0 : Int)))) (u := .c (.v (.int .i64 1))) (us := [.v (.int .i64 1)]) (c' := .pt true [.sl true 1 (a0.s.map eB), .sl true 1 ((a0.t.set ((a1).toNat) 1).map eI), .sl true 1 ((a0.c.set ((a1).toNat) false).map eB)]) rfl (by kernel_rfl) (by kernel_rfl) (by kernel_rfl) rfl (by kernel_rfl) (getP_in (c' := .sl true 1 (a0.t.map eI)) rfl (getP_map (f := eI) (own := true) (xs := a0.t) (k := (a1).toNat) (0 : Int) (by have := hg7; omega))) rfl rfl rfl (Nat.le_of_ble_eq_true rfl) (by kernel_rfl) rfl rfl rfl (congrArg (fun x => C.pt true [.sl true 1 (a0.s.map eB), .sl true 1 x, .sl true 1 ((a0.c.set ((a1).toNat) false).map eB)]) (map_setC (f := eI) (y := 1) rfl)))) .nil))) ?_
  obtain rfl := Option.some.inj h
  exact ⟨.inl rfl, _, _, .nil, rfl, outs_of ⟨⟨rfl, rfl⟩, trivial⟩⟩
def same.l2 (k : Nat) (a0 : Zon) (a1 : ZM) (r1 : (List Blk)) (r2 : (List Blk)) (v6 : Int) : Nat → Int → Option (Bool)
  | 0, _ => none
  | n2 + 1, v9 => (bif decide (v9 < (a1.t.length : Int)) then (ZSortR.f k a0 v9).bind fun (r10 : Int × (Option Int)) => (bif !(r10.2 == none) then some false else (bif decide (0 ≤ v9) && decide (v9 < (a1.t.length : Int)) then (bif r10.1 != (a1.t.getD v9.toNat (0 : Int)) then some false else (ZClosedR.f k a0 v9).bind fun (r16 : Bool) => (bif decide (0 ≤ v9) && decide (v9 < (a1.c.length : Int)) then (bif !(r16 == (a1.c.getD v9.toNat false)) then some false else (ZIsFreeR.f k a0 (i64.wrap (v9 * 8))).bind fun (r20 : Bool) => (bif decide (0 ≤ (i64.wrap (v9 * 8))) && decide ((i64.wrap (v9 * 8)) < (a1.s.length : Int)) then (bif !(r20 == (a1.s.getD ((i64.wrap (v9 * 8)).toNat) false)) then some false else same.l2 k a0 a1 r1 r2 v6 n2 (i64.wrap (v9 + 1))) else none)) else none)) else none)) else (ZSortR.f k a0 (a1.t.length : Int)).bind fun (r22 : Int × (Option Int)) => (bif r22.2 == (some 1) then (ZClosedR.f k a0 (-1)).bind fun (r24 : Bool) => (bif !r24 then (ZIsFreeR.f k a0 (a1.s.length : Int)).bind fun (r26 : Bool) => some (!r26) else some false) else some false))
def same.l1 (k : Nat) (a0 : Zon) (a1 : ZM) (r1 : (List Blk)) (r2 : (List Blk)) : Nat → Int → Option (Bool)
  | 0, _ => none
  | n1 + 1, v6 => (bif decide (v6 < (r1.length : Int)) then (bif decide (0 ≤ v6) && decide (v6 < (r1.length : Int)) then (bif decide (0 ≤ v6) && decide (v6 < (r2.length : Int)) then (bif !(((r1.getD ((v6).toNat) zR).f) == ((r2.getD ((v6).toNat) zR).f) && (((r1.getD ((v6).toNat) zR).o) == ((r2.getD ((v6).toNat) zR).o))) then some false else same.l1 k a0 a1 r1 r2 n1 (i64.wrap (v6 + 1))) else none) else none) else same.l2 k a0 a1 r1 r2 v6 k 0)
set_option maxHeartbeats 4000000 in
def same.f (k : Nat) (a0 : Zon) (a1 : ZM) : Option (Bool) :=
  (ZFreeR.f k a0).bind fun (r1 : (List Blk)) => (RFree.f k a1.s).bind fun (r2 : (List Blk)) => (bif (r1.length : Int) != (r2.length : Int) then some false else (ZGroupsR.f k a0).bind fun (r5 : Int) => (bif r5 != (a1.t.length : Int) then some false else same.l1 k a0 a1 r1 r2 k 0))
set_option maxHeartbeats 4000000 in
theorem same.ac (k : Nat) (a0 : Zon) (a1 : ZM) (r : Bool) (h : same.f k a0 a1 = some r) : AC Tryd.prog 28 10 [.c (.pt false [.pt false [.v (.int .i64 a0.s.n), .sl false 2 (a0.s.l.map eR)], .v (.int .i64 a0.n), .sl false 1 (a0.t.map eI), .sl false 1 (a0.c.map eB)]), .c (.pt false [.sl false 1 (a1.s.map eB), .sl false 1 (a1.t.map eI), .sl false 1 (a1.c.map eB)])] [none, none] [.c (.v (.bool r))] := by
  unfold same.f at h
  refine ac_intro (fn := Tryd.f10) (pins := []) (rts := [4]) Tryd.func10 rfl Tryd.ntmps10 rfl (Nat.le_of_ble_eq_true rfl) (pins_lt rfl) rfl (fun w R E vs => ?_)
  refine r_weak (of_weak (l := [(0, .u (.c (.pt false [.pt false [.v (.int .i64 a0.s.n), .sl false 2 (a0.s.l.map eR)], .v (.int .i64 a0.n), .sl false 1 (a0.t.map eI), .sl false 1 (a0.c.map eB)]))), (1, .u (.c (.pt false [.sl false 1 (a1.s.map eB), .sl false 1 (a1.t.map eI), .sl false 1 (a1.c.map eB)])))]) (by kernel_rfl)) ?_
  refine r_seq ?_
  refine rr [(0, .u (.c (.pt false [.pt false [.v (.int .i64 a0.s.n), .sl false 2 (a0.s.l.map eR)], .v (.int .i64 a0.n), .sl false 1 (a0.t.map eI), .sl false 1 (a0.c.map eB)]))), (1, .u (.c (.pt false [.sl false 1 (a1.s.map eB), .sl false 1 (a1.t.map eI), .sl false 1 (a1.c.map eB)])))] (cgt 1 [4] .nil) ?_
  refine r_seq ?_
  obtain ⟨r1, hr1, h⟩ := bind_some h
  refine rr [(0, .u (.c (.pt false [.pt false [.v (.int .i64 a0.s.n), .sl false 2 (a0.s.l.map eR)], .v (.int .i64 a0.n), .sl false 1 (a0.t.map eI), .sl false 1 (a0.c.map eB)]))), (1, .u (.c (.pt false [.sl false 1 (a1.s.map eB), .sl false 1 (a1.t.map eI), .sl false 1 (a1.c.map eB)]))), (5, .u (.c (.sl true 2 (r1.map eR))))] (cgt 1 [13] (cot 2 (os_plain rfl rfl (c_callQ (AC.k (ZFreeR.ac (h := hr1))) ⟨_, Tryd.func14, rfl, by kernel_rfl⟩ rfl (.cons (.copy (by kernel_rfl) rfl) .nil) (by kernel_rfl))) (cot 3 (os_plain rfl rfl (s_take (u := .c (.sl true 2 (r1.map eR))) (.inr rfl) (.move (by kernel_rfl) rfl) rfl (by kernel_rfl))) .nil))) ?_
  refine r_seq ?_
  obtain ⟨r2, hr2, h⟩ := bind_some h
  refine rr [(0, .u (.c (.pt false [.pt false [.v (.int .i64 a0.s.n), .sl false 2 (a0.s.l.map eR)], .v (.int .i64 a0.n), .sl false 1 (a0.t.map eI), .sl false 1 (a0.c.map eB)]))), (1, .u (.c (.pt false [.sl false 1 (a1.s.map eB), .sl false 1 (a1.t.map eI), .sl false 1 (a1.c.map eB)]))), (5, .u (.c (.sl true 2 (r1.map eR)))), (6, .u (.c (.sl true 2 (r2.map eR))))] (cot 1 (os_plain rfl rfl (s_movRO (cs := [.sl false 1 (a1.s.map eB), .sl false 1 (a1.t.map eI), .sl false 1 (a1.c.map eB)]) rfl (by kernel_rfl) rfl (by kernel_rfl) rfl)) (cgt 4 [16, 17, 18] (cot 5 (os_plain rfl rfl (c_callQ (AC.k (RFree.ac (h := hr2))) ⟨_, Tryd.func30, rfl, by kernel_rfl⟩ rfl (.cons (.copy (by kernel_rfl) rfl) .nil) (by kernel_rfl))) (cot 6 (os_plain rfl rfl (s_take (u := .c (.sl true 2 (r2.map eR))) (.inr rfl) (.move (by kernel_rfl) rfl) rfl (by kernel_rfl))) .nil)))) ?_
  refine r_seq ?_
  refine r_seq ?_
  rcases Bool.eq_false_or_eq_true ((r1.length : Int) != (r2.length : Int)) with hb | hb
  · have h := cond_t hb h
    have hs3 := hb
    refine r_weak (of_weak (l := [(0, .u (.c (.pt false [.pt false [.v (.int .i64 a0.s.n), .sl false 2 (a0.s.l.map eR)], .v (.int .i64 a0.n), .sl false 1 (a0.t.map eI), .sl false 1 (a0.c.map eB)]))), (1, .u (.c (.pt false [.sl false 1 (a1.s.map eB), .sl false 1 (a1.t.map eI), .sl false 1 (a1.c.map eB)]))), (5, .u (.c (.sl true 2 (r1.map eR)))), (6, .u (.c (.sl true 2 (r2.map eR))))]) (by kernel_rfl)) ?_
    refine r_anyW (l := [(0, .u (.c (.pt false [.pt false [.v (.int .i64 a0.s.n), .sl false 2 (a0.s.l.map eR)], .v (.int .i64 a0.n), .sl false 1 (a0.t.map eI), .sl false 1 (a0.c.map eB)]))), (1, .u (.c (.pt false [.sl false 1 (a1.s.map eB), .sl false 1 (a1.t.map eI), .sl false 1 (a1.c.map eB)]))), (5, .u (.c (.sl true 2 (r1.map eR)))), (6, .u (.c (.sl true 2 (r2.map eR)))), (34, tB true)]) (tab := [[], [0], [], [2], [1, 3], [4], [5], [6, 5, 5], [5], [8, 5], [9, 5], [10, 5], [11, 5], [7, 12, 5], [5, 13]]) [ev [] [5] 20 (.whole 5 none 2 ((r1.map eR).length)), ev [0] [5, 20] 21 (tI (r1.length : Int)), ev [] [6] 22 (.whole 6 none 2 ((r2.map eR).length)), ev [2] [6, 22] 23 (tI (r2.length : Int)), ev [0, 1, 2, 3] [21, 23] 24 (tB ((r1.length : Int) != (r2.length : Int))), ev [0, 1, 2, 3, 4] [24] 25 (tB true), eu 6 [25] 26 (.tup []), eu 7 [25] 27 (.tup []), eu 6 [25] 28 (.tup []), ev [0, 1, 2, 3, 4, 5, 8] [25] 29 (.tup []), ev [0, 1, 2, 3, 4, 5, 8, 9] [25] 30 (.tup []), ev [0, 1, 2, 3, 4, 5, 8, 9, 10] [25] 31 (.tup []), ev [0, 1, 2, 3, 4, 5, 8, 9, 10, 11] [25] 32 (.tup []), eu 13 [25] 33 (.tup []), eu 14 [25] 34 (tB true)] hm (by kernel_rfl) (by kernel_rfl) (by kernel_rfl) (en (.cons (fun σ hc => e_put hc rfl rfl (os_to (os_plain rfl rfl (s_lenV (r := 5) (lo := 0) (n := (r1.map eR).length) (pl := none) (sz := 2) rfl sl36 (by kernel_rfl) rfl (by kernel_rfl))) (t' := tI (r1.length : Int)) (by rw [List.length_map]))) (en (.cons (fun σ hc => e_put hc rfl rfl (os_to (os_plain rfl rfl (s_lenV (r := 6) (lo := 0) (n := (r2.map eR).length) (pl := none) (sz := 2) rfl sl36 (by kernel_rfl) rfl (by kernel_rfl))) (t' := tI (r2.length : Int)) (by rw [List.length_map]))) (en (.cons (fun σ hc => e_put hc rfl rfl (os_ge (d := 25) (t := tB ((r1.length : Int) != (r2.length : Int))) (t' := tB true) (by kernel_rfl) (by rw [hs3]))) (en (en (en (en (en (en (en (en (en .nil))))))))))))))) (by kernel_rfl) ?_
    refine r_condT rfl rfl ?_
    refine r_seq ?_
    refine rr [(4, tB false)] (cgt 1 [4] .nil) ?_
    refine r_ret ?_
    obtain rfl := Option.some.inj h
    exact ⟨.inr rfl, _, _, .cons (.copy rfl rfl rfl) .nil, rfl, outs_of trivial⟩
  have h := cond_f hb h
  have hs4 := hb
  obtain ⟨r5, hr5, h⟩ := bind_some h
  refine r_weak (of_weak (l := [(0, .u (.c (.pt false [.pt false [.v (.int .i64 a0.s.n), .sl false 2 (a0.s.l.map eR)], .v (.int .i64 a0.n), .sl false 1 (a0.t.map eI), .sl false 1 (a0.c.map eB)]))), (1, .u (.c (.pt false [.sl false 1 (a1.s.map eB), .sl false 1 (a1.t.map eI), .sl false 1 (a1.c.map eB)]))), (5, .u (.c (.sl true 2 (r1.map eR)))), (6, .u (.c (.sl true 2 (r2.map eR))))]) (by kernel_rfl)) ?_
  refine r_anyW (l := [(0, .u (.c (.pt false [.pt false [.v (.int .i64 a0.s.n), .sl false 2 (a0.s.l.map eR)], .v (.int .i64 a0.n), .sl false 1 (a0.t.map eI), .sl false 1 (a0.c.map eB)]))), (1, .u (.c (.pt false [.sl false 1 (a1.s.map eB), .sl false 1 (a1.t.map eI), .sl false 1 (a1.c.map eB)]))), (5, .u (.c (.sl true 2 (r1.map eR)))), (6, .u (.c (.sl true 2 (r2.map eR)))), (34, tB (r5 != (a1.t.length : Int)))]) (tab := [[], [0], [], [2], [1, 3], [4], [5], [6, 5, 5], [5], [8, 5], [9, 5], [10, 5], [11, 5], [7, 12, 5], [5, 13]]) [ev [] [5] 20 (.whole 5 none 2 ((r1.map eR).length)), ev [0] [5, 20] 21 (tI (r1.length : Int)), ev [] [6] 22 (.whole 6 none 2 ((r2.map eR).length)), ev [2] [6, 22] 23 (tI (r2.length : Int)), ev [0, 1, 2, 3] [21, 23] 24 (tB ((r1.length : Int) != (r2.length : Int))), ev [0, 1, 2, 3, 4] [24] 25 (tB false), eu 6 [0, 25] 26 (.u (.c (.pt false [.pt false [.v (.int .i64 a0.s.n), .sl false 2 (a0.s.l.map eR)], .v (.int .i64 a0.n), .sl false 1 (a0.t.map eI), .sl false 1 (a0.c.map eB)]))), eu 7 [25, 26] 27 (tI r5), eu 6 [1, 25] 28 (.addr 1 (.d) [] 0), ev [0, 1, 2, 3, 4, 5, 8] [25, 28] 29 (.addr 1 (.d) [] 0), ev [0, 1, 2, 3, 4, 5, 8, 9] [25, 29] 30 (.addr 1 (.d) [] 1), ev [0, 1, 2, 3, 4, 5, 8, 9, 10] [1, 25, 30] 31 (.u (.c (.sl false 1 (a1.t.map eI)))), ev [0, 1, 2, 3, 4, 5, 8, 9, 10, 11] [25, 31] 32 (tI (a1.t.length : Int)), eu 13 [25, 27, 32] 33 (tB (r5 != (a1.t.length : Int))), eu 14 [25, 33] 34 (tB (r5 != (a1.t.length : Int)))] hm (by kernel_rfl) (by kernel_rfl) (by kernel_rfl) (en (.cons (fun σ hc => e_put hc rfl rfl (os_to (os_plain rfl rfl (s_lenV (r := 5) (lo := 0) (n := (r1.map eR).length) (pl := none) (sz := 2) rfl sl36 (by kernel_rfl) rfl (by kernel_rfl))) (t' := tI (r1.length : Int)) (by rw [List.length_map]))) (en (.cons (fun σ hc => e_put hc rfl rfl (os_to (os_plain rfl rfl (s_lenV (r := 6) (lo := 0) (n := (r2.map eR).length) (pl := none) (sz := 2) rfl sl36 (by kernel_rfl) rfl (by kernel_rfl))) (t' := tI (r2.length : Int)) (by rw [List.length_map]))) (en (.cons (fun σ hc => e_put hc rfl rfl (os_ge (d := 25) (t := tB ((r1.length : Int) != (r2.length : Int))) (t' := tB false) (by kernel_rfl) (by rw [hs4]))) (en (.cons (fun σ hc => e_put hc rfl rfl (os_gy rfl rfl rfl (by kernel_rfl) (c_callQ (res := [.c (.v (.int .i64 r5))]) (AC.k (ZGroupsR.ac (h := hr5))) ⟨_, Tryd.func16, rfl, by kernel_rfl⟩ rfl (.cons (.copy (by kernel_rfl) rfl) .nil) (by kernel_rfl)))) (.cons (fun σ hc => e_put hc rfl rfl (os_gy rfl rfl rfl (by kernel_rfl) (s_movRO (cs := [.sl false 1 (a1.s.map eB), .sl false 1 (a1.t.map eI), .sl false 1 (a1.c.map eB)]) rfl (by kernel_rfl) rfl (by kernel_rfl) rfl))) (en (en (en (.cons (fun σ hc => e_put hc rfl rfl (os_to (os_gy rfl rfl rfl (by kernel_rfl) (s_lenU (own := false) (sz := 1) (rows := (a1.t.map eI)) rfl sl48 (by kernel_rfl) rfl (by kernel_rfl))) (t' := tI (a1.t.length : Int)) (by rw [List.length_map]))) (en (en .nil))))))))))))))) (by kernel_rfl) ?_
  rcases Bool.eq_false_or_eq_true (r5 != (a1.t.length : Int)) with hb | hb
  · have h := cond_t hb h
    refine r_condT hb rfl ?_
    refine r_seq ?_
    refine rr [(4, tB false)] (cgt 1 [4] .nil) ?_
    refine r_ret ?_
    obtain rfl := Option.some.inj h
    exact ⟨.inr rfl, _, _, .cons (.copy rfl rfl rfl) .nil, rfl, outs_of trivial⟩
  have h := cond_f hb h
  refine r_condF hb rfl ?_
  refine r_skip ?_
  refine r_seq ?_
  refine r_seq ?_
  refine rr [(0, .u (.c (.pt false [.pt false [.v (.int .i64 a0.s.n), .sl false 2 (a0.s.l.map eR)], .v (.int .i64 a0.n), .sl false 1 (a0.t.map eI), .sl false 1 (a0.c.map eB)]))), (1, .u (.c (.pt false [.sl false 1 (a1.s.map eB), .sl false 1 (a1.t.map eI), .sl false 1 (a1.c.map eB)]))), (5, .u (.c (.sl true 2 (r1.map eR)))), (6, .u (.c (.sl true 2 (r2.map eR)))), (7, tI 0)] (cgt 1 [7] .nil) ?_
  refine r_block ?_
  refine r_weak (of_weak (l := [(0, .u (.c (.pt false [.pt false [.v (.int .i64 a0.s.n), .sl false 2 (a0.s.l.map eR)], .v (.int .i64 a0.n), .sl false 1 (a0.t.map eI), .sl false 1 (a0.c.map eB)]))), (1, .u (.c (.pt false [.sl false 1 (a1.s.map eB), .sl false 1 (a1.t.map eI), .sl false 1 (a1.c.map eB)]))), (5, .u (.c (.sl true 2 (r1.map eR)))), (6, .u (.c (.sl true 2 (r2.map eR)))), (7, tI 0)]) (by kernel_rfl)) ?_
  refine r_loopI (α := Int) (fun x => [(0, .u (.c (.pt false [.pt false [.v (.int .i64 a0.s.n), .sl false 2 (a0.s.l.map eR)], .v (.int .i64 a0.n), .sl false 1 (a0.t.map eI), .sl false 1 (a0.c.map eB)]))), (1, .u (.c (.pt false [.sl false 1 (a1.s.map eB), .sl false 1 (a1.t.map eI), .sl false 1 (a1.c.map eB)]))), (5, .u (.c (.sl true 2 (r1.map eR)))), (6, .u (.c (.sl true 2 (r2.map eR)))), (7, tI x)]) (fun n x => same.l1 k a0 a1 r1 r2 n x = some r) k 0 h (by intro x h; unfold same.l1 at h; cases h) ?_
  rintro n1 v6 h
  replace h : same.l1 k a0 a1 r1 r2 (n1 + 1) v6 = some r := h
  unfold same.l1 at h
  show Run _ _ _ (St.of [(0, .u (.c (.pt false [.pt false [.v (.int .i64 a0.s.n), .sl false 2 (a0.s.l.map eR)], .v (.int .i64 a0.n), .sl false 1 (a0.t.map eI), .sl false 1 (a0.c.map eB)]))), (1, .u (.c (.pt false [.sl false 1 (a1.s.map eB), .sl false 1 (a1.t.map eI), .sl false 1 (a1.c.map eB)]))), (5, .u (.c (.sl true 2 (r1.map eR)))), (6, .u (.c (.sl true 2 (r2.map eR)))), (7, tI v6)]) _
  refine r_seq ?_
  refine r_seq ?_
  refine rr [(0, .u (.c (.pt false [.pt false [.v (.int .i64 a0.s.n), .sl false 2 (a0.s.l.map eR)], .v (.int .i64 a0.n), .sl false 1 (a0.t.map eI), .sl false 1 (a0.c.map eB)]))), (1, .u (.c (.pt false [.sl false 1 (a1.s.map eB), .sl false 1 (a1.t.map eI), .sl false 1 (a1.c.map eB)]))), (5, .u (.c (.sl true 2 (r1.map eR)))), (6, .u (.c (.sl true 2 (r2.map eR)))), (7, tI v6), (38, tB (decide (v6 < (r1.length : Int))))] (cgt 2 [35, 36] (cot 3 (os_to (os_plain rfl rfl (s_lenV (r := 5) (lo := 0) (n := (r1.map eR).length) (pl := none) (sz := 2) rfl sl36 (by kernel_rfl) rfl (by kernel_rfl))) (t' := tI (r1.length : Int)) (by rw [List.length_map])) (cgt 4 [38] .nil))) ?_
  rcases Bool.eq_false_or_eq_true (decide (v6 < (r1.length : Int))) with hb | hb
  · have h := cond_t hb h
    refine r_condT hb rfl ?_
    refine r_skip ?_
    refine r_seq ?_
    refine r_block ?_
    refine r_seq ?_
    obtain ⟨hg7, h⟩ := guard_some h
    simp only [Bool.and_eq_true, decide_eq_true_eq] at hg7
    obtain ⟨hg8, h⟩ := guard_some h
    simp only [Bool.and_eq_true, decide_eq_true_eq] at hg8
    refine r_weak (of_weak (l := [(0, .u (.c (.pt false [.pt false [.v (.int .i64 a0.s.n), .sl false 2 (a0.s.l.map eR)], .v (.int .i64 a0.n), .sl false 1 (a0.t.map eI), .sl false 1 (a0.c.map eB)]))), (1, .u (.c (.pt false [.sl false 1 (a1.s.map eB), .sl false 1 (a1.t.map eI), .sl false 1 (a1.c.map eB)]))), (5, .u (.c (.sl true 2 (r1.map eR)))), (6, .u (.c (.sl true 2 (r2.map eR)))), (7, tI v6), (38, tB (decide (v6 < (r1.length : Int))))]) (by kernel_rfl)) ?_
    refine r_anyW (l := [(0, .u (.c (.pt false [.pt false [.v (.int .i64 a0.s.n), .sl false 2 (a0.s.l.map eR)], .v (.int .i64 a0.n), .sl false 1 (a0.t.map eI), .sl false 1 (a0.c.map eB)]))), (1, .u (.c (.pt false [.sl false 1 (a1.s.map eB), .sl false 1 (a1.t.map eI), .sl false 1 (a1.c.map eB)]))), (5, .u (.c (.sl true 2 (r1.map eR)))), (6, .u (.c (.sl true 2 (r2.map eR)))), (7, tI v6), (49, tB (!(((r1.getD ((v6).toNat) zR).f) == ((r2.getD ((v6).toNat) zR).f) && (((r1.getD ((v6).toNat) zR).o) == ((r2.getD ((v6).toNat) zR).o)))))]) (tab := [[], [], [0, 1], [2], [], [], [4, 5], [6], [3, 7]]) [ev [] [5] 41 (.whole 5 none 2 ((r1.map eR).length)), ev [] [7] 42 (tI v6), ev [0, 1] [5, 41, 42] 43 (.addr 5 (.i ((v6).toNat) 2) [] 0), ev [0, 1, 2] [5, 43] 44 (.u (.agg [.v (.int .i64 ((r1.getD ((v6).toNat) zR).f)), .v (.int .i64 ((r1.getD ((v6).toNat) zR).o))])), ev [] [6] 45 (.whole 6 none 2 ((r2.map eR).length)), ev [] [7] 46 (tI v6), ev [4, 5] [6, 45, 46] 47 (.addr 6 (.i ((v6).toNat) 2) [] 0), ev [4, 5, 6] [6, 47] 48 (.u (.agg [.v (.int .i64 ((r2.getD ((v6).toNat) zR).f)), .v (.int .i64 ((r2.getD ((v6).toNat) zR).o))])), eu 8 [44, 48] 49 (tB (!(((r1.getD ((v6).toNat) zR).f) == ((r2.getD ((v6).toNat) zR).f) && (((r1.getD ((v6).toNat) zR).o) == ((r2.getD ((v6).toNat) zR).o)))))] hm (by kernel_rfl) (by kernel_rfl) (by kernel_rfl) (en (en (.cons (fun σ hc => e_put hc rfl rfl (os_plain rfl rfl (s_indexV (r := 5) (lo := 0) (n := (r1.map eR).length) (pl := none) (sz := 2) (e := v6) (ik := .i64) (k := (v6).toNat) rfl sl36 (by kernel_rfl) (.tmp (by kernel_rfl)) hg7.1 (by rw [List.length_map]; exact hg7.2) (Nat.zero_add _) rfl (by kernel_rfl) (by kernel_rfl)))) (.cons (fun σ hc => e_put hc rfl rfl (os_plain rfl rfl (s_loadA (n := 2) (xs := [.v (.int .i64 ((r1.getD ((v6).toNat) zR).f)), .v (.int .i64 ((r1.getD ((v6).toNat) zR).o))]) (r := 5) (off := 0) (s := .i ((v6).toNat) 2) (p := []) (c := .sl true 2 (r1.map eR)) (cs := eR (r1.getD ((v6).toNat) zR)) rfl (aggB_ok (by kernel_rfl)) (by kernel_rfl) (by kernel_rfl) (getP_map zR (by have := hg7; omega)) rfl rfl rfl rfl (by kernel_rfl)))) (en (en (.cons (fun σ hc => e_put hc rfl rfl (os_plain rfl rfl (s_indexV (r := 6) (lo := 0) (n := (r2.map eR).length) (pl := none) (sz := 2) (e := v6) (ik := .i64) (k := (v6).toNat) rfl sl36 (by kernel_rfl) (.tmp (by kernel_rfl)) hg8.1 (by rw [List.length_map]; exact hg8.2) (Nat.zero_add _) rfl (by kernel_rfl) (by kernel_rfl)))) (.cons (fun σ hc => e_put hc rfl rfl (os_plain rfl rfl (s_loadA (n := 2) (xs := [.v (.int .i64 ((r2.getD ((v6).toNat) zR).f)), .v (.int .i64 ((r2.getD ((v6).toNat) zR).o))]) (r := 6) (off := 0) (s := .i ((v6).toNat) 2) (p := []) (c := .sl true 2 (r2.map eR)) (cs := eR (r2.getD ((v6).toNat) zR)) rfl (aggB_ok (by kernel_rfl)) (by kernel_rfl) (by kernel_rfl) (getP_map zR (by have := hg8; omega)) rfl rfl rfl rfl (by kernel_rfl)))) (.cons (fun σ hc => e_put hc rfl rfl (os_plain rfl rfl (s_eqA (b := ((r1.getD ((v6).toNat) zR).f) == ((r2.getD ((v6).toNat) zR).f) && (((r1.getD ((v6).toNat) zR).o) == ((r2.getD ((v6).toNat) zR).o))) rfl (.inr rfl) eqAgg39 (by kernel_rfl) rfl rfl rfl rfl rfl rfl (by kernel_rfl)))) .nil))))))))) (by kernel_rfl) ?_
    rcases Bool.eq_false_or_eq_true (!(((r1.getD ((v6).toNat) zR).f) == ((r2.getD ((v6).toNat) zR).f) && (((r1.getD ((v6).toNat) zR).o) == ((r2.getD ((v6).toNat) zR).o)))) with hb | hb
    · have h := cond_t hb h
      refine r_condT hb rfl ?_
      refine r_seq ?_
      refine rr [(4, tB false)] (cgt 1 [4] .nil) ?_
      refine r_ret ?_
      obtain rfl := Option.some.inj h
      exact ⟨.inr rfl, _, _, .cons (.copy rfl rfl rfl) .nil, rfl, outs_of trivial⟩
    have h := cond_f hb h
    refine r_condF hb rfl ?_
    refine r_skip ?_
    refine rr [(0, .u (.c (.pt false [.pt false [.v (.int .i64 a0.s.n), .sl false 2 (a0.s.l.map eR)], .v (.int .i64 a0.n), .sl false 1 (a0.t.map eI), .sl false 1 (a0.c.map eB)]))), (1, .u (.c (.pt false [.sl false 1 (a1.s.map eB), .sl false 1 (a1.t.map eI), .sl false 1 (a1.c.map eB)]))), (5, .u (.c (.sl true 2 (r1.map eR)))), (6, .u (.c (.sl true 2 (r2.map eR)))), (7, tI (i64.wrap (v6 + 1)))] (cgt 3 [39, 40, 7] .nil) ?_
    exact ⟨i64.wrap (v6 + 1), h, of_weak (by kernel_rfl)⟩
  have h := cond_f hb h
  refine r_condF hb rfl ?_
  refine r_exit ?_
  refine r_seq ?_
  refine r_seq ?_
  refine rr [(0, .u (.c (.pt false [.pt false [.v (.int .i64 a0.s.n), .sl false 2 (a0.s.l.map eR)], .v (.int .i64 a0.n), .sl false 1 (a0.t.map eI), .sl false 1 (a0.c.map eB)]))), (1, .u (.c (.pt false [.sl false 1 (a1.s.map eB), .sl false 1 (a1.t.map eI), .sl false 1 (a1.c.map eB)]))), (8, tI 0)] (cgt 1 [8] .nil) ?_
  refine r_block ?_
  refine r_weak (of_weak (l := [(0, .u (.c (.pt false [.pt false [.v (.int .i64 a0.s.n), .sl false 2 (a0.s.l.map eR)], .v (.int .i64 a0.n), .sl false 1 (a0.t.map eI), .sl false 1 (a0.c.map eB)]))), (1, .u (.c (.pt false [.sl false 1 (a1.s.map eB), .sl false 1 (a1.t.map eI), .sl false 1 (a1.c.map eB)]))), (8, tI 0)]) (by kernel_rfl)) ?_
  refine r_loopI (α := Int) (fun x => [(0, .u (.c (.pt false [.pt false [.v (.int .i64 a0.s.n), .sl false 2 (a0.s.l.map eR)], .v (.int .i64 a0.n), .sl false 1 (a0.t.map eI), .sl false 1 (a0.c.map eB)]))), (1, .u (.c (.pt false [.sl false 1 (a1.s.map eB), .sl false 1 (a1.t.map eI), .sl false 1 (a1.c.map eB)]))), (8, tI x)]) (fun n x => same.l2 k a0 a1 r1 r2 v6 n x = some r) k 0 h (by intro x h; unfold same.l2 at h; cases h) ?_
  rintro n2 v9 h
  replace h : same.l2 k a0 a1 r1 r2 v6 (n2 + 1) v9 = some r := h
  unfold same.l2 at h
  show Run _ _ _ (St.of [(0, .u (.c (.pt false [.pt false [.v (.int .i64 a0.s.n), .sl false 2 (a0.s.l.map eR)], .v (.int .i64 a0.n), .sl false 1 (a0.t.map eI), .sl false 1 (a0.c.map eB)]))), (1, .u (.c (.pt false [.sl false 1 (a1.s.map eB), .sl false 1 (a1.t.map eI), .sl false 1 (a1.c.map eB)]))), (8, tI v9)]) _
  refine r_seq ?_
  refine r_seq ?_
  refine rr [(0, .u (.c (.pt false [.pt false [.v (.int .i64 a0.s.n), .sl false 2 (a0.s.l.map eR)], .v (.int .i64 a0.n), .sl false 1 (a0.t.map eI), .sl false 1 (a0.c.map eB)]))), (1, .u (.c (.pt false [.sl false 1 (a1.s.map eB), .sl false 1 (a1.t.map eI), .sl false 1 (a1.c.map eB)]))), (8, tI v9), (56, tB (decide (v9 < (a1.t.length : Int))))] (cgt 1 [50] (cot 2 (os_plain rfl rfl (s_movRO (cs := [.sl false 1 (a1.s.map eB), .sl false 1 (a1.t.map eI), .sl false 1 (a1.c.map eB)]) rfl (by kernel_rfl) rfl (by kernel_rfl) rfl)) (cgt 5 [52, 53, 54] (cot 6 (os_to (os_plain rfl rfl (s_lenU (own := false) (sz := 1) (rows := (a1.t.map eI)) rfl sl48 (by kernel_rfl) rfl (by kernel_rfl))) (t' := tI (a1.t.length : Int)) (by rw [List.length_map])) (cgt 7 [56] .nil))))) ?_
  rcases Bool.eq_false_or_eq_true (decide (v9 < (a1.t.length : Int))) with hb | hb
  · have h := cond_t hb h
    refine r_condT hb rfl ?_
    refine r_skip ?_
    refine r_seq ?_
    refine r_block ?_
    refine r_seq ?_
    obtain ⟨r10, hr10, h⟩ := bind_some h
    refine rr [(0, .u (.c (.pt false [.pt false [.v (.int .i64 a0.s.n), .sl false 2 (a0.s.l.map eR)], .v (.int .i64 a0.n), .sl false 1 (a0.t.map eI), .sl false 1 (a0.c.map eB)]))), (1, .u (.c (.pt false [.sl false 1 (a1.s.map eB), .sl false 1 (a1.t.map eI), .sl false 1 (a1.c.map eB)]))), (8, tI v9), (9, tI r10.1), (10, .u (.c (.err r10.2)))] (cgt 2 [60, 61] (cot 3 (os_plain rfl rfl (c_callQ (AC.k (ZSortR.ac (h := hr10))) ⟨_, Tryd.func19, rfl, by kernel_rfl⟩ rfl (.cons (.copy (by kernel_rfl) rfl) (.cons (.copy (by kernel_rfl) rfl) .nil)) (by kernel_rfl))) (cot 4 (os_plain rfl rfl (s_moveT (us := [.c (.v (.int .i64 r10.1)), .c (.err r10.2)]) (.inl rfl) (by kernel_rfl) rfl (by kernel_rfl))) (cgt 8 [63, 64, 9, 10] .nil)))) ?_
    refine r_seq ?_
    rcases Bool.eq_false_or_eq_true (!(r10.2 == none)) with hb | hb
    · have h := cond_t hb h
      have hs11 := hb
      refine r_weak (of_weak (l := [(0, .u (.c (.pt false [.pt false [.v (.int .i64 a0.s.n), .sl false 2 (a0.s.l.map eR)], .v (.int .i64 a0.n), .sl false 1 (a0.t.map eI), .sl false 1 (a0.c.map eB)]))), (1, .u (.c (.pt false [.sl false 1 (a1.s.map eB), .sl false 1 (a1.t.map eI), .sl false 1 (a1.c.map eB)]))), (8, tI v9), (9, tI r10.1), (10, .u (.c (.err r10.2)))]) (by kernel_rfl)) ?_
      refine r_anyW (l := [(0, .u (.c (.pt false [.pt false [.v (.int .i64 a0.s.n), .sl false 2 (a0.s.l.map eR)], .v (.int .i64 a0.n), .sl false 1 (a0.t.map eI), .sl false 1 (a0.c.map eB)]))), (1, .u (.c (.pt false [.sl false 1 (a1.s.map eB), .sl false 1 (a1.t.map eI), .sl false 1 (a1.c.map eB)]))), (8, tI v9), (105, tB true)]) (tab := [[], [0], [1], [2], [2], [4, 2], [5, 2], [6, 2], [2], [7, 8, 2], [9, 2], [3, 10, 2], [2, 11], [12, 2], [13], [13], [14, 15, 13, 13], [13], [17, 13], [18, 13], [19, 13], [13], [20, 21, 13], [22, 13], [16, 23, 13], [13, 24], [25, 16], [26], [26], [28, 26], [27, 29, 26, 26], [26], [31, 26], [32, 26], [33, 26], [26], [35, 26], [34, 36, 26], [37, 26], [30, 38, 26], [26, 39]]) [ev [] [10] 65 (.u (.c (.err r10.2))), ev [0] [65] 66 (tB (!(r10.2 == none))), ev [0, 1] [66] 67 (tB true), ev [0, 1, 2] [67] 68 (.tup []), ev [0, 1, 2] [67] 69 (.tup []), ev [0, 1, 2, 4] [67] 70 (.tup []), ev [0, 1, 2, 4, 5] [67] 71 (.tup []), ev [0, 1, 2, 4, 5, 6] [67] 72 (.tup []), ev [0, 1, 2] [67] 73 (.tup []), ev [0, 1, 2, 4, 5, 6, 7, 8] [67] 74 (.tup []), ev [0, 1, 2, 4, 5, 6, 7, 8, 9] [67] 75 (.tup []), eu 11 [67] 76 (.tup []), eu 12 [67] 77 (tB true), eu 13 [77] 78 (tB true), eu 14 [78] 79 (.tup []), eu 14 [78] 80 (.tup []), eu 16 [78] 81 (.tup []), eu 14 [78] 82 (.tup []), ev [0, 1, 2, 3, 4, 5, 6, 7, 8, 9, 10, 11, 12, 13, 17] [78] 83 (.tup []), ev [0, 1, 2, 3, 4, 5, 6, 7, 8, 9, 10, 11, 12, 13, 17, 18] [78] 84 (.tup []), ev [0, 1, 2, 3, 4, 5, 6, 7, 8, 9, 10, 11, 12, 13, 17, 18, 19] [78] 85 (.tup []), eu 14 [78] 86 (.tup []), ev [0, 1, 2, 3, 4, 5, 6, 7, 8, 9, 10, 11, 12, 13, 17, 18, 19, 20, 21] [78] 87 (.tup []), ev [0, 1, 2, 3, 4, 5, 6, 7, 8, 9, 10, 11, 12, 13, 17, 18, 19, 20, 21, 22] [78] 88 (.tup []), eu 24 [78] 89 (.tup []), eu 25 [78] 90 (tB true), eu 26 [90] 91 (tB true), eu 27 [91] 92 (.tup []), eu 27 [91] 93 (.tup []), ev [0, 1, 2, 3, 4, 5, 6, 7, 8, 9, 10, 11, 12, 13, 14, 15, 16, 17, 18, 19, 20, 21, 22, 23, 24, 25, 26, 28] [91] 94 (.tup []), eu 30 [91] 95 (.tup []), eu 27 [91] 96 (.tup []), ev [0, 1, 2, 3, 4, 5, 6, 7, 8, 9, 10, 11, 12, 13, 14, 15, 16, 17, 18, 19, 20, 21, 22, 23, 24, 25, 26, 31] [91] 97 (.tup []), ev [0, 1, 2, 3, 4, 5, 6, 7, 8, 9, 10, 11, 12, 13, 14, 15, 16, 17, 18, 19, 20, 21, 22, 23, 24, 25, 26, 31, 32] [91] 98 (.tup []), ev [0, 1, 2, 3, 4, 5, 6, 7, 8, 9, 10, 11, 12, 13, 14, 15, 16, 17, 18, 19, 20, 21, 22, 23, 24, 25, 26, 31, 32, 33] [91] 99 (.tup []), eu 27 [91] 100 (.tup []), ev [0, 1, 2, 3, 4, 5, 6, 7, 8, 9, 10, 11, 12, 13, 14, 15, 16, 17, 18, 19, 20, 21, 22, 23, 24, 25, 26, 35] [91] 101 (.tup []), ev [0, 1, 2, 3, 4, 5, 6, 7, 8, 9, 10, 11, 12, 13, 14, 15, 16, 17, 18, 19, 20, 21, 22, 23, 24, 25, 26, 31, 32, 33, 34, 35, 36] [91] 102 (.tup []), ev [0, 1, 2, 3, 4, 5, 6, 7, 8, 9, 10, 11, 12, 13, 14, 15, 16, 17, 18, 19, 20, 21, 22, 23, 24, 25, 26, 31, 32, 33, 34, 35, 36, 37] [91] 103 (.tup []), eu 39 [91] 104 (.tup []), eu 40 [91] 105 (tB true)] hm (by kernel_rfl) (by kernel_rfl) (by kernel_rfl) (en (en (.cons (fun σ hc => e_put hc rfl rfl (os_ge (d := 67) (t := tB (!(r10.2 == none))) (t' := tB true) (by kernel_rfl) (by rw [hs11]))) (en (en (en (en (en (en (en (en (en (en (en (en (en (en (en (en (en (en (en (en (en (en (en (en (en (en (en (en (en (en (en (en (en (en (en (en (en (en .nil))))))))))))))))))))))))))))))))))))))))) (by kernel_rfl) ?_
      refine r_condT rfl rfl ?_
      refine r_seq ?_
      refine rr [(4, tB false)] (cgt 1 [4] .nil) ?_
      refine r_ret ?_
      obtain rfl := Option.some.inj h
      exact ⟨.inr rfl, _, _, .cons (.copy rfl rfl rfl) .nil, rfl, outs_of trivial⟩
    have h := cond_f hb h
    have hs12 := hb
    obtain ⟨hg13, h⟩ := guard_some h
    simp only [Bool.and_eq_true, decide_eq_true_eq] at hg13
    rcases Bool.eq_false_or_eq_true (r10.1 != (a1.t.getD v9.toNat (0 : Int))) with hb | hb
    · have h := cond_t hb h
      have hs14 := hb
      refine r_weak (of_weak (l := [(0, .u (.c (.pt false [.pt false [.v (.int .i64 a0.s.n), .sl false 2 (a0.s.l.map eR)], .v (.int .i64 a0.n), .sl false 1 (a0.t.map eI), .sl false 1 (a0.c.map eB)]))), (1, .u (.c (.pt false [.sl false 1 (a1.s.map eB), .sl false 1 (a1.t.map eI), .sl false 1 (a1.c.map eB)]))), (8, tI v9), (9, tI r10.1), (10, .u (.c (.err r10.2)))]) (by kernel_rfl)) ?_
      refine r_anyW (l := [(0, .u (.c (.pt false [.pt false [.v (.int .i64 a0.s.n), .sl false 2 (a0.s.l.map eR)], .v (.int .i64 a0.n), .sl false 1 (a0.t.map eI), .sl false 1 (a0.c.map eB)]))), (1, .u (.c (.pt false [.sl false 1 (a1.s.map eB), .sl false 1 (a1.t.map eI), .sl false 1 (a1.c.map eB)]))), (8, tI v9), (105, tB true)]) (tab := [[], [0], [1], [2], [2], [4, 2], [5, 2], [6, 2], [2], [7, 8, 2], [9, 2], [3, 10, 2], [2, 11], [12, 2], [13], [13], [14, 15, 13, 13], [13], [17, 13], [18, 13], [19, 13], [13], [20, 21, 13], [22, 13], [16, 23, 13], [13, 24], [25, 16], [26], [26], [28, 26], [27, 29, 26, 26], [26], [31, 26], [32, 26], [33, 26], [26], [35, 26], [34, 36, 26], [37, 26], [30, 38, 26], [26, 39]]) [ev [] [10] 65 (.u (.c (.err r10.2))), ev [0] [65] 66 (tB (!(r10.2 == none))), ev [0, 1] [66] 67 (tB false), ev [0, 1, 2] [9, 67] 68 (tI r10.1), ev [0, 1, 2] [1, 67] 69 (.addr 1 (.d) [] 0), ev [0, 1, 2, 4] [67, 69] 70 (.addr 1 (.d) [] 0), ev [0, 1, 2, 4, 5] [67, 70] 71 (.addr 1 (.d) [] 1), ev [0, 1, 2, 4, 5, 6] [1, 67, 71] 72 (.u (.c (.sl false 1 (a1.t.map eI)))), ev [0, 1, 2] [8, 67] 73 (tI v9), ev [0, 1, 2, 4, 5, 6, 7, 8] [67, 72, 73] 74 (.addr 72 (.i v9.toNat 1) [] 0), ev [0, 1, 2, 4, 5, 6, 7, 8, 9] [67, 72, 74] 75 (tI (a1.t.getD v9.toNat (0 : Int))), eu 11 [67, 68, 75] 76 (tB (r10.1 != (a1.t.getD v9.toNat (0 : Int)))), eu 12 [67, 76] 77 (tB (r10.1 != (a1.t.getD v9.toNat (0 : Int)))), eu 13 [77] 78 (tB true), eu 14 [78] 79 (.tup []), eu 14 [78] 80 (.tup []), eu 16 [78] 81 (.tup []), eu 14 [78] 82 (.tup []), ev [0, 1, 2, 3, 4, 5, 6, 7, 8, 9, 10, 11, 12, 13, 17] [78] 83 (.tup []), ev [0, 1, 2, 3, 4, 5, 6, 7, 8, 9, 10, 11, 12, 13, 17, 18] [78] 84 (.tup []), ev [0, 1, 2, 3, 4, 5, 6, 7, 8, 9, 10, 11, 12, 13, 17, 18, 19] [78] 85 (.tup []), eu 14 [78] 86 (.tup []), ev [0, 1, 2, 3, 4, 5, 6, 7, 8, 9, 10, 11, 12, 13, 17, 18, 19, 20, 21] [78] 87 (.tup []), ev [0, 1, 2, 3, 4, 5, 6, 7, 8, 9, 10, 11, 12, 13, 17, 18, 19, 20, 21, 22] [78] 88 (.tup []), eu 24 [78] 89 (.tup []), eu 25 [78] 90 (tB true), eu 26 [90] 91 (tB true), eu 27 [91] 92 (.tup []), eu 27 [91] 93 (.tup []), ev [0, 1, 2, 3, 4, 5, 6, 7, 8, 9, 10, 11, 12, 13, 14, 15, 16, 17, 18, 19, 20, 21, 22, 23, 24, 25, 26, 28] [91] 94 (.tup []), eu 30 [91] 95 (.tup []), eu 27 [91] 96 (.tup []), ev [0, 1, 2, 3, 4, 5, 6, 7, 8, 9, 10, 11, 12, 13, 14, 15, 16, 17, 18, 19, 20, 21, 22, 23, 24, 25, 26, 31] [91] 97 (.tup []), ev [0, 1, 2, 3, 4, 5, 6, 7, 8, 9, 10, 11, 12, 13, 14, 15, 16, 17, 18, 19, 20, 21, 22, 23, 24, 25, 26, 31, 32] [91] 98 (.tup []), ev [0, 1, 2, 3, 4, 5, 6, 7, 8, 9, 10, 11, 12, 13, 14, 15, 16, 17, 18, 19, 20, 21, 22, 23, 24, 25, 26, 31, 32, 33] [91] 99 (.tup []), eu 27 [91] 100 (.tup []), ev [0, 1, 2, 3, 4, 5, 6, 7, 8, 9, 10, 11, 12, 13, 14, 15, 16, 17, 18, 19, 20, 21, 22, 23, 24, 25, 26, 35] [91] 101 (.tup []), ev [0, 1, 2, 3, 4, 5, 6, 7, 8, 9, 10, 11, 12, 13, 14, 15, 16, 17, 18, 19, 20, 21, 22, 23, 24, 25, 26, 31, 32, 33, 34, 35, 36] [91] 102 (.tup []), ev [0, 1, 2, 3, 4, 5, 6, 7, 8, 9, 10, 11, 12, 13, 14, 15, 16, 17, 18, 19, 20, 21, 22, 23, 24, 25, 26, 31, 32, 33, 34, 35, 36, 37] [91] 103 (.tup []), eu 39 [91] 104 (.tup []), eu 40 [91] 105 (tB true)] hm (by kernel_rfl) (by kernel_rfl) (by kernel_rfl) (en (en (.cons (fun σ hc => e_put hc rfl rfl (os_ge (d := 67) (t := tB (!(r10.2 == none))) (t' := tB false) (by kernel_rfl) (by rw [hs12]))) (en (.cons (fun σ hc => e_put hc rfl rfl (os_gy rfl rfl rfl (by kernel_rfl) (s_movRO (cs := [.sl false 1 (a1.s.map eB), .sl false 1 (a1.t.map eI), .sl false 1 (a1.c.map eB)]) rfl (by kernel_rfl) rfl (by kernel_rfl) rfl))) (en (en (en (en (.cons (fun σ hc => e_put hc rfl rfl (os_gy rfl rfl rfl (by kernel_rfl) (s_indexU (own := false) (sz := 1) (rows := (a1.t.map eI)) (e := v9) (ik := .i64) rfl sl48 (by kernel_rfl) (.tmp (by kernel_rfl)) hg13.1 (by rw [List.length_map]; exact hg13.2) rfl (by kernel_rfl) (by kernel_rfl)))) (.cons (fun σ hc => e_put hc rfl rfl (os_gy rfl rfl rfl (by kernel_rfl) (s_load1 (x := .v (.int .i64 (a1.t.getD v9.toNat (0 : Int)))) (r := 72) (off := 0) (s := .i v9.toNat 1) (p := []) (c := .sl false 1 (a1.t.map eI)) (cs := eI (a1.t.getD v9.toNat (0 : Int))) rfl (oneB_ok (by kernel_rfl)) (by kernel_rfl) (by kernel_rfl) (getP_map (0 : Int) (by have := hg13; omega)) rfl rfl rfl (by kernel_rfl)))) (en (en (.cons (fun σ hc => e_put hc rfl rfl (os_ge (d := 78) (t := tB (r10.1 != (a1.t.getD v9.toNat (0 : Int)))) (t' := tB true) (by kernel_rfl) (by rw [hs14]))) (en (en (en (en (en (en (en (en (en (en (en (en (en (en (en (en (en (en (en (en (en (en (en (en (en (en (en .nil))))))))))))))))))))))))))))))))))))))))) (by kernel_rfl) ?_
      refine r_condT rfl rfl ?_
      refine r_seq ?_
      refine rr [(4, tB false)] (cgt 1 [4] .nil) ?_
      refine r_ret ?_
      obtain rfl := Option.some.inj h
      exact ⟨.inr rfl, _, _, .cons (.copy rfl rfl rfl) .nil, rfl, outs_of trivial⟩
    have h := cond_f hb h
    have hs15 := hb
    obtain ⟨r16, hr16, h⟩ := bind_some h
    obtain ⟨hg17, h⟩ := guard_some h
    simp only [Bool.and_eq_true, decide_eq_true_eq] at hg17
    rcases Bool.eq_false_or_eq_true (!(r16 == (a1.c.getD v9.toNat false))) with hb | hb
    · have h := cond_t hb h
      have hs18 := hb
      refine r_weak (of_weak (l := [(0, .u (.c (.pt false [.pt false [.v (.int .i64 a0.s.n), .sl false 2 (a0.s.l.map eR)], .v (.int .i64 a0.n), .sl false 1 (a0.t.map eI), .sl false 1 (a0.c.map eB)]))), (1, .u (.c (.pt false [.sl false 1 (a1.s.map eB), .sl false 1 (a1.t.map eI), .sl false 1 (a1.c.map eB)]))), (8, tI v9), (9, tI r10.1), (10, .u (.c (.err r10.2)))]) (by kernel_rfl)) ?_
      refine r_anyW (l := [(0, .u (.c (.pt false [.pt false [.v (.int .i64 a0.s.n), .sl false 2 (a0.s.l.map eR)], .v (.int .i64 a0.n), .sl false 1 (a0.t.map eI), .sl false 1 (a0.c.map eB)]))), (1, .u (.c (.pt false [.sl false 1 (a1.s.map eB), .sl false 1 (a1.t.map eI), .sl false 1 (a1.c.map eB)]))), (8, tI v9), (105, tB true)]) (tab := [[], [0], [1], [2], [2], [4, 2], [5, 2], [6, 2], [2], [7, 8, 2], [9, 2], [3, 10, 2], [2, 11], [12, 2], [13], [13], [14, 15, 13, 13], [13], [17, 13], [18, 13], [19, 13], [13], [20, 21, 13], [22, 13], [16, 23, 13], [13, 24], [25, 16], [26], [26], [28, 26], [27, 29, 26, 26], [26], [31, 26], [32, 26], [33, 26], [26], [35, 26], [34, 36, 26], [37, 26], [30, 38, 26], [26, 39]]) [ev [] [10] 65 (.u (.c (.err r10.2))), ev [0] [65] 66 (tB (!(r10.2 == none))), ev [0, 1] [66] 67 (tB false), ev [0, 1, 2] [9, 67] 68 (tI r10.1), ev [0, 1, 2] [1, 67] 69 (.addr 1 (.d) [] 0), ev [0, 1, 2, 4] [67, 69] 70 (.addr 1 (.d) [] 0), ev [0, 1, 2, 4, 5] [67, 70] 71 (.addr 1 (.d) [] 1), ev [0, 1, 2, 4, 5, 6] [1, 67, 71] 72 (.u (.c (.sl false 1 (a1.t.map eI)))), ev [0, 1, 2] [8, 67] 73 (tI v9), ev [0, 1, 2, 4, 5, 6, 7, 8] [67, 72, 73] 74 (.addr 72 (.i v9.toNat 1) [] 0), ev [0, 1, 2, 4, 5, 6, 7, 8, 9] [67, 72, 74] 75 (tI (a1.t.getD v9.toNat (0 : Int))), eu 11 [67, 68, 75] 76 (tB (r10.1 != (a1.t.getD v9.toNat (0 : Int)))), eu 12 [67, 76] 77 (tB (r10.1 != (a1.t.getD v9.toNat (0 : Int)))), eu 13 [77] 78 (tB false), eu 14 [0, 78] 79 (.u (.c (.pt false [.pt false [.v (.int .i64 a0.s.n), .sl false 2 (a0.s.l.map eR)], .v (.int .i64 a0.n), .sl false 1 (a0.t.map eI), .sl false 1 (a0.c.map eB)]))), eu 14 [8, 78] 80 (tI v9), eu 16 [78, 79, 80] 81 (tB r16), eu 14 [1, 78] 82 (.addr 1 (.d) [] 0), ev [0, 1, 2, 3, 4, 5, 6, 7, 8, 9, 10, 11, 12, 13, 17] [78, 82] 83 (.addr 1 (.d) [] 0), ev [0, 1, 2, 3, 4, 5, 6, 7, 8, 9, 10, 11, 12, 13, 17, 18] [78, 83] 84 (.addr 1 (.d) [] 2), ev [0, 1, 2, 3, 4, 5, 6, 7, 8, 9, 10, 11, 12, 13, 17, 18, 19] [1, 78, 84] 85 (.u (.c (.sl false 1 (a1.c.map eB)))), eu 14 [8, 78] 86 (tI v9), ev [0, 1, 2, 3, 4, 5, 6, 7, 8, 9, 10, 11, 12, 13, 17, 18, 19, 20, 21] [78, 85, 86] 87 (.addr 85 (.i v9.toNat 1) [] 0), ev [0, 1, 2, 3, 4, 5, 6, 7, 8, 9, 10, 11, 12, 13, 17, 18, 19, 20, 21, 22] [78, 85, 87] 88 (tB (a1.c.getD v9.toNat false)), eu 24 [78, 81, 88] 89 (tB (!(r16 == (a1.c.getD v9.toNat false)))), eu 25 [78, 89] 90 (tB (!(r16 == (a1.c.getD v9.toNat false)))), eu 26 [90] 91 (tB true), eu 27 [91] 92 (.tup []), eu 27 [91] 93 (.tup []), ev [0, 1, 2, 3, 4, 5, 6, 7, 8, 9, 10, 11, 12, 13, 14, 15, 16, 17, 18, 19, 20, 21, 22, 23, 24, 25, 26, 28] [91] 94 (.tup []), eu 30 [91] 95 (.tup []), eu 27 [91] 96 (.tup []), ev [0, 1, 2, 3, 4, 5, 6, 7, 8, 9, 10, 11, 12, 13, 14, 15, 16, 17, 18, 19, 20, 21, 22, 23, 24, 25, 26, 31] [91] 97 (.tup []), ev [0, 1, 2, 3, 4, 5, 6, 7, 8, 9, 10, 11, 12, 13, 14, 15, 16, 17, 18, 19, 20, 21, 22, 23, 24, 25, 26, 31, 32] [91] 98 (.tup []), ev [0, 1, 2, 3, 4, 5, 6, 7, 8, 9, 10, 11, 12, 13, 14, 15, 16, 17, 18, 19, 20, 21, 22, 23, 24, 25, 26, 31, 32, 33] [91] 99 (.tup []), eu 27 [91] 100 (.tup []), ev [0, 1, 2, 3, 4, 5, 6, 7, 8, 9, 10, 11, 12, 13, 14, 15, 16, 17, 18, 19, 20, 21, 22, 23, 24, 25, 26, 35] [91] 101 (.tup []), ev [0, 1, 2, 3, 4, 5, 6, 7, 8, 9, 10, 11, 12, 13, 14, 15, 16, 17, 18, 19, 20, 21, 22, 23, 24, 25, 26, 31, 32, 33, 34, 35, 36] [91] 102 (.tup []), ev [0, 1, 2, 3, 4, 5, 6, 7, 8, 9, 10, 11, 12, 13, 14, 15, 16, 17, 18, 19, 20, 21, 22, 23, 24, 25, 26, 31, 32, 33, 34, 35, 36, 37] [91] 103 (.tup []), eu 39 [91] 104 (.tup []), eu 40 [91] 105 (tB true)] hm (by kernel_rfl) (by kernel_rfl) (by kernel_rfl) (en (en (.cons (fun σ hc => e_put hc rfl rfl (os_ge (d := 67) (t := tB (!(r10.2 == none))) (t' := tB false) (by kernel_rfl) (by rw [hs12]))) (en (.cons (fun σ hc => e_put hc rfl rfl (os_gy rfl rfl rfl (by kernel_rfl) (s_movRO (cs := [.sl false 1 (a1.s.map eB), .sl false 1 (a1.t.map eI), .sl false 1 (a1.c.map eB)]) rfl (by kernel_rfl) rfl (by kernel_rfl) rfl))) (en (en (en (en (.cons (fun σ hc => e_put hc rfl rfl (os_gy rfl rfl rfl (by kernel_rfl) (s_indexU (own := false) (sz := 1) (rows := (a1.t.map eI)) (e := v9) (ik := .i64) rfl sl48 (by kernel_rfl) (.tmp (by kernel_rfl)) hg13.1 (by rw [List.length_map]; exact hg13.2) rfl (by kernel_rfl) (by kernel_rfl)))) (.cons (fun σ hc => e_put hc rfl rfl (os_gy rfl rfl rfl (by kernel_rfl) (s_load1 (x := .v (.int .i64 (a1.t.getD v9.toNat (0 : Int)))) (r := 72) (off := 0) (s := .i v9.toNat 1) (p := []) (c := .sl false 1 (a1.t.map eI)) (cs := eI (a1.t.getD v9.toNat (0 : Int))) rfl (oneB_ok (by kernel_rfl)) (by kernel_rfl) (by kernel_rfl) (getP_map (0 : Int) (by have := hg13; omega)) rfl rfl rfl (by kernel_rfl)))) (en (en (.cons (fun σ hc => e_put hc rfl rfl (os_ge (d := 78) (t := tB (r10.1 != (a1.t.getD v9.toNat (0 : Int)))) (t' := tB false) (by kernel_rfl) (by rw [hs15]))) (en (en (.cons (fun σ hc => e_put hc rfl rfl (os_gy rfl rfl rfl (by kernel_rfl) (c_callQ (res := [.c (.v (.bool r16))]) (AC.k (ZClosedR.ac (h := hr16))) ⟨_, Tryd.func18, rfl, by kernel_rfl⟩ rfl (.cons (.copy (by kernel_rfl) rfl) (.cons (.copy (by kernel_rfl) rfl) .nil)) (by kernel_rfl)))) (.cons (fun σ hc => e_put hc rfl rfl (os_gy rfl rfl rfl (by kernel_rfl) (s_movRO (cs := [.sl false 1 (a1.s.map eB), .sl false 1 (a1.t.map eI), .sl false 1 (a1.c.map eB)]) rfl (by kernel_rfl) rfl (by kernel_rfl) rfl))) (en (en (en (en (.cons (fun σ hc => e_put hc rfl rfl (os_gy rfl rfl rfl (by kernel_rfl) (s_indexU (own := false) (sz := 1) (rows := (a1.c.map eB)) (e := v9) (ik := .i64) rfl sl52 (by kernel_rfl) (.tmp (by kernel_rfl)) hg17.1 (by rw [List.length_map]; exact hg17.2) rfl (by kernel_rfl) (by kernel_rfl)))) (.cons (fun σ hc => e_put hc rfl rfl (os_gy rfl rfl rfl (by kernel_rfl) (s_load1 (x := .v (.bool (a1.c.getD v9.toNat false))) (r := 85) (off := 0) (s := .i v9.toNat 1) (p := []) (c := .sl false 1 (a1.c.map eB)) (cs := eB (a1.c.getD v9.toNat false)) rfl (oneB_ok (by kernel_rfl)) (by kernel_rfl) (by kernel_rfl) (getP_map false (by have := hg17; omega)) rfl rfl rfl (by kernel_rfl)))) (en (en (.cons (fun σ hc => e_put hc rfl rfl (os_ge (d := 91) (t := tB (!(r16 == (a1.c.getD v9.toNat false)))) (t' := tB true) (by kernel_rfl) (by rw [hs18]))) (en (en (en (en (en (en (en (en (en (en (en (en (en (en .nil))))))))))))))))))))))))))))))))))))))))) (by kernel_rfl) ?_
      refine r_condT rfl rfl ?_
      refine r_seq ?_
      refine rr [(4, tB false)] (cgt 1 [4] .nil) ?_
      refine r_ret ?_
      obtain rfl := Option.some.inj h
      exact ⟨.inr rfl, _, _, .cons (.copy rfl rfl rfl) .nil, rfl, outs_of trivial⟩
    have h := cond_f hb h
    have hs19 := hb
    obtain ⟨r20, hr20, h⟩ := bind_some h
    obtain ⟨hg21, h⟩ := guard_some h
    simp only [Bool.and_eq_true, decide_eq_true_eq] at hg21
    refine r_weak (of_weak (l := [(0, .u (.c (.pt false [.pt false [.v (.int .i64 a0.s.n), .sl false 2 (a0.s.l.map eR)], .v (.int .i64 a0.n), .sl false 1 (a0.t.map eI), .sl false 1 (a0.c.map eB)]))), (1, .u (.c (.pt false [.sl false 1 (a1.s.map eB), .sl false 1 (a1.t.map eI), .sl false 1 (a1.c.map eB)]))), (8, tI v9), (9, tI r10.1), (10, .u (.c (.err r10.2)))]) (by kernel_rfl)) ?_
    refine r_anyW (l := [(0, .u (.c (.pt false [.pt false [.v (.int .i64 a0.s.n), .sl false 2 (a0.s.l.map eR)], .v (.int .i64 a0.n), .sl false 1 (a0.t.map eI), .sl false 1 (a0.c.map eB)]))), (1, .u (.c (.pt false [.sl false 1 (a1.s.map eB), .sl false 1 (a1.t.map eI), .sl false 1 (a1.c.map eB)]))), (8, tI v9), (105, tB (!(r20 == (a1.s.getD ((i64.wrap (v9 * 8)).toNat) false))))]) (tab := [[], [0], [1], [2], [2], [4, 2], [5, 2], [6, 2], [2], [7, 8, 2], [9, 2], [3, 10, 2], [2, 11], [12, 2], [13], [13], [14, 15, 13, 13], [13], [17, 13], [18, 13], [19, 13], [13], [20, 21, 13], [22, 13], [16, 23, 13], [13, 24], [25, 16], [26], [26], [28, 26], [27, 29, 26, 26], [26], [31, 26], [32, 26], [33, 26], [26], [35, 26], [34, 36, 26], [37, 26], [30, 38, 26], [26, 39]]) [ev [] [10] 65 (.u (.c (.err r10.2))), ev [0] [65] 66 (tB (!(r10.2 == none))), ev [0, 1] [66] 67 (tB false), ev [0, 1, 2] [9, 67] 68 (tI r10.1), ev [0, 1, 2] [1, 67] 69 (.addr 1 (.d) [] 0), ev [0, 1, 2, 4] [67, 69] 70 (.addr 1 (.d) [] 0), ev [0, 1, 2, 4, 5] [67, 70] 71 (.addr 1 (.d) [] 1), ev [0, 1, 2, 4, 5, 6] [1, 67, 71] 72 (.u (.c (.sl false 1 (a1.t.map eI)))), ev [0, 1, 2] [8, 67] 73 (tI v9), ev [0, 1, 2, 4, 5, 6, 7, 8] [67, 72, 73] 74 (.addr 72 (.i v9.toNat 1) [] 0), ev [0, 1, 2, 4, 5, 6, 7, 8, 9] [67, 72, 74] 75 (tI (a1.t.getD v9.toNat (0 : Int))), eu 11 [67, 68, 75] 76 (tB (r10.1 != (a1.t.getD v9.toNat (0 : Int)))), eu 12 [67, 76] 77 (tB (r10.1 != (a1.t.getD v9.toNat (0 : Int)))), eu 13 [77] 78 (tB false), eu 14 [0, 78] 79 (.u (.c (.pt false [.pt false [.v (.int .i64 a0.s.n), .sl false 2 (a0.s.l.map eR)], .v (.int .i64 a0.n), .sl false 1 (a0.t.map eI), .sl false 1 (a0.c.map eB)]))), eu 14 [8, 78] 80 (tI v9), eu 16 [78, 79, 80] 81 (tB r16), eu 14 [1, 78] 82 (.addr 1 (.d) [] 0), ev [0, 1, 2, 3, 4, 5, 6, 7, 8, 9, 10, 11, 12, 13, 17] [78, 82] 83 (.addr 1 (.d) [] 0), ev [0, 1, 2, 3, 4, 5, 6, 7, 8, 9, 10, 11, 12, 13, 17, 18] [78, 83] 84 (.addr 1 (.d) [] 2), ev [0, 1, 2, 3, 4, 5, 6, 7, 8, 9, 10, 11, 12, 13, 17, 18, 19] [1, 78, 84] 85 (.u (.c (.sl false 1 (a1.c.map eB)))), eu 14 [8, 78] 86 (tI v9), ev [0, 1, 2, 3, 4, 5, 6, 7, 8, 9, 10, 11, 12, 13, 17, 18, 19, 20, 21] [78, 85, 86] 87 (.addr 85 (.i v9.toNat 1) [] 0), ev [0, 1, 2, 3, 4, 5, 6, 7, 8, 9, 10, 11, 12, 13, 17, 18, 19, 20, 21, 22] [78, 85, 87] 88 (tB (a1.c.getD v9.toNat false)), eu 24 [78, 81, 88] 89 (tB (!(r16 == (a1.c.getD v9.toNat false)))), eu 25 [78, 89] 90 (tB (!(r16 == (a1.c.getD v9.toNat false)))), eu 26 [90] 91 (tB false), eu 27 [0, 91] 92 (.u (.c (.pt false [.pt false [.v (.int .i64 a0.s.n), .sl false 2 (a0.s.l.map eR)], .v (.int .i64 a0.n), .sl false 1 (a0.t.map eI), .sl false 1 (a0.c.map eB)]))), eu 27 [8, 91] 93 (tI v9), ev [0, 1, 2, 3, 4, 5, 6, 7, 8, 9, 10, 11, 12, 13, 14, 15, 16, 17, 18, 19, 20, 21, 22, 23, 24, 25, 26, 28] [91, 93] 94 (tI (i64.wrap (v9 * 8))), eu 30 [91, 92, 94] 95 (tB r20), eu 27 [1, 91] 96 (.addr 1 (.d) [] 0), ev [0, 1, 2, 3, 4, 5, 6, 7, 8, 9, 10, 11, 12, 13, 14, 15, 16, 17, 18, 19, 20, 21, 22, 23, 24, 25, 26, 31] [91, 96] 97 (.addr 1 (.d) [] 0), ev [0, 1, 2, 3, 4, 5, 6, 7, 8, 9, 10, 11, 12, 13, 14, 15, 16, 17, 18, 19, 20, 21, 22, 23, 24, 25, 26, 31, 32] [91, 97] 98 (.addr 1 (.d) [] 0), ev [0, 1, 2, 3, 4, 5, 6, 7, 8, 9, 10, 11, 12, 13, 14, 15, 16, 17, 18, 19, 20, 21, 22, 23, 24, 25, 26, 31, 32, 33] [1, 91, 98] 99 (.u (.c (.sl false 1 (a1.s.map eB)))), eu 27 [8, 91] 100 (tI v9), ev [0, 1, 2, 3, 4, 5, 6, 7, 8, 9, 10, 11, 12, 13, 14, 15, 16, 17, 18, 19, 20, 21, 22, 23, 24, 25, 26, 35] [91, 100] 101 (tI (i64.wrap (v9 * 8))), ev [0, 1, 2, 3, 4, 5, 6, 7, 8, 9, 10, 11, 12, 13, 14, 15, 16, 17, 18, 19, 20, 21, 22, 23, 24, 25, 26, 31, 32, 33, 34, 35, 36] [91, 99, 101] 102 (.addr 99 (.i ((i64.wrap (v9 * 8)).toNat) 1) [] 0), ev [0, 1, 2, 3, 4, 5, 6, 7, 8, 9, 10, 11, 12, 13, 14, 15, 16, 17, 18, 19, 20, 21, 22, 23, 24, 25, 26, 31, 32, 33, 34, 35, 36, 37] [91, 99, 102] 103 (tB (a1.s.getD ((i64.wrap (v9 * 8)).toNat) false)), eu 39 [91, 95, 103] 104 (tB (!(r20 == (a1.s.getD ((i64.wrap (v9 * 8)).toNat) false)))), eu 40 [91, 104] 105 (tB (!(r20 == (a1.s.getD ((i64.wrap (v9 * 8)).toNat) false))))] hm (by kernel_rfl) (by kernel_rfl) (by kernel_rfl) (en (en (.cons (fun σ hc => e_put hc rfl rfl (os_ge (d := 67) (t := tB (!(r10.2 == none))) (t' := tB false) (by kernel_rfl) (by rw [hs12]))) (en (.cons (fun σ hc => e_put hc rfl rfl (os_gy rfl rfl rfl (by kernel_rfl) (s_movRO (cs := [.sl false 1 (a1.s.map eB), .sl false 1 (a1.t.map eI), .sl false 1 (a1.c.map eB)]) rfl (by kernel_rfl) rfl (by kernel_rfl) rfl))) (en (en (en (en (.cons (fun σ hc => e_put hc rfl rfl (os_gy rfl rfl rfl (by kernel_rfl) (s_indexU (own := false) (sz := 1) (rows := (a1.t.map eI)) (e := v9) (ik := .i64) rfl sl48 (by kernel_rfl) (.tmp (by kernel_rfl)) hg13.1 (by rw [List.length_map]; exact hg13.2) rfl (by kernel_rfl) (by kernel_rfl)))) (.cons (fun σ hc => e_put hc rfl rfl (os_gy rfl rfl rfl (by kernel_rfl) (s_load1 (x := .v (.int .i64 (a1.t.getD v9.toNat (0 : Int)))) (r := 72) (off := 0) (s := .i v9.toNat 1) (p := []) (c := .sl false 1 (a1.t.map eI)) (cs := eI (a1.t.getD v9.toNat (0 : Int))) rfl (oneB_ok (by kernel_rfl)) (by kernel_rfl) (by kernel_rfl) (getP_map (0 : Int) (by have := hg13; omega)) rfl rfl rfl (by kernel_rfl)))) (en (en (.cons (fun σ hc => e_put hc rfl rfl (os_ge (d := 78) (t := tB (r10.1 != (a1.t.getD v9.toNat (0 : Int)))) (t' := tB false) (by kernel_rfl) (by rw [hs15]))) (en (en (.cons (fun σ hc => e_put hc rfl rfl (os_gy rfl rfl rfl (by kernel_rfl) (c_callQ (res := [.c (.v (.bool r16))]) (AC.k (ZClosedR.ac (h := hr16))) ⟨_, Tryd.func18, rfl, by kernel_rfl⟩ rfl (.cons (.copy (by kernel_rfl) rfl) (.cons (.copy (by kernel_rfl) rfl) .nil)) (by kernel_rfl)))) (.cons (fun σ hc => e_put hc rfl rfl (os_gy rfl rfl rfl (by kernel_rfl) (s_movRO (cs := [.sl false 1 (a1.s.map eB), .sl false 1 (a1.t.map eI), .sl false 1 (a1.c.map eB)]) rfl (by kernel_rfl) rfl (by kernel_rfl) rfl))) (en (en (en (en (.cons (fun σ hc => e_put hc rfl rfl (os_gy rfl rfl rfl (by kernel_rfl) (s_indexU (own := false) (sz := 1) (rows := (a1.c.map eB)) (e := v9) (ik := .i64) rfl sl52 (by kernel_rfl) (.tmp (by kernel_rfl)) hg17.1 (by rw [List.length_map]; exact hg17.2) rfl (by kernel_rfl) (by kernel_rfl)))) (.cons (fun σ hc => e_put hc rfl rfl (os_gy rfl rfl rfl (by kernel_rfl) (s_load1 (x := .v (.bool (a1.c.getD v9.toNat false))) (r := 85) (off := 0) (s := .i v9.toNat 1) (p := []) (c := .sl false 1 (a1.c.map eB)) (cs := eB (a1.c.getD v9.toNat false)) rfl (oneB_ok (by kernel_rfl)) (by kernel_rfl) (by kernel_rfl) (getP_map false (by have := hg17; omega)) rfl rfl rfl (by kernel_rfl)))) (en (en (.cons (fun σ hc => e_put hc rfl rfl (os_ge (d := 91) (t := tB (!(r16 == (a1.c.getD v9.toNat false)))) (t' := tB false) (by kernel_rfl) (by rw [hs19]))) (en (en (en (.cons (fun σ hc => e_put hc rfl rfl (os_gy rfl rfl rfl (by kernel_rfl) (c_callQ (res := [.c (.v (.bool r20))]) (AC.k (ZIsFreeR.ac (h := hr20))) ⟨_, Tryd.func21, rfl, by kernel_rfl⟩ rfl (.cons (.copy (by kernel_rfl) rfl) (.cons (.copy (by kernel_rfl) rfl) .nil)) (by kernel_rfl)))) (.cons (fun σ hc => e_put hc rfl rfl (os_gy rfl rfl rfl (by kernel_rfl) (s_movRO (cs := [.sl false 1 (a1.s.map eB), .sl false 1 (a1.t.map eI), .sl false 1 (a1.c.map eB)]) rfl (by kernel_rfl) rfl (by kernel_rfl) rfl))) (en (en (en (en (en (.cons (fun σ hc => e_put hc rfl rfl (os_gy rfl rfl rfl (by kernel_rfl) (s_indexU (own := false) (sz := 1) (rows := (a1.s.map eB)) (e := (i64.wrap (v9 * 8))) (ik := .i64) rfl sl53 (by kernel_rfl) (.tmp (by kernel_rfl)) hg21.1 (by rw [List.length_map]; exact hg21.2) rfl (by kernel_rfl) (by kernel_rfl)))) (.cons (fun σ hc => e_put hc rfl rfl (os_gy rfl rfl rfl (by kernel_rfl) (s_load1 (x := .v (.bool (a1.s.getD ((i64.wrap (v9 * 8)).toNat) false))) (r := 99) (off := 0) (s := .i ((i64.wrap (v9 * 8)).toNat) 1) (p := []) (c := .sl false 1 (a1.s.map eB)) (cs := eB (a1.s.getD ((i64.wrap (v9 * 8)).toNat) false)) rfl (oneB_ok (by kernel_rfl)) (by kernel_rfl) (by kernel_rfl) (getP_map false (by have := hg21; omega)) rfl rfl rfl (by kernel_rfl)))) (en (en .nil))))))))))))))))))))))))))))))))))))))))) (by kernel_rfl) ?_
    rcases Bool.eq_false_or_eq_true (!(r20 == (a1.s.getD ((i64.wrap (v9 * 8)).toNat) false))) with hb | hb
    · have h := cond_t hb h
      refine r_condT hb rfl ?_
      refine r_seq ?_
      refine rr [(4, tB false)] (cgt 1 [4] .nil) ?_
      refine r_ret ?_
      obtain rfl := Option.some.inj h
      exact ⟨.inr rfl, _, _, .cons (.copy rfl rfl rfl) .nil, rfl, outs_of trivial⟩
    have h := cond_f hb h
    refine r_condF hb rfl ?_
    refine r_skip ?_
    refine rr [(0, .u (.c (.pt false [.pt false [.v (.int .i64 a0.s.n), .sl false 2 (a0.s.l.map eR)], .v (.int .i64 a0.n), .sl false 1 (a0.t.map eI), .sl false 1 (a0.c.map eB)]))), (1, .u (.c (.pt false [.sl false 1 (a1.s.map eB), .sl false 1 (a1.t.map eI), .sl false 1 (a1.c.map eB)]))), (8, tI (i64.wrap (v9 + 1)))] (cgt 3 [57, 58, 8] .nil) ?_
    exact ⟨i64.wrap (v9 + 1), h, of_weak (by kernel_rfl)⟩
  have h := cond_f hb h
  refine r_condF hb rfl ?_
  refine r_exit ?_
  refine r_seq ?_
  obtain ⟨r22, hr22, h⟩ := bind_some h
  refine rr [(0, .u (.c (.pt false [.pt false [.v (.int .i64 a0.s.n), .sl false 2 (a0.s.l.map eR)], .v (.int .i64 a0.n), .sl false 1 (a0.t.map eI), .sl false 1 (a0.c.map eB)]))), (1, .u (.c (.pt false [.sl false 1 (a1.s.map eB), .sl false 1 (a1.t.map eI), .sl false 1 (a1.c.map eB)]))), (12, .u (.c (.err r22.2)))] (cgt 1 [107] (cot 2 (os_plain rfl rfl (s_movRO (cs := [.sl false 1 (a1.s.map eB), .sl false 1 (a1.t.map eI), .sl false 1 (a1.c.map eB)]) rfl (by kernel_rfl) rfl (by kernel_rfl) rfl)) (cgt 5 [109, 110, 111] (cot 6 (os_to (os_plain rfl rfl (s_lenU (own := false) (sz := 1) (rows := (a1.t.map eI)) rfl sl48 (by kernel_rfl) rfl (by kernel_rfl))) (t' := tI (a1.t.length : Int)) (by rw [List.length_map])) (cot 7 (os_plain rfl rfl (c_callQ (AC.k (ZSortR.ac (h := hr22))) ⟨_, Tryd.func19, rfl, by kernel_rfl⟩ rfl (.cons (.copy (by kernel_rfl) rfl) (.cons (.copy (by kernel_rfl) rfl) .nil)) (by kernel_rfl))) (cot 8 (os_plain rfl rfl (s_moveT (us := [.c (.v (.int .i64 r22.1)), .c (.err r22.2)]) (.inl rfl) (by kernel_rfl) rfl (by kernel_rfl))) (cgt 12 [114, 115, 11, 12] .nil))))))) ?_
  refine r_seq ?_
  rcases Bool.eq_false_or_eq_true (r22.2 == (some 1)) with hb | hb
  · have h := cond_t hb h
    have hs23 := hb
    obtain ⟨r24, hr24, h⟩ := bind_some h
    rcases Bool.eq_false_or_eq_true (!r24) with hb | hb
    · have h := cond_t hb h
      have hs25 := hb
      obtain ⟨r26, hr26, h⟩ := bind_some h
      refine rr [(4, tB (!r26))] (cgt 1 [116] (cot 2 (os_plain rfl rfl (s_iface (n := 1) rfl (errB_ok (by kernel_rfl)) rfl (by kernel_rfl) rfl (by kernel_rfl))) (cgt 3 [118] (cot 4 (os_ge (d := 119) (t := tB (r22.2 == (some 1))) (t' := tB true) (by kernel_rfl) (by rw [hs23])) (cgt 5 [120] (cot 6 (os_gy rfl rfl rfl (by kernel_rfl) (c_callQ (AC.k (ZClosedR.ac (h := hr24))) ⟨_, Tryd.func18, rfl, by kernel_rfl⟩ rfl (.cons (.copy (by kernel_rfl) rfl) (.cons (.copy (by kernel_rfl) rfl) .nil)) (by kernel_rfl))) (cgt 8 [122, 123] (cot 9 (os_ge (d := 124) (t := tB (!r24)) (t' := tB true) (by kernel_rfl) (by rw [hs25])) (cgt 10 [125] (cot 11 (os_gy rfl rfl rfl (by kernel_rfl) (s_movRO (cs := [.sl false 1 (a1.s.map eB), .sl false 1 (a1.t.map eI), .sl false 1 (a1.c.map eB)]) rfl (by kernel_rfl) rfl (by kernel_rfl) rfl)) (cgt 14 [127, 128, 129] (cot 15 (os_to (os_gy rfl rfl rfl (by kernel_rfl) (s_lenU (own := false) (sz := 1) (rows := (a1.s.map eB)) rfl sl53 (by kernel_rfl) rfl (by kernel_rfl))) (t' := tI (a1.s.length : Int)) (by rw [List.length_map])) (cot 16 (os_gy rfl rfl rfl (by kernel_rfl) (c_callQ (AC.k (ZIsFreeR.ac (h := hr26))) ⟨_, Tryd.func21, rfl, by kernel_rfl⟩ rfl (.cons (.copy (by kernel_rfl) rfl) (.cons (.copy (by kernel_rfl) rfl) .nil)) (by kernel_rfl))) (cgt 19 [132, 133, 4] .nil)))))))))))))) ?_
      refine r_ret ?_
      obtain rfl := Option.some.inj h
      exact ⟨.inr rfl, _, _, .cons (.copy rfl rfl rfl) .nil, rfl, outs_of trivial⟩
    have h := cond_f hb h
    have hs27 := hb
    refine rr [(4, tB false)] (cgt 1 [116] (cot 2 (os_plain rfl rfl (s_iface (n := 1) rfl (errB_ok (by kernel_rfl)) rfl (by kernel_rfl) rfl (by kernel_rfl))) (cgt 3 [118] (cot 4 (os_ge (d := 119) (t := tB (r22.2 == (some 1))) (t' := tB true) (by kernel_rfl) (by rw [hs23])) (cgt 5 [120] (cot 6 (os_gy rfl rfl rfl (by kernel_rfl) (c_callQ (AC.k (ZClosedR.ac (h := hr24))) ⟨_, Tryd.func18, rfl, by kernel_rfl⟩ rfl (.cons (.copy (by kernel_rfl) rfl) (.cons (.copy (by kernel_rfl) rfl) .nil)) (by kernel_rfl))) (cgt 8 [122, 123] (cot 9 (os_ge (d := 124) (t := tB (!r24)) (t' := tB false) (by kernel_rfl) (by rw [hs27])) (cgt 19 [125, 126, 127, 128, 129, 130, 131, 132, 133, 4] .nil))))))))) ?_
    refine r_ret ?_
    obtain rfl := Option.some.inj h
    exact ⟨.inr rfl, _, _, .cons (.copy rfl rfl rfl) .nil, rfl, outs_of trivial⟩
  have h := cond_f hb h
  have hs28 := hb
  refine rr [(4, tB false)] (cgt 1 [116] (cot 2 (os_plain rfl rfl (s_iface (n := 1) rfl (errB_ok (by kernel_rfl)) rfl (by kernel_rfl) rfl (by kernel_rfl))) (cgt 3 [118] (cot 4 (os_ge (d := 119) (t := tB (r22.2 == (some 1))) (t' := tB false) (by kernel_rfl) (by rw [hs28])) (cgt 19 [120, 121, 122, 123, 124, 125, 126, 127, 128, 129, 130, 131, 132, 133, 4] .nil))))) ?_
  refine r_ret ?_
  obtain rfl := Option.some.inj h
  exact ⟨.inr rfl, _, _, .cons (.copy rfl rfl rfl) .nil, rfl, outs_of trivial⟩
end Go.Proofs.YtmjnenjeckeklaaDoor.V
