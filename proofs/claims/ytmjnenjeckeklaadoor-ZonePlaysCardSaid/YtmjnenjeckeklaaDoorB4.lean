import Derived.Test.YtmjnenjeckeklaaDoorB3
namespace Go.Proofs.YtmjnenjeckeklaaDoor.V
open Go Go.RowKit Go.Proofs Go.Proofs.YtmjnenjeckeklaaDoor.Q Go.Proofs.YtmjnenjeckeklaaDoorW.PrintWords
open Go.IntKind (i64)
set_option linter.unusedVariables false
set_option linter.unusedSimpArgs false
set_option maxRecDepth 100000
structure D4 where
  w : Int
  s : Int
  o : Int
  a : Int
def eD (x : D4) : List C := [.v (.int .i64 x.w), .v (.int .i64 x.s), .v (.int .i64 x.o), .v (.int .i64 x.a)]
abbrev zD : D4 := ⟨0, 0, 0, 0⟩
theorem sl45 : SliceT Tryd.prog 45 4 32 := slB_ok (by kernel_rfl)
theorem zero47 : ZeroT Tryd.prog 47 [.v (.int .i64 0), .v (.int .i64 0), .v (.int .i64 0), .v (.int .i64 0)] := zeroB_ok (vs := [(.int .i64 0), (.int .i64 0), (.int .i64 0), (.int .i64 0)]) (by kernel_rfl) (fun _ _ _ => .cons (F := []) (.v rfl) (.cons (F := []) (.v rfl) (.cons (F := []) (.v rfl) (.cons (F := []) (.v rfl) (.nil)))))
def ZonePlays.j1 (k : Nat) (a0 : Int) (a1 : List D4) (r1 : Bool) (r2 : Int) (r3 : Zon × (Option Int)) (r4 : ZM) (v5 : Zon) (v6 : ZM) (v7 : Int) : Option (Bool) :=
  (bif decide (((a1.getD v7.toNat zD).a) ≥ 0) then some (decide (((a1.getD v7.toNat zD).a) < (v6.t.length : Int))) else some false)
def ZonePlays.j2 (k : Nat) (a0 : Int) (a1 : List D4) (r1 : Bool) (r2 : Int) (r3 : Zon × (Option Int)) (r4 : ZM) (v5 : Zon) (v6 : ZM) (v7 : Int) (y10 : Bool) : Option (Bool) :=
  (bif decide (((a1.getD v7.toNat zD).o) ≤ 3) then (RBlock.f k v6.s ((a1.getD v7.toNat zD).a) ((a1.getD v7.toNat zD).o)).bind fun (r15 : Bool) => some r15 else some false)
def ZonePlays.j4 (k : Nat) (a0 : Int) (a1 : List D4) (r1 : Bool) (r2 : Int) (r3 : Zon × (Option Int)) (r4 : ZM) (v5 : Zon) (v6 : ZM) (v7 : Int) (y10 : Bool) (y13 : Bool) (r18 : Int) : Option (Bool) :=
  (bif r18 == 0 then some (r18 == 0) else (bif r18 == 1 then some (r18 == 1) else some (r18 == 2)))
def ZonePlays.j5 (k : Nat) (a0 : Int) (a1 : List D4) (r1 : Bool) (r2 : Int) (r3 : Zon × (Option Int)) (r4 : ZM) (v5 : Zon) (v6 : ZM) (v7 : Int) (y10 : Bool) (y13 : Bool) (r18 : Int) (y19 : Bool) (r20 : Zon × Int × (Option Int)) : Option (ZM × Int × Int) :=
  (bif decide (((a1.getD v7.toNat zD).s) < 0) then some (v6, 1, 0) else (bif decide (((a1.getD v7.toNat zD).s) > 1) then some (v6, 1, 0) else (bif decide (((a1.getD v7.toNat zD).o) < 0) then some (v6, 1, 0) else (bif decide (((a1.getD v7.toNat zD).o) > 3) then some (v6, 1, 0) else (MTake.f k v6 ((a1.getD v7.toNat zD).s) ((a1.getD v7.toNat zD).o)).bind fun (r28 : ZM × Int) => (bif decide (r28.2 < 0) then some (r28.1, 5, 0) else some (r28.1, 0, r28.2))))))
def ZonePlays.j3 (k : Nat) (a0 : Int) (a1 : List D4) (r1 : Bool) (r2 : Int) (r3 : Zon × (Option Int)) (r4 : ZM) (v5 : Zon) (v6 : ZM) (v7 : Int) (y10 : Bool) (y13 : Bool) : Option (Sum (Zon × ZM × (Option Int) × Int) (Bool)) :=
  (paviorlaw08_pick.f ((a1.getD v7.toNat zD).w) 7).bind fun (r18 : Int) => (ZonePlays.j4 k a0 a1 r1 r2 r3 r4 v5 v6 v7 y10 y13 r18).bind fun (y19 : Bool) => (bif y19 then (ZTake.f k v5 ((a1.getD v7.toNat zD).s) ((a1.getD v7.toNat zD).o)).bind fun (r20 : Zon × Int × (Option Int)) => (ZonePlays.j5 k a0 a1 r1 r2 r3 r4 v5 v6 v7 y10 y13 r18 y19 r20).bind fun (y21 : ZM × Int × Int) => (bif r20.2.1 != y21.2.2 then some (Sum.inr false) else some (Sum.inl (r20.1, y21.1, r20.2.2, y21.2.1))) else (bif r18 == 3 then (ZTakeAt.f k v5 ((a1.getD v7.toNat zD).a) ((a1.getD v7.toNat zD).o)).bind fun (r29 : Zon × (Option Int)) => (bif !y13 then some (Sum.inl (r29.1, v6, r29.2, 1)) else (RAll.f k v6.s ((a1.getD v7.toNat zD).a) ((a1.getD v7.toNat zD).o) true).bind fun (r30 : Bool) => (bif !r30 then some (Sum.inl (r29.1, v6, r29.2, 7)) else (RSet.f k v6.s ((a1.getD v7.toNat zD).a) ((a1.getD v7.toNat zD).o) false).bind fun (r31 : (List Bool)) => some (Sum.inl (r29.1, (⟨r31, v6.t, v6.c⟩ : ZM), r29.2, 0)))) else (bif r18 == 4 then (ZGive.f k v5 ((a1.getD v7.toNat zD).a) ((a1.getD v7.toNat zD).o)).bind fun (r32 : Zon × (Option Int)) => (bif !y13 then some (Sum.inl (r32.1, v6, r32.2, 1)) else (RAll.f k v6.s ((a1.getD v7.toNat zD).a) ((a1.getD v7.toNat zD).o) false).bind fun (r33 : Bool) => (bif !r33 then some (Sum.inl (r32.1, v6, r32.2, 7)) else (RSet.f k v6.s ((a1.getD v7.toNat zD).a) ((a1.getD v7.toNat zD).o) true).bind fun (r34 : (List Bool)) => some (Sum.inl (r32.1, (⟨r34, v6.t, v6.c⟩ : ZM), r32.2, 0)))) else (bif r18 == 5 then (ZClose.f k v5 ((a1.getD v7.toNat zD).a)).bind fun (r35 : Zon × (Option Int)) => (bif !y10 then some (Sum.inl (r35.1, v6, r35.2, 1)) else (bif decide (0 ≤ ((a1.getD v7.toNat zD).a)) && decide (((a1.getD v7.toNat zD).a) < (v6.c.length : Int)) then (bif (v6.c.getD (((a1.getD v7.toNat zD).a).toNat) false) then some (Sum.inl (r35.1, v6, r35.2, 7)) else (bif decide (0 ≤ ((a1.getD v7.toNat zD).a)) && decide (((a1.getD v7.toNat zD).a) < (v6.c.length : Int)) then some (Sum.inl (r35.1, (⟨v6.s, v6.t, (v6.c.set (((a1.getD v7.toNat zD).a).toNat) true)⟩ : ZM), r35.2, 0)) else none)) else none)) else (ZOpen.f k v5 ((a1.getD v7.toNat zD).a)).bind fun (r38 : Zon × (Option Int)) => (bif !y10 then some (Sum.inl (r38.1, v6, r38.2, 1)) else (bif decide (0 ≤ ((a1.getD v7.toNat zD).a)) && decide (((a1.getD v7.toNat zD).a) < (v6.c.length : Int)) then (bif !(v6.c.getD (((a1.getD v7.toNat zD).a).toNat) false) then some (Sum.inl (r38.1, v6, r38.2, 7)) else (MOpen.f k v6 ((a1.getD v7.toNat zD).a)).bind fun (r40 : ZM) => some (Sum.inl (r38.1, r40, r38.2, 0))) else none))))))
def ZonePlays.j6 (k : Nat) (a0 : Int) (a1 : List D4) (r1 : Bool) (r2 : Int) (r3 : Zon × (Option Int)) (r4 : ZM) (v5 : Zon) (v6 : ZM) (v7 : Int) (y10 : Bool) (y13 : Bool) (y17v : Zon × ZM × (Option Int) × Int) : Option (Bool) :=
  (bif y17v.2.2.2 == 0 then (bif y17v.2.2.1 == none then some true else (bif y17v.2.2.2 == 1 then (bif y17v.2.2.1 == (some 1) then some true else (bif y17v.2.2.2 == 5 then (bif y17v.2.2.1 == (some 5) then some true else (bif y17v.2.2.2 == 7 then some (y17v.2.2.1 == (some 7)) else some false)) else (bif y17v.2.2.2 == 7 then some (y17v.2.2.1 == (some 7)) else some false))) else (bif y17v.2.2.2 == 5 then (bif y17v.2.2.1 == (some 5) then some true else (bif y17v.2.2.2 == 7 then some (y17v.2.2.1 == (some 7)) else some false)) else (bif y17v.2.2.2 == 7 then some (y17v.2.2.1 == (some 7)) else some false)))) else (bif y17v.2.2.2 == 1 then (bif y17v.2.2.1 == (some 1) then some true else (bif y17v.2.2.2 == 5 then (bif y17v.2.2.1 == (some 5) then some true else (bif y17v.2.2.2 == 7 then some (y17v.2.2.1 == (some 7)) else some false)) else (bif y17v.2.2.2 == 7 then some (y17v.2.2.1 == (some 7)) else some false))) else (bif y17v.2.2.2 == 5 then (bif y17v.2.2.1 == (some 5) then some true else (bif y17v.2.2.2 == 7 then some (y17v.2.2.1 == (some 7)) else some false)) else (bif y17v.2.2.2 == 7 then some (y17v.2.2.1 == (some 7)) else some false))))
def ZonePlays.l1 (k : Nat) (a0 : Int) (a1 : List D4) (r1 : Bool) (r2 : Int) (r3 : Zon × (Option Int)) (r4 : ZM) : Nat → Zon → ZM → Int → Option (Bool)
  | 0, _, _, _ => none
  | n1 + 1, v5, v6, v7 => (bif decide (v7 < (a1.length : Int)) then (bif decide (v7 < 60) then (bif decide (0 ≤ v7) && decide (v7 < (a1.length : Int)) then (ZonePlays.j1 k a0 a1 r1 r2 r3 r4 v5 v6 v7).bind fun (y10 : Bool) => (ZonePlays.j2 k a0 a1 r1 r2 r3 r4 v5 v6 v7 y10).bind fun (y13 : Bool) => (ZonePlays.j3 k a0 a1 r1 r2 r3 r4 v5 v6 v7 y10 y13).bind fun (y17 : Sum (Zon × ZM × (Option Int) × Int) (Bool)) => Sum.elim (fun (y17v : Zon × ZM × (Option Int) × Int) => (ZonePlays.j6 k a0 a1 r1 r2 r3 r4 v5 v6 v7 y10 y13 y17v).bind fun (y41 : Bool) => (bif !y41 then some false else (same.f k y17v.1 y17v.2.1).bind fun (r88 : Bool) => (bif !r88 then some false else ZonePlays.l1 k a0 a1 r1 r2 r3 r4 n1 y17v.1 y17v.2.1 (i64.wrap (v7 + 1))))) some y17 else none) else some r1) else some r1)
set_option maxHeartbeats 4000000 in
def ZonePlays.f (k : Nat) (a0 : Int) (a1 : List D4) : Option (Bool) :=
  (up.f k).bind fun (r1 : Bool) => (paviorlaw08_pick.f a0 70).bind fun (r2 : Int) => (ZNew.f k (i64.wrap (1 + r2))).bind fun (r3 : Zon × (Option Int)) => (bif !(r3.2 == none) then some false else (MNew.f k (i64.wrap (1 + r2))).bind fun (r4 : ZM) => ZonePlays.l1 k a0 a1 r1 r2 r3 r4 k r3.1 r4 0)
set_option maxHeartbeats 4000000 in
theorem ZonePlays.ac (k : Nat) (a0 : Int) (a1 : List D4) (r : Bool) (h : ZonePlays.f k a0 a1 = some r) : ACD Tryd.prog 28 7 [.c (.v (.int .i64 a0)), .c (.sl false 4 (a1.map eD))] [none, none] [.c (.v (.bool r))] := by
  unfold ZonePlays.f at h
  refine act_intro (fn := Tryd.f7) (pins := []) (rts := [4]) Tryd.func7 rfl Tryd.ntmps7 rfl (Nat.le_of_ble_eq_true rfl) (pins_lt rfl) rfl (fun w R E vs hT => ?_)
  refine r_weak (of_weak (l := [(0, tI a0), (1, .u (.c (.sl false 4 (a1.map eD))))]) (by kernel_rfl)) ?_
  refine r_seq ?_
  refine rr [(0, tI a0), (1, .u (.c (.sl false 4 (a1.map eD))))] (cgt 1 [4] .nil) ?_
  refine r_seq ?_
  obtain ⟨r1, hr1, h⟩ := bind_some h
  refine rr [(0, tI a0), (1, .u (.c (.sl false 4 (a1.map eD)))), (5, tB r1)] (cot 1 (os_plain rfl rfl (c_callQ (ACT.k hT (up.ac (h := hr1))) ⟨_, Tryd.func8, rfl, by kernel_rfl⟩ rfl .nil (by kernel_rfl))) (cgt 2 [5] .nil)) ?_
  refine r_seq ?_
  obtain ⟨r2, hr2, h⟩ := bind_some h
  refine rr [(0, tI (i64.wrap (1 + r2))), (1, .u (.c (.sl false 4 (a1.map eD)))), (5, tB r1)] (cgt 1 [20] (cot 2 (os_plain rfl rfl (c_callQ (AC.k (paviorlaw08_pick.ac (h := hr2))) ⟨_, Tryd.func12, rfl, by kernel_rfl⟩ rfl (.cons (.copy (by kernel_rfl) rfl) (.cons (.copy (by kernel_rfl) rfl) .nil)) (by kernel_rfl))) (cgt 4 [22, 0] .nil))) ?_
  refine r_seq ?_
  obtain ⟨r3, hr3, h⟩ := bind_some h
  refine rr [(0, tI (i64.wrap (1 + r2))), (1, .u (.c (.sl false 4 (a1.map eD)))), (5, tB r1), (6, .u (.c (zoneC r3.1))), (7, .u (.c (.err r3.2)))] (cgt 1 [24] (cot 2 (os_plain rfl rfl (c_callQ (ACT.k hT (ZNew.ac (h := hr3))) ⟨_, Tryd.func9, rfl, by kernel_rfl⟩ rfl (.cons (.copy (by kernel_rfl) rfl) .nil) (by kernel_rfl))) (cot 3 (os_plain rfl rfl (s_moveT (us := [.c (zoneC r3.1), .c (.err r3.2)]) (.inl rfl) (by kernel_rfl) rfl (by kernel_rfl))) (cot 4 (os_plain rfl rfl (s_xmove (us := [.c (zoneC r3.1), .c (.err r3.2)]) rfl (by kernel_rfl) rfl rfl (by kernel_rfl))) (cgt 5 [27] (cot 6 (os_plain rfl rfl (s_take (u := .c (zoneC r3.1)) (.inr rfl) (.move (by kernel_rfl) rfl) rfl (by kernel_rfl))) (cgt 7 [7] .nil))))))) ?_
  refine r_seq ?_
  refine r_seq ?_
  refine rr [(0, tI (i64.wrap (1 + r2))), (1, .u (.c (.sl false 4 (a1.map eD)))), (5, tB r1), (6, .u (.c (zoneC r3.1))), (33, tB (!(r3.2 == none)))] (cgt 6 [28, 29, 30, 31, 32, 33] .nil) ?_
  rcases Bool.eq_false_or_eq_true (!(r3.2 == none)) with hb | hb
  · have h := cond_t hb h
    refine r_condT hb rfl ?_
    refine r_seq ?_
    refine rr [(4, tB false)] (cgt 1 [4] .nil) ?_
    refine r_ret ?_
    obtain rfl := Option.some.inj h
    exact ⟨.inr rfl, _, _, .cons (.copy rfl rfl rfl) .nil, rfl, outs_of trivial⟩
  have h := cond_f hb h
  refine r_condF hb rfl ?_
  refine r_skip ?_
  refine r_seq ?_
  obtain ⟨r4, hr4, h⟩ := bind_some h
  refine rr [(1, .u (.c (.sl false 4 (a1.map eD)))), (5, tB r1), (6, .u (.c (zoneC r3.1))), (8, .u (.c (zmC r4)))] (cgt 1 [34] (cot 2 (os_plain rfl rfl (c_callQ (AC.k (MNew.ac (h := hr4))) ⟨_, Tryd.func11, rfl, by kernel_rfl⟩ rfl (.cons (.copy (by kernel_rfl) rfl) .nil) (by kernel_rfl))) (cot 3 (os_plain rfl rfl (s_take (u := .c (zmC r4)) (.inr rfl) (.move (by kernel_rfl) rfl) rfl (by kernel_rfl))) .nil))) ?_
  refine r_seq ?_
  refine r_seq ?_
  refine rr [(1, .u (.c (.sl false 4 (a1.map eD)))), (5, tB r1), (6, .u (.c (zoneC r3.1))), (8, .u (.c (zmC r4))), (9, tI 0)] (cgt 1 [9] .nil) ?_
  refine r_block ?_
  refine r_weak (of_weak (l := [(1, .u (.c (.sl false 4 (a1.map eD)))), (5, tB r1), (6, .u (.c (zoneC r3.1))), (8, .u (.c (zmC r4))), (9, tI 0)]) (by kernel_rfl)) ?_
  refine r_loopI (α := Zon × ZM × Int) (fun x => [(1, .u (.c (.sl false 4 (a1.map eD)))), (5, tB r1), (6, .u (.c (zoneC x.1))), (8, .u (.c (zmC x.2.1))), (9, tI x.2.2)]) (fun n x => ZonePlays.l1 k a0 a1 r1 r2 r3 r4 n x.1 x.2.1 x.2.2 = some r) k (r3.1, r4, 0) h (by intro x h; unfold ZonePlays.l1 at h; cases h) ?_
  rintro n1 ⟨v5, v6, v7⟩ h
  replace h : ZonePlays.l1 k a0 a1 r1 r2 r3 r4 (n1 + 1) v5 v6 v7 = some r := h
  unfold ZonePlays.l1 at h
  show Run _ _ _ (St.of [(1, .u (.c (.sl false 4 (a1.map eD)))), (5, tB r1), (6, .u (.c (zoneC v5))), (8, .u (.c (zmC v6))), (9, tI v7)]) _
  refine r_seq ?_
  refine r_seq ?_
  rcases Bool.eq_false_or_eq_true (decide (v7 < (a1.length : Int))) with hb | hb
  · have h := cond_t hb h
    have hs8 := hb
    refine rr [(1, .u (.c (.sl false 4 (a1.map eD)))), (5, tB r1), (6, .u (.c (zoneC v5))), (8, .u (.c (zmC v6))), (9, tI v7), (43, tB (decide (v7 < 60)))] (cgt 2 [36, 37] (cot 3 (os_to (os_plain rfl rfl (s_lenU (own := false) (sz := 4) (rows := (a1.map eD)) rfl sl45 (by kernel_rfl) rfl (by kernel_rfl))) (t' := tI (a1.length : Int)) (by rw [List.length_map])) (cgt 4 [39] (cot 5 (os_ge (d := 40) (t := tB (decide (v7 < (a1.length : Int)))) (t' := tB true) (by kernel_rfl) (by rw [hs8])) (cgt 8 [41, 42, 43] .nil))))) ?_
    rcases Bool.eq_false_or_eq_true (decide (v7 < 60)) with hb | hb
    · have h := cond_t hb h
      refine r_condT hb rfl ?_
      refine r_skip ?_
      refine r_seq ?_
      refine r_block ?_
      refine r_seq ?_
      obtain ⟨hg9, h⟩ := guard_some h
      simp only [Bool.and_eq_true, decide_eq_true_eq] at hg9
      refine rr [(1, .u (.c (.sl false 4 (a1.map eD)))), (5, tB r1), (6, .u (.c (zoneC v5))), (8, .u (.c (zmC v6))), (9, tI v7), (10, .u (.c (.pt true [.v (.int .i64 ((a1.getD v7.toNat zD).w)), .v (.int .i64 ((a1.getD v7.toNat zD).s)), .v (.int .i64 ((a1.getD v7.toNat zD).o)), .v (.int .i64 ((a1.getD v7.toNat zD).a))])))] (cgt 2 [46, 47] (cot 3 (os_plain rfl rfl (s_indexU (own := false) (sz := 4) (rows := (a1.map eD)) (e := v7) (ik := .i64) rfl sl45 (by kernel_rfl) (.tmp (by kernel_rfl)) hg9.1 (by rw [List.length_map]; exact hg9.2) rfl (by kernel_rfl) (by kernel_rfl))) (cot 4 (os_plain rfl rfl (s_loadA (n := 4) (xs := [.v (.int .i64 ((a1.getD v7.toNat zD).w)), .v (.int .i64 ((a1.getD v7.toNat zD).s)), .v (.int .i64 ((a1.getD v7.toNat zD).o)), .v (.int .i64 ((a1.getD v7.toNat zD).a))]) (r := 46) (off := 0) (s := .i v7.toNat 4) (p := []) (c := .sl false 4 (a1.map eD)) (cs := eD (a1.getD v7.toNat zD)) rfl (aggB_ok (by kernel_rfl)) (by kernel_rfl) (by kernel_rfl) (getP_map zD (by have := hg9; omega)) rfl rfl rfl rfl (by kernel_rfl))) (cot 5 (os_plain rfl rfl (s_alloc rfl zero47 rfl (by kernel_rfl))) (cot 6 (os_plain rfl rfl (s_storeS (n := 4) (r := 10) (off := 0) (s := .d) (p := []) (c := .pt true [.v (.int .i64 0), .v (.int .i64 0), .v (.int .i64 0), .v (.int .i64 0)]) (cs := [.v (.int .i64 0), .v (.int .i64 0), .v (.int .i64 0), .v (.int .i64 0)]) (u := .agg [.v (.int .i64 ((a1.getD v7.toNat zD).w)), .v (.int .i64 ((a1.getD v7.toNat zD).s)), .v (.int .i64 ((a1.getD v7.toNat zD).o)), .v (.int .i64 ((a1.getD v7.toNat zD).a))]) rfl (by kernel_rfl) (by kernel_rfl) (by kernel_rfl) rfl (by kernel_rfl) rfl rfl rfl rfl (Nat.le_of_ble_eq_true rfl) (by kernel_rfl) (by kernel_rfl) rfl rfl)) .nil))))) ?_
      refine r_seq ?_
      refine rr [(1, .u (.c (.sl false 4 (a1.map eD)))), (5, tB r1), (6, .u (.c (zoneC v5))), (8, .u (.c (zmC v6))), (9, tI v7), (10, .u (.c (.pt true [.v (.int .i64 ((a1.getD v7.toNat zD).w)), .v (.int .i64 ((a1.getD v7.toNat zD).s)), .v (.int .i64 ((a1.getD v7.toNat zD).o)), .v (.int .i64 ((a1.getD v7.toNat zD).a))])))] (cgt 1 [11] .nil) ?_
      refine r_seq ?_
      refine rr [(1, .u (.c (.sl false 4 (a1.map eD)))), (5, tB r1), (6, .u (.c (zoneC v5))), (8, .u (.c (zmC v6))), (9, tI v7), (10, .u (.c (.pt true [.v (.int .i64 ((a1.getD v7.toNat zD).w)), .v (.int .i64 ((a1.getD v7.toNat zD).s)), .v (.int .i64 ((a1.getD v7.toNat zD).o)), .v (.int .i64 ((a1.getD v7.toNat zD).a))]))), (12, tI 0)] (cgt 1 [12] .nil) ?_
      refine r_seq ?_
      obtain ⟨y10, hy10, h_y10⟩ := bind_some h
      refine r_joinC (α := Bool) (fun x => [(1, .u (.c (.sl false 4 (a1.map eD)))), (5, tB r1), (6, .u (.c (zoneC v5))), (8, .u (.c (zmC v6))), (9, tI v7), (10, .u (.c (.pt true [.v (.int .i64 ((a1.getD v7.toNat zD).w)), .v (.int .i64 ((a1.getD v7.toNat zD).s)), .v (.int .i64 ((a1.getD v7.toNat zD).o)), .v (.int .i64 ((a1.getD v7.toNat zD).a))]))), (12, tI 0), (13, tB x)]) (fun x => y10 = x) ?_ ?_
      · replace h := hy10
        unfold ZonePlays.j1 at h
        rcases Bool.eq_false_or_eq_true (decide (((a1.getD v7.toNat zD).a) ≥ 0)) with hb | hb
        · have h := cond_t hb h
          have hs11 := hb
          refine r_weak (of_weak (l := [(1, .u (.c (.sl false 4 (a1.map eD)))), (5, tB r1), (6, .u (.c (zoneC v5))), (8, .u (.c (zmC v6))), (9, tI v7), (10, .u (.c (.pt true [.v (.int .i64 ((a1.getD v7.toNat zD).w)), .v (.int .i64 ((a1.getD v7.toNat zD).s)), .v (.int .i64 ((a1.getD v7.toNat zD).o)), .v (.int .i64 ((a1.getD v7.toNat zD).a))]))), (12, tI 0)]) (by kernel_rfl)) ?_
          refine r_anyW (l := [(1, .u (.c (.sl false 4 (a1.map eD)))), (5, tB r1), (6, .u (.c (zoneC v5))), (8, .u (.c (zmC v6))), (9, tI v7), (10, .u (.c (.pt true [.v (.int .i64 ((a1.getD v7.toNat zD).w)), .v (.int .i64 ((a1.getD v7.toNat zD).s)), .v (.int .i64 ((a1.getD v7.toNat zD).o)), .v (.int .i64 ((a1.getD v7.toNat zD).a))]))), (12, tI 0), (13, tB (decide (((a1.getD v7.toNat zD).a) < (v6.t.length : Int))))]) (tab := [[], [0], [1], [2], [3], [4, 3], [3], [6, 3], [7, 3], [8, 3], [9, 3], [5, 10, 3], [3, 11], [12, 3, 0, 1, 2, 3, 4, 5, 6, 7, 8, 9, 10, 11, 12]]) [ev [] [10] 50 (.addr 10 (.d) [] 3), ev [0] [10, 50] 51 (tI ((a1.getD v7.toNat zD).a)), ev [0, 1] [51] 52 (tB (decide (((a1.getD v7.toNat zD).a) ≥ 0))), ev [0, 1, 2] [52] 53 (tB true), ev [0, 1, 2, 3] [10, 53] 54 (.addr 10 (.d) [] 3), ev [0, 1, 2, 3, 4] [10, 53, 54] 55 (tI ((a1.getD v7.toNat zD).a)), ev [0, 1, 2, 3] [8, 53] 56 (.addr 8 (.d) [] 0), ev [0, 1, 2, 3, 6] [53, 56] 57 (.addr 8 (.d) [] 0), ev [0, 1, 2, 3, 6, 7] [53, 57] 58 (.addr 8 (.d) [] 1), ev [0, 1, 2, 3, 6, 7, 8] [8, 53, 58] 59 (.whole 8 (some (.d, [], 1)) 1 ((v6.t.map eI).length)), ev [0, 1, 2, 3, 6, 7, 8, 9] [8, 53, 59] 60 (tI (v6.t.length : Int)), eu 11 [53, 55, 60] 61 (tB (decide (((a1.getD v7.toNat zD).a) < (v6.t.length : Int)))), eu 12 [53, 61] 62 (tB (decide (((a1.getD v7.toNat zD).a) < (v6.t.length : Int)))), eu 13 [62] 13 (tB (decide (((a1.getD v7.toNat zD).a) < (v6.t.length : Int))))] hm (by kernel_rfl) (by kernel_rfl) (by kernel_rfl) (en (en (en (.cons (fun σ hc => e_put hc rfl rfl (os_ge (d := 53) (t := tB (decide (((a1.getD v7.toNat zD).a) ≥ 0))) (t' := tB true) (by kernel_rfl) (by rw [hs11]))) (en (en (en (en (en (en (.cons (fun σ hc => e_put hc rfl rfl (os_to (os_gy rfl rfl rfl (by kernel_rfl) (s_lenV (r := 8) (lo := 0) (n := (v6.t.map eI).length) (pl := (some (.d, [], 1))) (sz := 1) rfl sl48 (by kernel_rfl) rfl (by kernel_rfl))) (t' := tI (v6.t.length : Int)) (by rw [List.length_map]))) (en (en (en .nil)))))))))))))) (by kernel_rfl) ?_
          exact ⟨decide (((a1.getD v7.toNat zD).a) < (v6.t.length : Int)), (Option.some.inj h).symm, of_weak (by kernel_rfl)⟩
        have h := cond_f hb h
        have hs12 := hb
        refine r_weak (of_weak (l := [(1, .u (.c (.sl false 4 (a1.map eD)))), (5, tB r1), (6, .u (.c (zoneC v5))), (8, .u (.c (zmC v6))), (9, tI v7), (10, .u (.c (.pt true [.v (.int .i64 ((a1.getD v7.toNat zD).w)), .v (.int .i64 ((a1.getD v7.toNat zD).s)), .v (.int .i64 ((a1.getD v7.toNat zD).o)), .v (.int .i64 ((a1.getD v7.toNat zD).a))]))), (12, tI 0)]) (by kernel_rfl)) ?_
        refine r_anyW (l := [(1, .u (.c (.sl false 4 (a1.map eD)))), (5, tB r1), (6, .u (.c (zoneC v5))), (8, .u (.c (zmC v6))), (9, tI v7), (10, .u (.c (.pt true [.v (.int .i64 ((a1.getD v7.toNat zD).w)), .v (.int .i64 ((a1.getD v7.toNat zD).s)), .v (.int .i64 ((a1.getD v7.toNat zD).o)), .v (.int .i64 ((a1.getD v7.toNat zD).a))]))), (12, tI 0), (13, tB false)]) (tab := [[], [0], [1], [2], [3], [4, 3], [3], [6, 3], [7, 3], [8, 3], [9, 3], [5, 10, 3], [3, 11], [12, 3, 0, 1, 2, 3, 4, 5, 6, 7, 8, 9, 10, 11, 12]]) [ev [] [10] 50 (.addr 10 (.d) [] 3), ev [0] [10, 50] 51 (tI ((a1.getD v7.toNat zD).a)), ev [0, 1] [51] 52 (tB (decide (((a1.getD v7.toNat zD).a) ≥ 0))), ev [0, 1, 2] [52] 53 (tB false), ev [0, 1, 2, 3] [53] 54 (.tup []), ev [0, 1, 2, 3, 4] [53] 55 (.tup []), ev [0, 1, 2, 3] [53] 56 (.tup []), ev [0, 1, 2, 3, 6] [53] 57 (.tup []), ev [0, 1, 2, 3, 6, 7] [53] 58 (.tup []), ev [0, 1, 2, 3, 6, 7, 8] [53] 59 (.tup []), ev [0, 1, 2, 3, 6, 7, 8, 9] [53] 60 (.tup []), eu 11 [53] 61 (.tup []), eu 12 [53] 62 (tB false), eu 13 [62] 13 (tB false)] hm (by kernel_rfl) (by kernel_rfl) (by kernel_rfl) (en (en (en (.cons (fun σ hc => e_put hc rfl rfl (os_ge (d := 53) (t := tB (decide (((a1.getD v7.toNat zD).a) ≥ 0))) (t' := tB false) (by kernel_rfl) (by rw [hs12]))) (en (en (en (en (en (en (en (en (en (en .nil)))))))))))))) (by kernel_rfl) ?_
        exact ⟨false, (Option.some.inj h).symm, of_weak (by kernel_rfl)⟩
      rintro y10 rfl
      replace h := h_y10
      try dsimp only at h
      refine r_seq ?_
      obtain ⟨y13, hy13, h_y13⟩ := bind_some h
      refine r_joinC (α := Bool) (fun x => [(1, .u (.c (.sl false 4 (a1.map eD)))), (5, tB r1), (6, .u (.c (zoneC v5))), (8, .u (.c (zmC v6))), (9, tI v7), (10, .u (.c (.pt true [.v (.int .i64 ((a1.getD v7.toNat zD).w)), .v (.int .i64 ((a1.getD v7.toNat zD).s)), .v (.int .i64 ((a1.getD v7.toNat zD).o)), .v (.int .i64 ((a1.getD v7.toNat zD).a))]))), (12, tI 0), (13, tB y10), (14, tB x)]) (fun x => y13 = x) ?_ ?_
      · replace h := hy13
        unfold ZonePlays.j2 at h
        rcases Bool.eq_false_or_eq_true (decide (((a1.getD v7.toNat zD).o) ≤ 3)) with hb | hb
        · have h := cond_t hb h
          have hs14 := hb
          obtain ⟨r15, hr15, h⟩ := bind_some h
          refine r_weak (of_weak (l := [(1, .u (.c (.sl false 4 (a1.map eD)))), (5, tB r1), (6, .u (.c (zoneC v5))), (8, .u (.c (zmC v6))), (9, tI v7), (10, .u (.c (.pt true [.v (.int .i64 ((a1.getD v7.toNat zD).w)), .v (.int .i64 ((a1.getD v7.toNat zD).s)), .v (.int .i64 ((a1.getD v7.toNat zD).o)), .v (.int .i64 ((a1.getD v7.toNat zD).a))]))), (12, tI 0), (13, tB y10)]) (by kernel_rfl)) ?_
          refine r_anyW (l := [(1, .u (.c (.sl false 4 (a1.map eD)))), (5, tB r1), (6, .u (.c (zoneC v5))), (8, .u (.c (zmC v6))), (9, tI v7), (10, .u (.c (.pt true [.v (.int .i64 ((a1.getD v7.toNat zD).w)), .v (.int .i64 ((a1.getD v7.toNat zD).s)), .v (.int .i64 ((a1.getD v7.toNat zD).o)), .v (.int .i64 ((a1.getD v7.toNat zD).a))]))), (12, tI 0), (13, tB y10), (14, tB r15)]) (tab := [[], [0], [1], [2], [3], [4, 3], [5, 3], [6, 3], [3], [8, 3], [3], [10, 3], [7, 9, 11, 3, 3], [3, 12], [13, 12, 0, 1, 2, 3, 4, 5, 6, 7, 8, 9, 10, 11, 12, 13]]) [ev [] [10] 63 (.addr 10 (.d) [] 2), ev [0] [10, 63] 64 (tI ((a1.getD v7.toNat zD).o)), ev [0, 1] [64] 65 (tB (decide (((a1.getD v7.toNat zD).o) ≤ 3))), ev [0, 1, 2] [65] 66 (tB true), ev [0, 1, 2, 3] [8, 66] 67 (.addr 8 (.d) [] 0), ev [0, 1, 2, 3, 4] [66, 67] 68 (.addr 8 (.d) [] 0), eu 6 [66, 68] 69 (.addr 8 (.d) [] 0), eu 7 [8, 66, 69] 70 (.whole 8 (some (.d, [], 0)) 1 ((v6.s.map eB).length)), ev [0, 1, 2, 3] [10, 66] 71 (.addr 10 (.d) [] 3), ev [0, 1, 2, 3, 8] [10, 66, 71] 72 (tI ((a1.getD v7.toNat zD).a)), ev [0, 1, 2, 3] [10, 66] 73 (.addr 10 (.d) [] 2), ev [0, 1, 2, 3, 10] [10, 66, 73] 74 (tI ((a1.getD v7.toNat zD).o)), eu 12 [8, 66, 70, 72, 74] 75 (tB r15), eu 13 [66, 75] 76 (tB r15), eu 14 [76] 14 (tB r15)] hm (by kernel_rfl) (by kernel_rfl) (by kernel_rfl) (en (en (en (.cons (fun σ hc => e_put hc rfl rfl (os_ge (d := 66) (t := tB (decide (((a1.getD v7.toNat zD).o) ≤ 3))) (t' := tB true) (by kernel_rfl) (by rw [hs14]))) (en (en (en (en (en (en (en (en (.cons (fun σ hc => e_put hc rfl rfl (os_gy rfl rfl rfl (by kernel_rfl) (c_callQL (res := [.c (.v (.bool r15))]) (AC.k (RBlock.ac (h := hr15))) ⟨_, Tryd.func23, rfl, by kernel_rfl⟩ rfl (.cons (.view (.v1 (r := 8) (lo := 0) (n := (v6.s.map eB).length) (off := 0) (s := .d) (p := []) (c := zmC v6) (cs := [.sl true 1 (v6.s.map eB), .sl true 1 (v6.t.map eI), .sl true 1 (v6.c.map eB)]) (own := true) (rows := v6.s.map eB) (by kernel_rfl) (by kernel_rfl) rfl rfl rows_all) (copy_map eB_copy)) (.cons (.copy (.copy (by kernel_rfl) rfl)) (.cons (.copy (.copy (by kernel_rfl) rfl)) .nil))) (⟨trivial, trivial⟩) (by kernel_rfl)))) (en (en .nil))))))))))))))) (by kernel_rfl) ?_
          exact ⟨r15, (Option.some.inj h).symm, of_weak (by kernel_rfl)⟩
        have h := cond_f hb h
        have hs16 := hb
        refine r_weak (of_weak (l := [(1, .u (.c (.sl false 4 (a1.map eD)))), (5, tB r1), (6, .u (.c (zoneC v5))), (8, .u (.c (zmC v6))), (9, tI v7), (10, .u (.c (.pt true [.v (.int .i64 ((a1.getD v7.toNat zD).w)), .v (.int .i64 ((a1.getD v7.toNat zD).s)), .v (.int .i64 ((a1.getD v7.toNat zD).o)), .v (.int .i64 ((a1.getD v7.toNat zD).a))]))), (12, tI 0), (13, tB y10)]) (by kernel_rfl)) ?_
        refine r_anyW (l := [(1, .u (.c (.sl false 4 (a1.map eD)))), (5, tB r1), (6, .u (.c (zoneC v5))), (8, .u (.c (zmC v6))), (9, tI v7), (10, .u (.c (.pt true [.v (.int .i64 ((a1.getD v7.toNat zD).w)), .v (.int .i64 ((a1.getD v7.toNat zD).s)), .v (.int .i64 ((a1.getD v7.toNat zD).o)), .v (.int .i64 ((a1.getD v7.toNat zD).a))]))), (12, tI 0), (13, tB y10), (14, tB false)]) (tab := [[], [0], [1], [2], [3], [4, 3], [5, 3], [6, 3], [3], [8, 3], [3], [10, 3], [7, 9, 11, 3, 3], [3, 12], [13, 12, 0, 1, 2, 3, 4, 5, 6, 7, 8, 9, 10, 11, 12, 13]]) [ev [] [10] 63 (.addr 10 (.d) [] 2), ev [0] [10, 63] 64 (tI ((a1.getD v7.toNat zD).o)), ev [0, 1] [64] 65 (tB (decide (((a1.getD v7.toNat zD).o) ≤ 3))), ev [0, 1, 2] [65] 66 (tB false), ev [0, 1, 2, 3] [66] 67 (.tup []), ev [0, 1, 2, 3, 4] [66] 68 (.tup []), eu 6 [66] 69 (.tup []), eu 7 [66] 70 (.tup []), ev [0, 1, 2, 3] [66] 71 (.tup []), ev [0, 1, 2, 3, 8] [66] 72 (.tup []), ev [0, 1, 2, 3] [66] 73 (.tup []), ev [0, 1, 2, 3, 10] [66] 74 (.tup []), eu 12 [66] 75 (.tup []), eu 13 [66] 76 (tB false), eu 14 [76] 14 (tB false)] hm (by kernel_rfl) (by kernel_rfl) (by kernel_rfl) (en (en (en (.cons (fun σ hc => e_put hc rfl rfl (os_ge (d := 66) (t := tB (decide (((a1.getD v7.toNat zD).o) ≤ 3))) (t' := tB false) (by kernel_rfl) (by rw [hs16]))) (en (en (en (en (en (en (en (en (en (en (en .nil))))))))))))))) (by kernel_rfl) ?_
        exact ⟨false, (Option.some.inj h).symm, of_weak (by kernel_rfl)⟩
      rintro y13 rfl
      replace h := h_y13
      try dsimp only at h
      refine r_seq ?_
      obtain ⟨y17, hy17, h_y17⟩ := bind_some h
      refine r_joinC (α := Zon × ZM × (Option Int) × Int) (fun x => [(1, .u (.c (.sl false 4 (a1.map eD)))), (5, tB r1), (6, .u (.c (zoneC x.1))), (8, .u (.c (zmC x.2.1))), (9, tI v7), (11, .u (.c (.err x.2.2.1))), (12, tI x.2.2.2)]) (fun x => y17 = Sum.inl x) ?_ ?_
      · replace h := hy17
        unfold ZonePlays.j3 at h
        refine r_seq ?_
        obtain ⟨r18, hr18, h⟩ := bind_some h
        refine rr [(1, .u (.c (.sl false 4 (a1.map eD)))), (5, tB r1), (6, .u (.c (zoneC v5))), (8, .u (.c (zmC v6))), (9, tI v7), (10, .u (.c (.pt true [.v (.int .i64 ((a1.getD v7.toNat zD).w)), .v (.int .i64 ((a1.getD v7.toNat zD).s)), .v (.int .i64 ((a1.getD v7.toNat zD).o)), .v (.int .i64 ((a1.getD v7.toNat zD).a))]))), (12, tI 0), (13, tB y10), (14, tB y13), (79, tI r18)] (cgt 2 [77, 78] (cot 3 (os_plain rfl rfl (c_callQ (AC.k (paviorlaw08_pick.ac (h := hr18))) ⟨_, Tryd.func12, rfl, by kernel_rfl⟩ rfl (.cons (.copy (by kernel_rfl) rfl) (.cons (.copy (by kernel_rfl) rfl) .nil)) (by kernel_rfl))) .nil)) ?_
        refine r_block ?_
        refine r_seq ?_
        obtain ⟨y19, hy19, h_y19⟩ := bind_some h
        refine r_joinC (α := Bool) (fun x => [(1, .u (.c (.sl false 4 (a1.map eD)))), (5, tB r1), (6, .u (.c (zoneC v5))), (8, .u (.c (zmC v6))), (9, tI v7), (10, .u (.c (.pt true [.v (.int .i64 ((a1.getD v7.toNat zD).w)), .v (.int .i64 ((a1.getD v7.toNat zD).s)), .v (.int .i64 ((a1.getD v7.toNat zD).o)), .v (.int .i64 ((a1.getD v7.toNat zD).a))]))), (12, tI 0), (13, tB y10), (14, tB y13), (79, tI r18), (99, tB x)]) (fun x => y19 = x) ?_ ?_
        · replace h := hy19
          unfold ZonePlays.j4 at h
          refine r_seq ?_
          refine rr [(1, .u (.c (.sl false 4 (a1.map eD)))), (5, tB r1), (6, .u (.c (zoneC v5))), (8, .u (.c (zmC v6))), (9, tI v7), (10, .u (.c (.pt true [.v (.int .i64 ((a1.getD v7.toNat zD).w)), .v (.int .i64 ((a1.getD v7.toNat zD).s)), .v (.int .i64 ((a1.getD v7.toNat zD).o)), .v (.int .i64 ((a1.getD v7.toNat zD).a))]))), (12, tI 0), (13, tB y10), (14, tB y13), (79, tI r18), (99, tB (r18 == 0))] (cgt 2 [100, 99] .nil) ?_
          rcases Bool.eq_false_or_eq_true (r18 == 0) with hb | hb
          · have h := cond_t hb h
            refine r_condT hb rfl ?_
            refine r_skip ?_
            exact ⟨r18 == 0, (Option.some.inj h).symm, of_weak (by kernel_rfl)⟩
          have h := cond_f hb h
          refine r_condF hb rfl ?_
          refine r_seq ?_
          refine rr [(1, .u (.c (.sl false 4 (a1.map eD)))), (5, tB r1), (6, .u (.c (zoneC v5))), (8, .u (.c (zmC v6))), (9, tI v7), (10, .u (.c (.pt true [.v (.int .i64 ((a1.getD v7.toNat zD).w)), .v (.int .i64 ((a1.getD v7.toNat zD).s)), .v (.int .i64 ((a1.getD v7.toNat zD).o)), .v (.int .i64 ((a1.getD v7.toNat zD).a))]))), (12, tI 0), (13, tB y10), (14, tB y13), (79, tI r18), (99, tB (r18 == 1))] (cgt 2 [101, 99] .nil) ?_
          rcases Bool.eq_false_or_eq_true (r18 == 1) with hb | hb
          · have h := cond_t hb h
            refine r_condT hb rfl ?_
            refine r_skip ?_
            exact ⟨r18 == 1, (Option.some.inj h).symm, of_weak (by kernel_rfl)⟩
          have h := cond_f hb h
          refine r_condF hb rfl ?_
          refine rr [(1, .u (.c (.sl false 4 (a1.map eD)))), (5, tB r1), (6, .u (.c (zoneC v5))), (8, .u (.c (zmC v6))), (9, tI v7), (10, .u (.c (.pt true [.v (.int .i64 ((a1.getD v7.toNat zD).w)), .v (.int .i64 ((a1.getD v7.toNat zD).s)), .v (.int .i64 ((a1.getD v7.toNat zD).o)), .v (.int .i64 ((a1.getD v7.toNat zD).a))]))), (12, tI 0), (13, tB y10), (14, tB y13), (79, tI r18), (99, tB (r18 == 2))] (cgt 2 [102, 99] .nil) ?_
          exact ⟨r18 == 2, (Option.some.inj h).symm, of_weak (by kernel_rfl)⟩
        rintro y19 rfl
        replace h := h_y19
        try dsimp only at h
        rcases Bool.eq_false_or_eq_true (y19) with hb | hb
        · have h := cond_t hb h
          refine r_condT hb rfl ?_
          refine r_seq ?_
          obtain ⟨r20, hr20, h⟩ := bind_some h
          refine rr [(1, .u (.c (.sl false 4 (a1.map eD)))), (5, tB r1), (6, .u (.c (zoneC r20.1))), (8, .u (.c (zmC v6))), (9, tI v7), (10, .u (.c (.pt true [.v (.int .i64 ((a1.getD v7.toNat zD).w)), .v (.int .i64 ((a1.getD v7.toNat zD).s)), .v (.int .i64 ((a1.getD v7.toNat zD).o)), .v (.int .i64 ((a1.getD v7.toNat zD).a))]))), (12, tI 0), (15, tI r20.2.1), (16, .u (.c (.err r20.2.2)))] (cgt 5 [104, 105, 106, 107, 108] (cot 6 (os_plain rfl rfl (c_call (ACT.k hT (ZTake.ac (h := hr20))) ⟨_, Tryd.func13, rfl, by kernel_rfl⟩ rfl (hand_root (r := 6) (c := zoneC v5) (by kernel_rfl) (by kernel_rfl) rfl (.rd (.copy (by kernel_rfl) rfl) (.rd (.copy (by kernel_rfl) rfl) .nil))) rfl (by kernel_rfl))) (cot 7 (os_plain rfl rfl (s_moveT (us := [.c (.v (.int .i64 r20.2.1)), .c (.err r20.2.2)]) (.inl rfl) (by kernel_rfl) rfl (by kernel_rfl))) (cgt 11 [110, 111, 15, 16] .nil)))) ?_
          refine r_seq ?_
          refine rr [(1, .u (.c (.sl false 4 (a1.map eD)))), (5, tB r1), (6, .u (.c (zoneC r20.1))), (8, .u (.c (zmC v6))), (9, tI v7), (10, .u (.c (.pt true [.v (.int .i64 ((a1.getD v7.toNat zD).w)), .v (.int .i64 ((a1.getD v7.toNat zD).s)), .v (.int .i64 ((a1.getD v7.toNat zD).o)), .v (.int .i64 ((a1.getD v7.toNat zD).a))]))), (11, .u (.c (.err r20.2.2))), (12, tI 0), (15, tI r20.2.1)] (cgt 2 [112, 11] .nil) ?_
          refine r_seq ?_
          refine rr [(1, .u (.c (.sl false 4 (a1.map eD)))), (5, tB r1), (6, .u (.c (zoneC r20.1))), (8, .u (.c (zmC v6))), (9, tI v7), (10, .u (.c (.pt true [.v (.int .i64 ((a1.getD v7.toNat zD).w)), .v (.int .i64 ((a1.getD v7.toNat zD).s)), .v (.int .i64 ((a1.getD v7.toNat zD).o)), .v (.int .i64 ((a1.getD v7.toNat zD).a))]))), (11, .u (.c (.err r20.2.2))), (12, tI 0), (15, tI r20.2.1), (17, tI 0)] (cgt 1 [17] .nil) ?_
          refine r_seq ?_
          obtain ⟨y21, hy21, h_y21⟩ := bind_some h
          refine r_joinC (α := ZM × Int × Int) (fun x => [(1, .u (.c (.sl false 4 (a1.map eD)))), (5, tB r1), (6, .u (.c (zoneC r20.1))), (8, .u (.c (zmC x.1))), (9, tI v7), (11, .u (.c (.err r20.2.2))), (12, tI x.2.1), (15, tI r20.2.1), (17, tI x.2.2)]) (fun x => y21 = x) ?_ ?_
          · replace h := hy21
            unfold ZonePlays.j5 at h
            refine r_seq ?_
            rcases Bool.eq_false_or_eq_true (decide (((a1.getD v7.toNat zD).s) < 0)) with hb | hb
            · have h := cond_t hb h
              have hs22 := hb
              refine rr [(1, .u (.c (.sl false 4 (a1.map eD)))), (5, tB r1), (6, .u (.c (zoneC r20.1))), (8, .u (.c (zmC v6))), (9, tI v7), (10, .u (.c (.pt true [.v (.int .i64 ((a1.getD v7.toNat zD).w)), .v (.int .i64 ((a1.getD v7.toNat zD).s)), .v (.int .i64 ((a1.getD v7.toNat zD).o)), .v (.int .i64 ((a1.getD v7.toNat zD).a))]))), (11, .u (.c (.err r20.2.2))), (12, tI 0), (15, tI r20.2.1), (17, tI 0), (130, tB true)] (cgt 3 [113, 114, 115] (cot 4 (os_ge (d := 116) (t := tB (decide (((a1.getD v7.toNat zD).s) < 0))) (t' := tB true) (by kernel_rfl) (by rw [hs22])) (cgt 18 [117, 118, 119, 120, 121, 122, 123, 124, 125, 126, 127, 128, 129, 130] .nil))) ?_
              refine r_condT rfl rfl ?_
              refine rr [(1, .u (.c (.sl false 4 (a1.map eD)))), (5, tB r1), (6, .u (.c (zoneC r20.1))), (8, .u (.c (zmC v6))), (9, tI v7), (11, .u (.c (.err r20.2.2))), (12, tI 1), (15, tI r20.2.1), (17, tI 0)] (cgt 1 [12] .nil) ?_
              exact ⟨(v6, 1, 0), (Option.some.inj h).symm, of_weak (by kernel_rfl)⟩
            have h := cond_f hb h
            have hs23 := hb
            rcases Bool.eq_false_or_eq_true (decide (((a1.getD v7.toNat zD).s) > 1)) with hb | hb
            · have h := cond_t hb h
              have hs24 := hb
              refine rr [(1, .u (.c (.sl false 4 (a1.map eD)))), (5, tB r1), (6, .u (.c (zoneC r20.1))), (8, .u (.c (zmC v6))), (9, tI v7), (10, .u (.c (.pt true [.v (.int .i64 ((a1.getD v7.toNat zD).w)), .v (.int .i64 ((a1.getD v7.toNat zD).s)), .v (.int .i64 ((a1.getD v7.toNat zD).o)), .v (.int .i64 ((a1.getD v7.toNat zD).a))]))), (11, .u (.c (.err r20.2.2))), (12, tI 0), (15, tI r20.2.1), (17, tI 0), (130, tB true)] (cgt 3 [113, 114, 115] (cot 4 (os_ge (d := 116) (t := tB (decide (((a1.getD v7.toNat zD).s) < 0))) (t' := tB false) (by kernel_rfl) (by rw [hs23])) (cgt 8 [117, 118, 119, 120] (cot 9 (os_ge (d := 121) (t := tB (decide (((a1.getD v7.toNat zD).s) > 1))) (t' := tB true) (by kernel_rfl) (by rw [hs24])) (cgt 18 [122, 123, 124, 125, 126, 127, 128, 129, 130] .nil))))) ?_
              refine r_condT rfl rfl ?_
              refine rr [(1, .u (.c (.sl false 4 (a1.map eD)))), (5, tB r1), (6, .u (.c (zoneC r20.1))), (8, .u (.c (zmC v6))), (9, tI v7), (11, .u (.c (.err r20.2.2))), (12, tI 1), (15, tI r20.2.1), (17, tI 0)] (cgt 1 [12] .nil) ?_
              exact ⟨(v6, 1, 0), (Option.some.inj h).symm, of_weak (by kernel_rfl)⟩
            have h := cond_f hb h
            have hs25 := hb
            rcases Bool.eq_false_or_eq_true (decide (((a1.getD v7.toNat zD).o) < 0)) with hb | hb
            · have h := cond_t hb h
              have hs26 := hb
              refine rr [(1, .u (.c (.sl false 4 (a1.map eD)))), (5, tB r1), (6, .u (.c (zoneC r20.1))), (8, .u (.c (zmC v6))), (9, tI v7), (10, .u (.c (.pt true [.v (.int .i64 ((a1.getD v7.toNat zD).w)), .v (.int .i64 ((a1.getD v7.toNat zD).s)), .v (.int .i64 ((a1.getD v7.toNat zD).o)), .v (.int .i64 ((a1.getD v7.toNat zD).a))]))), (11, .u (.c (.err r20.2.2))), (12, tI 0), (15, tI r20.2.1), (17, tI 0), (130, tB true)] (cgt 3 [113, 114, 115] (cot 4 (os_ge (d := 116) (t := tB (decide (((a1.getD v7.toNat zD).s) < 0))) (t' := tB false) (by kernel_rfl) (by rw [hs23])) (cgt 8 [117, 118, 119, 120] (cot 9 (os_ge (d := 121) (t := tB (decide (((a1.getD v7.toNat zD).s) > 1))) (t' := tB false) (by kernel_rfl) (by rw [hs25])) (cgt 13 [122, 123, 124, 125] (cot 14 (os_ge (d := 126) (t := tB (decide (((a1.getD v7.toNat zD).o) < 0))) (t' := tB true) (by kernel_rfl) (by rw [hs26])) (cgt 18 [127, 128, 129, 130] .nil))))))) ?_
              refine r_condT rfl rfl ?_
              refine rr [(1, .u (.c (.sl false 4 (a1.map eD)))), (5, tB r1), (6, .u (.c (zoneC r20.1))), (8, .u (.c (zmC v6))), (9, tI v7), (11, .u (.c (.err r20.2.2))), (12, tI 1), (15, tI r20.2.1), (17, tI 0)] (cgt 1 [12] .nil) ?_
              exact ⟨(v6, 1, 0), (Option.some.inj h).symm, of_weak (by kernel_rfl)⟩
            have h := cond_f hb h
            have hs27 := hb
            refine rr [(1, .u (.c (.sl false 4 (a1.map eD)))), (5, tB r1), (6, .u (.c (zoneC r20.1))), (8, .u (.c (zmC v6))), (9, tI v7), (10, .u (.c (.pt true [.v (.int .i64 ((a1.getD v7.toNat zD).w)), .v (.int .i64 ((a1.getD v7.toNat zD).s)), .v (.int .i64 ((a1.getD v7.toNat zD).o)), .v (.int .i64 ((a1.getD v7.toNat zD).a))]))), (11, .u (.c (.err r20.2.2))), (12, tI 0), (15, tI r20.2.1), (17, tI 0), (130, tB (decide (((a1.getD v7.toNat zD).o) > 3)))] (cgt 3 [113, 114, 115] (cot 4 (os_ge (d := 116) (t := tB (decide (((a1.getD v7.toNat zD).s) < 0))) (t' := tB false) (by kernel_rfl) (by rw [hs23])) (cgt 8 [117, 118, 119, 120] (cot 9 (os_ge (d := 121) (t := tB (decide (((a1.getD v7.toNat zD).s) > 1))) (t' := tB false) (by kernel_rfl) (by rw [hs25])) (cgt 13 [122, 123, 124, 125] (cot 14 (os_ge (d := 126) (t := tB (decide (((a1.getD v7.toNat zD).o) < 0))) (t' := tB false) (by kernel_rfl) (by rw [hs27])) (cgt 18 [127, 128, 129, 130] .nil))))))) ?_
            rcases Bool.eq_false_or_eq_true (decide (((a1.getD v7.toNat zD).o) > 3)) with hb | hb
            · have h := cond_t hb h
              refine r_condT hb rfl ?_
              refine rr [(1, .u (.c (.sl false 4 (a1.map eD)))), (5, tB r1), (6, .u (.c (zoneC r20.1))), (8, .u (.c (zmC v6))), (9, tI v7), (11, .u (.c (.err r20.2.2))), (12, tI 1), (15, tI r20.2.1), (17, tI 0)] (cgt 1 [12] .nil) ?_
              exact ⟨(v6, 1, 0), (Option.some.inj h).symm, of_weak (by kernel_rfl)⟩
            have h := cond_f hb h
            refine r_condF hb rfl ?_
            refine r_seq ?_
            obtain ⟨r28, hr28, h⟩ := bind_some h
            refine rr [(1, .u (.c (.sl false 4 (a1.map eD)))), (5, tB r1), (6, .u (.c (zoneC r20.1))), (8, .u (.c (zmC r28.1))), (9, tI v7), (11, .u (.c (.err r20.2.2))), (12, tI 0), (15, tI r20.2.1), (17, tI r28.2)] (cgt 5 [131, 132, 133, 134, 135] (cot 6 (os_plain rfl rfl (c_call (AC.k (MTake.ac (h := hr28))) ⟨_, Tryd.func24, rfl, by kernel_rfl⟩ rfl (hand_root (r := 8) (c := zmC v6) (by kernel_rfl) (by kernel_rfl) rfl (.rd (.copy (by kernel_rfl) rfl) (.rd (.copy (by kernel_rfl) rfl) .nil))) rfl (by kernel_rfl))) (cgt 7 [17] .nil))) ?_
            refine r_seq ?_
            refine rr [(1, .u (.c (.sl false 4 (a1.map eD)))), (5, tB r1), (6, .u (.c (zoneC r20.1))), (8, .u (.c (zmC r28.1))), (9, tI v7), (11, .u (.c (.err r20.2.2))), (12, tI 0), (15, tI r20.2.1), (17, tI r28.2), (138, tB (decide (r28.2 < 0)))] (cgt 2 [137, 138] .nil) ?_
            rcases Bool.eq_false_or_eq_true (decide (r28.2 < 0)) with hb | hb
            · have h := cond_t hb h
              refine r_condT hb rfl ?_
              refine r_seq ?_
              refine rr [(1, .u (.c (.sl false 4 (a1.map eD)))), (5, tB r1), (6, .u (.c (zoneC r20.1))), (8, .u (.c (zmC r28.1))), (9, tI v7), (11, .u (.c (.err r20.2.2))), (15, tI r20.2.1), (17, tI 0)] (cgt 1 [17] .nil) ?_
              refine rr [(1, .u (.c (.sl false 4 (a1.map eD)))), (5, tB r1), (6, .u (.c (zoneC r20.1))), (8, .u (.c (zmC r28.1))), (9, tI v7), (11, .u (.c (.err r20.2.2))), (12, tI 5), (15, tI r20.2.1), (17, tI 0)] (cgt 1 [12] .nil) ?_
              exact ⟨(r28.1, 5, 0), (Option.some.inj h).symm, of_weak (by kernel_rfl)⟩
            have h := cond_f hb h
            refine r_condF hb rfl ?_
            refine r_skip ?_
            exact ⟨(r28.1, 0, r28.2), (Option.some.inj h).symm, of_weak (by kernel_rfl)⟩
          rintro y21 rfl
          replace h := h_y21
          try dsimp only at h
          refine r_seq ?_
          refine rr [(1, .u (.c (.sl false 4 (a1.map eD)))), (5, tB r1), (6, .u (.c (zoneC r20.1))), (8, .u (.c (zmC y21.1))), (9, tI v7), (11, .u (.c (.err r20.2.2))), (12, tI y21.2.1), (141, tB (r20.2.1 != y21.2.2))] (cgt 3 [139, 140, 141] .nil) ?_
          rcases Bool.eq_false_or_eq_true (r20.2.1 != y21.2.2) with hb | hb
          · have h := cond_t hb h
            refine r_condT hb rfl ?_
            refine r_seq ?_
            refine rr [(4, tB false)] (cgt 1 [4] .nil) ?_
            obtain rfl := Option.some.inj h
            have h : Option.some _ = Option.some r := h_y17
            refine r_ret ?_
            obtain rfl := Option.some.inj h
            exact ⟨.inr rfl, _, _, .cons (.copy rfl rfl rfl) .nil, rfl, outs_of trivial⟩
          have h := cond_f hb h
          refine r_condF hb rfl ?_
          refine r_skip ?_
          exact ⟨(r20.1, y21.1, r20.2.2, y21.2.1), (Option.some.inj h).symm, of_weak (by kernel_rfl)⟩
        have h := cond_f hb h
        refine r_condF hb rfl ?_
        refine r_seq ?_
        refine rr [(1, .u (.c (.sl false 4 (a1.map eD)))), (5, tB r1), (6, .u (.c (zoneC v5))), (8, .u (.c (zmC v6))), (9, tI v7), (10, .u (.c (.pt true [.v (.int .i64 ((a1.getD v7.toNat zD).w)), .v (.int .i64 ((a1.getD v7.toNat zD).s)), .v (.int .i64 ((a1.getD v7.toNat zD).o)), .v (.int .i64 ((a1.getD v7.toNat zD).a))]))), (12, tI 0), (13, tB y10), (14, tB y13), (79, tI r18), (142, tB (r18 == 3))] (cgt 2 [143, 142] .nil) ?_
        rcases Bool.eq_false_or_eq_true (r18 == 3) with hb | hb
        · have h := cond_t hb h
          refine r_condT hb rfl ?_
          refine r_seq ?_
          obtain ⟨r29, hr29, h⟩ := bind_some h
          refine rr [(1, .u (.c (.sl false 4 (a1.map eD)))), (5, tB r1), (6, .u (.c (zoneC r29.1))), (8, .u (.c (zmC v6))), (9, tI v7), (10, .u (.c (.pt true [.v (.int .i64 ((a1.getD v7.toNat zD).w)), .v (.int .i64 ((a1.getD v7.toNat zD).s)), .v (.int .i64 ((a1.getD v7.toNat zD).o)), .v (.int .i64 ((a1.getD v7.toNat zD).a))]))), (11, .u (.c (.err r29.2))), (12, tI 0), (14, tB y13)] (cgt 5 [144, 145, 146, 147, 148] (cot 6 (os_plain rfl rfl (c_call (ACT.k hT (ZTakeAt.ac (h := hr29))) ⟨_, Tryd.func25, rfl, by kernel_rfl⟩ rfl (hand_root (r := 6) (c := zoneC v5) (by kernel_rfl) (by kernel_rfl) rfl (.rd (.copy (by kernel_rfl) rfl) (.rd (.copy (by kernel_rfl) rfl) .nil))) rfl (by kernel_rfl))) (cgt 7 [11] .nil))) ?_
          refine r_seq ?_
          refine rr [(1, .u (.c (.sl false 4 (a1.map eD)))), (5, tB r1), (6, .u (.c (zoneC r29.1))), (8, .u (.c (zmC v6))), (9, tI v7), (10, .u (.c (.pt true [.v (.int .i64 ((a1.getD v7.toNat zD).w)), .v (.int .i64 ((a1.getD v7.toNat zD).s)), .v (.int .i64 ((a1.getD v7.toNat zD).o)), .v (.int .i64 ((a1.getD v7.toNat zD).a))]))), (11, .u (.c (.err r29.2))), (12, tI 0), (151, tB (!y13))] (cgt 2 [150, 151] .nil) ?_
          rcases Bool.eq_false_or_eq_true (!y13) with hb | hb
          · have h := cond_t hb h
            refine r_condT hb rfl ?_
            refine rr [(1, .u (.c (.sl false 4 (a1.map eD)))), (5, tB r1), (6, .u (.c (zoneC r29.1))), (8, .u (.c (zmC v6))), (9, tI v7), (11, .u (.c (.err r29.2))), (12, tI 1)] (cgt 1 [12] .nil) ?_
            exact ⟨(r29.1, v6, r29.2, 1), (Option.some.inj h).symm, of_weak (by kernel_rfl)⟩
          have h := cond_f hb h
          refine r_condF hb rfl ?_
          refine r_seq ?_
          obtain ⟨r30, hr30, h⟩ := bind_some h
          refine r_weak (of_weak (l := [(1, .u (.c (.sl false 4 (a1.map eD)))), (5, tB r1), (6, .u (.c (zoneC r29.1))), (8, .u (.c (zmC v6))), (9, tI v7), (10, .u (.c (.pt true [.v (.int .i64 ((a1.getD v7.toNat zD).w)), .v (.int .i64 ((a1.getD v7.toNat zD).s)), .v (.int .i64 ((a1.getD v7.toNat zD).o)), .v (.int .i64 ((a1.getD v7.toNat zD).a))]))), (11, .u (.c (.err r29.2))), (12, tI 0), (151, tB (!y13))]) (by kernel_rfl)) ?_
          refine r_anyW (l := [(1, .u (.c (.sl false 4 (a1.map eD)))), (5, tB r1), (6, .u (.c (zoneC r29.1))), (8, .u (.c (zmC v6))), (9, tI v7), (10, .u (.c (.pt true [.v (.int .i64 ((a1.getD v7.toNat zD).w)), .v (.int .i64 ((a1.getD v7.toNat zD).s)), .v (.int .i64 ((a1.getD v7.toNat zD).o)), .v (.int .i64 ((a1.getD v7.toNat zD).a))]))), (11, .u (.c (.err r29.2))), (12, tI 0), (161, tB (!r30))]) (tab := [[], [0], [1], [2], [], [4], [], [6], [3, 5, 7], [8]]) [ev [] [8] 152 (.addr 8 (.d) [] 0), ev [0] [152] 153 (.addr 8 (.d) [] 0), ev [0, 1] [153] 154 (.addr 8 (.d) [] 0), ev [0, 1, 2] [8, 154] 155 (.whole 8 (some (.d, [], 0)) 1 ((v6.s.map eB).length)), ev [] [10] 156 (.addr 10 (.d) [] 3), ev [4] [10, 156] 157 (tI ((a1.getD v7.toNat zD).a)), ev [] [10] 158 (.addr 10 (.d) [] 2), ev [6] [10, 158] 159 (tI ((a1.getD v7.toNat zD).o)), eu 8 [8, 155, 157, 159] 160 (tB r30), eu 9 [160] 161 (tB (!r30))] hm (by kernel_rfl) (by kernel_rfl) (by kernel_rfl) (en (en (en (en (en (en (en (en (.cons (fun σ hc => e_put hc rfl rfl (os_plain rfl rfl (c_callQL (res := [.c (.v (.bool r30))]) (AC.k (RAll.ac (h := hr30))) ⟨_, Tryd.func26, rfl, by kernel_rfl⟩ rfl (.cons (.view (.v1 (r := 8) (lo := 0) (n := (v6.s.map eB).length) (off := 0) (s := .d) (p := []) (c := zmC v6) (cs := [.sl true 1 (v6.s.map eB), .sl true 1 (v6.t.map eI), .sl true 1 (v6.c.map eB)]) (own := true) (rows := v6.s.map eB) (by kernel_rfl) (by kernel_rfl) rfl rfl rows_all) (copy_map eB_copy)) (.cons (.copy (.copy (by kernel_rfl) rfl)) (.cons (.copy (.copy (by kernel_rfl) rfl)) (.cons (.copy (.copy (by kernel_rfl) rfl)) .nil)))) (⟨trivial, trivial⟩) (by kernel_rfl)))) (en .nil)))))))))) (by kernel_rfl) ?_
          rcases Bool.eq_false_or_eq_true (!r30) with hb | hb
          · have h := cond_t hb h
            refine r_condT hb rfl ?_
            refine rr [(1, .u (.c (.sl false 4 (a1.map eD)))), (5, tB r1), (6, .u (.c (zoneC r29.1))), (8, .u (.c (zmC v6))), (9, tI v7), (11, .u (.c (.err r29.2))), (12, tI 7)] (cgt 1 [12] .nil) ?_
            exact ⟨(r29.1, v6, r29.2, 7), (Option.some.inj h).symm, of_weak (by kernel_rfl)⟩
          have h := cond_f hb h
          refine r_condF hb rfl ?_
          obtain ⟨r31, hr31, h⟩ := bind_some h
          refine r_weak (of_weak (l := [(1, .u (.c (.sl false 4 (a1.map eD)))), (5, tB r1), (6, .u (.c (zoneC r29.1))), (8, .u (.c (zmC v6))), (9, tI v7), (10, .u (.c (.pt true [.v (.int .i64 ((a1.getD v7.toNat zD).w)), .v (.int .i64 ((a1.getD v7.toNat zD).s)), .v (.int .i64 ((a1.getD v7.toNat zD).o)), .v (.int .i64 ((a1.getD v7.toNat zD).a))]))), (11, .u (.c (.err r29.2))), (12, tI 0), (161, tB (!r30))]) (by kernel_rfl)) ?_
          refine r_anyW (l := [(1, .u (.c (.sl false 4 (a1.map eD)))), (5, tB r1), (6, .u (.c (zoneC r29.1))), (8, .u (.c (.pt true [.sl true 1 (r31.map eB), .sl true 1 (v6.t.map eI), .sl true 1 (v6.c.map eB)]))), (9, tI v7), (11, .u (.c (.err r29.2))), (12, tI 0)]) (tab := [[], [0], [1], [2], [], [4], [], [6], [3, 5, 7]]) [ev [] [8] 162 (.addr 8 (.d) [] 0), ev [0] [162] 163 (.addr 8 (.d) [] 0), ev [0, 1] [163] 164 (.addr 8 (.d) [] 0), ev [0, 1, 2] [8, 164] 165 (.whole 8 (some (.d, [], 0)) 1 ((v6.s.map eB).length)), ev [] [10] 166 (.addr 10 (.d) [] 3), ev [4] [10, 166] 167 (tI ((a1.getD v7.toNat zD).a)), ev [] [10] 168 (.addr 10 (.d) [] 2), ev [6] [10, 168] 169 (tI ((a1.getD v7.toNat zD).o)), ⟨List.range 8, [8, 165, 167, 169], [(170, .tup []), (8, .u (.c (.pt true [.sl true 1 (r31.map eB), .sl true 1 (v6.t.map eI), .sl true 1 (v6.c.map eB)]))), (165, .junk)], some 170, true⟩] hm (by kernel_rfl) (by kernel_rfl) (by kernel_rfl) (en (en (en (en (en (en (en (en (.cons (fun σ hc => e_eq (os_plain rfl rfl (c_call (outs := [some (.c (.sl true 1 (r31.map eB))), none, none, none]) (res := []) (AC.k (RSet.ac (h := hr31))) ⟨_, Tryd.func27, rfl, by kernel_rfl⟩ rfl (hand_slC (r := 8) (off := 0) (sz := 1) (n := (v6.s.map eB).length) (c := zmC v6) (cs := [.sl true 1 (v6.s.map eB), .sl true 1 (v6.t.map eI), .sl true 1 (v6.c.map eB)]) (y := .sl true 1 (v6.s.map eB)) (by kernel_rfl) (by kernel_rfl) (by kernel_rfl) (by kernel_rfl) (by kernel_rfl) (.rd (.copy (by kernel_rfl) rfl) (.rd (.copy (by kernel_rfl) rfl) (.rd (.copy (by kernel_rfl) rfl) .nil)))) rfl (by kernel_rfl))) (hand_put_overD (D := [165]) hc rfl rfl rfl (by kernel_rfl) rfl)) .nil))))))))) (by kernel_rfl) ?_
          exact ⟨(r29.1, (⟨r31, v6.t, v6.c⟩ : ZM), r29.2, 0), (Option.some.inj h).symm, of_weak (by kernel_rfl)⟩
        have h := cond_f hb h
        refine r_condF hb rfl ?_
        refine r_seq ?_
        refine rr [(1, .u (.c (.sl false 4 (a1.map eD)))), (5, tB r1), (6, .u (.c (zoneC v5))), (8, .u (.c (zmC v6))), (9, tI v7), (10, .u (.c (.pt true [.v (.int .i64 ((a1.getD v7.toNat zD).w)), .v (.int .i64 ((a1.getD v7.toNat zD).s)), .v (.int .i64 ((a1.getD v7.toNat zD).o)), .v (.int .i64 ((a1.getD v7.toNat zD).a))]))), (12, tI 0), (13, tB y10), (14, tB y13), (79, tI r18), (171, tB (r18 == 4))] (cgt 2 [172, 171] .nil) ?_
        rcases Bool.eq_false_or_eq_true (r18 == 4) with hb | hb
        · have h := cond_t hb h
          refine r_condT hb rfl ?_
          refine r_seq ?_
          obtain ⟨r32, hr32, h⟩ := bind_some h
          refine rr [(1, .u (.c (.sl false 4 (a1.map eD)))), (5, tB r1), (6, .u (.c (zoneC r32.1))), (8, .u (.c (zmC v6))), (9, tI v7), (10, .u (.c (.pt true [.v (.int .i64 ((a1.getD v7.toNat zD).w)), .v (.int .i64 ((a1.getD v7.toNat zD).s)), .v (.int .i64 ((a1.getD v7.toNat zD).o)), .v (.int .i64 ((a1.getD v7.toNat zD).a))]))), (11, .u (.c (.err r32.2))), (12, tI 0), (14, tB y13)] (cgt 5 [173, 174, 175, 176, 177] (cot 6 (os_plain rfl rfl (c_call (AC.k (ZGive.ac (h := hr32))) ⟨_, Tryd.func22, rfl, by kernel_rfl⟩ rfl (hand_root (r := 6) (c := zoneC v5) (by kernel_rfl) (by kernel_rfl) rfl (.rd (.copy (by kernel_rfl) rfl) (.rd (.copy (by kernel_rfl) rfl) .nil))) rfl (by kernel_rfl))) (cgt 7 [11] .nil))) ?_
          refine r_seq ?_
          refine rr [(1, .u (.c (.sl false 4 (a1.map eD)))), (5, tB r1), (6, .u (.c (zoneC r32.1))), (8, .u (.c (zmC v6))), (9, tI v7), (10, .u (.c (.pt true [.v (.int .i64 ((a1.getD v7.toNat zD).w)), .v (.int .i64 ((a1.getD v7.toNat zD).s)), .v (.int .i64 ((a1.getD v7.toNat zD).o)), .v (.int .i64 ((a1.getD v7.toNat zD).a))]))), (11, .u (.c (.err r32.2))), (12, tI 0), (180, tB (!y13))] (cgt 2 [179, 180] .nil) ?_
          rcases Bool.eq_false_or_eq_true (!y13) with hb | hb
          · have h := cond_t hb h
            refine r_condT hb rfl ?_
            refine rr [(1, .u (.c (.sl false 4 (a1.map eD)))), (5, tB r1), (6, .u (.c (zoneC r32.1))), (8, .u (.c (zmC v6))), (9, tI v7), (11, .u (.c (.err r32.2))), (12, tI 1)] (cgt 1 [12] .nil) ?_
            exact ⟨(r32.1, v6, r32.2, 1), (Option.some.inj h).symm, of_weak (by kernel_rfl)⟩
          have h := cond_f hb h
          refine r_condF hb rfl ?_
          refine r_seq ?_
          obtain ⟨r33, hr33, h⟩ := bind_some h
          refine r_weak (of_weak (l := [(1, .u (.c (.sl false 4 (a1.map eD)))), (5, tB r1), (6, .u (.c (zoneC r32.1))), (8, .u (.c (zmC v6))), (9, tI v7), (10, .u (.c (.pt true [.v (.int .i64 ((a1.getD v7.toNat zD).w)), .v (.int .i64 ((a1.getD v7.toNat zD).s)), .v (.int .i64 ((a1.getD v7.toNat zD).o)), .v (.int .i64 ((a1.getD v7.toNat zD).a))]))), (11, .u (.c (.err r32.2))), (12, tI 0), (180, tB (!y13))]) (by kernel_rfl)) ?_
          refine r_anyW (l := [(1, .u (.c (.sl false 4 (a1.map eD)))), (5, tB r1), (6, .u (.c (zoneC r32.1))), (8, .u (.c (zmC v6))), (9, tI v7), (10, .u (.c (.pt true [.v (.int .i64 ((a1.getD v7.toNat zD).w)), .v (.int .i64 ((a1.getD v7.toNat zD).s)), .v (.int .i64 ((a1.getD v7.toNat zD).o)), .v (.int .i64 ((a1.getD v7.toNat zD).a))]))), (11, .u (.c (.err r32.2))), (12, tI 0), (190, tB (!r33))]) (tab := [[], [0], [1], [2], [], [4], [], [6], [3, 5, 7], [8]]) [ev [] [8] 181 (.addr 8 (.d) [] 0), ev [0] [181] 182 (.addr 8 (.d) [] 0), ev [0, 1] [182] 183 (.addr 8 (.d) [] 0), ev [0, 1, 2] [8, 183] 184 (.whole 8 (some (.d, [], 0)) 1 ((v6.s.map eB).length)), ev [] [10] 185 (.addr 10 (.d) [] 3), ev [4] [10, 185] 186 (tI ((a1.getD v7.toNat zD).a)), ev [] [10] 187 (.addr 10 (.d) [] 2), ev [6] [10, 187] 188 (tI ((a1.getD v7.toNat zD).o)), eu 8 [8, 184, 186, 188] 189 (tB r33), eu 9 [189] 190 (tB (!r33))] hm (by kernel_rfl) (by kernel_rfl) (by kernel_rfl) (en (en (en (en (en (en (en (en (.cons (fun σ hc => e_put hc rfl rfl (os_plain rfl rfl (c_callQL (res := [.c (.v (.bool r33))]) (AC.k (RAll.ac (h := hr33))) ⟨_, Tryd.func26, rfl, by kernel_rfl⟩ rfl (.cons (.view (.v1 (r := 8) (lo := 0) (n := (v6.s.map eB).length) (off := 0) (s := .d) (p := []) (c := zmC v6) (cs := [.sl true 1 (v6.s.map eB), .sl true 1 (v6.t.map eI), .sl true 1 (v6.c.map eB)]) (own := true) (rows := v6.s.map eB) (by kernel_rfl) (by kernel_rfl) rfl rfl rows_all) (copy_map eB_copy)) (.cons (.copy (.copy (by kernel_rfl) rfl)) (.cons (.copy (.copy (by kernel_rfl) rfl)) (.cons (.copy (.copy (by kernel_rfl) rfl)) .nil)))) (⟨trivial, trivial⟩) (by kernel_rfl)))) (en .nil)))))))))) (by kernel_rfl) ?_
          rcases Bool.eq_false_or_eq_true (!r33) with hb | hb
          · have h := cond_t hb h
            refine r_condT hb rfl ?_
            refine rr [(1, .u (.c (.sl false 4 (a1.map eD)))), (5, tB r1), (6, .u (.c (zoneC r32.1))), (8, .u (.c (zmC v6))), (9, tI v7), (11, .u (.c (.err r32.2))), (12, tI 7)] (cgt 1 [12] .nil) ?_
            exact ⟨(r32.1, v6, r32.2, 7), (Option.some.inj h).symm, of_weak (by kernel_rfl)⟩
          have h := cond_f hb h
          refine r_condF hb rfl ?_
          obtain ⟨r34, hr34, h⟩ := bind_some h
          refine r_weak (of_weak (l := [(1, .u (.c (.sl false 4 (a1.map eD)))), (5, tB r1), (6, .u (.c (zoneC r32.1))), (8, .u (.c (zmC v6))), (9, tI v7), (10, .u (.c (.pt true [.v (.int .i64 ((a1.getD v7.toNat zD).w)), .v (.int .i64 ((a1.getD v7.toNat zD).s)), .v (.int .i64 ((a1.getD v7.toNat zD).o)), .v (.int .i64 ((a1.getD v7.toNat zD).a))]))), (11, .u (.c (.err r32.2))), (12, tI 0), (190, tB (!r33))]) (by kernel_rfl)) ?_
          refine r_anyW (l := [(1, .u (.c (.sl false 4 (a1.map eD)))), (5, tB r1), (6, .u (.c (zoneC r32.1))), (8, .u (.c (.pt true [.sl true 1 (r34.map eB), .sl true 1 (v6.t.map eI), .sl true 1 (v6.c.map eB)]))), (9, tI v7), (11, .u (.c (.err r32.2))), (12, tI 0)]) (tab := [[], [0], [1], [2], [], [4], [], [6], [3, 5, 7]]) [ev [] [8] 191 (.addr 8 (.d) [] 0), ev [0] [191] 192 (.addr 8 (.d) [] 0), ev [0, 1] [192] 193 (.addr 8 (.d) [] 0), ev [0, 1, 2] [8, 193] 194 (.whole 8 (some (.d, [], 0)) 1 ((v6.s.map eB).length)), ev [] [10] 195 (.addr 10 (.d) [] 3), ev [4] [10, 195] 196 (tI ((a1.getD v7.toNat zD).a)), ev [] [10] 197 (.addr 10 (.d) [] 2), ev [6] [10, 197] 198 (tI ((a1.getD v7.toNat zD).o)), ⟨List.range 8, [8, 194, 196, 198], [(199, .tup []), (8, .u (.c (.pt true [.sl true 1 (r34.map eB), .sl true 1 (v6.t.map eI), .sl true 1 (v6.c.map eB)]))), (194, .junk)], some 199, true⟩] hm (by kernel_rfl) (by kernel_rfl) (by kernel_rfl) (en (en (en (en (en (en (en (en (.cons (fun σ hc => e_eq (os_plain rfl rfl (c_call (outs := [some (.c (.sl true 1 (r34.map eB))), none, none, none]) (res := []) (AC.k (RSet.ac (h := hr34))) ⟨_, Tryd.func27, rfl, by kernel_rfl⟩ rfl (hand_slC (r := 8) (off := 0) (sz := 1) (n := (v6.s.map eB).length) (c := zmC v6) (cs := [.sl true 1 (v6.s.map eB), .sl true 1 (v6.t.map eI), .sl true 1 (v6.c.map eB)]) (y := .sl true 1 (v6.s.map eB)) (by kernel_rfl) (by kernel_rfl) (by kernel_rfl) (by kernel_rfl) (by kernel_rfl) (.rd (.copy (by kernel_rfl) rfl) (.rd (.copy (by kernel_rfl) rfl) (.rd (.copy (by kernel_rfl) rfl) .nil)))) rfl (by kernel_rfl))) (hand_put_overD (D := [194]) hc rfl rfl rfl (by kernel_rfl) rfl)) .nil))))))))) (by kernel_rfl) ?_
          exact ⟨(r32.1, (⟨r34, v6.t, v6.c⟩ : ZM), r32.2, 0), (Option.some.inj h).symm, of_weak (by kernel_rfl)⟩
        have h := cond_f hb h
        refine r_condF hb rfl ?_
        refine r_seq ?_
        refine rr [(1, .u (.c (.sl false 4 (a1.map eD)))), (5, tB r1), (6, .u (.c (zoneC v5))), (8, .u (.c (zmC v6))), (9, tI v7), (10, .u (.c (.pt true [.v (.int .i64 ((a1.getD v7.toNat zD).w)), .v (.int .i64 ((a1.getD v7.toNat zD).s)), .v (.int .i64 ((a1.getD v7.toNat zD).o)), .v (.int .i64 ((a1.getD v7.toNat zD).a))]))), (12, tI 0), (13, tB y10), (200, tB (r18 == 5))] (cgt 2 [201, 200] .nil) ?_
        rcases Bool.eq_false_or_eq_true (r18 == 5) with hb | hb
        · have h := cond_t hb h
          refine r_condT hb rfl ?_
          refine r_seq ?_
          obtain ⟨r35, hr35, h⟩ := bind_some h
          refine rr [(1, .u (.c (.sl false 4 (a1.map eD)))), (5, tB r1), (6, .u (.c (zoneC r35.1))), (8, .u (.c (zmC v6))), (9, tI v7), (10, .u (.c (.pt true [.v (.int .i64 ((a1.getD v7.toNat zD).w)), .v (.int .i64 ((a1.getD v7.toNat zD).s)), .v (.int .i64 ((a1.getD v7.toNat zD).o)), .v (.int .i64 ((a1.getD v7.toNat zD).a))]))), (11, .u (.c (.err r35.2))), (12, tI 0), (13, tB y10)] (cgt 3 [202, 203, 204] (cot 4 (os_plain rfl rfl (c_call (AC.k (ZClose.ac (h := hr35))) ⟨_, Tryd.func17, rfl, by kernel_rfl⟩ rfl (hand_root (r := 6) (c := zoneC v5) (by kernel_rfl) (by kernel_rfl) rfl (.rd (.copy (by kernel_rfl) rfl) .nil)) rfl (by kernel_rfl))) (cgt 5 [11] .nil))) ?_
          refine r_seq ?_
          refine rr [(1, .u (.c (.sl false 4 (a1.map eD)))), (5, tB r1), (6, .u (.c (zoneC r35.1))), (8, .u (.c (zmC v6))), (9, tI v7), (10, .u (.c (.pt true [.v (.int .i64 ((a1.getD v7.toNat zD).w)), .v (.int .i64 ((a1.getD v7.toNat zD).s)), .v (.int .i64 ((a1.getD v7.toNat zD).o)), .v (.int .i64 ((a1.getD v7.toNat zD).a))]))), (11, .u (.c (.err r35.2))), (12, tI 0), (207, tB (!y10))] (cgt 2 [206, 207] .nil) ?_
          rcases Bool.eq_false_or_eq_true (!y10) with hb | hb
          · have h := cond_t hb h
            refine r_condT hb rfl ?_
            refine rr [(1, .u (.c (.sl false 4 (a1.map eD)))), (5, tB r1), (6, .u (.c (zoneC r35.1))), (8, .u (.c (zmC v6))), (9, tI v7), (11, .u (.c (.err r35.2))), (12, tI 1)] (cgt 1 [12] .nil) ?_
            exact ⟨(r35.1, v6, r35.2, 1), (Option.some.inj h).symm, of_weak (by kernel_rfl)⟩
          have h := cond_f hb h
          refine r_condF hb rfl ?_
          refine r_seq ?_
          obtain ⟨hg36, h⟩ := guard_some h
          simp only [Bool.and_eq_true, decide_eq_true_eq] at hg36
          refine r_weak (of_weak (l := [(1, .u (.c (.sl false 4 (a1.map eD)))), (5, tB r1), (6, .u (.c (zoneC r35.1))), (8, .u (.c (zmC v6))), (9, tI v7), (10, .u (.c (.pt true [.v (.int .i64 ((a1.getD v7.toNat zD).w)), .v (.int .i64 ((a1.getD v7.toNat zD).s)), .v (.int .i64 ((a1.getD v7.toNat zD).o)), .v (.int .i64 ((a1.getD v7.toNat zD).a))]))), (11, .u (.c (.err r35.2))), (12, tI 0), (207, tB (!y10))]) (by kernel_rfl)) ?_
          refine r_anyW (l := [(1, .u (.c (.sl false 4 (a1.map eD)))), (5, tB r1), (6, .u (.c (zoneC r35.1))), (8, .u (.c (zmC v6))), (9, tI v7), (10, .u (.c (.pt true [.v (.int .i64 ((a1.getD v7.toNat zD).w)), .v (.int .i64 ((a1.getD v7.toNat zD).s)), .v (.int .i64 ((a1.getD v7.toNat zD).o)), .v (.int .i64 ((a1.getD v7.toNat zD).a))]))), (11, .u (.c (.err r35.2))), (12, tI 0), (215, tB (v6.c.getD (((a1.getD v7.toNat zD).a).toNat) false))]) (tab := [[], [0], [1], [2], [], [4], [3, 5], [6]]) [ev [] [8] 208 (.addr 8 (.d) [] 0), ev [0] [208] 209 (.addr 8 (.d) [] 0), ev [0, 1] [209] 210 (.addr 8 (.d) [] 2), ev [0, 1, 2] [8, 210] 211 (.whole 8 (some (.d, [], 2)) 1 ((v6.c.map eB).length)), ev [] [10] 212 (.addr 10 (.d) [] 3), ev [4] [10, 212] 213 (tI ((a1.getD v7.toNat zD).a)), eu 6 [8, 211, 213] 214 (.addr 8 (.d) [(2, .i (((a1.getD v7.toNat zD).a).toNat) 1)] 0), eu 7 [8, 214] 215 (tB (v6.c.getD (((a1.getD v7.toNat zD).a).toNat) false))] hm (by kernel_rfl) (by kernel_rfl) (by kernel_rfl) (en (en (en (en (en (en (.cons (fun σ hc => e_put hc rfl rfl (os_plain rfl rfl (s_indexV (r := 8) (lo := 0) (n := (v6.c.map eB).length) (pl := (some (.d, [], 2))) (sz := 1) (e := ((a1.getD v7.toNat zD).a)) (ik := .i64) (k := ((a1.getD v7.toNat zD).a).toNat) rfl sl52 (by kernel_rfl) (.tmp (by kernel_rfl)) hg36.1 (by rw [List.length_map]; exact hg36.2) (Nat.zero_add _) rfl (by kernel_rfl) (by kernel_rfl)))) (.cons (fun σ hc => e_put hc rfl rfl (os_plain rfl rfl (s_load1 (x := .v (.bool (v6.c.getD (((a1.getD v7.toNat zD).a).toNat) false))) (r := 8) (off := 0) (s := .d) (p := [(2, .i (((a1.getD v7.toNat zD).a).toNat) 1)]) (c := zmC v6) (cs := (eB (v6.c.getD (((a1.getD v7.toNat zD).a).toNat) false))) rfl (oneB_ok (by kernel_rfl)) (by kernel_rfl) (by kernel_rfl) (getP_in (c' := .sl true 1 (v6.c.map eB)) rfl (getP_map (f := eB) (own := true) (xs := v6.c) (k := ((a1.getD v7.toNat zD).a).toNat) false (by have := hg36; omega))) rfl rfl rfl (by kernel_rfl)))) .nil)))))))) (by kernel_rfl) ?_
          rcases Bool.eq_false_or_eq_true ((v6.c.getD (((a1.getD v7.toNat zD).a).toNat) false)) with hb | hb
          · have h := cond_t hb h
            refine r_condT hb rfl ?_
            refine rr [(1, .u (.c (.sl false 4 (a1.map eD)))), (5, tB r1), (6, .u (.c (zoneC r35.1))), (8, .u (.c (zmC v6))), (9, tI v7), (11, .u (.c (.err r35.2))), (12, tI 7)] (cgt 1 [12] .nil) ?_
            exact ⟨(r35.1, v6, r35.2, 7), (Option.some.inj h).symm, of_weak (by kernel_rfl)⟩
          have h := cond_f hb h
          refine r_condF hb rfl ?_
          obtain ⟨hg37, h⟩ := guard_some h
          simp only [Bool.and_eq_true, decide_eq_true_eq] at hg37
          refine r_weak (of_weak (l := [(1, .u (.c (.sl false 4 (a1.map eD)))), (5, tB r1), (6, .u (.c (zoneC r35.1))), (8, .u (.c (zmC v6))), (9, tI v7), (10, .u (.c (.pt true [.v (.int .i64 ((a1.getD v7.toNat zD).w)), .v (.int .i64 ((a1.getD v7.toNat zD).s)), .v (.int .i64 ((a1.getD v7.toNat zD).o)), .v (.int .i64 ((a1.getD v7.toNat zD).a))]))), (11, .u (.c (.err r35.2))), (12, tI 0), (215, tB (v6.c.getD (((a1.getD v7.toNat zD).a).toNat) false))]) (by kernel_rfl)) ?_
          refine r_anyW (l := [(1, .u (.c (.sl false 4 (a1.map eD)))), (5, tB r1), (6, .u (.c (zoneC r35.1))), (8, .u (.c (.pt true [.sl true 1 (v6.s.map eB), .sl true 1 (v6.t.map eI), .sl true 1 ((v6.c.set (((a1.getD v7.toNat zD).a).toNat) true).map eB)]))), (9, tI v7), (11, .u (.c (.err r35.2))), (12, tI 0)]) (tab := [[], [0], [1], [2], [], [4], [3, 5, 0, 1, 2, 3, 4, 5], [6, 0, 1, 2, 3, 4, 5]]) [ev [] [8] 216 (.addr 8 (.d) [] 0), ev [0] [216] 217 (.addr 8 (.d) [] 0), ev [0, 1] [217] 218 (.addr 8 (.d) [] 2), ev [0, 1, 2] [8, 218] 219 (.whole 8 (some (.d, [], 2)) 1 ((v6.c.map eB).length)), ev [] [10] 220 (.addr 10 (.d) [] 3), ev [4] [10, 220] 221 (tI ((a1.getD v7.toNat zD).a)), eu 6 [8, 219, 221] 222 (.addr 8 (.d) [(2, .i (((a1.getD v7.toNat zD).a).toNat) 1)] 0), ⟨List.range 7, [8, 222], [(8, .u (.c (.pt true [.sl true 1 (v6.s.map eB), .sl true 1 (v6.t.map eI), .sl true 1 ((v6.c.set (((a1.getD v7.toNat zD).a).toNat) true).map eB)])))], none, false⟩] hm (by kernel_rfl) (by kernel_rfl) (by kernel_rfl) (en (en (en (en (en (en (.cons (fun σ hc => e_put hc rfl rfl (os_plain rfl rfl (s_indexV (r := 8) (lo := 0) (n := (v6.c.map eB).length) (pl := (some (.d, [], 2))) (sz := 1) (e := ((a1.getD v7.toNat zD).a)) (ik := .i64) (k := ((a1.getD v7.toNat zD).a).toNat) rfl sl52 (by kernel_rfl) (.tmp (by kernel_rfl)) hg37.1 (by rw [List.length_map]; exact hg37.2) (Nat.zero_add _) rfl (by kernel_rfl) (by kernel_rfl)))) (.cons (fun σ hc => e_eq (os_plain rfl rfl (s_storeR (f := eB) (k := 0) (sz := 0) (n := 1) (r := 8) (off := 0) (s := .d) (p := [(2, .i (((a1.getD v7.toNat zD).a).toNat) 1)]) (c := zmC v6) (cs := (eB (v6.c.getD (((a1.getD v7.toNat zD).a).toNat) false))) (u := .c (.v (.bool true))) (us := [.v (.bool true)]) (c' := .pt true [.sl true 1 (v6.s.map eB), .sl true 1 (v6.t.map eI), .sl true 1 ((v6.c.set (((a1.getD v7.toNat zD).a).toNat) true).map eB)]) rfl (by kernel_rfl) (by kernel_rfl) (by kernel_rfl) rfl (by kernel_rfl) (getP_in (c' := .sl true 1 (v6.c.map eB)) rfl (getP_map (f := eB) (own := true) (xs := v6.c) (k := ((a1.getD v7.toNat zD).a).toNat) false (by have := hg37; omega))) rfl rfl rfl (Nat.le_of_ble_eq_true rfl) (by kernel_rfl) rfl rfl rfl (congrArg (fun x => C.pt true [.sl true 1 (v6.s.map eB), .sl true 1 (v6.t.map eI), .sl true 1 x]) (map_setC (f := eB) (y := true) rfl)))) (upd_junks_over (l := []))) .nil)))))))) (by kernel_rfl) ?_
          exact ⟨(r35.1, (⟨v6.s, v6.t, (v6.c.set (((a1.getD v7.toNat zD).a).toNat) true)⟩ : ZM), r35.2, 0), (Option.some.inj h).symm, of_weak (by kernel_rfl)⟩
        have h := cond_f hb h
        refine r_condF hb rfl ?_
        refine r_seq ?_
        obtain ⟨r38, hr38, h⟩ := bind_some h
        refine rr [(1, .u (.c (.sl false 4 (a1.map eD)))), (5, tB r1), (6, .u (.c (zoneC r38.1))), (8, .u (.c (zmC v6))), (9, tI v7), (10, .u (.c (.pt true [.v (.int .i64 ((a1.getD v7.toNat zD).w)), .v (.int .i64 ((a1.getD v7.toNat zD).s)), .v (.int .i64 ((a1.getD v7.toNat zD).o)), .v (.int .i64 ((a1.getD v7.toNat zD).a))]))), (11, .u (.c (.err r38.2))), (12, tI 0), (13, tB y10)] (cgt 3 [80, 81, 82] (cot 4 (os_plain rfl rfl (c_call (AC.k (ZOpen.ac (h := hr38))) ⟨_, Tryd.func20, rfl, by kernel_rfl⟩ rfl (hand_root (r := 6) (c := zoneC v5) (by kernel_rfl) (by kernel_rfl) rfl (.rd (.copy (by kernel_rfl) rfl) .nil)) rfl (by kernel_rfl))) (cgt 5 [11] .nil))) ?_
        refine r_seq ?_
        refine rr [(1, .u (.c (.sl false 4 (a1.map eD)))), (5, tB r1), (6, .u (.c (zoneC r38.1))), (8, .u (.c (zmC v6))), (9, tI v7), (10, .u (.c (.pt true [.v (.int .i64 ((a1.getD v7.toNat zD).w)), .v (.int .i64 ((a1.getD v7.toNat zD).s)), .v (.int .i64 ((a1.getD v7.toNat zD).o)), .v (.int .i64 ((a1.getD v7.toNat zD).a))]))), (11, .u (.c (.err r38.2))), (12, tI 0), (85, tB (!y10))] (cgt 2 [84, 85] .nil) ?_
        rcases Bool.eq_false_or_eq_true (!y10) with hb | hb
        · have h := cond_t hb h
          refine r_condT hb rfl ?_
          refine rr [(1, .u (.c (.sl false 4 (a1.map eD)))), (5, tB r1), (6, .u (.c (zoneC r38.1))), (8, .u (.c (zmC v6))), (9, tI v7), (11, .u (.c (.err r38.2))), (12, tI 1)] (cgt 1 [12] .nil) ?_
          exact ⟨(r38.1, v6, r38.2, 1), (Option.some.inj h).symm, of_weak (by kernel_rfl)⟩
        have h := cond_f hb h
        refine r_condF hb rfl ?_
        refine r_seq ?_
        obtain ⟨hg39, h⟩ := guard_some h
        simp only [Bool.and_eq_true, decide_eq_true_eq] at hg39
        refine r_weak (of_weak (l := [(1, .u (.c (.sl false 4 (a1.map eD)))), (5, tB r1), (6, .u (.c (zoneC r38.1))), (8, .u (.c (zmC v6))), (9, tI v7), (10, .u (.c (.pt true [.v (.int .i64 ((a1.getD v7.toNat zD).w)), .v (.int .i64 ((a1.getD v7.toNat zD).s)), .v (.int .i64 ((a1.getD v7.toNat zD).o)), .v (.int .i64 ((a1.getD v7.toNat zD).a))]))), (11, .u (.c (.err r38.2))), (12, tI 0), (85, tB (!y10))]) (by kernel_rfl)) ?_
        refine r_anyW (l := [(1, .u (.c (.sl false 4 (a1.map eD)))), (5, tB r1), (6, .u (.c (zoneC r38.1))), (8, .u (.c (zmC v6))), (9, tI v7), (10, .u (.c (.pt true [.v (.int .i64 ((a1.getD v7.toNat zD).w)), .v (.int .i64 ((a1.getD v7.toNat zD).s)), .v (.int .i64 ((a1.getD v7.toNat zD).o)), .v (.int .i64 ((a1.getD v7.toNat zD).a))]))), (11, .u (.c (.err r38.2))), (12, tI 0), (94, tB (!(v6.c.getD (((a1.getD v7.toNat zD).a).toNat) false)))]) (tab := [[], [0], [1], [2], [], [4], [3, 5], [6], [7]]) [ev [] [8] 86 (.addr 8 (.d) [] 0), ev [0] [86] 87 (.addr 8 (.d) [] 0), ev [0, 1] [87] 88 (.addr 8 (.d) [] 2), ev [0, 1, 2] [8, 88] 89 (.whole 8 (some (.d, [], 2)) 1 ((v6.c.map eB).length)), ev [] [10] 90 (.addr 10 (.d) [] 3), ev [4] [10, 90] 91 (tI ((a1.getD v7.toNat zD).a)), eu 6 [8, 89, 91] 92 (.addr 8 (.d) [(2, .i (((a1.getD v7.toNat zD).a).toNat) 1)] 0), eu 7 [8, 92] 93 (tB (v6.c.getD (((a1.getD v7.toNat zD).a).toNat) false)), eu 8 [93] 94 (tB (!(v6.c.getD (((a1.getD v7.toNat zD).a).toNat) false)))] hm (by kernel_rfl) (by kernel_rfl) (by kernel_rfl) (en (en (en (en (en (en (.cons (fun σ hc => e_put hc rfl rfl (os_plain rfl rfl (s_indexV (r := 8) (lo := 0) (n := (v6.c.map eB).length) (pl := (some (.d, [], 2))) (sz := 1) (e := ((a1.getD v7.toNat zD).a)) (ik := .i64) (k := ((a1.getD v7.toNat zD).a).toNat) rfl sl52 (by kernel_rfl) (.tmp (by kernel_rfl)) hg39.1 (by rw [List.length_map]; exact hg39.2) (Nat.zero_add _) rfl (by kernel_rfl) (by kernel_rfl)))) (.cons (fun σ hc => e_put hc rfl rfl (os_plain rfl rfl (s_load1 (x := .v (.bool (v6.c.getD (((a1.getD v7.toNat zD).a).toNat) false))) (r := 8) (off := 0) (s := .d) (p := [(2, .i (((a1.getD v7.toNat zD).a).toNat) 1)]) (c := zmC v6) (cs := (eB (v6.c.getD (((a1.getD v7.toNat zD).a).toNat) false))) rfl (oneB_ok (by kernel_rfl)) (by kernel_rfl) (by kernel_rfl) (getP_in (c' := .sl true 1 (v6.c.map eB)) rfl (getP_map (f := eB) (own := true) (xs := v6.c) (k := ((a1.getD v7.toNat zD).a).toNat) false (by have := hg39; omega))) rfl rfl rfl (by kernel_rfl)))) (en .nil))))))))) (by kernel_rfl) ?_
        rcases Bool.eq_false_or_eq_true (!(v6.c.getD (((a1.getD v7.toNat zD).a).toNat) false)) with hb | hb
        · have h := cond_t hb h
          refine r_condT hb rfl ?_
          refine rr [(1, .u (.c (.sl false 4 (a1.map eD)))), (5, tB r1), (6, .u (.c (zoneC r38.1))), (8, .u (.c (zmC v6))), (9, tI v7), (11, .u (.c (.err r38.2))), (12, tI 7)] (cgt 1 [12] .nil) ?_
          exact ⟨(r38.1, v6, r38.2, 7), (Option.some.inj h).symm, of_weak (by kernel_rfl)⟩
        have h := cond_f hb h
        refine r_condF hb rfl ?_
        obtain ⟨r40, hr40, h⟩ := bind_some h
        refine rr [(1, .u (.c (.sl false 4 (a1.map eD)))), (5, tB r1), (6, .u (.c (zoneC r38.1))), (8, .u (.c (zmC r40))), (9, tI v7), (11, .u (.c (.err r38.2))), (12, tI 0)] (cgt 3 [95, 96, 97] (cot 4 (os_plain rfl rfl (c_call (AC.k (MOpen.ac (h := hr40))) ⟨_, Tryd.func28, rfl, by kernel_rfl⟩ rfl (hand_root (r := 8) (c := zmC v6) (by kernel_rfl) (by kernel_rfl) rfl (.rd (.copy (by kernel_rfl) rfl) .nil)) rfl (by kernel_rfl))) .nil)) ?_
        exact ⟨(r38.1, r40, r38.2, 0), (Option.some.inj h).symm, of_weak (by kernel_rfl)⟩
      rintro y17v rfl
      replace h := h_y17
      replace h := elim_go h
      try dsimp only at h
      refine r_seq ?_
      obtain ⟨y41, hy41, h_y41⟩ := bind_some h
      refine r_joinC (α := Bool) (fun x => [(1, .u (.c (.sl false 4 (a1.map eD)))), (5, tB r1), (6, .u (.c (zoneC y17v.1))), (8, .u (.c (zmC y17v.2.1))), (9, tI v7), (18, tB x)]) (fun x => y41 = x) ?_ ?_
      · replace h := hy41
        unfold ZonePlays.j6 at h
        rcases Bool.eq_false_or_eq_true (y17v.2.2.2 == 0) with hb | hb
        · have h := cond_t hb h
          have hs42 := hb
          rcases Bool.eq_false_or_eq_true (y17v.2.2.1 == none) with hb | hb
          · have h := cond_t hb h
            have hs43 := hb
            refine rr [(1, .u (.c (.sl false 4 (a1.map eD)))), (5, tB r1), (6, .u (.c (zoneC y17v.1))), (8, .u (.c (zmC y17v.2.1))), (9, tI v7), (18, tB true)] (cgt 2 [223, 224] (cot 3 (os_ge (d := 225) (t := tB (y17v.2.2.2 == 0)) (t' := tB true) (by kernel_rfl) (by rw [hs42])) (cgt 6 [226, 227, 228] (cot 7 (os_ge (d := 229) (t := tB (y17v.2.2.1 == none)) (t' := tB true) (by kernel_rfl) (by rw [hs43])) (cgt 34 [230, 231, 232, 233, 234, 235, 236, 237, 238, 239, 240, 241, 242, 243, 244, 245, 246, 247, 248, 249, 250, 251, 252, 253, 254, 255, 18] .nil))))) ?_
            exact ⟨true, (Option.some.inj h).symm, of_weak (by kernel_rfl)⟩
          have h := cond_f hb h
          have hs44 := hb
          rcases Bool.eq_false_or_eq_true (y17v.2.2.2 == 1) with hb | hb
          · have h := cond_t hb h
            have hs45 := hb
            rcases Bool.eq_false_or_eq_true (y17v.2.2.1 == (some 1)) with hb | hb
            · have h := cond_t hb h
              have hs46 := hb
              refine rr [(1, .u (.c (.sl false 4 (a1.map eD)))), (5, tB r1), (6, .u (.c (zoneC y17v.1))), (8, .u (.c (zmC y17v.2.1))), (9, tI v7), (18, tB true)] (cgt 2 [223, 224] (cot 3 (os_ge (d := 225) (t := tB (y17v.2.2.2 == 0)) (t' := tB true) (by kernel_rfl) (by rw [hs42])) (cgt 6 [226, 227, 228] (cot 7 (os_ge (d := 229) (t := tB (y17v.2.2.1 == none)) (t' := tB false) (by kernel_rfl) (by rw [hs44])) (cgt 9 [230, 231] (cot 10 (os_ge (d := 232) (t := tB (y17v.2.2.2 == 1)) (t' := tB true) (by kernel_rfl) (by rw [hs45])) (cgt 11 [233] (cot 12 (os_gy rfl rfl rfl (by kernel_rfl) (s_iface (n := 1) rfl (errB_ok (by kernel_rfl)) rfl (by kernel_rfl) rfl (by kernel_rfl))) (cgt 15 [235, 236, 237] (cot 16 (os_ge (d := 238) (t := tB (y17v.2.2.1 == (some 1))) (t' := tB true) (by kernel_rfl) (by rw [hs46])) (cgt 34 [239, 240, 241, 242, 243, 244, 245, 246, 247, 248, 249, 250, 251, 252, 253, 254, 255, 18] .nil))))))))))) ?_
              exact ⟨true, (Option.some.inj h).symm, of_weak (by kernel_rfl)⟩
            have h := cond_f hb h
            have hs47 := hb
            rcases Bool.eq_false_or_eq_true (y17v.2.2.2 == 5) with hb | hb
            · have h := cond_t hb h
              have hs48 := hb
              rcases Bool.eq_false_or_eq_true (y17v.2.2.1 == (some 5)) with hb | hb
              · have h := cond_t hb h
                have hs49 := hb
                refine rr [(1, .u (.c (.sl false 4 (a1.map eD)))), (5, tB r1), (6, .u (.c (zoneC y17v.1))), (8, .u (.c (zmC y17v.2.1))), (9, tI v7), (18, tB true)] (cgt 2 [223, 224] (cot 3 (os_ge (d := 225) (t := tB (y17v.2.2.2 == 0)) (t' := tB true) (by kernel_rfl) (by rw [hs42])) (cgt 6 [226, 227, 228] (cot 7 (os_ge (d := 229) (t := tB (y17v.2.2.1 == none)) (t' := tB false) (by kernel_rfl) (by rw [hs44])) (cgt 9 [230, 231] (cot 10 (os_ge (d := 232) (t := tB (y17v.2.2.2 == 1)) (t' := tB true) (by kernel_rfl) (by rw [hs45])) (cgt 11 [233] (cot 12 (os_gy rfl rfl rfl (by kernel_rfl) (s_iface (n := 1) rfl (errB_ok (by kernel_rfl)) rfl (by kernel_rfl) rfl (by kernel_rfl))) (cgt 15 [235, 236, 237] (cot 16 (os_ge (d := 238) (t := tB (y17v.2.2.1 == (some 1))) (t' := tB false) (by kernel_rfl) (by rw [hs47])) (cgt 18 [239, 240] (cot 19 (os_ge (d := 241) (t := tB (y17v.2.2.2 == 5)) (t' := tB true) (by kernel_rfl) (by rw [hs48])) (cgt 20 [242] (cot 21 (os_gy rfl rfl rfl (by kernel_rfl) (s_iface (n := 5) rfl (errB_ok (by kernel_rfl)) rfl (by kernel_rfl) rfl (by kernel_rfl))) (cgt 24 [244, 245, 246] (cot 25 (os_ge (d := 247) (t := tB (y17v.2.2.1 == (some 5))) (t' := tB true) (by kernel_rfl) (by rw [hs49])) (cgt 34 [248, 249, 250, 251, 252, 253, 254, 255, 18] .nil))))))))))))))))) ?_
                exact ⟨true, (Option.some.inj h).symm, of_weak (by kernel_rfl)⟩
              have h := cond_f hb h
              have hs50 := hb
              rcases Bool.eq_false_or_eq_true (y17v.2.2.2 == 7) with hb | hb
              · have h := cond_t hb h
                have hs51 := hb
                refine rr [(1, .u (.c (.sl false 4 (a1.map eD)))), (5, tB r1), (6, .u (.c (zoneC y17v.1))), (8, .u (.c (zmC y17v.2.1))), (9, tI v7), (18, tB (y17v.2.2.1 == (some 7)))] (cgt 2 [223, 224] (cot 3 (os_ge (d := 225) (t := tB (y17v.2.2.2 == 0)) (t' := tB true) (by kernel_rfl) (by rw [hs42])) (cgt 6 [226, 227, 228] (cot 7 (os_ge (d := 229) (t := tB (y17v.2.2.1 == none)) (t' := tB false) (by kernel_rfl) (by rw [hs44])) (cgt 9 [230, 231] (cot 10 (os_ge (d := 232) (t := tB (y17v.2.2.2 == 1)) (t' := tB true) (by kernel_rfl) (by rw [hs45])) (cgt 11 [233] (cot 12 (os_gy rfl rfl rfl (by kernel_rfl) (s_iface (n := 1) rfl (errB_ok (by kernel_rfl)) rfl (by kernel_rfl) rfl (by kernel_rfl))) (cgt 15 [235, 236, 237] (cot 16 (os_ge (d := 238) (t := tB (y17v.2.2.1 == (some 1))) (t' := tB false) (by kernel_rfl) (by rw [hs47])) (cgt 18 [239, 240] (cot 19 (os_ge (d := 241) (t := tB (y17v.2.2.2 == 5)) (t' := tB true) (by kernel_rfl) (by rw [hs48])) (cgt 20 [242] (cot 21 (os_gy rfl rfl rfl (by kernel_rfl) (s_iface (n := 5) rfl (errB_ok (by kernel_rfl)) rfl (by kernel_rfl) rfl (by kernel_rfl))) (cgt 24 [244, 245, 246] (cot 25 (os_ge (d := 247) (t := tB (y17v.2.2.1 == (some 5))) (t' := tB false) (by kernel_rfl) (by rw [hs50])) (cgt 27 [248, 249] (cot 28 (os_ge (d := 250) (t := tB (y17v.2.2.2 == 7)) (t' := tB true) (by kernel_rfl) (by rw [hs51])) (cgt 29 [251] (cot 30 (os_gy rfl rfl rfl (by kernel_rfl) (s_iface (n := 7) rfl (errB_ok (by kernel_rfl)) rfl (by kernel_rfl) rfl (by kernel_rfl))) (cgt 34 [253, 254, 255, 18] .nil))))))))))))))))))))) ?_
                exact ⟨y17v.2.2.1 == (some 7), (Option.some.inj h).symm, of_weak (by kernel_rfl)⟩
              have h := cond_f hb h
              have hs52 := hb
              refine rr [(1, .u (.c (.sl false 4 (a1.map eD)))), (5, tB r1), (6, .u (.c (zoneC y17v.1))), (8, .u (.c (zmC y17v.2.1))), (9, tI v7), (18, tB false)] (cgt 2 [223, 224] (cot 3 (os_ge (d := 225) (t := tB (y17v.2.2.2 == 0)) (t' := tB true) (by kernel_rfl) (by rw [hs42])) (cgt 6 [226, 227, 228] (cot 7 (os_ge (d := 229) (t := tB (y17v.2.2.1 == none)) (t' := tB false) (by kernel_rfl) (by rw [hs44])) (cgt 9 [230, 231] (cot 10 (os_ge (d := 232) (t := tB (y17v.2.2.2 == 1)) (t' := tB true) (by kernel_rfl) (by rw [hs45])) (cgt 11 [233] (cot 12 (os_gy rfl rfl rfl (by kernel_rfl) (s_iface (n := 1) rfl (errB_ok (by kernel_rfl)) rfl (by kernel_rfl) rfl (by kernel_rfl))) (cgt 15 [235, 236, 237] (cot 16 (os_ge (d := 238) (t := tB (y17v.2.2.1 == (some 1))) (t' := tB false) (by kernel_rfl) (by rw [hs47])) (cgt 18 [239, 240] (cot 19 (os_ge (d := 241) (t := tB (y17v.2.2.2 == 5)) (t' := tB true) (by kernel_rfl) (by rw [hs48])) (cgt 20 [242] (cot 21 (os_gy rfl rfl rfl (by kernel_rfl) (s_iface (n := 5) rfl (errB_ok (by kernel_rfl)) rfl (by kernel_rfl) rfl (by kernel_rfl))) (cgt 24 [244, 245, 246] (cot 25 (os_ge (d := 247) (t := tB (y17v.2.2.1 == (some 5))) (t' := tB false) (by kernel_rfl) (by rw [hs50])) (cgt 27 [248, 249] (cot 28 (os_ge (d := 250) (t := tB (y17v.2.2.2 == 7)) (t' := tB false) (by kernel_rfl) (by rw [hs52])) (cgt 34 [251, 252, 253, 254, 255, 18] .nil))))))))))))))))))) ?_
              exact ⟨false, (Option.some.inj h).symm, of_weak (by kernel_rfl)⟩
            have h := cond_f hb h
            have hs53 := hb
            rcases Bool.eq_false_or_eq_true (y17v.2.2.2 == 7) with hb | hb
            · have h := cond_t hb h
              have hs54 := hb
              refine rr [(1, .u (.c (.sl false 4 (a1.map eD)))), (5, tB r1), (6, .u (.c (zoneC y17v.1))), (8, .u (.c (zmC y17v.2.1))), (9, tI v7), (18, tB (y17v.2.2.1 == (some 7)))] (cgt 2 [223, 224] (cot 3 (os_ge (d := 225) (t := tB (y17v.2.2.2 == 0)) (t' := tB true) (by kernel_rfl) (by rw [hs42])) (cgt 6 [226, 227, 228] (cot 7 (os_ge (d := 229) (t := tB (y17v.2.2.1 == none)) (t' := tB false) (by kernel_rfl) (by rw [hs44])) (cgt 9 [230, 231] (cot 10 (os_ge (d := 232) (t := tB (y17v.2.2.2 == 1)) (t' := tB true) (by kernel_rfl) (by rw [hs45])) (cgt 11 [233] (cot 12 (os_gy rfl rfl rfl (by kernel_rfl) (s_iface (n := 1) rfl (errB_ok (by kernel_rfl)) rfl (by kernel_rfl) rfl (by kernel_rfl))) (cgt 15 [235, 236, 237] (cot 16 (os_ge (d := 238) (t := tB (y17v.2.2.1 == (some 1))) (t' := tB false) (by kernel_rfl) (by rw [hs47])) (cgt 18 [239, 240] (cot 19 (os_ge (d := 241) (t := tB (y17v.2.2.2 == 5)) (t' := tB false) (by kernel_rfl) (by rw [hs53])) (cgt 27 [242, 243, 244, 245, 246, 247, 248, 249] (cot 28 (os_ge (d := 250) (t := tB (y17v.2.2.2 == 7)) (t' := tB true) (by kernel_rfl) (by rw [hs54])) (cgt 29 [251] (cot 30 (os_gy rfl rfl rfl (by kernel_rfl) (s_iface (n := 7) rfl (errB_ok (by kernel_rfl)) rfl (by kernel_rfl) rfl (by kernel_rfl))) (cgt 34 [253, 254, 255, 18] .nil))))))))))))))))) ?_
              exact ⟨y17v.2.2.1 == (some 7), (Option.some.inj h).symm, of_weak (by kernel_rfl)⟩
            have h := cond_f hb h
            have hs55 := hb
            refine rr [(1, .u (.c (.sl false 4 (a1.map eD)))), (5, tB r1), (6, .u (.c (zoneC y17v.1))), (8, .u (.c (zmC y17v.2.1))), (9, tI v7), (18, tB false)] (cgt 2 [223, 224] (cot 3 (os_ge (d := 225) (t := tB (y17v.2.2.2 == 0)) (t' := tB true) (by kernel_rfl) (by rw [hs42])) (cgt 6 [226, 227, 228] (cot 7 (os_ge (d := 229) (t := tB (y17v.2.2.1 == none)) (t' := tB false) (by kernel_rfl) (by rw [hs44])) (cgt 9 [230, 231] (cot 10 (os_ge (d := 232) (t := tB (y17v.2.2.2 == 1)) (t' := tB true) (by kernel_rfl) (by rw [hs45])) (cgt 11 [233] (cot 12 (os_gy rfl rfl rfl (by kernel_rfl) (s_iface (n := 1) rfl (errB_ok (by kernel_rfl)) rfl (by kernel_rfl) rfl (by kernel_rfl))) (cgt 15 [235, 236, 237] (cot 16 (os_ge (d := 238) (t := tB (y17v.2.2.1 == (some 1))) (t' := tB false) (by kernel_rfl) (by rw [hs47])) (cgt 18 [239, 240] (cot 19 (os_ge (d := 241) (t := tB (y17v.2.2.2 == 5)) (t' := tB false) (by kernel_rfl) (by rw [hs53])) (cgt 27 [242, 243, 244, 245, 246, 247, 248, 249] (cot 28 (os_ge (d := 250) (t := tB (y17v.2.2.2 == 7)) (t' := tB false) (by kernel_rfl) (by rw [hs55])) (cgt 34 [251, 252, 253, 254, 255, 18] .nil))))))))))))))) ?_
            exact ⟨false, (Option.some.inj h).symm, of_weak (by kernel_rfl)⟩
          have h := cond_f hb h
          have hs56 := hb
          rcases Bool.eq_false_or_eq_true (y17v.2.2.2 == 5) with hb | hb
          · have h := cond_t hb h
            have hs57 := hb
            rcases Bool.eq_false_or_eq_true (y17v.2.2.1 == (some 5)) with hb | hb
            · have h := cond_t hb h
              have hs58 := hb
              refine rr [(1, .u (.c (.sl false 4 (a1.map eD)))), (5, tB r1), (6, .u (.c (zoneC y17v.1))), (8, .u (.c (zmC y17v.2.1))), (9, tI v7), (18, tB true)] (cgt 2 [223, 224] (cot 3 (os_ge (d := 225) (t := tB (y17v.2.2.2 == 0)) (t' := tB true) (by kernel_rfl) (by rw [hs42])) (cgt 6 [226, 227, 228] (cot 7 (os_ge (d := 229) (t := tB (y17v.2.2.1 == none)) (t' := tB false) (by kernel_rfl) (by rw [hs44])) (cgt 9 [230, 231] (cot 10 (os_ge (d := 232) (t := tB (y17v.2.2.2 == 1)) (t' := tB false) (by kernel_rfl) (by rw [hs56])) (cgt 18 [233, 234, 235, 236, 237, 238, 239, 240] (cot 19 (os_ge (d := 241) (t := tB (y17v.2.2.2 == 5)) (t' := tB true) (by kernel_rfl) (by rw [hs57])) (cgt 20 [242] (cot 21 (os_gy rfl rfl rfl (by kernel_rfl) (s_iface (n := 5) rfl (errB_ok (by kernel_rfl)) rfl (by kernel_rfl) rfl (by kernel_rfl))) (cgt 24 [244, 245, 246] (cot 25 (os_ge (d := 247) (t := tB (y17v.2.2.1 == (some 5))) (t' := tB true) (by kernel_rfl) (by rw [hs58])) (cgt 34 [248, 249, 250, 251, 252, 253, 254, 255, 18] .nil))))))))))))) ?_
              exact ⟨true, (Option.some.inj h).symm, of_weak (by kernel_rfl)⟩
            have h := cond_f hb h
            have hs59 := hb
            rcases Bool.eq_false_or_eq_true (y17v.2.2.2 == 7) with hb | hb
            · have h := cond_t hb h
              have hs60 := hb
              refine rr [(1, .u (.c (.sl false 4 (a1.map eD)))), (5, tB r1), (6, .u (.c (zoneC y17v.1))), (8, .u (.c (zmC y17v.2.1))), (9, tI v7), (18, tB (y17v.2.2.1 == (some 7)))] (cgt 2 [223, 224] (cot 3 (os_ge (d := 225) (t := tB (y17v.2.2.2 == 0)) (t' := tB true) (by kernel_rfl) (by rw [hs42])) (cgt 6 [226, 227, 228] (cot 7 (os_ge (d := 229) (t := tB (y17v.2.2.1 == none)) (t' := tB false) (by kernel_rfl) (by rw [hs44])) (cgt 9 [230, 231] (cot 10 (os_ge (d := 232) (t := tB (y17v.2.2.2 == 1)) (t' := tB false) (by kernel_rfl) (by rw [hs56])) (cgt 18 [233, 234, 235, 236, 237, 238, 239, 240] (cot 19 (os_ge (d := 241) (t := tB (y17v.2.2.2 == 5)) (t' := tB true) (by kernel_rfl) (by rw [hs57])) (cgt 20 [242] (cot 21 (os_gy rfl rfl rfl (by kernel_rfl) (s_iface (n := 5) rfl (errB_ok (by kernel_rfl)) rfl (by kernel_rfl) rfl (by kernel_rfl))) (cgt 24 [244, 245, 246] (cot 25 (os_ge (d := 247) (t := tB (y17v.2.2.1 == (some 5))) (t' := tB false) (by kernel_rfl) (by rw [hs59])) (cgt 27 [248, 249] (cot 28 (os_ge (d := 250) (t := tB (y17v.2.2.2 == 7)) (t' := tB true) (by kernel_rfl) (by rw [hs60])) (cgt 29 [251] (cot 30 (os_gy rfl rfl rfl (by kernel_rfl) (s_iface (n := 7) rfl (errB_ok (by kernel_rfl)) rfl (by kernel_rfl) rfl (by kernel_rfl))) (cgt 34 [253, 254, 255, 18] .nil))))))))))))))))) ?_
              exact ⟨y17v.2.2.1 == (some 7), (Option.some.inj h).symm, of_weak (by kernel_rfl)⟩
            have h := cond_f hb h
            have hs61 := hb
            refine rr [(1, .u (.c (.sl false 4 (a1.map eD)))), (5, tB r1), (6, .u (.c (zoneC y17v.1))), (8, .u (.c (zmC y17v.2.1))), (9, tI v7), (18, tB false)] (cgt 2 [223, 224] (cot 3 (os_ge (d := 225) (t := tB (y17v.2.2.2 == 0)) (t' := tB true) (by kernel_rfl) (by rw [hs42])) (cgt 6 [226, 227, 228] (cot 7 (os_ge (d := 229) (t := tB (y17v.2.2.1 == none)) (t' := tB false) (by kernel_rfl) (by rw [hs44])) (cgt 9 [230, 231] (cot 10 (os_ge (d := 232) (t := tB (y17v.2.2.2 == 1)) (t' := tB false) (by kernel_rfl) (by rw [hs56])) (cgt 18 [233, 234, 235, 236, 237, 238, 239, 240] (cot 19 (os_ge (d := 241) (t := tB (y17v.2.2.2 == 5)) (t' := tB true) (by kernel_rfl) (by rw [hs57])) (cgt 20 [242] (cot 21 (os_gy rfl rfl rfl (by kernel_rfl) (s_iface (n := 5) rfl (errB_ok (by kernel_rfl)) rfl (by kernel_rfl) rfl (by kernel_rfl))) (cgt 24 [244, 245, 246] (cot 25 (os_ge (d := 247) (t := tB (y17v.2.2.1 == (some 5))) (t' := tB false) (by kernel_rfl) (by rw [hs59])) (cgt 27 [248, 249] (cot 28 (os_ge (d := 250) (t := tB (y17v.2.2.2 == 7)) (t' := tB false) (by kernel_rfl) (by rw [hs61])) (cgt 34 [251, 252, 253, 254, 255, 18] .nil))))))))))))))) ?_
            exact ⟨false, (Option.some.inj h).symm, of_weak (by kernel_rfl)⟩
          have h := cond_f hb h
          have hs62 := hb
          rcases Bool.eq_false_or_eq_true (y17v.2.2.2 == 7) with hb | hb
          · have h := cond_t hb h
            have hs63 := hb
            refine rr [(1, .u (.c (.sl false 4 (a1.map eD)))), (5, tB r1), (6, .u (.c (zoneC y17v.1))), (8, .u (.c (zmC y17v.2.1))), (9, tI v7), (18, tB (y17v.2.2.1 == (some 7)))] (cgt 2 [223, 224] (cot 3 (os_ge (d := 225) (t := tB (y17v.2.2.2 == 0)) (t' := tB true) (by kernel_rfl) (by rw [hs42])) (cgt 6 [226, 227, 228] (cot 7 (os_ge (d := 229) (t := tB (y17v.2.2.1 == none)) (t' := tB false) (by kernel_rfl) (by rw [hs44])) (cgt 9 [230, 231] (cot 10 (os_ge (d := 232) (t := tB (y17v.2.2.2 == 1)) (t' := tB false) (by kernel_rfl) (by rw [hs56])) (cgt 18 [233, 234, 235, 236, 237, 238, 239, 240] (cot 19 (os_ge (d := 241) (t := tB (y17v.2.2.2 == 5)) (t' := tB false) (by kernel_rfl) (by rw [hs62])) (cgt 27 [242, 243, 244, 245, 246, 247, 248, 249] (cot 28 (os_ge (d := 250) (t := tB (y17v.2.2.2 == 7)) (t' := tB true) (by kernel_rfl) (by rw [hs63])) (cgt 29 [251] (cot 30 (os_gy rfl rfl rfl (by kernel_rfl) (s_iface (n := 7) rfl (errB_ok (by kernel_rfl)) rfl (by kernel_rfl) rfl (by kernel_rfl))) (cgt 34 [253, 254, 255, 18] .nil))))))))))))) ?_
            exact ⟨y17v.2.2.1 == (some 7), (Option.some.inj h).symm, of_weak (by kernel_rfl)⟩
          have h := cond_f hb h
          have hs64 := hb
          refine rr [(1, .u (.c (.sl false 4 (a1.map eD)))), (5, tB r1), (6, .u (.c (zoneC y17v.1))), (8, .u (.c (zmC y17v.2.1))), (9, tI v7), (18, tB false)] (cgt 2 [223, 224] (cot 3 (os_ge (d := 225) (t := tB (y17v.2.2.2 == 0)) (t' := tB true) (by kernel_rfl) (by rw [hs42])) (cgt 6 [226, 227, 228] (cot 7 (os_ge (d := 229) (t := tB (y17v.2.2.1 == none)) (t' := tB false) (by kernel_rfl) (by rw [hs44])) (cgt 9 [230, 231] (cot 10 (os_ge (d := 232) (t := tB (y17v.2.2.2 == 1)) (t' := tB false) (by kernel_rfl) (by rw [hs56])) (cgt 18 [233, 234, 235, 236, 237, 238, 239, 240] (cot 19 (os_ge (d := 241) (t := tB (y17v.2.2.2 == 5)) (t' := tB false) (by kernel_rfl) (by rw [hs62])) (cgt 27 [242, 243, 244, 245, 246, 247, 248, 249] (cot 28 (os_ge (d := 250) (t := tB (y17v.2.2.2 == 7)) (t' := tB false) (by kernel_rfl) (by rw [hs64])) (cgt 34 [251, 252, 253, 254, 255, 18] .nil))))))))))) ?_
          exact ⟨false, (Option.some.inj h).symm, of_weak (by kernel_rfl)⟩
        have h := cond_f hb h
        have hs65 := hb
        rcases Bool.eq_false_or_eq_true (y17v.2.2.2 == 1) with hb | hb
        · have h := cond_t hb h
          have hs66 := hb
          rcases Bool.eq_false_or_eq_true (y17v.2.2.1 == (some 1)) with hb | hb
          · have h := cond_t hb h
            have hs67 := hb
            refine rr [(1, .u (.c (.sl false 4 (a1.map eD)))), (5, tB r1), (6, .u (.c (zoneC y17v.1))), (8, .u (.c (zmC y17v.2.1))), (9, tI v7), (18, tB true)] (cgt 2 [223, 224] (cot 3 (os_ge (d := 225) (t := tB (y17v.2.2.2 == 0)) (t' := tB false) (by kernel_rfl) (by rw [hs65])) (cgt 9 [226, 227, 228, 229, 230, 231] (cot 10 (os_ge (d := 232) (t := tB (y17v.2.2.2 == 1)) (t' := tB true) (by kernel_rfl) (by rw [hs66])) (cgt 11 [233] (cot 12 (os_gy rfl rfl rfl (by kernel_rfl) (s_iface (n := 1) rfl (errB_ok (by kernel_rfl)) rfl (by kernel_rfl) rfl (by kernel_rfl))) (cgt 15 [235, 236, 237] (cot 16 (os_ge (d := 238) (t := tB (y17v.2.2.1 == (some 1))) (t' := tB true) (by kernel_rfl) (by rw [hs67])) (cgt 34 [239, 240, 241, 242, 243, 244, 245, 246, 247, 248, 249, 250, 251, 252, 253, 254, 255, 18] .nil))))))))) ?_
            exact ⟨true, (Option.some.inj h).symm, of_weak (by kernel_rfl)⟩
          have h := cond_f hb h
          have hs68 := hb
          rcases Bool.eq_false_or_eq_true (y17v.2.2.2 == 5) with hb | hb
          · have h := cond_t hb h
            have hs69 := hb
            rcases Bool.eq_false_or_eq_true (y17v.2.2.1 == (some 5)) with hb | hb
            · have h := cond_t hb h
              have hs70 := hb
              refine rr [(1, .u (.c (.sl false 4 (a1.map eD)))), (5, tB r1), (6, .u (.c (zoneC y17v.1))), (8, .u (.c (zmC y17v.2.1))), (9, tI v7), (18, tB true)] (cgt 2 [223, 224] (cot 3 (os_ge (d := 225) (t := tB (y17v.2.2.2 == 0)) (t' := tB false) (by kernel_rfl) (by rw [hs65])) (cgt 9 [226, 227, 228, 229, 230, 231] (cot 10 (os_ge (d := 232) (t := tB (y17v.2.2.2 == 1)) (t' := tB true) (by kernel_rfl) (by rw [hs66])) (cgt 11 [233] (cot 12 (os_gy rfl rfl rfl (by kernel_rfl) (s_iface (n := 1) rfl (errB_ok (by kernel_rfl)) rfl (by kernel_rfl) rfl (by kernel_rfl))) (cgt 15 [235, 236, 237] (cot 16 (os_ge (d := 238) (t := tB (y17v.2.2.1 == (some 1))) (t' := tB false) (by kernel_rfl) (by rw [hs68])) (cgt 18 [239, 240] (cot 19 (os_ge (d := 241) (t := tB (y17v.2.2.2 == 5)) (t' := tB true) (by kernel_rfl) (by rw [hs69])) (cgt 20 [242] (cot 21 (os_gy rfl rfl rfl (by kernel_rfl) (s_iface (n := 5) rfl (errB_ok (by kernel_rfl)) rfl (by kernel_rfl) rfl (by kernel_rfl))) (cgt 24 [244, 245, 246] (cot 25 (os_ge (d := 247) (t := tB (y17v.2.2.1 == (some 5))) (t' := tB true) (by kernel_rfl) (by rw [hs70])) (cgt 34 [248, 249, 250, 251, 252, 253, 254, 255, 18] .nil))))))))))))))) ?_
              exact ⟨true, (Option.some.inj h).symm, of_weak (by kernel_rfl)⟩
            have h := cond_f hb h
            have hs71 := hb
            rcases Bool.eq_false_or_eq_true (y17v.2.2.2 == 7) with hb | hb
            · have h := cond_t hb h
              have hs72 := hb
              refine rr [(1, .u (.c (.sl false 4 (a1.map eD)))), (5, tB r1), (6, .u (.c (zoneC y17v.1))), (8, .u (.c (zmC y17v.2.1))), (9, tI v7), (18, tB (y17v.2.2.1 == (some 7)))] (cgt 2 [223, 224] (cot 3 (os_ge (d := 225) (t := tB (y17v.2.2.2 == 0)) (t' := tB false) (by kernel_rfl) (by rw [hs65])) (cgt 9 [226, 227, 228, 229, 230, 231] (cot 10 (os_ge (d := 232) (t := tB (y17v.2.2.2 == 1)) (t' := tB true) (by kernel_rfl) (by rw [hs66])) (cgt 11 [233] (cot 12 (os_gy rfl rfl rfl (by kernel_rfl) (s_iface (n := 1) rfl (errB_ok (by kernel_rfl)) rfl (by kernel_rfl) rfl (by kernel_rfl))) (cgt 15 [235, 236, 237] (cot 16 (os_ge (d := 238) (t := tB (y17v.2.2.1 == (some 1))) (t' := tB false) (by kernel_rfl) (by rw [hs68])) (cgt 18 [239, 240] (cot 19 (os_ge (d := 241) (t := tB (y17v.2.2.2 == 5)) (t' := tB true) (by kernel_rfl) (by rw [hs69])) (cgt 20 [242] (cot 21 (os_gy rfl rfl rfl (by kernel_rfl) (s_iface (n := 5) rfl (errB_ok (by kernel_rfl)) rfl (by kernel_rfl) rfl (by kernel_rfl))) (cgt 24 [244, 245, 246] (cot 25 (os_ge (d := 247) (t := tB (y17v.2.2.1 == (some 5))) (t' := tB false) (by kernel_rfl) (by rw [hs71])) (cgt 27 [248, 249] (cot 28 (os_ge (d := 250) (t := tB (y17v.2.2.2 == 7)) (t' := tB true) (by kernel_rfl) (by rw [hs72])) (cgt 29 [251] (cot 30 (os_gy rfl rfl rfl (by kernel_rfl) (s_iface (n := 7) rfl (errB_ok (by kernel_rfl)) rfl (by kernel_rfl) rfl (by kernel_rfl))) (cgt 34 [253, 254, 255, 18] .nil))))))))))))))))))) ?_
              exact ⟨y17v.2.2.1 == (some 7), (Option.some.inj h).symm, of_weak (by kernel_rfl)⟩
            have h := cond_f hb h
            have hs73 := hb
            refine rr [(1, .u (.c (.sl false 4 (a1.map eD)))), (5, tB r1), (6, .u (.c (zoneC y17v.1))), (8, .u (.c (zmC y17v.2.1))), (9, tI v7), (18, tB false)] (cgt 2 [223, 224] (cot 3 (os_ge (d := 225) (t := tB (y17v.2.2.2 == 0)) (t' := tB false) (by kernel_rfl) (by rw [hs65])) (cgt 9 [226, 227, 228, 229, 230, 231] (cot 10 (os_ge (d := 232) (t := tB (y17v.2.2.2 == 1)) (t' := tB true) (by kernel_rfl) (by rw [hs66])) (cgt 11 [233] (cot 12 (os_gy rfl rfl rfl (by kernel_rfl) (s_iface (n := 1) rfl (errB_ok (by kernel_rfl)) rfl (by kernel_rfl) rfl (by kernel_rfl))) (cgt 15 [235, 236, 237] (cot 16 (os_ge (d := 238) (t := tB (y17v.2.2.1 == (some 1))) (t' := tB false) (by kernel_rfl) (by rw [hs68])) (cgt 18 [239, 240] (cot 19 (os_ge (d := 241) (t := tB (y17v.2.2.2 == 5)) (t' := tB true) (by kernel_rfl) (by rw [hs69])) (cgt 20 [242] (cot 21 (os_gy rfl rfl rfl (by kernel_rfl) (s_iface (n := 5) rfl (errB_ok (by kernel_rfl)) rfl (by kernel_rfl) rfl (by kernel_rfl))) (cgt 24 [244, 245, 246] (cot 25 (os_ge (d := 247) (t := tB (y17v.2.2.1 == (some 5))) (t' := tB false) (by kernel_rfl) (by rw [hs71])) (cgt 27 [248, 249] (cot 28 (os_ge (d := 250) (t := tB (y17v.2.2.2 == 7)) (t' := tB false) (by kernel_rfl) (by rw [hs73])) (cgt 34 [251, 252, 253, 254, 255, 18] .nil))))))))))))))))) ?_
            exact ⟨false, (Option.some.inj h).symm, of_weak (by kernel_rfl)⟩
          have h := cond_f hb h
          have hs74 := hb
          rcases Bool.eq_false_or_eq_true (y17v.2.2.2 == 7) with hb | hb
          · have h := cond_t hb h
            have hs75 := hb
            refine rr [(1, .u (.c (.sl false 4 (a1.map eD)))), (5, tB r1), (6, .u (.c (zoneC y17v.1))), (8, .u (.c (zmC y17v.2.1))), (9, tI v7), (18, tB (y17v.2.2.1 == (some 7)))] (cgt 2 [223, 224] (cot 3 (os_ge (d := 225) (t := tB (y17v.2.2.2 == 0)) (t' := tB false) (by kernel_rfl) (by rw [hs65])) (cgt 9 [226, 227, 228, 229, 230, 231] (cot 10 (os_ge (d := 232) (t := tB (y17v.2.2.2 == 1)) (t' := tB true) (by kernel_rfl) (by rw [hs66])) (cgt 11 [233] (cot 12 (os_gy rfl rfl rfl (by kernel_rfl) (s_iface (n := 1) rfl (errB_ok (by kernel_rfl)) rfl (by kernel_rfl) rfl (by kernel_rfl))) (cgt 15 [235, 236, 237] (cot 16 (os_ge (d := 238) (t := tB (y17v.2.2.1 == (some 1))) (t' := tB false) (by kernel_rfl) (by rw [hs68])) (cgt 18 [239, 240] (cot 19 (os_ge (d := 241) (t := tB (y17v.2.2.2 == 5)) (t' := tB false) (by kernel_rfl) (by rw [hs74])) (cgt 27 [242, 243, 244, 245, 246, 247, 248, 249] (cot 28 (os_ge (d := 250) (t := tB (y17v.2.2.2 == 7)) (t' := tB true) (by kernel_rfl) (by rw [hs75])) (cgt 29 [251] (cot 30 (os_gy rfl rfl rfl (by kernel_rfl) (s_iface (n := 7) rfl (errB_ok (by kernel_rfl)) rfl (by kernel_rfl) rfl (by kernel_rfl))) (cgt 34 [253, 254, 255, 18] .nil))))))))))))))) ?_
            exact ⟨y17v.2.2.1 == (some 7), (Option.some.inj h).symm, of_weak (by kernel_rfl)⟩
          have h := cond_f hb h
          have hs76 := hb
          refine rr [(1, .u (.c (.sl false 4 (a1.map eD)))), (5, tB r1), (6, .u (.c (zoneC y17v.1))), (8, .u (.c (zmC y17v.2.1))), (9, tI v7), (18, tB false)] (cgt 2 [223, 224] (cot 3 (os_ge (d := 225) (t := tB (y17v.2.2.2 == 0)) (t' := tB false) (by kernel_rfl) (by rw [hs65])) (cgt 9 [226, 227, 228, 229, 230, 231] (cot 10 (os_ge (d := 232) (t := tB (y17v.2.2.2 == 1)) (t' := tB true) (by kernel_rfl) (by rw [hs66])) (cgt 11 [233] (cot 12 (os_gy rfl rfl rfl (by kernel_rfl) (s_iface (n := 1) rfl (errB_ok (by kernel_rfl)) rfl (by kernel_rfl) rfl (by kernel_rfl))) (cgt 15 [235, 236, 237] (cot 16 (os_ge (d := 238) (t := tB (y17v.2.2.1 == (some 1))) (t' := tB false) (by kernel_rfl) (by rw [hs68])) (cgt 18 [239, 240] (cot 19 (os_ge (d := 241) (t := tB (y17v.2.2.2 == 5)) (t' := tB false) (by kernel_rfl) (by rw [hs74])) (cgt 27 [242, 243, 244, 245, 246, 247, 248, 249] (cot 28 (os_ge (d := 250) (t := tB (y17v.2.2.2 == 7)) (t' := tB false) (by kernel_rfl) (by rw [hs76])) (cgt 34 [251, 252, 253, 254, 255, 18] .nil))))))))))))) ?_
          exact ⟨false, (Option.some.inj h).symm, of_weak (by kernel_rfl)⟩
        have h := cond_f hb h
        have hs77 := hb
        rcases Bool.eq_false_or_eq_true (y17v.2.2.2 == 5) with hb | hb
        · have h := cond_t hb h
          have hs78 := hb
          rcases Bool.eq_false_or_eq_true (y17v.2.2.1 == (some 5)) with hb | hb
          · have h := cond_t hb h
            have hs79 := hb
            refine rr [(1, .u (.c (.sl false 4 (a1.map eD)))), (5, tB r1), (6, .u (.c (zoneC y17v.1))), (8, .u (.c (zmC y17v.2.1))), (9, tI v7), (18, tB true)] (cgt 2 [223, 224] (cot 3 (os_ge (d := 225) (t := tB (y17v.2.2.2 == 0)) (t' := tB false) (by kernel_rfl) (by rw [hs65])) (cgt 9 [226, 227, 228, 229, 230, 231] (cot 10 (os_ge (d := 232) (t := tB (y17v.2.2.2 == 1)) (t' := tB false) (by kernel_rfl) (by rw [hs77])) (cgt 18 [233, 234, 235, 236, 237, 238, 239, 240] (cot 19 (os_ge (d := 241) (t := tB (y17v.2.2.2 == 5)) (t' := tB true) (by kernel_rfl) (by rw [hs78])) (cgt 20 [242] (cot 21 (os_gy rfl rfl rfl (by kernel_rfl) (s_iface (n := 5) rfl (errB_ok (by kernel_rfl)) rfl (by kernel_rfl) rfl (by kernel_rfl))) (cgt 24 [244, 245, 246] (cot 25 (os_ge (d := 247) (t := tB (y17v.2.2.1 == (some 5))) (t' := tB true) (by kernel_rfl) (by rw [hs79])) (cgt 34 [248, 249, 250, 251, 252, 253, 254, 255, 18] .nil))))))))))) ?_
            exact ⟨true, (Option.some.inj h).symm, of_weak (by kernel_rfl)⟩
          have h := cond_f hb h
          have hs80 := hb
          rcases Bool.eq_false_or_eq_true (y17v.2.2.2 == 7) with hb | hb
          · have h := cond_t hb h
            have hs81 := hb
            refine rr [(1, .u (.c (.sl false 4 (a1.map eD)))), (5, tB r1), (6, .u (.c (zoneC y17v.1))), (8, .u (.c (zmC y17v.2.1))), (9, tI v7), (18, tB (y17v.2.2.1 == (some 7)))] (cgt 2 [223, 224] (cot 3 (os_ge (d := 225) (t := tB (y17v.2.2.2 == 0)) (t' := tB false) (by kernel_rfl) (by rw [hs65])) (cgt 9 [226, 227, 228, 229, 230, 231] (cot 10 (os_ge (d := 232) (t := tB (y17v.2.2.2 == 1)) (t' := tB false) (by kernel_rfl) (by rw [hs77])) (cgt 18 [233, 234, 235, 236, 237, 238, 239, 240] (cot 19 (os_ge (d := 241) (t := tB (y17v.2.2.2 == 5)) (t' := tB true) (by kernel_rfl) (by rw [hs78])) (cgt 20 [242] (cot 21 (os_gy rfl rfl rfl (by kernel_rfl) (s_iface (n := 5) rfl (errB_ok (by kernel_rfl)) rfl (by kernel_rfl) rfl (by kernel_rfl))) (cgt 24 [244, 245, 246] (cot 25 (os_ge (d := 247) (t := tB (y17v.2.2.1 == (some 5))) (t' := tB false) (by kernel_rfl) (by rw [hs80])) (cgt 27 [248, 249] (cot 28 (os_ge (d := 250) (t := tB (y17v.2.2.2 == 7)) (t' := tB true) (by kernel_rfl) (by rw [hs81])) (cgt 29 [251] (cot 30 (os_gy rfl rfl rfl (by kernel_rfl) (s_iface (n := 7) rfl (errB_ok (by kernel_rfl)) rfl (by kernel_rfl) rfl (by kernel_rfl))) (cgt 34 [253, 254, 255, 18] .nil))))))))))))))) ?_
            exact ⟨y17v.2.2.1 == (some 7), (Option.some.inj h).symm, of_weak (by kernel_rfl)⟩
          have h := cond_f hb h
          have hs82 := hb
          refine rr [(1, .u (.c (.sl false 4 (a1.map eD)))), (5, tB r1), (6, .u (.c (zoneC y17v.1))), (8, .u (.c (zmC y17v.2.1))), (9, tI v7), (18, tB false)] (cgt 2 [223, 224] (cot 3 (os_ge (d := 225) (t := tB (y17v.2.2.2 == 0)) (t' := tB false) (by kernel_rfl) (by rw [hs65])) (cgt 9 [226, 227, 228, 229, 230, 231] (cot 10 (os_ge (d := 232) (t := tB (y17v.2.2.2 == 1)) (t' := tB false) (by kernel_rfl) (by rw [hs77])) (cgt 18 [233, 234, 235, 236, 237, 238, 239, 240] (cot 19 (os_ge (d := 241) (t := tB (y17v.2.2.2 == 5)) (t' := tB true) (by kernel_rfl) (by rw [hs78])) (cgt 20 [242] (cot 21 (os_gy rfl rfl rfl (by kernel_rfl) (s_iface (n := 5) rfl (errB_ok (by kernel_rfl)) rfl (by kernel_rfl) rfl (by kernel_rfl))) (cgt 24 [244, 245, 246] (cot 25 (os_ge (d := 247) (t := tB (y17v.2.2.1 == (some 5))) (t' := tB false) (by kernel_rfl) (by rw [hs80])) (cgt 27 [248, 249] (cot 28 (os_ge (d := 250) (t := tB (y17v.2.2.2 == 7)) (t' := tB false) (by kernel_rfl) (by rw [hs82])) (cgt 34 [251, 252, 253, 254, 255, 18] .nil))))))))))))) ?_
          exact ⟨false, (Option.some.inj h).symm, of_weak (by kernel_rfl)⟩
        have h := cond_f hb h
        have hs83 := hb
        rcases Bool.eq_false_or_eq_true (y17v.2.2.2 == 7) with hb | hb
        · have h := cond_t hb h
          have hs84 := hb
          refine rr [(1, .u (.c (.sl false 4 (a1.map eD)))), (5, tB r1), (6, .u (.c (zoneC y17v.1))), (8, .u (.c (zmC y17v.2.1))), (9, tI v7), (18, tB (y17v.2.2.1 == (some 7)))] (cgt 2 [223, 224] (cot 3 (os_ge (d := 225) (t := tB (y17v.2.2.2 == 0)) (t' := tB false) (by kernel_rfl) (by rw [hs65])) (cgt 9 [226, 227, 228, 229, 230, 231] (cot 10 (os_ge (d := 232) (t := tB (y17v.2.2.2 == 1)) (t' := tB false) (by kernel_rfl) (by rw [hs77])) (cgt 18 [233, 234, 235, 236, 237, 238, 239, 240] (cot 19 (os_ge (d := 241) (t := tB (y17v.2.2.2 == 5)) (t' := tB false) (by kernel_rfl) (by rw [hs83])) (cgt 27 [242, 243, 244, 245, 246, 247, 248, 249] (cot 28 (os_ge (d := 250) (t := tB (y17v.2.2.2 == 7)) (t' := tB true) (by kernel_rfl) (by rw [hs84])) (cgt 29 [251] (cot 30 (os_gy rfl rfl rfl (by kernel_rfl) (s_iface (n := 7) rfl (errB_ok (by kernel_rfl)) rfl (by kernel_rfl) rfl (by kernel_rfl))) (cgt 34 [253, 254, 255, 18] .nil))))))))))) ?_
          exact ⟨y17v.2.2.1 == (some 7), (Option.some.inj h).symm, of_weak (by kernel_rfl)⟩
        have h := cond_f hb h
        have hs85 := hb
        refine rr [(1, .u (.c (.sl false 4 (a1.map eD)))), (5, tB r1), (6, .u (.c (zoneC y17v.1))), (8, .u (.c (zmC y17v.2.1))), (9, tI v7), (18, tB false)] (cgt 2 [223, 224] (cot 3 (os_ge (d := 225) (t := tB (y17v.2.2.2 == 0)) (t' := tB false) (by kernel_rfl) (by rw [hs65])) (cgt 9 [226, 227, 228, 229, 230, 231] (cot 10 (os_ge (d := 232) (t := tB (y17v.2.2.2 == 1)) (t' := tB false) (by kernel_rfl) (by rw [hs77])) (cgt 18 [233, 234, 235, 236, 237, 238, 239, 240] (cot 19 (os_ge (d := 241) (t := tB (y17v.2.2.2 == 5)) (t' := tB false) (by kernel_rfl) (by rw [hs83])) (cgt 27 [242, 243, 244, 245, 246, 247, 248, 249] (cot 28 (os_ge (d := 250) (t := tB (y17v.2.2.2 == 7)) (t' := tB false) (by kernel_rfl) (by rw [hs85])) (cgt 34 [251, 252, 253, 254, 255, 18] .nil))))))))) ?_
        exact ⟨false, (Option.some.inj h).symm, of_weak (by kernel_rfl)⟩
      rintro y41 rfl
      replace h := h_y41
      try dsimp only at h
      refine r_seq ?_
      rcases Bool.eq_false_or_eq_true (!y41) with hb | hb
      · have h := cond_t hb h
        have hs86 := hb
        refine rr [(1, .u (.c (.sl false 4 (a1.map eD)))), (5, tB r1), (6, .u (.c (zoneC y17v.1))), (8, .u (.c (zmC y17v.2.1))), (9, tI v7), (263, tB true)] (cgt 2 [256, 257] (cot 3 (os_ge (d := 258) (t := tB (!y41)) (t' := tB true) (by kernel_rfl) (by rw [hs86])) (cgt 8 [259, 260, 261, 262, 263] .nil))) ?_
        refine r_condT rfl rfl ?_
        refine r_seq ?_
        refine rr [(4, tB false)] (cgt 1 [4] .nil) ?_
        refine r_ret ?_
        obtain rfl := Option.some.inj h
        exact ⟨.inr rfl, _, _, .cons (.copy rfl rfl rfl) .nil, rfl, outs_of trivial⟩
      have h := cond_f hb h
      have hs87 := hb
      obtain ⟨r88, hr88, h⟩ := bind_some h
      refine rr [(1, .u (.c (.sl false 4 (a1.map eD)))), (5, tB r1), (6, .u (.c (zoneC y17v.1))), (8, .u (.c (zmC y17v.2.1))), (9, tI v7), (263, tB (!r88))] (cgt 2 [256, 257] (cot 3 (os_ge (d := 258) (t := tB (!y41)) (t' := tB false) (by kernel_rfl) (by rw [hs87])) (cgt 5 [259, 260] (cot 6 (os_gy rfl rfl rfl (by kernel_rfl) (c_callQL (res := [.c (.v (.bool r88))]) (AC.k (same.ac (h := hr88))) ⟨_, Tryd.func10, rfl, by kernel_rfl⟩ rfl (.cons (.lend (r := 6) (pl := none) (c := zoneC y17v.1) (y := zoneC y17v.1) (.ptr (own := true) (cs := [storeC y17v.1.s, .v (.int .i64 y17v.1.n), .sl true 1 (y17v.1.t.map eI), .sl true 1 (y17v.1.c.map eB)]) (by kernel_rfl) (by kernel_rfl)) (by kernel_rfl) (by kernel_rfl) (show _ ∧ _ ∧ _ ∧ _ ∧ True from ⟨(show _ ∧ _ ∧ True from ⟨trivial, (copy_map eR_copy), trivial⟩), trivial, (copy_map eI_copy), (copy_map eB_copy), trivial⟩) rfl) (.cons (.lend (r := 8) (pl := none) (c := zmC y17v.2.1) (y := zmC y17v.2.1) (.ptr (own := true) (cs := [.sl true 1 (y17v.2.1.s.map eB), .sl true 1 (y17v.2.1.t.map eI), .sl true 1 (y17v.2.1.c.map eB)]) (by kernel_rfl) (by kernel_rfl)) (by kernel_rfl) (by kernel_rfl) (show _ ∧ _ ∧ _ ∧ True from ⟨(copy_map eB_copy), (copy_map eI_copy), (copy_map eB_copy), trivial⟩) rfl) .nil)) (⟨trivial, trivial⟩) (by kernel_rfl))) (cgt 8 [262, 263] .nil))))) ?_
      rcases Bool.eq_false_or_eq_true (!r88) with hb | hb
      · have h := cond_t hb h
        refine r_condT hb rfl ?_
        refine r_seq ?_
        refine rr [(4, tB false)] (cgt 1 [4] .nil) ?_
        refine r_ret ?_
        obtain rfl := Option.some.inj h
        exact ⟨.inr rfl, _, _, .cons (.copy rfl rfl rfl) .nil, rfl, outs_of trivial⟩
      have h := cond_f hb h
      refine r_condF hb rfl ?_
      refine r_skip ?_
      refine rr [(1, .u (.c (.sl false 4 (a1.map eD)))), (5, tB r1), (6, .u (.c (zoneC y17v.1))), (8, .u (.c (zmC y17v.2.1))), (9, tI (i64.wrap (v7 + 1)))] (cgt 3 [44, 45, 9] .nil) ?_
      exact ⟨(y17v.1, y17v.2.1, i64.wrap (v7 + 1)), h, of_weak (by kernel_rfl)⟩
    have h := cond_f hb h
    refine r_condF hb rfl ?_
    refine r_exit ?_
    refine r_seq ?_
    refine rr [(4, tB r1)] (cgt 2 [264, 4] .nil) ?_
    refine r_ret ?_
    obtain rfl := Option.some.inj h
    exact ⟨.inr rfl, _, _, .cons (.copy rfl rfl rfl) .nil, rfl, outs_of trivial⟩
  have h := cond_f hb h
  have hs89 := hb
  refine rr [(1, .u (.c (.sl false 4 (a1.map eD)))), (5, tB r1), (6, .u (.c (zoneC v5))), (8, .u (.c (zmC v6))), (9, tI v7), (43, tB false)] (cgt 2 [36, 37] (cot 3 (os_to (os_plain rfl rfl (s_lenU (own := false) (sz := 4) (rows := (a1.map eD)) rfl sl45 (by kernel_rfl) rfl (by kernel_rfl))) (t' := tI (a1.length : Int)) (by rw [List.length_map])) (cgt 4 [39] (cot 5 (os_ge (d := 40) (t := tB (decide (v7 < (a1.length : Int)))) (t' := tB false) (by kernel_rfl) (by rw [hs89])) (cgt 8 [41, 42, 43] .nil))))) ?_
  refine r_condF rfl rfl ?_
  refine r_exit ?_
  refine r_seq ?_
  refine rr [(4, tB r1)] (cgt 2 [264, 4] .nil) ?_
  refine r_ret ?_
  obtain rfl := Option.some.inj h
  exact ⟨.inr rfl, _, _, .cons (.copy rfl rfl rfl) .nil, rfl, outs_of trivial⟩
end Go.Proofs.YtmjnenjeckeklaaDoor.V
