import Derived.Test.YtfbjhioefkimbaaB1
namespace Go.Proofs.Ytfbjhioefkimbaa.V
open Go Go.RowKit Go.Proofs Go.Proofs.Ytfbjhioefkimbaa.Q Go.Proofs.YtfbjhioefkimbaaW.PrintWords Go.Proofs.YtfbjhioefkimbaaW.PrintWords
open Go.IntKind (i64)
set_option linter.unusedVariables false
set_option linter.unusedSimpArgs false
set_option maxRecDepth 100000
structure D9 where
  w : Int
  e : S30
  n : Int
  p : Int
def eD (x : D9) : List C := .v (.int .i64 x.w) :: (eE x.e ++ [.v (.int .i64 x.n), .v (.int .i64 x.p)])
abbrev zD : D9 := ⟨0, z30, 0, 0⟩
theorem build43 : BuildT Try.prog 43 [(0, 1), (1, 1)] := buildB_ok (by kernel_rfl)
theorem zero43 : ZeroT Try.prog 43 [.sl true 6 ([].map eE), .v (.bool false)] := zeroB_ok (vs := [(.slice none 0 0), (.bool false)]) (by kernel_rfl) (fun _ _ _ => .cons (F := []) (.nil _ _) (.cons (F := []) (.v rfl) (.nil)))
theorem sl40 : SliceT Try.prog 40 9 64 := slB_ok (by kernel_rfl)
theorem zero45 : ZeroT Try.prog 45 [.v (.int .i64 0), .v (.int .i64 0), .v (.int .i64 0), .v (.int .i64 0), .v (.int .i64 0), .v (.bool false), .v (.bool false), .v (.int .i64 0), .v (.int .i64 0)] := zeroB_ok (vs := [(.int .i64 0), (.int .i64 0), (.int .i64 0), (.int .i64 0), (.int .i64 0), (.bool false), (.bool false), (.int .i64 0), (.int .i64 0)]) (by kernel_rfl) (fun _ _ _ => .cons (F := []) (.v rfl) (.cons (F := []) (.v rfl) (.cons (F := []) (.v rfl) (.cons (F := []) (.v rfl) (.cons (F := []) (.v rfl) (.cons (F := []) (.v rfl) (.cons (F := []) (.v rfl) (.cons (F := []) (.v rfl) (.cons (F := []) (.v rfl) (.nil))))))))))
def TlbPlays.j2 (k : Nat) (a0 : List D9) (r1 : Bool) (r2 : Buf) (v3 : Buf) (v4 : Buf) (v5 : Int) (r9 : Int) : Option (Bool) :=
  (bif r9 == 0 then some (r9 == 0) else (bif r9 == 1 then some (r9 == 1) else (bif r9 == 2 then some (r9 == 2) else some (r9 == 3))))
def TlbPlays.j3 (k : Nat) (a0 : List D9) (r1 : Bool) (r2 : Buf) (v3 : Buf) (v4 : Buf) (v5 : Int) (r9 : Int) (y10 : Bool) (r11 : Buf × (Option Int)) (r12 : Bool) : Option (Buf) :=
  (bif r12 then (RFill.f k v4 ((a0.getD v5.toNat zD).e)).bind fun (r14 : Buf) => some r14 else some v4)
def TlbPlays.j4 (k : Nat) (a0 : List D9) (r1 : Bool) (r2 : Buf) (v3 : Buf) (v4 : Buf) (v5 : Int) (r9 : Int) (y10 : Bool) (r23 : Buf × (Option Int)) : Option (Buf) :=
  (bif decide (((a0.getD v5.toNat zD).n) < (v4.l.length : Int)) then (bif decide (0 ≤ ((a0.getD v5.toNat zD).n)) && decide (((a0.getD v5.toNat zD).n).toNat ≤ v4.l.length) then (bif decide (((v4.l.drop (0 + 0)).take ((((a0.getD v5.toNat zD).n).toNat - 0))).length ≤ 1000000) then (bif decide (0 ≤ (i64.wrap (((a0.getD v5.toNat zD).n) + 1))) && decide ((i64.wrap (((a0.getD v5.toNat zD).n) + 1)).toNat ≤ v4.l.length) then (bif decide (((v4.l.drop (0 + 0)).take ((((a0.getD v5.toNat zD).n).toNat - 0))).length + ((v4.l.drop (0 + (i64.wrap (((a0.getD v5.toNat zD).n) + 1)).toNat)).take (((v4.l.map eE).length - (i64.wrap (((a0.getD v5.toNat zD).n) + 1)).toNat))).length ≤ 1000000) then some (⟨(((v4.l.drop (0 + 0)).take ((((a0.getD v5.toNat zD).n).toNat - 0))) ++ ((v4.l.drop (0 + (i64.wrap (((a0.getD v5.toNat zD).n) + 1)).toNat)).take (((v4.l.map eE).length - (i64.wrap (((a0.getD v5.toNat zD).n) + 1)).toNat)))), v4.b⟩ : Buf) else none) else none) else none) else none) else some v4)
def TlbPlays.j5 (k : Nat) (a0 : List D9) (r1 : Bool) (r2 : Buf) (v3 : Buf) (v4 : Buf) (v5 : Int) (r9 : Int) (y10 : Bool) (r23 : Buf × (Option Int)) : Option (Buf) :=
  some v4
def TlbPlays.j1 (k : Nat) (a0 : List D9) (r1 : Bool) (r2 : Buf) (v3 : Buf) (v4 : Buf) (v5 : Int) : Option (Sum (Buf × Buf) (Bool)) :=
  (paviorlaw05_pick.f ((a0.getD v5.toNat zD).w) 8).bind fun (r9 : Int) => (TlbPlays.j2 k a0 r1 r2 v3 v4 v5 r9).bind fun (y10 : Bool) => (bif y10 then (Fill.f k v3 ((a0.getD v5.toNat zD).e)).bind fun (r11 : Buf × (Option Int)) => (paviorref05_May.f k ((a0.getD v5.toNat zD).e.f0) ((a0.getD v5.toNat zD).e.f1) ((a0.getD v5.toNat zD).e.f2) ((a0.getD v5.toNat zD).e.f3) ((a0.getD v5.toNat zD).e.f4) ((a0.getD v5.toNat zD).e.f5)).bind fun (r12 : Bool) => (TlbPlays.j3 k a0 r1 r2 v3 v4 v5 r9 y10 r11 r12).bind fun (y13 : Buf) => (bif r12 then (bif !(r11.2 == none) then some (Sum.inr false) else (bif !r12 then (bif !(r11.2 == (some 1)) then some (Sum.inr false) else some (Sum.inl (r11.1, y13))) else some (Sum.inl (r11.1, y13)))) else (bif !r12 then (bif !(r11.2 == (some 1)) then some (Sum.inr false) else some (Sum.inl (r11.1, y13))) else some (Sum.inl (r11.1, y13)))) else (bif r9 == 4 then (Evict.f k v3 ((a0.getD v5.toNat zD).n)).bind fun (r23 : Buf × (Option Int)) => (bif decide (((a0.getD v5.toNat zD).n) ≥ 0) then (TlbPlays.j4 k a0 r1 r2 v3 v4 v5 r9 y10 r23).bind fun (y25 : Buf) => (bif decide (((a0.getD v5.toNat zD).n) < (v4.l.length : Int)) then (bif !(r23.2 == none) then some (Sum.inr false) else (bif !(decide (((a0.getD v5.toNat zD).n) < (v4.l.length : Int))) then (bif !(r23.2 == (some 3)) then some (Sum.inr false) else some (Sum.inl (r23.1, y25))) else some (Sum.inl (r23.1, y25)))) else (bif !(decide (((a0.getD v5.toNat zD).n) < (v4.l.length : Int))) then (bif !(r23.2 == (some 3)) then some (Sum.inr false) else some (Sum.inl (r23.1, y25))) else some (Sum.inl (r23.1, y25)))) else (TlbPlays.j5 k a0 r1 r2 v3 v4 v5 r9 y10 r23).bind fun (y39 : Buf) => (bif !(r23.2 == (some 3)) then some (Sum.inr false) else some (Sum.inl (r23.1, y39)))) else (bif r9 == 5 then (Page.f k v3 ((a0.getD v5.toNat zD).n) ((a0.getD v5.toNat zD).p)).bind fun (r40 : Buf) => (bif decide (((a0.getD v5.toNat zD).p) ≥ 0) then (RDrop.f k v4 ((a0.getD v5.toNat zD).n) ((a0.getD v5.toNat zD).p)).bind fun (r41 : Buf) => some (Sum.inl (r40, r41)) else some (Sum.inl (r40, v4))) else (bif r9 == 6 then (Space.f k v3 ((a0.getD v5.toNat zD).n)).bind fun (r42 : Buf) => (RDrop.f k v4 ((a0.getD v5.toNat zD).n) (-1)).bind fun (r43 : Buf) => some (Sum.inl (r42, r43)) else (paviorlaw05_pick.f ((a0.getD v5.toNat zD).n) 8).bind fun (r44 : Int) => (bif r44 == 0 then (All.f k v3).bind fun (r45 : Buf) => some (Sum.inl (r45, (⟨[], v4.b⟩ : Buf))) else some (Sum.inl (v3, v4)))))))
def TlbPlays.l1 (k : Nat) (a0 : List D9) (r1 : Bool) (r2 : Buf) : Nat → Buf → Buf → Int → Option (Bool)
  | 0, _, _, _ => none
  | n1 + 1, v3, v4, v5 => (bif decide (v5 < (a0.length : Int)) then (bif decide (v5 < 120) then (bif decide (0 ≤ v5) && decide (v5 < (a0.length : Int)) then (TlbPlays.j1 k a0 r1 r2 v3 v4 v5).bind fun (y8 : Sum (Buf × Buf) (Bool)) => Sum.elim (fun (y8v : Buf × Buf) => (Find.f k y8v.1 ((a0.getD v5.toNat zD).n) ((a0.getD v5.toNat zD).p)).bind fun (r46 : Buf × S30 × Bool) => (RFind.f k y8v.2 ((a0.getD v5.toNat zD).n) ((a0.getD v5.toNat zD).p)).bind fun (r47 : Buf × S30 × Bool) => (bif !(r46.2.2 == r47.2.2) then some false else (bif !(r46.2.1.f0 == r47.2.1.f0 && (r46.2.1.f1 == r47.2.1.f1 && (r46.2.1.f2 == r47.2.1.f2 && (r46.2.1.f3 == r47.2.1.f3 && (r46.2.1.f4 == r47.2.1.f4 && (r46.2.1.f5 == r47.2.1.f5)))))) then some false else (same.f k r46.1 r47.1).bind fun (r52 : Buf × Buf × Bool) => (bif !r52.2.2 then some false else TlbPlays.l1 k a0 r1 r2 n1 r52.1 r52.2.1 (i64.wrap (v5 + 1)))))) some y8 else none) else some r1) else some r1)
set_option maxHeartbeats 4000000 in
def TlbPlays.f (k : Nat) (a0 : List D9) : Option (Bool) :=
  (up.f k).bind fun (r1 : Bool) => (New.f ).bind fun (r2 : Buf) => TlbPlays.l1 k a0 r1 r2 k r2 (⟨[], false⟩ : Buf) 0
set_option maxHeartbeats 4000000 in
theorem TlbPlays.ac (k : Nat) (a0 : List D9) (r : Bool) (h : TlbPlays.f k a0 = some r) : AC Try.prog 48 5 [.c (.sl false 9 (a0.map eD))] [none] [.c (.v (.bool r))] := by
  unfold TlbPlays.f at h
  refine ac_intro (fn := Try.f5) (pins := []) (rts := [2]) Try.func5 rfl Try.ntmps5 rfl (Nat.le_of_ble_eq_true rfl) (pins_lt rfl) rfl (fun w R E vs => ?_)
  refine r_weak (of_weak (l := [(0, .u (.c (.sl false 9 (a0.map eD))))]) (by kernel_rfl)) ?_
  refine r_seq ?_
  refine rr [(0, .u (.c (.sl false 9 (a0.map eD))))] (cgt 1 [2] .nil) ?_
  refine r_seq ?_
  obtain ⟨r1, hr1, h⟩ := bind_some h
  refine rr [(0, .u (.c (.sl false 9 (a0.map eD)))), (3, tB r1)] (cot 1 (os_plain rfl rfl (c_callQ (AC.k (up.ac (h := hr1))) ⟨_, Try.func6, rfl, by kernel_rfl⟩ rfl .nil (by kernel_rfl))) (cgt 2 [3] .nil)) ?_
  refine r_seq ?_
  obtain ⟨r2, hr2, h⟩ := bind_some h
  refine rr [(0, .u (.c (.sl false 9 (a0.map eD)))), (3, tB r1), (4, .u (.c (bufC r2)))] (cot 1 (os_plain rfl rfl (c_callQ (AC.k (New.ac (h := hr2))) ⟨_, Try.func7, rfl, by kernel_rfl⟩ rfl .nil (by kernel_rfl))) (cot 2 (os_plain rfl rfl (s_take (u := .c (bufC r2)) (.inr rfl) (.move (by kernel_rfl) rfl) rfl (by kernel_rfl))) .nil)) ?_
  refine r_seq ?_
  refine r_seq ?_
  refine rr [(0, .u (.c (.sl false 9 (a0.map eD)))), (3, tB r1), (4, .u (.c (bufC r2))), (19, tB false)] (cgt 2 [18, 19] .nil) ?_
  refine r_condF rfl rfl ?_
  refine r_skip ?_
  refine r_seq ?_
  refine rr [(0, .u (.c (.sl false 9 (a0.map eD)))), (3, tB r1), (4, .u (.c (bufC r2))), (5, .u (.c (.pt true [.sl true 6 ([].map eE), .v (.bool false)])))] (cot 1 (os_plain rfl rfl (s_build (us := []) (zs := [.sl true 6 ([].map eE), .v (.bool false)]) (cs := [.sl true 6 ([].map eE), .v (.bool false)]) rfl build43 zero43 .nil (by kernel_rfl) rfl (by kernel_rfl))) (cot 2 (os_plain rfl rfl (s_box (u := .agg [.sl true 6 ([].map eE), .v (.bool false)]) rfl (.move (by kernel_rfl) (by kernel_rfl)) rfl (by kernel_rfl))) (cot 3 (os_plain rfl rfl (s_take (u := .c (.pt true [.sl true 6 ([].map eE), .v (.bool false)])) (.inr rfl) (.move (by kernel_rfl) rfl) rfl (by kernel_rfl))) .nil))) ?_
  refine r_seq ?_
  refine r_seq ?_
  refine rr [(0, .u (.c (.sl false 9 (a0.map eD)))), (3, tB r1), (4, .u (.c (bufC r2))), (5, .u (.c (.pt true [.sl true 6 ([].map eE), .v (.bool false)]))), (6, tI 0)] (cgt 1 [6] .nil) ?_
  refine r_block ?_
  refine r_weak (of_weak (l := [(0, .u (.c (.sl false 9 (a0.map eD)))), (3, tB r1), (4, .u (.c (bufC r2))), (5, .u (.c (.pt true [.sl true 6 ([].map eE), .v (.bool false)]))), (6, tI 0)]) (by kernel_rfl)) ?_
  refine r_loopI (α := Buf × Buf × Int) (fun x => [(0, .u (.c (.sl false 9 (a0.map eD)))), (3, tB r1), (4, .u (.c (bufC x.1))), (5, .u (.c (bufC x.2.1))), (6, tI x.2.2)]) (fun n x => TlbPlays.l1 k a0 r1 r2 n x.1 x.2.1 x.2.2 = some r) k (r2, (⟨[], false⟩ : Buf), 0) h (by intro x h; unfold TlbPlays.l1 at h; cases h) ?_
  rintro n1 ⟨v3, v4, v5⟩ h
  replace h : TlbPlays.l1 k a0 r1 r2 (n1 + 1) v3 v4 v5 = some r := h
  unfold TlbPlays.l1 at h
  show Run _ _ _ (St.of [(0, .u (.c (.sl false 9 (a0.map eD)))), (3, tB r1), (4, .u (.c (bufC v3))), (5, .u (.c (bufC v4))), (6, tI v5)]) _
  refine r_seq ?_
  refine r_seq ?_
  rcases Bool.eq_false_or_eq_true (decide (v5 < (a0.length : Int))) with hb | hb
  · have h := cond_t hb h
    have hs6 := hb
    refine rr [(0, .u (.c (.sl false 9 (a0.map eD)))), (3, tB r1), (4, .u (.c (bufC v3))), (5, .u (.c (bufC v4))), (6, tI v5), (29, tB (decide (v5 < 120)))] (cgt 2 [22, 23] (cot 3 (os_to (os_plain rfl rfl (s_lenU (own := false) (sz := 9) (rows := (a0.map eD)) rfl sl40 (by kernel_rfl) rfl (by kernel_rfl))) (t' := tI (a0.length : Int)) (by rw [List.length_map])) (cgt 4 [25] (cot 5 (os_ge (d := 26) (t := tB (decide (v5 < (a0.length : Int)))) (t' := tB true) (by kernel_rfl) (by rw [hs6])) (cgt 8 [27, 28, 29] .nil))))) ?_
    rcases Bool.eq_false_or_eq_true (decide (v5 < 120)) with hb | hb
    · have h := cond_t hb h
      refine r_condT hb rfl ?_
      refine r_skip ?_
      refine r_seq ?_
      refine r_block ?_
      refine r_seq ?_
      obtain ⟨hg7, h⟩ := guard_some h
      simp only [Bool.and_eq_true, decide_eq_true_eq] at hg7
      refine rr [(0, .u (.c (.sl false 9 (a0.map eD)))), (3, tB r1), (4, .u (.c (bufC v3))), (5, .u (.c (bufC v4))), (6, tI v5), (7, .u (.c (.pt true [.v (.int .i64 ((a0.getD v5.toNat zD).w)), .v (.int .i64 ((a0.getD v5.toNat zD).e.f0)), .v (.int .i64 ((a0.getD v5.toNat zD).e.f1)), .v (.int .i64 ((a0.getD v5.toNat zD).e.f2)), .v (.int .i64 ((a0.getD v5.toNat zD).e.f3)), .v (.bool ((a0.getD v5.toNat zD).e.f4)), .v (.bool ((a0.getD v5.toNat zD).e.f5)), .v (.int .i64 ((a0.getD v5.toNat zD).n)), .v (.int .i64 ((a0.getD v5.toNat zD).p))])))] (cgt 2 [32, 33] (cot 3 (os_plain rfl rfl (s_indexU (own := false) (sz := 9) (rows := (a0.map eD)) (e := v5) (ik := .i64) rfl sl40 (by kernel_rfl) (.tmp (by kernel_rfl)) hg7.1 (by rw [List.length_map]; exact hg7.2) rfl (by kernel_rfl) (by kernel_rfl))) (cot 4 (os_plain rfl rfl (s_loadA (n := 9) (xs := [.v (.int .i64 ((a0.getD v5.toNat zD).w)), .v (.int .i64 ((a0.getD v5.toNat zD).e.f0)), .v (.int .i64 ((a0.getD v5.toNat zD).e.f1)), .v (.int .i64 ((a0.getD v5.toNat zD).e.f2)), .v (.int .i64 ((a0.getD v5.toNat zD).e.f3)), .v (.bool ((a0.getD v5.toNat zD).e.f4)), .v (.bool ((a0.getD v5.toNat zD).e.f5)), .v (.int .i64 ((a0.getD v5.toNat zD).n)), .v (.int .i64 ((a0.getD v5.toNat zD).p))]) (r := 32) (off := 0) (s := .i v5.toNat 9) (p := []) (c := .sl false 9 (a0.map eD)) (cs := eD (a0.getD v5.toNat zD)) rfl (aggB_ok (by kernel_rfl)) (by kernel_rfl) (by kernel_rfl) (getP_map zD (by have := hg7; omega)) rfl rfl rfl rfl (by kernel_rfl))) (cot 5 (os_plain rfl rfl (s_alloc rfl zero45 rfl (by kernel_rfl))) (cot 6 (os_plain rfl rfl (s_storeS (n := 9) (r := 7) (off := 0) (s := .d) (p := []) (c := .pt true [.v (.int .i64 0), .v (.int .i64 0), .v (.int .i64 0), .v (.int .i64 0), .v (.int .i64 0), .v (.bool false), .v (.bool false), .v (.int .i64 0), .v (.int .i64 0)]) (cs := [.v (.int .i64 0), .v (.int .i64 0), .v (.int .i64 0), .v (.int .i64 0), .v (.int .i64 0), .v (.bool false), .v (.bool false), .v (.int .i64 0), .v (.int .i64 0)]) (u := .agg [.v (.int .i64 ((a0.getD v5.toNat zD).w)), .v (.int .i64 ((a0.getD v5.toNat zD).e.f0)), .v (.int .i64 ((a0.getD v5.toNat zD).e.f1)), .v (.int .i64 ((a0.getD v5.toNat zD).e.f2)), .v (.int .i64 ((a0.getD v5.toNat zD).e.f3)), .v (.bool ((a0.getD v5.toNat zD).e.f4)), .v (.bool ((a0.getD v5.toNat zD).e.f5)), .v (.int .i64 ((a0.getD v5.toNat zD).n)), .v (.int .i64 ((a0.getD v5.toNat zD).p))]) rfl (by kernel_rfl) (by kernel_rfl) (by kernel_rfl) rfl (by kernel_rfl) rfl rfl rfl rfl (Nat.le_of_ble_eq_true rfl) (by kernel_rfl) (by kernel_rfl) rfl rfl)) .nil))))) ?_
      refine r_seq ?_
      obtain ⟨y8, hy8, h_y8⟩ := bind_some h
      refine r_joinC (α := Buf × Buf) (fun x => [(0, .u (.c (.sl false 9 (a0.map eD)))), (3, tB r1), (4, .u (.c (bufC x.1))), (5, .u (.c (bufC x.2))), (6, tI v5), (7, .u (.c (.pt true [.v (.int .i64 ((a0.getD v5.toNat zD).w)), .v (.int .i64 ((a0.getD v5.toNat zD).e.f0)), .v (.int .i64 ((a0.getD v5.toNat zD).e.f1)), .v (.int .i64 ((a0.getD v5.toNat zD).e.f2)), .v (.int .i64 ((a0.getD v5.toNat zD).e.f3)), .v (.bool ((a0.getD v5.toNat zD).e.f4)), .v (.bool ((a0.getD v5.toNat zD).e.f5)), .v (.int .i64 ((a0.getD v5.toNat zD).n)), .v (.int .i64 ((a0.getD v5.toNat zD).p))])))]) (fun x => y8 = Sum.inl x) ?_ ?_
      · replace h := hy8
        unfold TlbPlays.j1 at h
        refine r_seq ?_
        obtain ⟨r9, hr9, h⟩ := bind_some h
        refine rr [(0, .u (.c (.sl false 9 (a0.map eD)))), (3, tB r1), (4, .u (.c (bufC v3))), (5, .u (.c (bufC v4))), (6, tI v5), (7, .u (.c (.pt true [.v (.int .i64 ((a0.getD v5.toNat zD).w)), .v (.int .i64 ((a0.getD v5.toNat zD).e.f0)), .v (.int .i64 ((a0.getD v5.toNat zD).e.f1)), .v (.int .i64 ((a0.getD v5.toNat zD).e.f2)), .v (.int .i64 ((a0.getD v5.toNat zD).e.f3)), .v (.bool ((a0.getD v5.toNat zD).e.f4)), .v (.bool ((a0.getD v5.toNat zD).e.f5)), .v (.int .i64 ((a0.getD v5.toNat zD).n)), .v (.int .i64 ((a0.getD v5.toNat zD).p))]))), (38, tI r9)] (cgt 2 [36, 37] (cot 3 (os_plain rfl rfl (c_callQ (AC.k (paviorlaw05_pick.ac (h := hr9))) ⟨_, Try.func16, rfl, by kernel_rfl⟩ rfl (.cons (.copy (by kernel_rfl) rfl) (.cons (.copy (by kernel_rfl) rfl) .nil)) (by kernel_rfl))) .nil)) ?_
        refine r_block ?_
        refine r_seq ?_
        obtain ⟨y10, hy10, h_y10⟩ := bind_some h
        refine r_joinC (α := Bool) (fun x => [(0, .u (.c (.sl false 9 (a0.map eD)))), (3, tB r1), (4, .u (.c (bufC v3))), (5, .u (.c (bufC v4))), (6, tI v5), (7, .u (.c (.pt true [.v (.int .i64 ((a0.getD v5.toNat zD).w)), .v (.int .i64 ((a0.getD v5.toNat zD).e.f0)), .v (.int .i64 ((a0.getD v5.toNat zD).e.f1)), .v (.int .i64 ((a0.getD v5.toNat zD).e.f2)), .v (.int .i64 ((a0.getD v5.toNat zD).e.f3)), .v (.bool ((a0.getD v5.toNat zD).e.f4)), .v (.bool ((a0.getD v5.toNat zD).e.f5)), .v (.int .i64 ((a0.getD v5.toNat zD).n)), .v (.int .i64 ((a0.getD v5.toNat zD).p))]))), (38, tI r9), (48, tB x)]) (fun x => y10 = x) ?_ ?_
        · replace h := hy10
          unfold TlbPlays.j2 at h
          refine r_seq ?_
          refine rr [(0, .u (.c (.sl false 9 (a0.map eD)))), (3, tB r1), (4, .u (.c (bufC v3))), (5, .u (.c (bufC v4))), (6, tI v5), (7, .u (.c (.pt true [.v (.int .i64 ((a0.getD v5.toNat zD).w)), .v (.int .i64 ((a0.getD v5.toNat zD).e.f0)), .v (.int .i64 ((a0.getD v5.toNat zD).e.f1)), .v (.int .i64 ((a0.getD v5.toNat zD).e.f2)), .v (.int .i64 ((a0.getD v5.toNat zD).e.f3)), .v (.bool ((a0.getD v5.toNat zD).e.f4)), .v (.bool ((a0.getD v5.toNat zD).e.f5)), .v (.int .i64 ((a0.getD v5.toNat zD).n)), .v (.int .i64 ((a0.getD v5.toNat zD).p))]))), (38, tI r9), (48, tB (r9 == 0))] (cgt 2 [49, 48] .nil) ?_
          rcases Bool.eq_false_or_eq_true (r9 == 0) with hb | hb
          · have h := cond_t hb h
            refine r_condT hb rfl ?_
            refine r_skip ?_
            exact ⟨r9 == 0, (Option.some.inj h).symm, of_weak (by kernel_rfl)⟩
          have h := cond_f hb h
          refine r_condF hb rfl ?_
          refine r_seq ?_
          refine rr [(0, .u (.c (.sl false 9 (a0.map eD)))), (3, tB r1), (4, .u (.c (bufC v3))), (5, .u (.c (bufC v4))), (6, tI v5), (7, .u (.c (.pt true [.v (.int .i64 ((a0.getD v5.toNat zD).w)), .v (.int .i64 ((a0.getD v5.toNat zD).e.f0)), .v (.int .i64 ((a0.getD v5.toNat zD).e.f1)), .v (.int .i64 ((a0.getD v5.toNat zD).e.f2)), .v (.int .i64 ((a0.getD v5.toNat zD).e.f3)), .v (.bool ((a0.getD v5.toNat zD).e.f4)), .v (.bool ((a0.getD v5.toNat zD).e.f5)), .v (.int .i64 ((a0.getD v5.toNat zD).n)), .v (.int .i64 ((a0.getD v5.toNat zD).p))]))), (38, tI r9), (48, tB (r9 == 1))] (cgt 2 [50, 48] .nil) ?_
          rcases Bool.eq_false_or_eq_true (r9 == 1) with hb | hb
          · have h := cond_t hb h
            refine r_condT hb rfl ?_
            refine r_skip ?_
            exact ⟨r9 == 1, (Option.some.inj h).symm, of_weak (by kernel_rfl)⟩
          have h := cond_f hb h
          refine r_condF hb rfl ?_
          refine r_seq ?_
          refine rr [(0, .u (.c (.sl false 9 (a0.map eD)))), (3, tB r1), (4, .u (.c (bufC v3))), (5, .u (.c (bufC v4))), (6, tI v5), (7, .u (.c (.pt true [.v (.int .i64 ((a0.getD v5.toNat zD).w)), .v (.int .i64 ((a0.getD v5.toNat zD).e.f0)), .v (.int .i64 ((a0.getD v5.toNat zD).e.f1)), .v (.int .i64 ((a0.getD v5.toNat zD).e.f2)), .v (.int .i64 ((a0.getD v5.toNat zD).e.f3)), .v (.bool ((a0.getD v5.toNat zD).e.f4)), .v (.bool ((a0.getD v5.toNat zD).e.f5)), .v (.int .i64 ((a0.getD v5.toNat zD).n)), .v (.int .i64 ((a0.getD v5.toNat zD).p))]))), (38, tI r9), (48, tB (r9 == 2))] (cgt 2 [51, 48] .nil) ?_
          rcases Bool.eq_false_or_eq_true (r9 == 2) with hb | hb
          · have h := cond_t hb h
            refine r_condT hb rfl ?_
            refine r_skip ?_
            exact ⟨r9 == 2, (Option.some.inj h).symm, of_weak (by kernel_rfl)⟩
          have h := cond_f hb h
          refine r_condF hb rfl ?_
          refine rr [(0, .u (.c (.sl false 9 (a0.map eD)))), (3, tB r1), (4, .u (.c (bufC v3))), (5, .u (.c (bufC v4))), (6, tI v5), (7, .u (.c (.pt true [.v (.int .i64 ((a0.getD v5.toNat zD).w)), .v (.int .i64 ((a0.getD v5.toNat zD).e.f0)), .v (.int .i64 ((a0.getD v5.toNat zD).e.f1)), .v (.int .i64 ((a0.getD v5.toNat zD).e.f2)), .v (.int .i64 ((a0.getD v5.toNat zD).e.f3)), .v (.bool ((a0.getD v5.toNat zD).e.f4)), .v (.bool ((a0.getD v5.toNat zD).e.f5)), .v (.int .i64 ((a0.getD v5.toNat zD).n)), .v (.int .i64 ((a0.getD v5.toNat zD).p))]))), (38, tI r9), (48, tB (r9 == 3))] (cgt 2 [52, 48] .nil) ?_
          exact ⟨r9 == 3, (Option.some.inj h).symm, of_weak (by kernel_rfl)⟩
        rintro y10 rfl
        replace h := h_y10
        try dsimp only at h
        rcases Bool.eq_false_or_eq_true (y10) with hb | hb
        · have h := cond_t hb h
          refine r_condT hb rfl ?_
          refine r_seq ?_
          obtain ⟨r11, hr11, h⟩ := bind_some h
          refine rr [(0, .u (.c (.sl false 9 (a0.map eD)))), (3, tB r1), (4, .u (.c (bufC r11.1))), (5, .u (.c (bufC v4))), (6, tI v5), (7, .u (.c (.pt true [.v (.int .i64 ((a0.getD v5.toNat zD).w)), .v (.int .i64 ((a0.getD v5.toNat zD).e.f0)), .v (.int .i64 ((a0.getD v5.toNat zD).e.f1)), .v (.int .i64 ((a0.getD v5.toNat zD).e.f2)), .v (.int .i64 ((a0.getD v5.toNat zD).e.f3)), .v (.bool ((a0.getD v5.toNat zD).e.f4)), .v (.bool ((a0.getD v5.toNat zD).e.f5)), .v (.int .i64 ((a0.getD v5.toNat zD).n)), .v (.int .i64 ((a0.getD v5.toNat zD).p))]))), (8, .u (.c (.err r11.2)))] (cgt 3 [53, 54, 55] (cot 4 (os_plain rfl rfl (c_call (AC.k (Fill.ac (h := hr11))) ⟨_, Try.func8, rfl, by kernel_rfl⟩ rfl (hand_root (r := 4) (c := bufC v3) (by kernel_rfl) (by kernel_rfl) rfl (.rd (.copy (by kernel_rfl) rfl) .nil)) rfl (by kernel_rfl))) (cgt 5 [8] .nil))) ?_
          refine r_seq ?_
          obtain ⟨r12, hr12, h⟩ := bind_some h
          refine rr [(0, .u (.c (.sl false 9 (a0.map eD)))), (3, tB r1), (4, .u (.c (bufC r11.1))), (5, .u (.c (bufC v4))), (6, tI v5), (7, .u (.c (.pt true [.v (.int .i64 ((a0.getD v5.toNat zD).w)), .v (.int .i64 ((a0.getD v5.toNat zD).e.f0)), .v (.int .i64 ((a0.getD v5.toNat zD).e.f1)), .v (.int .i64 ((a0.getD v5.toNat zD).e.f2)), .v (.int .i64 ((a0.getD v5.toNat zD).e.f3)), .v (.bool ((a0.getD v5.toNat zD).e.f4)), .v (.bool ((a0.getD v5.toNat zD).e.f5)), .v (.int .i64 ((a0.getD v5.toNat zD).n)), .v (.int .i64 ((a0.getD v5.toNat zD).p))]))), (8, .u (.c (.err r11.2))), (9, tB r12)] (cgt 2 [57, 58] (cot 3 (os_plain rfl rfl (c_callQ (AC.k (paviorref05_May.ac (h := hr12))) ⟨_, Try.func11, rfl, by kernel_rfl⟩ rfl (.cons (.copy (by kernel_rfl) rfl) .nil) (by kernel_rfl))) (cgt 4 [9] .nil))) ?_
          refine r_seq ?_
          obtain ⟨y13, hy13, h_y13⟩ := bind_some h
          refine r_joinC (α := Buf) (fun x => [(0, .u (.c (.sl false 9 (a0.map eD)))), (3, tB r1), (4, .u (.c (bufC r11.1))), (5, .u (.c (bufC x))), (6, tI v5), (7, .u (.c (.pt true [.v (.int .i64 ((a0.getD v5.toNat zD).w)), .v (.int .i64 ((a0.getD v5.toNat zD).e.f0)), .v (.int .i64 ((a0.getD v5.toNat zD).e.f1)), .v (.int .i64 ((a0.getD v5.toNat zD).e.f2)), .v (.int .i64 ((a0.getD v5.toNat zD).e.f3)), .v (.bool ((a0.getD v5.toNat zD).e.f4)), .v (.bool ((a0.getD v5.toNat zD).e.f5)), .v (.int .i64 ((a0.getD v5.toNat zD).n)), .v (.int .i64 ((a0.getD v5.toNat zD).p))]))), (8, .u (.c (.err r11.2))), (9, tB r12)]) (fun x => y13 = x) ?_ ?_
          · replace h := hy13
            unfold TlbPlays.j3 at h
            refine r_seq ?_
            refine rr [(0, .u (.c (.sl false 9 (a0.map eD)))), (3, tB r1), (4, .u (.c (bufC r11.1))), (5, .u (.c (bufC v4))), (6, tI v5), (7, .u (.c (.pt true [.v (.int .i64 ((a0.getD v5.toNat zD).w)), .v (.int .i64 ((a0.getD v5.toNat zD).e.f0)), .v (.int .i64 ((a0.getD v5.toNat zD).e.f1)), .v (.int .i64 ((a0.getD v5.toNat zD).e.f2)), .v (.int .i64 ((a0.getD v5.toNat zD).e.f3)), .v (.bool ((a0.getD v5.toNat zD).e.f4)), .v (.bool ((a0.getD v5.toNat zD).e.f5)), .v (.int .i64 ((a0.getD v5.toNat zD).n)), .v (.int .i64 ((a0.getD v5.toNat zD).p))]))), (8, .u (.c (.err r11.2))), (9, tB r12), (60, tB r12)] (cgt 1 [60] .nil) ?_
            rcases Bool.eq_false_or_eq_true (r12) with hb | hb
            · have h := cond_t hb h
              refine r_condT hb rfl ?_
              obtain ⟨r14, hr14, h⟩ := bind_some h
              refine rr [(0, .u (.c (.sl false 9 (a0.map eD)))), (3, tB r1), (4, .u (.c (bufC r11.1))), (5, .u (.c (bufC r14))), (6, tI v5), (7, .u (.c (.pt true [.v (.int .i64 ((a0.getD v5.toNat zD).w)), .v (.int .i64 ((a0.getD v5.toNat zD).e.f0)), .v (.int .i64 ((a0.getD v5.toNat zD).e.f1)), .v (.int .i64 ((a0.getD v5.toNat zD).e.f2)), .v (.int .i64 ((a0.getD v5.toNat zD).e.f3)), .v (.bool ((a0.getD v5.toNat zD).e.f4)), .v (.bool ((a0.getD v5.toNat zD).e.f5)), .v (.int .i64 ((a0.getD v5.toNat zD).n)), .v (.int .i64 ((a0.getD v5.toNat zD).p))]))), (8, .u (.c (.err r11.2))), (9, tB r12)] (cgt 3 [61, 62, 63] (cot 4 (os_plain rfl rfl (c_call (AC.k (RFill.ac (h := hr14))) ⟨_, Try.func17, rfl, by kernel_rfl⟩ rfl (hand_root (r := 5) (c := bufC v4) (by kernel_rfl) (by kernel_rfl) rfl (.rd (.copy (by kernel_rfl) rfl) .nil)) rfl (by kernel_rfl))) .nil)) ?_
              exact ⟨r14, (Option.some.inj h).symm, of_weak (by kernel_rfl)⟩
            have h := cond_f hb h
            refine r_condF hb rfl ?_
            refine r_skip ?_
            exact ⟨v4, (Option.some.inj h).symm, of_weak (by kernel_rfl)⟩
          rintro y13 rfl
          replace h := h_y13
          try dsimp only at h
          refine r_seq ?_
          rcases Bool.eq_false_or_eq_true (r12) with hb | hb
          · have h := cond_t hb h
            have hs15 := hb
            rcases Bool.eq_false_or_eq_true (!(r11.2 == none)) with hb | hb
            · have h := cond_t hb h
              have hs16 := hb
              refine rr [(0, .u (.c (.sl false 9 (a0.map eD)))), (3, tB r1), (4, .u (.c (bufC r11.1))), (5, .u (.c (bufC y13))), (6, tI v5), (7, .u (.c (.pt true [.v (.int .i64 ((a0.getD v5.toNat zD).w)), .v (.int .i64 ((a0.getD v5.toNat zD).e.f0)), .v (.int .i64 ((a0.getD v5.toNat zD).e.f1)), .v (.int .i64 ((a0.getD v5.toNat zD).e.f2)), .v (.int .i64 ((a0.getD v5.toNat zD).e.f3)), .v (.bool ((a0.getD v5.toNat zD).e.f4)), .v (.bool ((a0.getD v5.toNat zD).e.f5)), .v (.int .i64 ((a0.getD v5.toNat zD).n)), .v (.int .i64 ((a0.getD v5.toNat zD).p))]))), (78, tB true)] (cgt 1 [65] (cot 2 (os_ge (d := 66) (t := tB r12) (t' := tB true) (by kernel_rfl) (by rw [hs15])) (cgt 5 [67, 68, 69] (cot 6 (os_ge (d := 70) (t := tB (!(r11.2 == none))) (t' := tB true) (by kernel_rfl) (by rw [hs16])) (cgt 14 [71, 72, 73, 74, 75, 76, 77, 78] .nil))))) ?_
              refine r_condT rfl rfl ?_
              refine r_seq ?_
              refine rr [(2, tB false)] (cgt 1 [2] .nil) ?_
              obtain rfl := Option.some.inj h
              have h : Option.some _ = Option.some r := h_y8
              refine r_ret ?_
              obtain rfl := Option.some.inj h
              exact ⟨.inr rfl, _, _, .cons (.copy rfl rfl rfl) .nil, rfl, outs_of trivial⟩
            have h := cond_f hb h
            have hs17 := hb
            rcases Bool.eq_false_or_eq_true (!r12) with hb | hb
            · have h := cond_t hb h
              have hs18 := hb
              refine rr [(0, .u (.c (.sl false 9 (a0.map eD)))), (3, tB r1), (4, .u (.c (bufC r11.1))), (5, .u (.c (bufC y13))), (6, tI v5), (7, .u (.c (.pt true [.v (.int .i64 ((a0.getD v5.toNat zD).w)), .v (.int .i64 ((a0.getD v5.toNat zD).e.f0)), .v (.int .i64 ((a0.getD v5.toNat zD).e.f1)), .v (.int .i64 ((a0.getD v5.toNat zD).e.f2)), .v (.int .i64 ((a0.getD v5.toNat zD).e.f3)), .v (.bool ((a0.getD v5.toNat zD).e.f4)), .v (.bool ((a0.getD v5.toNat zD).e.f5)), .v (.int .i64 ((a0.getD v5.toNat zD).n)), .v (.int .i64 ((a0.getD v5.toNat zD).p))]))), (78, tB (!(r11.2 == (some 1))))] (cgt 1 [65] (cot 2 (os_ge (d := 66) (t := tB r12) (t' := tB true) (by kernel_rfl) (by rw [hs15])) (cgt 5 [67, 68, 69] (cot 6 (os_ge (d := 70) (t := tB (!(r11.2 == none))) (t' := tB false) (by kernel_rfl) (by rw [hs17])) (cgt 8 [71, 72] (cot 9 (os_ge (d := 73) (t := tB (!r12)) (t' := tB true) (by kernel_rfl) (by rw [hs18])) (cgt 10 [74] (cot 11 (os_gy rfl rfl rfl (by kernel_rfl) (s_iface (n := 1) rfl (errB_ok (by kernel_rfl)) rfl (by kernel_rfl) rfl (by kernel_rfl))) (cgt 14 [76, 77, 78] .nil))))))))) ?_
              rcases Bool.eq_false_or_eq_true (!(r11.2 == (some 1))) with hb | hb
              · have h := cond_t hb h
                refine r_condT hb rfl ?_
                refine r_seq ?_
                refine rr [(2, tB false)] (cgt 1 [2] .nil) ?_
                obtain rfl := Option.some.inj h
                have h : Option.some _ = Option.some r := h_y8
                refine r_ret ?_
                obtain rfl := Option.some.inj h
                exact ⟨.inr rfl, _, _, .cons (.copy rfl rfl rfl) .nil, rfl, outs_of trivial⟩
              have h := cond_f hb h
              refine r_condF hb rfl ?_
              refine r_skip ?_
              exact ⟨(r11.1, y13), (Option.some.inj h).symm, of_weak (by kernel_rfl)⟩
            have h := cond_f hb h
            have hs19 := hb
            refine rr [(0, .u (.c (.sl false 9 (a0.map eD)))), (3, tB r1), (4, .u (.c (bufC r11.1))), (5, .u (.c (bufC y13))), (6, tI v5), (7, .u (.c (.pt true [.v (.int .i64 ((a0.getD v5.toNat zD).w)), .v (.int .i64 ((a0.getD v5.toNat zD).e.f0)), .v (.int .i64 ((a0.getD v5.toNat zD).e.f1)), .v (.int .i64 ((a0.getD v5.toNat zD).e.f2)), .v (.int .i64 ((a0.getD v5.toNat zD).e.f3)), .v (.bool ((a0.getD v5.toNat zD).e.f4)), .v (.bool ((a0.getD v5.toNat zD).e.f5)), .v (.int .i64 ((a0.getD v5.toNat zD).n)), .v (.int .i64 ((a0.getD v5.toNat zD).p))]))), (78, tB false)] (cgt 1 [65] (cot 2 (os_ge (d := 66) (t := tB r12) (t' := tB true) (by kernel_rfl) (by rw [hs15])) (cgt 5 [67, 68, 69] (cot 6 (os_ge (d := 70) (t := tB (!(r11.2 == none))) (t' := tB false) (by kernel_rfl) (by rw [hs17])) (cgt 8 [71, 72] (cot 9 (os_ge (d := 73) (t := tB (!r12)) (t' := tB false) (by kernel_rfl) (by rw [hs19])) (cgt 14 [74, 75, 76, 77, 78] .nil))))))) ?_
            refine r_condF rfl rfl ?_
            refine r_skip ?_
            exact ⟨(r11.1, y13), (Option.some.inj h).symm, of_weak (by kernel_rfl)⟩
          have h := cond_f hb h
          have hs20 := hb
          rcases Bool.eq_false_or_eq_true (!r12) with hb | hb
          · have h := cond_t hb h
            have hs21 := hb
            refine rr [(0, .u (.c (.sl false 9 (a0.map eD)))), (3, tB r1), (4, .u (.c (bufC r11.1))), (5, .u (.c (bufC y13))), (6, tI v5), (7, .u (.c (.pt true [.v (.int .i64 ((a0.getD v5.toNat zD).w)), .v (.int .i64 ((a0.getD v5.toNat zD).e.f0)), .v (.int .i64 ((a0.getD v5.toNat zD).e.f1)), .v (.int .i64 ((a0.getD v5.toNat zD).e.f2)), .v (.int .i64 ((a0.getD v5.toNat zD).e.f3)), .v (.bool ((a0.getD v5.toNat zD).e.f4)), .v (.bool ((a0.getD v5.toNat zD).e.f5)), .v (.int .i64 ((a0.getD v5.toNat zD).n)), .v (.int .i64 ((a0.getD v5.toNat zD).p))]))), (78, tB (!(r11.2 == (some 1))))] (cgt 1 [65] (cot 2 (os_ge (d := 66) (t := tB r12) (t' := tB false) (by kernel_rfl) (by rw [hs20])) (cgt 8 [67, 68, 69, 70, 71, 72] (cot 9 (os_ge (d := 73) (t := tB (!r12)) (t' := tB true) (by kernel_rfl) (by rw [hs21])) (cgt 10 [74] (cot 11 (os_gy rfl rfl rfl (by kernel_rfl) (s_iface (n := 1) rfl (errB_ok (by kernel_rfl)) rfl (by kernel_rfl) rfl (by kernel_rfl))) (cgt 14 [76, 77, 78] .nil))))))) ?_
            rcases Bool.eq_false_or_eq_true (!(r11.2 == (some 1))) with hb | hb
            · have h := cond_t hb h
              refine r_condT hb rfl ?_
              refine r_seq ?_
              refine rr [(2, tB false)] (cgt 1 [2] .nil) ?_
              obtain rfl := Option.some.inj h
              have h : Option.some _ = Option.some r := h_y8
              refine r_ret ?_
              obtain rfl := Option.some.inj h
              exact ⟨.inr rfl, _, _, .cons (.copy rfl rfl rfl) .nil, rfl, outs_of trivial⟩
            have h := cond_f hb h
            refine r_condF hb rfl ?_
            refine r_skip ?_
            exact ⟨(r11.1, y13), (Option.some.inj h).symm, of_weak (by kernel_rfl)⟩
          have h := cond_f hb h
          have hs22 := hb
          refine rr [(0, .u (.c (.sl false 9 (a0.map eD)))), (3, tB r1), (4, .u (.c (bufC r11.1))), (5, .u (.c (bufC y13))), (6, tI v5), (7, .u (.c (.pt true [.v (.int .i64 ((a0.getD v5.toNat zD).w)), .v (.int .i64 ((a0.getD v5.toNat zD).e.f0)), .v (.int .i64 ((a0.getD v5.toNat zD).e.f1)), .v (.int .i64 ((a0.getD v5.toNat zD).e.f2)), .v (.int .i64 ((a0.getD v5.toNat zD).e.f3)), .v (.bool ((a0.getD v5.toNat zD).e.f4)), .v (.bool ((a0.getD v5.toNat zD).e.f5)), .v (.int .i64 ((a0.getD v5.toNat zD).n)), .v (.int .i64 ((a0.getD v5.toNat zD).p))]))), (78, tB false)] (cgt 1 [65] (cot 2 (os_ge (d := 66) (t := tB r12) (t' := tB false) (by kernel_rfl) (by rw [hs20])) (cgt 8 [67, 68, 69, 70, 71, 72] (cot 9 (os_ge (d := 73) (t := tB (!r12)) (t' := tB false) (by kernel_rfl) (by rw [hs22])) (cgt 14 [74, 75, 76, 77, 78] .nil))))) ?_
          refine r_condF rfl rfl ?_
          refine r_skip ?_
          exact ⟨(r11.1, y13), (Option.some.inj h).symm, of_weak (by kernel_rfl)⟩
        have h := cond_f hb h
        refine r_condF hb rfl ?_
        refine r_seq ?_
        refine rr [(0, .u (.c (.sl false 9 (a0.map eD)))), (3, tB r1), (4, .u (.c (bufC v3))), (5, .u (.c (bufC v4))), (6, tI v5), (7, .u (.c (.pt true [.v (.int .i64 ((a0.getD v5.toNat zD).w)), .v (.int .i64 ((a0.getD v5.toNat zD).e.f0)), .v (.int .i64 ((a0.getD v5.toNat zD).e.f1)), .v (.int .i64 ((a0.getD v5.toNat zD).e.f2)), .v (.int .i64 ((a0.getD v5.toNat zD).e.f3)), .v (.bool ((a0.getD v5.toNat zD).e.f4)), .v (.bool ((a0.getD v5.toNat zD).e.f5)), .v (.int .i64 ((a0.getD v5.toNat zD).n)), .v (.int .i64 ((a0.getD v5.toNat zD).p))]))), (38, tI r9), (79, tB (r9 == 4))] (cgt 2 [80, 79] .nil) ?_
        rcases Bool.eq_false_or_eq_true (r9 == 4) with hb | hb
        · have h := cond_t hb h
          refine r_condT hb rfl ?_
          refine r_seq ?_
          obtain ⟨r23, hr23, h⟩ := bind_some h
          refine rr [(0, .u (.c (.sl false 9 (a0.map eD)))), (3, tB r1), (4, .u (.c (bufC r23.1))), (5, .u (.c (bufC v4))), (6, tI v5), (7, .u (.c (.pt true [.v (.int .i64 ((a0.getD v5.toNat zD).w)), .v (.int .i64 ((a0.getD v5.toNat zD).e.f0)), .v (.int .i64 ((a0.getD v5.toNat zD).e.f1)), .v (.int .i64 ((a0.getD v5.toNat zD).e.f2)), .v (.int .i64 ((a0.getD v5.toNat zD).e.f3)), .v (.bool ((a0.getD v5.toNat zD).e.f4)), .v (.bool ((a0.getD v5.toNat zD).e.f5)), .v (.int .i64 ((a0.getD v5.toNat zD).n)), .v (.int .i64 ((a0.getD v5.toNat zD).p))]))), (10, .u (.c (.err r23.2)))] (cgt 3 [81, 82, 83] (cot 4 (os_plain rfl rfl (c_call (AC.k (Evict.ac (h := hr23))) ⟨_, Try.func18, rfl, by kernel_rfl⟩ rfl (hand_root (r := 4) (c := bufC v3) (by kernel_rfl) (by kernel_rfl) rfl (.rd (.copy (by kernel_rfl) rfl) .nil)) rfl (by kernel_rfl))) (cgt 5 [10] .nil))) ?_
          refine r_seq ?_
          rcases Bool.eq_false_or_eq_true (decide (((a0.getD v5.toNat zD).n) ≥ 0)) with hb | hb
          · have h := cond_t hb h
            have hs24 := hb
            refine r_weak (of_weak (l := [(0, .u (.c (.sl false 9 (a0.map eD)))), (3, tB r1), (4, .u (.c (bufC r23.1))), (5, .u (.c (bufC v4))), (6, tI v5), (7, .u (.c (.pt true [.v (.int .i64 ((a0.getD v5.toNat zD).w)), .v (.int .i64 ((a0.getD v5.toNat zD).e.f0)), .v (.int .i64 ((a0.getD v5.toNat zD).e.f1)), .v (.int .i64 ((a0.getD v5.toNat zD).e.f2)), .v (.int .i64 ((a0.getD v5.toNat zD).e.f3)), .v (.bool ((a0.getD v5.toNat zD).e.f4)), .v (.bool ((a0.getD v5.toNat zD).e.f5)), .v (.int .i64 ((a0.getD v5.toNat zD).n)), .v (.int .i64 ((a0.getD v5.toNat zD).p))]))), (10, .u (.c (.err r23.2)))]) (by kernel_rfl)) ?_
            refine r_anyW (l := [(0, .u (.c (.sl false 9 (a0.map eD)))), (3, tB r1), (4, .u (.c (bufC r23.1))), (5, .u (.c (bufC v4))), (6, tI v5), (7, .u (.c (.pt true [.v (.int .i64 ((a0.getD v5.toNat zD).w)), .v (.int .i64 ((a0.getD v5.toNat zD).e.f0)), .v (.int .i64 ((a0.getD v5.toNat zD).e.f1)), .v (.int .i64 ((a0.getD v5.toNat zD).e.f2)), .v (.int .i64 ((a0.getD v5.toNat zD).e.f3)), .v (.bool ((a0.getD v5.toNat zD).e.f4)), .v (.bool ((a0.getD v5.toNat zD).e.f5)), .v (.int .i64 ((a0.getD v5.toNat zD).n)), .v (.int .i64 ((a0.getD v5.toNat zD).p))]))), (10, .u (.c (.err r23.2))), (11, tB (decide (((a0.getD v5.toNat zD).n) < (v4.l.length : Int))))]) (tab := [[], [0], [1], [2], [3], [4, 3], [3], [6, 3], [7, 3], [8, 3], [9, 3], [5, 10, 3], [3, 11], [12, 3, 0, 1, 2, 3, 4, 5, 6, 7, 8, 9, 10, 11, 12]]) [ev [] [7] 85 (.addr 7 (.d) [] 7), ev [0] [7, 85] 86 (tI ((a0.getD v5.toNat zD).n)), ev [0, 1] [86] 87 (tB (decide (((a0.getD v5.toNat zD).n) ≥ 0))), ev [0, 1, 2] [87] 88 (tB true), ev [0, 1, 2, 3] [7, 88] 89 (.addr 7 (.d) [] 7), ev [0, 1, 2, 3, 4] [7, 88, 89] 90 (tI ((a0.getD v5.toNat zD).n)), ev [0, 1, 2, 3] [5, 88] 91 (.addr 5 (.d) [] 0), ev [0, 1, 2, 3, 6] [88, 91] 92 (.addr 5 (.d) [] 0), ev [0, 1, 2, 3, 6, 7] [88, 92] 93 (.addr 5 (.d) [] 0), ev [0, 1, 2, 3, 6, 7, 8] [5, 88, 93] 94 (.whole 5 (some (.d, [], 0)) 6 ((v4.l.map eE).length)), ev [0, 1, 2, 3, 6, 7, 8, 9] [5, 88, 94] 95 (tI (v4.l.length : Int)), eu 11 [88, 90, 95] 96 (tB (decide (((a0.getD v5.toNat zD).n) < (v4.l.length : Int)))), eu 12 [88, 96] 97 (tB (decide (((a0.getD v5.toNat zD).n) < (v4.l.length : Int)))), eu 13 [97] 11 (tB (decide (((a0.getD v5.toNat zD).n) < (v4.l.length : Int))))] hm (by kernel_rfl) (by kernel_rfl) (by kernel_rfl) (en (en (en (.cons (fun σ hc => e_put hc rfl rfl (os_ge (d := 88) (t := tB (decide (((a0.getD v5.toNat zD).n) ≥ 0))) (t' := tB true) (by kernel_rfl) (by rw [hs24]))) (en (en (en (en (en (en (.cons (fun σ hc => e_put hc rfl rfl (os_to (os_gy rfl rfl rfl (by kernel_rfl) (s_lenV (r := 5) (lo := 0) (n := (v4.l.map eE).length) (pl := (some (.d, [], 0))) (sz := 6) rfl sl22 (by kernel_rfl) rfl (by kernel_rfl))) (t' := tI (v4.l.length : Int)) (by rw [List.length_map]))) (en (en (en .nil)))))))))))))) (by kernel_rfl) ?_
            refine r_seq ?_
            obtain ⟨y25, hy25, h_y25⟩ := bind_some h
            refine r_joinC (α := Buf) (fun x => [(0, .u (.c (.sl false 9 (a0.map eD)))), (3, tB r1), (4, .u (.c (bufC r23.1))), (5, .u (.c (bufC x))), (6, tI v5), (7, .u (.c (.pt true [.v (.int .i64 ((a0.getD v5.toNat zD).w)), .v (.int .i64 ((a0.getD v5.toNat zD).e.f0)), .v (.int .i64 ((a0.getD v5.toNat zD).e.f1)), .v (.int .i64 ((a0.getD v5.toNat zD).e.f2)), .v (.int .i64 ((a0.getD v5.toNat zD).e.f3)), .v (.bool ((a0.getD v5.toNat zD).e.f4)), .v (.bool ((a0.getD v5.toNat zD).e.f5)), .v (.int .i64 ((a0.getD v5.toNat zD).n)), .v (.int .i64 ((a0.getD v5.toNat zD).p))]))), (10, .u (.c (.err r23.2))), (11, tB (decide (((a0.getD v5.toNat zD).n) < (v4.l.length : Int))))]) (fun x => y25 = x) ?_ ?_
            · replace h := hy25
              unfold TlbPlays.j4 at h
              refine r_seq ?_
              refine rr [(0, .u (.c (.sl false 9 (a0.map eD)))), (3, tB r1), (4, .u (.c (bufC r23.1))), (5, .u (.c (bufC v4))), (6, tI v5), (7, .u (.c (.pt true [.v (.int .i64 ((a0.getD v5.toNat zD).w)), .v (.int .i64 ((a0.getD v5.toNat zD).e.f0)), .v (.int .i64 ((a0.getD v5.toNat zD).e.f1)), .v (.int .i64 ((a0.getD v5.toNat zD).e.f2)), .v (.int .i64 ((a0.getD v5.toNat zD).e.f3)), .v (.bool ((a0.getD v5.toNat zD).e.f4)), .v (.bool ((a0.getD v5.toNat zD).e.f5)), .v (.int .i64 ((a0.getD v5.toNat zD).n)), .v (.int .i64 ((a0.getD v5.toNat zD).p))]))), (10, .u (.c (.err r23.2))), (11, tB (decide (((a0.getD v5.toNat zD).n) < (v4.l.length : Int)))), (98, tB (decide (((a0.getD v5.toNat zD).n) < (v4.l.length : Int))))] (cgt 1 [98] .nil) ?_
              rcases Bool.eq_false_or_eq_true (decide (((a0.getD v5.toNat zD).n) < (v4.l.length : Int))) with hb | hb
              · have h := cond_t hb h
                refine r_condT hb rfl ?_
                obtain ⟨hg26, h⟩ := guard_some h
                simp only [Bool.and_eq_true, decide_eq_true_eq] at hg26
                obtain ⟨hg27, h⟩ := guard_some h
                simp only [decide_eq_true_eq] at hg27
                obtain ⟨hg28, h⟩ := guard_some h
                simp only [Bool.and_eq_true, decide_eq_true_eq] at hg28
                obtain ⟨hg29, h⟩ := guard_some h
                simp only [decide_eq_true_eq] at hg29
                refine r_weak (of_weak (l := [(0, .u (.c (.sl false 9 (a0.map eD)))), (3, tB r1), (4, .u (.c (bufC r23.1))), (5, .u (.c (bufC v4))), (6, tI v5), (7, .u (.c (.pt true [.v (.int .i64 ((a0.getD v5.toNat zD).w)), .v (.int .i64 ((a0.getD v5.toNat zD).e.f0)), .v (.int .i64 ((a0.getD v5.toNat zD).e.f1)), .v (.int .i64 ((a0.getD v5.toNat zD).e.f2)), .v (.int .i64 ((a0.getD v5.toNat zD).e.f3)), .v (.bool ((a0.getD v5.toNat zD).e.f4)), .v (.bool ((a0.getD v5.toNat zD).e.f5)), .v (.int .i64 ((a0.getD v5.toNat zD).n)), .v (.int .i64 ((a0.getD v5.toNat zD).p))]))), (10, .u (.c (.err r23.2))), (11, tB (decide (((a0.getD v5.toNat zD).n) < (v4.l.length : Int)))), (98, tB (decide (((a0.getD v5.toNat zD).n) < (v4.l.length : Int))))]) (by kernel_rfl)) ?_
                refine r_anyW (l := [(0, .u (.c (.sl false 9 (a0.map eD)))), (3, tB r1), (4, .u (.c (bufC r23.1))), (5, .u (.c (.pt true [.sl true 6 ((((v4.l.drop (0 + 0)).take ((((a0.getD v5.toNat zD).n).toNat - 0))) ++ ((v4.l.drop (0 + (i64.wrap (((a0.getD v5.toNat zD).n) + 1)).toNat)).take (((v4.l.map eE).length - (i64.wrap (((a0.getD v5.toNat zD).n) + 1)).toNat)))).map eE), .v (.bool v4.b)]))), (6, tI v5), (7, .u (.c (.pt true [.v (.int .i64 ((a0.getD v5.toNat zD).w)), .v (.int .i64 ((a0.getD v5.toNat zD).e.f0)), .v (.int .i64 ((a0.getD v5.toNat zD).e.f1)), .v (.int .i64 ((a0.getD v5.toNat zD).e.f2)), .v (.int .i64 ((a0.getD v5.toNat zD).e.f3)), .v (.bool ((a0.getD v5.toNat zD).e.f4)), .v (.bool ((a0.getD v5.toNat zD).e.f5)), .v (.int .i64 ((a0.getD v5.toNat zD).n)), .v (.int .i64 ((a0.getD v5.toNat zD).p))]))), (10, .u (.c (.err r23.2))), (11, tB (decide (((a0.getD v5.toNat zD).n) < (v4.l.length : Int))))]) (tab := [[], [], [], [2], [3], [4], [], [6], [5, 7], [1, 8], [], [10], [11], [12], [], [14], [15], [13, 16], [9, 17, 9], [0, 0, 1, 2, 3, 4, 5, 6, 7, 8, 9, 10, 11, 12, 13, 14, 15, 16, 17, 18], [19, 0, 1, 2, 3, 4, 5, 6, 7, 8, 9, 10, 11, 12, 13, 14, 15, 16, 17, 18], [20, 18, 18, 0, 1, 2, 3, 4, 5, 6, 7, 8, 9, 10, 11, 12, 13, 14, 15, 16, 17, 18]]) [ev [] [5] 99 (.addr 5 (.d) [] 0), ev [] [] 100 (.u (.c (.x emptyQ))), ev [] [5] 101 (.addr 5 (.d) [] 0), ev [2] [101] 102 (.addr 5 (.d) [] 0), ev [2, 3] [102] 103 (.addr 5 (.d) [] 0), ev [2, 3, 4] [5, 103] 104 (.whole 5 (some (.d, [], 0)) 6 ((v4.l.map eE).length)), ev [] [7] 105 (.addr 7 (.d) [] 7), ev [6] [7, 105] 106 (tI ((a0.getD v5.toNat zD).n)), ev [2, 3, 4, 5, 6, 7] [5, 104, 106] 107 (.view 5 (some (.d, [], 0)) 6 (0 + 0) (((a0.getD v5.toNat zD).n).toNat - 0)), ⟨[1, 2, 3, 4, 5, 6, 7, 8], [5, 100, 107], [(108, .u (.c (.sl true 6 (((v4.l.drop (0 + 0)).take ((((a0.getD v5.toNat zD).n).toNat - 0))).map eE)))), (100, .junk)], some 108, false⟩, ev [] [5] 109 (.addr 5 (.d) [] 0), ev [10] [109] 110 (.addr 5 (.d) [] 0), ev [10, 11] [110] 111 (.addr 5 (.d) [] 0), ev [10, 11, 12] [5, 111] 112 (.whole 5 (some (.d, [], 0)) 6 ((v4.l.map eE).length)), ev [] [7] 113 (.addr 7 (.d) [] 7), ev [14] [7, 113] 114 (tI ((a0.getD v5.toNat zD).n)), ev [14, 15] [114] 115 (tI (i64.wrap (((a0.getD v5.toNat zD).n) + 1))), ev [10, 11, 12, 13, 14, 15, 16] [5, 112, 115] 116 (.view 5 (some (.d, [], 0)) 6 (0 + (i64.wrap (((a0.getD v5.toNat zD).n) + 1)).toNat) ((v4.l.map eE).length - (i64.wrap (((a0.getD v5.toNat zD).n) + 1)).toNat)), ⟨[1, 2, 3, 4, 5, 6, 7, 8, 9, 10, 11, 12, 13, 14, 15, 16, 17], [5, 104, 107, 108, 112, 116], [(117, .u (.c (.sl true 6 ((((v4.l.drop (0 + 0)).take ((((a0.getD v5.toNat zD).n).toNat - 0))) ++ ((v4.l.drop (0 + (i64.wrap (((a0.getD v5.toNat zD).n) + 1)).toNat)).take (((v4.l.map eE).length - (i64.wrap (((a0.getD v5.toNat zD).n) + 1)).toNat)))).map eE)))), (108, .junk), (104, .junk), (107, .junk), (112, .junk), (116, .junk)], some 117, true⟩, eu 19 [99] 118 (.addr 5 (.d) [] 0), eu 20 [118] 119 (.addr 5 (.d) [] 0), ⟨List.range 21, [5, 104, 107, 112, 116, 117, 119], [(5, .u (.c (.pt true [.sl true 6 ((((v4.l.drop (0 + 0)).take ((((a0.getD v5.toNat zD).n).toNat - 0))) ++ ((v4.l.drop (0 + (i64.wrap (((a0.getD v5.toNat zD).n) + 1)).toNat)).take (((v4.l.map eE).length - (i64.wrap (((a0.getD v5.toNat zD).n) + 1)).toNat)))).map eE), .v (.bool v4.b)]))), (117, .junk), (104, .junk), (107, .junk), (112, .junk), (116, .junk)], none, true⟩] hm (by kernel_rfl) (by kernel_rfl) (by kernel_rfl) (en (.cons (fun σ hc => e_put hc rfl rfl (os_plain rfl rfl (s_buildEmpty rfl sliceZ22 rfl (by kernel_rfl)))) (en (en (en (en (en (en (.cons (fun σ hc => e_put hc rfl rfl (os_plain rfl rfl (s_sliceV (r := 5) (pl := (some (.d, [], 0))) (sz := 6) (lo := 0) (n := (v4.l.map eE).length) (lx := none) (hx := (some (.tmp 106))) (l := none) (h := (some ((a0.getD v5.toNat zD).n).toNat)) (l' := 0) (h' := ((a0.getD v5.toNat zD).n).toNat) rfl sl22 (by kernel_rfl) .none (.some (k := .i64) (e := (a0.getD v5.toNat zD).n) (by kernel_rfl) (by have := hg26; omega)) rfl rfl (by first | (rw [List.length_map]; have := hg26; omega) | (have := hg26; omega) | (simp only [List.length_map]; have := hg26; omega)) (by first | (rw [List.length_map]; have := hg26; omega) | (have := hg26; omega) | (simp only [List.length_map]; have := hg26; omega)) rfl (by kernel_rfl) (by kernel_rfl)))) (.cons (fun σ hc => e_eq (os_plain rfl rfl (s_appendEmptyM (f := eE) (l2 := ((v4.l.drop (0 + 0)).take ((((a0.getD v5.toNat zD).n).toNat - 0)))) (i := 100) rfl sliceZ22 (by kernel_rfl) (.v1 (r := 5) (lo := (0 + 0)) (n := (((a0.getD v5.toNat zD).n).toNat - 0)) (off := 0) (s := .d) (p := []) (c := bufC v4) (cs := [.sl true 6 (v4.l.map eE), .v (.bool v4.b)]) (own := true) (rows := v4.l.map eE) (by kernel_rfl) (by kernel_rfl) rfl rfl view_map) eE_copy hg27 (Nat.le_of_ble_eq_true rfl) rfl (by kernel_rfl))) (put_junks_over (l := [100]) hc rfl)) (en (en (en (en (en (en (en (.cons (fun σ hc => e_put hc rfl rfl (os_plain rfl rfl (s_sliceV (r := 5) (pl := (some (.d, [], 0))) (sz := 6) (lo := 0) (n := (v4.l.map eE).length) (lx := (some (.tmp 115))) (hx := none) (l := (some (i64.wrap (((a0.getD v5.toNat zD).n) + 1)).toNat)) (h := none) (l' := (i64.wrap (((a0.getD v5.toNat zD).n) + 1)).toNat) (h' := (v4.l.map eE).length) rfl sl22 (by kernel_rfl) (.some (k := .i64) (e := i64.wrap (((a0.getD v5.toNat zD).n) + 1)) (by kernel_rfl) (by have := hg28; omega)) .none rfl rfl (by first | (rw [List.length_map]; have := hg28; omega) | (have := hg28; omega) | (simp only [List.length_map]; have := hg28; omega)) (Nat.le_refl _) rfl (by kernel_rfl) (by kernel_rfl)))) (.cons (fun σ hc => e_eq (os_toG (os_plain rfl rfl (s_appendM (i := 108) (sz := 6) (rows := ((v4.l.drop (0 + 0)).take ((((a0.getD v5.toNat zD).n).toNat - 0))).map eE) (rows2 := ((v4.l.drop (0 + (i64.wrap (((a0.getD v5.toNat zD).n) + 1)).toNat)).take (((v4.l.map eE).length - (i64.wrap (((a0.getD v5.toNat zD).n) + 1)).toNat))).map eE) rfl sliceZ22 (by kernel_rfl) (.v1 (r := 5) (lo := (0 + (i64.wrap (((a0.getD v5.toNat zD).n) + 1)).toNat)) (n := ((v4.l.map eE).length - (i64.wrap (((a0.getD v5.toNat zD).n) + 1)).toNat)) (off := 0) (s := .d) (p := []) (c := bufC v4) (cs := [.sl true 6 (v4.l.map eE), .v (.bool v4.b)]) (own := true) (rows := v4.l.map eE) (by kernel_rfl) (by kernel_rfl) rfl rfl view_map) (copy_map eE_copy) (lenMap2 hg29) (Nat.le_of_ble_eq_true rfl) rfl (by kernel_rfl))) (t' := .u (.c (.sl true 6 ((((v4.l.drop (0 + 0)).take ((((a0.getD v5.toNat zD).n).toNat - 0))) ++ ((v4.l.drop (0 + (i64.wrap (((a0.getD v5.toNat zD).n) + 1)).toNat)).take (((v4.l.map eE).length - (i64.wrap (((a0.getD v5.toNat zD).n) + 1)).toNat)))).map eE)))) (by simp only [List.map_append])) (call_overD (D := [104, 107, 112, 116]) hc rfl rfl (by kernel_rfl) rfl)) (en (en (.cons (fun σ hc => e_eq (os_plain rfl rfl (s_store (n := 1) (r := 5) (off := 0) (s := .d) (p := []) (c := bufC v4) (cs := [.sl true 6 (v4.l.map eE), .v (.bool v4.b)]) (u := .c (.sl true 6 ((((v4.l.drop (0 + 0)).take ((((a0.getD v5.toNat zD).n).toNat - 0))) ++ ((v4.l.drop (0 + (i64.wrap (((a0.getD v5.toNat zD).n) + 1)).toNat)).take (((v4.l.map eE).length - (i64.wrap (((a0.getD v5.toNat zD).n) + 1)).toNat)))).map eE))) (l := [117]) rfl (by kernel_rfl) (by kernel_rfl) (.move (by kernel_rfl) (by kernel_rfl)) (by kernel_rfl) rfl rfl rfl (Nat.le_of_ble_eq_true rfl) (by kernel_rfl) rfl)) (kill_junks_overD (l := [117]) (D := [104, 107, 112, 116]) hc rfl (by kernel_rfl) rfl)) .nil)))))))))))))))))))))) (by kernel_rfl) ?_
                exact ⟨(⟨(((v4.l.drop (0 + 0)).take ((((a0.getD v5.toNat zD).n).toNat - 0))) ++ ((v4.l.drop (0 + (i64.wrap (((a0.getD v5.toNat zD).n) + 1)).toNat)).take (((v4.l.map eE).length - (i64.wrap (((a0.getD v5.toNat zD).n) + 1)).toNat)))), v4.b⟩ : Buf), (Option.some.inj h).symm, of_weak (by kernel_rfl)⟩
              have h := cond_f hb h
              refine r_condF hb rfl ?_
              refine r_skip ?_
              exact ⟨v4, (Option.some.inj h).symm, of_weak (by kernel_rfl)⟩
            rintro y25 rfl
            replace h := h_y25
            try dsimp only at h
            refine r_seq ?_
            rcases Bool.eq_false_or_eq_true (decide (((a0.getD v5.toNat zD).n) < (v4.l.length : Int))) with hb | hb
            · have h := cond_t hb h
              have hs30 := hb
              rcases Bool.eq_false_or_eq_true (!(r23.2 == none)) with hb | hb
              · have h := cond_t hb h
                have hs31 := hb
                refine rr [(0, .u (.c (.sl false 9 (a0.map eD)))), (3, tB r1), (4, .u (.c (bufC r23.1))), (5, .u (.c (bufC y25))), (6, tI v5), (7, .u (.c (.pt true [.v (.int .i64 ((a0.getD v5.toNat zD).w)), .v (.int .i64 ((a0.getD v5.toNat zD).e.f0)), .v (.int .i64 ((a0.getD v5.toNat zD).e.f1)), .v (.int .i64 ((a0.getD v5.toNat zD).e.f2)), .v (.int .i64 ((a0.getD v5.toNat zD).e.f3)), .v (.bool ((a0.getD v5.toNat zD).e.f4)), .v (.bool ((a0.getD v5.toNat zD).e.f5)), .v (.int .i64 ((a0.getD v5.toNat zD).n)), .v (.int .i64 ((a0.getD v5.toNat zD).p))]))), (133, tB true)] (cgt 1 [120] (cot 2 (os_ge (d := 121) (t := tB (decide (((a0.getD v5.toNat zD).n) < (v4.l.length : Int)))) (t' := tB true) (by kernel_rfl) (by rw [hs30])) (cgt 5 [122, 123, 124] (cot 6 (os_ge (d := 125) (t := tB (!(r23.2 == none))) (t' := tB true) (by kernel_rfl) (by rw [hs31])) (cgt 14 [126, 127, 128, 129, 130, 131, 132, 133] .nil))))) ?_
                refine r_condT rfl rfl ?_
                refine r_seq ?_
                refine rr [(2, tB false)] (cgt 1 [2] .nil) ?_
                obtain rfl := Option.some.inj h
                have h : Option.some _ = Option.some r := h_y8
                refine r_ret ?_
                obtain rfl := Option.some.inj h
                exact ⟨.inr rfl, _, _, .cons (.copy rfl rfl rfl) .nil, rfl, outs_of trivial⟩
              have h := cond_f hb h
              have hs32 := hb
              rcases Bool.eq_false_or_eq_true (!(decide (((a0.getD v5.toNat zD).n) < (v4.l.length : Int)))) with hb | hb
              · have h := cond_t hb h
                have hs33 := hb
                refine rr [(0, .u (.c (.sl false 9 (a0.map eD)))), (3, tB r1), (4, .u (.c (bufC r23.1))), (5, .u (.c (bufC y25))), (6, tI v5), (7, .u (.c (.pt true [.v (.int .i64 ((a0.getD v5.toNat zD).w)), .v (.int .i64 ((a0.getD v5.toNat zD).e.f0)), .v (.int .i64 ((a0.getD v5.toNat zD).e.f1)), .v (.int .i64 ((a0.getD v5.toNat zD).e.f2)), .v (.int .i64 ((a0.getD v5.toNat zD).e.f3)), .v (.bool ((a0.getD v5.toNat zD).e.f4)), .v (.bool ((a0.getD v5.toNat zD).e.f5)), .v (.int .i64 ((a0.getD v5.toNat zD).n)), .v (.int .i64 ((a0.getD v5.toNat zD).p))]))), (133, tB (!(r23.2 == (some 3))))] (cgt 1 [120] (cot 2 (os_ge (d := 121) (t := tB (decide (((a0.getD v5.toNat zD).n) < (v4.l.length : Int)))) (t' := tB true) (by kernel_rfl) (by rw [hs30])) (cgt 5 [122, 123, 124] (cot 6 (os_ge (d := 125) (t := tB (!(r23.2 == none))) (t' := tB false) (by kernel_rfl) (by rw [hs32])) (cgt 8 [126, 127] (cot 9 (os_ge (d := 128) (t := tB (!(decide (((a0.getD v5.toNat zD).n) < (v4.l.length : Int))))) (t' := tB true) (by kernel_rfl) (by rw [hs33])) (cgt 10 [129] (cot 11 (os_gy rfl rfl rfl (by kernel_rfl) (s_iface (n := 3) rfl (errB_ok (by kernel_rfl)) rfl (by kernel_rfl) rfl (by kernel_rfl))) (cgt 14 [131, 132, 133] .nil))))))))) ?_
                rcases Bool.eq_false_or_eq_true (!(r23.2 == (some 3))) with hb | hb
                · have h := cond_t hb h
                  refine r_condT hb rfl ?_
                  refine r_seq ?_
                  refine rr [(2, tB false)] (cgt 1 [2] .nil) ?_
                  obtain rfl := Option.some.inj h
                  have h : Option.some _ = Option.some r := h_y8
                  refine r_ret ?_
                  obtain rfl := Option.some.inj h
                  exact ⟨.inr rfl, _, _, .cons (.copy rfl rfl rfl) .nil, rfl, outs_of trivial⟩
                have h := cond_f hb h
                refine r_condF hb rfl ?_
                refine r_skip ?_
                exact ⟨(r23.1, y25), (Option.some.inj h).symm, of_weak (by kernel_rfl)⟩
              have h := cond_f hb h
              have hs34 := hb
              refine rr [(0, .u (.c (.sl false 9 (a0.map eD)))), (3, tB r1), (4, .u (.c (bufC r23.1))), (5, .u (.c (bufC y25))), (6, tI v5), (7, .u (.c (.pt true [.v (.int .i64 ((a0.getD v5.toNat zD).w)), .v (.int .i64 ((a0.getD v5.toNat zD).e.f0)), .v (.int .i64 ((a0.getD v5.toNat zD).e.f1)), .v (.int .i64 ((a0.getD v5.toNat zD).e.f2)), .v (.int .i64 ((a0.getD v5.toNat zD).e.f3)), .v (.bool ((a0.getD v5.toNat zD).e.f4)), .v (.bool ((a0.getD v5.toNat zD).e.f5)), .v (.int .i64 ((a0.getD v5.toNat zD).n)), .v (.int .i64 ((a0.getD v5.toNat zD).p))]))), (133, tB false)] (cgt 1 [120] (cot 2 (os_ge (d := 121) (t := tB (decide (((a0.getD v5.toNat zD).n) < (v4.l.length : Int)))) (t' := tB true) (by kernel_rfl) (by rw [hs30])) (cgt 5 [122, 123, 124] (cot 6 (os_ge (d := 125) (t := tB (!(r23.2 == none))) (t' := tB false) (by kernel_rfl) (by rw [hs32])) (cgt 8 [126, 127] (cot 9 (os_ge (d := 128) (t := tB (!(decide (((a0.getD v5.toNat zD).n) < (v4.l.length : Int))))) (t' := tB false) (by kernel_rfl) (by rw [hs34])) (cgt 14 [129, 130, 131, 132, 133] .nil))))))) ?_
              refine r_condF rfl rfl ?_
              refine r_skip ?_
              exact ⟨(r23.1, y25), (Option.some.inj h).symm, of_weak (by kernel_rfl)⟩
            have h := cond_f hb h
            have hs35 := hb
            rcases Bool.eq_false_or_eq_true (!(decide (((a0.getD v5.toNat zD).n) < (v4.l.length : Int)))) with hb | hb
            · have h := cond_t hb h
              have hs36 := hb
              refine rr [(0, .u (.c (.sl false 9 (a0.map eD)))), (3, tB r1), (4, .u (.c (bufC r23.1))), (5, .u (.c (bufC y25))), (6, tI v5), (7, .u (.c (.pt true [.v (.int .i64 ((a0.getD v5.toNat zD).w)), .v (.int .i64 ((a0.getD v5.toNat zD).e.f0)), .v (.int .i64 ((a0.getD v5.toNat zD).e.f1)), .v (.int .i64 ((a0.getD v5.toNat zD).e.f2)), .v (.int .i64 ((a0.getD v5.toNat zD).e.f3)), .v (.bool ((a0.getD v5.toNat zD).e.f4)), .v (.bool ((a0.getD v5.toNat zD).e.f5)), .v (.int .i64 ((a0.getD v5.toNat zD).n)), .v (.int .i64 ((a0.getD v5.toNat zD).p))]))), (133, tB (!(r23.2 == (some 3))))] (cgt 1 [120] (cot 2 (os_ge (d := 121) (t := tB (decide (((a0.getD v5.toNat zD).n) < (v4.l.length : Int)))) (t' := tB false) (by kernel_rfl) (by rw [hs35])) (cgt 8 [122, 123, 124, 125, 126, 127] (cot 9 (os_ge (d := 128) (t := tB (!(decide (((a0.getD v5.toNat zD).n) < (v4.l.length : Int))))) (t' := tB true) (by kernel_rfl) (by rw [hs36])) (cgt 10 [129] (cot 11 (os_gy rfl rfl rfl (by kernel_rfl) (s_iface (n := 3) rfl (errB_ok (by kernel_rfl)) rfl (by kernel_rfl) rfl (by kernel_rfl))) (cgt 14 [131, 132, 133] .nil))))))) ?_
              rcases Bool.eq_false_or_eq_true (!(r23.2 == (some 3))) with hb | hb
              · have h := cond_t hb h
                refine r_condT hb rfl ?_
                refine r_seq ?_
                refine rr [(2, tB false)] (cgt 1 [2] .nil) ?_
                obtain rfl := Option.some.inj h
                have h : Option.some _ = Option.some r := h_y8
                refine r_ret ?_
                obtain rfl := Option.some.inj h
                exact ⟨.inr rfl, _, _, .cons (.copy rfl rfl rfl) .nil, rfl, outs_of trivial⟩
              have h := cond_f hb h
              refine r_condF hb rfl ?_
              refine r_skip ?_
              exact ⟨(r23.1, y25), (Option.some.inj h).symm, of_weak (by kernel_rfl)⟩
            have h := cond_f hb h
            have hs37 := hb
            refine rr [(0, .u (.c (.sl false 9 (a0.map eD)))), (3, tB r1), (4, .u (.c (bufC r23.1))), (5, .u (.c (bufC y25))), (6, tI v5), (7, .u (.c (.pt true [.v (.int .i64 ((a0.getD v5.toNat zD).w)), .v (.int .i64 ((a0.getD v5.toNat zD).e.f0)), .v (.int .i64 ((a0.getD v5.toNat zD).e.f1)), .v (.int .i64 ((a0.getD v5.toNat zD).e.f2)), .v (.int .i64 ((a0.getD v5.toNat zD).e.f3)), .v (.bool ((a0.getD v5.toNat zD).e.f4)), .v (.bool ((a0.getD v5.toNat zD).e.f5)), .v (.int .i64 ((a0.getD v5.toNat zD).n)), .v (.int .i64 ((a0.getD v5.toNat zD).p))]))), (133, tB false)] (cgt 1 [120] (cot 2 (os_ge (d := 121) (t := tB (decide (((a0.getD v5.toNat zD).n) < (v4.l.length : Int)))) (t' := tB false) (by kernel_rfl) (by rw [hs35])) (cgt 8 [122, 123, 124, 125, 126, 127] (cot 9 (os_ge (d := 128) (t := tB (!(decide (((a0.getD v5.toNat zD).n) < (v4.l.length : Int))))) (t' := tB false) (by kernel_rfl) (by rw [hs37])) (cgt 14 [129, 130, 131, 132, 133] .nil))))) ?_
            refine r_condF rfl rfl ?_
            refine r_skip ?_
            exact ⟨(r23.1, y25), (Option.some.inj h).symm, of_weak (by kernel_rfl)⟩
          have h := cond_f hb h
          have hs38 := hb
          refine r_weak (of_weak (l := [(0, .u (.c (.sl false 9 (a0.map eD)))), (3, tB r1), (4, .u (.c (bufC r23.1))), (5, .u (.c (bufC v4))), (6, tI v5), (7, .u (.c (.pt true [.v (.int .i64 ((a0.getD v5.toNat zD).w)), .v (.int .i64 ((a0.getD v5.toNat zD).e.f0)), .v (.int .i64 ((a0.getD v5.toNat zD).e.f1)), .v (.int .i64 ((a0.getD v5.toNat zD).e.f2)), .v (.int .i64 ((a0.getD v5.toNat zD).e.f3)), .v (.bool ((a0.getD v5.toNat zD).e.f4)), .v (.bool ((a0.getD v5.toNat zD).e.f5)), .v (.int .i64 ((a0.getD v5.toNat zD).n)), .v (.int .i64 ((a0.getD v5.toNat zD).p))]))), (10, .u (.c (.err r23.2)))]) (by kernel_rfl)) ?_
          refine r_anyW (l := [(0, .u (.c (.sl false 9 (a0.map eD)))), (3, tB r1), (4, .u (.c (bufC r23.1))), (5, .u (.c (bufC v4))), (6, tI v5), (7, .u (.c (.pt true [.v (.int .i64 ((a0.getD v5.toNat zD).w)), .v (.int .i64 ((a0.getD v5.toNat zD).e.f0)), .v (.int .i64 ((a0.getD v5.toNat zD).e.f1)), .v (.int .i64 ((a0.getD v5.toNat zD).e.f2)), .v (.int .i64 ((a0.getD v5.toNat zD).e.f3)), .v (.bool ((a0.getD v5.toNat zD).e.f4)), .v (.bool ((a0.getD v5.toNat zD).e.f5)), .v (.int .i64 ((a0.getD v5.toNat zD).n)), .v (.int .i64 ((a0.getD v5.toNat zD).p))]))), (10, .u (.c (.err r23.2))), (11, tB false)]) (tab := [[], [0], [1], [2], [3], [4, 3], [3], [6, 3], [7, 3], [8, 3], [9, 3], [5, 10, 3], [3, 11], [12, 3, 0, 1, 2, 3, 4, 5, 6, 7, 8, 9, 10, 11, 12]]) [ev [] [7] 85 (.addr 7 (.d) [] 7), ev [0] [7, 85] 86 (tI ((a0.getD v5.toNat zD).n)), ev [0, 1] [86] 87 (tB (decide (((a0.getD v5.toNat zD).n) ≥ 0))), ev [0, 1, 2] [87] 88 (tB false), ev [0, 1, 2, 3] [88] 89 (.tup []), ev [0, 1, 2, 3, 4] [88] 90 (.tup []), ev [0, 1, 2, 3] [88] 91 (.tup []), ev [0, 1, 2, 3, 6] [88] 92 (.tup []), ev [0, 1, 2, 3, 6, 7] [88] 93 (.tup []), ev [0, 1, 2, 3, 6, 7, 8] [88] 94 (.tup []), ev [0, 1, 2, 3, 6, 7, 8, 9] [88] 95 (.tup []), eu 11 [88] 96 (.tup []), eu 12 [88] 97 (tB false), eu 13 [97] 11 (tB false)] hm (by kernel_rfl) (by kernel_rfl) (by kernel_rfl) (en (en (en (.cons (fun σ hc => e_put hc rfl rfl (os_ge (d := 88) (t := tB (decide (((a0.getD v5.toNat zD).n) ≥ 0))) (t' := tB false) (by kernel_rfl) (by rw [hs38]))) (en (en (en (en (en (en (en (en (en (en .nil)))))))))))))) (by kernel_rfl) ?_
          refine r_seq ?_
          obtain ⟨y39, hy39, h_y39⟩ := bind_some h
          refine r_joinC (α := Buf) (fun x => [(0, .u (.c (.sl false 9 (a0.map eD)))), (3, tB r1), (4, .u (.c (bufC r23.1))), (5, .u (.c (bufC x))), (6, tI v5), (7, .u (.c (.pt true [.v (.int .i64 ((a0.getD v5.toNat zD).w)), .v (.int .i64 ((a0.getD v5.toNat zD).e.f0)), .v (.int .i64 ((a0.getD v5.toNat zD).e.f1)), .v (.int .i64 ((a0.getD v5.toNat zD).e.f2)), .v (.int .i64 ((a0.getD v5.toNat zD).e.f3)), .v (.bool ((a0.getD v5.toNat zD).e.f4)), .v (.bool ((a0.getD v5.toNat zD).e.f5)), .v (.int .i64 ((a0.getD v5.toNat zD).n)), .v (.int .i64 ((a0.getD v5.toNat zD).p))]))), (10, .u (.c (.err r23.2))), (11, tB false)]) (fun x => y39 = x) ?_ ?_
          · replace h := hy39
            unfold TlbPlays.j5 at h
            refine r_seq ?_
            refine rr [(0, .u (.c (.sl false 9 (a0.map eD)))), (3, tB r1), (4, .u (.c (bufC r23.1))), (5, .u (.c (bufC v4))), (6, tI v5), (7, .u (.c (.pt true [.v (.int .i64 ((a0.getD v5.toNat zD).w)), .v (.int .i64 ((a0.getD v5.toNat zD).e.f0)), .v (.int .i64 ((a0.getD v5.toNat zD).e.f1)), .v (.int .i64 ((a0.getD v5.toNat zD).e.f2)), .v (.int .i64 ((a0.getD v5.toNat zD).e.f3)), .v (.bool ((a0.getD v5.toNat zD).e.f4)), .v (.bool ((a0.getD v5.toNat zD).e.f5)), .v (.int .i64 ((a0.getD v5.toNat zD).n)), .v (.int .i64 ((a0.getD v5.toNat zD).p))]))), (10, .u (.c (.err r23.2))), (11, tB false), (98, tB false)] (cgt 1 [98] .nil) ?_
            refine r_condF rfl rfl ?_
            refine r_skip ?_
            exact ⟨v4, (Option.some.inj h).symm, of_weak (by kernel_rfl)⟩
          rintro y39 rfl
          replace h := h_y39
          try dsimp only at h
          refine r_seq ?_
          refine rr [(0, .u (.c (.sl false 9 (a0.map eD)))), (3, tB r1), (4, .u (.c (bufC r23.1))), (5, .u (.c (bufC y39))), (6, tI v5), (7, .u (.c (.pt true [.v (.int .i64 ((a0.getD v5.toNat zD).w)), .v (.int .i64 ((a0.getD v5.toNat zD).e.f0)), .v (.int .i64 ((a0.getD v5.toNat zD).e.f1)), .v (.int .i64 ((a0.getD v5.toNat zD).e.f2)), .v (.int .i64 ((a0.getD v5.toNat zD).e.f3)), .v (.bool ((a0.getD v5.toNat zD).e.f4)), .v (.bool ((a0.getD v5.toNat zD).e.f5)), .v (.int .i64 ((a0.getD v5.toNat zD).n)), .v (.int .i64 ((a0.getD v5.toNat zD).p))]))), (133, tB (!(r23.2 == (some 3))))] (cgt 10 [120, 121, 122, 123, 124, 125, 126, 127, 128, 129] (cot 11 (os_gy rfl rfl rfl (by kernel_rfl) (s_iface (n := 3) rfl (errB_ok (by kernel_rfl)) rfl (by kernel_rfl) rfl (by kernel_rfl))) (cgt 14 [131, 132, 133] .nil))) ?_
          rcases Bool.eq_false_or_eq_true (!(r23.2 == (some 3))) with hb | hb
          · have h := cond_t hb h
            refine r_condT hb rfl ?_
            refine r_seq ?_
            refine rr [(2, tB false)] (cgt 1 [2] .nil) ?_
            obtain rfl := Option.some.inj h
            have h : Option.some _ = Option.some r := h_y8
            refine r_ret ?_
            obtain rfl := Option.some.inj h
            exact ⟨.inr rfl, _, _, .cons (.copy rfl rfl rfl) .nil, rfl, outs_of trivial⟩
          have h := cond_f hb h
          refine r_condF hb rfl ?_
          refine r_skip ?_
          exact ⟨(r23.1, y39), (Option.some.inj h).symm, of_weak (by kernel_rfl)⟩
        have h := cond_f hb h
        refine r_condF hb rfl ?_
        refine r_seq ?_
        refine rr [(0, .u (.c (.sl false 9 (a0.map eD)))), (3, tB r1), (4, .u (.c (bufC v3))), (5, .u (.c (bufC v4))), (6, tI v5), (7, .u (.c (.pt true [.v (.int .i64 ((a0.getD v5.toNat zD).w)), .v (.int .i64 ((a0.getD v5.toNat zD).e.f0)), .v (.int .i64 ((a0.getD v5.toNat zD).e.f1)), .v (.int .i64 ((a0.getD v5.toNat zD).e.f2)), .v (.int .i64 ((a0.getD v5.toNat zD).e.f3)), .v (.bool ((a0.getD v5.toNat zD).e.f4)), .v (.bool ((a0.getD v5.toNat zD).e.f5)), .v (.int .i64 ((a0.getD v5.toNat zD).n)), .v (.int .i64 ((a0.getD v5.toNat zD).p))]))), (38, tI r9), (134, tB (r9 == 5))] (cgt 2 [135, 134] .nil) ?_
        rcases Bool.eq_false_or_eq_true (r9 == 5) with hb | hb
        · have h := cond_t hb h
          refine r_condT hb rfl ?_
          refine r_seq ?_
          obtain ⟨r40, hr40, h⟩ := bind_some h
          refine rr [(0, .u (.c (.sl false 9 (a0.map eD)))), (3, tB r1), (4, .u (.c (bufC r40))), (5, .u (.c (bufC v4))), (6, tI v5), (7, .u (.c (.pt true [.v (.int .i64 ((a0.getD v5.toNat zD).w)), .v (.int .i64 ((a0.getD v5.toNat zD).e.f0)), .v (.int .i64 ((a0.getD v5.toNat zD).e.f1)), .v (.int .i64 ((a0.getD v5.toNat zD).e.f2)), .v (.int .i64 ((a0.getD v5.toNat zD).e.f3)), .v (.bool ((a0.getD v5.toNat zD).e.f4)), .v (.bool ((a0.getD v5.toNat zD).e.f5)), .v (.int .i64 ((a0.getD v5.toNat zD).n)), .v (.int .i64 ((a0.getD v5.toNat zD).p))])))] (cgt 5 [136, 137, 138, 139, 140] (cot 6 (os_plain rfl rfl (c_call (AC.k (Page.ac (h := hr40))) ⟨_, Try.func14, rfl, by kernel_rfl⟩ rfl (hand_root (r := 4) (c := bufC v3) (by kernel_rfl) (by kernel_rfl) rfl (.rd (.copy (by kernel_rfl) rfl) (.rd (.copy (by kernel_rfl) rfl) .nil))) rfl (by kernel_rfl))) .nil)) ?_
          refine r_seq ?_
          refine rr [(0, .u (.c (.sl false 9 (a0.map eD)))), (3, tB r1), (4, .u (.c (bufC r40))), (5, .u (.c (bufC v4))), (6, tI v5), (7, .u (.c (.pt true [.v (.int .i64 ((a0.getD v5.toNat zD).w)), .v (.int .i64 ((a0.getD v5.toNat zD).e.f0)), .v (.int .i64 ((a0.getD v5.toNat zD).e.f1)), .v (.int .i64 ((a0.getD v5.toNat zD).e.f2)), .v (.int .i64 ((a0.getD v5.toNat zD).e.f3)), .v (.bool ((a0.getD v5.toNat zD).e.f4)), .v (.bool ((a0.getD v5.toNat zD).e.f5)), .v (.int .i64 ((a0.getD v5.toNat zD).n)), .v (.int .i64 ((a0.getD v5.toNat zD).p))]))), (144, tB (decide (((a0.getD v5.toNat zD).p) ≥ 0)))] (cgt 3 [142, 143, 144] .nil) ?_
          rcases Bool.eq_false_or_eq_true (decide (((a0.getD v5.toNat zD).p) ≥ 0)) with hb | hb
          · have h := cond_t hb h
            refine r_condT hb rfl ?_
            obtain ⟨r41, hr41, h⟩ := bind_some h
            refine rr [(0, .u (.c (.sl false 9 (a0.map eD)))), (3, tB r1), (4, .u (.c (bufC r40))), (5, .u (.c (bufC r41))), (6, tI v5), (7, .u (.c (.pt true [.v (.int .i64 ((a0.getD v5.toNat zD).w)), .v (.int .i64 ((a0.getD v5.toNat zD).e.f0)), .v (.int .i64 ((a0.getD v5.toNat zD).e.f1)), .v (.int .i64 ((a0.getD v5.toNat zD).e.f2)), .v (.int .i64 ((a0.getD v5.toNat zD).e.f3)), .v (.bool ((a0.getD v5.toNat zD).e.f4)), .v (.bool ((a0.getD v5.toNat zD).e.f5)), .v (.int .i64 ((a0.getD v5.toNat zD).n)), .v (.int .i64 ((a0.getD v5.toNat zD).p))])))] (cgt 5 [145, 146, 147, 148, 149] (cot 6 (os_plain rfl rfl (c_call (AC.k (RDrop.ac (h := hr41))) ⟨_, Try.func19, rfl, by kernel_rfl⟩ rfl (hand_root (r := 5) (c := bufC v4) (by kernel_rfl) (by kernel_rfl) rfl (.rd (.copy (by kernel_rfl) rfl) (.rd (.copy (by kernel_rfl) rfl) .nil))) rfl (by kernel_rfl))) .nil)) ?_
            exact ⟨(r40, r41), (Option.some.inj h).symm, of_weak (by kernel_rfl)⟩
          have h := cond_f hb h
          refine r_condF hb rfl ?_
          refine r_skip ?_
          exact ⟨(r40, v4), (Option.some.inj h).symm, of_weak (by kernel_rfl)⟩
        have h := cond_f hb h
        refine r_condF hb rfl ?_
        refine r_seq ?_
        refine rr [(0, .u (.c (.sl false 9 (a0.map eD)))), (3, tB r1), (4, .u (.c (bufC v3))), (5, .u (.c (bufC v4))), (6, tI v5), (7, .u (.c (.pt true [.v (.int .i64 ((a0.getD v5.toNat zD).w)), .v (.int .i64 ((a0.getD v5.toNat zD).e.f0)), .v (.int .i64 ((a0.getD v5.toNat zD).e.f1)), .v (.int .i64 ((a0.getD v5.toNat zD).e.f2)), .v (.int .i64 ((a0.getD v5.toNat zD).e.f3)), .v (.bool ((a0.getD v5.toNat zD).e.f4)), .v (.bool ((a0.getD v5.toNat zD).e.f5)), .v (.int .i64 ((a0.getD v5.toNat zD).n)), .v (.int .i64 ((a0.getD v5.toNat zD).p))]))), (151, tB (r9 == 6))] (cgt 2 [152, 151] .nil) ?_
        rcases Bool.eq_false_or_eq_true (r9 == 6) with hb | hb
        · have h := cond_t hb h
          refine r_condT hb rfl ?_
          refine r_seq ?_
          obtain ⟨r42, hr42, h⟩ := bind_some h
          refine rr [(0, .u (.c (.sl false 9 (a0.map eD)))), (3, tB r1), (4, .u (.c (bufC r42))), (5, .u (.c (bufC v4))), (6, tI v5), (7, .u (.c (.pt true [.v (.int .i64 ((a0.getD v5.toNat zD).w)), .v (.int .i64 ((a0.getD v5.toNat zD).e.f0)), .v (.int .i64 ((a0.getD v5.toNat zD).e.f1)), .v (.int .i64 ((a0.getD v5.toNat zD).e.f2)), .v (.int .i64 ((a0.getD v5.toNat zD).e.f3)), .v (.bool ((a0.getD v5.toNat zD).e.f4)), .v (.bool ((a0.getD v5.toNat zD).e.f5)), .v (.int .i64 ((a0.getD v5.toNat zD).n)), .v (.int .i64 ((a0.getD v5.toNat zD).p))])))] (cgt 3 [153, 154, 155] (cot 4 (os_plain rfl rfl (c_call (AC.k (Space.ac (h := hr42))) ⟨_, Try.func10, rfl, by kernel_rfl⟩ rfl (hand_root (r := 4) (c := bufC v3) (by kernel_rfl) (by kernel_rfl) rfl (.rd (.copy (by kernel_rfl) rfl) .nil)) rfl (by kernel_rfl))) .nil)) ?_
          obtain ⟨r43, hr43, h⟩ := bind_some h
          refine rr [(0, .u (.c (.sl false 9 (a0.map eD)))), (3, tB r1), (4, .u (.c (bufC r42))), (5, .u (.c (bufC r43))), (6, tI v5), (7, .u (.c (.pt true [.v (.int .i64 ((a0.getD v5.toNat zD).w)), .v (.int .i64 ((a0.getD v5.toNat zD).e.f0)), .v (.int .i64 ((a0.getD v5.toNat zD).e.f1)), .v (.int .i64 ((a0.getD v5.toNat zD).e.f2)), .v (.int .i64 ((a0.getD v5.toNat zD).e.f3)), .v (.bool ((a0.getD v5.toNat zD).e.f4)), .v (.bool ((a0.getD v5.toNat zD).e.f5)), .v (.int .i64 ((a0.getD v5.toNat zD).n)), .v (.int .i64 ((a0.getD v5.toNat zD).p))])))] (cgt 3 [157, 158, 159] (cot 4 (os_plain rfl rfl (c_call (AC.k (RDrop.ac (h := hr43))) ⟨_, Try.func19, rfl, by kernel_rfl⟩ rfl (hand_root (r := 5) (c := bufC v4) (by kernel_rfl) (by kernel_rfl) rfl (.rd (.copy (by kernel_rfl) rfl) (.rd (.copy (by kernel_rfl) rfl) .nil))) rfl (by kernel_rfl))) .nil)) ?_
          exact ⟨(r42, r43), (Option.some.inj h).symm, of_weak (by kernel_rfl)⟩
        have h := cond_f hb h
        refine r_condF hb rfl ?_
        refine r_seq ?_
        obtain ⟨r44, hr44, h⟩ := bind_some h
        refine rr [(0, .u (.c (.sl false 9 (a0.map eD)))), (3, tB r1), (4, .u (.c (bufC v3))), (5, .u (.c (bufC v4))), (6, tI v5), (7, .u (.c (.pt true [.v (.int .i64 ((a0.getD v5.toNat zD).w)), .v (.int .i64 ((a0.getD v5.toNat zD).e.f0)), .v (.int .i64 ((a0.getD v5.toNat zD).e.f1)), .v (.int .i64 ((a0.getD v5.toNat zD).e.f2)), .v (.int .i64 ((a0.getD v5.toNat zD).e.f3)), .v (.bool ((a0.getD v5.toNat zD).e.f4)), .v (.bool ((a0.getD v5.toNat zD).e.f5)), .v (.int .i64 ((a0.getD v5.toNat zD).n)), .v (.int .i64 ((a0.getD v5.toNat zD).p))]))), (42, tB (r44 == 0))] (cgt 2 [39, 40] (cot 3 (os_plain rfl rfl (c_callQ (AC.k (paviorlaw05_pick.ac (h := hr44))) ⟨_, Try.func16, rfl, by kernel_rfl⟩ rfl (.cons (.copy (by kernel_rfl) rfl) (.cons (.copy (by kernel_rfl) rfl) .nil)) (by kernel_rfl))) (cgt 4 [42] .nil))) ?_
        rcases Bool.eq_false_or_eq_true (r44 == 0) with hb | hb
        · have h := cond_t hb h
          refine r_condT hb rfl ?_
          refine r_seq ?_
          obtain ⟨r45, hr45, h⟩ := bind_some h
          refine rr [(0, .u (.c (.sl false 9 (a0.map eD)))), (3, tB r1), (4, .u (.c (bufC r45))), (5, .u (.c (bufC v4))), (6, tI v5), (7, .u (.c (.pt true [.v (.int .i64 ((a0.getD v5.toNat zD).w)), .v (.int .i64 ((a0.getD v5.toNat zD).e.f0)), .v (.int .i64 ((a0.getD v5.toNat zD).e.f1)), .v (.int .i64 ((a0.getD v5.toNat zD).e.f2)), .v (.int .i64 ((a0.getD v5.toNat zD).e.f3)), .v (.bool ((a0.getD v5.toNat zD).e.f4)), .v (.bool ((a0.getD v5.toNat zD).e.f5)), .v (.int .i64 ((a0.getD v5.toNat zD).n)), .v (.int .i64 ((a0.getD v5.toNat zD).p))])))] (cgt 1 [43] (cot 2 (os_plain rfl rfl (c_call (AC.k (All.ac (h := hr45))) ⟨_, Try.func20, rfl, by kernel_rfl⟩ rfl (hand_root (r := 4) (c := bufC v3) (by kernel_rfl) (by kernel_rfl) rfl .nil) rfl (by kernel_rfl))) .nil)) ?_
          refine rr [(0, .u (.c (.sl false 9 (a0.map eD)))), (3, tB r1), (4, .u (.c (bufC r45))), (5, .u (.c (.pt true [.sl true 6 ([].map eE), .v (.bool v4.b)]))), (6, tI v5), (7, .u (.c (.pt true [.v (.int .i64 ((a0.getD v5.toNat zD).w)), .v (.int .i64 ((a0.getD v5.toNat zD).e.f0)), .v (.int .i64 ((a0.getD v5.toNat zD).e.f1)), .v (.int .i64 ((a0.getD v5.toNat zD).e.f2)), .v (.int .i64 ((a0.getD v5.toNat zD).e.f3)), .v (.bool ((a0.getD v5.toNat zD).e.f4)), .v (.bool ((a0.getD v5.toNat zD).e.f5)), .v (.int .i64 ((a0.getD v5.toNat zD).n)), .v (.int .i64 ((a0.getD v5.toNat zD).p))])))] (cgt 3 [45, 46, 47] (cot 4 (os_plain rfl rfl (s_store (n := 1) (r := 5) (off := 0) (s := .d) (p := []) (c := bufC v4) (cs := [.sl true 6 (v4.l.map eE), .v (.bool v4.b)]) (u := .c (.sl true 6 ([].map eE))) (l := []) rfl (by kernel_rfl) (by kernel_rfl) (.sl 6) (by kernel_rfl) rfl rfl rfl (Nat.le_of_ble_eq_true rfl) (by kernel_rfl) rfl)) .nil)) ?_
          exact ⟨(r45, (⟨[], v4.b⟩ : Buf)), (Option.some.inj h).symm, of_weak (by kernel_rfl)⟩
        have h := cond_f hb h
        refine r_condF hb rfl ?_
        refine r_skip ?_
        exact ⟨(v3, v4), (Option.some.inj h).symm, of_weak (by kernel_rfl)⟩
      rintro y8v rfl
      replace h := h_y8
      replace h := elim_go h
      try dsimp only at h
      refine r_seq ?_
      obtain ⟨r46, hr46, h⟩ := bind_some h
      refine rr [(0, .u (.c (.sl false 9 (a0.map eD)))), (3, tB r1), (4, .u (.c (bufC r46.1))), (5, .u (.c (bufC y8v.2))), (6, tI v5), (7, .u (.c (.pt true [.v (.int .i64 ((a0.getD v5.toNat zD).w)), .v (.int .i64 ((a0.getD v5.toNat zD).e.f0)), .v (.int .i64 ((a0.getD v5.toNat zD).e.f1)), .v (.int .i64 ((a0.getD v5.toNat zD).e.f2)), .v (.int .i64 ((a0.getD v5.toNat zD).e.f3)), .v (.bool ((a0.getD v5.toNat zD).e.f4)), .v (.bool ((a0.getD v5.toNat zD).e.f5)), .v (.int .i64 ((a0.getD v5.toNat zD).n)), .v (.int .i64 ((a0.getD v5.toNat zD).p))]))), (12, .u (.c (.pt true [.v (.int .i64 r46.2.1.f0), .v (.int .i64 r46.2.1.f1), .v (.int .i64 r46.2.1.f2), .v (.int .i64 r46.2.1.f3), .v (.bool r46.2.1.f4), .v (.bool r46.2.1.f5)]))), (13, tB r46.2.2)] (cgt 5 [162, 163, 164, 165, 166] (cot 6 (os_plain rfl rfl (c_call (AC.k (Find.ac (h := hr46))) ⟨_, Try.func15, rfl, by kernel_rfl⟩ rfl (hand_root (r := 4) (c := bufC y8v.1) (by kernel_rfl) (by kernel_rfl) rfl (.rd (.copy (by kernel_rfl) rfl) (.rd (.copy (by kernel_rfl) rfl) .nil))) rfl (by kernel_rfl))) (cot 7 (os_plain rfl rfl (s_moveT (us := [.agg [.v (.int .i64 r46.2.1.f0), .v (.int .i64 r46.2.1.f1), .v (.int .i64 r46.2.1.f2), .v (.int .i64 r46.2.1.f3), .v (.bool r46.2.1.f4), .v (.bool r46.2.1.f5)], .c (.v (.bool r46.2.2))]) (.inl rfl) (by kernel_rfl) rfl (by kernel_rfl))) (cgt 9 [168, 169] (cot 10 (os_plain rfl rfl (s_alloc rfl zero30 rfl (by kernel_rfl))) (cot 11 (os_plain rfl rfl (s_storeS (n := 6) (r := 12) (off := 0) (s := .d) (p := []) (c := .pt true [.v (.int .i64 0), .v (.int .i64 0), .v (.int .i64 0), .v (.int .i64 0), .v (.bool false), .v (.bool false)]) (cs := [.v (.int .i64 0), .v (.int .i64 0), .v (.int .i64 0), .v (.int .i64 0), .v (.bool false), .v (.bool false)]) (u := .agg [.v (.int .i64 r46.2.1.f0), .v (.int .i64 r46.2.1.f1), .v (.int .i64 r46.2.1.f2), .v (.int .i64 r46.2.1.f3), .v (.bool r46.2.1.f4), .v (.bool r46.2.1.f5)]) rfl (by kernel_rfl) (by kernel_rfl) (by kernel_rfl) rfl (by kernel_rfl) rfl rfl rfl rfl (Nat.le_of_ble_eq_true rfl) (by kernel_rfl) (by kernel_rfl) rfl rfl)) (cgt 12 [13] .nil))))))) ?_
      refine r_seq ?_
      obtain ⟨r47, hr47, h⟩ := bind_some h
      refine rr [(0, .u (.c (.sl false 9 (a0.map eD)))), (3, tB r1), (4, .u (.c (bufC r46.1))), (5, .u (.c (bufC r47.1))), (6, tI v5), (12, .u (.c (.pt true [.v (.int .i64 r46.2.1.f0), .v (.int .i64 r46.2.1.f1), .v (.int .i64 r46.2.1.f2), .v (.int .i64 r46.2.1.f3), .v (.bool r46.2.1.f4), .v (.bool r46.2.1.f5)]))), (13, tB r46.2.2), (14, .u (.c (.pt true [.v (.int .i64 r47.2.1.f0), .v (.int .i64 r47.2.1.f1), .v (.int .i64 r47.2.1.f2), .v (.int .i64 r47.2.1.f3), .v (.bool r47.2.1.f4), .v (.bool r47.2.1.f5)]))), (15, tB r47.2.2)] (cgt 5 [171, 172, 173, 174, 175] (cot 6 (os_plain rfl rfl (c_call (AC.k (RFind.ac (h := hr47))) ⟨_, Try.func21, rfl, by kernel_rfl⟩ rfl (hand_root (r := 5) (c := bufC y8v.2) (by kernel_rfl) (by kernel_rfl) rfl (.rd (.copy (by kernel_rfl) rfl) (.rd (.copy (by kernel_rfl) rfl) .nil))) rfl (by kernel_rfl))) (cot 7 (os_plain rfl rfl (s_moveT (us := [.agg [.v (.int .i64 r47.2.1.f0), .v (.int .i64 r47.2.1.f1), .v (.int .i64 r47.2.1.f2), .v (.int .i64 r47.2.1.f3), .v (.bool r47.2.1.f4), .v (.bool r47.2.1.f5)], .c (.v (.bool r47.2.2))]) (.inl rfl) (by kernel_rfl) rfl (by kernel_rfl))) (cgt 9 [177, 178] (cot 10 (os_plain rfl rfl (s_alloc rfl zero30 rfl (by kernel_rfl))) (cot 11 (os_plain rfl rfl (s_storeS (n := 6) (r := 14) (off := 0) (s := .d) (p := []) (c := .pt true [.v (.int .i64 0), .v (.int .i64 0), .v (.int .i64 0), .v (.int .i64 0), .v (.bool false), .v (.bool false)]) (cs := [.v (.int .i64 0), .v (.int .i64 0), .v (.int .i64 0), .v (.int .i64 0), .v (.bool false), .v (.bool false)]) (u := .agg [.v (.int .i64 r47.2.1.f0), .v (.int .i64 r47.2.1.f1), .v (.int .i64 r47.2.1.f2), .v (.int .i64 r47.2.1.f3), .v (.bool r47.2.1.f4), .v (.bool r47.2.1.f5)]) rfl (by kernel_rfl) (by kernel_rfl) (by kernel_rfl) rfl (by kernel_rfl) rfl rfl rfl rfl (Nat.le_of_ble_eq_true rfl) (by kernel_rfl) (by kernel_rfl) rfl rfl)) (cgt 12 [15] .nil))))))) ?_
      refine r_seq ?_
      rcases Bool.eq_false_or_eq_true (!(r46.2.2 == r47.2.2)) with hb | hb
      · have h := cond_t hb h
        have hs48 := hb
        refine rr [(0, .u (.c (.sl false 9 (a0.map eD)))), (3, tB r1), (4, .u (.c (bufC r46.1))), (5, .u (.c (bufC r47.1))), (6, tI v5), (192, tB true)] (cgt 3 [179, 180, 181] (cot 4 (os_ge (d := 182) (t := tB (!(r46.2.2 == r47.2.2))) (t' := tB true) (by kernel_rfl) (by rw [hs48])) (cgt 14 [183, 184, 185, 186, 187, 188, 189, 190, 191, 192] .nil))) ?_
        refine r_condT rfl rfl ?_
        refine r_seq ?_
        refine rr [(2, tB false)] (cgt 1 [2] .nil) ?_
        refine r_ret ?_
        obtain rfl := Option.some.inj h
        exact ⟨.inr rfl, _, _, .cons (.copy rfl rfl rfl) .nil, rfl, outs_of trivial⟩
      have h := cond_f hb h
      have hs49 := hb
      rcases Bool.eq_false_or_eq_true (!(r46.2.1.f0 == r47.2.1.f0 && (r46.2.1.f1 == r47.2.1.f1 && (r46.2.1.f2 == r47.2.1.f2 && (r46.2.1.f3 == r47.2.1.f3 && (r46.2.1.f4 == r47.2.1.f4 && (r46.2.1.f5 == r47.2.1.f5))))))) with hb | hb
      · have h := cond_t hb h
        have hs50 := hb
        refine rr [(0, .u (.c (.sl false 9 (a0.map eD)))), (3, tB r1), (4, .u (.c (bufC r46.1))), (5, .u (.c (bufC r47.1))), (6, tI v5), (192, tB true)] (cgt 3 [179, 180, 181] (cot 4 (os_ge (d := 182) (t := tB (!(r46.2.2 == r47.2.2))) (t' := tB false) (by kernel_rfl) (by rw [hs49])) (cgt 6 [183, 184] (cot 7 (os_gy rfl rfl rfl (by kernel_rfl) (s_eqA (b := r46.2.1.f0 == r47.2.1.f0 && (r46.2.1.f1 == r47.2.1.f1 && (r46.2.1.f2 == r47.2.1.f2 && (r46.2.1.f3 == r47.2.1.f3 && (r46.2.1.f4 == r47.2.1.f4 && (r46.2.1.f5 == r47.2.1.f5)))))) rfl (.inr rfl) eqAgg30 (by kernel_rfl) rfl rfl rfl rfl rfl rfl (by kernel_rfl))) (cgt 8 [186] (cot 9 (os_ge (d := 187) (t := tB (!(r46.2.1.f0 == r47.2.1.f0 && (r46.2.1.f1 == r47.2.1.f1 && (r46.2.1.f2 == r47.2.1.f2 && (r46.2.1.f3 == r47.2.1.f3 && (r46.2.1.f4 == r47.2.1.f4 && (r46.2.1.f5 == r47.2.1.f5)))))))) (t' := tB true) (by kernel_rfl) (by rw [hs50])) (cgt 14 [188, 189, 190, 191, 192] .nil))))))) ?_
        refine r_condT rfl rfl ?_
        refine r_seq ?_
        refine rr [(2, tB false)] (cgt 1 [2] .nil) ?_
        refine r_ret ?_
        obtain rfl := Option.some.inj h
        exact ⟨.inr rfl, _, _, .cons (.copy rfl rfl rfl) .nil, rfl, outs_of trivial⟩
      have h := cond_f hb h
      have hs51 := hb
      obtain ⟨r52, hr52, h⟩ := bind_some h
      refine rr [(0, .u (.c (.sl false 9 (a0.map eD)))), (3, tB r1), (4, .u (.c (bufC r52.1))), (5, .u (.c (bufC r52.2.1))), (6, tI v5), (192, tB (!r52.2.2))] (cgt 3 [179, 180, 181] (cot 4 (os_ge (d := 182) (t := tB (!(r46.2.2 == r47.2.2))) (t' := tB false) (by kernel_rfl) (by rw [hs49])) (cgt 6 [183, 184] (cot 7 (os_gy rfl rfl rfl (by kernel_rfl) (s_eqA (b := r46.2.1.f0 == r47.2.1.f0 && (r46.2.1.f1 == r47.2.1.f1 && (r46.2.1.f2 == r47.2.1.f2 && (r46.2.1.f3 == r47.2.1.f3 && (r46.2.1.f4 == r47.2.1.f4 && (r46.2.1.f5 == r47.2.1.f5)))))) rfl (.inr rfl) eqAgg30 (by kernel_rfl) rfl rfl rfl rfl rfl rfl (by kernel_rfl))) (cgt 8 [186] (cot 9 (os_ge (d := 187) (t := tB (!(r46.2.1.f0 == r47.2.1.f0 && (r46.2.1.f1 == r47.2.1.f1 && (r46.2.1.f2 == r47.2.1.f2 && (r46.2.1.f3 == r47.2.1.f3 && (r46.2.1.f4 == r47.2.1.f4 && (r46.2.1.f5 == r47.2.1.f5)))))))) (t' := tB false) (by kernel_rfl) (by rw [hs51])) (cgt 11 [188, 189] (cot 12 (os_gy rfl rfl rfl (by kernel_rfl) (c_call (AC.k (same.ac (h := hr52))) ⟨_, Try.func22, rfl, by kernel_rfl⟩ rfl (hand_root (r := 4) (c := bufC r46.1) (by kernel_rfl) (by kernel_rfl) rfl (hand_root (r := 5) (c := bufC r47.1) (by kernel_rfl) (by kernel_rfl) rfl .nil)) rfl (by kernel_rfl))) (cgt 14 [191, 192] .nil))))))))) ?_
      rcases Bool.eq_false_or_eq_true (!r52.2.2) with hb | hb
      · have h := cond_t hb h
        refine r_condT hb rfl ?_
        refine r_seq ?_
        refine rr [(2, tB false)] (cgt 1 [2] .nil) ?_
        refine r_ret ?_
        obtain rfl := Option.some.inj h
        exact ⟨.inr rfl, _, _, .cons (.copy rfl rfl rfl) .nil, rfl, outs_of trivial⟩
      have h := cond_f hb h
      refine r_condF hb rfl ?_
      refine r_skip ?_
      refine rr [(0, .u (.c (.sl false 9 (a0.map eD)))), (3, tB r1), (4, .u (.c (bufC r52.1))), (5, .u (.c (bufC r52.2.1))), (6, tI (i64.wrap (v5 + 1)))] (cgt 3 [30, 31, 6] .nil) ?_
      exact ⟨(r52.1, r52.2.1, i64.wrap (v5 + 1)), h, of_weak (by kernel_rfl)⟩
    have h := cond_f hb h
    refine r_condF hb rfl ?_
    refine r_exit ?_
    refine r_seq ?_
    refine rr [(2, tB r1)] (cgt 2 [193, 2] .nil) ?_
    refine r_ret ?_
    obtain rfl := Option.some.inj h
    exact ⟨.inr rfl, _, _, .cons (.copy rfl rfl rfl) .nil, rfl, outs_of trivial⟩
  have h := cond_f hb h
  have hs53 := hb
  refine rr [(0, .u (.c (.sl false 9 (a0.map eD)))), (3, tB r1), (4, .u (.c (bufC v3))), (5, .u (.c (bufC v4))), (6, tI v5), (29, tB false)] (cgt 2 [22, 23] (cot 3 (os_to (os_plain rfl rfl (s_lenU (own := false) (sz := 9) (rows := (a0.map eD)) rfl sl40 (by kernel_rfl) rfl (by kernel_rfl))) (t' := tI (a0.length : Int)) (by rw [List.length_map])) (cgt 4 [25] (cot 5 (os_ge (d := 26) (t := tB (decide (v5 < (a0.length : Int)))) (t' := tB false) (by kernel_rfl) (by rw [hs53])) (cgt 8 [27, 28, 29] .nil))))) ?_
  refine r_condF rfl rfl ?_
  refine r_exit ?_
  refine r_seq ?_
  refine rr [(2, tB r1)] (cgt 2 [193, 2] .nil) ?_
  refine r_ret ?_
  obtain rfl := Option.some.inj h
  exact ⟨.inr rfl, _, _, .cons (.copy rfl rfl rfl) .nil, rfl, outs_of trivial⟩
end Go.Proofs.Ytfbjhioefkimbaa.V
