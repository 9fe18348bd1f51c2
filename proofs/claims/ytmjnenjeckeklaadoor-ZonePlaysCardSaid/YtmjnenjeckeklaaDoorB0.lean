import Derived.Test.YtmjnenjeckeklaaDoorVY
import Derived.Test.YtmjnenjeckeklaaDoorProg
import Derived.KernelRfl
namespace Go.Proofs.YtmjnenjeckeklaaDoor.V
open Go Go.RowKit Go.Proofs
open Go.IntKind (i64)
set_option linter.unusedVariables false
set_option linter.unusedSimpArgs false
set_option maxRecDepth 100000
theorem hm : Tryd.prog.follows .mixedOrders = true := by kernel_rfl
structure Blk where
  f : Int
  o : Int
def eR (x : Blk) : List C := [.v (.int .i64 x.f), .v (.int .i64 x.o)]
abbrev encR (x : Blk) : U := .agg (eR x)
abbrev zR : Blk := ⟨0, 0⟩
theorem eR_copy (x : Blk) : (eR x).all copyC = true := rfl
def eO : Option Blk → List C
  | some x => eR x
  | none => List.replicate 2 C.dead
theorem eO_flat (x : Option Blk) : (eO x).all flat0 = true := by cases x <;> rfl
theorem eO_some (x : Blk) : eO (some x) = eR x := rfl
theorem eO_some_copy (x : Blk) : (eO (some x)).all copyC = true := rfl
theorem ovl64 : ∀ args w, (callFunc 64 args).run Tryd.prog w = ((Extern.SlicesOverlaps.overlaps #[36, 36] #[4] args).run Tryd.prog w).andThen fun v w' => .ok (.value v) w' := fun args w =>
  run_callFunc_extern Tryd.func64 (by kernel_rfl) (by kernel_rfl) (by kernel_rfl) (e := Extern.SlicesOverlaps.overlaps #[36, 36] #[4]) (by kernel_rfl) args w
structure Sto where
  n : Int
  l : List Blk
def storeC (x : Sto) : C := .pt true [.v (.int .i64 x.n), .sl true 2 (x.l.map eR)]
theorem sl36 : SliceT Tryd.prog 36 2 16 := slB_ok (by kernel_rfl)
theorem sliceZ36 : SliceZ Tryd.prog 36 2 16 [.v (.int .i64 0), .v (.int .i64 0)] := slZ_ok (vs := [(.int .i64 0), (.int .i64 0)]) (by kernel_rfl) (by kernel_rfl) rfl (fun _ _ _ => .cons (F := []) (.v rfl) (.cons (F := []) (.v rfl) (.nil)))
set_option maxHeartbeats 4000000 in
def Clone.f (k : Nat) (a0 : List Blk) : Option ((List Blk)) :=
  (bif decide (([] : List Blk).length + a0.length ≤ 1000000) then some (([] : List Blk) ++ a0) else none)
set_option maxHeartbeats 4000000 in
theorem Clone.ac (k : Nat) (a0 : List Blk) (r : (List Blk)) (h : Clone.f k a0 = some r) : AC Tryd.prog 28 48 [.c (.sl false 2 (a0.map eR))] [none] [.c (.sl true 2 (r.map eR))] := by
  unfold Clone.f at h
  refine ac_intro (fn := Tryd.f48) (pins := []) (rts := [2]) Tryd.func48 rfl Tryd.ntmps48 rfl (Nat.le_of_ble_eq_true rfl) (pins_lt rfl) rfl (fun w R E vs => ?_)
  refine r_weak (of_weak (l := [(0, .u (.c (.sl false 2 (a0.map eR))))]) (by kernel_rfl)) ?_
  refine r_seq ?_
  refine rr [(0, .u (.c (.sl false 2 (a0.map eR))))] (cot 1 (os_plain rfl rfl (s_take (.inr rfl) (.sl 2) rfl (by kernel_rfl))) .nil) ?_
  refine r_seq ?_
  refine r_seq ?_
  refine rr [(0, .u (.c (.sl false 2 (a0.map eR)))), (4, .u (.c (.x (boolQ (a0.map eR = [])))))] (cgt 1 [3] (cot 2 (os_plain rfl rfl (s_isNil (i := 3) (own := false) (sz := 2) (rows := a0.map eR) rfl sl36 (by kernel_rfl) rfl (by kernel_rfl))) .nil)) ?_
  refine r_condU (p := a0.map eR = []) (by kernel_rfl) (fun hp => ?_) ?_
  · obtain rfl := List.map_eq_nil_iff.mp hp
    replace h : some ([] : (List Blk)) = some r := h
    refine r_seq ?_
    refine rr [(2, .u (.c (.sl true 2 ([].map eR))))] (cot 1 (os_plain rfl rfl (s_take (.inr rfl) (.sl 2) rfl (by kernel_rfl))) .nil) ?_
    refine r_ret ?_
    obtain rfl := Option.some.inj h
    exact ⟨.inr rfl, _, _, .cons (.move rfl rfl) .nil, rfl, outs_of trivial⟩
  have h := h
  refine r_skip ?_
  refine r_seq ?_
  obtain ⟨hg1, h⟩ := guard_some h
  simp only [decide_eq_true_eq] at hg1
  refine rr [(2, .u (.c (.sl true 2 ((([] : List Blk) ++ a0).map eR))))] (cot 1 (os_toG (os_plain rfl rfl (s_buildSlice (sz := 2) (len := 0) (us := []) (cs := []) rfl sliceZ36 .nil (by kernel_rfl) (Nat.le_of_ble_eq_true rfl) rfl (by kernel_rfl))) (t' := .u (.c (.sl true 2 (([] : List Blk).map eR)))) (by kernel_rfl)) (cgt 2 [6] (cot 3 (os_toG (os_plain rfl rfl (s_appendM (i := 5) (sz := 2) (rows := ([] : List Blk).map eR) (rows2 := a0.map eR) rfl sliceZ36 (by kernel_rfl) (.u (own := false) (by kernel_rfl)) (copy_map eR_copy) (lenMap2 hg1) (Nat.le_of_ble_eq_true rfl) rfl (by kernel_rfl))) (t' := .u (.c (.sl true 2 ((([] : List Blk) ++ a0).map eR)))) (by simp only [List.map_append])) (cot 4 (os_plain rfl rfl (s_take (u := .c (.sl true 2 ((([] : List Blk) ++ a0).map eR))) (.inr rfl) (.move (by kernel_rfl) rfl) rfl (by kernel_rfl))) .nil)))) ?_
  refine r_ret ?_
  obtain rfl := Option.some.inj h
  exact ⟨.inr rfl, _, _, .cons (.move rfl rfl) .nil, rfl, outs_of trivial⟩
set_option maxHeartbeats 4000000 in
def Delete.f (k : Nat) (a0 : List Blk) (a1 : Int) (a2 : Int) : Option ((List Blk)) :=
  (bif decide (0 ≤ a1) && decide (0 ≤ a2) && decide (0 ≤ (a0.length : Int)) && decide (a1.toNat ≤ a2.toNat) && decide (a2.toNat ≤ (a0.length : Int).toNat) && decide ((a0.length : Int).toNat ≤ a0.length) then (bif a1 == a2 then some a0 else (bif decide (0 ≤ a1) && decide (a1.toNat ≤ a0.length) then (bif decide (0 ≤ a2) && decide (a2.toNat ≤ a0.length) then (bif decide ((a1.toNat - 0) + ((a0.drop (0 + a2.toNat)).take (((a0.map eR).length - a2.toNat))).length ≤ a0.length) then (bif decide (0 ≤ ((((a1.toNat - 0) + ((a0.drop (0 + a2.toNat)).take (((a0.map eR).length - a2.toNat))).length) : Nat) : Int)) && decide (0 ≤ (a0.length : Int)) && decide (((((a1.toNat - 0) + ((a0.drop (0 + a2.toNat)).take (((a0.map eR).length - a2.toNat))).length) : Nat) : Int).toNat ≤ (a0.length : Int).toNat) && decide (0 + (a0.length : Int).toNat ≤ (a0.take ((a1.toNat - 0)) ++ (((a0.drop (0 + a2.toNat)).take (((a0.map eR).length - a2.toNat))) ++ a0.drop ((a1.toNat - 0) + ((a0.drop (0 + a2.toNat)).take (((a0.map eR).length - a2.toNat))).length))).length) then some (((a0.take ((a1.toNat - 0)) ++ (((a0.drop (0 + a2.toNat)).take (((a0.map eR).length - a2.toNat))) ++ a0.drop ((a1.toNat - 0) + ((a0.drop (0 + a2.toNat)).take (((a0.map eR).length - a2.toNat))).length))).take (0 + ((((a1.toNat - 0) + ((a0.drop (0 + a2.toNat)).take (((a0.map eR).length - a2.toNat))).length) : Nat) : Int).toNat) ++ (List.replicate ((a0.length : Int).toNat - ((((a1.toNat - 0) + ((a0.drop (0 + a2.toNat)).take (((a0.map eR).length - a2.toNat))).length) : Nat) : Int).toNat) zR ++ (a0.take ((a1.toNat - 0)) ++ (((a0.drop (0 + a2.toNat)).take (((a0.map eR).length - a2.toNat))) ++ a0.drop ((a1.toNat - 0) + ((a0.drop (0 + a2.toNat)).take (((a0.map eR).length - a2.toNat))).length))).drop ((0 + ((((a1.toNat - 0) + ((a0.drop (0 + a2.toNat)).take (((a0.map eR).length - a2.toNat))).length) : Nat) : Int).toNat) + ((a0.length : Int).toNat - ((((a1.toNat - 0) + ((a0.drop (0 + a2.toNat)).take (((a0.map eR).length - a2.toNat))).length) : Nat) : Int).toNat)))).take ((a1.toNat - 0) + ((a0.drop (0 + a2.toNat)).take (((a0.map eR).length - a2.toNat))).length)) else none) else none) else none) else none)) else none)
set_option maxHeartbeats 4000000 in
theorem Delete.ac (k : Nat) (a0 : List Blk) (a1 : Int) (a2 : Int) (r : (List Blk)) (h : Delete.f k a0 a1 a2 = some r) : AC Tryd.prog 28 56 [.c (.sl true 2 (a0.map eR)), .c (.v (.int .i64 a1)), .c (.v (.int .i64 a2))] [none, none, none] [.c (.sl true 2 (r.map eR))] := by
  unfold Delete.f at h
  refine ac_intro (fn := Tryd.f56) (pins := []) (rts := [6]) Tryd.func56 rfl Tryd.ntmps56 rfl (Nat.le_of_ble_eq_true rfl) (pins_lt rfl) rfl (fun w R E vs => ?_)
  refine r_weak (of_weak (l := [(0, .u (.c (.sl true 2 (a0.map eR)))), (1, tI a1), (2, tI a2)]) (by kernel_rfl)) ?_
  refine r_seq ?_
  refine rr [(0, .u (.c (.sl true 2 (a0.map eR)))), (1, tI a1), (2, tI a2)] (cot 1 (os_plain rfl rfl (s_take (.inr rfl) (.sl 2) rfl (by kernel_rfl))) .nil) ?_
  refine r_seq ?_
  obtain ⟨hg1, h⟩ := guard_some h
  simp only [Bool.and_eq_true, decide_eq_true_eq] at hg1
  refine rr [(0, .u (.c (.sl true 2 (a0.map eR)))), (1, tI a1), (2, tI a2)] (cgt 4 [8, 9, 10, 11] (cot 5 (os_to (os_plain rfl rfl (s_lenV (r := 0) (lo := 0) (n := (a0.map eR).length) (pl := none) (sz := 2) rfl sl36 (by kernel_rfl) rfl (by kernel_rfl))) (t' := tI (a0.length : Int)) (by rw [List.length_map])) (cot 6 (os_plain rfl rfl (s_slice3 (r := 0) (pl := none) (sz := 2) (lo := 0) (n := (a0.map eR).length) (lx := (some (.tmp 9))) (hx := (some (.tmp 10))) (mx := (some (.tmp 12))) (l := (some a1.toNat)) (h := (some a2.toNat)) (m := (some (a0.length : Int).toNat)) (l' := a1.toNat) (h' := a2.toNat) (m' := (a0.length : Int).toNat) rfl sl36 (by kernel_rfl) (.some (k := .i64) (e := a1) (by kernel_rfl) (by have := hg1; omega)) (.some (k := .i64) (e := a2) (by kernel_rfl) (by have := hg1; omega)) (.some (k := .i64) (e := (a0.length : Int)) (by kernel_rfl) (by have := hg1; omega)) rfl rfl rfl (by first | (rw [List.length_map]; have := hg1; omega) | (have := hg1; omega) | (simp only [List.length_map]; have := hg1; omega)) (by first | (rw [List.length_map]; have := hg1; omega) | (have := hg1; omega) | (simp only [List.length_map]; have := hg1; omega)) (by first | (rw [List.length_map]; have := hg1; omega) | (have := hg1; omega) | (simp only [List.length_map]; have := hg1; omega)) rfl (by kernel_rfl))) .nil))) ?_
  refine r_seq ?_
  refine r_seq ?_
  refine rr [(0, .u (.c (.sl true 2 (a0.map eR)))), (1, tI a1), (2, tI a2), (16, tB (a1 == a2))] (cgt 3 [14, 15, 16] .nil) ?_
  rcases Bool.eq_false_or_eq_true (a1 == a2) with hb | hb
  · have h := cond_t hb h
    refine r_condT hb rfl ?_
    refine r_seq ?_
    refine rr [(6, .u (.c (.sl true 2 (a0.map eR))))] (cot 1 (os_plain rfl rfl (s_take (u := .c (.sl true 2 (a0.map eR))) (.inl rfl) (.move (by kernel_rfl) rfl) rfl (by kernel_rfl))) (cot 2 (os_plain rfl rfl (s_take (u := .c (.sl true 2 (a0.map eR))) (.inr rfl) (.move (by kernel_rfl) rfl) rfl (by kernel_rfl))) .nil)) ?_
    refine r_ret ?_
    obtain rfl := Option.some.inj h
    exact ⟨.inr rfl, _, _, .cons (.move rfl rfl) .nil, rfl, outs_of trivial⟩
  have h := cond_f hb h
  refine r_condF hb rfl ?_
  refine r_skip ?_
  refine r_seq ?_
  refine rr [(0, .whole 18 none 2 ((a0.map eR).length)), (1, tI a1), (2, tI a2), (7, tI (a0.length : Int)), (18, .u (.c (.sl true 2 (a0.map eR))))] (cot 1 (os_plain rfl rfl (s_reroot (i := 0) (sz := 2) (rows := a0.map eR) rfl (by kernel_rfl) rfl (by kernel_rfl) (by kernel_rfl))) (cot 2 (os_to (os_plain rfl rfl (s_lenV (r := 18) (lo := 0) (n := (a0.map eR).length) (pl := none) (sz := 2) rfl sl36 (by kernel_rfl) rfl (by kernel_rfl))) (t' := tI (a0.length : Int)) (by rw [List.length_map])) (cgt 3 [7] .nil))) ?_
  refine r_seq ?_
  obtain ⟨hg2, h⟩ := guard_some h
  simp only [Bool.and_eq_true, decide_eq_true_eq] at hg2
  obtain ⟨hg3, h⟩ := guard_some h
  simp only [Bool.and_eq_true, decide_eq_true_eq] at hg3
  obtain ⟨hg4, h⟩ := guard_some h
  simp only [decide_eq_true_eq] at hg4
  refine r_weak (of_weak (l := [(0, .whole 18 none 2 ((a0.map eR).length)), (1, tI a1), (2, tI a2), (7, tI (a0.length : Int)), (18, .u (.c (.sl true 2 (a0.map eR))))]) (by kernel_rfl)) ?_
  refine r_anyW (l := [(0, .view 18 none 2 0 ((a1.toNat - 0) + ((a0.drop (0 + a2.toNat)).take (((a0.map eR).length - a2.toNat))).length)), (7, tI (a0.length : Int)), (18, .u (.c (.sl true 2 ((a0.take ((a1.toNat - 0)) ++ (((a0.drop (0 + a2.toNat)).take (((a0.map eR).length - a2.toNat))) ++ a0.drop ((a1.toNat - 0) + ((a0.drop (0 + a2.toNat)).take (((a0.map eR).length - a2.toNat))).length))).map eR))))]) (tab := [[], [], [0, 1], [], [], [3, 4], [2, 5], [6, 6, 0, 1, 2, 3, 4, 5, 6]]) [ev [] [0] 20 (.whole 18 none 2 ((a0.map eR).length)), ev [] [1] 21 (tI a1), ev [0, 1] [18, 20, 21] 22 (.view 18 none 2 (0 + 0) (a1.toNat - 0)), ev [] [0] 23 (.whole 18 none 2 ((a0.map eR).length)), ev [] [2] 24 (tI a2), ev [3, 4] [18, 23, 24] 25 (.view 18 none 2 (0 + a2.toNat) ((a0.map eR).length - a2.toNat)), ⟨List.range 6, [18, 22, 25], [(26, .view 18 none 2 0 ((a1.toNat - 0) + ((a0.drop (0 + a2.toNat)).take (((a0.map eR).length - a2.toNat))).length)), (18, .u (.c (.sl true 2 ((a0.take ((a1.toNat - 0)) ++ (((a0.drop (0 + a2.toNat)).take (((a0.map eR).length - a2.toNat))) ++ a0.drop ((a1.toNat - 0) + ((a0.drop (0 + a2.toNat)).take (((a0.map eR).length - a2.toNat))).length))).map eR))))], some 26, true⟩, eu 7 [26] 0 (.view 18 none 2 0 ((a1.toNat - 0) + ((a0.drop (0 + a2.toNat)).take (((a0.map eR).length - a2.toNat))).length))] hm (by kernel_rfl) (by kernel_rfl) (by kernel_rfl) (en (en (.cons (fun σ hc => e_put hc rfl rfl (os_plain rfl rfl (s_sliceV (r := 18) (pl := none) (sz := 2) (lo := 0) (n := (a0.map eR).length) (lx := none) (hx := (some (.tmp 21))) (l := none) (h := (some a1.toNat)) (l' := 0) (h' := a1.toNat) rfl sl36 (by kernel_rfl) .none (.some (k := .i64) (e := a1) (by kernel_rfl) (by have := hg2; omega)) rfl rfl (by first | (rw [List.length_map]; have := hg2; omega) | (have := hg2; omega) | (simp only [List.length_map]; have := hg2; omega)) (by first | (rw [List.length_map]; have := hg2; omega) | (have := hg2; omega) | (simp only [List.length_map]; have := hg2; omega)) rfl (by kernel_rfl) (by kernel_rfl)))) (en (en (.cons (fun σ hc => e_put hc rfl rfl (os_plain rfl rfl (s_sliceV (r := 18) (pl := none) (sz := 2) (lo := 0) (n := (a0.map eR).length) (lx := (some (.tmp 24))) (hx := none) (l := (some a2.toNat)) (h := none) (l' := a2.toNat) (h' := (a0.map eR).length) rfl sl36 (by kernel_rfl) (.some (k := .i64) (e := a2) (by kernel_rfl) (by have := hg3; omega)) .none rfl rfl (by first | (rw [List.length_map]; have := hg3; omega) | (have := hg3; omega) | (simp only [List.length_map]; have := hg3; omega)) (Nat.le_refl _) rfl (by kernel_rfl) (by kernel_rfl)))) (.cons (fun σ hc => e_eq (os_plain rfl rfl (s_appendInM (f := eR) (l0 := a0) (l2 := ((a0.drop (0 + a2.toNat)).take (((a0.map eR).length - a2.toNat)))) (i := 22) (r := 18) (sz := 2) (l := (a1.toNat - 0)) rfl sl36 (by kernel_rfl) (by kernel_rfl) eR_copy (.v0 (r := 18) (lo := (0 + a2.toNat)) (n := ((a0.map eR).length - a2.toNat)) (own := true) (rows := a0.map eR) (by kernel_rfl) (by kernel_rfl) view_map) hg4 rfl (by kernel_rfl) (by kernel_rfl))) (putkill_over hc rfl rfl rfl)) (en .nil)))))))) (by kernel_rfl) ?_
  refine r_seq ?_
  obtain ⟨hg5, h⟩ := guard_some h
  simp only [Bool.and_eq_true, decide_eq_true_eq] at hg5
  refine rr [(0, .view 18 none 2 0 ((a1.toNat - 0) + ((a0.drop (0 + a2.toNat)).take (((a0.map eR).length - a2.toNat))).length)), (18, .u (.c (.sl true 2 (((a0.take ((a1.toNat - 0)) ++ (((a0.drop (0 + a2.toNat)).take (((a0.map eR).length - a2.toNat))) ++ a0.drop ((a1.toNat - 0) + ((a0.drop (0 + a2.toNat)).take (((a0.map eR).length - a2.toNat))).length))).take (0 + ((((a1.toNat - 0) + ((a0.drop (0 + a2.toNat)).take (((a0.map eR).length - a2.toNat))).length) : Nat) : Int).toNat) ++ (List.replicate ((a0.length : Int).toNat - ((((a1.toNat - 0) + ((a0.drop (0 + a2.toNat)).take (((a0.map eR).length - a2.toNat))).length) : Nat) : Int).toNat) zR ++ (a0.take ((a1.toNat - 0)) ++ (((a0.drop (0 + a2.toNat)).take (((a0.map eR).length - a2.toNat))) ++ a0.drop ((a1.toNat - 0) + ((a0.drop (0 + a2.toNat)).take (((a0.map eR).length - a2.toNat))).length))).drop ((0 + ((((a1.toNat - 0) + ((a0.drop (0 + a2.toNat)).take (((a0.map eR).length - a2.toNat))).length) : Nat) : Int).toNat) + ((a0.length : Int).toNat - ((((a1.toNat - 0) + ((a0.drop (0 + a2.toNat)).take (((a0.map eR).length - a2.toNat))).length) : Nat) : Int).toNat)))).map eR))))] (cgt 2 [27, 28] (cot 3 (os_plain rfl rfl (s_lenV (r := 18) (lo := 0) (n := ((a1.toNat - 0) + ((a0.drop (0 + a2.toNat)).take (((a0.map eR).length - a2.toNat))).length)) (pl := none) (sz := 2) rfl sl36 (by kernel_rfl) rfl (by kernel_rfl))) (cgt 4 [30] (cot 5 (os_plain rfl rfl (s_sliceB (r := 18) (own := true) (rows := (a0.take ((a1.toNat - 0)) ++ (((a0.drop (0 + a2.toNat)).take (((a0.map eR).length - a2.toNat))) ++ a0.drop ((a1.toNat - 0) + ((a0.drop (0 + a2.toNat)).take (((a0.map eR).length - a2.toNat))).length))).map eR) (sz := 2) (lo := 0) (n := ((a1.toNat - 0) + ((a0.drop (0 + a2.toNat)).take (((a0.map eR).length - a2.toNat))).length)) (lx := (some (.tmp 29))) (hx := (some (.tmp 30))) (l := (some ((((a1.toNat - 0) + ((a0.drop (0 + a2.toNat)).take (((a0.map eR).length - a2.toNat))).length) : Nat) : Int).toNat)) (h := (some (a0.length : Int).toNat)) (l' := ((((a1.toNat - 0) + ((a0.drop (0 + a2.toNat)).take (((a0.map eR).length - a2.toNat))).length) : Nat) : Int).toNat) (h' := (a0.length : Int).toNat) rfl sl36 (by kernel_rfl) (by kernel_rfl) (.some (k := .i64) (e := ((((a1.toNat - 0) + ((a0.drop (0 + a2.toNat)).take (((a0.map eR).length - a2.toNat))).length) : Nat) : Int)) (by kernel_rfl) (by have := hg5; omega)) (.some (k := .i64) (e := (a0.length : Int)) (by kernel_rfl) (by have := hg5; omega)) rfl rfl (by first | (rw [List.length_map]; have := hg5; omega) | (have := hg5; omega) | (simp only [List.length_map]; have := hg5; omega)) (by first | (rw [List.length_map]; have := hg5; omega) | (have := hg5; omega) | (simp only [List.length_map]; have := hg5; omega)) rfl (by kernel_rfl) (by kernel_rfl))) (cot 6 (os_plain rfl rfl (s_clearM (f := eR) (l := (a0.take ((a1.toNat - 0)) ++ (((a0.drop (0 + a2.toNat)).take (((a0.map eR).length - a2.toNat))) ++ a0.drop ((a1.toNat - 0) + ((a0.drop (0 + a2.toNat)).take (((a0.map eR).length - a2.toNat))).length)))) (z := zR) (i := 31) (r := 18) (sz := 2) (lo := (0 + ((((a1.toNat - 0) + ((a0.drop (0 + a2.toNat)).take (((a0.map eR).length - a2.toNat))).length) : Nat) : Int).toNat)) (n := ((a0.length : Int).toNat - ((((a1.toNat - 0) + ((a0.drop (0 + a2.toNat)).take (((a0.map eR).length - a2.toNat))).length) : Nat) : Int).toNat)) rfl sliceZ36 rfl (by kernel_rfl) (by kernel_rfl) eR_copy (by first | (simp only [List.length_map]; have := hg5; omega) | (have h0 := hg5; simp only [List.length_map, List.length_take, List.length_drop, List.length_append, List.length_replicate] at h0 ⊢; omega)) rfl)) .nil))))) ?_
  refine r_seq ?_
  refine rr [(6, .u (.c (.sl true 2 ((((a0.take ((a1.toNat - 0)) ++ (((a0.drop (0 + a2.toNat)).take (((a0.map eR).length - a2.toNat))) ++ a0.drop ((a1.toNat - 0) + ((a0.drop (0 + a2.toNat)).take (((a0.map eR).length - a2.toNat))).length))).take (0 + ((((a1.toNat - 0) + ((a0.drop (0 + a2.toNat)).take (((a0.map eR).length - a2.toNat))).length) : Nat) : Int).toNat) ++ (List.replicate ((a0.length : Int).toNat - ((((a1.toNat - 0) + ((a0.drop (0 + a2.toNat)).take (((a0.map eR).length - a2.toNat))).length) : Nat) : Int).toNat) zR ++ (a0.take ((a1.toNat - 0)) ++ (((a0.drop (0 + a2.toNat)).take (((a0.map eR).length - a2.toNat))) ++ a0.drop ((a1.toNat - 0) + ((a0.drop (0 + a2.toNat)).take (((a0.map eR).length - a2.toNat))).length))).drop ((0 + ((((a1.toNat - 0) + ((a0.drop (0 + a2.toNat)).take (((a0.map eR).length - a2.toNat))).length) : Nat) : Int).toNat) + ((a0.length : Int).toNat - ((((a1.toNat - 0) + ((a0.drop (0 + a2.toNat)).take (((a0.map eR).length - a2.toNat))).length) : Nat) : Int).toNat)))).take ((a1.toNat - 0) + ((a0.drop (0 + a2.toNat)).take (((a0.map eR).length - a2.toNat))).length)).map eR))))] (cgt 1 [32] (cot 2 (os_plain rfl rfl (s_takeViewM (f := eR) (l := ((a0.take ((a1.toNat - 0)) ++ (((a0.drop (0 + a2.toNat)).take (((a0.map eR).length - a2.toNat))) ++ a0.drop ((a1.toNat - 0) + ((a0.drop (0 + a2.toNat)).take (((a0.map eR).length - a2.toNat))).length))).take (0 + ((((a1.toNat - 0) + ((a0.drop (0 + a2.toNat)).take (((a0.map eR).length - a2.toNat))).length) : Nat) : Int).toNat) ++ (List.replicate ((a0.length : Int).toNat - ((((a1.toNat - 0) + ((a0.drop (0 + a2.toNat)).take (((a0.map eR).length - a2.toNat))).length) : Nat) : Int).toNat) zR ++ (a0.take ((a1.toNat - 0)) ++ (((a0.drop (0 + a2.toNat)).take (((a0.map eR).length - a2.toNat))) ++ a0.drop ((a1.toNat - 0) + ((a0.drop (0 + a2.toNat)).take (((a0.map eR).length - a2.toNat))).length))).drop ((0 + ((((a1.toNat - 0) + ((a0.drop (0 + a2.toNat)).take (((a0.map eR).length - a2.toNat))).length) : Nat) : Int).toNat) + ((a0.length : Int).toNat - ((((a1.toNat - 0) + ((a0.drop (0 + a2.toNat)).take (((a0.map eR).length - a2.toNat))).length) : Nat) : Int).toNat))))) (i := 32) (r := 18) (sz := 2) (lo := 0) (n := ((a1.toNat - 0) + ((a0.drop (0 + a2.toNat)).take (((a0.map eR).length - a2.toNat))).length)) (.inr rfl) (by kernel_rfl) rfl (by kernel_rfl) eR_copy rfl (by kernel_rfl))) .nil)) ?_
  refine r_ret ?_
  obtain rfl := Option.some.inj h
  exact ⟨.inr rfl, _, _, .cons (.move rfl rfl) .nil, rfl, outs_of trivial⟩
abbrev Insert.q9 (a0 : List Blk) (a2 : Blk) := i64.wrap ((a0.length : Int) + ([a2].length : Int))
abbrev Insert.q3 (a0 : List Blk) (a2 : Blk) := a0.map some ++ List.replicate ((Insert.q9 a0 a2).toNat - a0.length) none
abbrev Insert.q7 (a1 : Int) (a2 : Blk) := i64.wrap (a1 + ([a2].length : Int))
abbrev Insert.q8 (a0 : List Blk) (a2 : Blk) (a1 : Int) := ((Insert.q3 a0 a2).drop (0 + a1.toNat)).take ((((Insert.q3 a0 a2).map eO).length - a1.toNat))
abbrev Insert.q1 (a0 : List Blk) (a2 : Blk) (a1 : Int) := (Insert.q3 a0 a2).take (0 + (Insert.q7 a1 a2).toNat) ++ ((Insert.q8 a0 a2 a1).take (min (Insert.q8 a0 a2 a1).length ((((Insert.q3 a0 a2).map eO).length - (Insert.q7 a1 a2).toNat))) ++ (Insert.q3 a0 a2).drop ((0 + (Insert.q7 a1 a2).toNat) + (min (Insert.q8 a0 a2 a1).length ((((Insert.q3 a0 a2).map eO).length - (Insert.q7 a1 a2).toNat)))))
abbrev Insert.q6 (a0 : List Blk) (a1 : Int) (a2 : Blk) := a0.take (a1.toNat - 0) ++ List.replicate (i64.wrap ((Insert.q9 a0 a2) - a1)).toNat zR
abbrev Insert.q2 (a0 : List Blk) (a1 : Int) (a2 : Blk) := (Insert.q6 a0 a1 a2).take (0 + a1.toNat) ++ ([a2].take (min [a2].length ((((Insert.q6 a0 a1 a2).map eR).length - a1.toNat))) ++ (Insert.q6 a0 a1 a2).drop ((0 + a1.toNat) + (min [a2].length ((((Insert.q6 a0 a1 a2).map eR).length - a1.toNat)))))
abbrev Insert.q10 (a0 : List Blk) (a1 : Int) := (a0.drop (0 + a1.toNat)).take (((a0.map eR).length - a1.toNat))
abbrev Insert.q4 (a0 : List Blk) (a1 : Int) (a2 : Blk) := (Insert.q2 a0 a1 a2).take (0 + (Insert.q7 a1 a2).toNat) ++ ((Insert.q10 a0 a1).take (min (Insert.q10 a0 a1).length ((((Insert.q2 a0 a1 a2).map eR).length - (Insert.q7 a1 a2).toNat))) ++ (Insert.q2 a0 a1 a2).drop ((0 + (Insert.q7 a1 a2).toNat) + (min (Insert.q10 a0 a1).length ((((Insert.q2 a0 a1 a2).map eR).length - (Insert.q7 a1 a2).toNat)))))
abbrev Insert.q5 (a0 : List Blk) (a2 : Blk) (a1 : Int) := (Insert.q1 a0 a2 a1).take (0 + a1.toNat) ++ (([a2].map some).take (min ([a2].map some).length ((((Insert.q1 a0 a2 a1).map eO).length - a1.toNat))) ++ (Insert.q1 a0 a2 a1).drop ((0 + a1.toNat) + (min ([a2].map some).length ((((Insert.q1 a0 a2 a1).map eO).length - a1.toNat)))))
set_option maxHeartbeats 4000000 in
def Insert.f (k : Nat) (c0 : Nat) (a0 : List Blk) (a1 : Int) (a2 : Blk) : Option ((List Blk)) :=
  (bif decide (0 ≤ a1) && decide (a1.toNat ≤ a0.length) then (bif ([a2].length : Int) == 0 then some (a0.take (a0.map eR).length) else (bif a1 == (a0.length : Int) then (bif decide ((a0.take (a0.map eR).length).length + [a2].length ≤ 1000000) then some ((a0.take (a0.map eR).length) ++ [a2]) else none) else (bif decide ((Insert.q9 a0 a2) > (c0 : Int)) then (bif decide (0 ≤ a1) && decide (a1.toNat ≤ a0.length) then (bif decide (0 < i64.wrap ((Insert.q9 a0 a2) - a1)) && decide (c0 < (a1.toNat - 0) + (i64.wrap ((Insert.q9 a0 a2) - a1)).toNat) && decide ((a1.toNat - 0) + (i64.wrap ((Insert.q9 a0 a2) - a1)).toNat ≤ 1000000) then (bif decide (0 ≤ a1) && decide (a1.toNat ≤ (Insert.q6 a0 a1 a2).length) then (bif decide ((0 + a1.toNat) + ((((Insert.q6 a0 a1 a2).map eR).length - a1.toNat)) ≤ (Insert.q6 a0 a1 a2).length) then (bif decide (0 ≤ (Insert.q7 a1 a2)) && decide ((Insert.q7 a1 a2).toNat ≤ (Insert.q2 a0 a1 a2).length) then (bif decide (0 ≤ a1) && decide (a1.toNat ≤ a0.length) then (bif decide ((0 + (Insert.q7 a1 a2).toNat) + ((((Insert.q2 a0 a1 a2).map eR).length - (Insert.q7 a1 a2).toNat)) ≤ (Insert.q2 a0 a1 a2).length) then some (Insert.q4 a0 a1 a2) else none) else none) else none) else none) else none) else none) else none) else (bif decide (a0.length ≤ (Insert.q9 a0 a2).toNat) && decide ((Insert.q9 a0 a2).toNat ≤ c0) && decide (0 < i64.wrap ((a0.length : Int) + ([a2].length : Int))) then (bif decide (0 ≤ (Insert.q7 a1 a2)) && decide ((Insert.q7 a1 a2).toNat ≤ (Insert.q3 a0 a2).length) then (bif decide (0 ≤ (Insert.q7 a1 a2)) && decide ((Insert.q7 a1 a2).toNat ≤ (Insert.q3 a0 a2).length) then (bif decide (0 ≤ a1) && decide (a1.toNat ≤ (Insert.q3 a0 a2).length) then (bif decide ((0 + (Insert.q7 a1 a2).toNat) + ((((Insert.q3 a0 a2).map eO).length - (Insert.q7 a1 a2).toNat)) ≤ (Insert.q3 a0 a2).length) && ((Insert.q8 a0 a2 a1).take (min (Insert.q8 a0 a2 a1).length ((((Insert.q3 a0 a2).map eO).length - (Insert.q7 a1 a2).toNat)))).all Option.isSome then (bif decide (0 ≤ a1) && decide (a1.toNat ≤ (Insert.q1 a0 a2 a1).length) then (bif decide ((0 + a1.toNat) + ((((Insert.q1 a0 a2 a1).map eO).length - a1.toNat)) ≤ (Insert.q1 a0 a2 a1).length) && (([a2].map some).take (min ([a2].map some).length ((((Insert.q1 a0 a2 a1).map eO).length - a1.toNat)))).all Option.isSome then (bif (Insert.q5 a0 a2 a1).all Option.isSome then some ((Insert.q5 a0 a2 a1).filterMap id) else none) else none) else none) else none) else none) else none) else none) else none)))) else none)
set_option maxHeartbeats 4000000 in
theorem Insert.ac (k : Nat) (a0 : List Blk) (a1 : Int) (a2 : Blk) (r : (List Blk)) (h : ∀ c0 : Nat, a0.length ≤ c0 → Insert.f k c0 a0 a1 a2 = some r) : AC Tryd.prog 28 60 [.c (.sl true 2 (a0.map eR)), .c (.v (.int .i64 a1)), .c (.sl true 2 ([a2].map eR))] [none, none, none] [.c (.sl true 2 (r.map eR))] := by
  unfold Insert.f at h
  refine ac_intro (fn := Tryd.f60) (pins := []) (rts := [6]) Tryd.func60 rfl Tryd.ntmps60 rfl (Nat.le_of_ble_eq_true rfl) (pins_lt rfl) rfl (fun w R E vs => ?_)
  refine r_weak (of_weak (l := [(0, .u (.c (.sl true 2 (a0.map eR)))), (1, tI a1), (2, .u (.c (.sl true 2 ([a2].map eR))))]) (by kernel_rfl)) ?_
  refine r_seq ?_
  refine rr [(0, .u (.c (.sl true 2 (a0.map eR)))), (1, tI a1), (2, .u (.c (.sl true 2 ([a2].map eR))))] (cot 1 (os_plain rfl rfl (s_take (.inr rfl) (.sl 2) rfl (by kernel_rfl))) .nil) ?_
  refine r_seq ?_
  obtain ⟨hg1, _⟩ := guard_some (h a0.length (Nat.le_refl _))
  simp only [Bool.and_eq_true, decide_eq_true_eq] at hg1
  refine rr [(0, .whole 10 none 2 ((a0.map eR).length)), (1, tI a1), (2, .u (.c (.sl true 2 ([a2].map eR)))), (10, .u (.c (.sl true 2 (a0.map eR))))] (cot 1 (os_plain rfl rfl (s_reroot (i := 0) (sz := 2) (rows := a0.map eR) rfl (by kernel_rfl) rfl (by kernel_rfl) (by kernel_rfl))) (cgt 2 [11] (cot 3 (os_plain rfl rfl (s_sliceV (r := 10) (pl := none) (sz := 2) (lo := 0) (n := (a0.map eR).length) (lx := (some (.tmp 11))) (hx := none) (l := (some a1.toNat)) (h := none) (l' := a1.toNat) (h' := (a0.map eR).length) rfl sl36 (by kernel_rfl) (.some (k := .i64) (e := a1) (by kernel_rfl) (by have := hg1; omega)) .none rfl rfl (by first | (rw [List.length_map]; have := hg1; omega) | (have := hg1; omega) | (simp only [List.length_map]; have := hg1; omega)) (Nat.le_refl _) rfl (by kernel_rfl) (by kernel_rfl))) .nil))) ?_
  refine r_pinVal (i := 10) (sz := 2) (rows := a0.map eR) (by kernel_rfl) (by kernel_rfl) (fun adc0 c0 hcc0 hnc0 => ?_)
  rw [List.length_map] at hcc0
  replace h := h c0 hcc0
  obtain ⟨_, h⟩ := guard_some h
  refine r_seq ?_
  refine rr [(0, .whole 10 none 2 ((a0.map eR).length)), (1, tI a1), (2, .u (.c (.sl true 2 ([a2].map eR)))), (7, tI ([a2].length : Int)), (10, .u (.c (.sl true 2 (a0.map eR))))] (cgt 1 [13] (cot 2 (os_to (os_plain rfl rfl (s_lenV (r := 2) (lo := 0) (n := ([a2].map eR).length) (pl := none) (sz := 2) rfl sl36 (by kernel_rfl) rfl (by kernel_rfl))) (t' := tI ([a2].length : Int)) (by rw [List.length_map])) (cgt 3 [7] .nil))) ?_
  refine r_seq ?_
  refine r_seq ?_
  refine rr [(0, .whole 10 none 2 ((a0.map eR).length)), (1, tI a1), (2, .u (.c (.sl true 2 ([a2].map eR)))), (7, tI ([a2].length : Int)), (10, .u (.c (.sl true 2 (a0.map eR)))), (16, tB (([a2].length : Int) == 0))] (cgt 2 [15, 16] .nil) ?_
  rcases Bool.eq_false_or_eq_true (([a2].length : Int) == 0) with hb | hb
  · have h := cond_t hb h
    refine r_condT hb rfl ?_
    refine r_seq ?_
    refine rr [(6, .u (.c (.sl true 2 ((a0.take (a0.map eR).length).map eR))))] (cgt 1 [17] (cot 2 (os_plain rfl rfl (s_takeViewM (f := eR) (l := a0) (i := 17) (r := 10) (sz := 2) (lo := 0) (n := (a0.map eR).length) (.inr rfl) (by kernel_rfl) rfl (by kernel_rfl) eR_copy rfl (by kernel_rfl))) .nil)) ?_
    refine r_ret ?_
    obtain rfl := Option.some.inj h
    exact ⟨.inr rfl, _, _, .cons (.move rfl rfl) .nil, rfl, outs_of trivial⟩
  have h := cond_f hb h
  refine r_condF hb rfl ?_
  refine r_skip ?_
  refine r_seq ?_
  refine rr [(0, .whole 10 none 2 ((a0.map eR).length)), (1, tI a1), (2, .u (.c (.sl true 2 ([a2].map eR)))), (7, tI ([a2].length : Int)), (8, tI (a0.length : Int)), (10, .u (.c (.sl true 2 (a0.map eR))))] (cgt 1 [18] (cot 2 (os_to (os_plain rfl rfl (s_lenV (r := 10) (lo := 0) (n := (a0.map eR).length) (pl := none) (sz := 2) rfl sl36 (by kernel_rfl) rfl (by kernel_rfl))) (t' := tI (a0.length : Int)) (by rw [List.length_map])) (cgt 3 [8] .nil))) ?_
  refine r_seq ?_
  refine r_seq ?_
  refine rr [(0, .whole 10 none 2 ((a0.map eR).length)), (1, tI a1), (2, .u (.c (.sl true 2 ([a2].map eR)))), (7, tI ([a2].length : Int)), (8, tI (a0.length : Int)), (10, .u (.c (.sl true 2 (a0.map eR)))), (22, tB (a1 == (a0.length : Int)))] (cgt 3 [20, 21, 22] .nil) ?_
  rcases Bool.eq_false_or_eq_true (a1 == (a0.length : Int)) with hb | hb
  · have h := cond_t hb h
    refine r_condT hb rfl ?_
    refine r_seq ?_
    obtain ⟨hg2, h⟩ := guard_some h
    simp only [decide_eq_true_eq] at hg2
    refine rr [(6, .u (.c (.sl true 2 (((a0.take (a0.map eR).length) ++ [a2]).map eR))))] (cot 1 (os_plain rfl rfl (s_takeViewM (f := eR) (l := a0) (i := 0) (r := 10) (sz := 2) (lo := 0) (n := (a0.map eR).length) (.inl rfl) (by kernel_rfl) rfl (by kernel_rfl) eR_copy rfl (by kernel_rfl))) (cot 2 (os_plain rfl rfl (s_take (u := .c (.sl true 2 ([a2].map eR))) (.inl rfl) (.move (by kernel_rfl) rfl) rfl (by kernel_rfl))) (cot 3 (os_toG (os_plain rfl rfl (s_appendM (i := 23) (sz := 2) (rows := (a0.take (a0.map eR).length).map eR) (rows2 := [a2].map eR) rfl sliceZ36 (by kernel_rfl) (.v0 (r := 24) (lo := 0) (n := ([a2].map eR).length) (own := true) (rows := [a2].map eR) (by kernel_rfl) (by kernel_rfl) rows_all) (copy_map eR_copy) (lenMap2 hg2) (Nat.le_of_ble_eq_true rfl) rfl (by kernel_rfl))) (t' := .u (.c (.sl true 2 (((a0.take (a0.map eR).length) ++ [a2]).map eR)))) (by simp only [List.map_append])) (cot 4 (os_plain rfl rfl (s_take (u := .c (.sl true 2 (((a0.take (a0.map eR).length) ++ [a2]).map eR))) (.inr rfl) (.move (by kernel_rfl) rfl) rfl (by kernel_rfl))) .nil)))) ?_
    refine r_ret ?_
    obtain rfl := Option.some.inj h
    exact ⟨.inr rfl, _, _, .cons (.move rfl rfl) .nil, rfl, outs_of trivial⟩
  have h := cond_f hb h
  refine r_condF hb rfl ?_
  refine r_skip ?_
  refine r_seq ?_
  refine r_seq ?_
  refine rr [(0, .whole 10 none 2 ((a0.map eR).length)), (1, tI a1), (2, .u (.c (.sl true 2 ([a2].map eR)))), (7, tI ([a2].length : Int)), (8, tI (a0.length : Int)), (10, .u (.c (.sl true 2 (a0.map eR)))), (31, tB (decide ((Insert.q9 a0 a2) > (c0 : Int))))] (cgt 4 [26, 27, 28, 29] (cot 5 (os_plain rfl rfl (s_cap (r := 10) (sz := 2) (n := (a0.map eR).length) (ad := adc0) (len := _) (cap := c0) rfl ⟨_, Tryd.underlying36⟩ (by kernel_rfl) rfl rfl rfl (by kernel_rfl))) (cgt 6 [31] .nil))) ?_
  rcases Bool.eq_false_or_eq_true (decide ((Insert.q9 a0 a2) > (c0 : Int))) with hb | hb
  · have h := cond_t hb h
    refine r_condT hb rfl ?_
    refine r_seq ?_
    obtain ⟨hg3, h⟩ := guard_some h
    simp only [Bool.and_eq_true, decide_eq_true_eq] at hg3
    obtain ⟨hg4, h⟩ := guard_some h
    simp only [Bool.and_eq_true, decide_eq_true_eq] at hg4
    refine rr [(0, .whole 10 none 2 ((a0.map eR).length)), (1, tI a1), (2, .u (.c (.sl true 2 ([a2].map eR)))), (7, tI ([a2].length : Int)), (9, .u (.c (.sl true 2 ((Insert.q6 a0 a1 a2).map eR)))), (10, .u (.c (.sl true 2 (a0.map eR))))] (cgt 2 [32, 33] (cot 3 (os_plain rfl rfl (s_sliceV (r := 10) (pl := none) (sz := 2) (lo := 0) (n := (a0.map eR).length) (lx := none) (hx := (some (.tmp 33))) (l := none) (h := (some a1.toNat)) (l' := 0) (h' := a1.toNat) rfl sl36 (by kernel_rfl) .none (.some (k := .i64) (e := a1) (by kernel_rfl) (by have := hg3; omega)) rfl rfl (by first | (rw [List.length_map]; have := hg3; omega) | (have := hg3; omega) | (simp only [List.length_map]; have := hg3; omega)) (by first | (rw [List.length_map]; have := hg3; omega) | (have := hg3; omega) | (simp only [List.length_map]; have := hg3; omega)) rfl (by kernel_rfl) (by kernel_rfl))) (cgt 8 [35, 36, 37, 38, 39] (cot 9 (os_plain rfl rfl (s_appendZerosM (f := eR) (l0 := a0) (z := zR) (i := 34) (r := 10) (sz := 2) (l := (a1.toNat - 0)) (e := i64.wrap ((Insert.q9 a0 a2) - a1)) (ad := adc0) (len := _) (cap := c0) rfl sliceZ36 rfl Tryd.underlying3 (by kernel_rfl) (by kernel_rfl) eR_copy (by kernel_rfl) rfl rfl hg4.1.1 hg4.1.2 hg4.2 (Nat.le_of_ble_eq_true rfl) rfl (by kernel_rfl))) (cot 10 (os_plain rfl rfl (s_take (u := .c (.sl true 2 ((Insert.q6 a0 a1 a2).map eR))) (.inr rfl) (.move (by kernel_rfl) rfl) rfl (by kernel_rfl))) .nil))))) ?_
    refine r_seq ?_
    obtain ⟨hg5, h⟩ := guard_some h
    simp only [Bool.and_eq_true, decide_eq_true_eq] at hg5
    obtain ⟨hg6, h⟩ := guard_some h
    simp only [Bool.and_eq_true, decide_eq_true_eq] at hg6
    refine rr [(0, .whole 10 none 2 ((a0.map eR).length)), (1, tI a1), (7, tI ([a2].length : Int)), (9, .u (.c (.sl true 2 ((Insert.q2 a0 a1 a2).map eR)))), (10, .u (.c (.sl true 2 (a0.map eR))))] (cgt 2 [41, 42] (cot 3 (os_plain rfl rfl (s_sliceV (r := 9) (pl := none) (sz := 2) (lo := 0) (n := ((Insert.q6 a0 a1 a2).map eR).length) (lx := (some (.tmp 42))) (hx := none) (l := (some a1.toNat)) (h := none) (l' := a1.toNat) (h' := ((Insert.q6 a0 a1 a2).map eR).length) rfl sl36 (by kernel_rfl) (.some (k := .i64) (e := a1) (by kernel_rfl) (by have := hg5; omega)) .none rfl rfl (by first | (rw [List.length_map]; have := hg5; omega) | (have := hg5; omega) | (simp only [List.length_map]; have := hg5; omega)) (Nat.le_refl _) rfl (by kernel_rfl) (by kernel_rfl))) (cot 4 (os_plain rfl rfl (s_take (u := .c (.sl true 2 ([a2].map eR))) (.inl rfl) (.move (by kernel_rfl) rfl) rfl (by kernel_rfl))) (cot 5 (os_plain rfl rfl (s_copyInM (fo := eR) (g := eR) (l := (Insert.q6 a0 a1 a2)) (l2' := [a2]) (l2 := [a2]) (i := 43) (r := 9) (sz := 2) (lo := (0 + a1.toNat)) (n := (((Insert.q6 a0 a1 a2).map eR).length - a1.toNat)) rfl sl36 rfl (by kernel_rfl) (by kernel_rfl) (fun x => flat_of (eR_copy x)) (.v0 (r := 44) (lo := 0) (n := ([a2].map eR).length) (own := true) (rows := [a2].map eR) (by kernel_rfl) (by kernel_rfl) rows_all) (min [a2].length ((((Insert.q6 a0 a1 a2).map eR).length - a1.toNat))) rfl (fun x _ => eR_copy x) hg6 rfl (by kernel_rfl) (by kernel_rfl))) .nil)))) ?_
    refine r_seq ?_
    obtain ⟨hg7, h⟩ := guard_some h
    simp only [Bool.and_eq_true, decide_eq_true_eq] at hg7
    obtain ⟨hg8, h⟩ := guard_some h
    simp only [Bool.and_eq_true, decide_eq_true_eq] at hg8
    obtain ⟨hg9, h⟩ := guard_some h
    simp only [Bool.and_eq_true, decide_eq_true_eq] at hg9
    refine r_weak (of_weak (l := [(0, .whole 10 none 2 ((a0.map eR).length)), (1, tI a1), (7, tI ([a2].length : Int)), (9, .u (.c (.sl true 2 ((Insert.q2 a0 a1 a2).map eR)))), (10, .u (.c (.sl true 2 (a0.map eR))))]) (by kernel_rfl)) ?_
    refine r_anyW (l := [(9, .u (.c (.sl true 2 ((Insert.q4 a0 a1 a2).map eR))))]) (tab := [[], [], [], [1, 2], [0, 3], [], [], [5, 6], [4, 7]]) [ev [] [9] 46 (.whole 9 none 2 (((Insert.q2 a0 a1 a2).map eR).length)), ev [] [1] 47 (tI a1), ev [] [7] 48 (tI ([a2].length : Int)), ev [1, 2] [47, 48] 49 (tI (Insert.q7 a1 a2)), ev [0, 1, 2, 3] [9, 46, 49] 50 (.view 9 none 2 (0 + (Insert.q7 a1 a2).toNat) (((Insert.q2 a0 a1 a2).map eR).length - (Insert.q7 a1 a2).toNat)), ev [] [0] 51 (.whole 10 none 2 ((a0.map eR).length)), ev [] [1] 52 (tI a1), ev [5, 6] [10, 51, 52] 53 (.view 10 none 2 (0 + a1.toNat) ((a0.map eR).length - a1.toNat)), ⟨List.range 8, [9, 10, 50, 53], [(54, tI (((min (Insert.q10 a0 a1).length ((((Insert.q2 a0 a1 a2).map eR).length - (Insert.q7 a1 a2).toNat))) : Nat) : Int)), (9, .u (.c (.sl true 2 ((Insert.q4 a0 a1 a2).map eR))))], some 54, true⟩] hm (by kernel_rfl) (by kernel_rfl) (by kernel_rfl) (en (en (en (en (.cons (fun σ hc => e_put hc rfl rfl (os_plain rfl rfl (s_sliceV (r := 9) (pl := none) (sz := 2) (lo := 0) (n := ((Insert.q2 a0 a1 a2).map eR).length) (lx := (some (.tmp 49))) (hx := none) (l := (some (Insert.q7 a1 a2).toNat)) (h := none) (l' := (Insert.q7 a1 a2).toNat) (h' := ((Insert.q2 a0 a1 a2).map eR).length) rfl sl36 (by kernel_rfl) (.some (k := .i64) (e := Insert.q7 a1 a2) (by kernel_rfl) (by have := hg7; omega)) .none rfl rfl (by first | (rw [List.length_map]; have := hg7; omega) | (have := hg7; omega) | (simp only [List.length_map]; have := hg7; omega)) (Nat.le_refl _) rfl (by kernel_rfl) (by kernel_rfl)))) (en (en (.cons (fun σ hc => e_put hc rfl rfl (os_plain rfl rfl (s_sliceV (r := 10) (pl := none) (sz := 2) (lo := 0) (n := (a0.map eR).length) (lx := (some (.tmp 52))) (hx := none) (l := (some a1.toNat)) (h := none) (l' := a1.toNat) (h' := (a0.map eR).length) rfl sl36 (by kernel_rfl) (.some (k := .i64) (e := a1) (by kernel_rfl) (by have := hg8; omega)) .none rfl rfl (by first | (rw [List.length_map]; have := hg8; omega) | (have := hg8; omega) | (simp only [List.length_map]; have := hg8; omega)) (Nat.le_refl _) rfl (by kernel_rfl) (by kernel_rfl)))) (.cons (fun σ hc => e_eq (os_plain rfl rfl (s_copyInM (fo := eR) (g := eR) (l := (Insert.q2 a0 a1 a2)) (l2' := (Insert.q10 a0 a1)) (l2 := (Insert.q10 a0 a1)) (i := 50) (r := 9) (sz := 2) (lo := (0 + (Insert.q7 a1 a2).toNat)) (n := (((Insert.q2 a0 a1 a2).map eR).length - (Insert.q7 a1 a2).toNat)) rfl sl36 rfl (by kernel_rfl) (by kernel_rfl) (fun x => flat_of (eR_copy x)) (.v0 (r := 10) (lo := (0 + a1.toNat)) (n := ((a0.map eR).length - a1.toNat)) (own := true) (rows := a0.map eR) (by kernel_rfl) (by kernel_rfl) view_map) (min (Insert.q10 a0 a1).length ((((Insert.q2 a0 a1 a2).map eR).length - (Insert.q7 a1 a2).toNat))) rfl (fun x _ => eR_copy x) hg9 rfl (by kernel_rfl) (by kernel_rfl))) (putkill_over hc rfl rfl rfl)) .nil))))))))) (by kernel_rfl) ?_
    refine r_seq ?_
    refine rr [(6, .u (.c (.sl true 2 ((Insert.q4 a0 a1 a2).map eR))))] (cot 1 (os_plain rfl rfl (s_take (u := .c (.sl true 2 ((Insert.q4 a0 a1 a2).map eR))) (.inl rfl) (.move (by kernel_rfl) rfl) rfl (by kernel_rfl))) (cot 2 (os_plain rfl rfl (s_take (u := .c (.sl true 2 ((Insert.q4 a0 a1 a2).map eR))) (.inr rfl) (.move (by kernel_rfl) rfl) rfl (by kernel_rfl))) .nil)) ?_
    refine r_ret ?_
    obtain rfl := Option.some.inj h
    exact ⟨.inr rfl, _, _, .cons (.move rfl rfl) .nil, rfl, outs_of trivial⟩
  have h := cond_f hb h
  refine r_condF hb rfl ?_
  refine r_skip ?_
  refine r_seq ?_
  obtain ⟨hg10, h⟩ := guard_some h
  simp only [Bool.and_eq_true, decide_eq_true_eq] at hg10
  refine rr [(0, .u (.c (.sl true 2 ((Insert.q3 a0 a2).map eO)))), (1, tI a1), (2, .u (.c (.sl true 2 ([a2].map eR)))), (7, tI ([a2].length : Int)), (8, tI (a0.length : Int))] (cgt 4 [56, 57, 58, 59] (cot 5 (os_plain rfl rfl (s_sliceGrowM (f := eR) (fo := eO) (l := a0) (r := 10) (sz := 2) (e := Insert.q9 a0 a2) (ad := adc0) (len := _) (cap := c0) rfl sl36 (fun _ => rfl) rfl (by kernel_rfl) (by kernel_rfl) eR_copy (by kernel_rfl) rfl rfl hg10.1.1 hg10.1.2 hg10.2 rfl (by kernel_rfl))) (cot 6 (os_plain rfl rfl (s_take (u := .c (.sl true 2 ((Insert.q3 a0 a2).map eO))) (.inr rfl) (.move (by kernel_rfl) rfl) rfl (by kernel_rfl))) .nil))) ?_
  refine r_seq ?_
  refine r_seq ?_
  obtain ⟨hg11, h⟩ := guard_some h
  simp only [Bool.and_eq_true, decide_eq_true_eq] at hg11
  refine rr [(0, .u (.c (.sl true 2 ((Insert.q3 a0 a2).map eO)))), (1, tI a1), (2, .u (.c (.sl true 2 ([a2].map eR)))), (7, tI ([a2].length : Int)), (8, tI (a0.length : Int)), (68, tB true)] (cgt 5 [61, 62, 63, 64, 65] (cot 6 (os_plain rfl rfl (s_sliceV (r := 0) (pl := none) (sz := 2) (lo := 0) (n := ((Insert.q3 a0 a2).map eO).length) (lx := (some (.tmp 65))) (hx := none) (l := (some (Insert.q7 a1 a2).toNat)) (h := none) (l' := (Insert.q7 a1 a2).toNat) (h' := ((Insert.q3 a0 a2).map eO).length) rfl sl36 (by kernel_rfl) (.some (k := .i64) (e := Insert.q7 a1 a2) (by kernel_rfl) (by have := hg11; omega)) .none rfl rfl (by first | (rw [List.length_map]; have := hg11; omega) | (have := hg11; omega) | (simp only [List.length_map]; have := hg11; omega)) (Nat.le_refl _) rfl (by kernel_rfl) (by kernel_rfl))) (cot 7 (os_plain rfl rfl (s_overlaps (sz := 2) (i := 66) (i2 := 61) (r := 0) (r2 := 2) (lo := (0 + (Insert.q7 a1 a2).toNat)) (n := (((Insert.q3 a0 a2).map eO).length - (Insert.q7 a1 a2).toNat)) (n2 := ([a2].map eR).length) (rows := (Insert.q3 a0 a2).map eO) (rows2 := [a2].map eR) rfl ovl64 sl36 (by kernel_rfl) (by kernel_rfl) (by kernel_rfl) (by kernel_rfl) rfl rfl (by kernel_rfl))) (cgt 8 [68] .nil)))) ?_
  refine r_condT rfl rfl ?_
  refine r_seq ?_
  obtain ⟨hg12, h⟩ := guard_some h
  simp only [Bool.and_eq_true, decide_eq_true_eq] at hg12
  obtain ⟨hg13, h⟩ := guard_some h
  simp only [Bool.and_eq_true, decide_eq_true_eq] at hg13
  obtain ⟨hg14, h⟩ := guard_some h
  simp only [Bool.and_eq_true, decide_eq_true_eq] at hg14
  refine r_weak (of_weak (l := [(0, .u (.c (.sl true 2 ((Insert.q3 a0 a2).map eO)))), (1, tI a1), (2, .u (.c (.sl true 2 ([a2].map eR)))), (7, tI ([a2].length : Int)), (8, tI (a0.length : Int)), (68, tB true)]) (by kernel_rfl)) ?_
  refine r_anyW (l := [(0, .u (.c (.sl true 2 ((Insert.q1 a0 a2 a1).map eO)))), (1, tI a1), (2, .u (.c (.sl true 2 ([a2].map eR))))]) (tab := [[], [], [], [1, 2], [0, 3], [], [], [5, 6], [4, 7]]) [ev [] [0] 69 (.whole 0 none 2 (((Insert.q3 a0 a2).map eO).length)), ev [] [1] 70 (tI a1), ev [] [7] 71 (tI ([a2].length : Int)), ev [1, 2] [70, 71] 72 (tI (Insert.q7 a1 a2)), ev [0, 1, 2, 3] [0, 69, 72] 73 (.view 0 none 2 (0 + (Insert.q7 a1 a2).toNat) (((Insert.q3 a0 a2).map eO).length - (Insert.q7 a1 a2).toNat)), ev [] [0] 74 (.whole 0 none 2 (((Insert.q3 a0 a2).map eO).length)), ev [] [1] 75 (tI a1), ev [5, 6] [0, 74, 75] 76 (.view 0 none 2 (0 + a1.toNat) (((Insert.q3 a0 a2).map eO).length - a1.toNat)), ⟨List.range 8, [0, 73, 76], [(77, tI (((min (Insert.q8 a0 a2 a1).length ((((Insert.q3 a0 a2).map eO).length - (Insert.q7 a1 a2).toNat))) : Nat) : Int)), (0, .u (.c (.sl true 2 ((Insert.q1 a0 a2 a1).map eO))))], some 77, true⟩] hm (by kernel_rfl) (by kernel_rfl) (by kernel_rfl) (en (en (en (en (.cons (fun σ hc => e_put hc rfl rfl (os_plain rfl rfl (s_sliceV (r := 0) (pl := none) (sz := 2) (lo := 0) (n := ((Insert.q3 a0 a2).map eO).length) (lx := (some (.tmp 72))) (hx := none) (l := (some (Insert.q7 a1 a2).toNat)) (h := none) (l' := (Insert.q7 a1 a2).toNat) (h' := ((Insert.q3 a0 a2).map eO).length) rfl sl36 (by kernel_rfl) (.some (k := .i64) (e := Insert.q7 a1 a2) (by kernel_rfl) (by have := hg12; omega)) .none rfl rfl (by first | (rw [List.length_map]; have := hg12; omega) | (have := hg12; omega) | (simp only [List.length_map]; have := hg12; omega)) (Nat.le_refl _) rfl (by kernel_rfl) (by kernel_rfl)))) (en (en (.cons (fun σ hc => e_put hc rfl rfl (os_plain rfl rfl (s_sliceV (r := 0) (pl := none) (sz := 2) (lo := 0) (n := ((Insert.q3 a0 a2).map eO).length) (lx := (some (.tmp 75))) (hx := none) (l := (some a1.toNat)) (h := none) (l' := a1.toNat) (h' := ((Insert.q3 a0 a2).map eO).length) rfl sl36 (by kernel_rfl) (.some (k := .i64) (e := a1) (by kernel_rfl) (by have := hg13; omega)) .none rfl rfl (by first | (rw [List.length_map]; have := hg13; omega) | (have := hg13; omega) | (simp only [List.length_map]; have := hg13; omega)) (Nat.le_refl _) rfl (by kernel_rfl) (by kernel_rfl)))) (.cons (fun σ hc => e_eq (os_plain rfl rfl (s_copyInM (fo := eO) (g := eO) (l := (Insert.q3 a0 a2)) (l2' := (Insert.q8 a0 a2 a1)) (l2 := (Insert.q8 a0 a2 a1)) (i := 73) (r := 0) (sz := 2) (lo := (0 + (Insert.q7 a1 a2).toNat)) (n := (((Insert.q3 a0 a2).map eO).length - (Insert.q7 a1 a2).toNat)) rfl sl36 rfl (by kernel_rfl) (by kernel_rfl) eO_flat (.v0 (r := 0) (lo := (0 + a1.toNat)) (n := (((Insert.q3 a0 a2).map eO).length - a1.toNat)) (own := true) (rows := (Insert.q3 a0 a2).map eO) (by kernel_rfl) (by kernel_rfl) view_map) (min (Insert.q8 a0 a2 a1).length ((((Insert.q3 a0 a2).map eO).length - (Insert.q7 a1 a2).toNat))) rfl (isSome_copy eO_some_copy hg14.2) hg14.1 rfl (by kernel_rfl) (by kernel_rfl))) (putkill_over hc rfl rfl rfl)) .nil))))))))) (by kernel_rfl) ?_
  refine r_seq ?_
  obtain ⟨hg15, h⟩ := guard_some h
  simp only [Bool.and_eq_true, decide_eq_true_eq] at hg15
  obtain ⟨hg16, h⟩ := guard_some h
  simp only [Bool.and_eq_true, decide_eq_true_eq] at hg16
  refine rr [(0, .u (.c (.sl true 2 ((Insert.q5 a0 a2 a1).map eO))))] (cgt 2 [78, 79] (cot 3 (os_plain rfl rfl (s_sliceV (r := 0) (pl := none) (sz := 2) (lo := 0) (n := ((Insert.q1 a0 a2 a1).map eO).length) (lx := (some (.tmp 79))) (hx := none) (l := (some a1.toNat)) (h := none) (l' := a1.toNat) (h' := ((Insert.q1 a0 a2 a1).map eO).length) rfl sl36 (by kernel_rfl) (.some (k := .i64) (e := a1) (by kernel_rfl) (by have := hg15; omega)) .none rfl rfl (by first | (rw [List.length_map]; have := hg15; omega) | (have := hg15; omega) | (simp only [List.length_map]; have := hg15; omega)) (Nat.le_refl _) rfl (by kernel_rfl) (by kernel_rfl))) (cot 4 (os_plain rfl rfl (s_take (u := .c (.sl true 2 ([a2].map eR))) (.inl rfl) (.move (by kernel_rfl) rfl) rfl (by kernel_rfl))) (cot 5 (os_plain rfl rfl (s_copyInM (fo := eO) (g := eR) (l := (Insert.q1 a0 a2 a1)) (l2' := ([a2].map some)) (l2 := [a2]) (i := 80) (r := 0) (sz := 2) (lo := (0 + a1.toNat)) (n := (((Insert.q1 a0 a2 a1).map eO).length - a1.toNat)) rfl sl36 (map_some eO_some) (by kernel_rfl) (by kernel_rfl) eO_flat (.v0 (r := 81) (lo := 0) (n := ([a2].map eR).length) (own := true) (rows := [a2].map eR) (by kernel_rfl) (by kernel_rfl) rows_all) (min ([a2].map some).length ((((Insert.q1 a0 a2 a1).map eO).length - a1.toNat))) rfl (isSome_copy eO_some_copy hg16.2) hg16.1 rfl (by kernel_rfl) (by kernel_rfl))) .nil)))) ?_
  refine r_seq ?_
  obtain ⟨hg17, h⟩ := guard_some h
  refine rr [(6, .u (.c (.sl true 2 (((Insert.q5 a0 a2 a1).filterMap id).map eR))))] (cot 1 (os_plain rfl rfl (s_take (u := .c (.sl true 2 ((Insert.q5 a0 a2 a1).map eO))) (.inl rfl) (.move (by kernel_rfl) rfl) rfl (by kernel_rfl))) (cot 2 (os_toG (os_plain rfl rfl (s_take (u := .c (.sl true 2 ((Insert.q5 a0 a2 a1).map eO))) (.inr rfl) (.move (by kernel_rfl) rfl) rfl (by kernel_rfl))) (t' := .u (.c (.sl true 2 (((Insert.q5 a0 a2 a1).filterMap id).map eR)))) (unopt eO_some hg17)) .nil)) ?_
  refine r_ret ?_
  obtain rfl := Option.some.inj h
  exact ⟨.inr rfl, _, _, .cons (.move rfl rfl) .nil, rfl, outs_of trivial⟩
end Go.Proofs.YtmjnenjeckeklaaDoor.V
