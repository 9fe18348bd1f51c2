import Derived.Test.YtmjnenjeckeklaaFlatC0
import Derived.Test.YtmjnenjeckeklaaQx6
import Derived.Test.YtmjnenjeckeklaaQx10
import Derived.Test.YtmjnenjeckeklaaQx11
namespace Go.Proofs.Ytmjnenjeckeklaa.V
open Go Go.RowKit Go.Proofs.YtmjnenjeckeklaaW.PrintWords Go.Proofs.YtmjnenjeckeklaaW.PrintLast Go.Proofs.YtmjnenjeckeklaaW.PrintMore Go.Proofs.Ytmjnenjeckeklaa.Q
set_option linter.unusedVariables false
set_option linter.unusedSimpArgs false
set_option maxHeartbeats 1000000
def fLay.f (k : Nat) (a0 : List S59) (a1 : S59) : Option (List S59 × Option Int) := if a0.length ≤ 1000000 then area_Lay.f k a0 a1.f0 a1.f1 a1.f2.f0 a1.f2.f1 a1.f3 else none
theorem fLay.ac (k : Nat) (a0 : List S59) (a1 : S59) (r : List S59 × Option Int) (h : fLay.f k a0 a1 = some r) : AC Try.prog 45 40 [.c (.sl false 5 (a0.map arE)), .agg (arE a1)] [none, none] [.c (.sl true 5 (r.1.map arE)), .c (.err r.2)] := by
 unfold fLay.f at h; split at h
 case isFalse => cases h
 rename_i hl; intro R w vs F hrep hnd hR hRlt
 cases hrep with | @cons v0 _ _ _ F0 G0 h0 t0 =>
 cases t0 with | @cons v1 _ _ _ F1 G1 h1 t1 =>
 cases t1
 cases h0 with | c h0 =>
 obtain ⟨A0, c0, rfl, hC0, hc0⟩ := arg_row (d := k59) (fv := arEV) (fun _ => rfl) (fun w x => k59_mk w x) h0 hl
 cases h1 with | agg h1 =>
 obtain rfl := arr_valsV h1 (vs := arEV a1) rfl; refine (area_Lay.calls k A0 c0 a0 a1.f0 a1.f1 a1.f2.f0 a1.f2.f1 a1.f3 r.1 r.2 w (Rk_of h0 hC0 hRlt) hc0 h).mono ?_; rintro e w' ⟨v, rfl, hv, hb⟩; obtain ⟨H, g1, g2, g3⟩ := own_row (ET := 45) (w := w') (R := R) (d := k59) (fe := arE) (fv := arEV) (fun _ => rfl) (fun _ => rfl) (fun _ _ _ _ _ h => k59_openM h) (fun _ => rfl) (by decide) hv; refine ⟨_, [], H ++ ([] ++ []), rfl, (.skip (.skip .nil)), .many (Nat.ne_of_beq_eq_false rfl) (.cons (.c g1) (.cons (F := []) (.c (err_rep _)) .nil)), by simpa using g2, fun b hb => .inr (g3 b (by simpa using hb)), Keeps.of_below hb _⟩
def fCut.f (k : Nat) (a0 : List S59) (a1 : Int) (a2 : Int) : Option (List S59 × Option Int) := if a0.length ≤ 1000000 then area_Cut.f k a0 a1 a2 else none
theorem fCut.ac (k : Nat) (a0 : List S59) (a1 : Int) (a2 : Int) (r : List S59 × Option Int) (h : fCut.f k a0 a1 a2 = some r) : AC Try.prog 45 42 [.c (.sl false 5 (a0.map arE)), .c (.v (.int .i64 a1)), .c (.v (.int .i64 a2))] [none, none, none] [.c (.sl true 5 (r.1.map arE)), .c (.err r.2)] := by
 unfold fCut.f at h; split at h
 case isFalse => cases h
 rename_i hl; intro R w vs F hrep hnd hR hRlt
 cases hrep with | @cons v0 _ _ _ F0 G0 h0 t0 =>
 cases t0 with | @cons v1 _ _ _ F1 G1 h1 t1 =>
 cases t1 with | @cons v2 _ _ _ F2 G2 h2 t2 =>
 cases t2
 cases h0 with | c h0 =>
 obtain ⟨A0, c0, rfl, hC0, hc0⟩ := arg_row (d := k59) (fv := arEV) (fun _ => rfl) (fun w x => k59_mk w x) h0 hl
 cases h1 with | c h1 =>
 cases h1
 cases h2 with | c h2 =>
 cases h2; refine (area_Cut.calls k A0 c0 a0 a1 a2 r.1 r.2 w (Rk_of h0 hC0 hRlt) hc0 h).mono ?_; rintro e w' ⟨v, rfl, hv, hb⟩; obtain ⟨H, g1, g2, g3⟩ := own_row (ET := 45) (w := w') (R := R) (d := k59) (fe := arE) (fv := arEV) (fun _ => rfl) (fun _ => rfl) (fun _ _ _ _ _ h => k59_openM h) (fun _ => rfl) (by decide) hv; refine ⟨_, [], H ++ ([] ++ []), rfl, (.skip (.skip (.skip .nil))), .many (Nat.ne_of_beq_eq_false rfl) (.cons (.c g1) (.cons (F := []) (.c (err_rep _)) .nil)), by simpa using g2, fun b hb => .inr (g3 b (by simpa using hb)), Keeps.of_below hb _⟩
def fChange.f (k : Nat) (a0 : List S59) (a1 : Int) (a2 : Int) (a3 : S25) : Option (List S59 × Option Int) := if a0.length ≤ 1000000 then area_Change.f k a0 a1 a2 a3.f0 a3.f1 else none
theorem fChange.ac (k : Nat) (a0 : List S59) (a1 : Int) (a2 : Int) (a3 : S25) (r : List S59 × Option Int) (h : fChange.f k a0 a1 a2 a3 = some r) : AC Try.prog 45 35 [.c (.sl false 5 (a0.map arE)), .c (.v (.int .i64 a1)), .c (.v (.int .i64 a2)), .agg [.v (.bool a3.f0), .v (.bool a3.f1)]] [none, none, none, none] [.c (.sl true 5 (r.1.map arE)), .c (.err r.2)] := by
 unfold fChange.f at h; split at h
 case isFalse => cases h
 rename_i hl; intro R w vs F hrep hnd hR hRlt
 cases hrep with | @cons v0 _ _ _ F0 G0 h0 t0 =>
 cases t0 with | @cons v1 _ _ _ F1 G1 h1 t1 =>
 cases t1 with | @cons v2 _ _ _ F2 G2 h2 t2 =>
 cases t2 with | @cons v3 _ _ _ F3 G3 h3 t3 =>
 cases t3
 cases h0 with | c h0 =>
 obtain ⟨A0, c0, rfl, hC0, hc0⟩ := arg_row (d := k59) (fv := arEV) (fun _ => rfl) (fun w x => k59_mk w x) h0 hl
 cases h1 with | c h1 =>
 cases h1
 cases h2 with | c h2 =>
 cases h2
 cases h3 with | agg h3 =>
 obtain rfl := arr_valsV h3 (vs := [.bool a3.f0, .bool a3.f1]) rfl; refine (area_Change.calls k A0 c0 a0 a1 a2 a3.f0 a3.f1 r.1 r.2 w (Rk_of h0 hC0 hRlt) hc0 h).mono ?_; rintro e w' ⟨v, rfl, hv, hb⟩; obtain ⟨H, g1, g2, g3⟩ := own_row (ET := 45) (w := w') (R := R) (d := k59) (fe := arE) (fv := arEV) (fun _ => rfl) (fun _ => rfl) (fun _ _ _ _ _ h => k59_openM h) (fun _ => rfl) (by decide) hv; refine ⟨_, [], H ++ ([] ++ []), rfl, (.skip (.skip (.skip (.skip .nil)))), .many (Nat.ne_of_beq_eq_false rfl) (.cons (.c g1) (.cons (F := []) (.c (err_rep _)) .nil)), by simpa using g2, fun b hb => .inr (g3 b (by simpa using hb)), Keeps.of_below hb _⟩
def fAdvise.f (k : Nat) (a0 : List S59) (a1 : Int) (a2 : Int) (a3 : Bool) : Option (List S59 × Option Int) := if a0.length ≤ 1000000 then area_Advise.f k a0 a1 a2 a3 else none
theorem fAdvise.ac (k : Nat) (a0 : List S59) (a1 : Int) (a2 : Int) (a3 : Bool) (r : List S59 × Option Int) (h : fAdvise.f k a0 a1 a2 a3 = some r) : AC Try.prog 45 50 [.c (.sl false 5 (a0.map arE)), .c (.v (.int .i64 a1)), .c (.v (.int .i64 a2)), .c (.v (.bool a3))] [none, none, none, none] [.c (.sl true 5 (r.1.map arE)), .c (.err r.2)] := by
 unfold fAdvise.f at h; split at h
 case isFalse => cases h
 rename_i hl; intro R w vs F hrep hnd hR hRlt
 cases hrep with | @cons v0 _ _ _ F0 G0 h0 t0 =>
 cases t0 with | @cons v1 _ _ _ F1 G1 h1 t1 =>
 cases t1 with | @cons v2 _ _ _ F2 G2 h2 t2 =>
 cases t2 with | @cons v3 _ _ _ F3 G3 h3 t3 =>
 cases t3
 cases h0 with | c h0 =>
 obtain ⟨A0, c0, rfl, hC0, hc0⟩ := arg_row (d := k59) (fv := arEV) (fun _ => rfl) (fun w x => k59_mk w x) h0 hl
 cases h1 with | c h1 =>
 cases h1
 cases h2 with | c h2 =>
 cases h2
 cases h3 with | c h3 =>
 cases h3; refine (area_Advise.calls k A0 c0 a0 a1 a2 a3 r.1 r.2 w (Rk_of h0 hC0 hRlt) hc0 h).mono ?_; rintro e w' ⟨v, rfl, hv, hb⟩; obtain ⟨H, g1, g2, g3⟩ := own_row (ET := 45) (w := w') (R := R) (d := k59) (fe := arE) (fv := arEV) (fun _ => rfl) (fun _ => rfl) (fun _ _ _ _ _ h => k59_openM h) (fun _ => rfl) (by decide) hv; refine ⟨_, [], H ++ ([] ++ []), rfl, (.skip (.skip (.skip (.skip .nil)))), .many (Nat.ne_of_beq_eq_false rfl) (.cons (.c g1) (.cons (F := []) (.c (err_rep _)) .nil)), by simpa using g2, fun b hb => .inr (g3 b (by simpa using hb)), Keeps.of_below hb _⟩
def fFind.f (k : Nat) (a0 : List S59) (a1 : Int) : Option (S59 × Option Int) := if a0.length ≤ 1000000 then (area_Find.f k a0 a1).map fun r => (⟨r.1, r.2.1, ⟨r.2.2.1, r.2.2.2.1⟩, r.2.2.2.2.1⟩, r.2.2.2.2.2) else none
theorem fFind.ac (k : Nat) (a0 : List S59) (a1 : Int) (r : S59 × Option Int) (h : fFind.f k a0 a1 = some r) : AC Try.prog 45 39 [.c (.sl false 5 (a0.map arE)), .c (.v (.int .i64 a1))] [none, none] [.agg (arE r.1), .c (.err r.2)] := by
 unfold fFind.f at h; split at h
 case isFalse => cases h
 rename_i hl; obtain ⟨q, hq, rfl⟩ := Option.map_eq_some_iff.mp h; intro R w vs F hrep hnd hR hRlt
 cases hrep with | @cons v0 _ _ _ F0 G0 h0 t0 =>
 cases t0 with | @cons v1 _ _ _ F1 G1 h1 t1 =>
 cases t1
 cases h0 with | c h0 =>
 obtain ⟨A0, c0, rfl, hC0, hc0⟩ := arg_row (d := k59) (fv := arEV) (fun _ => rfl) (fun w x => k59_mk w x) h0 hl
 cases h1 with | c h1 =>
 cases h1; refine (area_Find.calls k A0 c0 a0 a1 q.1 q.2.1 q.2.2.1 q.2.2.2.1 q.2.2.2.2.1 q.2.2.2.2.2 w (Rk_of h0 hC0 hRlt) hc0 hq).mono ?_; rintro e w' ⟨rfl, hb⟩; refine ⟨_, [], [] ++ ([] ++ []), rfl, (.skip (.skip .nil)), .many (Nat.ne_of_beq_eq_false rfl) (.cons (F := []) (.agg (arE_rep ⟨q.1, q.2.1, ⟨q.2.2.1, q.2.2.2.1⟩, q.2.2.2.2.1⟩)) (.cons (F := []) (.c (err_rep _)) .nil)), by simp, by simp, Keeps.of_below hb _⟩
def fTo.f (k : Nat) (a0 : List S72) : Option (List S59 × Bool) := if a0.length ≤ 1000000 then paviorref09_To.f k a0 else none
theorem fTo.ac (k : Nat) (a0 : List S72) (r : List S59 × Bool) (h : fTo.f k a0 = some r) : AC Try.prog 45 44 [.c (.sl false 4 (a0.map pgE))] [none] [.c (.sl true 5 (r.1.map arE)), .c (.v (.bool r.2))] := by
 unfold fTo.f at h; split at h
 case isFalse => cases h
 rename_i hl; intro R w vs F hrep hnd hR hRlt
 cases hrep with | @cons v0 _ _ _ F0 G0 h0 t0 =>
 cases t0
 cases h0 with | c h0 =>
 obtain ⟨A0, c0, rfl, hC0, hc0⟩ := arg_row (d := k72) (fv := pgEV) (fun _ => rfl) (fun w x => k72_mk w x) h0 hl; refine (paviorref09_To.calls k A0 c0 a0 r.1 r.2 w hC0 hc0 h).mono ?_; rintro e w' ⟨v, rfl, hv, hb⟩; obtain ⟨H, g1, g2, g3⟩ := own_row (ET := 45) (w := w') (R := R) (d := k59) (fe := arE) (fv := arEV) (fun _ => rfl) (fun _ => rfl) (fun _ _ _ _ _ h => k59_openM h) (fun _ => rfl) (by decide) hv; refine ⟨_, [], H ++ ([] ++ []), rfl, (.skip .nil), .many (Nat.ne_of_beq_eq_false rfl) (.cons (.c g1) (.cons (F := []) (.c (.v rfl)) .nil)), by simpa using g2, fun b hb => .inr (g3 b (by simpa using hb)), Keeps.of_below hb _⟩
def fSame.f (k : Nat) (a0 : List S59) (a1 : List S59) : Option (Bool) := if a0.length ≤ 1000000 ∧ a1.length ≤ 1000000 then paviorref09_Same.f k a0 a1 else none
theorem fSame.ac (k : Nat) (a0 : List S59) (a1 : List S59) (r : Bool) (h : fSame.f k a0 a1 = some r) : AC Try.prog 45 18 [.c (.sl false 5 (a0.map arE)), .c (.sl false 5 (a1.map arE))] [none, none] [.c (.v (.bool r))] := by
 unfold fSame.f at h; split at h
 case isFalse => cases h
 rename_i hl; intro R w vs F hrep hnd hR hRlt
 cases hrep with | @cons v0 _ _ _ F0 G0 h0 t0 =>
 cases t0 with | @cons v1 _ _ _ F1 G1 h1 t1 =>
 cases t1
 cases h0 with | c h0 =>
 obtain ⟨A0, c0, rfl, hC0, hc0⟩ := arg_row (d := k59) (fv := arEV) (fun _ => rfl) (fun w x => k59_mk w x) h0 hl.1
 cases h1 with | c h1 =>
 obtain ⟨A1, c1, rfl, hC1, hc1⟩ := arg_row (d := k59) (fv := arEV) (fun _ => rfl) (fun w x => k59_mk w x) h1 hl.2; refine (paviorref09_Same.calls k A0 c0 a0 A1 c1 a1 r w hC0 hc0 hC1 hc1 h).mono ?_; rintro e w' ⟨rfl, hb⟩; refine ⟨_, [], [], rfl, (.skip (.skip .nil)), .one (.c (.v rfl)), by simp, by simp, Keeps.of_below hb.below _⟩
end Go.Proofs.Ytmjnenjeckeklaa.V
