import Derived.Test.YtmjnenjeckeklaaFlatC0
import Derived.Test.YtmjnenjeckeklaaQx6
import Derived.Test.YtmjnenjeckeklaaQx10
import Derived.Test.YtmjnenjeckeklaaQx11
namespace Go.Proofs.Ytmjnenjeckeklaa.V
open Go Go.RowKit Go.Proofs.YtmjnenjeckeklaaW.PrintWords Go.Proofs.YtmjnenjeckeklaaW.PrintLast Go.Proofs.YtmjnenjeckeklaaW.PrintMore Go.Proofs.Ytmjnenjeckeklaa.Q
set_option linter.unusedVariables false
set_option linter.unusedSimpArgs false
set_option maxHeartbeats 1000000
def AM.f (k : Nat) (a0 : List aG) (a1 : aG) : Option (List aG × Option Int) := if a0.length ≤ 1000000 then dF.f k a0 a1.f0 a1.f1 a1.f2.f0 a1.f2.f1 a1.f3 else none
theorem AM.ac (k : Nat) (a0 : List aG) (a1 : aG) (r : List aG × Option Int) (h : AM.f k a0 a1 = some r) : AC Try.prog 45 40 [.c (.sl false 5 (a0.map bJ)), .agg (bJ a1)] [none, none] [.c (.sl true 5 (r.1.map bJ)), .c (.err r.2)] := by
 unfold AM.f at h; split at h
 case isFalse => cases h
 rename_i hl; intro R w vs F hrep hnd hR hRlt
 cases hrep with | @cons v0 _ _ _ F0 G0 h0 t0 =>
 cases t0 with | @cons v1 _ _ _ F1 G1 h1 t1 =>
 cases t1
 cases h0 with | c h0 =>
 obtain ⟨A0, c0, rfl, Dt, hc0⟩ := j7 (d := ew) (fv := mS) (fun _ => rfl) (fun w x => oJ w x) h0 hl
 cases h1 with | agg h1 =>
 obtain rfl := nA h1 (vs := mS a1) rfl; refine (dF.calls k A0 c0 a0 a1.f0 a1.f1 a1.f2.f0 a1.f2.f1 a1.f3 r.1 r.2 w (y5 h0 Dt hRlt) hc0 h).mono ?_; rintro e w' ⟨v, rfl, hv, hb⟩; obtain ⟨H, g1, g2, g3⟩ := pG (ET := 45) (w := w') (R := R) (d := ew) (fe := bJ) (fv := mS) (fun _ => rfl) (fun _ => rfl) (fun _ _ _ _ _ h => gM h) (fun _ => rfl) (by decide) hv; refine ⟨_, [], H ++ ([] ++ []), rfl, (.skip (.skip .nil)), .many (Nat.ne_of_beq_eq_false rfl) (.cons (.c g1) (.cons (F := []) (.c (pH _)) .nil)), by simpa using g2, fun b hb => .inr (g3 b (by simpa using hb)), bU.eX hb _⟩
def AN.f (k : Nat) (a0 : List aG) (a1 : Int) (a2 : Int) : Option (List aG × Option Int) := if a0.length ≤ 1000000 then dG.f k a0 a1 a2 else none
theorem AN.ac (k : Nat) (a0 : List aG) (a1 : Int) (a2 : Int) (r : List aG × Option Int) (h : AN.f k a0 a1 a2 = some r) : AC Try.prog 45 42 [.c (.sl false 5 (a0.map bJ)), .c (.v (.int .i64 a1)), .c (.v (.int .i64 a2))] [none, none, none] [.c (.sl true 5 (r.1.map bJ)), .c (.err r.2)] := by
 unfold AN.f at h; split at h
 case isFalse => cases h
 rename_i hl; intro R w vs F hrep hnd hR hRlt
 cases hrep with | @cons v0 _ _ _ F0 G0 h0 t0 =>
 cases t0 with | @cons v1 _ _ _ F1 G1 h1 t1 =>
 cases t1 with | @cons v2 _ _ _ F2 G2 h2 t2 =>
 cases t2
 cases h0 with | c h0 =>
 obtain ⟨A0, c0, rfl, Dt, hc0⟩ := j7 (d := ew) (fv := mS) (fun _ => rfl) (fun w x => oJ w x) h0 hl
 cases h1 with | c h1 =>
 cases h1
 cases h2 with | c h2 =>
 cases h2; refine (dG.calls k A0 c0 a0 a1 a2 r.1 r.2 w (y5 h0 Dt hRlt) hc0 h).mono ?_; rintro e w' ⟨v, rfl, hv, hb⟩; obtain ⟨H, g1, g2, g3⟩ := pG (ET := 45) (w := w') (R := R) (d := ew) (fe := bJ) (fv := mS) (fun _ => rfl) (fun _ => rfl) (fun _ _ _ _ _ h => gM h) (fun _ => rfl) (by decide) hv; refine ⟨_, [], H ++ ([] ++ []), rfl, (.skip (.skip (.skip .nil))), .many (Nat.ne_of_beq_eq_false rfl) (.cons (.c g1) (.cons (F := []) (.c (pH _)) .nil)), by simpa using g2, fun b hb => .inr (g3 b (by simpa using hb)), bU.eX hb _⟩
def lW.f (k : Nat) (a0 : List aG) (a1 : Int) (a2 : Int) (a3 : fF) : Option (List aG × Option Int) := if a0.length ≤ 1000000 then cT.f k a0 a1 a2 a3.f0 a3.f1 else none
theorem lW.ac (k : Nat) (a0 : List aG) (a1 : Int) (a2 : Int) (a3 : fF) (r : List aG × Option Int) (h : lW.f k a0 a1 a2 a3 = some r) : AC Try.prog 45 35 [.c (.sl false 5 (a0.map bJ)), .c (.v (.int .i64 a1)), .c (.v (.int .i64 a2)), .agg [.v (.bool a3.f0), .v (.bool a3.f1)]] [none, none, none, none] [.c (.sl true 5 (r.1.map bJ)), .c (.err r.2)] := by
 unfold lW.f at h; split at h
 case isFalse => cases h
 rename_i hl; intro R w vs F hrep hnd hR hRlt
 cases hrep with | @cons v0 _ _ _ F0 G0 h0 t0 =>
 cases t0 with | @cons v1 _ _ _ F1 G1 h1 t1 =>
 cases t1 with | @cons v2 _ _ _ F2 G2 h2 t2 =>
 cases t2 with | @cons v3 _ _ _ F3 G3 h3 t3 =>
 cases t3
 cases h0 with | c h0 =>
 obtain ⟨A0, c0, rfl, Dt, hc0⟩ := j7 (d := ew) (fv := mS) (fun _ => rfl) (fun w x => oJ w x) h0 hl
 cases h1 with | c h1 =>
 cases h1
 cases h2 with | c h2 =>
 cases h2
 cases h3 with | agg h3 =>
 obtain rfl := nA h3 (vs := [.bool a3.f0, .bool a3.f1]) rfl; refine (cT.calls k A0 c0 a0 a1 a2 a3.f0 a3.f1 r.1 r.2 w (y5 h0 Dt hRlt) hc0 h).mono ?_; rintro e w' ⟨v, rfl, hv, hb⟩; obtain ⟨H, g1, g2, g3⟩ := pG (ET := 45) (w := w') (R := R) (d := ew) (fe := bJ) (fv := mS) (fun _ => rfl) (fun _ => rfl) (fun _ _ _ _ _ h => gM h) (fun _ => rfl) (by decide) hv; refine ⟨_, [], H ++ ([] ++ []), rfl, (.skip (.skip (.skip (.skip .nil)))), .many (Nat.ne_of_beq_eq_false rfl) (.cons (.c g1) (.cons (F := []) (.c (pH _)) .nil)), by simpa using g2, fun b hb => .inr (g3 b (by simpa using hb)), bU.eX hb _⟩
def lX.f (k : Nat) (a0 : List aG) (a1 : Int) (a2 : Int) (a3 : Bool) : Option (List aG × Option Int) := if a0.length ≤ 1000000 then cU.f k a0 a1 a2 a3 else none
theorem lX.ac (k : Nat) (a0 : List aG) (a1 : Int) (a2 : Int) (a3 : Bool) (r : List aG × Option Int) (h : lX.f k a0 a1 a2 a3 = some r) : AC Try.prog 45 50 [.c (.sl false 5 (a0.map bJ)), .c (.v (.int .i64 a1)), .c (.v (.int .i64 a2)), .c (.v (.bool a3))] [none, none, none, none] [.c (.sl true 5 (r.1.map bJ)), .c (.err r.2)] := by
 unfold lX.f at h; split at h
 case isFalse => cases h
 rename_i hl; intro R w vs F hrep hnd hR hRlt
 cases hrep with | @cons v0 _ _ _ F0 G0 h0 t0 =>
 cases t0 with | @cons v1 _ _ _ F1 G1 h1 t1 =>
 cases t1 with | @cons v2 _ _ _ F2 G2 h2 t2 =>
 cases t2 with | @cons v3 _ _ _ F3 G3 h3 t3 =>
 cases t3
 cases h0 with | c h0 =>
 obtain ⟨A0, c0, rfl, Dt, hc0⟩ := j7 (d := ew) (fv := mS) (fun _ => rfl) (fun w x => oJ w x) h0 hl
 cases h1 with | c h1 =>
 cases h1
 cases h2 with | c h2 =>
 cases h2
 cases h3 with | c h3 =>
 cases h3; refine (cU.calls k A0 c0 a0 a1 a2 a3 r.1 r.2 w (y5 h0 Dt hRlt) hc0 h).mono ?_; rintro e w' ⟨v, rfl, hv, hb⟩; obtain ⟨H, g1, g2, g3⟩ := pG (ET := 45) (w := w') (R := R) (d := ew) (fe := bJ) (fv := mS) (fun _ => rfl) (fun _ => rfl) (fun _ _ _ _ _ h => gM h) (fun _ => rfl) (by decide) hv; refine ⟨_, [], H ++ ([] ++ []), rfl, (.skip (.skip (.skip (.skip .nil)))), .many (Nat.ne_of_beq_eq_false rfl) (.cons (.c g1) (.cons (F := []) (.c (pH _)) .nil)), by simpa using g2, fun b hb => .inr (g3 b (by simpa using hb)), bU.eX hb _⟩
def pI.f (k : Nat) (a0 : List aG) (a1 : Int) : Option (aG × Option Int) := if a0.length ≤ 1000000 then (jB.f k a0 a1).map fun r => (⟨r.1, r.2.1, ⟨r.2.2.1, r.2.2.2.1⟩, r.2.2.2.2.1⟩, r.2.2.2.2.2) else none
theorem pI.ac (k : Nat) (a0 : List aG) (a1 : Int) (r : aG × Option Int) (h : pI.f k a0 a1 = some r) : AC Try.prog 45 39 [.c (.sl false 5 (a0.map bJ)), .c (.v (.int .i64 a1))] [none, none] [.agg (bJ r.1), .c (.err r.2)] := by
 unfold pI.f at h; split at h
 case isFalse => cases h
 rename_i hl; obtain ⟨q, hq, rfl⟩ := Option.map_eq_some_iff.mp h; intro R w vs F hrep hnd hR hRlt
 cases hrep with | @cons v0 _ _ _ F0 G0 h0 t0 =>
 cases t0 with | @cons v1 _ _ _ F1 G1 h1 t1 =>
 cases t1
 cases h0 with | c h0 =>
 obtain ⟨A0, c0, rfl, Dt, hc0⟩ := j7 (d := ew) (fv := mS) (fun _ => rfl) (fun w x => oJ w x) h0 hl
 cases h1 with | c h1 =>
 cases h1; refine (jB.calls k A0 c0 a0 a1 q.1 q.2.1 q.2.2.1 q.2.2.2.1 q.2.2.2.2.1 q.2.2.2.2.2 w (y5 h0 Dt hRlt) hc0 hq).mono ?_; rintro e w' ⟨rfl, hb⟩; refine ⟨_, [], [] ++ ([] ++ []), rfl, (.skip (.skip .nil)), .many (Nat.ne_of_beq_eq_false rfl) (.cons (F := []) (.agg (IT ⟨q.1, q.2.1, ⟨q.2.2.1, q.2.2.2.1⟩, q.2.2.2.2.1⟩)) (.cons (F := []) (.c (pH _)) .nil)), by simp, by simp, bU.eX hb _⟩
def Fz.f (k : Nat) (a0 : List dL) : Option (List aG × Bool) := if a0.length ≤ 1000000 then aD.f k a0 else none
theorem Fz.ac (k : Nat) (a0 : List dL) (r : List aG × Bool) (h : Fz.f k a0 = some r) : AC Try.prog 45 44 [.c (.sl false 4 (a0.map dc))] [none] [.c (.sl true 5 (r.1.map bJ)), .c (.v (.bool r.2))] := by
 unfold Fz.f at h; split at h
 case isFalse => cases h
 rename_i hl; intro R w vs F hrep hnd hR hRlt
 cases hrep with | @cons v0 _ _ _ F0 G0 h0 t0 =>
 cases t0
 cases h0 with | c h0 =>
 obtain ⟨A0, c0, rfl, Dt, hc0⟩ := j7 (d := OT) (fv := TR) (fun _ => rfl) (fun w x => L4 w x) h0 hl; refine (aD.calls k A0 c0 a0 r.1 r.2 w Dt hc0 h).mono ?_; rintro e w' ⟨v, rfl, hv, hb⟩; obtain ⟨H, g1, g2, g3⟩ := pG (ET := 45) (w := w') (R := R) (d := ew) (fe := bJ) (fv := mS) (fun _ => rfl) (fun _ => rfl) (fun _ _ _ _ _ h => gM h) (fun _ => rfl) (by decide) hv; refine ⟨_, [], H ++ ([] ++ []), rfl, (.skip .nil), .many (Nat.ne_of_beq_eq_false rfl) (.cons (.c g1) (.cons (F := []) (.c (.v rfl)) .nil)), by simpa using g2, fun b hb => .inr (g3 b (by simpa using hb)), bU.eX hb _⟩
def qO.f (k : Nat) (a0 : List aG) (a1 : List aG) : Option (Bool) := if a0.length ≤ 1000000 ∧ a1.length ≤ 1000000 then bS.f k a0 a1 else none
theorem qO.ac (k : Nat) (a0 : List aG) (a1 : List aG) (r : Bool) (h : qO.f k a0 a1 = some r) : AC Try.prog 45 18 [.c (.sl false 5 (a0.map bJ)), .c (.sl false 5 (a1.map bJ))] [none, none] [.c (.v (.bool r))] := by
 unfold qO.f at h; split at h
 case isFalse => cases h
 rename_i hl; intro R w vs F hrep hnd hR hRlt
 cases hrep with | @cons v0 _ _ _ F0 G0 h0 t0 =>
 cases t0 with | @cons v1 _ _ _ F1 G1 h1 t1 =>
 cases t1
 cases h0 with | c h0 =>
 obtain ⟨A0, c0, rfl, Dt, hc0⟩ := j7 (d := ew) (fv := mS) (fun _ => rfl) (fun w x => oJ w x) h0 hl.1
 cases h1 with | c h1 =>
 obtain ⟨A1, c1, rfl, hC1, hc1⟩ := j7 (d := ew) (fv := mS) (fun _ => rfl) (fun w x => oJ w x) h1 hl.2; refine (bS.calls k A0 c0 a0 A1 c1 a1 r w Dt hc0 hC1 hc1 h).mono ?_; rintro e w' ⟨rfl, hb⟩; refine ⟨_, [], [], rfl, (.skip (.skip .nil)), .one (.c (.v rfl)), by simp, by simp, bU.eX hb.below _⟩
end Go.Proofs.Ytmjnenjeckeklaa.V
