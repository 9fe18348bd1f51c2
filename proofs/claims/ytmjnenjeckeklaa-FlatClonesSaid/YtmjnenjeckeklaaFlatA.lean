import Derived.Test.YtmjnenjeckeklaaFlatC0
import Derived.Test.YtmjnenjeckeklaaQx6
import Derived.Test.YtmjnenjeckeklaaQx10
import Derived.Test.YtmjnenjeckeklaaQx11
namespace Go.Proofs.Ytmjnenjeckeklaa.V
open Go Go.RowKit Go.Proofs.YtmjnenjeckeklaaW.PrintWords Go.Proofs.YtmjnenjeckeklaaW.PrintLast Go.Proofs.YtmjnenjeckeklaaW.PrintMore Go.Proofs.Ytmjnenjeckeklaa.Q
set_option linter.unusedVariables false
set_option linter.unusedSimpArgs false
set_option maxHeartbeats 1000000
def FO.f (k : Nat) (a0 : List gu) (a1 : gu) : Option (List gu × Option Int) := if a0.length ≤ 1000000 then jW.f k a0 a1.f0 a1.f1 a1.f2.f0 a1.f2.f1 a1.f3 else none
theorem FO.ac (k : Nat) (a0 : List gu) (a1 : gu) (r : List gu × Option Int) (h : FO.f k a0 a1 = some r) : AC Try.prog 45 40 [.c (.sl false 5 (a0.map ie)), .agg (ie a1)] [none, none] [.c (.sl true 5 (r.1.map ie)), .c (.err r.2)] := by
 unfold FO.f at h; split at h
 case isFalse => cases h
 rename_i hl; intro R w vs F hrep hnd hR hRlt
 cases hrep with | @cons v0 _ _ _ F0 G0 h0 t0 =>
 cases t0 with | @cons v1 _ _ _ F1 G1 h1 t1 =>
 cases t1
 cases h0 with | c h0 =>
 obtain ⟨A0, c0, rfl, I4, hc0⟩ := qy (d := kN) (fv := tj) (fun _ => rfl) (fun w x => vk w x) h0 hl
 cases h1 with | agg h1 =>
 obtain rfl := tZ h1 (vs := tj a1) rfl; refine (jW.calls k A0 c0 a0 a1.f0 a1.f1 a1.f2.f0 a1.f2.f1 a1.f3 r.1 r.2 w (DZ h0 I4 hRlt) hc0 h).mono ?_; rintro e w' ⟨v, rfl, hv, hb⟩; obtain ⟨H, g1, g2, g3⟩ := vT (ET := 45) (w := w') (R := R) (d := kN) (fe := ie) (fv := tj) (fun _ => rfl) (fun _ => rfl) (fun _ _ _ _ _ h => nC h) (fun _ => rfl) (by decide) hv; refine ⟨_, [], H ++ ([] ++ []), rfl, (.skip (.skip .nil)), .many (cF rfl) (.cons (.c g1) (.cons (F := []) (.c (vU _)) .nil)), by simpa using g2, fun b hb => .inr (g3 b (by simpa using hb)), iB.lF hb _⟩
def FP.f (k : Nat) (a0 : List gu) (a1 : Int) (a2 : Int) : Option (List gu × Option Int) := if a0.length ≤ 1000000 then jX.f k a0 a1 a2 else none
theorem FP.ac (k : Nat) (a0 : List gu) (a1 : Int) (a2 : Int) (r : List gu × Option Int) (h : FP.f k a0 a1 a2 = some r) : AC Try.prog 45 42 [.c (.sl false 5 (a0.map ie)), .c (.v (.int .i64 a1)), .c (.v (.int .i64 a2))] [none, none, none] [.c (.sl true 5 (r.1.map ie)), .c (.err r.2)] := by
 unfold FP.f at h; split at h
 case isFalse => cases h
 rename_i hl; intro R w vs F hrep hnd hR hRlt
 cases hrep with | @cons v0 _ _ _ F0 G0 h0 t0 =>
 cases t0 with | @cons v1 _ _ _ F1 G1 h1 t1 =>
 cases t1 with | @cons v2 _ _ _ F2 G2 h2 t2 =>
 cases t2
 cases h0 with | c h0 =>
 obtain ⟨A0, c0, rfl, I4, hc0⟩ := qy (d := kN) (fv := tj) (fun _ => rfl) (fun w x => vk w x) h0 hl
 cases h1 with | c h1 =>
 cases h1
 cases h2 with | c h2 =>
 cases h2; refine (jX.calls k A0 c0 a0 a1 a2 r.1 r.2 w (DZ h0 I4 hRlt) hc0 h).mono ?_; rintro e w' ⟨v, rfl, hv, hb⟩; obtain ⟨H, g1, g2, g3⟩ := vT (ET := 45) (w := w') (R := R) (d := kN) (fe := ie) (fv := tj) (fun _ => rfl) (fun _ => rfl) (fun _ _ _ _ _ h => nC h) (fun _ => rfl) (by decide) hv; refine ⟨_, [], H ++ ([] ++ []), rfl, (.skip (.skip (.skip .nil))), .many (cF rfl) (.cons (.c g1) (.cons (F := []) (.c (vU _)) .nil)), by simpa using g2, fun b hb => .inr (g3 b (by simpa using hb)), iB.lF hb _⟩
def rX.f (k : Nat) (a0 : List gu) (a1 : Int) (a2 : Int) (a3 : l6) : Option (List gu × Option Int) := if a0.length ≤ 1000000 then jB.f k a0 a1 a2 a3.f0 a3.f1 else none
theorem rX.ac (k : Nat) (a0 : List gu) (a1 : Int) (a2 : Int) (a3 : l6) (r : List gu × Option Int) (h : rX.f k a0 a1 a2 a3 = some r) : AC Try.prog 45 35 [.c (.sl false 5 (a0.map ie)), .c (.v (.int .i64 a1)), .c (.v (.int .i64 a2)), .agg [.v (.bool a3.f0), .v (.bool a3.f1)]] [none, none, none, none] [.c (.sl true 5 (r.1.map ie)), .c (.err r.2)] := by
 unfold rX.f at h; split at h
 case isFalse => cases h
 rename_i hl; intro R w vs F hrep hnd hR hRlt
 cases hrep with | @cons v0 _ _ _ F0 G0 h0 t0 =>
 cases t0 with | @cons v1 _ _ _ F1 G1 h1 t1 =>
 cases t1 with | @cons v2 _ _ _ F2 G2 h2 t2 =>
 cases t2 with | @cons v3 _ _ _ F3 G3 h3 t3 =>
 cases t3
 cases h0 with | c h0 =>
 obtain ⟨A0, c0, rfl, I4, hc0⟩ := qy (d := kN) (fv := tj) (fun _ => rfl) (fun w x => vk w x) h0 hl
 cases h1 with | c h1 =>
 cases h1
 cases h2 with | c h2 =>
 cases h2
 cases h3 with | agg h3 =>
 obtain rfl := tZ h3 (vs := [.bool a3.f0, .bool a3.f1]) rfl; refine (jB.calls k A0 c0 a0 a1 a2 a3.f0 a3.f1 r.1 r.2 w (DZ h0 I4 hRlt) hc0 h).mono ?_; rintro e w' ⟨v, rfl, hv, hb⟩; obtain ⟨H, g1, g2, g3⟩ := vT (ET := 45) (w := w') (R := R) (d := kN) (fe := ie) (fv := tj) (fun _ => rfl) (fun _ => rfl) (fun _ _ _ _ _ h => nC h) (fun _ => rfl) (by decide) hv; refine ⟨_, [], H ++ ([] ++ []), rfl, (.skip (.skip (.skip (.skip .nil)))), .many (cF rfl) (.cons (.c g1) (.cons (F := []) (.c (vU _)) .nil)), by simpa using g2, fun b hb => .inr (g3 b (by simpa using hb)), iB.lF hb _⟩
def rY.f (k : Nat) (a0 : List gu) (a1 : Int) (a2 : Int) (a3 : Bool) : Option (List gu × Option Int) := if a0.length ≤ 1000000 then jC.f k a0 a1 a2 a3 else none
theorem rY.ac (k : Nat) (a0 : List gu) (a1 : Int) (a2 : Int) (a3 : Bool) (r : List gu × Option Int) (h : rY.f k a0 a1 a2 a3 = some r) : AC Try.prog 45 50 [.c (.sl false 5 (a0.map ie)), .c (.v (.int .i64 a1)), .c (.v (.int .i64 a2)), .c (.v (.bool a3))] [none, none, none, none] [.c (.sl true 5 (r.1.map ie)), .c (.err r.2)] := by
 unfold rY.f at h; split at h
 case isFalse => cases h
 rename_i hl; intro R w vs F hrep hnd hR hRlt
 cases hrep with | @cons v0 _ _ _ F0 G0 h0 t0 =>
 cases t0 with | @cons v1 _ _ _ F1 G1 h1 t1 =>
 cases t1 with | @cons v2 _ _ _ F2 G2 h2 t2 =>
 cases t2 with | @cons v3 _ _ _ F3 G3 h3 t3 =>
 cases t3
 cases h0 with | c h0 =>
 obtain ⟨A0, c0, rfl, I4, hc0⟩ := qy (d := kN) (fv := tj) (fun _ => rfl) (fun w x => vk w x) h0 hl
 cases h1 with | c h1 =>
 cases h1
 cases h2 with | c h2 =>
 cases h2
 cases h3 with | c h3 =>
 cases h3; refine (jC.calls k A0 c0 a0 a1 a2 a3 r.1 r.2 w (DZ h0 I4 hRlt) hc0 h).mono ?_; rintro e w' ⟨v, rfl, hv, hb⟩; obtain ⟨H, g1, g2, g3⟩ := vT (ET := 45) (w := w') (R := R) (d := kN) (fe := ie) (fv := tj) (fun _ => rfl) (fun _ => rfl) (fun _ _ _ _ _ h => nC h) (fun _ => rfl) (by decide) hv; refine ⟨_, [], H ++ ([] ++ []), rfl, (.skip (.skip (.skip (.skip .nil)))), .many (cF rfl) (.cons (.c g1) (.cons (F := []) (.c (vU _)) .nil)), by simpa using g2, fun b hb => .inr (g3 b (by simpa using hb)), iB.lF hb _⟩
def vV.f (k : Nat) (a0 : List gu) (a1 : Int) : Option (gu × Option Int) := if a0.length ≤ 1000000 then (pT.f k a0 a1).map fun r => (⟨r.1, r.2.1, ⟨r.2.2.1, r.2.2.2.1⟩, r.2.2.2.2.1⟩, r.2.2.2.2.2) else none
theorem vV.ac (k : Nat) (a0 : List gu) (a1 : Int) (r : gu × Option Int) (h : vV.f k a0 a1 = some r) : AC Try.prog 45 39 [.c (.sl false 5 (a0.map ie)), .c (.v (.int .i64 a1))] [none, none] [.agg (ie r.1), .c (.err r.2)] := by
 unfold vV.f at h; split at h
 case isFalse => cases h
 rename_i hl; obtain ⟨q, hq, rfl⟩ := cg.mp h; intro R w vs F hrep hnd hR hRlt
 cases hrep with | @cons v0 _ _ _ F0 G0 h0 t0 =>
 cases t0 with | @cons v1 _ _ _ F1 G1 h1 t1 =>
 cases t1
 cases h0 with | c h0 =>
 obtain ⟨A0, c0, rfl, I4, hc0⟩ := qy (d := kN) (fv := tj) (fun _ => rfl) (fun w x => vk w x) h0 hl
 cases h1 with | c h1 =>
 cases h1; refine (pT.calls k A0 c0 a0 a1 q.1 q.2.1 q.2.2.1 q.2.2.2.1 q.2.2.2.2.1 q.2.2.2.2.2 w (DZ h0 I4 hRlt) hc0 hq).mono ?_; rintro e w' ⟨rfl, hb⟩; refine ⟨_, [], [] ++ ([] ++ []), rfl, (.skip (.skip .nil)), .many (cF rfl) (.cons (F := []) (.agg (NX ⟨q.1, q.2.1, ⟨q.2.2.1, q.2.2.2.1⟩, q.2.2.2.2.1⟩)) (.cons (F := []) (.c (vU _)) .nil)), by simp, by simp, iB.lF hb _⟩
def K7.f (k : Nat) (a0 : List j5) : Option (List gu × Bool) := if a0.length ≤ 1000000 then gx.f k a0 else none
theorem K7.ac (k : Nat) (a0 : List j5) (r : List gu × Bool) (h : K7.f k a0 = some r) : AC Try.prog 45 44 [.c (.sl false 4 (a0.map jE))] [none] [.c (.sl true 5 (r.1.map ie)), .c (.v (.bool r.2))] := by
 unfold K7.f at h; split at h
 case isFalse => cases h
 rename_i hl; intro R w vs F hrep hnd hR hRlt
 cases hrep with | @cons v0 _ _ _ F0 G0 h0 t0 =>
 cases t0
 cases h0 with | c h0 =>
 obtain ⟨A0, c0, rfl, I4, hc0⟩ := qy (d := TU) (fv := YN) (fun _ => rfl) (fun w x => Q8 w x) h0 hl; refine (gx.calls k A0 c0 a0 r.1 r.2 w I4 hc0 h).mono ?_; rintro e w' ⟨v, rfl, hv, hb⟩; obtain ⟨H, g1, g2, g3⟩ := vT (ET := 45) (w := w') (R := R) (d := kN) (fe := ie) (fv := tj) (fun _ => rfl) (fun _ => rfl) (fun _ _ _ _ _ h => nC h) (fun _ => rfl) (by decide) hv; refine ⟨_, [], H ++ ([] ++ []), rfl, (.skip .nil), .many (cF rfl) (.cons (.c g1) (.cons (F := []) (.c (.v rfl)) .nil)), by simpa using g2, fun b hb => .inr (g3 b (by simpa using hb)), iB.lF hb _⟩
def xF.f (k : Nat) (a0 : List gu) (a1 : List gu) : Option (Bool) := if a0.length ≤ 1000000 ∧ a1.length ≤ 1000000 then iF.f k a0 a1 else none
theorem xF.ac (k : Nat) (a0 : List gu) (a1 : List gu) (r : Bool) (h : xF.f k a0 a1 = some r) : AC Try.prog 45 18 [.c (.sl false 5 (a0.map ie)), .c (.sl false 5 (a1.map ie))] [none, none] [.c (.v (.bool r))] := by
 unfold xF.f at h; split at h
 case isFalse => cases h
 rename_i hl; intro R w vs F hrep hnd hR hRlt
 cases hrep with | @cons v0 _ _ _ F0 G0 h0 t0 =>
 cases t0 with | @cons v1 _ _ _ F1 G1 h1 t1 =>
 cases t1
 cases h0 with | c h0 =>
 obtain ⟨A0, c0, rfl, I4, hc0⟩ := qy (d := kN) (fv := tj) (fun _ => rfl) (fun w x => vk w x) h0 hl.1
 cases h1 with | c h1 =>
 obtain ⟨A1, c1, rfl, hC1, hc1⟩ := qy (d := kN) (fv := tj) (fun _ => rfl) (fun w x => vk w x) h1 hl.2; refine (iF.calls k A0 c0 a0 A1 c1 a1 r w I4 hc0 hC1 hc1 h).mono ?_; rintro e w' ⟨rfl, hb⟩; refine ⟨_, [], [], rfl, (.skip (.skip .nil)), .one (.c (.v rfl)), by simp, by simp, iB.lF hb.below _⟩
end Go.Proofs.Ytmjnenjeckeklaa.V
