-- Written by this session's program wip/tools/xprint.py (the kit's printer, turned by it); not the kit's own print.
import Derived.Test.YtlmjjkggoemababQx0
import Derived.Test.YtlmjjkggoemababQx1
import Derived.Test.YtlmjjkggoemababQx8
import Derived.Test.YtlmjjkggoemababQx14
import Derived.Test.YtlmjjkggoemababQx17
namespace Go.Proofs.Ytlmjjkggoemabab.Q
open Go.RowKit Go.Proofs.YtlmjjkggoemababW.PrintWords Go.Proofs.YtlmjjkggoemababW.PrintLast Go.Proofs.YtlmjjkggoemababW.PrintMore
attribute [local go_sem] max2_int min2_int max_two min_two max_three min_three max_four min_four   -- for this text's walks alone
set_option linter.unusedVariables false
set_option linter.unusedSimpArgs false

attribute [local go_sem high] eqA30
attribute [local go_sem high] eqErr_some neErr_some eqErr_left neErr_left
/-! ### paviorlaw09_AreaKeeps: function 8 -/
mutual
def paviorlaw09_AreaKeeps.j0 : Nat → Int → Bool → List (S32) → Option Int → List (S32) → Option Int → Option Int → Bool → Int → Int → Bool → Bool → Bool → Int → Int → Bool → Bool → Bool → Option (Bool)
  | 0, _, _, _, _, _, _, _, _, _, _, _, _, _, _, _, _, _, _ => none
  | k + 1, x2, x7, x8, x9, x10, x11, x13, x14, x390000, x390001, x390002, x390003, x390004, x406000, x406001, x406002, x406003, x406004 => if x9.isNone = true then ((area_Find.f k x8 x2).bind fun bt407 => (if x14 = true then (if bt407.2.2.2.2.2.isNone = true then (if (!(bt407.2.2.1 == x390002) || (!(bt407.2.2.2.1 == x390003))) = true then (paviorlaw09_AreaKeeps.j1 k x2 x7 x10 x11 x13 x14 none true x406000 x406001 x406002 x406003 x406004 bt407.1 bt407.2.1 bt407.2.2.1 bt407.2.2.2.1 bt407.2.2.2.2.1) else (paviorlaw09_AreaKeeps.j1 k x2 x7 x10 x11 x13 x14 none (bt407.2.2.2.2.1 != x390004) x406000 x406001 x406002 x406003 x406004 bt407.1 bt407.2.1 bt407.2.2.1 bt407.2.2.2.1 bt407.2.2.2.2.1)) else (paviorlaw09_AreaKeeps.j1 k x2 x7 x10 x11 x13 x14 (some (bt407.2.2.2.2.2.getD 0)) true x406000 x406001 x406002 x406003 x406004 bt407.1 bt407.2.1 bt407.2.2.1 bt407.2.2.2.1 bt407.2.2.2.2.1)) else (paviorlaw09_AreaKeeps.j1 k x2 x7 x10 x11 x13 x14 bt407.2.2.2.2.2 false x406000 x406001 x406002 x406003 x406004 bt407.1 bt407.2.1 bt407.2.2.1 bt407.2.2.2.1 bt407.2.2.2.2.1))) else (if x11.isNone = true then ((area_Find.f k x10 x2).bind fun bt429 => (if x14 = true then (if bt429.2.2.2.2.2.isNone = true then (paviorlaw09_AreaKeeps.j5 k x7 x13 x14 none true x406000 x406001 x406002 x406003 x406004 bt429.1 bt429.2.1 bt429.2.2.1 bt429.2.2.2.1 bt429.2.2.2.2.1) else (if (bt429.2.2.2.2.2.getD 0) = 3 then (paviorlaw09_AreaKeeps.j5 k x7 x13 x14 (some (bt429.2.2.2.2.2.getD 0)) false x406000 x406001 x406002 x406003 x406004 bt429.1 bt429.2.1 bt429.2.2.1 bt429.2.2.2.1 bt429.2.2.2.2.1) else (paviorlaw09_AreaKeeps.j5 k x7 x13 x14 (some (bt429.2.2.2.2.2.getD 0)) true x406000 x406001 x406002 x406003 x406004 bt429.1 bt429.2.1 bt429.2.2.1 bt429.2.2.2.1 bt429.2.2.2.2.1))) else (paviorlaw09_AreaKeeps.j5 k x7 x13 x14 bt429.2.2.2.2.2 false x406000 x406001 x406002 x406003 x406004 bt429.1 bt429.2.1 bt429.2.2.1 bt429.2.2.2.1 bt429.2.2.2.2.1))) else (some x7))
def paviorlaw09_AreaKeeps.j1 : Nat → Int → Bool → List (S32) → Option Int → Option Int → Bool → Option Int → Bool → Int → Int → Bool → Bool → Bool → Int → Int → Bool → Bool → Bool → Option (Bool)
  | 0, _, _, _, _, _, _, _, _, _, _, _, _, _, _, _, _, _, _ => none
  | k + 1, x2, x7, x10, x11, x13, x14, x16, x81, x406000, x406001, x406002, x406003, x406004, x414000, x414001, x414002, x414003, x414004 => if x81 = true then (some false) else (if x14 = true then (paviorlaw09_AreaKeeps.j2 k x2 x7 x10 x11 x13 x14 false x406000 x406001 x406002 x406003 x406004) else ((paviorlaw00_Code.f x13).bind fun t415 => ((paviorlaw00_Code.f x16).bind fun t416 => (if t415 = t416 then (if (!(x414002 == x406002) || (!(x414003 == x406003))) = true then (paviorlaw09_AreaKeeps.j2 k x2 x7 x10 x11 x13 x14 true x406000 x406001 x406002 x406003 x406004) else (paviorlaw09_AreaKeeps.j2 k x2 x7 x10 x11 x13 x14 (x414004 != x406004) x406000 x406001 x406002 x406003 x406004)) else (paviorlaw09_AreaKeeps.j2 k x2 x7 x10 x11 x13 x14 true x406000 x406001 x406002 x406003 x406004)))))
def paviorlaw09_AreaKeeps.j2 : Nat → Int → Bool → List (S32) → Option Int → Option Int → Bool → Bool → Int → Int → Bool → Bool → Bool → Option (Bool)
  | 0, _, _, _, _, _, _, _, _, _, _, _, _ => none
  | k + 1, x2, x7, x10, x11, x13, x14, x104, x406000, x406001, x406002, x406003, x406004 => if x104 = true then (some false) else (if x11.isNone = true then ((area_Find.f k x10 x2).bind fun bt418 => (if x14 = true then (if bt418.2.2.2.2.2.isNone = true then (paviorlaw09_AreaKeeps.j3 k x7 x13 x14 none true x406000 x406001 x406002 x406003 x406004 bt418.1 bt418.2.1 bt418.2.2.1 bt418.2.2.2.1 bt418.2.2.2.2.1) else (if (bt418.2.2.2.2.2.getD 0) = 3 then (paviorlaw09_AreaKeeps.j3 k x7 x13 x14 (some (bt418.2.2.2.2.2.getD 0)) false x406000 x406001 x406002 x406003 x406004 bt418.1 bt418.2.1 bt418.2.2.1 bt418.2.2.2.1 bt418.2.2.2.2.1) else (paviorlaw09_AreaKeeps.j3 k x7 x13 x14 (some (bt418.2.2.2.2.2.getD 0)) true x406000 x406001 x406002 x406003 x406004 bt418.1 bt418.2.1 bt418.2.2.1 bt418.2.2.2.1 bt418.2.2.2.2.1))) else (paviorlaw09_AreaKeeps.j3 k x7 x13 x14 bt418.2.2.2.2.2 false x406000 x406001 x406002 x406003 x406004 bt418.1 bt418.2.1 bt418.2.2.1 bt418.2.2.2.1 bt418.2.2.2.2.1))) else (some x7))
def paviorlaw09_AreaKeeps.j3 : Nat → Bool → Option Int → Bool → Option Int → Bool → Int → Int → Bool → Bool → Bool → Int → Int → Bool → Bool → Bool → Option (Bool)
  | 0, _, _, _, _, _, _, _, _, _, _, _, _, _, _, _ => none
  | k + 1, x7, x13, x14, x18, x118, x406000, x406001, x406002, x406003, x406004, x425000, x425001, x425002, x425003, x425004 => if x118 = true then (some false) else (if x14 = true then (paviorlaw09_AreaKeeps.j4 k x7 false) else ((paviorlaw00_Code.f x13).bind fun t426 => ((paviorlaw00_Code.f x18).bind fun t427 => (if t426 = t427 then (if (!(x425002 == x406002) || (!(x425003 == x406003))) = true then (paviorlaw09_AreaKeeps.j4 k x7 true) else (paviorlaw09_AreaKeeps.j4 k x7 (x425004 != x406004))) else (paviorlaw09_AreaKeeps.j4 k x7 true)))))
def paviorlaw09_AreaKeeps.j4 : Nat → Bool → Bool → Option (Bool)
  | 0, _, _ => none
  | k + 1, x7, x141 => if x141 = true then (some false) else (some x7)
def paviorlaw09_AreaKeeps.j5 : Nat → Bool → Option Int → Bool → Option Int → Bool → Int → Int → Bool → Bool → Bool → Int → Int → Bool → Bool → Bool → Option (Bool)
  | 0, _, _, _, _, _, _, _, _, _, _, _, _, _, _, _ => none
  | k + 1, x7, x13, x14, x18, x118, x406000, x406001, x406002, x406003, x406004, x436000, x436001, x436002, x436003, x436004 => if x118 = true then (some false) else (if x14 = true then (paviorlaw09_AreaKeeps.j6 k x7 false) else ((paviorlaw00_Code.f x13).bind fun t437 => ((paviorlaw00_Code.f x18).bind fun t438 => (if t437 = t438 then (if (!(x436002 == x406002) || (!(x436003 == x406003))) = true then (paviorlaw09_AreaKeeps.j6 k x7 true) else (paviorlaw09_AreaKeeps.j6 k x7 (x436004 != x406004))) else (paviorlaw09_AreaKeeps.j6 k x7 true)))))
def paviorlaw09_AreaKeeps.j6 : Nat → Bool → Bool → Option (Bool)
  | 0, _, _ => none
  | k + 1, x7, x141 => if x141 = true then (some false) else (some x7)
end
def paviorlaw09_AreaKeeps.f (k : Nat) (l0 : List (S32)) (a1_0 : Int) (a1_1 : Int) (a1_2 : Bool) (a1_3 : Bool) (a1_4 : Bool) (a2 : Int) : Option (Bool) := (paviorlaw09_up.f k).bind fun t390 => (if (l0.length : Int) > 200 then (some t390) else ((area_Lay.f k l0 a1_0 a1_1 a1_2 a1_3 a1_4).bind fun bt391 => ((area_Cut.f k l0 a1_0 a1_1).bind fun bt395 => ((area_Find.f k l0 a2).bind fun bt399 => (if a2 ≥ a1_0 then (paviorlaw09_AreaKeeps.j0 k a2 t390 bt391.1 bt391.2 bt395.1 bt395.2 bt399.2.2.2.2.2 (decide (a2 < a1_1)) a1_0 a1_1 a1_2 a1_3 a1_4 bt399.1 bt399.2.1 bt399.2.2.1 bt399.2.2.2.1 bt399.2.2.2.2.1) else (paviorlaw09_AreaKeeps.j0 k a2 t390 bt391.1 bt391.2 bt395.1 bt395.2 bt399.2.2.2.2.2 false a1_0 a1_1 a1_2 a1_3 a1_4 bt399.1 bt399.2.1 bt399.2.2.1 bt399.2.2.2.1 bt399.2.2.2.2.1))))))
theorem paviorlaw09_AreaKeeps.mono_l : ∀ k, (∀ y0 y1 y2 y3 y4 y5 y6 y7 y8 y9 y10 y11 y12 y13 y14 y15 y16 y17, LeO (paviorlaw09_AreaKeeps.j0 k y0 y1 y2 y3 y4 y5 y6 y7 y8 y9 y10 y11 y12 y13 y14 y15 y16 y17) (paviorlaw09_AreaKeeps.j0 (k + 1) y0 y1 y2 y3 y4 y5 y6 y7 y8 y9 y10 y11 y12 y13 y14 y15 y16 y17)) ∧ (∀ y0 y1 y2 y3 y4 y5 y6 y7 y8 y9 y10 y11 y12 y13 y14 y15 y16 y17, LeO (paviorlaw09_AreaKeeps.j1 k y0 y1 y2 y3 y4 y5 y6 y7 y8 y9 y10 y11 y12 y13 y14 y15 y16 y17) (paviorlaw09_AreaKeeps.j1 (k + 1) y0 y1 y2 y3 y4 y5 y6 y7 y8 y9 y10 y11 y12 y13 y14 y15 y16 y17)) ∧ (∀ y0 y1 y2 y3 y4 y5 y6 y7 y8 y9 y10 y11, LeO (paviorlaw09_AreaKeeps.j2 k y0 y1 y2 y3 y4 y5 y6 y7 y8 y9 y10 y11) (paviorlaw09_AreaKeeps.j2 (k + 1) y0 y1 y2 y3 y4 y5 y6 y7 y8 y9 y10 y11)) ∧ (∀ y0 y1 y2 y3 y4 y5 y6 y7 y8 y9 y10 y11 y12 y13 y14, LeO (paviorlaw09_AreaKeeps.j3 k y0 y1 y2 y3 y4 y5 y6 y7 y8 y9 y10 y11 y12 y13 y14) (paviorlaw09_AreaKeeps.j3 (k + 1) y0 y1 y2 y3 y4 y5 y6 y7 y8 y9 y10 y11 y12 y13 y14)) ∧ (∀ y0 y1, LeO (paviorlaw09_AreaKeeps.j4 k y0 y1) (paviorlaw09_AreaKeeps.j4 (k + 1) y0 y1)) ∧ (∀ y0 y1 y2 y3 y4 y5 y6 y7 y8 y9 y10 y11 y12 y13 y14, LeO (paviorlaw09_AreaKeeps.j5 k y0 y1 y2 y3 y4 y5 y6 y7 y8 y9 y10 y11 y12 y13 y14) (paviorlaw09_AreaKeeps.j5 (k + 1) y0 y1 y2 y3 y4 y5 y6 y7 y8 y9 y10 y11 y12 y13 y14)) ∧ (∀ y0 y1, LeO (paviorlaw09_AreaKeeps.j6 k y0 y1) (paviorlaw09_AreaKeeps.j6 (k + 1) y0 y1))
  | 0 => ⟨fun _ _ _ _ _ _ _ _ _ _ _ _ _ _ _ _ _ _ r h => by simp [paviorlaw09_AreaKeeps.j0] at h, fun _ _ _ _ _ _ _ _ _ _ _ _ _ _ _ _ _ _ r h => by simp [paviorlaw09_AreaKeeps.j1] at h, fun _ _ _ _ _ _ _ _ _ _ _ _ r h => by simp [paviorlaw09_AreaKeeps.j2] at h, fun _ _ _ _ _ _ _ _ _ _ _ _ _ _ _ r h => by simp [paviorlaw09_AreaKeeps.j3] at h, fun _ _ r h => by simp [paviorlaw09_AreaKeeps.j4] at h, fun _ _ _ _ _ _ _ _ _ _ _ _ _ _ _ r h => by simp [paviorlaw09_AreaKeeps.j5] at h, fun _ _ r h => by simp [paviorlaw09_AreaKeeps.j6] at h⟩
  | k + 1 => by
    obtain ⟨ih0, ih1, ih2, ih3, ih4, ih5, ih6⟩ := paviorlaw09_AreaKeeps.mono_l k
    refine ⟨?_, ?_, ?_, ?_, ?_, ?_, ?_⟩
    · intro y0 y1 y2 y3 y4 y5 y6 y7 y8 y9 y10 y11 y12 y13 y14 y15 y16 y17
      unfold paviorlaw09_AreaKeeps.j0
      repeat' first
      | (with_reducible exact ih0 _ _ _ _ _ _ _ _ _ _ _ _ _ _ _ _ _ _)
      | (with_reducible exact ih1 _ _ _ _ _ _ _ _ _ _ _ _ _ _ _ _ _ _)
      | (with_reducible exact ih2 _ _ _ _ _ _ _ _ _ _ _ _)
      | (with_reducible exact ih3 _ _ _ _ _ _ _ _ _ _ _ _ _ _ _)
      | (with_reducible exact ih4 _ _)
      | (with_reducible exact ih5 _ _ _ _ _ _ _ _ _ _ _ _ _ _ _)
      | (with_reducible exact ih6 _ _)
      | (with_reducible exact area_Cut.mono _ _ _ _)
      | (with_reducible exact area_Find.mono _ _ _)
      | (with_reducible exact area_Lay.mono _ _ _ _ _ _ _)
      | (with_reducible exact paviorlaw09_up.mono _)
      | (with_reducible exact LeO.refl _)
      | (with_reducible exact LeO.none _)
      | (with_reducible refine LeO.ite ?_ ?_)
      | (with_reducible refine LeO.bind ?_ (fun _ => ?_))
      | exact ih0 _ _ _ _ _ _ _ _ _ _ _ _ _ _ _ _ _ _
      | exact ih1 _ _ _ _ _ _ _ _ _ _ _ _ _ _ _ _ _ _
      | exact ih2 _ _ _ _ _ _ _ _ _ _ _ _
      | exact ih3 _ _ _ _ _ _ _ _ _ _ _ _ _ _ _
      | exact ih4 _ _
      | exact ih5 _ _ _ _ _ _ _ _ _ _ _ _ _ _ _
      | exact ih6 _ _
      | exact area_Cut.mono _ _ _ _
      | exact area_Find.mono _ _ _
      | exact area_Lay.mono _ _ _ _ _ _ _
      | exact paviorlaw09_up.mono _
      | exact LeO.none _
      | refine LeO.ite ?_ ?_
      | refine LeO.bind ?_ (fun _ => ?_)
    · intro y0 y1 y2 y3 y4 y5 y6 y7 y8 y9 y10 y11 y12 y13 y14 y15 y16 y17
      unfold paviorlaw09_AreaKeeps.j1
      repeat' first
      | (with_reducible exact ih0 _ _ _ _ _ _ _ _ _ _ _ _ _ _ _ _ _ _)
      | (with_reducible exact ih1 _ _ _ _ _ _ _ _ _ _ _ _ _ _ _ _ _ _)
      | (with_reducible exact ih2 _ _ _ _ _ _ _ _ _ _ _ _)
      | (with_reducible exact ih3 _ _ _ _ _ _ _ _ _ _ _ _ _ _ _)
      | (with_reducible exact ih4 _ _)
      | (with_reducible exact ih5 _ _ _ _ _ _ _ _ _ _ _ _ _ _ _)
      | (with_reducible exact ih6 _ _)
      | (with_reducible exact area_Cut.mono _ _ _ _)
      | (with_reducible exact area_Find.mono _ _ _)
      | (with_reducible exact area_Lay.mono _ _ _ _ _ _ _)
      | (with_reducible exact paviorlaw09_up.mono _)
      | (with_reducible exact LeO.refl _)
      | (with_reducible exact LeO.none _)
      | (with_reducible refine LeO.ite ?_ ?_)
      | (with_reducible refine LeO.bind ?_ (fun _ => ?_))
      | exact ih0 _ _ _ _ _ _ _ _ _ _ _ _ _ _ _ _ _ _
      | exact ih1 _ _ _ _ _ _ _ _ _ _ _ _ _ _ _ _ _ _
      | exact ih2 _ _ _ _ _ _ _ _ _ _ _ _
      | exact ih3 _ _ _ _ _ _ _ _ _ _ _ _ _ _ _
      | exact ih4 _ _
      | exact ih5 _ _ _ _ _ _ _ _ _ _ _ _ _ _ _
      | exact ih6 _ _
      | exact area_Cut.mono _ _ _ _
      | exact area_Find.mono _ _ _
      | exact area_Lay.mono _ _ _ _ _ _ _
      | exact paviorlaw09_up.mono _
      | exact LeO.none _
      | refine LeO.ite ?_ ?_
      | refine LeO.bind ?_ (fun _ => ?_)
    · intro y0 y1 y2 y3 y4 y5 y6 y7 y8 y9 y10 y11
      unfold paviorlaw09_AreaKeeps.j2
      repeat' first
      | (with_reducible exact ih0 _ _ _ _ _ _ _ _ _ _ _ _ _ _ _ _ _ _)
      | (with_reducible exact ih1 _ _ _ _ _ _ _ _ _ _ _ _ _ _ _ _ _ _)
      | (with_reducible exact ih2 _ _ _ _ _ _ _ _ _ _ _ _)
      | (with_reducible exact ih3 _ _ _ _ _ _ _ _ _ _ _ _ _ _ _)
      | (with_reducible exact ih4 _ _)
      | (with_reducible exact ih5 _ _ _ _ _ _ _ _ _ _ _ _ _ _ _)
      | (with_reducible exact ih6 _ _)
      | (with_reducible exact area_Cut.mono _ _ _ _)
      | (with_reducible exact area_Find.mono _ _ _)
      | (with_reducible exact area_Lay.mono _ _ _ _ _ _ _)
      | (with_reducible exact paviorlaw09_up.mono _)
      | (with_reducible exact LeO.refl _)
      | (with_reducible exact LeO.none _)
      | (with_reducible refine LeO.ite ?_ ?_)
      | (with_reducible refine LeO.bind ?_ (fun _ => ?_))
      | exact ih0 _ _ _ _ _ _ _ _ _ _ _ _ _ _ _ _ _ _
      | exact ih1 _ _ _ _ _ _ _ _ _ _ _ _ _ _ _ _ _ _
      | exact ih2 _ _ _ _ _ _ _ _ _ _ _ _
      | exact ih3 _ _ _ _ _ _ _ _ _ _ _ _ _ _ _
      | exact ih4 _ _
      | exact ih5 _ _ _ _ _ _ _ _ _ _ _ _ _ _ _
      | exact ih6 _ _
      | exact area_Cut.mono _ _ _ _
      | exact area_Find.mono _ _ _
      | exact area_Lay.mono _ _ _ _ _ _ _
      | exact paviorlaw09_up.mono _
      | exact LeO.none _
      | refine LeO.ite ?_ ?_
      | refine LeO.bind ?_ (fun _ => ?_)
    · intro y0 y1 y2 y3 y4 y5 y6 y7 y8 y9 y10 y11 y12 y13 y14
      unfold paviorlaw09_AreaKeeps.j3
      repeat' first
      | (with_reducible exact ih0 _ _ _ _ _ _ _ _ _ _ _ _ _ _ _ _ _ _)
      | (with_reducible exact ih1 _ _ _ _ _ _ _ _ _ _ _ _ _ _ _ _ _ _)
      | (with_reducible exact ih2 _ _ _ _ _ _ _ _ _ _ _ _)
      | (with_reducible exact ih3 _ _ _ _ _ _ _ _ _ _ _ _ _ _ _)
      | (with_reducible exact ih4 _ _)
      | (with_reducible exact ih5 _ _ _ _ _ _ _ _ _ _ _ _ _ _ _)
      | (with_reducible exact ih6 _ _)
      | (with_reducible exact area_Cut.mono _ _ _ _)
      | (with_reducible exact area_Find.mono _ _ _)
      | (with_reducible exact area_Lay.mono _ _ _ _ _ _ _)
      | (with_reducible exact paviorlaw09_up.mono _)
      | (with_reducible exact LeO.refl _)
      | (with_reducible exact LeO.none _)
      | (with_reducible refine LeO.ite ?_ ?_)
      | (with_reducible refine LeO.bind ?_ (fun _ => ?_))
      | exact ih0 _ _ _ _ _ _ _ _ _ _ _ _ _ _ _ _ _ _
      | exact ih1 _ _ _ _ _ _ _ _ _ _ _ _ _ _ _ _ _ _
      | exact ih2 _ _ _ _ _ _ _ _ _ _ _ _
      | exact ih3 _ _ _ _ _ _ _ _ _ _ _ _ _ _ _
      | exact ih4 _ _
      | exact ih5 _ _ _ _ _ _ _ _ _ _ _ _ _ _ _
      | exact ih6 _ _
      | exact area_Cut.mono _ _ _ _
      | exact area_Find.mono _ _ _
      | exact area_Lay.mono _ _ _ _ _ _ _
      | exact paviorlaw09_up.mono _
      | exact LeO.none _
      | refine LeO.ite ?_ ?_
      | refine LeO.bind ?_ (fun _ => ?_)
    · intro y0 y1
      unfold paviorlaw09_AreaKeeps.j4
      repeat' first
      | (with_reducible exact ih0 _ _ _ _ _ _ _ _ _ _ _ _ _ _ _ _ _ _)
      | (with_reducible exact ih1 _ _ _ _ _ _ _ _ _ _ _ _ _ _ _ _ _ _)
      | (with_reducible exact ih2 _ _ _ _ _ _ _ _ _ _ _ _)
      | (with_reducible exact ih3 _ _ _ _ _ _ _ _ _ _ _ _ _ _ _)
      | (with_reducible exact ih4 _ _)
      | (with_reducible exact ih5 _ _ _ _ _ _ _ _ _ _ _ _ _ _ _)
      | (with_reducible exact ih6 _ _)
      | (with_reducible exact area_Cut.mono _ _ _ _)
      | (with_reducible exact area_Find.mono _ _ _)
      | (with_reducible exact area_Lay.mono _ _ _ _ _ _ _)
      | (with_reducible exact paviorlaw09_up.mono _)
      | (with_reducible exact LeO.refl _)
      | (with_reducible exact LeO.none _)
      | (with_reducible refine LeO.ite ?_ ?_)
      | (with_reducible refine LeO.bind ?_ (fun _ => ?_))
      | exact ih0 _ _ _ _ _ _ _ _ _ _ _ _ _ _ _ _ _ _
      | exact ih1 _ _ _ _ _ _ _ _ _ _ _ _ _ _ _ _ _ _
      | exact ih2 _ _ _ _ _ _ _ _ _ _ _ _
      | exact ih3 _ _ _ _ _ _ _ _ _ _ _ _ _ _ _
      | exact ih4 _ _
      | exact ih5 _ _ _ _ _ _ _ _ _ _ _ _ _ _ _
      | exact ih6 _ _
      | exact area_Cut.mono _ _ _ _
      | exact area_Find.mono _ _ _
      | exact area_Lay.mono _ _ _ _ _ _ _
      | exact paviorlaw09_up.mono _
      | exact LeO.none _
      | refine LeO.ite ?_ ?_
      | refine LeO.bind ?_ (fun _ => ?_)
    · intro y0 y1 y2 y3 y4 y5 y6 y7 y8 y9 y10 y11 y12 y13 y14
      unfold paviorlaw09_AreaKeeps.j5
      repeat' first
      | (with_reducible exact ih0 _ _ _ _ _ _ _ _ _ _ _ _ _ _ _ _ _ _)
      | (with_reducible exact ih1 _ _ _ _ _ _ _ _ _ _ _ _ _ _ _ _ _ _)
      | (with_reducible exact ih2 _ _ _ _ _ _ _ _ _ _ _ _)
      | (with_reducible exact ih3 _ _ _ _ _ _ _ _ _ _ _ _ _ _ _)
      | (with_reducible exact ih4 _ _)
      | (with_reducible exact ih5 _ _ _ _ _ _ _ _ _ _ _ _ _ _ _)
      | (with_reducible exact ih6 _ _)
      | (with_reducible exact area_Cut.mono _ _ _ _)
      | (with_reducible exact area_Find.mono _ _ _)
      | (with_reducible exact area_Lay.mono _ _ _ _ _ _ _)
      | (with_reducible exact paviorlaw09_up.mono _)
      | (with_reducible exact LeO.refl _)
      | (with_reducible exact LeO.none _)
      | (with_reducible refine LeO.ite ?_ ?_)
      | (with_reducible refine LeO.bind ?_ (fun _ => ?_))
      | exact ih0 _ _ _ _ _ _ _ _ _ _ _ _ _ _ _ _ _ _
      | exact ih1 _ _ _ _ _ _ _ _ _ _ _ _ _ _ _ _ _ _
      | exact ih2 _ _ _ _ _ _ _ _ _ _ _ _
      | exact ih3 _ _ _ _ _ _ _ _ _ _ _ _ _ _ _
      | exact ih4 _ _
      | exact ih5 _ _ _ _ _ _ _ _ _ _ _ _ _ _ _
      | exact ih6 _ _
      | exact area_Cut.mono _ _ _ _
      | exact area_Find.mono _ _ _
      | exact area_Lay.mono _ _ _ _ _ _ _
      | exact paviorlaw09_up.mono _
      | exact LeO.none _
      | refine LeO.ite ?_ ?_
      | refine LeO.bind ?_ (fun _ => ?_)
    · intro y0 y1
      unfold paviorlaw09_AreaKeeps.j6
      repeat' first
      | (with_reducible exact ih0 _ _ _ _ _ _ _ _ _ _ _ _ _ _ _ _ _ _)
      | (with_reducible exact ih1 _ _ _ _ _ _ _ _ _ _ _ _ _ _ _ _ _ _)
      | (with_reducible exact ih2 _ _ _ _ _ _ _ _ _ _ _ _)
      | (with_reducible exact ih3 _ _ _ _ _ _ _ _ _ _ _ _ _ _ _)
      | (with_reducible exact ih4 _ _)
      | (with_reducible exact ih5 _ _ _ _ _ _ _ _ _ _ _ _ _ _ _)
      | (with_reducible exact ih6 _ _)
      | (with_reducible exact area_Cut.mono _ _ _ _)
      | (with_reducible exact area_Find.mono _ _ _)
      | (with_reducible exact area_Lay.mono _ _ _ _ _ _ _)
      | (with_reducible exact paviorlaw09_up.mono _)
      | (with_reducible exact LeO.refl _)
      | (with_reducible exact LeO.none _)
      | (with_reducible refine LeO.ite ?_ ?_)
      | (with_reducible refine LeO.bind ?_ (fun _ => ?_))
      | exact ih0 _ _ _ _ _ _ _ _ _ _ _ _ _ _ _ _ _ _
      | exact ih1 _ _ _ _ _ _ _ _ _ _ _ _ _ _ _ _ _ _
      | exact ih2 _ _ _ _ _ _ _ _ _ _ _ _
      | exact ih3 _ _ _ _ _ _ _ _ _ _ _ _ _ _ _
      | exact ih4 _ _
      | exact ih5 _ _ _ _ _ _ _ _ _ _ _ _ _ _ _
      | exact ih6 _ _
      | exact area_Cut.mono _ _ _ _
      | exact area_Find.mono _ _ _
      | exact area_Lay.mono _ _ _ _ _ _ _
      | exact paviorlaw09_up.mono _
      | exact LeO.none _
      | refine LeO.ite ?_ ?_
      | refine LeO.bind ?_ (fun _ => ?_)
theorem paviorlaw09_AreaKeeps.mono : ∀ a0 a1 a2 a3 a4 a5 a6 k, LeO (paviorlaw09_AreaKeeps.f k a0 a1 a2 a3 a4 a5 a6) (paviorlaw09_AreaKeeps.f (k + 1) a0 a1 a2 a3 a4 a5 a6) := by
  intro a0 a1 a2 a3 a4 a5 a6 k
  obtain ⟨ih0, ih1, ih2, ih3, ih4, ih5, ih6⟩ := paviorlaw09_AreaKeeps.mono_l k
  unfold paviorlaw09_AreaKeeps.f
  repeat' first
      | (with_reducible exact ih0 _ _ _ _ _ _ _ _ _ _ _ _ _ _ _ _ _ _)
      | (with_reducible exact ih1 _ _ _ _ _ _ _ _ _ _ _ _ _ _ _ _ _ _)
      | (with_reducible exact ih2 _ _ _ _ _ _ _ _ _ _ _ _)
      | (with_reducible exact ih3 _ _ _ _ _ _ _ _ _ _ _ _ _ _ _)
      | (with_reducible exact ih4 _ _)
      | (with_reducible exact ih5 _ _ _ _ _ _ _ _ _ _ _ _ _ _ _)
      | (with_reducible exact ih6 _ _)
      | (with_reducible exact area_Cut.mono _ _ _ _)
      | (with_reducible exact area_Find.mono _ _ _)
      | (with_reducible exact area_Lay.mono _ _ _ _ _ _ _)
      | (with_reducible exact paviorlaw09_up.mono _)
      | (with_reducible exact LeO.refl _)
      | (with_reducible exact LeO.none _)
      | (with_reducible refine LeO.ite ?_ ?_)
      | (with_reducible refine LeO.bind ?_ (fun _ => ?_))
      | exact ih0 _ _ _ _ _ _ _ _ _ _ _ _ _ _ _ _ _ _
      | exact ih1 _ _ _ _ _ _ _ _ _ _ _ _ _ _ _ _ _ _
      | exact ih2 _ _ _ _ _ _ _ _ _ _ _ _
      | exact ih3 _ _ _ _ _ _ _ _ _ _ _ _ _ _ _
      | exact ih4 _ _
      | exact ih5 _ _ _ _ _ _ _ _ _ _ _ _ _ _ _
      | exact ih6 _ _
      | exact area_Cut.mono _ _ _ _
      | exact area_Find.mono _ _ _
      | exact area_Lay.mono _ _ _ _ _ _ _
      | exact paviorlaw09_up.mono _
      | exact LeO.none _
      | refine LeO.ite ?_ ?_
      | refine LeO.bind ?_ (fun _ => ?_)
set_option maxHeartbeats 8000000 in
set_option maxRecDepth 100000 in
theorem paviorlaw09_AreaKeeps.calls (k : Nat) (A0 : Option Addr) (c0 : Nat) (l0 : List (S32)) (a1_0 : Int) (a1_1 : Int) (a1_2 : Bool) (a1_3 : Bool) (a1_4 : Bool) (a2 : Int) (r : Bool) (w : World) (hr0 : Kd.C k32 w A0 l0.length l0) (hc0 : l0.length ≤ c0) (h : paviorlaw09_AreaKeeps.f k l0 a1_0 a1_1 a1_2 a1_3 a1_4 a2 = some r) :
    Calls Try.prog 8 #[.slice A0 l0.length c0, .agg #[.int .i64 a1_0, .int .i64 a1_1, .bool a1_2, .bool a1_3, .bool a1_4], .int .i64 a2] w fun e w' => e = .returned (.bool r) ∧ Below w.heap.size w w' := by
  have hu32 := Try.underlying32
  have hu30 := Try.underlying30
  have hu25 := Try.underlying25
  have hu28 := Try.underlying28
  have HR0 := Aside0.mk hr0
  have HC0 := Aside0.mk hc0
  clear hr0 hc0
  have HB := Aside0.mk (Below.refl w.heap.size w)
  have H : ((paviorlaw09_up.f k).bind fun t390 => (if (l0.length : Int) > 200 then (some t390) else ((area_Lay.f k l0 a1_0 a1_1 a1_2 a1_3 a1_4).bind fun bt391 => ((area_Cut.f k l0 a1_0 a1_1).bind fun bt395 => ((area_Find.f k l0 a2).bind fun bt399 => (if a2 ≥ a1_0 then (paviorlaw09_AreaKeeps.j0 k a2 t390 bt391.1 bt391.2 bt395.1 bt395.2 bt399.2.2.2.2.2 (decide (a2 < a1_1)) a1_0 a1_1 a1_2 a1_3 a1_4 bt399.1 bt399.2.1 bt399.2.2.1 bt399.2.2.2.1 bt399.2.2.2.2.1) else (paviorlaw09_AreaKeeps.j0 k a2 t390 bt391.1 bt391.2 bt395.1 bt395.2 bt399.2.2.2.2.2 false a1_0 a1_1 a1_2 a1_3 a1_4 bt399.1 bt399.2.1 bt399.2.2.1 bt399.2.2.2.1 bt399.2.2.2.2.1))))))) = some r := h
  clear h
  replace H := Option.bind_eq_some_iff.mp H
  obtain ⟨t390, A40, H⟩ := H
  replace H : (if (l0.length : Int) > 200 then (some t390) else ((area_Lay.f k l0 a1_0 a1_1 a1_2 a1_3 a1_4).bind fun bt391 => ((area_Cut.f k l0 a1_0 a1_1).bind fun bt395 => ((area_Find.f k l0 a2).bind fun bt399 => (if a2 ≥ a1_0 then (paviorlaw09_AreaKeeps.j0 k a2 t390 bt391.1 bt391.2 bt395.1 bt395.2 bt399.2.2.2.2.2 (decide (a2 < a1_1)) a1_0 a1_1 a1_2 a1_3 a1_4 bt399.1 bt399.2.1 bt399.2.2.1 bt399.2.2.2.1 bt399.2.2.2.2.1) else (paviorlaw09_AreaKeeps.j0 k a2 t390 bt391.1 bt391.2 bt395.1 bt395.2 bt399.2.2.2.2.2 false a1_0 a1_1 a1_2 a1_3 a1_4 bt399.1 bt399.2.1 bt399.2.2.1 bt399.2.2.2.1 bt399.2.2.2.2.1)))))) = some r := H
  have A4 := Aside0.mk A40
  clear A40
  by_cases c5 : (l0.length : Int) > 200
  · rw [if_pos c5] at H
    have c5b0 : decide (200 < (l0.length : Int)) = true := decide_eq_true c5
    have c5b1 : decide (200 < l0.length) = true := decide_eq_true (by omega)
    clear c5
    obtain rfl := Option.some.inj H
    go_enter Try.func8, Try.ntmps8
    go_wp2_with (first | ((with_reducible refine gate_dst (N := 4) rfl ?_); refine box_event ?hg (N := 4) ?hd (cs := #[.int .i64 a1_0, .int .i64 a1_1, .bool a1_2, .bool a1_3, .bool a1_4]) (t := 32) ?hr ?_; (case hd => rfl); (case hg => rfl); (case hr => first | (go_simp; done) | (go_simp; rfl)); intro gb389 hg w6 hbox hb; have n0_ := Aside0.mk (below_step (by repeat (first | (with_reducible first | exact HB.out | apply below_alloc | apply pw_below_drewN | apply below_drew1) | exact HB.out)) hb); have n1_ := Aside0.mk (hbox); have n2_ := Aside0.mk ((by rw [hg]; exact (below_size (by repeat (first | (with_reducible first | exact HB.out | apply below_alloc | apply pw_below_drewN | apply below_drew1) | exact HB.out))) : w.heap.size ≤ gb389)); have n3_ := Aside0.mk ((by rw [hg]; exact (below_size (by repeat (first | (with_reducible first | exact HB.out | apply below_alloc | apply pw_below_drewN | apply below_drew1) | exact HB.out))) : w.heap.size ≤ gb389)); clear HB; have HB := n0_; have BK389 := n1_; have GW389 := n2_; have GE389 := n3_; clear n0_ n1_ n2_ n3_; clear hb hbox hg) | ((with_reducible refine gate_callee (f := 12) rfl ?_); refine goesL_ (some 19) rfl rfl Try.func12 (by kernel_rfl) rfl #[] rfl (by (try simp only [List.map_toArray, List.map_cons, List.map_nil]); first | done | rfl | (simp only [List.length_drop, List.length_take]; rfl)) ?_; (with_reducible refine (paviorlaw09_up.calls k  t390 _ A4.out).mono ?_); rintro e w7 ⟨rfl, hb⟩; refine ⟨_, rfl, ?_⟩; have n0_ := Aside0.mk (blk_below (g := gb389) (o := .cells #[.int .i64 a1_0, .int .i64 a1_1, .bool a1_2, .bool a1_3, .bool a1_4] 32 (0, 0)) (by (with_reducible repeat (first | refine blk_drewN ?_ _ | refine blk_drew ?_ | refine blk_alloc ?_ _)); exact BK389.out) hb); have n1_ := Aside0.mk (below_step (by repeat (first | (with_reducible first | exact HB.out | apply below_alloc | apply pw_below_drewN | apply below_drew1 | refine below_set ?_ GE389.out) | exact HB.out)) hb); clear BK389; clear HB; have BK389 := n0_; have HB := n1_; clear n0_ n1_; (try clear hb); (try clear hb2); (try clear hk); (try clear hi)))
    go_ret
    exact ⟨by first | rfl | (simp [errW_none, errW_some] <;> rfl) | (simp [*, errW_none, errW_some] <;> rfl), by repeat (first | (with_reducible first | exact HB.out | apply below_alloc | apply pw_below_drewN | apply below_drew1 | refine below_set ?_ GE389.out) | exact HB.out)⟩
  · rw [if_neg c5] at H
    have c5b0 : decide (200 < (l0.length : Int)) = false := decide_eq_false c5
    have c5b1 : decide (200 < l0.length) = false := decide_eq_false (by omega)
    clear c5
    replace H := Option.bind_eq_some_iff.mp H
    obtain ⟨⟨t391, t394⟩, A80, H⟩ := H
    replace H : ((area_Cut.f k l0 a1_0 a1_1).bind fun bt395 => ((area_Find.f k l0 a2).bind fun bt399 => (if a2 ≥ a1_0 then (paviorlaw09_AreaKeeps.j0 k a2 t390 t391 t394 bt395.1 bt395.2 bt399.2.2.2.2.2 (decide (a2 < a1_1)) a1_0 a1_1 a1_2 a1_3 a1_4 bt399.1 bt399.2.1 bt399.2.2.1 bt399.2.2.2.1 bt399.2.2.2.2.1) else (paviorlaw09_AreaKeeps.j0 k a2 t390 t391 t394 bt395.1 bt395.2 bt399.2.2.2.2.2 false a1_0 a1_1 a1_2 a1_3 a1_4 bt399.1 bt399.2.1 bt399.2.2.1 bt399.2.2.2.1 bt399.2.2.2.2.1)))) = some r := H
    have A8 := Aside0.mk A80
    clear A80
    replace H := Option.bind_eq_some_iff.mp H
    obtain ⟨⟨t395, t396⟩, A90, H⟩ := H
    replace H : ((area_Find.f k l0 a2).bind fun bt399 => (if a2 ≥ a1_0 then (paviorlaw09_AreaKeeps.j0 k a2 t390 t391 t394 t395 t396 bt399.2.2.2.2.2 (decide (a2 < a1_1)) a1_0 a1_1 a1_2 a1_3 a1_4 bt399.1 bt399.2.1 bt399.2.2.1 bt399.2.2.2.1 bt399.2.2.2.2.1) else (paviorlaw09_AreaKeeps.j0 k a2 t390 t391 t394 t395 t396 bt399.2.2.2.2.2 false a1_0 a1_1 a1_2 a1_3 a1_4 bt399.1 bt399.2.1 bt399.2.2.1 bt399.2.2.2.1 bt399.2.2.2.2.1))) = some r := H
    have A9 := Aside0.mk A90
    clear A90
    replace H := Option.bind_eq_some_iff.mp H
    obtain ⟨⟨t399, t400, t401, t402, t403, t404⟩, A100, H⟩ := H
    replace H : (if a2 ≥ a1_0 then (paviorlaw09_AreaKeeps.j0 k a2 t390 t391 t394 t395 t396 t404 (decide (a2 < a1_1)) a1_0 a1_1 a1_2 a1_3 a1_4 t399 t400 t401 t402 t403) else (paviorlaw09_AreaKeeps.j0 k a2 t390 t391 t394 t395 t396 t404 false a1_0 a1_1 a1_2 a1_3 a1_4 t399 t400 t401 t402 t403)) = some r := H
    have A10 := Aside0.mk A100
    clear A100
    have HC11 := Aside0.mk H
    clear H
    go_enter Try.func8, Try.ntmps8
    go_upto_region 7 with (first | ((with_reducible refine gate_dst (N := 4) rfl ?_); refine box_event ?hg (N := 4) ?hd (cs := #[.int .i64 a1_0, .int .i64 a1_1, .bool a1_2, .bool a1_3, .bool a1_4]) (t := 32) ?hr ?_; (case hd => rfl); (case hg => rfl); (case hr => first | (go_simp; done) | (go_simp; rfl)); intro gb389 hg w12 hbox hb; have n0_ := Aside0.mk (below_step (by repeat (first | (with_reducible first | exact HB.out | apply below_alloc | apply pw_below_drewN | apply below_drew1) | exact HB.out)) hb); have n1_ := Aside0.mk (hbox); have n2_ := Aside0.mk ((by rw [hg]; exact (below_size (by repeat (first | (with_reducible first | exact HB.out | apply below_alloc | apply pw_below_drewN | apply below_drew1) | exact HB.out))) : w.heap.size ≤ gb389)); have n3_ := Aside0.mk ((by rw [hg]; exact (below_size (by repeat (first | (with_reducible first | exact HB.out | apply below_alloc | apply pw_below_drewN | apply below_drew1) | exact HB.out))) : w.heap.size ≤ gb389)); clear HB; have HB := n0_; have BK389 := n1_; have GW389 := n2_; have GE389 := n3_; clear n0_ n1_ n2_ n3_; clear hb hbox hg) | ((with_reducible refine gate_callee (f := 12) rfl ?_); refine goesL_ (some 19) rfl rfl Try.func12 (by kernel_rfl) rfl #[] rfl (by (try simp only [List.map_toArray, List.map_cons, List.map_nil]); first | done | rfl | (simp only [List.length_drop, List.length_take]; rfl)) ?_; (with_reducible refine (paviorlaw09_up.calls k  t390 _ A4.out).mono ?_); rintro e w13 ⟨rfl, hb⟩; refine ⟨_, rfl, ?_⟩; have n0_ := Aside0.mk (blk_below (g := gb389) (o := .cells #[.int .i64 a1_0, .int .i64 a1_1, .bool a1_2, .bool a1_3, .bool a1_4] 32 (0, 0)) (by (with_reducible repeat (first | refine blk_drewN ?_ _ | refine blk_drew ?_ | refine blk_alloc ?_ _)); exact BK389.out) hb); have n1_ := Aside0.mk (below_step (by repeat (first | (with_reducible first | exact HB.out | apply below_alloc | apply pw_below_drewN | apply below_drew1 | refine below_set ?_ GE389.out) | exact HB.out)) hb); clear BK389; clear HB; have BK389 := n0_; have HB := n1_; clear n0_ n1_; (try clear hb); (try clear hb2); (try clear hk); (try clear hi); have hcz14_0 : w13.cell? ⟨gb389, 0, none⟩ = some (.int .i64 a1_0) := (blk_cell BK389.out 0).trans rfl; have hcz14_1 : w13.cell? ⟨gb389, 1, none⟩ = some (.int .i64 a1_1) := (blk_cell BK389.out 1).trans rfl; have hcz14_2 : w13.cell? ⟨gb389, 2, none⟩ = some (.bool a1_2) := (blk_cell BK389.out 2).trans rfl; have hcz14_3 : w13.cell? ⟨gb389, 3, none⟩ = some (.bool a1_3) := (blk_cell BK389.out 3).trans rfl; have hcz14_4 : w13.cell? ⟨gb389, 4, none⟩ = some (.bool a1_4) := (blk_cell BK389.out 4).trans rfl; have hfz14_0 := blk_frozen BK389.out 0; have hfz14_1 := blk_frozen BK389.out 1; have hfz14_2 := blk_frozen BK389.out 2; have hfz14_3 := blk_frozen BK389.out 3; have hfz14_4 := blk_frozen BK389.out 4) | ((with_reducible refine gate_callee (f := 15) rfl ?_); refine goesL_ (some 27) rfl rfl Try.func15 (by kernel_rfl) rfl #[.slice A0 l0.length c0, .agg #[.int .i64 a1_0, .int .i64 a1_1, .bool a1_2, .bool a1_3, .bool a1_4]] rfl (by (try simp only [List.map_toArray, List.map_cons, List.map_nil]); first | done | rfl | (simp only [List.length_drop, List.length_take]; rfl)) ?_; (with_reducible refine (area_Lay.calls k _ _ l0 a1_0 a1_1 a1_2 a1_3 a1_4 t391 t394 _ ?side1 ?side2 A8.out).mono ?_); (case side1 => repeat (first | exact (Kd.C_below HR0.out HB.out) | (with_reducible refine Kd.C_alloc ?_ _) | (with_reducible refine Kd.C_drewN ?_ _) | (with_reducible refine Kd.C_drew ?_))); (case side2 => exact HC0.out); rintro e w15 ⟨v392, rfl, ho0, hb⟩; refine ⟨_, rfl, ?_⟩; have n0_ := Aside0.mk (Kd.R_lower (Kd.R_newB ho0 (g := gb389) (o := .cells #[.int .i64 a1_0, .int .i64 a1_1, .bool a1_2, .bool a1_3, .bool a1_4] 32 (0, 0)) (by (with_reducible repeat (first | refine blk_drewN ?_ _ | refine blk_drew ?_ | refine blk_alloc ?_ _)); exact BK389.out)) (below_size (by repeat (first | (with_reducible first | exact HB.out | apply below_alloc | apply pw_below_drewN | apply below_drew1 | refine below_set ?_ GE389.out) | exact HB.out)))); have n1_ := Aside0.mk (blk_below (g := gb389) (o := .cells #[.int .i64 a1_0, .int .i64 a1_1, .bool a1_2, .bool a1_3, .bool a1_4] 32 (0, 0)) (by (with_reducible repeat (first | refine blk_drewN ?_ _ | refine blk_drew ?_ | refine blk_alloc ?_ _)); exact BK389.out) hb); have n2_ := Aside0.mk (below_step (by repeat (first | (with_reducible first | exact HB.out | apply below_alloc | apply pw_below_drewN | apply below_drew1 | refine below_set ?_ GE389.out) | exact HB.out)) hb); clear BK389; clear HB; have HO393 := n0_; have BK389 := n1_; have HB := n2_; clear n0_ n1_ n2_; (try clear hb); (try clear hb2); (try clear hk); (try clear hi); (try clear ho0); (try simp only [errW_none, errW_some]); have hcz16_0 : w15.cell? ⟨gb389, 0, none⟩ = some (.int .i64 a1_0) := (blk_cell BK389.out 0).trans rfl; have hcz16_1 : w15.cell? ⟨gb389, 1, none⟩ = some (.int .i64 a1_1) := (blk_cell BK389.out 1).trans rfl; have hcz16_2 : w15.cell? ⟨gb389, 2, none⟩ = some (.bool a1_2) := (blk_cell BK389.out 2).trans rfl; have hcz16_3 : w15.cell? ⟨gb389, 3, none⟩ = some (.bool a1_3) := (blk_cell BK389.out 3).trans rfl; have hcz16_4 : w15.cell? ⟨gb389, 4, none⟩ = some (.bool a1_4) := (blk_cell BK389.out 4).trans rfl; have hfz16_0 := blk_frozen BK389.out 0; have hfz16_1 := blk_frozen BK389.out 1; have hfz16_2 := blk_frozen BK389.out 2; have hfz16_3 := blk_frozen BK389.out 3; have hfz16_4 := blk_frozen BK389.out 4) | ((with_reducible refine gate_callee (f := 16) rfl ?_); refine goesL_ (some 36) rfl rfl Try.func16 (by kernel_rfl) rfl #[.slice A0 l0.length c0, .int .i64 a1_0, .int .i64 a1_1] rfl (by (try simp only [List.map_toArray, List.map_cons, List.map_nil]); first | done | rfl | (simp only [List.length_drop, List.length_take]; rfl)) ?_; (with_reducible refine (area_Cut.calls k _ _ l0 a1_0 a1_1 t395 t396 _ ?side1 ?side2 A9.out).mono ?_); (case side1 => repeat (first | exact (Kd.C_below HR0.out HB.out) | (with_reducible refine Kd.C_alloc ?_ _) | (with_reducible refine Kd.C_drewN ?_ _) | (with_reducible refine Kd.C_drew ?_))); (case side2 => exact HC0.out); rintro e w17 ⟨v397, rfl, ho0, hb⟩; refine ⟨_, rfl, ?_⟩; have n0_ := Aside0.mk (Kd.R_elder' (by (with_reducible repeat (first | apply Kd.R_alloc | apply Kd.R_drewN | apply Kd.R_drew)); exact HO393.out) (Kd.R_base ho0) hb); have n1_ := Aside0.mk (Kd.R_lower (Kd.R_newB (Kd.R_new' ho0 (Kd.R_lt (by (with_reducible repeat (first | apply Kd.R_alloc | apply Kd.R_drewN | apply Kd.R_drew)); exact HO393.out))) (g := gb389) (o := .cells #[.int .i64 a1_0, .int .i64 a1_1, .bool a1_2, .bool a1_3, .bool a1_4] 32 (0, 0)) (by (with_reducible repeat (first | refine blk_drewN ?_ _ | refine blk_drew ?_ | refine blk_alloc ?_ _)); exact BK389.out)) (below_size (by repeat (first | (with_reducible first | exact HB.out | apply below_alloc | apply pw_below_drewN | apply below_drew1 | refine below_set ?_ GE389.out) | exact HB.out)))); have n2_ := Aside0.mk (blk_below (g := gb389) (o := .cells #[.int .i64 a1_0, .int .i64 a1_1, .bool a1_2, .bool a1_3, .bool a1_4] 32 (0, 0)) (by (with_reducible repeat (first | refine blk_drewN ?_ _ | refine blk_drew ?_ | refine blk_alloc ?_ _)); exact BK389.out) hb); have n3_ := Aside0.mk (below_step (by repeat (first | (with_reducible first | exact HB.out | apply below_alloc | apply pw_below_drewN | apply below_drew1 | refine below_set ?_ GE389.out) | exact HB.out)) hb); clear HO393; clear BK389; clear HB; have HO393 := n0_; have HO398 := n1_; have BK389 := n2_; have HB := n3_; clear n0_ n1_ n2_ n3_; (try clear hb); (try clear hb2); (try clear hk); (try clear hi); (try clear ho0); (try simp only [errW_none, errW_some])) | ((with_reducible refine gate_callee (f := 22) rfl ?_); refine goesL_ (some 42) rfl rfl Try.func22 (by kernel_rfl) rfl #[.slice A0 l0.length c0, .int .i64 a2] rfl (by (try simp only [List.map_toArray, List.map_cons, List.map_nil]); first | done | rfl | (simp only [List.length_drop, List.length_take]; rfl)) ?_; (with_reducible refine (area_Find.calls k _ _ l0 a2 t399 t400 t401 t402 t403 t404 _ ?side1 ?side2 A10.out).mono ?_); (case side1 => repeat (first | exact (Kd.C_below HR0.out HB.out) | (with_reducible refine Kd.C_alloc ?_ _) | (with_reducible refine Kd.C_drewN ?_ _) | (with_reducible refine Kd.C_drew ?_))); (case side2 => exact HC0.out); rintro e w18 ⟨rfl, hb⟩; refine ⟨_, rfl, ?_⟩; have n0_ := Aside0.mk (Kd.R_below (by (with_reducible repeat (first | apply Kd.R_alloc | apply Kd.R_drewN | apply Kd.R_drew)); exact HO393.out) hb); have n1_ := Aside0.mk (Kd.R_below (by (with_reducible repeat (first | apply Kd.R_alloc | apply Kd.R_drewN | apply Kd.R_drew)); exact HO398.out) hb); have n2_ := Aside0.mk (blk_below (g := gb389) (o := .cells #[.int .i64 a1_0, .int .i64 a1_1, .bool a1_2, .bool a1_3, .bool a1_4] 32 (0, 0)) (by (with_reducible repeat (first | refine blk_drewN ?_ _ | refine blk_drew ?_ | refine blk_alloc ?_ _)); exact BK389.out) hb); have n3_ := Aside0.mk (below_step (by repeat (first | (with_reducible first | exact HB.out | apply below_alloc | apply pw_below_drewN | apply below_drew1 | refine below_set ?_ GE389.out) | exact HB.out)) hb); clear HO393; clear HO398; clear BK389; clear HB; have HO393 := n0_; have HO398 := n1_; have BK389 := n2_; have HB := n3_; clear n0_ n1_ n2_ n3_; (try clear hb); (try clear hb2); (try clear hk); (try clear hi); (try simp only [errW_none, errW_some])) | ((with_reducible refine gate_dst (N := 12) rfl ?_); refine box_event ?hg (N := 12) ?hd (cs := #[.int .i64 0, .int .i64 0, .bool false, .bool false, .bool false]) (t := 32) ?hr ?_; (case hd => rfl); (case hg => rfl); (case hr => first | (go_simp; done) | (go_simp; rfl)); intro gb405 hg w19 hbox hb; have n0_ := Aside0.mk (Kd.R_below (Kd.R_elderB (by (with_reducible repeat (first | apply Kd.R_alloc | apply Kd.R_drewN | apply Kd.R_drew)); exact HO393.out) gb405 (Nat.le_of_eq hg.symm)) hb); have n1_ := Aside0.mk (Kd.R_below (Kd.R_elderB (by (with_reducible repeat (first | apply Kd.R_alloc | apply Kd.R_drewN | apply Kd.R_drew)); exact HO398.out) gb405 (Nat.le_of_eq hg.symm)) hb); have n2_ := Aside0.mk (blk_below (g := gb389) (o := .cells #[.int .i64 a1_0, .int .i64 a1_1, .bool a1_2, .bool a1_3, .bool a1_4] 32 (0, 0)) (by (with_reducible repeat (first | refine blk_drewN ?_ _ | refine blk_drew ?_ | refine blk_alloc ?_ _)); exact BK389.out) hb); have n3_ := Aside0.mk (below_step (by repeat (first | (with_reducible first | exact HB.out | apply below_alloc | apply pw_below_drewN | apply below_drew1 | refine below_set ?_ GE389.out) | exact HB.out)) hb); have n4_ := Aside0.mk (hbox); have n5_ := Aside0.mk ((by rw [hg]; exact (below_size (by repeat (first | (with_reducible first | exact HB.out | apply below_alloc | apply pw_below_drewN | apply below_drew1 | refine below_set ?_ GE389.out) | exact HB.out))) : w.heap.size ≤ gb405)); have n6_ := Aside0.mk ((by rw [hg]; exact (below_size (by repeat (first | (with_reducible first | exact HB.out | apply below_alloc | apply pw_below_drewN | apply below_drew1 | refine below_set ?_ GE389.out) | exact HB.out))) : w.heap.size ≤ gb405)); have n7_ := Aside0.mk ((by rw [hg]; exact Nat.ne_of_lt (blk_lt (g := gb389) (o := .cells #[.int .i64 a1_0, .int .i64 a1_1, .bool a1_2, .bool a1_3, .bool a1_4] 32 (0, 0)) (by (with_reducible repeat (first | refine blk_drewN ?_ _ | refine blk_drew ?_ | refine blk_alloc ?_ _)); exact BK389.out)) : gb389 ≠ gb405)); have n8_ := Aside0.mk ((by rw [hg]; exact Nat.ne_of_gt (blk_lt (g := gb389) (o := .cells #[.int .i64 a1_0, .int .i64 a1_1, .bool a1_2, .bool a1_3, .bool a1_4] 32 (0, 0)) (by (with_reducible repeat (first | refine blk_drewN ?_ _ | refine blk_drew ?_ | refine blk_alloc ?_ _)); exact BK389.out)) : gb405 ≠ gb389)); clear HO393; clear HO398; clear BK389; clear HB; have HO393 := n0_; have HO398 := n1_; have BK389 := n2_; have HB := n3_; have BK405 := n4_; have GW405 := n5_; have GE405 := n6_; have NB389_405 := n7_; have NB405_389 := n8_; clear n0_ n1_ n2_ n3_ n4_ n5_ n6_ n7_ n8_; clear hb hbox hg; have hnb20 := NB405_389.out; have hnc20 := NB389_405.out; have hcz21_0 : w19.cell? ⟨gb405, 0, none⟩ = some (.int .i64 0) := (blk_cell BK405.out 0).trans rfl; have hcz21_1 : w19.cell? ⟨gb405, 1, none⟩ = some (.int .i64 0) := (blk_cell BK405.out 1).trans rfl; have hcz21_2 : w19.cell? ⟨gb405, 2, none⟩ = some (.bool false) := (blk_cell BK405.out 2).trans rfl; have hcz21_3 : w19.cell? ⟨gb405, 3, none⟩ = some (.bool false) := (blk_cell BK405.out 3).trans rfl; have hcz21_4 : w19.cell? ⟨gb405, 4, none⟩ = some (.bool false) := (blk_cell BK405.out 4).trans rfl; have hfz21_0 := blk_frozen BK405.out 0; have hfz21_1 := blk_frozen BK405.out 1; have hfz21_2 := blk_frozen BK405.out 2; have hfz21_3 := blk_frozen BK405.out 3; have hfz21_4 := blk_frozen BK405.out 4))
    (try simp only [Act.put, List.setIfInBounds_toArray, List.set_cons_zero, List.set_cons_succ])
    go_cut [14] (fun v14 wc => ∃ (kq : Nat) (x14_10 : Bool), v14 = .bool x14_10 ∧ Aside0 (paviorlaw09_AreaKeeps.j0 kq a2 t390 t391 t394 t395 t396 t404 x14_10 a1_0 a1_1 a1_2 a1_3 a1_4 t399 t400 t401 t402 t403 = some r) ∧ Aside0 (kq ≤ k) ∧ Aside0 (Kd.R k32 32 wc w.heap.size (fun k_ => some k_ ≠ (v397 : Value).ownBlock ∧ k_ ≠ gb389 ∧ k_ ≠ gb405) v392 t391) ∧ Aside0 (Kd.R k32 32 wc w.heap.size (fun k_ => some k_ ≠ (v392 : Value).ownBlock ∧ k_ ≠ gb389 ∧ k_ ≠ gb405) v397 t395) ∧ Aside0 (wc.heap[gb389]? = some (.cells #[.int .i64 a1_0, .int .i64 a1_1, .bool a1_2, .bool a1_3, .bool a1_4] 32 (0, 0))) ∧ Aside0 (wc.heap[gb405]? = some (.cells #[.int .i64 t399, .int .i64 t400, .bool t401, .bool t402, .bool t403] 32 (0, 0))) ∧ Aside0 (Below w.heap.size w wc))
    case first =>
      have H := HC11.out
      clear HC11
      by_cases c22 : a2 ≥ a1_0
      · rw [if_pos c22] at H
        have c22b0 : decide (a1_0 ≤ a2) = true := decide_eq_true c22
        clear c22
        (first | rw [c22b0] | (simp only [i64_w, i32_w]; rw [c22b0]) | skip)
        have H' := Aside0.mk H
        clear H
        have hnb23 := NB389_405.out
        have hnc23 := NB405_389.out
        have hcz24_0 : w19.cell? ⟨gb389, 0, none⟩ = some (.int .i64 a1_0) := (blk_cell BK389.out 0).trans rfl
        have hcz24_1 : w19.cell? ⟨gb389, 1, none⟩ = some (.int .i64 a1_1) := (blk_cell BK389.out 1).trans rfl
        have hcz24_2 : w19.cell? ⟨gb389, 2, none⟩ = some (.bool a1_2) := (blk_cell BK389.out 2).trans rfl
        have hcz24_3 : w19.cell? ⟨gb389, 3, none⟩ = some (.bool a1_3) := (blk_cell BK389.out 3).trans rfl
        have hcz24_4 : w19.cell? ⟨gb389, 4, none⟩ = some (.bool a1_4) := (blk_cell BK389.out 4).trans rfl
        have hfz24_0 := blk_frozen BK389.out 0
        have hfz24_1 := blk_frozen BK389.out 1
        have hfz24_2 := blk_frozen BK389.out 2
        have hfz24_3 := blk_frozen BK389.out 3
        have hfz24_4 := blk_frozen BK389.out 4
        go_wp2
        go_meet
        case rel => exact ⟨_, (decide (a2 < a1_1)), (by first | rfl | (simp; done) | (simp [*]; done)), H', ⟨by first | omega | exact Nat.le_refl _⟩, ⟨by (with_reducible repeat (first | apply Kd.R_alloc | apply Kd.R_drewN | apply Kd.R_drew)); exact Kd.R_mono (Kd.R_far (p := ⟨gb405, 4, none⟩) (Kd.R_far (p := ⟨gb405, 3, none⟩) (Kd.R_far (p := ⟨gb405, 2, none⟩) (Kd.R_far (p := ⟨gb405, 1, none⟩) (Kd.R_far (p := ⟨gb405, 0, none⟩) (Kd.R_mono HO393.out (fun k_ hk => (⟨hk, hk.2⟩ : _ ∧ k_ ≠ gb405))) (fun _ hk => hk.2) (.int .i64 t399)) (fun _ hk => hk.2) (.int .i64 t400)) (fun _ hk => hk.2) (.bool t401)) (fun _ hk => hk.2) (.bool t402)) (fun _ hk => hk.2) (.bool t403)) (fun _ hk => ⟨hk.1.1.2, ⟨hk.1.1.1.2, hk.1.2⟩⟩)⟩, ⟨by (with_reducible repeat (first | apply Kd.R_alloc | apply Kd.R_drewN | apply Kd.R_drew)); exact Kd.R_mono (Kd.R_far (p := ⟨gb405, 4, none⟩) (Kd.R_far (p := ⟨gb405, 3, none⟩) (Kd.R_far (p := ⟨gb405, 2, none⟩) (Kd.R_far (p := ⟨gb405, 1, none⟩) (Kd.R_far (p := ⟨gb405, 0, none⟩) (Kd.R_mono HO398.out (fun k_ hk => (⟨hk, hk.2⟩ : _ ∧ k_ ≠ gb405))) (fun _ hk => hk.2) (.int .i64 t399)) (fun _ hk => hk.2) (.int .i64 t400)) (fun _ hk => hk.2) (.bool t401)) (fun _ hk => hk.2) (.bool t402)) (fun _ hk => hk.2) (.bool t403)) (fun _ hk => ⟨hk.1.1.1.2, ⟨hk.1.1.2, hk.1.2⟩⟩)⟩, ⟨by (with_reducible repeat (first | refine blk_drewN ?_ _ | refine blk_drew ?_ | refine blk_alloc ?_ _)); refine blk_far ?_ NB389_405.out _; (with_reducible repeat (first | refine blk_drewN ?_ _ | refine blk_drew ?_ | refine blk_alloc ?_ _)); refine blk_far ?_ NB389_405.out _; (with_reducible repeat (first | refine blk_drewN ?_ _ | refine blk_drew ?_ | refine blk_alloc ?_ _)); refine blk_far ?_ NB389_405.out _; (with_reducible repeat (first | refine blk_drewN ?_ _ | refine blk_drew ?_ | refine blk_alloc ?_ _)); refine blk_far ?_ NB389_405.out _; (with_reducible repeat (first | refine blk_drewN ?_ _ | refine blk_drew ?_ | refine blk_alloc ?_ _)); refine blk_far ?_ NB389_405.out _; (with_reducible repeat (first | refine blk_drewN ?_ _ | refine blk_drew ?_ | refine blk_alloc ?_ _)); exact BK389.out⟩, ⟨by (with_reducible repeat (first | refine blk_drewN ?_ _ | refine blk_drew ?_ | refine blk_alloc ?_ _)); refine blk_put (cs := #[.int .i64 t399, .int .i64 t400, .bool t401, .bool t402, .bool false]) ?_ 4 _ rfl; (with_reducible repeat (first | refine blk_drewN ?_ _ | refine blk_drew ?_ | refine blk_alloc ?_ _)); refine blk_put (cs := #[.int .i64 t399, .int .i64 t400, .bool t401, .bool false, .bool false]) ?_ 3 _ rfl; (with_reducible repeat (first | refine blk_drewN ?_ _ | refine blk_drew ?_ | refine blk_alloc ?_ _)); refine blk_put (cs := #[.int .i64 t399, .int .i64 t400, .bool false, .bool false, .bool false]) ?_ 2 _ rfl; (with_reducible repeat (first | refine blk_drewN ?_ _ | refine blk_drew ?_ | refine blk_alloc ?_ _)); refine blk_put (cs := #[.int .i64 t399, .int .i64 0, .bool false, .bool false, .bool false]) ?_ 1 _ rfl; (with_reducible repeat (first | refine blk_drewN ?_ _ | refine blk_drew ?_ | refine blk_alloc ?_ _)); refine blk_put (cs := #[.int .i64 0, .int .i64 0, .bool false, .bool false, .bool false]) ?_ 0 _ rfl; (with_reducible repeat (first | refine blk_drewN ?_ _ | refine blk_drew ?_ | refine blk_alloc ?_ _)); exact BK405.out⟩, ⟨by repeat (first | (with_reducible first | exact HB.out | apply below_alloc | apply pw_below_drewN | apply below_drew1 | refine below_set ?_ GE389.out | refine below_set ?_ GE405.out) | exact HB.out)⟩⟩
      · rw [if_neg c22] at H
        have c22b0 : decide (a1_0 ≤ a2) = false := decide_eq_false c22
        clear c22
        (first | rw [c22b0] | (simp only [i64_w, i32_w]; rw [c22b0]) | skip)
        have H' := Aside0.mk H
        clear H
        have hnb25 := NB389_405.out
        have hnc25 := NB405_389.out
        have hcz26_0 : w19.cell? ⟨gb389, 0, none⟩ = some (.int .i64 a1_0) := (blk_cell BK389.out 0).trans rfl
        have hcz26_1 : w19.cell? ⟨gb389, 1, none⟩ = some (.int .i64 a1_1) := (blk_cell BK389.out 1).trans rfl
        have hcz26_2 : w19.cell? ⟨gb389, 2, none⟩ = some (.bool a1_2) := (blk_cell BK389.out 2).trans rfl
        have hcz26_3 : w19.cell? ⟨gb389, 3, none⟩ = some (.bool a1_3) := (blk_cell BK389.out 3).trans rfl
        have hcz26_4 : w19.cell? ⟨gb389, 4, none⟩ = some (.bool a1_4) := (blk_cell BK389.out 4).trans rfl
        have hfz26_0 := blk_frozen BK389.out 0
        have hfz26_1 := blk_frozen BK389.out 1
        have hfz26_2 := blk_frozen BK389.out 2
        have hfz26_3 := blk_frozen BK389.out 3
        have hfz26_4 := blk_frozen BK389.out 4
        go_wp2
        go_meet
        case rel => exact ⟨_, (false), (by first | rfl | (simp; done) | (simp [*]; done)), H', ⟨by first | omega | exact Nat.le_refl _⟩, ⟨by (with_reducible repeat (first | apply Kd.R_alloc | apply Kd.R_drewN | apply Kd.R_drew)); exact Kd.R_mono (Kd.R_far (p := ⟨gb405, 4, none⟩) (Kd.R_far (p := ⟨gb405, 3, none⟩) (Kd.R_far (p := ⟨gb405, 2, none⟩) (Kd.R_far (p := ⟨gb405, 1, none⟩) (Kd.R_far (p := ⟨gb405, 0, none⟩) (Kd.R_mono HO393.out (fun k_ hk => (⟨hk, hk.2⟩ : _ ∧ k_ ≠ gb405))) (fun _ hk => hk.2) (.int .i64 t399)) (fun _ hk => hk.2) (.int .i64 t400)) (fun _ hk => hk.2) (.bool t401)) (fun _ hk => hk.2) (.bool t402)) (fun _ hk => hk.2) (.bool t403)) (fun _ hk => ⟨hk.1.1.2, ⟨hk.1.1.1.2, hk.1.2⟩⟩)⟩, ⟨by (with_reducible repeat (first | apply Kd.R_alloc | apply Kd.R_drewN | apply Kd.R_drew)); exact Kd.R_mono (Kd.R_far (p := ⟨gb405, 4, none⟩) (Kd.R_far (p := ⟨gb405, 3, none⟩) (Kd.R_far (p := ⟨gb405, 2, none⟩) (Kd.R_far (p := ⟨gb405, 1, none⟩) (Kd.R_far (p := ⟨gb405, 0, none⟩) (Kd.R_mono HO398.out (fun k_ hk => (⟨hk, hk.2⟩ : _ ∧ k_ ≠ gb405))) (fun _ hk => hk.2) (.int .i64 t399)) (fun _ hk => hk.2) (.int .i64 t400)) (fun _ hk => hk.2) (.bool t401)) (fun _ hk => hk.2) (.bool t402)) (fun _ hk => hk.2) (.bool t403)) (fun _ hk => ⟨hk.1.1.1.2, ⟨hk.1.1.2, hk.1.2⟩⟩)⟩, ⟨by (with_reducible repeat (first | refine blk_drewN ?_ _ | refine blk_drew ?_ | refine blk_alloc ?_ _)); refine blk_far ?_ NB389_405.out _; (with_reducible repeat (first | refine blk_drewN ?_ _ | refine blk_drew ?_ | refine blk_alloc ?_ _)); refine blk_far ?_ NB389_405.out _; (with_reducible repeat (first | refine blk_drewN ?_ _ | refine blk_drew ?_ | refine blk_alloc ?_ _)); refine blk_far ?_ NB389_405.out _; (with_reducible repeat (first | refine blk_drewN ?_ _ | refine blk_drew ?_ | refine blk_alloc ?_ _)); refine blk_far ?_ NB389_405.out _; (with_reducible repeat (first | refine blk_drewN ?_ _ | refine blk_drew ?_ | refine blk_alloc ?_ _)); refine blk_far ?_ NB389_405.out _; (with_reducible repeat (first | refine blk_drewN ?_ _ | refine blk_drew ?_ | refine blk_alloc ?_ _)); exact BK389.out⟩, ⟨by (with_reducible repeat (first | refine blk_drewN ?_ _ | refine blk_drew ?_ | refine blk_alloc ?_ _)); refine blk_put (cs := #[.int .i64 t399, .int .i64 t400, .bool t401, .bool t402, .bool false]) ?_ 4 _ rfl; (with_reducible repeat (first | refine blk_drewN ?_ _ | refine blk_drew ?_ | refine blk_alloc ?_ _)); refine blk_put (cs := #[.int .i64 t399, .int .i64 t400, .bool t401, .bool false, .bool false]) ?_ 3 _ rfl; (with_reducible repeat (first | refine blk_drewN ?_ _ | refine blk_drew ?_ | refine blk_alloc ?_ _)); refine blk_put (cs := #[.int .i64 t399, .int .i64 t400, .bool false, .bool false, .bool false]) ?_ 2 _ rfl; (with_reducible repeat (first | refine blk_drewN ?_ _ | refine blk_drew ?_ | refine blk_alloc ?_ _)); refine blk_put (cs := #[.int .i64 t399, .int .i64 0, .bool false, .bool false, .bool false]) ?_ 1 _ rfl; (with_reducible repeat (first | refine blk_drewN ?_ _ | refine blk_drew ?_ | refine blk_alloc ?_ _)); refine blk_put (cs := #[.int .i64 0, .int .i64 0, .bool false, .bool false, .bool false]) ?_ 0 _ rfl; (with_reducible repeat (first | refine blk_drewN ?_ _ | refine blk_drew ?_ | refine blk_alloc ?_ _)); exact BK405.out⟩, ⟨by repeat (first | (with_reducible first | exact HB.out | apply below_alloc | apply pw_below_drewN | apply below_drew1 | refine below_set ?_ GE389.out | refine below_set ?_ GE405.out) | exact HB.out)⟩⟩
    case rest =>
      clear HC11
      try clear c1
      try clear c2
      try clear p2
      try clear c5
      try clear c5b0
      try clear c5b1
      try clear c8
      try clear c12
      try clear c15
      try clear c16
      try clear c20
      try clear c22
      try clear c22b0
      try clear c23
      try clear c25
      try clear hcz14_0
      try clear hcz14_1
      try clear hcz14_2
      try clear hcz14_3
      try clear hcz14_4
      try clear hcz16_0
      try clear hcz16_1
      try clear hcz16_2
      try clear hcz16_3
      try clear hcz16_4
      try clear hcz21_0
      try clear hcz21_1
      try clear hcz21_2
      try clear hcz21_3
      try clear hcz21_4
      try clear hcz24_0
      try clear hcz24_1
      try clear hcz24_2
      try clear hcz24_3
      try clear hcz24_4
      try clear hcz26_0
      try clear hcz26_1
      try clear hcz26_2
      try clear hcz26_3
      try clear hcz26_4
      try clear hfz14_0
      try clear hfz14_1
      try clear hfz14_2
      try clear hfz14_3
      try clear hfz14_4
      try clear hfz16_0
      try clear hfz16_1
      try clear hfz16_2
      try clear hfz16_3
      try clear hfz16_4
      try clear hfz21_0
      try clear hfz21_1
      try clear hfz21_2
      try clear hfz21_3
      try clear hfz21_4
      try clear hfz24_0
      try clear hfz24_1
      try clear hfz24_2
      try clear hfz24_3
      try clear hfz24_4
      try clear hfz26_0
      try clear hfz26_1
      try clear hfz26_2
      try clear hfz26_3
      try clear hfz26_4
      obtain ⟨kq, x14_10, rfl, HA, HJ10, HO_8, HO_10, BK389, BK405, HB⟩ := hcut
      cases kq with
      | zero => exact absurd HA.out (by simp [paviorlaw09_AreaKeeps.j0])
      | succ kj10 =>
        have H := HA.out
        clear HA
        simp only [paviorlaw09_AreaKeeps.j0] at H
        rcases t394 with _ | q406
        · have H1 : ((area_Find.f kj10 t391 a2).bind fun bt407 => (if x14_10 = true then (if bt407.2.2.2.2.2.isNone = true then (if (!(bt407.2.2.1 == a1_2) || (!(bt407.2.2.2.1 == a1_3))) = true then (paviorlaw09_AreaKeeps.j1 kj10 a2 t390 t395 t396 t404 x14_10 none true t399 t400 t401 t402 t403 bt407.1 bt407.2.1 bt407.2.2.1 bt407.2.2.2.1 bt407.2.2.2.2.1) else (paviorlaw09_AreaKeeps.j1 kj10 a2 t390 t395 t396 t404 x14_10 none (bt407.2.2.2.2.1 != a1_4) t399 t400 t401 t402 t403 bt407.1 bt407.2.1 bt407.2.2.1 bt407.2.2.2.1 bt407.2.2.2.2.1)) else (paviorlaw09_AreaKeeps.j1 kj10 a2 t390 t395 t396 t404 x14_10 (some (bt407.2.2.2.2.2.getD 0)) true t399 t400 t401 t402 t403 bt407.1 bt407.2.1 bt407.2.2.1 bt407.2.2.2.1 bt407.2.2.2.2.1)) else (paviorlaw09_AreaKeeps.j1 kj10 a2 t390 t395 t396 t404 x14_10 bt407.2.2.2.2.2 false t399 t400 t401 t402 t403 bt407.1 bt407.2.1 bt407.2.2.1 bt407.2.2.2.1 bt407.2.2.2.2.1))) = some r := by rw [if_pos (show (none : Option Int).isNone = true by rfl)] at H; exact H
          clear H
          have H := H1
          clear H1
          try simp only [errW_none, errW_some]
          replace H := Option.bind_eq_some_iff.mp H
          obtain ⟨⟨t407, t408, t409, t410, t411, t412⟩, A270, H⟩ := H
          replace H : (if x14_10 = true then (if t412.isNone = true then (if (!(t409 == a1_2) || (!(t410 == a1_3))) = true then (paviorlaw09_AreaKeeps.j1 kj10 a2 t390 t395 t396 t404 x14_10 none true t399 t400 t401 t402 t403 t407 t408 t409 t410 t411) else (paviorlaw09_AreaKeeps.j1 kj10 a2 t390 t395 t396 t404 x14_10 none (t411 != a1_4) t399 t400 t401 t402 t403 t407 t408 t409 t410 t411)) else (paviorlaw09_AreaKeeps.j1 kj10 a2 t390 t395 t396 t404 x14_10 (some (t412.getD 0)) true t399 t400 t401 t402 t403 t407 t408 t409 t410 t411)) else (paviorlaw09_AreaKeeps.j1 kj10 a2 t390 t395 t396 t404 x14_10 t412 false t399 t400 t401 t402 t403 t407 t408 t409 t410 t411)) = some r := H
          have A27 := Aside0.mk A270
          clear A270
          have HC28 := Aside0.mk H
          clear H
          obtain ⟨Ao29, co29, eo29⟩ := Kd.R_slice HO_8.out
          subst eo29
          go_upto_region 10 with (first | ((with_reducible refine gate_callee (f := 22) rfl ?_); refine goesL_ (some 60) rfl rfl Try.func22 (by kernel_rfl) rfl #[.slice Ao29 t391.length co29, .int .i64 a2] rfl (by (try simp only [List.map_toArray, List.map_cons, List.map_nil]); first | done | rfl | (simp only [List.length_drop, List.length_take]; rfl)) ?_; (with_reducible refine (area_Find.calls kj10 _ _ t391 a2 t407 t408 t409 t410 t411 t412 _ ?side1 ?side2 A27.out).mono ?_); (case side1 => repeat (first | exact (Kd.R_reads' HO_8.out).2.2 | (with_reducible refine Kd.C_alloc ?_ _) | (with_reducible refine Kd.C_drewN ?_ _) | (with_reducible refine Kd.C_drew ?_))); (case side2 => exact (Kd.R_reads' HO_8.out).2.1); rintro e w30 ⟨rfl, hb⟩; refine ⟨_, rfl, ?_⟩; have n0_ := Aside0.mk (Kd.R_below (by (with_reducible repeat (first | apply Kd.R_alloc | apply Kd.R_drewN | apply Kd.R_drew)); exact HO_8.out) hb); have n1_ := Aside0.mk (Kd.R_below (by (with_reducible repeat (first | apply Kd.R_alloc | apply Kd.R_drewN | apply Kd.R_drew)); exact HO_10.out) hb); have n2_ := Aside0.mk (blk_below (g := gb389) (o := .cells #[.int .i64 a1_0, .int .i64 a1_1, .bool a1_2, .bool a1_3, .bool a1_4] 32 (0, 0)) (by (with_reducible repeat (first | refine blk_drewN ?_ _ | refine blk_drew ?_ | refine blk_alloc ?_ _)); exact BK389.out) hb); have n3_ := Aside0.mk (blk_below (g := gb405) (o := .cells #[.int .i64 t399, .int .i64 t400, .bool t401, .bool t402, .bool t403] 32 (0, 0)) (by (with_reducible repeat (first | refine blk_drewN ?_ _ | refine blk_drew ?_ | refine blk_alloc ?_ _)); exact BK405.out) hb); have n4_ := Aside0.mk (below_step (by repeat (first | (with_reducible first | exact HB.out | apply below_alloc | apply pw_below_drewN | apply below_drew1 | refine below_set ?_ GE389.out | refine below_set ?_ GE405.out) | exact HB.out)) hb); clear HO_8; clear HO_10; clear BK389; clear BK405; clear HB; have HO_8 := n0_; have HO_10 := n1_; have BK389 := n2_; have BK405 := n3_; have HB := n4_; clear n0_ n1_ n2_ n3_ n4_; (try clear hb); (try clear hb2); (try clear hk); (try clear hi); (try simp only [errW_none, errW_some])) | ((with_reducible refine gate_dst (N := 15) rfl ?_); refine box_event ?hg (N := 15) ?hd (cs := #[.int .i64 0, .int .i64 0, .bool false, .bool false, .bool false]) (t := 32) ?hr ?_; (case hd => rfl); (case hg => rfl); (case hr => first | (go_simp; done) | (go_simp; rfl)); intro gb413 hg w31 hbox hb; have n0_ := Aside0.mk (Kd.R_below (Kd.R_elderB (by (with_reducible repeat (first | apply Kd.R_alloc | apply Kd.R_drewN | apply Kd.R_drew)); exact HO_8.out) gb413 (Nat.le_of_eq hg.symm)) hb); have n1_ := Aside0.mk (Kd.R_below (Kd.R_elderB (by (with_reducible repeat (first | apply Kd.R_alloc | apply Kd.R_drewN | apply Kd.R_drew)); exact HO_10.out) gb413 (Nat.le_of_eq hg.symm)) hb); have n2_ := Aside0.mk (blk_below (g := gb389) (o := .cells #[.int .i64 a1_0, .int .i64 a1_1, .bool a1_2, .bool a1_3, .bool a1_4] 32 (0, 0)) (by (with_reducible repeat (first | refine blk_drewN ?_ _ | refine blk_drew ?_ | refine blk_alloc ?_ _)); exact BK389.out) hb); have n3_ := Aside0.mk (blk_below (g := gb405) (o := .cells #[.int .i64 t399, .int .i64 t400, .bool t401, .bool t402, .bool t403] 32 (0, 0)) (by (with_reducible repeat (first | refine blk_drewN ?_ _ | refine blk_drew ?_ | refine blk_alloc ?_ _)); exact BK405.out) hb); have n4_ := Aside0.mk (below_step (by repeat (first | (with_reducible first | exact HB.out | apply below_alloc | apply pw_below_drewN | apply below_drew1 | refine below_set ?_ GE389.out | refine below_set ?_ GE405.out) | exact HB.out)) hb); have n5_ := Aside0.mk (hbox); have n6_ := Aside0.mk ((by rw [hg]; exact (below_size (by repeat (first | (with_reducible first | exact HB.out | apply below_alloc | apply pw_below_drewN | apply below_drew1 | refine below_set ?_ GE389.out | refine below_set ?_ GE405.out) | exact HB.out))) : w.heap.size ≤ gb413)); have n7_ := Aside0.mk ((by rw [hg]; exact (below_size (by repeat (first | (with_reducible first | exact HB.out | apply below_alloc | apply pw_below_drewN | apply below_drew1 | refine below_set ?_ GE389.out | refine below_set ?_ GE405.out) | exact HB.out))) : w.heap.size ≤ gb413)); have n8_ := Aside0.mk ((by rw [hg]; exact Nat.ne_of_lt (blk_lt (g := gb389) (o := .cells #[.int .i64 a1_0, .int .i64 a1_1, .bool a1_2, .bool a1_3, .bool a1_4] 32 (0, 0)) (by (with_reducible repeat (first | refine blk_drewN ?_ _ | refine blk_drew ?_ | refine blk_alloc ?_ _)); exact BK389.out)) : gb389 ≠ gb413)); have n9_ := Aside0.mk ((by rw [hg]; exact Nat.ne_of_gt (blk_lt (g := gb389) (o := .cells #[.int .i64 a1_0, .int .i64 a1_1, .bool a1_2, .bool a1_3, .bool a1_4] 32 (0, 0)) (by (with_reducible repeat (first | refine blk_drewN ?_ _ | refine blk_drew ?_ | refine blk_alloc ?_ _)); exact BK389.out)) : gb413 ≠ gb389)); have n10_ := Aside0.mk ((by rw [hg]; exact Nat.ne_of_lt (blk_lt (g := gb405) (o := .cells #[.int .i64 t399, .int .i64 t400, .bool t401, .bool t402, .bool t403] 32 (0, 0)) (by (with_reducible repeat (first | refine blk_drewN ?_ _ | refine blk_drew ?_ | refine blk_alloc ?_ _)); exact BK405.out)) : gb405 ≠ gb413)); have n11_ := Aside0.mk ((by rw [hg]; exact Nat.ne_of_gt (blk_lt (g := gb405) (o := .cells #[.int .i64 t399, .int .i64 t400, .bool t401, .bool t402, .bool t403] 32 (0, 0)) (by (with_reducible repeat (first | refine blk_drewN ?_ _ | refine blk_drew ?_ | refine blk_alloc ?_ _)); exact BK405.out)) : gb413 ≠ gb405)); clear HO_8; clear HO_10; clear BK389; clear BK405; clear HB; have HO_8 := n0_; have HO_10 := n1_; have BK389 := n2_; have BK405 := n3_; have HB := n4_; have BK413 := n5_; have GW413 := n6_; have GE413 := n7_; have NB389_413 := n8_; have NB413_389 := n9_; have NB405_413 := n10_; have NB413_405 := n11_; clear n0_ n1_ n2_ n3_ n4_ n5_ n6_ n7_ n8_ n9_ n10_ n11_; clear hb hbox hg; have hnb32 := NB413_389.out; have hnc32 := NB389_413.out; have hnb33 := NB413_405.out; have hnc33 := NB405_413.out; have hcz34_0 : w31.cell? ⟨gb413, 0, none⟩ = some (.int .i64 0) := (blk_cell BK413.out 0).trans rfl; have hcz34_1 : w31.cell? ⟨gb413, 1, none⟩ = some (.int .i64 0) := (blk_cell BK413.out 1).trans rfl; have hcz34_2 : w31.cell? ⟨gb413, 2, none⟩ = some (.bool false) := (blk_cell BK413.out 2).trans rfl; have hcz34_3 : w31.cell? ⟨gb413, 3, none⟩ = some (.bool false) := (blk_cell BK413.out 3).trans rfl; have hcz34_4 : w31.cell? ⟨gb413, 4, none⟩ = some (.bool false) := (blk_cell BK413.out 4).trans rfl; have hfz34_0 := blk_frozen BK413.out 0; have hfz34_1 := blk_frozen BK413.out 1; have hfz34_2 := blk_frozen BK413.out 2; have hfz34_3 := blk_frozen BK413.out 3; have hfz34_4 := blk_frozen BK413.out 4))
          (try simp only [Act.put, List.setIfInBounds_toArray, List.set_cons_zero, List.set_cons_succ])
          go_cut [81] (fun v81 wc => ∃ (kq : Nat) (x81_27 : Bool), v81 = .bool x81_27 ∧ Aside0 (paviorlaw09_AreaKeeps.j1 kq a2 t390 t395 t396 t404 x14_10 t412 x81_27 t399 t400 t401 t402 t403 t407 t408 t409 t410 t411 = some r) ∧ Aside0 (kq ≤ kj10) ∧ Aside0 (Kd.R k32 32 wc w.heap.size (fun k_ => k_ ≠ gb389 ∧ k_ ≠ gb405 ∧ k_ ≠ gb413) v397 t395) ∧ Aside0 (wc.heap[gb389]? = some (.cells #[.int .i64 a1_0, .int .i64 a1_1, .bool a1_2, .bool a1_3, .bool a1_4] 32 (0, 0))) ∧ Aside0 (wc.heap[gb405]? = some (.cells #[.int .i64 t399, .int .i64 t400, .bool t401, .bool t402, .bool t403] 32 (0, 0))) ∧ Aside0 (wc.heap[gb413]? = some (.cells #[.int .i64 t407, .int .i64 t408, .bool t409, .bool t410, .bool t411] 32 (0, 0))) ∧ Aside0 (Below w.heap.size w wc))
          case first =>
            have H := HC28.out
            clear HC28
            by_cases c35 : x14_10 = true
            · subst c35
              have H1 : (if t412.isNone = true then (if (!(t409 == a1_2) || (!(t410 == a1_3))) = true then (paviorlaw09_AreaKeeps.j1 kj10 a2 t390 t395 t396 t404 true none true t399 t400 t401 t402 t403 t407 t408 t409 t410 t411) else (paviorlaw09_AreaKeeps.j1 kj10 a2 t390 t395 t396 t404 true none (t411 != a1_4) t399 t400 t401 t402 t403 t407 t408 t409 t410 t411)) else (paviorlaw09_AreaKeeps.j1 kj10 a2 t390 t395 t396 t404 true (some (t412.getD 0)) true t399 t400 t401 t402 t403 t407 t408 t409 t410 t411)) = some r := by rw [if_pos rfl] at H; exact H
              clear H
              have H := H1
              clear H1
              rcases t412 with _ | q414
              · have H1 : (if (!(t409 == a1_2) || (!(t410 == a1_3))) = true then (paviorlaw09_AreaKeeps.j1 kj10 a2 t390 t395 t396 t404 true none true t399 t400 t401 t402 t403 t407 t408 t409 t410 t411) else (paviorlaw09_AreaKeeps.j1 kj10 a2 t390 t395 t396 t404 true none (t411 != a1_4) t399 t400 t401 t402 t403 t407 t408 t409 t410 t411)) = some r := by rw [if_pos (show (none : Option Int).isNone = true by rfl)] at H; exact H
                clear H
                have H := H1
                clear H1
                try simp only [errW_none, errW_some]
                by_cases c36 : (!(t409 == a1_2) || (!(t410 == a1_3))) = true
                · rw [if_pos c36] at H
                  have c36b0 : (!(t409 == a1_2) || (!(t410 == a1_3))) = true := c36
                  clear c36
                  (first | rw [c36b0] | (simp only [i64_w, i32_w]; rw [c36b0]) | skip)
                  have H' := Aside0.mk H
                  clear H
                  have hnb37 := NB413_389.out
                  have hnc37 := NB389_413.out
                  have hnb38 := NB413_405.out
                  have hnc38 := NB405_413.out
                  have hcz39_0 : w31.cell? ⟨gb413, 0, none⟩ = some (.int .i64 0) := (blk_cell BK413.out 0).trans rfl
                  have hcz39_1 : w31.cell? ⟨gb413, 1, none⟩ = some (.int .i64 0) := (blk_cell BK413.out 1).trans rfl
                  have hcz39_2 : w31.cell? ⟨gb413, 2, none⟩ = some (.bool false) := (blk_cell BK413.out 2).trans rfl
                  have hcz39_3 : w31.cell? ⟨gb413, 3, none⟩ = some (.bool false) := (blk_cell BK413.out 3).trans rfl
                  have hcz39_4 : w31.cell? ⟨gb413, 4, none⟩ = some (.bool false) := (blk_cell BK413.out 4).trans rfl
                  have hfz39_0 := blk_frozen BK413.out 0
                  have hfz39_1 := blk_frozen BK413.out 1
                  have hfz39_2 := blk_frozen BK413.out 2
                  have hfz39_3 := blk_frozen BK413.out 3
                  have hfz39_4 := blk_frozen BK413.out 4
                  have hnb40 := NB389_405.out
                  have hnc40 := NB405_389.out
                  have hcz41_0 : w31.cell? ⟨gb389, 0, none⟩ = some (.int .i64 a1_0) := (blk_cell BK389.out 0).trans rfl
                  have hcz41_1 : w31.cell? ⟨gb389, 1, none⟩ = some (.int .i64 a1_1) := (blk_cell BK389.out 1).trans rfl
                  have hcz41_2 : w31.cell? ⟨gb389, 2, none⟩ = some (.bool a1_2) := (blk_cell BK389.out 2).trans rfl
                  have hcz41_3 : w31.cell? ⟨gb389, 3, none⟩ = some (.bool a1_3) := (blk_cell BK389.out 3).trans rfl
                  have hcz41_4 : w31.cell? ⟨gb389, 4, none⟩ = some (.bool a1_4) := (blk_cell BK389.out 4).trans rfl
                  have hfz41_0 := blk_frozen BK389.out 0
                  have hfz41_1 := blk_frozen BK389.out 1
                  have hfz41_2 := blk_frozen BK389.out 2
                  have hfz41_3 := blk_frozen BK389.out 3
                  have hfz41_4 := blk_frozen BK389.out 4
                  go_wp2
                  go_meet
                  case rel => exact ⟨_, (true), (by first | rfl | (simp; done) | (simp [*]; done)), H', ⟨by have := HJ10.out; first | omega | exact Nat.le_refl _⟩, ⟨by (with_reducible repeat (first | apply Kd.R_alloc | apply Kd.R_drewN | apply Kd.R_drew)); exact Kd.R_mono (Kd.R_far (p := ⟨gb413, 4, none⟩) (Kd.R_far (p := ⟨gb413, 3, none⟩) (Kd.R_far (p := ⟨gb413, 2, none⟩) (Kd.R_far (p := ⟨gb413, 1, none⟩) (Kd.R_far (p := ⟨gb413, 0, none⟩) (Kd.R_mono HO_10.out (fun k_ hk => (⟨hk, hk.2⟩ : _ ∧ k_ ≠ gb413))) (fun _ hk => hk.2) (.int .i64 t407)) (fun _ hk => hk.2) (.int .i64 t408)) (fun _ hk => hk.2) (.bool t409)) (fun _ hk => hk.2) (.bool t410)) (fun _ hk => hk.2) (.bool t411)) (fun _ hk => ⟨hk.1.1.2.1, ⟨hk.1.1.2.2, hk.1.2⟩⟩)⟩, ⟨by (with_reducible repeat (first | refine blk_drewN ?_ _ | refine blk_drew ?_ | refine blk_alloc ?_ _)); refine blk_far ?_ NB389_413.out _; (with_reducible repeat (first | refine blk_drewN ?_ _ | refine blk_drew ?_ | refine blk_alloc ?_ _)); refine blk_far ?_ NB389_413.out _; (with_reducible repeat (first | refine blk_drewN ?_ _ | refine blk_drew ?_ | refine blk_alloc ?_ _)); refine blk_far ?_ NB389_413.out _; (with_reducible repeat (first | refine blk_drewN ?_ _ | refine blk_drew ?_ | refine blk_alloc ?_ _)); refine blk_far ?_ NB389_413.out _; (with_reducible repeat (first | refine blk_drewN ?_ _ | refine blk_drew ?_ | refine blk_alloc ?_ _)); refine blk_far ?_ NB389_413.out _; (with_reducible repeat (first | refine blk_drewN ?_ _ | refine blk_drew ?_ | refine blk_alloc ?_ _)); exact BK389.out⟩, ⟨by (with_reducible repeat (first | refine blk_drewN ?_ _ | refine blk_drew ?_ | refine blk_alloc ?_ _)); refine blk_far ?_ NB405_413.out _; (with_reducible repeat (first | refine blk_drewN ?_ _ | refine blk_drew ?_ | refine blk_alloc ?_ _)); refine blk_far ?_ NB405_413.out _; (with_reducible repeat (first | refine blk_drewN ?_ _ | refine blk_drew ?_ | refine blk_alloc ?_ _)); refine blk_far ?_ NB405_413.out _; (with_reducible repeat (first | refine blk_drewN ?_ _ | refine blk_drew ?_ | refine blk_alloc ?_ _)); refine blk_far ?_ NB405_413.out _; (with_reducible repeat (first | refine blk_drewN ?_ _ | refine blk_drew ?_ | refine blk_alloc ?_ _)); refine blk_far ?_ NB405_413.out _; (with_reducible repeat (first | refine blk_drewN ?_ _ | refine blk_drew ?_ | refine blk_alloc ?_ _)); exact BK405.out⟩, ⟨by (with_reducible repeat (first | refine blk_drewN ?_ _ | refine blk_drew ?_ | refine blk_alloc ?_ _)); refine blk_put (cs := #[.int .i64 t407, .int .i64 t408, .bool t409, .bool t410, .bool false]) ?_ 4 _ rfl; (with_reducible repeat (first | refine blk_drewN ?_ _ | refine blk_drew ?_ | refine blk_alloc ?_ _)); refine blk_put (cs := #[.int .i64 t407, .int .i64 t408, .bool t409, .bool false, .bool false]) ?_ 3 _ rfl; (with_reducible repeat (first | refine blk_drewN ?_ _ | refine blk_drew ?_ | refine blk_alloc ?_ _)); refine blk_put (cs := #[.int .i64 t407, .int .i64 t408, .bool false, .bool false, .bool false]) ?_ 2 _ rfl; (with_reducible repeat (first | refine blk_drewN ?_ _ | refine blk_drew ?_ | refine blk_alloc ?_ _)); refine blk_put (cs := #[.int .i64 t407, .int .i64 0, .bool false, .bool false, .bool false]) ?_ 1 _ rfl; (with_reducible repeat (first | refine blk_drewN ?_ _ | refine blk_drew ?_ | refine blk_alloc ?_ _)); refine blk_put (cs := #[.int .i64 0, .int .i64 0, .bool false, .bool false, .bool false]) ?_ 0 _ rfl; (with_reducible repeat (first | refine blk_drewN ?_ _ | refine blk_drew ?_ | refine blk_alloc ?_ _)); exact BK413.out⟩, ⟨by repeat (first | (with_reducible first | exact HB.out | apply below_alloc | apply pw_below_drewN | apply below_drew1 | refine below_set ?_ GE389.out | refine below_set ?_ GE405.out | refine below_set ?_ GE413.out) | exact HB.out)⟩⟩
                · rw [if_neg c36] at H
                  have c36b0 : (!(t409 == a1_2) || (!(t410 == a1_3))) = false := by simpa using c36
                  clear c36
                  (first | rw [c36b0] | (simp only [i64_w, i32_w]; rw [c36b0]) | skip)
                  have H' := Aside0.mk H
                  clear H
                  have hnb42 := NB413_389.out
                  have hnc42 := NB389_413.out
                  have hnb43 := NB413_405.out
                  have hnc43 := NB405_413.out
                  have hcz44_0 : w31.cell? ⟨gb413, 0, none⟩ = some (.int .i64 0) := (blk_cell BK413.out 0).trans rfl
                  have hcz44_1 : w31.cell? ⟨gb413, 1, none⟩ = some (.int .i64 0) := (blk_cell BK413.out 1).trans rfl
                  have hcz44_2 : w31.cell? ⟨gb413, 2, none⟩ = some (.bool false) := (blk_cell BK413.out 2).trans rfl
                  have hcz44_3 : w31.cell? ⟨gb413, 3, none⟩ = some (.bool false) := (blk_cell BK413.out 3).trans rfl
                  have hcz44_4 : w31.cell? ⟨gb413, 4, none⟩ = some (.bool false) := (blk_cell BK413.out 4).trans rfl
                  have hfz44_0 := blk_frozen BK413.out 0
                  have hfz44_1 := blk_frozen BK413.out 1
                  have hfz44_2 := blk_frozen BK413.out 2
                  have hfz44_3 := blk_frozen BK413.out 3
                  have hfz44_4 := blk_frozen BK413.out 4
                  have hnb45 := NB389_405.out
                  have hnc45 := NB405_389.out
                  have hcz46_0 : w31.cell? ⟨gb389, 0, none⟩ = some (.int .i64 a1_0) := (blk_cell BK389.out 0).trans rfl
                  have hcz46_1 : w31.cell? ⟨gb389, 1, none⟩ = some (.int .i64 a1_1) := (blk_cell BK389.out 1).trans rfl
                  have hcz46_2 : w31.cell? ⟨gb389, 2, none⟩ = some (.bool a1_2) := (blk_cell BK389.out 2).trans rfl
                  have hcz46_3 : w31.cell? ⟨gb389, 3, none⟩ = some (.bool a1_3) := (blk_cell BK389.out 3).trans rfl
                  have hcz46_4 : w31.cell? ⟨gb389, 4, none⟩ = some (.bool a1_4) := (blk_cell BK389.out 4).trans rfl
                  have hfz46_0 := blk_frozen BK389.out 0
                  have hfz46_1 := blk_frozen BK389.out 1
                  have hfz46_2 := blk_frozen BK389.out 2
                  have hfz46_3 := blk_frozen BK389.out 3
                  have hfz46_4 := blk_frozen BK389.out 4
                  go_wp2
                  go_meet
                  case rel => exact ⟨_, ((t411 != a1_4)), (by first | rfl | (simp; done) | (simp [*]; done)), H', ⟨by have := HJ10.out; first | omega | exact Nat.le_refl _⟩, ⟨by (with_reducible repeat (first | apply Kd.R_alloc | apply Kd.R_drewN | apply Kd.R_drew)); exact Kd.R_mono (Kd.R_far (p := ⟨gb413, 4, none⟩) (Kd.R_far (p := ⟨gb413, 3, none⟩) (Kd.R_far (p := ⟨gb413, 2, none⟩) (Kd.R_far (p := ⟨gb413, 1, none⟩) (Kd.R_far (p := ⟨gb413, 0, none⟩) (Kd.R_mono HO_10.out (fun k_ hk => (⟨hk, hk.2⟩ : _ ∧ k_ ≠ gb413))) (fun _ hk => hk.2) (.int .i64 t407)) (fun _ hk => hk.2) (.int .i64 t408)) (fun _ hk => hk.2) (.bool t409)) (fun _ hk => hk.2) (.bool t410)) (fun _ hk => hk.2) (.bool t411)) (fun _ hk => ⟨hk.1.1.2.1, ⟨hk.1.1.2.2, hk.1.2⟩⟩)⟩, ⟨by (with_reducible repeat (first | refine blk_drewN ?_ _ | refine blk_drew ?_ | refine blk_alloc ?_ _)); refine blk_far ?_ NB389_413.out _; (with_reducible repeat (first | refine blk_drewN ?_ _ | refine blk_drew ?_ | refine blk_alloc ?_ _)); refine blk_far ?_ NB389_413.out _; (with_reducible repeat (first | refine blk_drewN ?_ _ | refine blk_drew ?_ | refine blk_alloc ?_ _)); refine blk_far ?_ NB389_413.out _; (with_reducible repeat (first | refine blk_drewN ?_ _ | refine blk_drew ?_ | refine blk_alloc ?_ _)); refine blk_far ?_ NB389_413.out _; (with_reducible repeat (first | refine blk_drewN ?_ _ | refine blk_drew ?_ | refine blk_alloc ?_ _)); refine blk_far ?_ NB389_413.out _; (with_reducible repeat (first | refine blk_drewN ?_ _ | refine blk_drew ?_ | refine blk_alloc ?_ _)); exact BK389.out⟩, ⟨by (with_reducible repeat (first | refine blk_drewN ?_ _ | refine blk_drew ?_ | refine blk_alloc ?_ _)); refine blk_far ?_ NB405_413.out _; (with_reducible repeat (first | refine blk_drewN ?_ _ | refine blk_drew ?_ | refine blk_alloc ?_ _)); refine blk_far ?_ NB405_413.out _; (with_reducible repeat (first | refine blk_drewN ?_ _ | refine blk_drew ?_ | refine blk_alloc ?_ _)); refine blk_far ?_ NB405_413.out _; (with_reducible repeat (first | refine blk_drewN ?_ _ | refine blk_drew ?_ | refine blk_alloc ?_ _)); refine blk_far ?_ NB405_413.out _; (with_reducible repeat (first | refine blk_drewN ?_ _ | refine blk_drew ?_ | refine blk_alloc ?_ _)); refine blk_far ?_ NB405_413.out _; (with_reducible repeat (first | refine blk_drewN ?_ _ | refine blk_drew ?_ | refine blk_alloc ?_ _)); exact BK405.out⟩, ⟨by (with_reducible repeat (first | refine blk_drewN ?_ _ | refine blk_drew ?_ | refine blk_alloc ?_ _)); refine blk_put (cs := #[.int .i64 t407, .int .i64 t408, .bool t409, .bool t410, .bool false]) ?_ 4 _ rfl; (with_reducible repeat (first | refine blk_drewN ?_ _ | refine blk_drew ?_ | refine blk_alloc ?_ _)); refine blk_put (cs := #[.int .i64 t407, .int .i64 t408, .bool t409, .bool false, .bool false]) ?_ 3 _ rfl; (with_reducible repeat (first | refine blk_drewN ?_ _ | refine blk_drew ?_ | refine blk_alloc ?_ _)); refine blk_put (cs := #[.int .i64 t407, .int .i64 t408, .bool false, .bool false, .bool false]) ?_ 2 _ rfl; (with_reducible repeat (first | refine blk_drewN ?_ _ | refine blk_drew ?_ | refine blk_alloc ?_ _)); refine blk_put (cs := #[.int .i64 t407, .int .i64 0, .bool false, .bool false, .bool false]) ?_ 1 _ rfl; (with_reducible repeat (first | refine blk_drewN ?_ _ | refine blk_drew ?_ | refine blk_alloc ?_ _)); refine blk_put (cs := #[.int .i64 0, .int .i64 0, .bool false, .bool false, .bool false]) ?_ 0 _ rfl; (with_reducible repeat (first | refine blk_drewN ?_ _ | refine blk_drew ?_ | refine blk_alloc ?_ _)); exact BK413.out⟩, ⟨by repeat (first | (with_reducible first | exact HB.out | apply below_alloc | apply pw_below_drewN | apply below_drew1 | refine below_set ?_ GE389.out | refine below_set ?_ GE405.out | refine below_set ?_ GE413.out) | exact HB.out)⟩⟩
              · have H1 : (paviorlaw09_AreaKeeps.j1 kj10 a2 t390 t395 t396 t404 true (some q414) true t399 t400 t401 t402 t403 t407 t408 t409 t410 t411) = some r := by rw [if_neg (show ¬ (some q414).isNone = true by simp)] at H; exact H
                clear H
                have H := H1
                clear H1
                try simp only [errW_none, errW_some]
                have H' := Aside0.mk H
                clear H
                go_wp2
                go_meet
                case rel => exact ⟨_, (true), (by first | rfl | (simp; done) | (simp [*]; done)), H', ⟨by have := HJ10.out; first | omega | exact Nat.le_refl _⟩, ⟨by (with_reducible repeat (first | apply Kd.R_alloc | apply Kd.R_drewN | apply Kd.R_drew)); exact Kd.R_mono (Kd.R_far (p := ⟨gb413, 4, none⟩) (Kd.R_far (p := ⟨gb413, 3, none⟩) (Kd.R_far (p := ⟨gb413, 2, none⟩) (Kd.R_far (p := ⟨gb413, 1, none⟩) (Kd.R_far (p := ⟨gb413, 0, none⟩) (Kd.R_mono HO_10.out (fun k_ hk => (⟨hk, hk.2⟩ : _ ∧ k_ ≠ gb413))) (fun _ hk => hk.2) (.int .i64 t407)) (fun _ hk => hk.2) (.int .i64 t408)) (fun _ hk => hk.2) (.bool t409)) (fun _ hk => hk.2) (.bool t410)) (fun _ hk => hk.2) (.bool t411)) (fun _ hk => ⟨hk.1.1.2.1, ⟨hk.1.1.2.2, hk.1.2⟩⟩)⟩, ⟨by (with_reducible repeat (first | refine blk_drewN ?_ _ | refine blk_drew ?_ | refine blk_alloc ?_ _)); refine blk_far ?_ NB389_413.out _; (with_reducible repeat (first | refine blk_drewN ?_ _ | refine blk_drew ?_ | refine blk_alloc ?_ _)); refine blk_far ?_ NB389_413.out _; (with_reducible repeat (first | refine blk_drewN ?_ _ | refine blk_drew ?_ | refine blk_alloc ?_ _)); refine blk_far ?_ NB389_413.out _; (with_reducible repeat (first | refine blk_drewN ?_ _ | refine blk_drew ?_ | refine blk_alloc ?_ _)); refine blk_far ?_ NB389_413.out _; (with_reducible repeat (first | refine blk_drewN ?_ _ | refine blk_drew ?_ | refine blk_alloc ?_ _)); refine blk_far ?_ NB389_413.out _; (with_reducible repeat (first | refine blk_drewN ?_ _ | refine blk_drew ?_ | refine blk_alloc ?_ _)); exact BK389.out⟩, ⟨by (with_reducible repeat (first | refine blk_drewN ?_ _ | refine blk_drew ?_ | refine blk_alloc ?_ _)); refine blk_far ?_ NB405_413.out _; (with_reducible repeat (first | refine blk_drewN ?_ _ | refine blk_drew ?_ | refine blk_alloc ?_ _)); refine blk_far ?_ NB405_413.out _; (with_reducible repeat (first | refine blk_drewN ?_ _ | refine blk_drew ?_ | refine blk_alloc ?_ _)); refine blk_far ?_ NB405_413.out _; (with_reducible repeat (first | refine blk_drewN ?_ _ | refine blk_drew ?_ | refine blk_alloc ?_ _)); refine blk_far ?_ NB405_413.out _; (with_reducible repeat (first | refine blk_drewN ?_ _ | refine blk_drew ?_ | refine blk_alloc ?_ _)); refine blk_far ?_ NB405_413.out _; (with_reducible repeat (first | refine blk_drewN ?_ _ | refine blk_drew ?_ | refine blk_alloc ?_ _)); exact BK405.out⟩, ⟨by (with_reducible repeat (first | refine blk_drewN ?_ _ | refine blk_drew ?_ | refine blk_alloc ?_ _)); refine blk_put (cs := #[.int .i64 t407, .int .i64 t408, .bool t409, .bool t410, .bool false]) ?_ 4 _ rfl; (with_reducible repeat (first | refine blk_drewN ?_ _ | refine blk_drew ?_ | refine blk_alloc ?_ _)); refine blk_put (cs := #[.int .i64 t407, .int .i64 t408, .bool t409, .bool false, .bool false]) ?_ 3 _ rfl; (with_reducible repeat (first | refine blk_drewN ?_ _ | refine blk_drew ?_ | refine blk_alloc ?_ _)); refine blk_put (cs := #[.int .i64 t407, .int .i64 t408, .bool false, .bool false, .bool false]) ?_ 2 _ rfl; (with_reducible repeat (first | refine blk_drewN ?_ _ | refine blk_drew ?_ | refine blk_alloc ?_ _)); refine blk_put (cs := #[.int .i64 t407, .int .i64 0, .bool false, .bool false, .bool false]) ?_ 1 _ rfl; (with_reducible repeat (first | refine blk_drewN ?_ _ | refine blk_drew ?_ | refine blk_alloc ?_ _)); refine blk_put (cs := #[.int .i64 0, .int .i64 0, .bool false, .bool false, .bool false]) ?_ 0 _ rfl; (with_reducible repeat (first | refine blk_drewN ?_ _ | refine blk_drew ?_ | refine blk_alloc ?_ _)); exact BK413.out⟩, ⟨by repeat (first | (with_reducible first | exact HB.out | apply below_alloc | apply pw_below_drewN | apply below_drew1 | refine below_set ?_ GE389.out | refine below_set ?_ GE405.out | refine below_set ?_ GE413.out) | exact HB.out)⟩⟩
            · replace c35 := Bool.eq_false_iff.mpr c35
              subst c35
              have H1 : (paviorlaw09_AreaKeeps.j1 kj10 a2 t390 t395 t396 t404 false t412 false t399 t400 t401 t402 t403 t407 t408 t409 t410 t411) = some r := by rw [if_neg (show ¬ (false = true) by decide)] at H; exact H
              clear H
              have H := H1
              clear H1
              have H' := Aside0.mk H
              clear H
              go_wp2
              go_meet
              case rel => exact ⟨_, (false), (by first | rfl | (simp; done) | (simp [*]; done)), H', ⟨by have := HJ10.out; first | omega | exact Nat.le_refl _⟩, ⟨by (with_reducible repeat (first | apply Kd.R_alloc | apply Kd.R_drewN | apply Kd.R_drew)); exact Kd.R_mono (Kd.R_far (p := ⟨gb413, 4, none⟩) (Kd.R_far (p := ⟨gb413, 3, none⟩) (Kd.R_far (p := ⟨gb413, 2, none⟩) (Kd.R_far (p := ⟨gb413, 1, none⟩) (Kd.R_far (p := ⟨gb413, 0, none⟩) (Kd.R_mono HO_10.out (fun k_ hk => (⟨hk, hk.2⟩ : _ ∧ k_ ≠ gb413))) (fun _ hk => hk.2) (.int .i64 t407)) (fun _ hk => hk.2) (.int .i64 t408)) (fun _ hk => hk.2) (.bool t409)) (fun _ hk => hk.2) (.bool t410)) (fun _ hk => hk.2) (.bool t411)) (fun _ hk => ⟨hk.1.1.2.1, ⟨hk.1.1.2.2, hk.1.2⟩⟩)⟩, ⟨by (with_reducible repeat (first | refine blk_drewN ?_ _ | refine blk_drew ?_ | refine blk_alloc ?_ _)); refine blk_far ?_ NB389_413.out _; (with_reducible repeat (first | refine blk_drewN ?_ _ | refine blk_drew ?_ | refine blk_alloc ?_ _)); refine blk_far ?_ NB389_413.out _; (with_reducible repeat (first | refine blk_drewN ?_ _ | refine blk_drew ?_ | refine blk_alloc ?_ _)); refine blk_far ?_ NB389_413.out _; (with_reducible repeat (first | refine blk_drewN ?_ _ | refine blk_drew ?_ | refine blk_alloc ?_ _)); refine blk_far ?_ NB389_413.out _; (with_reducible repeat (first | refine blk_drewN ?_ _ | refine blk_drew ?_ | refine blk_alloc ?_ _)); refine blk_far ?_ NB389_413.out _; (with_reducible repeat (first | refine blk_drewN ?_ _ | refine blk_drew ?_ | refine blk_alloc ?_ _)); exact BK389.out⟩, ⟨by (with_reducible repeat (first | refine blk_drewN ?_ _ | refine blk_drew ?_ | refine blk_alloc ?_ _)); refine blk_far ?_ NB405_413.out _; (with_reducible repeat (first | refine blk_drewN ?_ _ | refine blk_drew ?_ | refine blk_alloc ?_ _)); refine blk_far ?_ NB405_413.out _; (with_reducible repeat (first | refine blk_drewN ?_ _ | refine blk_drew ?_ | refine blk_alloc ?_ _)); refine blk_far ?_ NB405_413.out _; (with_reducible repeat (first | refine blk_drewN ?_ _ | refine blk_drew ?_ | refine blk_alloc ?_ _)); refine blk_far ?_ NB405_413.out _; (with_reducible repeat (first | refine blk_drewN ?_ _ | refine blk_drew ?_ | refine blk_alloc ?_ _)); refine blk_far ?_ NB405_413.out _; (with_reducible repeat (first | refine blk_drewN ?_ _ | refine blk_drew ?_ | refine blk_alloc ?_ _)); exact BK405.out⟩, ⟨by (with_reducible repeat (first | refine blk_drewN ?_ _ | refine blk_drew ?_ | refine blk_alloc ?_ _)); refine blk_put (cs := #[.int .i64 t407, .int .i64 t408, .bool t409, .bool t410, .bool false]) ?_ 4 _ rfl; (with_reducible repeat (first | refine blk_drewN ?_ _ | refine blk_drew ?_ | refine blk_alloc ?_ _)); refine blk_put (cs := #[.int .i64 t407, .int .i64 t408, .bool t409, .bool false, .bool false]) ?_ 3 _ rfl; (with_reducible repeat (first | refine blk_drewN ?_ _ | refine blk_drew ?_ | refine blk_alloc ?_ _)); refine blk_put (cs := #[.int .i64 t407, .int .i64 t408, .bool false, .bool false, .bool false]) ?_ 2 _ rfl; (with_reducible repeat (first | refine blk_drewN ?_ _ | refine blk_drew ?_ | refine blk_alloc ?_ _)); refine blk_put (cs := #[.int .i64 t407, .int .i64 0, .bool false, .bool false, .bool false]) ?_ 1 _ rfl; (with_reducible repeat (first | refine blk_drewN ?_ _ | refine blk_drew ?_ | refine blk_alloc ?_ _)); refine blk_put (cs := #[.int .i64 0, .int .i64 0, .bool false, .bool false, .bool false]) ?_ 0 _ rfl; (with_reducible repeat (first | refine blk_drewN ?_ _ | refine blk_drew ?_ | refine blk_alloc ?_ _)); exact BK413.out⟩, ⟨by repeat (first | (with_reducible first | exact HB.out | apply below_alloc | apply pw_below_drewN | apply below_drew1 | refine below_set ?_ GE389.out | refine below_set ?_ GE405.out | refine below_set ?_ GE413.out) | exact HB.out)⟩⟩
          case rest =>
            clear HC28
            try clear c1
            try clear c2
            try clear p2
            try clear c3
            try clear c4
            try clear q4
            try clear c5
            try clear c5b0
            try clear c5b1
            try clear c8
            try clear c12
            try clear c15
            try clear c16
            try clear c20
            try clear c22
            try clear c22b0
            try clear c23
            try clear c25
            try clear c32
            try clear c33
            try clear c35
            try clear c36
            try clear c36b0
            try clear c37
            try clear c38
            try clear c40
            try clear q40
            try clear q41
            try clear c42
            try clear c43
            try clear c45
            try clear hcz14_0
            try clear hcz14_1
            try clear hcz14_2
            try clear hcz14_3
            try clear hcz14_4
            try clear hcz16_0
            try clear hcz16_1
            try clear hcz16_2
            try clear hcz16_3
            try clear hcz16_4
            try clear hcz21_0
            try clear hcz21_1
            try clear hcz21_2
            try clear hcz21_3
            try clear hcz21_4
            try clear hcz24_0
            try clear hcz24_1
            try clear hcz24_2
            try clear hcz24_3
            try clear hcz24_4
            try clear hcz26_0
            try clear hcz26_1
            try clear hcz26_2
            try clear hcz26_3
            try clear hcz26_4
            try clear hcz34_0
            try clear hcz34_1
            try clear hcz34_2
            try clear hcz34_3
            try clear hcz34_4
            try clear hcz39_0
            try clear hcz39_1
            try clear hcz39_2
            try clear hcz39_3
            try clear hcz39_4
            try clear hcz41_0
            try clear hcz41_1
            try clear hcz41_2
            try clear hcz41_3
            try clear hcz41_4
            try clear hcz44_0
            try clear hcz44_1
            try clear hcz44_2
            try clear hcz44_3
            try clear hcz44_4
            try clear hcz46_0
            try clear hcz46_1
            try clear hcz46_2
            try clear hcz46_3
            try clear hcz46_4
            try clear hfz14_0
            try clear hfz14_1
            try clear hfz14_2
            try clear hfz14_3
            try clear hfz14_4
            try clear hfz16_0
            try clear hfz16_1
            try clear hfz16_2
            try clear hfz16_3
            try clear hfz16_4
            try clear hfz21_0
            try clear hfz21_1
            try clear hfz21_2
            try clear hfz21_3
            try clear hfz21_4
            try clear hfz24_0
            try clear hfz24_1
            try clear hfz24_2
            try clear hfz24_3
            try clear hfz24_4
            try clear hfz26_0
            try clear hfz26_1
            try clear hfz26_2
            try clear hfz26_3
            try clear hfz26_4
            try clear hfz34_0
            try clear hfz34_1
            try clear hfz34_2
            try clear hfz34_3
            try clear hfz34_4
            try clear hfz39_0
            try clear hfz39_1
            try clear hfz39_2
            try clear hfz39_3
            try clear hfz39_4
            try clear hfz41_0
            try clear hfz41_1
            try clear hfz41_2
            try clear hfz41_3
            try clear hfz41_4
            try clear hfz44_0
            try clear hfz44_1
            try clear hfz44_2
            try clear hfz44_3
            try clear hfz44_4
            try clear hfz46_0
            try clear hfz46_1
            try clear hfz46_2
            try clear hfz46_3
            try clear hfz46_4
            try clear p2
            try clear q406
            try clear q414
            obtain ⟨kq, x81_27, rfl, HA, HJ27, HO_10, BK389, BK405, BK413, HB⟩ := hcut
            cases kq with
            | zero => exact absurd HA.out (by simp [paviorlaw09_AreaKeeps.j1])
            | succ kj27 =>
              have H := HA.out
              clear HA
              simp only [paviorlaw09_AreaKeeps.j1] at H
              by_cases c47 : x81_27 = true
              · subst c47
                have H1 : (some false) = some r := by rw [if_pos rfl] at H; exact H
                clear H
                have H := H1
                clear H1
                obtain rfl := Option.some.inj H
                go_wp2
                go_ret
                exact ⟨by first | rfl | (simp [errW_none, errW_some] <;> rfl) | (simp [*, errW_none, errW_some] <;> rfl), by repeat (first | (with_reducible first | exact HB.out | apply below_alloc | apply pw_below_drewN | apply below_drew1 | refine below_set ?_ GE389.out | refine below_set ?_ GE405.out | refine below_set ?_ GE413.out) | exact HB.out)⟩
              · replace c47 := Bool.eq_false_iff.mpr c47
                subst c47
                have H1 : (if x14_10 = true then (paviorlaw09_AreaKeeps.j2 kj27 a2 t390 t395 t396 t404 x14_10 false t399 t400 t401 t402 t403) else ((paviorlaw00_Code.f t404).bind fun t415 => ((paviorlaw00_Code.f t412).bind fun t416 => (if t415 = t416 then (if (!(t409 == t401) || (!(t410 == t402))) = true then (paviorlaw09_AreaKeeps.j2 kj27 a2 t390 t395 t396 t404 x14_10 true t399 t400 t401 t402 t403) else (paviorlaw09_AreaKeeps.j2 kj27 a2 t390 t395 t396 t404 x14_10 (t411 != t403) t399 t400 t401 t402 t403)) else (paviorlaw09_AreaKeeps.j2 kj27 a2 t390 t395 t396 t404 x14_10 true t399 t400 t401 t402 t403))))) = some r := by rw [if_neg (show ¬ (false = true) by decide)] at H; exact H
                clear H
                have H := H1
                clear H1
                have HC48 := Aside0.mk H
                clear H
                go_upto_region 12 with (fail)
                go_cut [104] (fun v104 wc => ∃ (kq : Nat) (x104_47 : Bool), v104 = .bool x104_47 ∧ Aside0 (paviorlaw09_AreaKeeps.j2 kq a2 t390 t395 t396 t404 x14_10 x104_47 t399 t400 t401 t402 t403 = some r) ∧ Aside0 (kq ≤ kj27) ∧ Aside0 (Kd.R k32 32 wc w.heap.size (fun k_ => k_ ≠ gb389 ∧ k_ ≠ gb405 ∧ k_ ≠ gb413) v397 t395) ∧ Aside0 (wc.heap[gb389]? = some (.cells #[.int .i64 a1_0, .int .i64 a1_1, .bool a1_2, .bool a1_3, .bool a1_4] 32 (0, 0))) ∧ Aside0 (wc.heap[gb405]? = some (.cells #[.int .i64 t399, .int .i64 t400, .bool t401, .bool t402, .bool t403] 32 (0, 0))) ∧ Aside0 (wc.heap[gb413]? = some (.cells #[.int .i64 t407, .int .i64 t408, .bool t409, .bool t410, .bool t411] 32 (0, 0))) ∧ Aside0 (Below w.heap.size w wc))
                case first =>
                  have H := HC48.out
                  clear HC48
                  by_cases c49 : x14_10 = true
                  · subst c49
                    have H1 : (paviorlaw09_AreaKeeps.j2 kj27 a2 t390 t395 t396 t404 true false t399 t400 t401 t402 t403) = some r := by rw [if_pos rfl] at H; exact H
                    clear H
                    have H := H1
                    clear H1
                    have H' := Aside0.mk H
                    clear H
                    go_wp2
                    go_meet
                    case rel => exact ⟨_, (false), (by first | rfl | (simp; done) | (simp [*]; done)), H', ⟨by have := HJ10.out; have := HJ27.out; first | omega | exact Nat.le_refl _⟩, ⟨by (with_reducible repeat (first | apply Kd.R_alloc | apply Kd.R_drewN | apply Kd.R_drew)); exact HO_10.out⟩, ⟨by (with_reducible repeat (first | refine blk_drewN ?_ _ | refine blk_drew ?_ | refine blk_alloc ?_ _)); exact BK389.out⟩, ⟨by (with_reducible repeat (first | refine blk_drewN ?_ _ | refine blk_drew ?_ | refine blk_alloc ?_ _)); exact BK405.out⟩, ⟨by (with_reducible repeat (first | refine blk_drewN ?_ _ | refine blk_drew ?_ | refine blk_alloc ?_ _)); exact BK413.out⟩, ⟨by repeat (first | (with_reducible first | exact HB.out | apply below_alloc | apply pw_below_drewN | apply below_drew1 | refine below_set ?_ GE389.out | refine below_set ?_ GE405.out | refine below_set ?_ GE413.out) | exact HB.out)⟩⟩
                  · replace c49 := Bool.eq_false_iff.mpr c49
                    subst c49
                    have H1 : ((paviorlaw00_Code.f t404).bind fun t415 => ((paviorlaw00_Code.f t412).bind fun t416 => (if t415 = t416 then (if (!(t409 == t401) || (!(t410 == t402))) = true then (paviorlaw09_AreaKeeps.j2 kj27 a2 t390 t395 t396 t404 false true t399 t400 t401 t402 t403) else (paviorlaw09_AreaKeeps.j2 kj27 a2 t390 t395 t396 t404 false (t411 != t403) t399 t400 t401 t402 t403)) else (paviorlaw09_AreaKeeps.j2 kj27 a2 t390 t395 t396 t404 false true t399 t400 t401 t402 t403)))) = some r := by rw [if_neg (show ¬ (false = true) by decide)] at H; exact H
                    clear H
                    have H := H1
                    clear H1
                    replace H := Option.bind_eq_some_iff.mp H
                    obtain ⟨t415, A500, H⟩ := H
                    replace H : ((paviorlaw00_Code.f t412).bind fun t416 => (if t415 = t416 then (if (!(t409 == t401) || (!(t410 == t402))) = true then (paviorlaw09_AreaKeeps.j2 kj27 a2 t390 t395 t396 t404 false true t399 t400 t401 t402 t403) else (paviorlaw09_AreaKeeps.j2 kj27 a2 t390 t395 t396 t404 false (t411 != t403) t399 t400 t401 t402 t403)) else (paviorlaw09_AreaKeeps.j2 kj27 a2 t390 t395 t396 t404 false true t399 t400 t401 t402 t403))) = some r := H
                    have A50 := Aside0.mk A500
                    clear A500
                    replace H := Option.bind_eq_some_iff.mp H
                    obtain ⟨t416, A510, H⟩ := H
                    replace H : (if t415 = t416 then (if (!(t409 == t401) || (!(t410 == t402))) = true then (paviorlaw09_AreaKeeps.j2 kj27 a2 t390 t395 t396 t404 false true t399 t400 t401 t402 t403) else (paviorlaw09_AreaKeeps.j2 kj27 a2 t390 t395 t396 t404 false (t411 != t403) t399 t400 t401 t402 t403)) else (paviorlaw09_AreaKeeps.j2 kj27 a2 t390 t395 t396 t404 false true t399 t400 t401 t402 t403)) = some r := H
                    have A51 := Aside0.mk A510
                    clear A510
                    by_cases c52 : t415 = t416
                    · rw [if_pos c52] at H
                      have c52b0 : (t415 == t416) = true := beq_iff_eq.mpr c52
                      have c52b1 : (t415 != t416) = false := bne_eq_false_iff_eq.mpr c52
                      clear c52
                      (first | rw [c52b0] | (simp only [i64_w, i32_w]; rw [c52b0]) | skip)
                      by_cases c53 : (!(t409 == t401) || (!(t410 == t402))) = true
                      · rw [if_pos c53] at H
                        have c53b0 : (!(t409 == t401) || (!(t410 == t402))) = true := c53
                        clear c53
                        have H' := Aside0.mk H
                        clear H
                        have CA50 := fun W => paviorlaw00_Code.calls t404 t415 W A50.out
                        try simp only [errW_none, errW_some] at CA50
                        go_wp2_with (first | (go_at_call 20; (with_reducible refine (CA50 _).mono ?_); rintro e w' ⟨rfl, ⟨nd, rfl⟩⟩; have CA51 := fun W => paviorlaw00_Code.calls t412 t416 W A51.out; try simp only [errW_none, errW_some] at CA51) | (go_at_call 20; (with_reducible refine (CA51 _).mono ?_); rintro e w' ⟨rfl, ⟨nd, rfl⟩⟩; have hnb54 := NB413_389.out; have hnc54 := NB389_413.out; have hnb55 := NB413_405.out; have hnc55 := NB405_413.out; have hcz56_0 : wc.cell? ⟨gb413, 0, none⟩ = some (.int .i64 t407) := (blk_cell BK413.out 0).trans rfl; have hcz56_1 : wc.cell? ⟨gb413, 1, none⟩ = some (.int .i64 t408) := (blk_cell BK413.out 1).trans rfl; have hcz56_2 : wc.cell? ⟨gb413, 2, none⟩ = some (.bool t409) := (blk_cell BK413.out 2).trans rfl; have hcz56_3 : wc.cell? ⟨gb413, 3, none⟩ = some (.bool t410) := (blk_cell BK413.out 3).trans rfl; have hcz56_4 : wc.cell? ⟨gb413, 4, none⟩ = some (.bool t411) := (blk_cell BK413.out 4).trans rfl; have hfz56_0 := blk_frozen BK413.out 0; have hfz56_1 := blk_frozen BK413.out 1; have hfz56_2 := blk_frozen BK413.out 2; have hfz56_3 := blk_frozen BK413.out 3; have hfz56_4 := blk_frozen BK413.out 4; have hnb57 := NB405_389.out; have hnc57 := NB389_405.out; have hcz58_0 : wc.cell? ⟨gb405, 0, none⟩ = some (.int .i64 t399) := (blk_cell BK405.out 0).trans rfl; have hcz58_1 : wc.cell? ⟨gb405, 1, none⟩ = some (.int .i64 t400) := (blk_cell BK405.out 1).trans rfl; have hcz58_2 : wc.cell? ⟨gb405, 2, none⟩ = some (.bool t401) := (blk_cell BK405.out 2).trans rfl; have hcz58_3 : wc.cell? ⟨gb405, 3, none⟩ = some (.bool t402) := (blk_cell BK405.out 3).trans rfl; have hcz58_4 : wc.cell? ⟨gb405, 4, none⟩ = some (.bool t403) := (blk_cell BK405.out 4).trans rfl; have hfz58_0 := blk_frozen BK405.out 0; have hfz58_1 := blk_frozen BK405.out 1; have hfz58_2 := blk_frozen BK405.out 2; have hfz58_3 := blk_frozen BK405.out 3; have hfz58_4 := blk_frozen BK405.out 4))
                        go_meet
                        case rel => exact ⟨_, (true), (by first | rfl | (simp; done) | (simp [*]; done)), H', ⟨by have := HJ10.out; have := HJ27.out; first | omega | exact Nat.le_refl _⟩, ⟨by (with_reducible repeat (first | apply Kd.R_alloc | apply Kd.R_drewN | apply Kd.R_drew)); exact HO_10.out⟩, ⟨by (with_reducible repeat (first | refine blk_drewN ?_ _ | refine blk_drew ?_ | refine blk_alloc ?_ _)); exact BK389.out⟩, ⟨by (with_reducible repeat (first | refine blk_drewN ?_ _ | refine blk_drew ?_ | refine blk_alloc ?_ _)); exact BK405.out⟩, ⟨by (with_reducible repeat (first | refine blk_drewN ?_ _ | refine blk_drew ?_ | refine blk_alloc ?_ _)); exact BK413.out⟩, ⟨by repeat (first | (with_reducible first | exact HB.out | apply below_alloc | apply pw_below_drewN | apply below_drew1 | refine below_set ?_ GE389.out | refine below_set ?_ GE405.out | refine below_set ?_ GE413.out) | exact HB.out)⟩⟩
                      · rw [if_neg c53] at H
                        have c53b0 : (!(t409 == t401) || (!(t410 == t402))) = false := by simpa using c53
                        clear c53
                        have H' := Aside0.mk H
                        clear H
                        have CA50 := fun W => paviorlaw00_Code.calls t404 t415 W A50.out
                        try simp only [errW_none, errW_some] at CA50
                        go_wp2_with (first | (go_at_call 20; (with_reducible refine (CA50 _).mono ?_); rintro e w' ⟨rfl, ⟨nd, rfl⟩⟩; have CA51 := fun W => paviorlaw00_Code.calls t412 t416 W A51.out; try simp only [errW_none, errW_some] at CA51) | (go_at_call 20; (with_reducible refine (CA51 _).mono ?_); rintro e w' ⟨rfl, ⟨nd, rfl⟩⟩; have hnb59 := NB413_389.out; have hnc59 := NB389_413.out; have hnb60 := NB413_405.out; have hnc60 := NB405_413.out; have hcz61_0 : wc.cell? ⟨gb413, 0, none⟩ = some (.int .i64 t407) := (blk_cell BK413.out 0).trans rfl; have hcz61_1 : wc.cell? ⟨gb413, 1, none⟩ = some (.int .i64 t408) := (blk_cell BK413.out 1).trans rfl; have hcz61_2 : wc.cell? ⟨gb413, 2, none⟩ = some (.bool t409) := (blk_cell BK413.out 2).trans rfl; have hcz61_3 : wc.cell? ⟨gb413, 3, none⟩ = some (.bool t410) := (blk_cell BK413.out 3).trans rfl; have hcz61_4 : wc.cell? ⟨gb413, 4, none⟩ = some (.bool t411) := (blk_cell BK413.out 4).trans rfl; have hfz61_0 := blk_frozen BK413.out 0; have hfz61_1 := blk_frozen BK413.out 1; have hfz61_2 := blk_frozen BK413.out 2; have hfz61_3 := blk_frozen BK413.out 3; have hfz61_4 := blk_frozen BK413.out 4; have hnb62 := NB405_389.out; have hnc62 := NB389_405.out; have hcz63_0 : wc.cell? ⟨gb405, 0, none⟩ = some (.int .i64 t399) := (blk_cell BK405.out 0).trans rfl; have hcz63_1 : wc.cell? ⟨gb405, 1, none⟩ = some (.int .i64 t400) := (blk_cell BK405.out 1).trans rfl; have hcz63_2 : wc.cell? ⟨gb405, 2, none⟩ = some (.bool t401) := (blk_cell BK405.out 2).trans rfl; have hcz63_3 : wc.cell? ⟨gb405, 3, none⟩ = some (.bool t402) := (blk_cell BK405.out 3).trans rfl; have hcz63_4 : wc.cell? ⟨gb405, 4, none⟩ = some (.bool t403) := (blk_cell BK405.out 4).trans rfl; have hfz63_0 := blk_frozen BK405.out 0; have hfz63_1 := blk_frozen BK405.out 1; have hfz63_2 := blk_frozen BK405.out 2; have hfz63_3 := blk_frozen BK405.out 3; have hfz63_4 := blk_frozen BK405.out 4))
                        go_meet
                        case rel => exact ⟨_, ((t411 != t403)), (by first | rfl | (simp; done) | (simp [*]; done)), H', ⟨by have := HJ10.out; have := HJ27.out; first | omega | exact Nat.le_refl _⟩, ⟨by (with_reducible repeat (first | apply Kd.R_alloc | apply Kd.R_drewN | apply Kd.R_drew)); exact HO_10.out⟩, ⟨by (with_reducible repeat (first | refine blk_drewN ?_ _ | refine blk_drew ?_ | refine blk_alloc ?_ _)); exact BK389.out⟩, ⟨by (with_reducible repeat (first | refine blk_drewN ?_ _ | refine blk_drew ?_ | refine blk_alloc ?_ _)); exact BK405.out⟩, ⟨by (with_reducible repeat (first | refine blk_drewN ?_ _ | refine blk_drew ?_ | refine blk_alloc ?_ _)); exact BK413.out⟩, ⟨by repeat (first | (with_reducible first | exact HB.out | apply below_alloc | apply pw_below_drewN | apply below_drew1 | refine below_set ?_ GE389.out | refine below_set ?_ GE405.out | refine below_set ?_ GE413.out) | exact HB.out)⟩⟩
                    · rw [if_neg c52] at H
                      have c52b0 : (t415 == t416) = false := beq_eq_false_iff_ne.mpr c52
                      have c52b1 : (t415 != t416) = true := bne_iff_ne.mpr c52
                      (first | rw [c52b0] | (simp only [i64_w, i32_w]; rw [c52b0]) | skip)
                      have H' := Aside0.mk H
                      clear H
                      have CA50 := fun W => paviorlaw00_Code.calls t404 t415 W A50.out
                      try simp only [errW_none, errW_some] at CA50
                      go_wp2_with (first | (go_at_call 20; (with_reducible refine (CA50 _).mono ?_); rintro e w' ⟨rfl, ⟨nd, rfl⟩⟩; have CA51 := fun W => paviorlaw00_Code.calls t412 t416 W A51.out; try simp only [errW_none, errW_some] at CA51) | (go_at_call 20; (with_reducible refine (CA51 _).mono ?_); rintro e w' ⟨rfl, ⟨nd, rfl⟩⟩))
                      go_meet
                      case rel => exact ⟨_, (true), (by first | rfl | (simp; done) | (simp [*]; done)), H', ⟨by have := HJ10.out; have := HJ27.out; first | omega | exact Nat.le_refl _⟩, ⟨by (with_reducible repeat (first | apply Kd.R_alloc | apply Kd.R_drewN | apply Kd.R_drew)); exact HO_10.out⟩, ⟨by (with_reducible repeat (first | refine blk_drewN ?_ _ | refine blk_drew ?_ | refine blk_alloc ?_ _)); exact BK389.out⟩, ⟨by (with_reducible repeat (first | refine blk_drewN ?_ _ | refine blk_drew ?_ | refine blk_alloc ?_ _)); exact BK405.out⟩, ⟨by (with_reducible repeat (first | refine blk_drewN ?_ _ | refine blk_drew ?_ | refine blk_alloc ?_ _)); exact BK413.out⟩, ⟨by repeat (first | (with_reducible first | exact HB.out | apply below_alloc | apply pw_below_drewN | apply below_drew1 | refine below_set ?_ GE389.out | refine below_set ?_ GE405.out | refine below_set ?_ GE413.out) | exact HB.out)⟩⟩
                case rest =>
                  clear HC48
                  try clear c1
                  try clear c2
                  try clear p2
                  try clear c3
                  try clear c4
                  try clear q4
                  try clear c5
                  try clear c5b0
                  try clear c5b1
                  try clear c6
                  try clear c8
                  try clear c12
                  try clear c15
                  try clear c16
                  try clear c20
                  try clear c22
                  try clear c22b0
                  try clear c23
                  try clear c25
                  try clear c32
                  try clear c33
                  try clear c35
                  try clear c36
                  try clear c36b0
                  try clear c37
                  try clear c38
                  try clear c40
                  try clear q40
                  try clear q41
                  try clear c42
                  try clear c43
                  try clear c45
                  try clear c47
                  try clear c49
                  try clear c52
                  try clear c52b0
                  try clear c52b1
                  try clear c53
                  try clear c53b0
                  try clear c54
                  try clear c55
                  try clear c57
                  try clear c59
                  try clear c60
                  try clear c62
                  try clear hcz14_0
                  try clear hcz14_1
                  try clear hcz14_2
                  try clear hcz14_3
                  try clear hcz14_4
                  try clear hcz16_0
                  try clear hcz16_1
                  try clear hcz16_2
                  try clear hcz16_3
                  try clear hcz16_4
                  try clear hcz21_0
                  try clear hcz21_1
                  try clear hcz21_2
                  try clear hcz21_3
                  try clear hcz21_4
                  try clear hcz24_0
                  try clear hcz24_1
                  try clear hcz24_2
                  try clear hcz24_3
                  try clear hcz24_4
                  try clear hcz26_0
                  try clear hcz26_1
                  try clear hcz26_2
                  try clear hcz26_3
                  try clear hcz26_4
                  try clear hcz34_0
                  try clear hcz34_1
                  try clear hcz34_2
                  try clear hcz34_3
                  try clear hcz34_4
                  try clear hcz39_0
                  try clear hcz39_1
                  try clear hcz39_2
                  try clear hcz39_3
                  try clear hcz39_4
                  try clear hcz41_0
                  try clear hcz41_1
                  try clear hcz41_2
                  try clear hcz41_3
                  try clear hcz41_4
                  try clear hcz44_0
                  try clear hcz44_1
                  try clear hcz44_2
                  try clear hcz44_3
                  try clear hcz44_4
                  try clear hcz46_0
                  try clear hcz46_1
                  try clear hcz46_2
                  try clear hcz46_3
                  try clear hcz46_4
                  try clear hcz56_0
                  try clear hcz56_1
                  try clear hcz56_2
                  try clear hcz56_3
                  try clear hcz56_4
                  try clear hcz58_0
                  try clear hcz58_1
                  try clear hcz58_2
                  try clear hcz58_3
                  try clear hcz58_4
                  try clear hcz61_0
                  try clear hcz61_1
                  try clear hcz61_2
                  try clear hcz61_3
                  try clear hcz61_4
                  try clear hcz63_0
                  try clear hcz63_1
                  try clear hcz63_2
                  try clear hcz63_3
                  try clear hcz63_4
                  try clear hfz14_0
                  try clear hfz14_1
                  try clear hfz14_2
                  try clear hfz14_3
                  try clear hfz14_4
                  try clear hfz16_0
                  try clear hfz16_1
                  try clear hfz16_2
                  try clear hfz16_3
                  try clear hfz16_4
                  try clear hfz21_0
                  try clear hfz21_1
                  try clear hfz21_2
                  try clear hfz21_3
                  try clear hfz21_4
                  try clear hfz24_0
                  try clear hfz24_1
                  try clear hfz24_2
                  try clear hfz24_3
                  try clear hfz24_4
                  try clear hfz26_0
                  try clear hfz26_1
                  try clear hfz26_2
                  try clear hfz26_3
                  try clear hfz26_4
                  try clear hfz34_0
                  try clear hfz34_1
                  try clear hfz34_2
                  try clear hfz34_3
                  try clear hfz34_4
                  try clear hfz39_0
                  try clear hfz39_1
                  try clear hfz39_2
                  try clear hfz39_3
                  try clear hfz39_4
                  try clear hfz41_0
                  try clear hfz41_1
                  try clear hfz41_2
                  try clear hfz41_3
                  try clear hfz41_4
                  try clear hfz44_0
                  try clear hfz44_1
                  try clear hfz44_2
                  try clear hfz44_3
                  try clear hfz44_4
                  try clear hfz46_0
                  try clear hfz46_1
                  try clear hfz46_2
                  try clear hfz46_3
                  try clear hfz46_4
                  try clear hfz56_0
                  try clear hfz56_1
                  try clear hfz56_2
                  try clear hfz56_3
                  try clear hfz56_4
                  try clear hfz58_0
                  try clear hfz58_1
                  try clear hfz58_2
                  try clear hfz58_3
                  try clear hfz58_4
                  try clear hfz61_0
                  try clear hfz61_1
                  try clear hfz61_2
                  try clear hfz61_3
                  try clear hfz61_4
                  try clear hfz63_0
                  try clear hfz63_1
                  try clear hfz63_2
                  try clear hfz63_3
                  try clear hfz63_4
                  try clear p2
                  try clear q4
                  try clear q40
                  try clear q406
                  try clear q41
                  try clear q414
                  obtain ⟨kq, x104_47, rfl, HA, HJ47, HO_10, BK389, BK405, BK413, HB⟩ := hcut
                  cases kq with
                  | zero => exact absurd HA.out (by simp [paviorlaw09_AreaKeeps.j2])
                  | succ kj47 =>
                    have H := HA.out
                    clear HA
                    simp only [paviorlaw09_AreaKeeps.j2] at H
                    by_cases c64 : x104_47 = true
                    · subst c64
                      have H1 : (some false) = some r := by rw [if_pos rfl] at H; exact H
                      clear H
                      have H := H1
                      clear H1
                      obtain rfl := Option.some.inj H
                      go_wp2
                      go_ret
                      exact ⟨by first | rfl | (simp [errW_none, errW_some] <;> rfl) | (simp [*, errW_none, errW_some] <;> rfl), by repeat (first | (with_reducible first | exact HB.out | apply below_alloc | apply pw_below_drewN | apply below_drew1 | refine below_set ?_ GE389.out | refine below_set ?_ GE405.out | refine below_set ?_ GE413.out) | exact HB.out)⟩
                    · replace c64 := Bool.eq_false_iff.mpr c64
                      subst c64
                      have H1 : (if t396.isNone = true then ((area_Find.f kj47 t395 a2).bind fun bt418 => (if x14_10 = true then (if bt418.2.2.2.2.2.isNone = true then (paviorlaw09_AreaKeeps.j3 kj47 t390 t404 x14_10 none true t399 t400 t401 t402 t403 bt418.1 bt418.2.1 bt418.2.2.1 bt418.2.2.2.1 bt418.2.2.2.2.1) else (if (bt418.2.2.2.2.2.getD 0) = 3 then (paviorlaw09_AreaKeeps.j3 kj47 t390 t404 x14_10 (some (bt418.2.2.2.2.2.getD 0)) false t399 t400 t401 t402 t403 bt418.1 bt418.2.1 bt418.2.2.1 bt418.2.2.2.1 bt418.2.2.2.2.1) else (paviorlaw09_AreaKeeps.j3 kj47 t390 t404 x14_10 (some (bt418.2.2.2.2.2.getD 0)) true t399 t400 t401 t402 t403 bt418.1 bt418.2.1 bt418.2.2.1 bt418.2.2.2.1 bt418.2.2.2.2.1))) else (paviorlaw09_AreaKeeps.j3 kj47 t390 t404 x14_10 bt418.2.2.2.2.2 false t399 t400 t401 t402 t403 bt418.1 bt418.2.1 bt418.2.2.1 bt418.2.2.2.1 bt418.2.2.2.2.1))) else (some t390)) = some r := by rw [if_neg (show ¬ (false = true) by decide)] at H; exact H
                      clear H
                      have H := H1
                      clear H1
                      rcases t396 with _ | q417
                      · have H1 : ((area_Find.f kj47 t395 a2).bind fun bt418 => (if x14_10 = true then (if bt418.2.2.2.2.2.isNone = true then (paviorlaw09_AreaKeeps.j3 kj47 t390 t404 x14_10 none true t399 t400 t401 t402 t403 bt418.1 bt418.2.1 bt418.2.2.1 bt418.2.2.2.1 bt418.2.2.2.2.1) else (if (bt418.2.2.2.2.2.getD 0) = 3 then (paviorlaw09_AreaKeeps.j3 kj47 t390 t404 x14_10 (some (bt418.2.2.2.2.2.getD 0)) false t399 t400 t401 t402 t403 bt418.1 bt418.2.1 bt418.2.2.1 bt418.2.2.2.1 bt418.2.2.2.2.1) else (paviorlaw09_AreaKeeps.j3 kj47 t390 t404 x14_10 (some (bt418.2.2.2.2.2.getD 0)) true t399 t400 t401 t402 t403 bt418.1 bt418.2.1 bt418.2.2.1 bt418.2.2.2.1 bt418.2.2.2.2.1))) else (paviorlaw09_AreaKeeps.j3 kj47 t390 t404 x14_10 bt418.2.2.2.2.2 false t399 t400 t401 t402 t403 bt418.1 bt418.2.1 bt418.2.2.1 bt418.2.2.2.1 bt418.2.2.2.2.1))) = some r := by rw [if_pos (show (none : Option Int).isNone = true by rfl)] at H; exact H
                        clear H
                        have H := H1
                        clear H1
                        try simp only [errW_none, errW_some]
                        replace H := Option.bind_eq_some_iff.mp H
                        obtain ⟨⟨t418, t419, t420, t421, t422, t423⟩, A650, H⟩ := H
                        replace H : (if x14_10 = true then (if t423.isNone = true then (paviorlaw09_AreaKeeps.j3 kj47 t390 t404 x14_10 none true t399 t400 t401 t402 t403 t418 t419 t420 t421 t422) else (if (t423.getD 0) = 3 then (paviorlaw09_AreaKeeps.j3 kj47 t390 t404 x14_10 (some (t423.getD 0)) false t399 t400 t401 t402 t403 t418 t419 t420 t421 t422) else (paviorlaw09_AreaKeeps.j3 kj47 t390 t404 x14_10 (some (t423.getD 0)) true t399 t400 t401 t402 t403 t418 t419 t420 t421 t422))) else (paviorlaw09_AreaKeeps.j3 kj47 t390 t404 x14_10 t423 false t399 t400 t401 t402 t403 t418 t419 t420 t421 t422)) = some r := H
                        have A65 := Aside0.mk A650
                        clear A650
                        have HC66 := Aside0.mk H
                        clear H
                        obtain ⟨Ao67, co67, eo67⟩ := Kd.R_slice HO_10.out
                        subst eo67
                        go_upto_region 16 with (first | ((with_reducible refine gate_callee (f := 22) rfl ?_); refine goesL_ (some 110) rfl rfl Try.func22 (by kernel_rfl) rfl #[.slice Ao67 t395.length co67, .int .i64 a2] rfl (by (try simp only [List.map_toArray, List.map_cons, List.map_nil]); first | done | rfl | (simp only [List.length_drop, List.length_take]; rfl)) ?_; (with_reducible refine (area_Find.calls kj47 _ _ t395 a2 t418 t419 t420 t421 t422 t423 _ ?side1 ?side2 A65.out).mono ?_); (case side1 => repeat (first | exact (Kd.R_reads' HO_10.out).2.2 | (with_reducible refine Kd.C_alloc ?_ _) | (with_reducible refine Kd.C_drewN ?_ _) | (with_reducible refine Kd.C_drew ?_))); (case side2 => exact (Kd.R_reads' HO_10.out).2.1); rintro e w68 ⟨rfl, hb⟩; refine ⟨_, rfl, ?_⟩; have n0_ := Aside0.mk (Kd.R_below (by (with_reducible repeat (first | apply Kd.R_alloc | apply Kd.R_drewN | apply Kd.R_drew)); exact HO_10.out) hb); have n1_ := Aside0.mk (blk_below (g := gb389) (o := .cells #[.int .i64 a1_0, .int .i64 a1_1, .bool a1_2, .bool a1_3, .bool a1_4] 32 (0, 0)) (by (with_reducible repeat (first | refine blk_drewN ?_ _ | refine blk_drew ?_ | refine blk_alloc ?_ _)); exact BK389.out) hb); have n2_ := Aside0.mk (blk_below (g := gb405) (o := .cells #[.int .i64 t399, .int .i64 t400, .bool t401, .bool t402, .bool t403] 32 (0, 0)) (by (with_reducible repeat (first | refine blk_drewN ?_ _ | refine blk_drew ?_ | refine blk_alloc ?_ _)); exact BK405.out) hb); have n3_ := Aside0.mk (blk_below (g := gb413) (o := .cells #[.int .i64 t407, .int .i64 t408, .bool t409, .bool t410, .bool t411] 32 (0, 0)) (by (with_reducible repeat (first | refine blk_drewN ?_ _ | refine blk_drew ?_ | refine blk_alloc ?_ _)); exact BK413.out) hb); have n4_ := Aside0.mk (below_step (by repeat (first | (with_reducible first | exact HB.out | apply below_alloc | apply pw_below_drewN | apply below_drew1 | refine below_set ?_ GE389.out | refine below_set ?_ GE405.out | refine below_set ?_ GE413.out) | exact HB.out)) hb); clear HO_10; clear BK389; clear BK405; clear BK413; clear HB; have HO_10 := n0_; have BK389 := n1_; have BK405 := n2_; have BK413 := n3_; have HB := n4_; clear n0_ n1_ n2_ n3_ n4_; (try clear hb); (try clear hb2); (try clear hk); (try clear hi); (try simp only [errW_none, errW_some])) | ((with_reducible refine gate_dst (N := 17) rfl ?_); refine box_event ?hg (N := 17) ?hd (cs := #[.int .i64 0, .int .i64 0, .bool false, .bool false, .bool false]) (t := 32) ?hr ?_; (case hd => rfl); (case hg => rfl); (case hr => first | (go_simp; done) | (go_simp; rfl)); intro gb424 hg w69 hbox hb; have n0_ := Aside0.mk (Kd.R_below (Kd.R_elderB (by (with_reducible repeat (first | apply Kd.R_alloc | apply Kd.R_drewN | apply Kd.R_drew)); exact HO_10.out) gb424 (Nat.le_of_eq hg.symm)) hb); have n1_ := Aside0.mk (blk_below (g := gb389) (o := .cells #[.int .i64 a1_0, .int .i64 a1_1, .bool a1_2, .bool a1_3, .bool a1_4] 32 (0, 0)) (by (with_reducible repeat (first | refine blk_drewN ?_ _ | refine blk_drew ?_ | refine blk_alloc ?_ _)); exact BK389.out) hb); have n2_ := Aside0.mk (blk_below (g := gb405) (o := .cells #[.int .i64 t399, .int .i64 t400, .bool t401, .bool t402, .bool t403] 32 (0, 0)) (by (with_reducible repeat (first | refine blk_drewN ?_ _ | refine blk_drew ?_ | refine blk_alloc ?_ _)); exact BK405.out) hb); have n3_ := Aside0.mk (blk_below (g := gb413) (o := .cells #[.int .i64 t407, .int .i64 t408, .bool t409, .bool t410, .bool t411] 32 (0, 0)) (by (with_reducible repeat (first | refine blk_drewN ?_ _ | refine blk_drew ?_ | refine blk_alloc ?_ _)); exact BK413.out) hb); have n4_ := Aside0.mk (below_step (by repeat (first | (with_reducible first | exact HB.out | apply below_alloc | apply pw_below_drewN | apply below_drew1 | refine below_set ?_ GE389.out | refine below_set ?_ GE405.out | refine below_set ?_ GE413.out) | exact HB.out)) hb); have n5_ := Aside0.mk (hbox); have n6_ := Aside0.mk ((by rw [hg]; exact (below_size (by repeat (first | (with_reducible first | exact HB.out | apply below_alloc | apply pw_below_drewN | apply below_drew1 | refine below_set ?_ GE389.out | refine below_set ?_ GE405.out | refine below_set ?_ GE413.out) | exact HB.out))) : w.heap.size ≤ gb424)); have n7_ := Aside0.mk ((by rw [hg]; exact (below_size (by repeat (first | (with_reducible first | exact HB.out | apply below_alloc | apply pw_below_drewN | apply below_drew1 | refine below_set ?_ GE389.out | refine below_set ?_ GE405.out | refine below_set ?_ GE413.out) | exact HB.out))) : w.heap.size ≤ gb424)); have n8_ := Aside0.mk ((by rw [hg]; exact Nat.ne_of_lt (blk_lt (g := gb389) (o := .cells #[.int .i64 a1_0, .int .i64 a1_1, .bool a1_2, .bool a1_3, .bool a1_4] 32 (0, 0)) (by (with_reducible repeat (first | refine blk_drewN ?_ _ | refine blk_drew ?_ | refine blk_alloc ?_ _)); exact BK389.out)) : gb389 ≠ gb424)); have n9_ := Aside0.mk ((by rw [hg]; exact Nat.ne_of_gt (blk_lt (g := gb389) (o := .cells #[.int .i64 a1_0, .int .i64 a1_1, .bool a1_2, .bool a1_3, .bool a1_4] 32 (0, 0)) (by (with_reducible repeat (first | refine blk_drewN ?_ _ | refine blk_drew ?_ | refine blk_alloc ?_ _)); exact BK389.out)) : gb424 ≠ gb389)); have n10_ := Aside0.mk ((by rw [hg]; exact Nat.ne_of_lt (blk_lt (g := gb405) (o := .cells #[.int .i64 t399, .int .i64 t400, .bool t401, .bool t402, .bool t403] 32 (0, 0)) (by (with_reducible repeat (first | refine blk_drewN ?_ _ | refine blk_drew ?_ | refine blk_alloc ?_ _)); exact BK405.out)) : gb405 ≠ gb424)); have n11_ := Aside0.mk ((by rw [hg]; exact Nat.ne_of_gt (blk_lt (g := gb405) (o := .cells #[.int .i64 t399, .int .i64 t400, .bool t401, .bool t402, .bool t403] 32 (0, 0)) (by (with_reducible repeat (first | refine blk_drewN ?_ _ | refine blk_drew ?_ | refine blk_alloc ?_ _)); exact BK405.out)) : gb424 ≠ gb405)); have n12_ := Aside0.mk ((by rw [hg]; exact Nat.ne_of_lt (blk_lt (g := gb413) (o := .cells #[.int .i64 t407, .int .i64 t408, .bool t409, .bool t410, .bool t411] 32 (0, 0)) (by (with_reducible repeat (first | refine blk_drewN ?_ _ | refine blk_drew ?_ | refine blk_alloc ?_ _)); exact BK413.out)) : gb413 ≠ gb424)); have n13_ := Aside0.mk ((by rw [hg]; exact Nat.ne_of_gt (blk_lt (g := gb413) (o := .cells #[.int .i64 t407, .int .i64 t408, .bool t409, .bool t410, .bool t411] 32 (0, 0)) (by (with_reducible repeat (first | refine blk_drewN ?_ _ | refine blk_drew ?_ | refine blk_alloc ?_ _)); exact BK413.out)) : gb424 ≠ gb413)); clear HO_10; clear BK389; clear BK405; clear BK413; clear HB; have HO_10 := n0_; have BK389 := n1_; have BK405 := n2_; have BK413 := n3_; have HB := n4_; have BK424 := n5_; have GW424 := n6_; have GE424 := n7_; have NB389_424 := n8_; have NB424_389 := n9_; have NB405_424 := n10_; have NB424_405 := n11_; have NB413_424 := n12_; have NB424_413 := n13_; clear n0_ n1_ n2_ n3_ n4_ n5_ n6_ n7_ n8_ n9_ n10_ n11_ n12_ n13_; clear hb hbox hg; have hnb70 := NB424_389.out; have hnc70 := NB389_424.out; have hnb71 := NB424_405.out; have hnc71 := NB405_424.out; have hnb72 := NB424_413.out; have hnc72 := NB413_424.out; have hcz73_0 : w69.cell? ⟨gb424, 0, none⟩ = some (.int .i64 0) := (blk_cell BK424.out 0).trans rfl; have hcz73_1 : w69.cell? ⟨gb424, 1, none⟩ = some (.int .i64 0) := (blk_cell BK424.out 1).trans rfl; have hcz73_2 : w69.cell? ⟨gb424, 2, none⟩ = some (.bool false) := (blk_cell BK424.out 2).trans rfl; have hcz73_3 : w69.cell? ⟨gb424, 3, none⟩ = some (.bool false) := (blk_cell BK424.out 3).trans rfl; have hcz73_4 : w69.cell? ⟨gb424, 4, none⟩ = some (.bool false) := (blk_cell BK424.out 4).trans rfl; have hfz73_0 := blk_frozen BK424.out 0; have hfz73_1 := blk_frozen BK424.out 1; have hfz73_2 := blk_frozen BK424.out 2; have hfz73_3 := blk_frozen BK424.out 3; have hfz73_4 := blk_frozen BK424.out 4))
                        (try simp only [Act.put, List.setIfInBounds_toArray, List.set_cons_zero, List.set_cons_succ])
                        go_cut [118] (fun v118 wc => ∃ (kq : Nat) (x118_65 : Bool), v118 = .bool x118_65 ∧ Aside0 (paviorlaw09_AreaKeeps.j3 kq t390 t404 x14_10 t423 x118_65 t399 t400 t401 t402 t403 t418 t419 t420 t421 t422 = some r) ∧ Aside0 (kq ≤ kj47) ∧ Aside0 (wc.heap[gb389]? = some (.cells #[.int .i64 a1_0, .int .i64 a1_1, .bool a1_2, .bool a1_3, .bool a1_4] 32 (0, 0))) ∧ Aside0 (wc.heap[gb405]? = some (.cells #[.int .i64 t399, .int .i64 t400, .bool t401, .bool t402, .bool t403] 32 (0, 0))) ∧ Aside0 (wc.heap[gb413]? = some (.cells #[.int .i64 t407, .int .i64 t408, .bool t409, .bool t410, .bool t411] 32 (0, 0))) ∧ Aside0 (wc.heap[gb424]? = some (.cells #[.int .i64 t418, .int .i64 t419, .bool t420, .bool t421, .bool t422] 32 (0, 0))) ∧ Aside0 (Below w.heap.size w wc))
                        case first =>
                          have H := HC66.out
                          clear HC66
                          by_cases c74 : x14_10 = true
                          · subst c74
                            have H1 : (if t423.isNone = true then (paviorlaw09_AreaKeeps.j3 kj47 t390 t404 true none true t399 t400 t401 t402 t403 t418 t419 t420 t421 t422) else (if (t423.getD 0) = 3 then (paviorlaw09_AreaKeeps.j3 kj47 t390 t404 true (some (t423.getD 0)) false t399 t400 t401 t402 t403 t418 t419 t420 t421 t422) else (paviorlaw09_AreaKeeps.j3 kj47 t390 t404 true (some (t423.getD 0)) true t399 t400 t401 t402 t403 t418 t419 t420 t421 t422))) = some r := by rw [if_pos rfl] at H; exact H
                            clear H
                            have H := H1
                            clear H1
                            rcases t423 with _ | q425
                            · have H1 : (paviorlaw09_AreaKeeps.j3 kj47 t390 t404 true none true t399 t400 t401 t402 t403 t418 t419 t420 t421 t422) = some r := by rw [if_pos (show (none : Option Int).isNone = true by rfl)] at H; exact H
                              clear H
                              have H := H1
                              clear H1
                              try simp only [errW_none, errW_some]
                              have H' := Aside0.mk H
                              clear H
                              go_wp2
                              go_meet
                              case rel => exact ⟨_, (true), (by first | rfl | (simp; done) | (simp [*]; done)), H', ⟨by have := HJ10.out; have := HJ27.out; have := HJ47.out; first | omega | exact Nat.le_refl _⟩, ⟨by (with_reducible repeat (first | refine blk_drewN ?_ _ | refine blk_drew ?_ | refine blk_alloc ?_ _)); refine blk_far ?_ NB389_424.out _; (with_reducible repeat (first | refine blk_drewN ?_ _ | refine blk_drew ?_ | refine blk_alloc ?_ _)); refine blk_far ?_ NB389_424.out _; (with_reducible repeat (first | refine blk_drewN ?_ _ | refine blk_drew ?_ | refine blk_alloc ?_ _)); refine blk_far ?_ NB389_424.out _; (with_reducible repeat (first | refine blk_drewN ?_ _ | refine blk_drew ?_ | refine blk_alloc ?_ _)); refine blk_far ?_ NB389_424.out _; (with_reducible repeat (first | refine blk_drewN ?_ _ | refine blk_drew ?_ | refine blk_alloc ?_ _)); refine blk_far ?_ NB389_424.out _; (with_reducible repeat (first | refine blk_drewN ?_ _ | refine blk_drew ?_ | refine blk_alloc ?_ _)); exact BK389.out⟩, ⟨by (with_reducible repeat (first | refine blk_drewN ?_ _ | refine blk_drew ?_ | refine blk_alloc ?_ _)); refine blk_far ?_ NB405_424.out _; (with_reducible repeat (first | refine blk_drewN ?_ _ | refine blk_drew ?_ | refine blk_alloc ?_ _)); refine blk_far ?_ NB405_424.out _; (with_reducible repeat (first | refine blk_drewN ?_ _ | refine blk_drew ?_ | refine blk_alloc ?_ _)); refine blk_far ?_ NB405_424.out _; (with_reducible repeat (first | refine blk_drewN ?_ _ | refine blk_drew ?_ | refine blk_alloc ?_ _)); refine blk_far ?_ NB405_424.out _; (with_reducible repeat (first | refine blk_drewN ?_ _ | refine blk_drew ?_ | refine blk_alloc ?_ _)); refine blk_far ?_ NB405_424.out _; (with_reducible repeat (first | refine blk_drewN ?_ _ | refine blk_drew ?_ | refine blk_alloc ?_ _)); exact BK405.out⟩, ⟨by (with_reducible repeat (first | refine blk_drewN ?_ _ | refine blk_drew ?_ | refine blk_alloc ?_ _)); refine blk_far ?_ NB413_424.out _; (with_reducible repeat (first | refine blk_drewN ?_ _ | refine blk_drew ?_ | refine blk_alloc ?_ _)); refine blk_far ?_ NB413_424.out _; (with_reducible repeat (first | refine blk_drewN ?_ _ | refine blk_drew ?_ | refine blk_alloc ?_ _)); refine blk_far ?_ NB413_424.out _; (with_reducible repeat (first | refine blk_drewN ?_ _ | refine blk_drew ?_ | refine blk_alloc ?_ _)); refine blk_far ?_ NB413_424.out _; (with_reducible repeat (first | refine blk_drewN ?_ _ | refine blk_drew ?_ | refine blk_alloc ?_ _)); refine blk_far ?_ NB413_424.out _; (with_reducible repeat (first | refine blk_drewN ?_ _ | refine blk_drew ?_ | refine blk_alloc ?_ _)); exact BK413.out⟩, ⟨by (with_reducible repeat (first | refine blk_drewN ?_ _ | refine blk_drew ?_ | refine blk_alloc ?_ _)); refine blk_put (cs := #[.int .i64 t418, .int .i64 t419, .bool t420, .bool t421, .bool false]) ?_ 4 _ rfl; (with_reducible repeat (first | refine blk_drewN ?_ _ | refine blk_drew ?_ | refine blk_alloc ?_ _)); refine blk_put (cs := #[.int .i64 t418, .int .i64 t419, .bool t420, .bool false, .bool false]) ?_ 3 _ rfl; (with_reducible repeat (first | refine blk_drewN ?_ _ | refine blk_drew ?_ | refine blk_alloc ?_ _)); refine blk_put (cs := #[.int .i64 t418, .int .i64 t419, .bool false, .bool false, .bool false]) ?_ 2 _ rfl; (with_reducible repeat (first | refine blk_drewN ?_ _ | refine blk_drew ?_ | refine blk_alloc ?_ _)); refine blk_put (cs := #[.int .i64 t418, .int .i64 0, .bool false, .bool false, .bool false]) ?_ 1 _ rfl; (with_reducible repeat (first | refine blk_drewN ?_ _ | refine blk_drew ?_ | refine blk_alloc ?_ _)); refine blk_put (cs := #[.int .i64 0, .int .i64 0, .bool false, .bool false, .bool false]) ?_ 0 _ rfl; (with_reducible repeat (first | refine blk_drewN ?_ _ | refine blk_drew ?_ | refine blk_alloc ?_ _)); exact BK424.out⟩, ⟨by repeat (first | (with_reducible first | exact HB.out | apply below_alloc | apply pw_below_drewN | apply below_drew1 | refine below_set ?_ GE389.out | refine below_set ?_ GE405.out | refine below_set ?_ GE413.out | refine below_set ?_ GE424.out) | exact HB.out)⟩⟩
                            · have H1 : (if q425 = 3 then (paviorlaw09_AreaKeeps.j3 kj47 t390 t404 true (some q425) false t399 t400 t401 t402 t403 t418 t419 t420 t421 t422) else (paviorlaw09_AreaKeeps.j3 kj47 t390 t404 true (some q425) true t399 t400 t401 t402 t403 t418 t419 t420 t421 t422)) = some r := by rw [if_neg (show ¬ (some q425).isNone = true by simp)] at H; exact H
                              clear H
                              have H := H1
                              clear H1
                              try simp only [errW_none, errW_some]
                              by_cases c75 : q425 = 3
                              · rw [if_pos c75] at H
                                have c75b0 : (q425 == 3) = true := beq_iff_eq.mpr c75
                                have c75b1 : (q425 != 3) = false := bne_eq_false_iff_eq.mpr c75
                                clear c75
                                (first | rw [c75b0] | (simp only [i64_w, i32_w]; rw [c75b0]) | skip)
                                have H' := Aside0.mk H
                                clear H
                                go_wp2
                                go_meet
                                case rel => exact ⟨_, (false), (by first | rfl | (simp; done) | (simp [*]; done)), H', ⟨by have := HJ10.out; have := HJ27.out; have := HJ47.out; first | omega | exact Nat.le_refl _⟩, ⟨by (with_reducible repeat (first | refine blk_drewN ?_ _ | refine blk_drew ?_ | refine blk_alloc ?_ _)); refine blk_far ?_ NB389_424.out _; (with_reducible repeat (first | refine blk_drewN ?_ _ | refine blk_drew ?_ | refine blk_alloc ?_ _)); refine blk_far ?_ NB389_424.out _; (with_reducible repeat (first | refine blk_drewN ?_ _ | refine blk_drew ?_ | refine blk_alloc ?_ _)); refine blk_far ?_ NB389_424.out _; (with_reducible repeat (first | refine blk_drewN ?_ _ | refine blk_drew ?_ | refine blk_alloc ?_ _)); refine blk_far ?_ NB389_424.out _; (with_reducible repeat (first | refine blk_drewN ?_ _ | refine blk_drew ?_ | refine blk_alloc ?_ _)); refine blk_far ?_ NB389_424.out _; (with_reducible repeat (first | refine blk_drewN ?_ _ | refine blk_drew ?_ | refine blk_alloc ?_ _)); exact BK389.out⟩, ⟨by (with_reducible repeat (first | refine blk_drewN ?_ _ | refine blk_drew ?_ | refine blk_alloc ?_ _)); refine blk_far ?_ NB405_424.out _; (with_reducible repeat (first | refine blk_drewN ?_ _ | refine blk_drew ?_ | refine blk_alloc ?_ _)); refine blk_far ?_ NB405_424.out _; (with_reducible repeat (first | refine blk_drewN ?_ _ | refine blk_drew ?_ | refine blk_alloc ?_ _)); refine blk_far ?_ NB405_424.out _; (with_reducible repeat (first | refine blk_drewN ?_ _ | refine blk_drew ?_ | refine blk_alloc ?_ _)); refine blk_far ?_ NB405_424.out _; (with_reducible repeat (first | refine blk_drewN ?_ _ | refine blk_drew ?_ | refine blk_alloc ?_ _)); refine blk_far ?_ NB405_424.out _; (with_reducible repeat (first | refine blk_drewN ?_ _ | refine blk_drew ?_ | refine blk_alloc ?_ _)); exact BK405.out⟩, ⟨by (with_reducible repeat (first | refine blk_drewN ?_ _ | refine blk_drew ?_ | refine blk_alloc ?_ _)); refine blk_far ?_ NB413_424.out _; (with_reducible repeat (first | refine blk_drewN ?_ _ | refine blk_drew ?_ | refine blk_alloc ?_ _)); refine blk_far ?_ NB413_424.out _; (with_reducible repeat (first | refine blk_drewN ?_ _ | refine blk_drew ?_ | refine blk_alloc ?_ _)); refine blk_far ?_ NB413_424.out _; (with_reducible repeat (first | refine blk_drewN ?_ _ | refine blk_drew ?_ | refine blk_alloc ?_ _)); refine blk_far ?_ NB413_424.out _; (with_reducible repeat (first | refine blk_drewN ?_ _ | refine blk_drew ?_ | refine blk_alloc ?_ _)); refine blk_far ?_ NB413_424.out _; (with_reducible repeat (first | refine blk_drewN ?_ _ | refine blk_drew ?_ | refine blk_alloc ?_ _)); exact BK413.out⟩, ⟨by (with_reducible repeat (first | refine blk_drewN ?_ _ | refine blk_drew ?_ | refine blk_alloc ?_ _)); refine blk_put (cs := #[.int .i64 t418, .int .i64 t419, .bool t420, .bool t421, .bool false]) ?_ 4 _ rfl; (with_reducible repeat (first | refine blk_drewN ?_ _ | refine blk_drew ?_ | refine blk_alloc ?_ _)); refine blk_put (cs := #[.int .i64 t418, .int .i64 t419, .bool t420, .bool false, .bool false]) ?_ 3 _ rfl; (with_reducible repeat (first | refine blk_drewN ?_ _ | refine blk_drew ?_ | refine blk_alloc ?_ _)); refine blk_put (cs := #[.int .i64 t418, .int .i64 t419, .bool false, .bool false, .bool false]) ?_ 2 _ rfl; (with_reducible repeat (first | refine blk_drewN ?_ _ | refine blk_drew ?_ | refine blk_alloc ?_ _)); refine blk_put (cs := #[.int .i64 t418, .int .i64 0, .bool false, .bool false, .bool false]) ?_ 1 _ rfl; (with_reducible repeat (first | refine blk_drewN ?_ _ | refine blk_drew ?_ | refine blk_alloc ?_ _)); refine blk_put (cs := #[.int .i64 0, .int .i64 0, .bool false, .bool false, .bool false]) ?_ 0 _ rfl; (with_reducible repeat (first | refine blk_drewN ?_ _ | refine blk_drew ?_ | refine blk_alloc ?_ _)); exact BK424.out⟩, ⟨by repeat (first | (with_reducible first | exact HB.out | apply below_alloc | apply pw_below_drewN | apply below_drew1 | refine below_set ?_ GE389.out | refine below_set ?_ GE405.out | refine below_set ?_ GE413.out | refine below_set ?_ GE424.out) | exact HB.out)⟩⟩
                              · rw [if_neg c75] at H
                                have c75b0 : (q425 == 3) = false := beq_eq_false_iff_ne.mpr c75
                                have c75b1 : (q425 != 3) = true := bne_iff_ne.mpr c75
                                (first | rw [c75b0] | (simp only [i64_w, i32_w]; rw [c75b0]) | skip)
                                have H' := Aside0.mk H
                                clear H
                                go_wp2
                                go_meet
                                case rel => exact ⟨_, (true), (by first | rfl | (simp; done) | (simp [*]; done)), H', ⟨by have := HJ10.out; have := HJ27.out; have := HJ47.out; first | omega | exact Nat.le_refl _⟩, ⟨by (with_reducible repeat (first | refine blk_drewN ?_ _ | refine blk_drew ?_ | refine blk_alloc ?_ _)); refine blk_far ?_ NB389_424.out _; (with_reducible repeat (first | refine blk_drewN ?_ _ | refine blk_drew ?_ | refine blk_alloc ?_ _)); refine blk_far ?_ NB389_424.out _; (with_reducible repeat (first | refine blk_drewN ?_ _ | refine blk_drew ?_ | refine blk_alloc ?_ _)); refine blk_far ?_ NB389_424.out _; (with_reducible repeat (first | refine blk_drewN ?_ _ | refine blk_drew ?_ | refine blk_alloc ?_ _)); refine blk_far ?_ NB389_424.out _; (with_reducible repeat (first | refine blk_drewN ?_ _ | refine blk_drew ?_ | refine blk_alloc ?_ _)); refine blk_far ?_ NB389_424.out _; (with_reducible repeat (first | refine blk_drewN ?_ _ | refine blk_drew ?_ | refine blk_alloc ?_ _)); exact BK389.out⟩, ⟨by (with_reducible repeat (first | refine blk_drewN ?_ _ | refine blk_drew ?_ | refine blk_alloc ?_ _)); refine blk_far ?_ NB405_424.out _; (with_reducible repeat (first | refine blk_drewN ?_ _ | refine blk_drew ?_ | refine blk_alloc ?_ _)); refine blk_far ?_ NB405_424.out _; (with_reducible repeat (first | refine blk_drewN ?_ _ | refine blk_drew ?_ | refine blk_alloc ?_ _)); refine blk_far ?_ NB405_424.out _; (with_reducible repeat (first | refine blk_drewN ?_ _ | refine blk_drew ?_ | refine blk_alloc ?_ _)); refine blk_far ?_ NB405_424.out _; (with_reducible repeat (first | refine blk_drewN ?_ _ | refine blk_drew ?_ | refine blk_alloc ?_ _)); refine blk_far ?_ NB405_424.out _; (with_reducible repeat (first | refine blk_drewN ?_ _ | refine blk_drew ?_ | refine blk_alloc ?_ _)); exact BK405.out⟩, ⟨by (with_reducible repeat (first | refine blk_drewN ?_ _ | refine blk_drew ?_ | refine blk_alloc ?_ _)); refine blk_far ?_ NB413_424.out _; (with_reducible repeat (first | refine blk_drewN ?_ _ | refine blk_drew ?_ | refine blk_alloc ?_ _)); refine blk_far ?_ NB413_424.out _; (with_reducible repeat (first | refine blk_drewN ?_ _ | refine blk_drew ?_ | refine blk_alloc ?_ _)); refine blk_far ?_ NB413_424.out _; (with_reducible repeat (first | refine blk_drewN ?_ _ | refine blk_drew ?_ | refine blk_alloc ?_ _)); refine blk_far ?_ NB413_424.out _; (with_reducible repeat (first | refine blk_drewN ?_ _ | refine blk_drew ?_ | refine blk_alloc ?_ _)); refine blk_far ?_ NB413_424.out _; (with_reducible repeat (first | refine blk_drewN ?_ _ | refine blk_drew ?_ | refine blk_alloc ?_ _)); exact BK413.out⟩, ⟨by (with_reducible repeat (first | refine blk_drewN ?_ _ | refine blk_drew ?_ | refine blk_alloc ?_ _)); refine blk_put (cs := #[.int .i64 t418, .int .i64 t419, .bool t420, .bool t421, .bool false]) ?_ 4 _ rfl; (with_reducible repeat (first | refine blk_drewN ?_ _ | refine blk_drew ?_ | refine blk_alloc ?_ _)); refine blk_put (cs := #[.int .i64 t418, .int .i64 t419, .bool t420, .bool false, .bool false]) ?_ 3 _ rfl; (with_reducible repeat (first | refine blk_drewN ?_ _ | refine blk_drew ?_ | refine blk_alloc ?_ _)); refine blk_put (cs := #[.int .i64 t418, .int .i64 t419, .bool false, .bool false, .bool false]) ?_ 2 _ rfl; (with_reducible repeat (first | refine blk_drewN ?_ _ | refine blk_drew ?_ | refine blk_alloc ?_ _)); refine blk_put (cs := #[.int .i64 t418, .int .i64 0, .bool false, .bool false, .bool false]) ?_ 1 _ rfl; (with_reducible repeat (first | refine blk_drewN ?_ _ | refine blk_drew ?_ | refine blk_alloc ?_ _)); refine blk_put (cs := #[.int .i64 0, .int .i64 0, .bool false, .bool false, .bool false]) ?_ 0 _ rfl; (with_reducible repeat (first | refine blk_drewN ?_ _ | refine blk_drew ?_ | refine blk_alloc ?_ _)); exact BK424.out⟩, ⟨by repeat (first | (with_reducible first | exact HB.out | apply below_alloc | apply pw_below_drewN | apply below_drew1 | refine below_set ?_ GE389.out | refine below_set ?_ GE405.out | refine below_set ?_ GE413.out | refine below_set ?_ GE424.out) | exact HB.out)⟩⟩
                          · replace c74 := Bool.eq_false_iff.mpr c74
                            subst c74
                            have H1 : (paviorlaw09_AreaKeeps.j3 kj47 t390 t404 false t423 false t399 t400 t401 t402 t403 t418 t419 t420 t421 t422) = some r := by rw [if_neg (show ¬ (false = true) by decide)] at H; exact H
                            clear H
                            have H := H1
                            clear H1
                            have H' := Aside0.mk H
                            clear H
                            go_wp2
                            go_meet
                            case rel => exact ⟨_, (false), (by first | rfl | (simp; done) | (simp [*]; done)), H', ⟨by have := HJ10.out; have := HJ27.out; have := HJ47.out; first | omega | exact Nat.le_refl _⟩, ⟨by (with_reducible repeat (first | refine blk_drewN ?_ _ | refine blk_drew ?_ | refine blk_alloc ?_ _)); refine blk_far ?_ NB389_424.out _; (with_reducible repeat (first | refine blk_drewN ?_ _ | refine blk_drew ?_ | refine blk_alloc ?_ _)); refine blk_far ?_ NB389_424.out _; (with_reducible repeat (first | refine blk_drewN ?_ _ | refine blk_drew ?_ | refine blk_alloc ?_ _)); refine blk_far ?_ NB389_424.out _; (with_reducible repeat (first | refine blk_drewN ?_ _ | refine blk_drew ?_ | refine blk_alloc ?_ _)); refine blk_far ?_ NB389_424.out _; (with_reducible repeat (first | refine blk_drewN ?_ _ | refine blk_drew ?_ | refine blk_alloc ?_ _)); refine blk_far ?_ NB389_424.out _; (with_reducible repeat (first | refine blk_drewN ?_ _ | refine blk_drew ?_ | refine blk_alloc ?_ _)); exact BK389.out⟩, ⟨by (with_reducible repeat (first | refine blk_drewN ?_ _ | refine blk_drew ?_ | refine blk_alloc ?_ _)); refine blk_far ?_ NB405_424.out _; (with_reducible repeat (first | refine blk_drewN ?_ _ | refine blk_drew ?_ | refine blk_alloc ?_ _)); refine blk_far ?_ NB405_424.out _; (with_reducible repeat (first | refine blk_drewN ?_ _ | refine blk_drew ?_ | refine blk_alloc ?_ _)); refine blk_far ?_ NB405_424.out _; (with_reducible repeat (first | refine blk_drewN ?_ _ | refine blk_drew ?_ | refine blk_alloc ?_ _)); refine blk_far ?_ NB405_424.out _; (with_reducible repeat (first | refine blk_drewN ?_ _ | refine blk_drew ?_ | refine blk_alloc ?_ _)); refine blk_far ?_ NB405_424.out _; (with_reducible repeat (first | refine blk_drewN ?_ _ | refine blk_drew ?_ | refine blk_alloc ?_ _)); exact BK405.out⟩, ⟨by (with_reducible repeat (first | refine blk_drewN ?_ _ | refine blk_drew ?_ | refine blk_alloc ?_ _)); refine blk_far ?_ NB413_424.out _; (with_reducible repeat (first | refine blk_drewN ?_ _ | refine blk_drew ?_ | refine blk_alloc ?_ _)); refine blk_far ?_ NB413_424.out _; (with_reducible repeat (first | refine blk_drewN ?_ _ | refine blk_drew ?_ | refine blk_alloc ?_ _)); refine blk_far ?_ NB413_424.out _; (with_reducible repeat (first | refine blk_drewN ?_ _ | refine blk_drew ?_ | refine blk_alloc ?_ _)); refine blk_far ?_ NB413_424.out _; (with_reducible repeat (first | refine blk_drewN ?_ _ | refine blk_drew ?_ | refine blk_alloc ?_ _)); refine blk_far ?_ NB413_424.out _; (with_reducible repeat (first | refine blk_drewN ?_ _ | refine blk_drew ?_ | refine blk_alloc ?_ _)); exact BK413.out⟩, ⟨by (with_reducible repeat (first | refine blk_drewN ?_ _ | refine blk_drew ?_ | refine blk_alloc ?_ _)); refine blk_put (cs := #[.int .i64 t418, .int .i64 t419, .bool t420, .bool t421, .bool false]) ?_ 4 _ rfl; (with_reducible repeat (first | refine blk_drewN ?_ _ | refine blk_drew ?_ | refine blk_alloc ?_ _)); refine blk_put (cs := #[.int .i64 t418, .int .i64 t419, .bool t420, .bool false, .bool false]) ?_ 3 _ rfl; (with_reducible repeat (first | refine blk_drewN ?_ _ | refine blk_drew ?_ | refine blk_alloc ?_ _)); refine blk_put (cs := #[.int .i64 t418, .int .i64 t419, .bool false, .bool false, .bool false]) ?_ 2 _ rfl; (with_reducible repeat (first | refine blk_drewN ?_ _ | refine blk_drew ?_ | refine blk_alloc ?_ _)); refine blk_put (cs := #[.int .i64 t418, .int .i64 0, .bool false, .bool false, .bool false]) ?_ 1 _ rfl; (with_reducible repeat (first | refine blk_drewN ?_ _ | refine blk_drew ?_ | refine blk_alloc ?_ _)); refine blk_put (cs := #[.int .i64 0, .int .i64 0, .bool false, .bool false, .bool false]) ?_ 0 _ rfl; (with_reducible repeat (first | refine blk_drewN ?_ _ | refine blk_drew ?_ | refine blk_alloc ?_ _)); exact BK424.out⟩, ⟨by repeat (first | (with_reducible first | exact HB.out | apply below_alloc | apply pw_below_drewN | apply below_drew1 | refine below_set ?_ GE389.out | refine below_set ?_ GE405.out | refine below_set ?_ GE413.out | refine below_set ?_ GE424.out) | exact HB.out)⟩⟩
                        case rest =>
                          clear HC66
                          try clear c1
                          try clear c2
                          try clear p2
                          try clear c3
                          try clear c4
                          try clear q4
                          try clear c5
                          try clear c5b0
                          try clear c5b1
                          try clear c6
                          try clear c7
                          try clear c8
                          try clear c12
                          try clear c15
                          try clear c16
                          try clear c20
                          try clear c22
                          try clear c22b0
                          try clear c23
                          try clear c25
                          try clear c32
                          try clear c33
                          try clear c35
                          try clear c36
                          try clear c36b0
                          try clear c37
                          try clear c38
                          try clear c40
                          try clear q40
                          try clear q41
                          try clear c42
                          try clear q42
                          try clear c43
                          try clear c45
                          try clear c47
                          try clear c49
                          try clear c52
                          try clear c52b0
                          try clear c52b1
                          try clear c53
                          try clear c53b0
                          try clear c54
                          try clear c55
                          try clear c57
                          try clear c59
                          try clear c60
                          try clear c62
                          try clear c64
                          try clear c70
                          try clear c71
                          try clear c72
                          try clear c74
                          try clear c75
                          try clear c75b0
                          try clear c75b1
                          try clear hcz14_0
                          try clear hcz14_1
                          try clear hcz14_2
                          try clear hcz14_3
                          try clear hcz14_4
                          try clear hcz16_0
                          try clear hcz16_1
                          try clear hcz16_2
                          try clear hcz16_3
                          try clear hcz16_4
                          try clear hcz21_0
                          try clear hcz21_1
                          try clear hcz21_2
                          try clear hcz21_3
                          try clear hcz21_4
                          try clear hcz24_0
                          try clear hcz24_1
                          try clear hcz24_2
                          try clear hcz24_3
                          try clear hcz24_4
                          try clear hcz26_0
                          try clear hcz26_1
                          try clear hcz26_2
                          try clear hcz26_3
                          try clear hcz26_4
                          try clear hcz34_0
                          try clear hcz34_1
                          try clear hcz34_2
                          try clear hcz34_3
                          try clear hcz34_4
                          try clear hcz39_0
                          try clear hcz39_1
                          try clear hcz39_2
                          try clear hcz39_3
                          try clear hcz39_4
                          try clear hcz41_0
                          try clear hcz41_1
                          try clear hcz41_2
                          try clear hcz41_3
                          try clear hcz41_4
                          try clear hcz44_0
                          try clear hcz44_1
                          try clear hcz44_2
                          try clear hcz44_3
                          try clear hcz44_4
                          try clear hcz46_0
                          try clear hcz46_1
                          try clear hcz46_2
                          try clear hcz46_3
                          try clear hcz46_4
                          try clear hcz56_0
                          try clear hcz56_1
                          try clear hcz56_2
                          try clear hcz56_3
                          try clear hcz56_4
                          try clear hcz58_0
                          try clear hcz58_1
                          try clear hcz58_2
                          try clear hcz58_3
                          try clear hcz58_4
                          try clear hcz61_0
                          try clear hcz61_1
                          try clear hcz61_2
                          try clear hcz61_3
                          try clear hcz61_4
                          try clear hcz63_0
                          try clear hcz63_1
                          try clear hcz63_2
                          try clear hcz63_3
                          try clear hcz63_4
                          try clear hcz73_0
                          try clear hcz73_1
                          try clear hcz73_2
                          try clear hcz73_3
                          try clear hcz73_4
                          try clear hfz14_0
                          try clear hfz14_1
                          try clear hfz14_2
                          try clear hfz14_3
                          try clear hfz14_4
                          try clear hfz16_0
                          try clear hfz16_1
                          try clear hfz16_2
                          try clear hfz16_3
                          try clear hfz16_4
                          try clear hfz21_0
                          try clear hfz21_1
                          try clear hfz21_2
                          try clear hfz21_3
                          try clear hfz21_4
                          try clear hfz24_0
                          try clear hfz24_1
                          try clear hfz24_2
                          try clear hfz24_3
                          try clear hfz24_4
                          try clear hfz26_0
                          try clear hfz26_1
                          try clear hfz26_2
                          try clear hfz26_3
                          try clear hfz26_4
                          try clear hfz34_0
                          try clear hfz34_1
                          try clear hfz34_2
                          try clear hfz34_3
                          try clear hfz34_4
                          try clear hfz39_0
                          try clear hfz39_1
                          try clear hfz39_2
                          try clear hfz39_3
                          try clear hfz39_4
                          try clear hfz41_0
                          try clear hfz41_1
                          try clear hfz41_2
                          try clear hfz41_3
                          try clear hfz41_4
                          try clear hfz44_0
                          try clear hfz44_1
                          try clear hfz44_2
                          try clear hfz44_3
                          try clear hfz44_4
                          try clear hfz46_0
                          try clear hfz46_1
                          try clear hfz46_2
                          try clear hfz46_3
                          try clear hfz46_4
                          try clear hfz56_0
                          try clear hfz56_1
                          try clear hfz56_2
                          try clear hfz56_3
                          try clear hfz56_4
                          try clear hfz58_0
                          try clear hfz58_1
                          try clear hfz58_2
                          try clear hfz58_3
                          try clear hfz58_4
                          try clear hfz61_0
                          try clear hfz61_1
                          try clear hfz61_2
                          try clear hfz61_3
                          try clear hfz61_4
                          try clear hfz63_0
                          try clear hfz63_1
                          try clear hfz63_2
                          try clear hfz63_3
                          try clear hfz63_4
                          try clear hfz73_0
                          try clear hfz73_1
                          try clear hfz73_2
                          try clear hfz73_3
                          try clear hfz73_4
                          try clear p2
                          try clear q4
                          try clear q40
                          try clear q406
                          try clear q41
                          try clear q414
                          try clear q417
                          try clear q425
                          obtain ⟨kq, x118_65, rfl, HA, HJ65, BK389, BK405, BK413, BK424, HB⟩ := hcut
                          cases kq with
                          | zero => exact absurd HA.out (by simp [paviorlaw09_AreaKeeps.j3])
                          | succ kj65 =>
                            have H := HA.out
                            clear HA
                            simp only [paviorlaw09_AreaKeeps.j3] at H
                            by_cases c76 : x118_65 = true
                            · subst c76
                              have H1 : (some false) = some r := by rw [if_pos rfl] at H; exact H
                              clear H
                              have H := H1
                              clear H1
                              obtain rfl := Option.some.inj H
                              go_wp2
                              go_ret
                              exact ⟨by first | rfl | (simp [errW_none, errW_some] <;> rfl) | (simp [*, errW_none, errW_some] <;> rfl), by repeat (first | (with_reducible first | exact HB.out | apply below_alloc | apply pw_below_drewN | apply below_drew1 | refine below_set ?_ GE389.out | refine below_set ?_ GE405.out | refine below_set ?_ GE413.out | refine below_set ?_ GE424.out) | exact HB.out)⟩
                            · replace c76 := Bool.eq_false_iff.mpr c76
                              subst c76
                              have H1 : (if x14_10 = true then (paviorlaw09_AreaKeeps.j4 kj65 t390 false) else ((paviorlaw00_Code.f t404).bind fun t426 => ((paviorlaw00_Code.f t423).bind fun t427 => (if t426 = t427 then (if (!(t420 == t401) || (!(t421 == t402))) = true then (paviorlaw09_AreaKeeps.j4 kj65 t390 true) else (paviorlaw09_AreaKeeps.j4 kj65 t390 (t422 != t403))) else (paviorlaw09_AreaKeeps.j4 kj65 t390 true))))) = some r := by rw [if_neg (show ¬ (false = true) by decide)] at H; exact H
                              clear H
                              have H := H1
                              clear H1
                              have HC77 := Aside0.mk H
                              clear H
                              go_upto_region 18 with (fail)
                              go_cut [141] (fun v141 wc => ∃ (kq : Nat) (x141_76 : Bool), v141 = .bool x141_76 ∧ Aside0 (paviorlaw09_AreaKeeps.j4 kq t390 x141_76 = some r) ∧ Aside0 (kq ≤ kj65) ∧ Aside0 (wc.heap[gb389]? = some (.cells #[.int .i64 a1_0, .int .i64 a1_1, .bool a1_2, .bool a1_3, .bool a1_4] 32 (0, 0))) ∧ Aside0 (wc.heap[gb405]? = some (.cells #[.int .i64 t399, .int .i64 t400, .bool t401, .bool t402, .bool t403] 32 (0, 0))) ∧ Aside0 (wc.heap[gb413]? = some (.cells #[.int .i64 t407, .int .i64 t408, .bool t409, .bool t410, .bool t411] 32 (0, 0))) ∧ Aside0 (wc.heap[gb424]? = some (.cells #[.int .i64 t418, .int .i64 t419, .bool t420, .bool t421, .bool t422] 32 (0, 0))) ∧ Aside0 (Below w.heap.size w wc))
                              case first =>
                                have H := HC77.out
                                clear HC77
                                by_cases c78 : x14_10 = true
                                · subst c78
                                  have H1 : (paviorlaw09_AreaKeeps.j4 kj65 t390 false) = some r := by rw [if_pos rfl] at H; exact H
                                  clear H
                                  have H := H1
                                  clear H1
                                  have H' := Aside0.mk H
                                  clear H
                                  go_wp2
                                  go_meet
                                  case rel => exact ⟨_, (false), (by first | rfl | (simp; done) | (simp [*]; done)), H', ⟨by have := HJ10.out; have := HJ27.out; have := HJ47.out; have := HJ65.out; first | omega | exact Nat.le_refl _⟩, ⟨by (with_reducible repeat (first | refine blk_drewN ?_ _ | refine blk_drew ?_ | refine blk_alloc ?_ _)); exact BK389.out⟩, ⟨by (with_reducible repeat (first | refine blk_drewN ?_ _ | refine blk_drew ?_ | refine blk_alloc ?_ _)); exact BK405.out⟩, ⟨by (with_reducible repeat (first | refine blk_drewN ?_ _ | refine blk_drew ?_ | refine blk_alloc ?_ _)); exact BK413.out⟩, ⟨by (with_reducible repeat (first | refine blk_drewN ?_ _ | refine blk_drew ?_ | refine blk_alloc ?_ _)); exact BK424.out⟩, ⟨by repeat (first | (with_reducible first | exact HB.out | apply below_alloc | apply pw_below_drewN | apply below_drew1 | refine below_set ?_ GE389.out | refine below_set ?_ GE405.out | refine below_set ?_ GE413.out | refine below_set ?_ GE424.out) | exact HB.out)⟩⟩
                                · replace c78 := Bool.eq_false_iff.mpr c78
                                  subst c78
                                  have H1 : ((paviorlaw00_Code.f t404).bind fun t426 => ((paviorlaw00_Code.f t423).bind fun t427 => (if t426 = t427 then (if (!(t420 == t401) || (!(t421 == t402))) = true then (paviorlaw09_AreaKeeps.j4 kj65 t390 true) else (paviorlaw09_AreaKeeps.j4 kj65 t390 (t422 != t403))) else (paviorlaw09_AreaKeeps.j4 kj65 t390 true)))) = some r := by rw [if_neg (show ¬ (false = true) by decide)] at H; exact H
                                  clear H
                                  have H := H1
                                  clear H1
                                  replace H := Option.bind_eq_some_iff.mp H
                                  obtain ⟨t426, A790, H⟩ := H
                                  replace H : ((paviorlaw00_Code.f t423).bind fun t427 => (if t426 = t427 then (if (!(t420 == t401) || (!(t421 == t402))) = true then (paviorlaw09_AreaKeeps.j4 kj65 t390 true) else (paviorlaw09_AreaKeeps.j4 kj65 t390 (t422 != t403))) else (paviorlaw09_AreaKeeps.j4 kj65 t390 true))) = some r := H
                                  have A79 := Aside0.mk A790
                                  clear A790
                                  replace H := Option.bind_eq_some_iff.mp H
                                  obtain ⟨t427, A800, H⟩ := H
                                  replace H : (if t426 = t427 then (if (!(t420 == t401) || (!(t421 == t402))) = true then (paviorlaw09_AreaKeeps.j4 kj65 t390 true) else (paviorlaw09_AreaKeeps.j4 kj65 t390 (t422 != t403))) else (paviorlaw09_AreaKeeps.j4 kj65 t390 true)) = some r := H
                                  have A80 := Aside0.mk A800
                                  clear A800
                                  by_cases c81 : t426 = t427
                                  · rw [if_pos c81] at H
                                    have c81b0 : (t426 == t427) = true := beq_iff_eq.mpr c81
                                    have c81b1 : (t426 != t427) = false := bne_eq_false_iff_eq.mpr c81
                                    clear c81
                                    (first | rw [c81b0] | (simp only [i64_w, i32_w]; rw [c81b0]) | skip)
                                    by_cases c82 : (!(t420 == t401) || (!(t421 == t402))) = true
                                    · rw [if_pos c82] at H
                                      have c82b0 : (!(t420 == t401) || (!(t421 == t402))) = true := c82
                                      clear c82
                                      have H' := Aside0.mk H
                                      clear H
                                      have CA79 := fun W => paviorlaw00_Code.calls t404 t426 W A79.out
                                      try simp only [errW_none, errW_some] at CA79
                                      go_wp2_with (first | (go_at_call 20; (with_reducible refine (CA79 _).mono ?_); rintro e w' ⟨rfl, ⟨nd, rfl⟩⟩; have CA80 := fun W => paviorlaw00_Code.calls t423 t427 W A80.out; try simp only [errW_none, errW_some] at CA80) | (go_at_call 20; (with_reducible refine (CA80 _).mono ?_); rintro e w' ⟨rfl, ⟨nd, rfl⟩⟩; have hnb83 := NB424_389.out; have hnc83 := NB389_424.out; have hnb84 := NB424_405.out; have hnc84 := NB405_424.out; have hnb85 := NB424_413.out; have hnc85 := NB413_424.out; have hcz86_0 : wc.cell? ⟨gb424, 0, none⟩ = some (.int .i64 t418) := (blk_cell BK424.out 0).trans rfl; have hcz86_1 : wc.cell? ⟨gb424, 1, none⟩ = some (.int .i64 t419) := (blk_cell BK424.out 1).trans rfl; have hcz86_2 : wc.cell? ⟨gb424, 2, none⟩ = some (.bool t420) := (blk_cell BK424.out 2).trans rfl; have hcz86_3 : wc.cell? ⟨gb424, 3, none⟩ = some (.bool t421) := (blk_cell BK424.out 3).trans rfl; have hcz86_4 : wc.cell? ⟨gb424, 4, none⟩ = some (.bool t422) := (blk_cell BK424.out 4).trans rfl; have hfz86_0 := blk_frozen BK424.out 0; have hfz86_1 := blk_frozen BK424.out 1; have hfz86_2 := blk_frozen BK424.out 2; have hfz86_3 := blk_frozen BK424.out 3; have hfz86_4 := blk_frozen BK424.out 4; have hnb87 := NB405_389.out; have hnc87 := NB389_405.out; have hnb88 := NB405_413.out; have hnc88 := NB413_405.out; have hcz89_0 : wc.cell? ⟨gb405, 0, none⟩ = some (.int .i64 t399) := (blk_cell BK405.out 0).trans rfl; have hcz89_1 : wc.cell? ⟨gb405, 1, none⟩ = some (.int .i64 t400) := (blk_cell BK405.out 1).trans rfl; have hcz89_2 : wc.cell? ⟨gb405, 2, none⟩ = some (.bool t401) := (blk_cell BK405.out 2).trans rfl; have hcz89_3 : wc.cell? ⟨gb405, 3, none⟩ = some (.bool t402) := (blk_cell BK405.out 3).trans rfl; have hcz89_4 : wc.cell? ⟨gb405, 4, none⟩ = some (.bool t403) := (blk_cell BK405.out 4).trans rfl; have hfz89_0 := blk_frozen BK405.out 0; have hfz89_1 := blk_frozen BK405.out 1; have hfz89_2 := blk_frozen BK405.out 2; have hfz89_3 := blk_frozen BK405.out 3; have hfz89_4 := blk_frozen BK405.out 4))
                                      go_meet
                                      case rel => exact ⟨_, (true), (by first | rfl | (simp; done) | (simp [*]; done)), H', ⟨by have := HJ10.out; have := HJ27.out; have := HJ47.out; have := HJ65.out; first | omega | exact Nat.le_refl _⟩, ⟨by (with_reducible repeat (first | refine blk_drewN ?_ _ | refine blk_drew ?_ | refine blk_alloc ?_ _)); exact BK389.out⟩, ⟨by (with_reducible repeat (first | refine blk_drewN ?_ _ | refine blk_drew ?_ | refine blk_alloc ?_ _)); exact BK405.out⟩, ⟨by (with_reducible repeat (first | refine blk_drewN ?_ _ | refine blk_drew ?_ | refine blk_alloc ?_ _)); exact BK413.out⟩, ⟨by (with_reducible repeat (first | refine blk_drewN ?_ _ | refine blk_drew ?_ | refine blk_alloc ?_ _)); exact BK424.out⟩, ⟨by repeat (first | (with_reducible first | exact HB.out | apply below_alloc | apply pw_below_drewN | apply below_drew1 | refine below_set ?_ GE389.out | refine below_set ?_ GE405.out | refine below_set ?_ GE413.out | refine below_set ?_ GE424.out) | exact HB.out)⟩⟩
                                    · rw [if_neg c82] at H
                                      have c82b0 : (!(t420 == t401) || (!(t421 == t402))) = false := by simpa using c82
                                      clear c82
                                      have H' := Aside0.mk H
                                      clear H
                                      have CA79 := fun W => paviorlaw00_Code.calls t404 t426 W A79.out
                                      try simp only [errW_none, errW_some] at CA79
                                      go_wp2_with (first | (go_at_call 20; (with_reducible refine (CA79 _).mono ?_); rintro e w' ⟨rfl, ⟨nd, rfl⟩⟩; have CA80 := fun W => paviorlaw00_Code.calls t423 t427 W A80.out; try simp only [errW_none, errW_some] at CA80) | (go_at_call 20; (with_reducible refine (CA80 _).mono ?_); rintro e w' ⟨rfl, ⟨nd, rfl⟩⟩; have hnb90 := NB424_389.out; have hnc90 := NB389_424.out; have hnb91 := NB424_405.out; have hnc91 := NB405_424.out; have hnb92 := NB424_413.out; have hnc92 := NB413_424.out; have hcz93_0 : wc.cell? ⟨gb424, 0, none⟩ = some (.int .i64 t418) := (blk_cell BK424.out 0).trans rfl; have hcz93_1 : wc.cell? ⟨gb424, 1, none⟩ = some (.int .i64 t419) := (blk_cell BK424.out 1).trans rfl; have hcz93_2 : wc.cell? ⟨gb424, 2, none⟩ = some (.bool t420) := (blk_cell BK424.out 2).trans rfl; have hcz93_3 : wc.cell? ⟨gb424, 3, none⟩ = some (.bool t421) := (blk_cell BK424.out 3).trans rfl; have hcz93_4 : wc.cell? ⟨gb424, 4, none⟩ = some (.bool t422) := (blk_cell BK424.out 4).trans rfl; have hfz93_0 := blk_frozen BK424.out 0; have hfz93_1 := blk_frozen BK424.out 1; have hfz93_2 := blk_frozen BK424.out 2; have hfz93_3 := blk_frozen BK424.out 3; have hfz93_4 := blk_frozen BK424.out 4; have hnb94 := NB405_389.out; have hnc94 := NB389_405.out; have hnb95 := NB405_413.out; have hnc95 := NB413_405.out; have hcz96_0 : wc.cell? ⟨gb405, 0, none⟩ = some (.int .i64 t399) := (blk_cell BK405.out 0).trans rfl; have hcz96_1 : wc.cell? ⟨gb405, 1, none⟩ = some (.int .i64 t400) := (blk_cell BK405.out 1).trans rfl; have hcz96_2 : wc.cell? ⟨gb405, 2, none⟩ = some (.bool t401) := (blk_cell BK405.out 2).trans rfl; have hcz96_3 : wc.cell? ⟨gb405, 3, none⟩ = some (.bool t402) := (blk_cell BK405.out 3).trans rfl; have hcz96_4 : wc.cell? ⟨gb405, 4, none⟩ = some (.bool t403) := (blk_cell BK405.out 4).trans rfl; have hfz96_0 := blk_frozen BK405.out 0; have hfz96_1 := blk_frozen BK405.out 1; have hfz96_2 := blk_frozen BK405.out 2; have hfz96_3 := blk_frozen BK405.out 3; have hfz96_4 := blk_frozen BK405.out 4))
                                      go_meet
                                      case rel => exact ⟨_, ((t422 != t403)), (by first | rfl | (simp; done) | (simp [*]; done)), H', ⟨by have := HJ10.out; have := HJ27.out; have := HJ47.out; have := HJ65.out; first | omega | exact Nat.le_refl _⟩, ⟨by (with_reducible repeat (first | refine blk_drewN ?_ _ | refine blk_drew ?_ | refine blk_alloc ?_ _)); exact BK389.out⟩, ⟨by (with_reducible repeat (first | refine blk_drewN ?_ _ | refine blk_drew ?_ | refine blk_alloc ?_ _)); exact BK405.out⟩, ⟨by (with_reducible repeat (first | refine blk_drewN ?_ _ | refine blk_drew ?_ | refine blk_alloc ?_ _)); exact BK413.out⟩, ⟨by (with_reducible repeat (first | refine blk_drewN ?_ _ | refine blk_drew ?_ | refine blk_alloc ?_ _)); exact BK424.out⟩, ⟨by repeat (first | (with_reducible first | exact HB.out | apply below_alloc | apply pw_below_drewN | apply below_drew1 | refine below_set ?_ GE389.out | refine below_set ?_ GE405.out | refine below_set ?_ GE413.out | refine below_set ?_ GE424.out) | exact HB.out)⟩⟩
                                  · rw [if_neg c81] at H
                                    have c81b0 : (t426 == t427) = false := beq_eq_false_iff_ne.mpr c81
                                    have c81b1 : (t426 != t427) = true := bne_iff_ne.mpr c81
                                    (first | rw [c81b0] | (simp only [i64_w, i32_w]; rw [c81b0]) | skip)
                                    have H' := Aside0.mk H
                                    clear H
                                    have CA79 := fun W => paviorlaw00_Code.calls t404 t426 W A79.out
                                    try simp only [errW_none, errW_some] at CA79
                                    go_wp2_with (first | (go_at_call 20; (with_reducible refine (CA79 _).mono ?_); rintro e w' ⟨rfl, ⟨nd, rfl⟩⟩; have CA80 := fun W => paviorlaw00_Code.calls t423 t427 W A80.out; try simp only [errW_none, errW_some] at CA80) | (go_at_call 20; (with_reducible refine (CA80 _).mono ?_); rintro e w' ⟨rfl, ⟨nd, rfl⟩⟩))
                                    go_meet
                                    case rel => exact ⟨_, (true), (by first | rfl | (simp; done) | (simp [*]; done)), H', ⟨by have := HJ10.out; have := HJ27.out; have := HJ47.out; have := HJ65.out; first | omega | exact Nat.le_refl _⟩, ⟨by (with_reducible repeat (first | refine blk_drewN ?_ _ | refine blk_drew ?_ | refine blk_alloc ?_ _)); exact BK389.out⟩, ⟨by (with_reducible repeat (first | refine blk_drewN ?_ _ | refine blk_drew ?_ | refine blk_alloc ?_ _)); exact BK405.out⟩, ⟨by (with_reducible repeat (first | refine blk_drewN ?_ _ | refine blk_drew ?_ | refine blk_alloc ?_ _)); exact BK413.out⟩, ⟨by (with_reducible repeat (first | refine blk_drewN ?_ _ | refine blk_drew ?_ | refine blk_alloc ?_ _)); exact BK424.out⟩, ⟨by repeat (first | (with_reducible first | exact HB.out | apply below_alloc | apply pw_below_drewN | apply below_drew1 | refine below_set ?_ GE389.out | refine below_set ?_ GE405.out | refine below_set ?_ GE413.out | refine below_set ?_ GE424.out) | exact HB.out)⟩⟩
                              case rest =>
                                clear HC77
                                try clear c1
                                try clear c2
                                try clear p2
                                try clear c3
                                try clear c4
                                try clear q4
                                try clear c5
                                try clear c5b0
                                try clear c5b1
                                try clear c6
                                try clear c7
                                try clear c8
                                try clear c9
                                try clear c12
                                try clear c15
                                try clear c16
                                try clear c20
                                try clear c22
                                try clear c22b0
                                try clear c23
                                try clear c25
                                try clear c32
                                try clear c33
                                try clear c35
                                try clear c36
                                try clear c36b0
                                try clear c37
                                try clear c38
                                try clear c40
                                try clear q40
                                try clear q41
                                try clear c42
                                try clear q42
                                try clear c43
                                try clear c45
                                try clear c47
                                try clear c49
                                try clear c52
                                try clear c52b0
                                try clear c52b1
                                try clear c53
                                try clear c53b0
                                try clear c54
                                try clear c55
                                try clear c57
                                try clear c59
                                try clear c60
                                try clear c62
                                try clear c64
                                try clear c70
                                try clear c71
                                try clear c72
                                try clear c74
                                try clear c75
                                try clear c75b0
                                try clear c75b1
                                try clear c76
                                try clear c78
                                try clear c81
                                try clear c81b0
                                try clear c81b1
                                try clear c82
                                try clear c82b0
                                try clear c83
                                try clear c84
                                try clear c85
                                try clear c87
                                try clear c88
                                try clear c90
                                try clear c91
                                try clear c92
                                try clear c94
                                try clear c95
                                try clear hcz14_0
                                try clear hcz14_1
                                try clear hcz14_2
                                try clear hcz14_3
                                try clear hcz14_4
                                try clear hcz16_0
                                try clear hcz16_1
                                try clear hcz16_2
                                try clear hcz16_3
                                try clear hcz16_4
                                try clear hcz21_0
                                try clear hcz21_1
                                try clear hcz21_2
                                try clear hcz21_3
                                try clear hcz21_4
                                try clear hcz24_0
                                try clear hcz24_1
                                try clear hcz24_2
                                try clear hcz24_3
                                try clear hcz24_4
                                try clear hcz26_0
                                try clear hcz26_1
                                try clear hcz26_2
                                try clear hcz26_3
                                try clear hcz26_4
                                try clear hcz34_0
                                try clear hcz34_1
                                try clear hcz34_2
                                try clear hcz34_3
                                try clear hcz34_4
                                try clear hcz39_0
                                try clear hcz39_1
                                try clear hcz39_2
                                try clear hcz39_3
                                try clear hcz39_4
                                try clear hcz41_0
                                try clear hcz41_1
                                try clear hcz41_2
                                try clear hcz41_3
                                try clear hcz41_4
                                try clear hcz44_0
                                try clear hcz44_1
                                try clear hcz44_2
                                try clear hcz44_3
                                try clear hcz44_4
                                try clear hcz46_0
                                try clear hcz46_1
                                try clear hcz46_2
                                try clear hcz46_3
                                try clear hcz46_4
                                try clear hcz56_0
                                try clear hcz56_1
                                try clear hcz56_2
                                try clear hcz56_3
                                try clear hcz56_4
                                try clear hcz58_0
                                try clear hcz58_1
                                try clear hcz58_2
                                try clear hcz58_3
                                try clear hcz58_4
                                try clear hcz61_0
                                try clear hcz61_1
                                try clear hcz61_2
                                try clear hcz61_3
                                try clear hcz61_4
                                try clear hcz63_0
                                try clear hcz63_1
                                try clear hcz63_2
                                try clear hcz63_3
                                try clear hcz63_4
                                try clear hcz73_0
                                try clear hcz73_1
                                try clear hcz73_2
                                try clear hcz73_3
                                try clear hcz73_4
                                try clear hcz86_0
                                try clear hcz86_1
                                try clear hcz86_2
                                try clear hcz86_3
                                try clear hcz86_4
                                try clear hcz89_0
                                try clear hcz89_1
                                try clear hcz89_2
                                try clear hcz89_3
                                try clear hcz89_4
                                try clear hcz93_0
                                try clear hcz93_1
                                try clear hcz93_2
                                try clear hcz93_3
                                try clear hcz93_4
                                try clear hcz96_0
                                try clear hcz96_1
                                try clear hcz96_2
                                try clear hcz96_3
                                try clear hcz96_4
                                try clear hfz14_0
                                try clear hfz14_1
                                try clear hfz14_2
                                try clear hfz14_3
                                try clear hfz14_4
                                try clear hfz16_0
                                try clear hfz16_1
                                try clear hfz16_2
                                try clear hfz16_3
                                try clear hfz16_4
                                try clear hfz21_0
                                try clear hfz21_1
                                try clear hfz21_2
                                try clear hfz21_3
                                try clear hfz21_4
                                try clear hfz24_0
                                try clear hfz24_1
                                try clear hfz24_2
                                try clear hfz24_3
                                try clear hfz24_4
                                try clear hfz26_0
                                try clear hfz26_1
                                try clear hfz26_2
                                try clear hfz26_3
                                try clear hfz26_4
                                try clear hfz34_0
                                try clear hfz34_1
                                try clear hfz34_2
                                try clear hfz34_3
                                try clear hfz34_4
                                try clear hfz39_0
                                try clear hfz39_1
                                try clear hfz39_2
                                try clear hfz39_3
                                try clear hfz39_4
                                try clear hfz41_0
                                try clear hfz41_1
                                try clear hfz41_2
                                try clear hfz41_3
                                try clear hfz41_4
                                try clear hfz44_0
                                try clear hfz44_1
                                try clear hfz44_2
                                try clear hfz44_3
                                try clear hfz44_4
                                try clear hfz46_0
                                try clear hfz46_1
                                try clear hfz46_2
                                try clear hfz46_3
                                try clear hfz46_4
                                try clear hfz56_0
                                try clear hfz56_1
                                try clear hfz56_2
                                try clear hfz56_3
                                try clear hfz56_4
                                try clear hfz58_0
                                try clear hfz58_1
                                try clear hfz58_2
                                try clear hfz58_3
                                try clear hfz58_4
                                try clear hfz61_0
                                try clear hfz61_1
                                try clear hfz61_2
                                try clear hfz61_3
                                try clear hfz61_4
                                try clear hfz63_0
                                try clear hfz63_1
                                try clear hfz63_2
                                try clear hfz63_3
                                try clear hfz63_4
                                try clear hfz73_0
                                try clear hfz73_1
                                try clear hfz73_2
                                try clear hfz73_3
                                try clear hfz73_4
                                try clear hfz86_0
                                try clear hfz86_1
                                try clear hfz86_2
                                try clear hfz86_3
                                try clear hfz86_4
                                try clear hfz89_0
                                try clear hfz89_1
                                try clear hfz89_2
                                try clear hfz89_3
                                try clear hfz89_4
                                try clear hfz93_0
                                try clear hfz93_1
                                try clear hfz93_2
                                try clear hfz93_3
                                try clear hfz93_4
                                try clear hfz96_0
                                try clear hfz96_1
                                try clear hfz96_2
                                try clear hfz96_3
                                try clear hfz96_4
                                try clear p2
                                try clear q4
                                try clear q40
                                try clear q406
                                try clear q41
                                try clear q414
                                try clear q417
                                try clear q42
                                try clear q425
                                obtain ⟨kq, x141_76, rfl, HA, HJ76, BK389, BK405, BK413, BK424, HB⟩ := hcut
                                cases kq with
                                | zero => exact absurd HA.out (by simp [paviorlaw09_AreaKeeps.j4])
                                | succ kj76 =>
                                  have H := HA.out
                                  clear HA
                                  simp only [paviorlaw09_AreaKeeps.j4] at H
                                  by_cases c97 : x141_76 = true
                                  · subst c97
                                    have H1 : (some false) = some r := by rw [if_pos rfl] at H; exact H
                                    clear H
                                    have H := H1
                                    clear H1
                                    obtain rfl := Option.some.inj H
                                    go_wp2
                                    go_ret
                                    exact ⟨by first | rfl | (simp [errW_none, errW_some] <;> rfl) | (simp [*, errW_none, errW_some] <;> rfl), by repeat (first | (with_reducible first | exact HB.out | apply below_alloc | apply pw_below_drewN | apply below_drew1 | refine below_set ?_ GE389.out | refine below_set ?_ GE405.out | refine below_set ?_ GE413.out | refine below_set ?_ GE424.out) | exact HB.out)⟩
                                  · replace c97 := Bool.eq_false_iff.mpr c97
                                    subst c97
                                    have H1 : (some t390) = some r := by rw [if_neg (show ¬ (false = true) by decide)] at H; exact H
                                    clear H
                                    have H := H1
                                    clear H1
                                    obtain rfl := Option.some.inj H
                                    go_wp2
                                    go_ret
                                    exact ⟨by first | rfl | (simp [errW_none, errW_some] <;> rfl) | (simp [*, errW_none, errW_some] <;> rfl), by repeat (first | (with_reducible first | exact HB.out | apply below_alloc | apply pw_below_drewN | apply below_drew1 | refine below_set ?_ GE389.out | refine below_set ?_ GE405.out | refine below_set ?_ GE413.out | refine below_set ?_ GE424.out) | exact HB.out)⟩
                      · have H1 : (some t390) = some r := by rw [if_neg (show ¬ (some q417).isNone = true by simp)] at H; exact H
                        clear H
                        have H := H1
                        clear H1
                        try simp only [errW_none, errW_some]
                        obtain rfl := Option.some.inj H
                        go_wp2
                        go_ret
                        exact ⟨by first | rfl | (simp [errW_none, errW_some] <;> rfl) | (simp [*, errW_none, errW_some] <;> rfl), by repeat (first | (with_reducible first | exact HB.out | apply below_alloc | apply pw_below_drewN | apply below_drew1 | refine below_set ?_ GE389.out | refine below_set ?_ GE405.out | refine below_set ?_ GE413.out) | exact HB.out)⟩
        · have H1 : (if t396.isNone = true then ((area_Find.f kj10 t395 a2).bind fun bt429 => (if x14_10 = true then (if bt429.2.2.2.2.2.isNone = true then (paviorlaw09_AreaKeeps.j5 kj10 t390 t404 x14_10 none true t399 t400 t401 t402 t403 bt429.1 bt429.2.1 bt429.2.2.1 bt429.2.2.2.1 bt429.2.2.2.2.1) else (if (bt429.2.2.2.2.2.getD 0) = 3 then (paviorlaw09_AreaKeeps.j5 kj10 t390 t404 x14_10 (some (bt429.2.2.2.2.2.getD 0)) false t399 t400 t401 t402 t403 bt429.1 bt429.2.1 bt429.2.2.1 bt429.2.2.2.1 bt429.2.2.2.2.1) else (paviorlaw09_AreaKeeps.j5 kj10 t390 t404 x14_10 (some (bt429.2.2.2.2.2.getD 0)) true t399 t400 t401 t402 t403 bt429.1 bt429.2.1 bt429.2.2.1 bt429.2.2.2.1 bt429.2.2.2.2.1))) else (paviorlaw09_AreaKeeps.j5 kj10 t390 t404 x14_10 bt429.2.2.2.2.2 false t399 t400 t401 t402 t403 bt429.1 bt429.2.1 bt429.2.2.1 bt429.2.2.2.1 bt429.2.2.2.2.1))) else (some t390)) = some r := by rw [if_neg (show ¬ (some q406).isNone = true by simp)] at H; exact H
          clear H
          have H := H1
          clear H1
          try simp only [errW_none, errW_some]
          rcases t396 with _ | q428
          · have H1 : ((area_Find.f kj10 t395 a2).bind fun bt429 => (if x14_10 = true then (if bt429.2.2.2.2.2.isNone = true then (paviorlaw09_AreaKeeps.j5 kj10 t390 t404 x14_10 none true t399 t400 t401 t402 t403 bt429.1 bt429.2.1 bt429.2.2.1 bt429.2.2.2.1 bt429.2.2.2.2.1) else (if (bt429.2.2.2.2.2.getD 0) = 3 then (paviorlaw09_AreaKeeps.j5 kj10 t390 t404 x14_10 (some (bt429.2.2.2.2.2.getD 0)) false t399 t400 t401 t402 t403 bt429.1 bt429.2.1 bt429.2.2.1 bt429.2.2.2.1 bt429.2.2.2.2.1) else (paviorlaw09_AreaKeeps.j5 kj10 t390 t404 x14_10 (some (bt429.2.2.2.2.2.getD 0)) true t399 t400 t401 t402 t403 bt429.1 bt429.2.1 bt429.2.2.1 bt429.2.2.2.1 bt429.2.2.2.2.1))) else (paviorlaw09_AreaKeeps.j5 kj10 t390 t404 x14_10 bt429.2.2.2.2.2 false t399 t400 t401 t402 t403 bt429.1 bt429.2.1 bt429.2.2.1 bt429.2.2.2.1 bt429.2.2.2.2.1))) = some r := by rw [if_pos (show (none : Option Int).isNone = true by rfl)] at H; exact H
            clear H
            have H := H1
            clear H1
            try simp only [errW_none, errW_some]
            replace H := Option.bind_eq_some_iff.mp H
            obtain ⟨⟨t429, t430, t431, t432, t433, t434⟩, A980, H⟩ := H
            replace H : (if x14_10 = true then (if t434.isNone = true then (paviorlaw09_AreaKeeps.j5 kj10 t390 t404 x14_10 none true t399 t400 t401 t402 t403 t429 t430 t431 t432 t433) else (if (t434.getD 0) = 3 then (paviorlaw09_AreaKeeps.j5 kj10 t390 t404 x14_10 (some (t434.getD 0)) false t399 t400 t401 t402 t403 t429 t430 t431 t432 t433) else (paviorlaw09_AreaKeeps.j5 kj10 t390 t404 x14_10 (some (t434.getD 0)) true t399 t400 t401 t402 t403 t429 t430 t431 t432 t433))) else (paviorlaw09_AreaKeeps.j5 kj10 t390 t404 x14_10 t434 false t399 t400 t401 t402 t403 t429 t430 t431 t432 t433)) = some r := H
            have A98 := Aside0.mk A980
            clear A980
            have HC99 := Aside0.mk H
            clear H
            obtain ⟨Ao100, co100, eo100⟩ := Kd.R_slice HO_10.out
            subst eo100
            go_upto_region 16 with (first | ((with_reducible refine gate_callee (f := 22) rfl ?_); refine goesL_ (some 110) rfl rfl Try.func22 (by kernel_rfl) rfl #[.slice Ao100 t395.length co100, .int .i64 a2] rfl (by (try simp only [List.map_toArray, List.map_cons, List.map_nil]); first | done | rfl | (simp only [List.length_drop, List.length_take]; rfl)) ?_; (with_reducible refine (area_Find.calls kj10 _ _ t395 a2 t429 t430 t431 t432 t433 t434 _ ?side1 ?side2 A98.out).mono ?_); (case side1 => repeat (first | exact (Kd.R_reads' HO_10.out).2.2 | (with_reducible refine Kd.C_alloc ?_ _) | (with_reducible refine Kd.C_drewN ?_ _) | (with_reducible refine Kd.C_drew ?_))); (case side2 => exact (Kd.R_reads' HO_10.out).2.1); rintro e w101 ⟨rfl, hb⟩; refine ⟨_, rfl, ?_⟩; have n0_ := Aside0.mk (Kd.R_below (by (with_reducible repeat (first | apply Kd.R_alloc | apply Kd.R_drewN | apply Kd.R_drew)); exact HO_8.out) hb); have n1_ := Aside0.mk (Kd.R_below (by (with_reducible repeat (first | apply Kd.R_alloc | apply Kd.R_drewN | apply Kd.R_drew)); exact HO_10.out) hb); have n2_ := Aside0.mk (blk_below (g := gb389) (o := .cells #[.int .i64 a1_0, .int .i64 a1_1, .bool a1_2, .bool a1_3, .bool a1_4] 32 (0, 0)) (by (with_reducible repeat (first | refine blk_drewN ?_ _ | refine blk_drew ?_ | refine blk_alloc ?_ _)); exact BK389.out) hb); have n3_ := Aside0.mk (blk_below (g := gb405) (o := .cells #[.int .i64 t399, .int .i64 t400, .bool t401, .bool t402, .bool t403] 32 (0, 0)) (by (with_reducible repeat (first | refine blk_drewN ?_ _ | refine blk_drew ?_ | refine blk_alloc ?_ _)); exact BK405.out) hb); have n4_ := Aside0.mk (below_step (by repeat (first | (with_reducible first | exact HB.out | apply below_alloc | apply pw_below_drewN | apply below_drew1 | refine below_set ?_ GE389.out | refine below_set ?_ GE405.out) | exact HB.out)) hb); clear HO_8; clear HO_10; clear BK389; clear BK405; clear HB; have HO_8 := n0_; have HO_10 := n1_; have BK389 := n2_; have BK405 := n3_; have HB := n4_; clear n0_ n1_ n2_ n3_ n4_; (try clear hb); (try clear hb2); (try clear hk); (try clear hi); (try simp only [errW_none, errW_some])) | ((with_reducible refine gate_dst (N := 17) rfl ?_); refine box_event ?hg (N := 17) ?hd (cs := #[.int .i64 0, .int .i64 0, .bool false, .bool false, .bool false]) (t := 32) ?hr ?_; (case hd => rfl); (case hg => rfl); (case hr => first | (go_simp; done) | (go_simp; rfl)); intro gb435 hg w102 hbox hb; have n0_ := Aside0.mk (Kd.R_below (Kd.R_elderB (by (with_reducible repeat (first | apply Kd.R_alloc | apply Kd.R_drewN | apply Kd.R_drew)); exact HO_8.out) gb435 (Nat.le_of_eq hg.symm)) hb); have n1_ := Aside0.mk (Kd.R_below (Kd.R_elderB (by (with_reducible repeat (first | apply Kd.R_alloc | apply Kd.R_drewN | apply Kd.R_drew)); exact HO_10.out) gb435 (Nat.le_of_eq hg.symm)) hb); have n2_ := Aside0.mk (blk_below (g := gb389) (o := .cells #[.int .i64 a1_0, .int .i64 a1_1, .bool a1_2, .bool a1_3, .bool a1_4] 32 (0, 0)) (by (with_reducible repeat (first | refine blk_drewN ?_ _ | refine blk_drew ?_ | refine blk_alloc ?_ _)); exact BK389.out) hb); have n3_ := Aside0.mk (blk_below (g := gb405) (o := .cells #[.int .i64 t399, .int .i64 t400, .bool t401, .bool t402, .bool t403] 32 (0, 0)) (by (with_reducible repeat (first | refine blk_drewN ?_ _ | refine blk_drew ?_ | refine blk_alloc ?_ _)); exact BK405.out) hb); have n4_ := Aside0.mk (below_step (by repeat (first | (with_reducible first | exact HB.out | apply below_alloc | apply pw_below_drewN | apply below_drew1 | refine below_set ?_ GE389.out | refine below_set ?_ GE405.out) | exact HB.out)) hb); have n5_ := Aside0.mk (hbox); have n6_ := Aside0.mk ((by rw [hg]; exact (below_size (by repeat (first | (with_reducible first | exact HB.out | apply below_alloc | apply pw_below_drewN | apply below_drew1 | refine below_set ?_ GE389.out | refine below_set ?_ GE405.out) | exact HB.out))) : w.heap.size ≤ gb435)); have n7_ := Aside0.mk ((by rw [hg]; exact (below_size (by repeat (first | (with_reducible first | exact HB.out | apply below_alloc | apply pw_below_drewN | apply below_drew1 | refine below_set ?_ GE389.out | refine below_set ?_ GE405.out) | exact HB.out))) : w.heap.size ≤ gb435)); have n8_ := Aside0.mk ((by rw [hg]; exact Nat.ne_of_lt (blk_lt (g := gb389) (o := .cells #[.int .i64 a1_0, .int .i64 a1_1, .bool a1_2, .bool a1_3, .bool a1_4] 32 (0, 0)) (by (with_reducible repeat (first | refine blk_drewN ?_ _ | refine blk_drew ?_ | refine blk_alloc ?_ _)); exact BK389.out)) : gb389 ≠ gb435)); have n9_ := Aside0.mk ((by rw [hg]; exact Nat.ne_of_gt (blk_lt (g := gb389) (o := .cells #[.int .i64 a1_0, .int .i64 a1_1, .bool a1_2, .bool a1_3, .bool a1_4] 32 (0, 0)) (by (with_reducible repeat (first | refine blk_drewN ?_ _ | refine blk_drew ?_ | refine blk_alloc ?_ _)); exact BK389.out)) : gb435 ≠ gb389)); have n10_ := Aside0.mk ((by rw [hg]; exact Nat.ne_of_lt (blk_lt (g := gb405) (o := .cells #[.int .i64 t399, .int .i64 t400, .bool t401, .bool t402, .bool t403] 32 (0, 0)) (by (with_reducible repeat (first | refine blk_drewN ?_ _ | refine blk_drew ?_ | refine blk_alloc ?_ _)); exact BK405.out)) : gb405 ≠ gb435)); have n11_ := Aside0.mk ((by rw [hg]; exact Nat.ne_of_gt (blk_lt (g := gb405) (o := .cells #[.int .i64 t399, .int .i64 t400, .bool t401, .bool t402, .bool t403] 32 (0, 0)) (by (with_reducible repeat (first | refine blk_drewN ?_ _ | refine blk_drew ?_ | refine blk_alloc ?_ _)); exact BK405.out)) : gb435 ≠ gb405)); clear HO_8; clear HO_10; clear BK389; clear BK405; clear HB; have HO_8 := n0_; have HO_10 := n1_; have BK389 := n2_; have BK405 := n3_; have HB := n4_; have BK435 := n5_; have GW435 := n6_; have GE435 := n7_; have NB389_435 := n8_; have NB435_389 := n9_; have NB405_435 := n10_; have NB435_405 := n11_; clear n0_ n1_ n2_ n3_ n4_ n5_ n6_ n7_ n8_ n9_ n10_ n11_; clear hb hbox hg; have hnb103 := NB435_389.out; have hnc103 := NB389_435.out; have hnb104 := NB435_405.out; have hnc104 := NB405_435.out; have hcz105_0 : w102.cell? ⟨gb435, 0, none⟩ = some (.int .i64 0) := (blk_cell BK435.out 0).trans rfl; have hcz105_1 : w102.cell? ⟨gb435, 1, none⟩ = some (.int .i64 0) := (blk_cell BK435.out 1).trans rfl; have hcz105_2 : w102.cell? ⟨gb435, 2, none⟩ = some (.bool false) := (blk_cell BK435.out 2).trans rfl; have hcz105_3 : w102.cell? ⟨gb435, 3, none⟩ = some (.bool false) := (blk_cell BK435.out 3).trans rfl; have hcz105_4 : w102.cell? ⟨gb435, 4, none⟩ = some (.bool false) := (blk_cell BK435.out 4).trans rfl; have hfz105_0 := blk_frozen BK435.out 0; have hfz105_1 := blk_frozen BK435.out 1; have hfz105_2 := blk_frozen BK435.out 2; have hfz105_3 := blk_frozen BK435.out 3; have hfz105_4 := blk_frozen BK435.out 4))
            (try simp only [Act.put, List.setIfInBounds_toArray, List.set_cons_zero, List.set_cons_succ])
            go_cut [118] (fun v118 wc => ∃ (kq : Nat) (x118_98 : Bool), v118 = .bool x118_98 ∧ Aside0 (paviorlaw09_AreaKeeps.j5 kq t390 t404 x14_10 t434 x118_98 t399 t400 t401 t402 t403 t429 t430 t431 t432 t433 = some r) ∧ Aside0 (kq ≤ kj10) ∧ Aside0 (wc.heap[gb389]? = some (.cells #[.int .i64 a1_0, .int .i64 a1_1, .bool a1_2, .bool a1_3, .bool a1_4] 32 (0, 0))) ∧ Aside0 (wc.heap[gb405]? = some (.cells #[.int .i64 t399, .int .i64 t400, .bool t401, .bool t402, .bool t403] 32 (0, 0))) ∧ Aside0 (wc.heap[gb435]? = some (.cells #[.int .i64 t429, .int .i64 t430, .bool t431, .bool t432, .bool t433] 32 (0, 0))) ∧ Aside0 (Below w.heap.size w wc))
            case first =>
              have H := HC99.out
              clear HC99
              by_cases c106 : x14_10 = true
              · subst c106
                have H1 : (if t434.isNone = true then (paviorlaw09_AreaKeeps.j5 kj10 t390 t404 true none true t399 t400 t401 t402 t403 t429 t430 t431 t432 t433) else (if (t434.getD 0) = 3 then (paviorlaw09_AreaKeeps.j5 kj10 t390 t404 true (some (t434.getD 0)) false t399 t400 t401 t402 t403 t429 t430 t431 t432 t433) else (paviorlaw09_AreaKeeps.j5 kj10 t390 t404 true (some (t434.getD 0)) true t399 t400 t401 t402 t403 t429 t430 t431 t432 t433))) = some r := by rw [if_pos rfl] at H; exact H
                clear H
                have H := H1
                clear H1
                rcases t434 with _ | q436
                · have H1 : (paviorlaw09_AreaKeeps.j5 kj10 t390 t404 true none true t399 t400 t401 t402 t403 t429 t430 t431 t432 t433) = some r := by rw [if_pos (show (none : Option Int).isNone = true by rfl)] at H; exact H
                  clear H
                  have H := H1
                  clear H1
                  try simp only [errW_none, errW_some]
                  have H' := Aside0.mk H
                  clear H
                  go_wp2
                  go_meet
                  case rel => exact ⟨_, (true), (by first | rfl | (simp; done) | (simp [*]; done)), H', ⟨by have := HJ10.out; first | omega | exact Nat.le_refl _⟩, ⟨by (with_reducible repeat (first | refine blk_drewN ?_ _ | refine blk_drew ?_ | refine blk_alloc ?_ _)); refine blk_far ?_ NB389_435.out _; (with_reducible repeat (first | refine blk_drewN ?_ _ | refine blk_drew ?_ | refine blk_alloc ?_ _)); refine blk_far ?_ NB389_435.out _; (with_reducible repeat (first | refine blk_drewN ?_ _ | refine blk_drew ?_ | refine blk_alloc ?_ _)); refine blk_far ?_ NB389_435.out _; (with_reducible repeat (first | refine blk_drewN ?_ _ | refine blk_drew ?_ | refine blk_alloc ?_ _)); refine blk_far ?_ NB389_435.out _; (with_reducible repeat (first | refine blk_drewN ?_ _ | refine blk_drew ?_ | refine blk_alloc ?_ _)); refine blk_far ?_ NB389_435.out _; (with_reducible repeat (first | refine blk_drewN ?_ _ | refine blk_drew ?_ | refine blk_alloc ?_ _)); exact BK389.out⟩, ⟨by (with_reducible repeat (first | refine blk_drewN ?_ _ | refine blk_drew ?_ | refine blk_alloc ?_ _)); refine blk_far ?_ NB405_435.out _; (with_reducible repeat (first | refine blk_drewN ?_ _ | refine blk_drew ?_ | refine blk_alloc ?_ _)); refine blk_far ?_ NB405_435.out _; (with_reducible repeat (first | refine blk_drewN ?_ _ | refine blk_drew ?_ | refine blk_alloc ?_ _)); refine blk_far ?_ NB405_435.out _; (with_reducible repeat (first | refine blk_drewN ?_ _ | refine blk_drew ?_ | refine blk_alloc ?_ _)); refine blk_far ?_ NB405_435.out _; (with_reducible repeat (first | refine blk_drewN ?_ _ | refine blk_drew ?_ | refine blk_alloc ?_ _)); refine blk_far ?_ NB405_435.out _; (with_reducible repeat (first | refine blk_drewN ?_ _ | refine blk_drew ?_ | refine blk_alloc ?_ _)); exact BK405.out⟩, ⟨by (with_reducible repeat (first | refine blk_drewN ?_ _ | refine blk_drew ?_ | refine blk_alloc ?_ _)); refine blk_put (cs := #[.int .i64 t429, .int .i64 t430, .bool t431, .bool t432, .bool false]) ?_ 4 _ rfl; (with_reducible repeat (first | refine blk_drewN ?_ _ | refine blk_drew ?_ | refine blk_alloc ?_ _)); refine blk_put (cs := #[.int .i64 t429, .int .i64 t430, .bool t431, .bool false, .bool false]) ?_ 3 _ rfl; (with_reducible repeat (first | refine blk_drewN ?_ _ | refine blk_drew ?_ | refine blk_alloc ?_ _)); refine blk_put (cs := #[.int .i64 t429, .int .i64 t430, .bool false, .bool false, .bool false]) ?_ 2 _ rfl; (with_reducible repeat (first | refine blk_drewN ?_ _ | refine blk_drew ?_ | refine blk_alloc ?_ _)); refine blk_put (cs := #[.int .i64 t429, .int .i64 0, .bool false, .bool false, .bool false]) ?_ 1 _ rfl; (with_reducible repeat (first | refine blk_drewN ?_ _ | refine blk_drew ?_ | refine blk_alloc ?_ _)); refine blk_put (cs := #[.int .i64 0, .int .i64 0, .bool false, .bool false, .bool false]) ?_ 0 _ rfl; (with_reducible repeat (first | refine blk_drewN ?_ _ | refine blk_drew ?_ | refine blk_alloc ?_ _)); exact BK435.out⟩, ⟨by repeat (first | (with_reducible first | exact HB.out | apply below_alloc | apply pw_below_drewN | apply below_drew1 | refine below_set ?_ GE389.out | refine below_set ?_ GE405.out | refine below_set ?_ GE435.out) | exact HB.out)⟩⟩
                · have H1 : (if q436 = 3 then (paviorlaw09_AreaKeeps.j5 kj10 t390 t404 true (some q436) false t399 t400 t401 t402 t403 t429 t430 t431 t432 t433) else (paviorlaw09_AreaKeeps.j5 kj10 t390 t404 true (some q436) true t399 t400 t401 t402 t403 t429 t430 t431 t432 t433)) = some r := by rw [if_neg (show ¬ (some q436).isNone = true by simp)] at H; exact H
                  clear H
                  have H := H1
                  clear H1
                  try simp only [errW_none, errW_some]
                  by_cases c107 : q436 = 3
                  · rw [if_pos c107] at H
                    have c107b0 : (q436 == 3) = true := beq_iff_eq.mpr c107
                    have c107b1 : (q436 != 3) = false := bne_eq_false_iff_eq.mpr c107
                    clear c107
                    (first | rw [c107b0] | (simp only [i64_w, i32_w]; rw [c107b0]) | skip)
                    have H' := Aside0.mk H
                    clear H
                    go_wp2
                    go_meet
                    case rel => exact ⟨_, (false), (by first | rfl | (simp; done) | (simp [*]; done)), H', ⟨by have := HJ10.out; first | omega | exact Nat.le_refl _⟩, ⟨by (with_reducible repeat (first | refine blk_drewN ?_ _ | refine blk_drew ?_ | refine blk_alloc ?_ _)); refine blk_far ?_ NB389_435.out _; (with_reducible repeat (first | refine blk_drewN ?_ _ | refine blk_drew ?_ | refine blk_alloc ?_ _)); refine blk_far ?_ NB389_435.out _; (with_reducible repeat (first | refine blk_drewN ?_ _ | refine blk_drew ?_ | refine blk_alloc ?_ _)); refine blk_far ?_ NB389_435.out _; (with_reducible repeat (first | refine blk_drewN ?_ _ | refine blk_drew ?_ | refine blk_alloc ?_ _)); refine blk_far ?_ NB389_435.out _; (with_reducible repeat (first | refine blk_drewN ?_ _ | refine blk_drew ?_ | refine blk_alloc ?_ _)); refine blk_far ?_ NB389_435.out _; (with_reducible repeat (first | refine blk_drewN ?_ _ | refine blk_drew ?_ | refine blk_alloc ?_ _)); exact BK389.out⟩, ⟨by (with_reducible repeat (first | refine blk_drewN ?_ _ | refine blk_drew ?_ | refine blk_alloc ?_ _)); refine blk_far ?_ NB405_435.out _; (with_reducible repeat (first | refine blk_drewN ?_ _ | refine blk_drew ?_ | refine blk_alloc ?_ _)); refine blk_far ?_ NB405_435.out _; (with_reducible repeat (first | refine blk_drewN ?_ _ | refine blk_drew ?_ | refine blk_alloc ?_ _)); refine blk_far ?_ NB405_435.out _; (with_reducible repeat (first | refine blk_drewN ?_ _ | refine blk_drew ?_ | refine blk_alloc ?_ _)); refine blk_far ?_ NB405_435.out _; (with_reducible repeat (first | refine blk_drewN ?_ _ | refine blk_drew ?_ | refine blk_alloc ?_ _)); refine blk_far ?_ NB405_435.out _; (with_reducible repeat (first | refine blk_drewN ?_ _ | refine blk_drew ?_ | refine blk_alloc ?_ _)); exact BK405.out⟩, ⟨by (with_reducible repeat (first | refine blk_drewN ?_ _ | refine blk_drew ?_ | refine blk_alloc ?_ _)); refine blk_put (cs := #[.int .i64 t429, .int .i64 t430, .bool t431, .bool t432, .bool false]) ?_ 4 _ rfl; (with_reducible repeat (first | refine blk_drewN ?_ _ | refine blk_drew ?_ | refine blk_alloc ?_ _)); refine blk_put (cs := #[.int .i64 t429, .int .i64 t430, .bool t431, .bool false, .bool false]) ?_ 3 _ rfl; (with_reducible repeat (first | refine blk_drewN ?_ _ | refine blk_drew ?_ | refine blk_alloc ?_ _)); refine blk_put (cs := #[.int .i64 t429, .int .i64 t430, .bool false, .bool false, .bool false]) ?_ 2 _ rfl; (with_reducible repeat (first | refine blk_drewN ?_ _ | refine blk_drew ?_ | refine blk_alloc ?_ _)); refine blk_put (cs := #[.int .i64 t429, .int .i64 0, .bool false, .bool false, .bool false]) ?_ 1 _ rfl; (with_reducible repeat (first | refine blk_drewN ?_ _ | refine blk_drew ?_ | refine blk_alloc ?_ _)); refine blk_put (cs := #[.int .i64 0, .int .i64 0, .bool false, .bool false, .bool false]) ?_ 0 _ rfl; (with_reducible repeat (first | refine blk_drewN ?_ _ | refine blk_drew ?_ | refine blk_alloc ?_ _)); exact BK435.out⟩, ⟨by repeat (first | (with_reducible first | exact HB.out | apply below_alloc | apply pw_below_drewN | apply below_drew1 | refine below_set ?_ GE389.out | refine below_set ?_ GE405.out | refine below_set ?_ GE435.out) | exact HB.out)⟩⟩
                  · rw [if_neg c107] at H
                    have c107b0 : (q436 == 3) = false := beq_eq_false_iff_ne.mpr c107
                    have c107b1 : (q436 != 3) = true := bne_iff_ne.mpr c107
                    (first | rw [c107b0] | (simp only [i64_w, i32_w]; rw [c107b0]) | skip)
                    have H' := Aside0.mk H
                    clear H
                    go_wp2
                    go_meet
                    case rel => exact ⟨_, (true), (by first | rfl | (simp; done) | (simp [*]; done)), H', ⟨by have := HJ10.out; first | omega | exact Nat.le_refl _⟩, ⟨by (with_reducible repeat (first | refine blk_drewN ?_ _ | refine blk_drew ?_ | refine blk_alloc ?_ _)); refine blk_far ?_ NB389_435.out _; (with_reducible repeat (first | refine blk_drewN ?_ _ | refine blk_drew ?_ | refine blk_alloc ?_ _)); refine blk_far ?_ NB389_435.out _; (with_reducible repeat (first | refine blk_drewN ?_ _ | refine blk_drew ?_ | refine blk_alloc ?_ _)); refine blk_far ?_ NB389_435.out _; (with_reducible repeat (first | refine blk_drewN ?_ _ | refine blk_drew ?_ | refine blk_alloc ?_ _)); refine blk_far ?_ NB389_435.out _; (with_reducible repeat (first | refine blk_drewN ?_ _ | refine blk_drew ?_ | refine blk_alloc ?_ _)); refine blk_far ?_ NB389_435.out _; (with_reducible repeat (first | refine blk_drewN ?_ _ | refine blk_drew ?_ | refine blk_alloc ?_ _)); exact BK389.out⟩, ⟨by (with_reducible repeat (first | refine blk_drewN ?_ _ | refine blk_drew ?_ | refine blk_alloc ?_ _)); refine blk_far ?_ NB405_435.out _; (with_reducible repeat (first | refine blk_drewN ?_ _ | refine blk_drew ?_ | refine blk_alloc ?_ _)); refine blk_far ?_ NB405_435.out _; (with_reducible repeat (first | refine blk_drewN ?_ _ | refine blk_drew ?_ | refine blk_alloc ?_ _)); refine blk_far ?_ NB405_435.out _; (with_reducible repeat (first | refine blk_drewN ?_ _ | refine blk_drew ?_ | refine blk_alloc ?_ _)); refine blk_far ?_ NB405_435.out _; (with_reducible repeat (first | refine blk_drewN ?_ _ | refine blk_drew ?_ | refine blk_alloc ?_ _)); refine blk_far ?_ NB405_435.out _; (with_reducible repeat (first | refine blk_drewN ?_ _ | refine blk_drew ?_ | refine blk_alloc ?_ _)); exact BK405.out⟩, ⟨by (with_reducible repeat (first | refine blk_drewN ?_ _ | refine blk_drew ?_ | refine blk_alloc ?_ _)); refine blk_put (cs := #[.int .i64 t429, .int .i64 t430, .bool t431, .bool t432, .bool false]) ?_ 4 _ rfl; (with_reducible repeat (first | refine blk_drewN ?_ _ | refine blk_drew ?_ | refine blk_alloc ?_ _)); refine blk_put (cs := #[.int .i64 t429, .int .i64 t430, .bool t431, .bool false, .bool false]) ?_ 3 _ rfl; (with_reducible repeat (first | refine blk_drewN ?_ _ | refine blk_drew ?_ | refine blk_alloc ?_ _)); refine blk_put (cs := #[.int .i64 t429, .int .i64 t430, .bool false, .bool false, .bool false]) ?_ 2 _ rfl; (with_reducible repeat (first | refine blk_drewN ?_ _ | refine blk_drew ?_ | refine blk_alloc ?_ _)); refine blk_put (cs := #[.int .i64 t429, .int .i64 0, .bool false, .bool false, .bool false]) ?_ 1 _ rfl; (with_reducible repeat (first | refine blk_drewN ?_ _ | refine blk_drew ?_ | refine blk_alloc ?_ _)); refine blk_put (cs := #[.int .i64 0, .int .i64 0, .bool false, .bool false, .bool false]) ?_ 0 _ rfl; (with_reducible repeat (first | refine blk_drewN ?_ _ | refine blk_drew ?_ | refine blk_alloc ?_ _)); exact BK435.out⟩, ⟨by repeat (first | (with_reducible first | exact HB.out | apply below_alloc | apply pw_below_drewN | apply below_drew1 | refine below_set ?_ GE389.out | refine below_set ?_ GE405.out | refine below_set ?_ GE435.out) | exact HB.out)⟩⟩
              · replace c106 := Bool.eq_false_iff.mpr c106
                subst c106
                have H1 : (paviorlaw09_AreaKeeps.j5 kj10 t390 t404 false t434 false t399 t400 t401 t402 t403 t429 t430 t431 t432 t433) = some r := by rw [if_neg (show ¬ (false = true) by decide)] at H; exact H
                clear H
                have H := H1
                clear H1
                have H' := Aside0.mk H
                clear H
                go_wp2
                go_meet
                case rel => exact ⟨_, (false), (by first | rfl | (simp; done) | (simp [*]; done)), H', ⟨by have := HJ10.out; first | omega | exact Nat.le_refl _⟩, ⟨by (with_reducible repeat (first | refine blk_drewN ?_ _ | refine blk_drew ?_ | refine blk_alloc ?_ _)); refine blk_far ?_ NB389_435.out _; (with_reducible repeat (first | refine blk_drewN ?_ _ | refine blk_drew ?_ | refine blk_alloc ?_ _)); refine blk_far ?_ NB389_435.out _; (with_reducible repeat (first | refine blk_drewN ?_ _ | refine blk_drew ?_ | refine blk_alloc ?_ _)); refine blk_far ?_ NB389_435.out _; (with_reducible repeat (first | refine blk_drewN ?_ _ | refine blk_drew ?_ | refine blk_alloc ?_ _)); refine blk_far ?_ NB389_435.out _; (with_reducible repeat (first | refine blk_drewN ?_ _ | refine blk_drew ?_ | refine blk_alloc ?_ _)); refine blk_far ?_ NB389_435.out _; (with_reducible repeat (first | refine blk_drewN ?_ _ | refine blk_drew ?_ | refine blk_alloc ?_ _)); exact BK389.out⟩, ⟨by (with_reducible repeat (first | refine blk_drewN ?_ _ | refine blk_drew ?_ | refine blk_alloc ?_ _)); refine blk_far ?_ NB405_435.out _; (with_reducible repeat (first | refine blk_drewN ?_ _ | refine blk_drew ?_ | refine blk_alloc ?_ _)); refine blk_far ?_ NB405_435.out _; (with_reducible repeat (first | refine blk_drewN ?_ _ | refine blk_drew ?_ | refine blk_alloc ?_ _)); refine blk_far ?_ NB405_435.out _; (with_reducible repeat (first | refine blk_drewN ?_ _ | refine blk_drew ?_ | refine blk_alloc ?_ _)); refine blk_far ?_ NB405_435.out _; (with_reducible repeat (first | refine blk_drewN ?_ _ | refine blk_drew ?_ | refine blk_alloc ?_ _)); refine blk_far ?_ NB405_435.out _; (with_reducible repeat (first | refine blk_drewN ?_ _ | refine blk_drew ?_ | refine blk_alloc ?_ _)); exact BK405.out⟩, ⟨by (with_reducible repeat (first | refine blk_drewN ?_ _ | refine blk_drew ?_ | refine blk_alloc ?_ _)); refine blk_put (cs := #[.int .i64 t429, .int .i64 t430, .bool t431, .bool t432, .bool false]) ?_ 4 _ rfl; (with_reducible repeat (first | refine blk_drewN ?_ _ | refine blk_drew ?_ | refine blk_alloc ?_ _)); refine blk_put (cs := #[.int .i64 t429, .int .i64 t430, .bool t431, .bool false, .bool false]) ?_ 3 _ rfl; (with_reducible repeat (first | refine blk_drewN ?_ _ | refine blk_drew ?_ | refine blk_alloc ?_ _)); refine blk_put (cs := #[.int .i64 t429, .int .i64 t430, .bool false, .bool false, .bool false]) ?_ 2 _ rfl; (with_reducible repeat (first | refine blk_drewN ?_ _ | refine blk_drew ?_ | refine blk_alloc ?_ _)); refine blk_put (cs := #[.int .i64 t429, .int .i64 0, .bool false, .bool false, .bool false]) ?_ 1 _ rfl; (with_reducible repeat (first | refine blk_drewN ?_ _ | refine blk_drew ?_ | refine blk_alloc ?_ _)); refine blk_put (cs := #[.int .i64 0, .int .i64 0, .bool false, .bool false, .bool false]) ?_ 0 _ rfl; (with_reducible repeat (first | refine blk_drewN ?_ _ | refine blk_drew ?_ | refine blk_alloc ?_ _)); exact BK435.out⟩, ⟨by repeat (first | (with_reducible first | exact HB.out | apply below_alloc | apply pw_below_drewN | apply below_drew1 | refine below_set ?_ GE389.out | refine below_set ?_ GE405.out | refine below_set ?_ GE435.out) | exact HB.out)⟩⟩
            case rest =>
              clear HC99
              try clear c1
              try clear c2
              try clear p2
              try clear c3
              try clear c4
              try clear q4
              try clear c5
              try clear c5b0
              try clear c5b1
              try clear c6
              try clear c7
              try clear c8
              try clear c9
              try clear c10
              try clear c12
              try clear c15
              try clear c16
              try clear c20
              try clear c22
              try clear c22b0
              try clear c23
              try clear c25
              try clear c32
              try clear c33
              try clear c35
              try clear c36
              try clear c36b0
              try clear c37
              try clear c38
              try clear c40
              try clear q40
              try clear q41
              try clear c42
              try clear q42
              try clear c43
              try clear q43
              try clear c45
              try clear c47
              try clear c49
              try clear c52
              try clear c52b0
              try clear c52b1
              try clear c53
              try clear c53b0
              try clear c54
              try clear c55
              try clear c57
              try clear c59
              try clear c60
              try clear c62
              try clear c64
              try clear c70
              try clear c71
              try clear c72
              try clear c74
              try clear c75
              try clear c75b0
              try clear c75b1
              try clear c76
              try clear c78
              try clear c81
              try clear c81b0
              try clear c81b1
              try clear c82
              try clear c82b0
              try clear c83
              try clear c84
              try clear c85
              try clear c87
              try clear c88
              try clear c90
              try clear c91
              try clear c92
              try clear c94
              try clear c95
              try clear c97
              try clear c103
              try clear c104
              try clear c106
              try clear c107
              try clear c107b0
              try clear c107b1
              try clear hcz105_0
              try clear hcz105_1
              try clear hcz105_2
              try clear hcz105_3
              try clear hcz105_4
              try clear hcz14_0
              try clear hcz14_1
              try clear hcz14_2
              try clear hcz14_3
              try clear hcz14_4
              try clear hcz16_0
              try clear hcz16_1
              try clear hcz16_2
              try clear hcz16_3
              try clear hcz16_4
              try clear hcz21_0
              try clear hcz21_1
              try clear hcz21_2
              try clear hcz21_3
              try clear hcz21_4
              try clear hcz24_0
              try clear hcz24_1
              try clear hcz24_2
              try clear hcz24_3
              try clear hcz24_4
              try clear hcz26_0
              try clear hcz26_1
              try clear hcz26_2
              try clear hcz26_3
              try clear hcz26_4
              try clear hcz34_0
              try clear hcz34_1
              try clear hcz34_2
              try clear hcz34_3
              try clear hcz34_4
              try clear hcz39_0
              try clear hcz39_1
              try clear hcz39_2
              try clear hcz39_3
              try clear hcz39_4
              try clear hcz41_0
              try clear hcz41_1
              try clear hcz41_2
              try clear hcz41_3
              try clear hcz41_4
              try clear hcz44_0
              try clear hcz44_1
              try clear hcz44_2
              try clear hcz44_3
              try clear hcz44_4
              try clear hcz46_0
              try clear hcz46_1
              try clear hcz46_2
              try clear hcz46_3
              try clear hcz46_4
              try clear hcz56_0
              try clear hcz56_1
              try clear hcz56_2
              try clear hcz56_3
              try clear hcz56_4
              try clear hcz58_0
              try clear hcz58_1
              try clear hcz58_2
              try clear hcz58_3
              try clear hcz58_4
              try clear hcz61_0
              try clear hcz61_1
              try clear hcz61_2
              try clear hcz61_3
              try clear hcz61_4
              try clear hcz63_0
              try clear hcz63_1
              try clear hcz63_2
              try clear hcz63_3
              try clear hcz63_4
              try clear hcz73_0
              try clear hcz73_1
              try clear hcz73_2
              try clear hcz73_3
              try clear hcz73_4
              try clear hcz86_0
              try clear hcz86_1
              try clear hcz86_2
              try clear hcz86_3
              try clear hcz86_4
              try clear hcz89_0
              try clear hcz89_1
              try clear hcz89_2
              try clear hcz89_3
              try clear hcz89_4
              try clear hcz93_0
              try clear hcz93_1
              try clear hcz93_2
              try clear hcz93_3
              try clear hcz93_4
              try clear hcz96_0
              try clear hcz96_1
              try clear hcz96_2
              try clear hcz96_3
              try clear hcz96_4
              try clear hfz105_0
              try clear hfz105_1
              try clear hfz105_2
              try clear hfz105_3
              try clear hfz105_4
              try clear hfz14_0
              try clear hfz14_1
              try clear hfz14_2
              try clear hfz14_3
              try clear hfz14_4
              try clear hfz16_0
              try clear hfz16_1
              try clear hfz16_2
              try clear hfz16_3
              try clear hfz16_4
              try clear hfz21_0
              try clear hfz21_1
              try clear hfz21_2
              try clear hfz21_3
              try clear hfz21_4
              try clear hfz24_0
              try clear hfz24_1
              try clear hfz24_2
              try clear hfz24_3
              try clear hfz24_4
              try clear hfz26_0
              try clear hfz26_1
              try clear hfz26_2
              try clear hfz26_3
              try clear hfz26_4
              try clear hfz34_0
              try clear hfz34_1
              try clear hfz34_2
              try clear hfz34_3
              try clear hfz34_4
              try clear hfz39_0
              try clear hfz39_1
              try clear hfz39_2
              try clear hfz39_3
              try clear hfz39_4
              try clear hfz41_0
              try clear hfz41_1
              try clear hfz41_2
              try clear hfz41_3
              try clear hfz41_4
              try clear hfz44_0
              try clear hfz44_1
              try clear hfz44_2
              try clear hfz44_3
              try clear hfz44_4
              try clear hfz46_0
              try clear hfz46_1
              try clear hfz46_2
              try clear hfz46_3
              try clear hfz46_4
              try clear hfz56_0
              try clear hfz56_1
              try clear hfz56_2
              try clear hfz56_3
              try clear hfz56_4
              try clear hfz58_0
              try clear hfz58_1
              try clear hfz58_2
              try clear hfz58_3
              try clear hfz58_4
              try clear hfz61_0
              try clear hfz61_1
              try clear hfz61_2
              try clear hfz61_3
              try clear hfz61_4
              try clear hfz63_0
              try clear hfz63_1
              try clear hfz63_2
              try clear hfz63_3
              try clear hfz63_4
              try clear hfz73_0
              try clear hfz73_1
              try clear hfz73_2
              try clear hfz73_3
              try clear hfz73_4
              try clear hfz86_0
              try clear hfz86_1
              try clear hfz86_2
              try clear hfz86_3
              try clear hfz86_4
              try clear hfz89_0
              try clear hfz89_1
              try clear hfz89_2
              try clear hfz89_3
              try clear hfz89_4
              try clear hfz93_0
              try clear hfz93_1
              try clear hfz93_2
              try clear hfz93_3
              try clear hfz93_4
              try clear hfz96_0
              try clear hfz96_1
              try clear hfz96_2
              try clear hfz96_3
              try clear hfz96_4
              try clear p2
              try clear q4
              try clear q40
              try clear q406
              try clear q41
              try clear q414
              try clear q417
              try clear q42
              try clear q425
              try clear q428
              try clear q436
              obtain ⟨kq, x118_98, rfl, HA, HJ98, BK389, BK405, BK435, HB⟩ := hcut
              cases kq with
              | zero => exact absurd HA.out (by simp [paviorlaw09_AreaKeeps.j5])
              | succ kj98 =>
                have H := HA.out
                clear HA
                simp only [paviorlaw09_AreaKeeps.j5] at H
                by_cases c108 : x118_98 = true
                · subst c108
                  have H1 : (some false) = some r := by rw [if_pos rfl] at H; exact H
                  clear H
                  have H := H1
                  clear H1
                  obtain rfl := Option.some.inj H
                  go_wp2
                  go_ret
                  exact ⟨by first | rfl | (simp [errW_none, errW_some] <;> rfl) | (simp [*, errW_none, errW_some] <;> rfl), by repeat (first | (with_reducible first | exact HB.out | apply below_alloc | apply pw_below_drewN | apply below_drew1 | refine below_set ?_ GE389.out | refine below_set ?_ GE405.out | refine below_set ?_ GE435.out) | exact HB.out)⟩
                · replace c108 := Bool.eq_false_iff.mpr c108
                  subst c108
                  have H1 : (if x14_10 = true then (paviorlaw09_AreaKeeps.j6 kj98 t390 false) else ((paviorlaw00_Code.f t404).bind fun t437 => ((paviorlaw00_Code.f t434).bind fun t438 => (if t437 = t438 then (if (!(t431 == t401) || (!(t432 == t402))) = true then (paviorlaw09_AreaKeeps.j6 kj98 t390 true) else (paviorlaw09_AreaKeeps.j6 kj98 t390 (t433 != t403))) else (paviorlaw09_AreaKeeps.j6 kj98 t390 true))))) = some r := by rw [if_neg (show ¬ (false = true) by decide)] at H; exact H
                  clear H
                  have H := H1
                  clear H1
                  have HC109 := Aside0.mk H
                  clear H
                  go_upto_region 18 with (fail)
                  go_cut [141] (fun v141 wc => ∃ (kq : Nat) (x141_108 : Bool), v141 = .bool x141_108 ∧ Aside0 (paviorlaw09_AreaKeeps.j6 kq t390 x141_108 = some r) ∧ Aside0 (kq ≤ kj98) ∧ Aside0 (wc.heap[gb389]? = some (.cells #[.int .i64 a1_0, .int .i64 a1_1, .bool a1_2, .bool a1_3, .bool a1_4] 32 (0, 0))) ∧ Aside0 (wc.heap[gb405]? = some (.cells #[.int .i64 t399, .int .i64 t400, .bool t401, .bool t402, .bool t403] 32 (0, 0))) ∧ Aside0 (wc.heap[gb435]? = some (.cells #[.int .i64 t429, .int .i64 t430, .bool t431, .bool t432, .bool t433] 32 (0, 0))) ∧ Aside0 (Below w.heap.size w wc))
                  case first =>
                    have H := HC109.out
                    clear HC109
                    by_cases c110 : x14_10 = true
                    · subst c110
                      have H1 : (paviorlaw09_AreaKeeps.j6 kj98 t390 false) = some r := by rw [if_pos rfl] at H; exact H
                      clear H
                      have H := H1
                      clear H1
                      have H' := Aside0.mk H
                      clear H
                      go_wp2
                      go_meet
                      case rel => exact ⟨_, (false), (by first | rfl | (simp; done) | (simp [*]; done)), H', ⟨by have := HJ10.out; have := HJ98.out; first | omega | exact Nat.le_refl _⟩, ⟨by (with_reducible repeat (first | refine blk_drewN ?_ _ | refine blk_drew ?_ | refine blk_alloc ?_ _)); exact BK389.out⟩, ⟨by (with_reducible repeat (first | refine blk_drewN ?_ _ | refine blk_drew ?_ | refine blk_alloc ?_ _)); exact BK405.out⟩, ⟨by (with_reducible repeat (first | refine blk_drewN ?_ _ | refine blk_drew ?_ | refine blk_alloc ?_ _)); exact BK435.out⟩, ⟨by repeat (first | (with_reducible first | exact HB.out | apply below_alloc | apply pw_below_drewN | apply below_drew1 | refine below_set ?_ GE389.out | refine below_set ?_ GE405.out | refine below_set ?_ GE435.out) | exact HB.out)⟩⟩
                    · replace c110 := Bool.eq_false_iff.mpr c110
                      subst c110
                      have H1 : ((paviorlaw00_Code.f t404).bind fun t437 => ((paviorlaw00_Code.f t434).bind fun t438 => (if t437 = t438 then (if (!(t431 == t401) || (!(t432 == t402))) = true then (paviorlaw09_AreaKeeps.j6 kj98 t390 true) else (paviorlaw09_AreaKeeps.j6 kj98 t390 (t433 != t403))) else (paviorlaw09_AreaKeeps.j6 kj98 t390 true)))) = some r := by rw [if_neg (show ¬ (false = true) by decide)] at H; exact H
                      clear H
                      have H := H1
                      clear H1
                      replace H := Option.bind_eq_some_iff.mp H
                      obtain ⟨t437, A1110, H⟩ := H
                      replace H : ((paviorlaw00_Code.f t434).bind fun t438 => (if t437 = t438 then (if (!(t431 == t401) || (!(t432 == t402))) = true then (paviorlaw09_AreaKeeps.j6 kj98 t390 true) else (paviorlaw09_AreaKeeps.j6 kj98 t390 (t433 != t403))) else (paviorlaw09_AreaKeeps.j6 kj98 t390 true))) = some r := H
                      have A111 := Aside0.mk A1110
                      clear A1110
                      replace H := Option.bind_eq_some_iff.mp H
                      obtain ⟨t438, A1120, H⟩ := H
                      replace H : (if t437 = t438 then (if (!(t431 == t401) || (!(t432 == t402))) = true then (paviorlaw09_AreaKeeps.j6 kj98 t390 true) else (paviorlaw09_AreaKeeps.j6 kj98 t390 (t433 != t403))) else (paviorlaw09_AreaKeeps.j6 kj98 t390 true)) = some r := H
                      have A112 := Aside0.mk A1120
                      clear A1120
                      by_cases c113 : t437 = t438
                      · rw [if_pos c113] at H
                        have c113b0 : (t437 == t438) = true := beq_iff_eq.mpr c113
                        have c113b1 : (t437 != t438) = false := bne_eq_false_iff_eq.mpr c113
                        clear c113
                        (first | rw [c113b0] | (simp only [i64_w, i32_w]; rw [c113b0]) | skip)
                        by_cases c114 : (!(t431 == t401) || (!(t432 == t402))) = true
                        · rw [if_pos c114] at H
                          have c114b0 : (!(t431 == t401) || (!(t432 == t402))) = true := c114
                          clear c114
                          have H' := Aside0.mk H
                          clear H
                          have CA111 := fun W => paviorlaw00_Code.calls t404 t437 W A111.out
                          try simp only [errW_none, errW_some] at CA111
                          go_wp2_with (first | (go_at_call 20; (with_reducible refine (CA111 _).mono ?_); rintro e w' ⟨rfl, ⟨nd, rfl⟩⟩; have CA112 := fun W => paviorlaw00_Code.calls t434 t438 W A112.out; try simp only [errW_none, errW_some] at CA112) | (go_at_call 20; (with_reducible refine (CA112 _).mono ?_); rintro e w' ⟨rfl, ⟨nd, rfl⟩⟩; have hnb115 := NB435_389.out; have hnc115 := NB389_435.out; have hnb116 := NB435_405.out; have hnc116 := NB405_435.out; have hcz117_0 : wc.cell? ⟨gb435, 0, none⟩ = some (.int .i64 t429) := (blk_cell BK435.out 0).trans rfl; have hcz117_1 : wc.cell? ⟨gb435, 1, none⟩ = some (.int .i64 t430) := (blk_cell BK435.out 1).trans rfl; have hcz117_2 : wc.cell? ⟨gb435, 2, none⟩ = some (.bool t431) := (blk_cell BK435.out 2).trans rfl; have hcz117_3 : wc.cell? ⟨gb435, 3, none⟩ = some (.bool t432) := (blk_cell BK435.out 3).trans rfl; have hcz117_4 : wc.cell? ⟨gb435, 4, none⟩ = some (.bool t433) := (blk_cell BK435.out 4).trans rfl; have hfz117_0 := blk_frozen BK435.out 0; have hfz117_1 := blk_frozen BK435.out 1; have hfz117_2 := blk_frozen BK435.out 2; have hfz117_3 := blk_frozen BK435.out 3; have hfz117_4 := blk_frozen BK435.out 4; have hnb118 := NB405_389.out; have hnc118 := NB389_405.out; have hcz119_0 : wc.cell? ⟨gb405, 0, none⟩ = some (.int .i64 t399) := (blk_cell BK405.out 0).trans rfl; have hcz119_1 : wc.cell? ⟨gb405, 1, none⟩ = some (.int .i64 t400) := (blk_cell BK405.out 1).trans rfl; have hcz119_2 : wc.cell? ⟨gb405, 2, none⟩ = some (.bool t401) := (blk_cell BK405.out 2).trans rfl; have hcz119_3 : wc.cell? ⟨gb405, 3, none⟩ = some (.bool t402) := (blk_cell BK405.out 3).trans rfl; have hcz119_4 : wc.cell? ⟨gb405, 4, none⟩ = some (.bool t403) := (blk_cell BK405.out 4).trans rfl; have hfz119_0 := blk_frozen BK405.out 0; have hfz119_1 := blk_frozen BK405.out 1; have hfz119_2 := blk_frozen BK405.out 2; have hfz119_3 := blk_frozen BK405.out 3; have hfz119_4 := blk_frozen BK405.out 4))
                          go_meet
                          case rel => exact ⟨_, (true), (by first | rfl | (simp; done) | (simp [*]; done)), H', ⟨by have := HJ10.out; have := HJ98.out; first | omega | exact Nat.le_refl _⟩, ⟨by (with_reducible repeat (first | refine blk_drewN ?_ _ | refine blk_drew ?_ | refine blk_alloc ?_ _)); exact BK389.out⟩, ⟨by (with_reducible repeat (first | refine blk_drewN ?_ _ | refine blk_drew ?_ | refine blk_alloc ?_ _)); exact BK405.out⟩, ⟨by (with_reducible repeat (first | refine blk_drewN ?_ _ | refine blk_drew ?_ | refine blk_alloc ?_ _)); exact BK435.out⟩, ⟨by repeat (first | (with_reducible first | exact HB.out | apply below_alloc | apply pw_below_drewN | apply below_drew1 | refine below_set ?_ GE389.out | refine below_set ?_ GE405.out | refine below_set ?_ GE435.out) | exact HB.out)⟩⟩
                        · rw [if_neg c114] at H
                          have c114b0 : (!(t431 == t401) || (!(t432 == t402))) = false := by simpa using c114
                          clear c114
                          have H' := Aside0.mk H
                          clear H
                          have CA111 := fun W => paviorlaw00_Code.calls t404 t437 W A111.out
                          try simp only [errW_none, errW_some] at CA111
                          go_wp2_with (first | (go_at_call 20; (with_reducible refine (CA111 _).mono ?_); rintro e w' ⟨rfl, ⟨nd, rfl⟩⟩; have CA112 := fun W => paviorlaw00_Code.calls t434 t438 W A112.out; try simp only [errW_none, errW_some] at CA112) | (go_at_call 20; (with_reducible refine (CA112 _).mono ?_); rintro e w' ⟨rfl, ⟨nd, rfl⟩⟩; have hnb120 := NB435_389.out; have hnc120 := NB389_435.out; have hnb121 := NB435_405.out; have hnc121 := NB405_435.out; have hcz122_0 : wc.cell? ⟨gb435, 0, none⟩ = some (.int .i64 t429) := (blk_cell BK435.out 0).trans rfl; have hcz122_1 : wc.cell? ⟨gb435, 1, none⟩ = some (.int .i64 t430) := (blk_cell BK435.out 1).trans rfl; have hcz122_2 : wc.cell? ⟨gb435, 2, none⟩ = some (.bool t431) := (blk_cell BK435.out 2).trans rfl; have hcz122_3 : wc.cell? ⟨gb435, 3, none⟩ = some (.bool t432) := (blk_cell BK435.out 3).trans rfl; have hcz122_4 : wc.cell? ⟨gb435, 4, none⟩ = some (.bool t433) := (blk_cell BK435.out 4).trans rfl; have hfz122_0 := blk_frozen BK435.out 0; have hfz122_1 := blk_frozen BK435.out 1; have hfz122_2 := blk_frozen BK435.out 2; have hfz122_3 := blk_frozen BK435.out 3; have hfz122_4 := blk_frozen BK435.out 4; have hnb123 := NB405_389.out; have hnc123 := NB389_405.out; have hcz124_0 : wc.cell? ⟨gb405, 0, none⟩ = some (.int .i64 t399) := (blk_cell BK405.out 0).trans rfl; have hcz124_1 : wc.cell? ⟨gb405, 1, none⟩ = some (.int .i64 t400) := (blk_cell BK405.out 1).trans rfl; have hcz124_2 : wc.cell? ⟨gb405, 2, none⟩ = some (.bool t401) := (blk_cell BK405.out 2).trans rfl; have hcz124_3 : wc.cell? ⟨gb405, 3, none⟩ = some (.bool t402) := (blk_cell BK405.out 3).trans rfl; have hcz124_4 : wc.cell? ⟨gb405, 4, none⟩ = some (.bool t403) := (blk_cell BK405.out 4).trans rfl; have hfz124_0 := blk_frozen BK405.out 0; have hfz124_1 := blk_frozen BK405.out 1; have hfz124_2 := blk_frozen BK405.out 2; have hfz124_3 := blk_frozen BK405.out 3; have hfz124_4 := blk_frozen BK405.out 4))
                          go_meet
                          case rel => exact ⟨_, ((t433 != t403)), (by first | rfl | (simp; done) | (simp [*]; done)), H', ⟨by have := HJ10.out; have := HJ98.out; first | omega | exact Nat.le_refl _⟩, ⟨by (with_reducible repeat (first | refine blk_drewN ?_ _ | refine blk_drew ?_ | refine blk_alloc ?_ _)); exact BK389.out⟩, ⟨by (with_reducible repeat (first | refine blk_drewN ?_ _ | refine blk_drew ?_ | refine blk_alloc ?_ _)); exact BK405.out⟩, ⟨by (with_reducible repeat (first | refine blk_drewN ?_ _ | refine blk_drew ?_ | refine blk_alloc ?_ _)); exact BK435.out⟩, ⟨by repeat (first | (with_reducible first | exact HB.out | apply below_alloc | apply pw_below_drewN | apply below_drew1 | refine below_set ?_ GE389.out | refine below_set ?_ GE405.out | refine below_set ?_ GE435.out) | exact HB.out)⟩⟩
                      · rw [if_neg c113] at H
                        have c113b0 : (t437 == t438) = false := beq_eq_false_iff_ne.mpr c113
                        have c113b1 : (t437 != t438) = true := bne_iff_ne.mpr c113
                        (first | rw [c113b0] | (simp only [i64_w, i32_w]; rw [c113b0]) | skip)
                        have H' := Aside0.mk H
                        clear H
                        have CA111 := fun W => paviorlaw00_Code.calls t404 t437 W A111.out
                        try simp only [errW_none, errW_some] at CA111
                        go_wp2_with (first | (go_at_call 20; (with_reducible refine (CA111 _).mono ?_); rintro e w' ⟨rfl, ⟨nd, rfl⟩⟩; have CA112 := fun W => paviorlaw00_Code.calls t434 t438 W A112.out; try simp only [errW_none, errW_some] at CA112) | (go_at_call 20; (with_reducible refine (CA112 _).mono ?_); rintro e w' ⟨rfl, ⟨nd, rfl⟩⟩))
                        go_meet
                        case rel => exact ⟨_, (true), (by first | rfl | (simp; done) | (simp [*]; done)), H', ⟨by have := HJ10.out; have := HJ98.out; first | omega | exact Nat.le_refl _⟩, ⟨by (with_reducible repeat (first | refine blk_drewN ?_ _ | refine blk_drew ?_ | refine blk_alloc ?_ _)); exact BK389.out⟩, ⟨by (with_reducible repeat (first | refine blk_drewN ?_ _ | refine blk_drew ?_ | refine blk_alloc ?_ _)); exact BK405.out⟩, ⟨by (with_reducible repeat (first | refine blk_drewN ?_ _ | refine blk_drew ?_ | refine blk_alloc ?_ _)); exact BK435.out⟩, ⟨by repeat (first | (with_reducible first | exact HB.out | apply below_alloc | apply pw_below_drewN | apply below_drew1 | refine below_set ?_ GE389.out | refine below_set ?_ GE405.out | refine below_set ?_ GE435.out) | exact HB.out)⟩⟩
                  case rest =>
                    clear HC109
                    try clear c1
                    try clear c2
                    try clear p2
                    try clear c3
                    try clear c4
                    try clear q4
                    try clear c5
                    try clear c5b0
                    try clear c5b1
                    try clear c6
                    try clear c7
                    try clear c8
                    try clear c9
                    try clear c10
                    try clear c11
                    try clear c12
                    try clear c15
                    try clear c16
                    try clear c20
                    try clear c22
                    try clear c22b0
                    try clear c23
                    try clear c25
                    try clear c32
                    try clear c33
                    try clear c35
                    try clear c36
                    try clear c36b0
                    try clear c37
                    try clear c38
                    try clear c40
                    try clear q40
                    try clear q41
                    try clear c42
                    try clear q42
                    try clear c43
                    try clear q43
                    try clear c45
                    try clear c47
                    try clear c49
                    try clear c52
                    try clear c52b0
                    try clear c52b1
                    try clear c53
                    try clear c53b0
                    try clear c54
                    try clear c55
                    try clear c57
                    try clear c59
                    try clear c60
                    try clear c62
                    try clear c64
                    try clear c70
                    try clear c71
                    try clear c72
                    try clear c74
                    try clear c75
                    try clear c75b0
                    try clear c75b1
                    try clear c76
                    try clear c78
                    try clear c81
                    try clear c81b0
                    try clear c81b1
                    try clear c82
                    try clear c82b0
                    try clear c83
                    try clear c84
                    try clear c85
                    try clear c87
                    try clear c88
                    try clear c90
                    try clear c91
                    try clear c92
                    try clear c94
                    try clear c95
                    try clear c97
                    try clear c103
                    try clear c104
                    try clear c106
                    try clear c107
                    try clear c107b0
                    try clear c107b1
                    try clear c108
                    try clear c110
                    try clear c113
                    try clear c113b0
                    try clear c113b1
                    try clear c114
                    try clear c114b0
                    try clear c115
                    try clear c116
                    try clear c118
                    try clear c120
                    try clear c121
                    try clear c123
                    try clear hcz105_0
                    try clear hcz105_1
                    try clear hcz105_2
                    try clear hcz105_3
                    try clear hcz105_4
                    try clear hcz117_0
                    try clear hcz117_1
                    try clear hcz117_2
                    try clear hcz117_3
                    try clear hcz117_4
                    try clear hcz119_0
                    try clear hcz119_1
                    try clear hcz119_2
                    try clear hcz119_3
                    try clear hcz119_4
                    try clear hcz122_0
                    try clear hcz122_1
                    try clear hcz122_2
                    try clear hcz122_3
                    try clear hcz122_4
                    try clear hcz124_0
                    try clear hcz124_1
                    try clear hcz124_2
                    try clear hcz124_3
                    try clear hcz124_4
                    try clear hcz14_0
                    try clear hcz14_1
                    try clear hcz14_2
                    try clear hcz14_3
                    try clear hcz14_4
                    try clear hcz16_0
                    try clear hcz16_1
                    try clear hcz16_2
                    try clear hcz16_3
                    try clear hcz16_4
                    try clear hcz21_0
                    try clear hcz21_1
                    try clear hcz21_2
                    try clear hcz21_3
                    try clear hcz21_4
                    try clear hcz24_0
                    try clear hcz24_1
                    try clear hcz24_2
                    try clear hcz24_3
                    try clear hcz24_4
                    try clear hcz26_0
                    try clear hcz26_1
                    try clear hcz26_2
                    try clear hcz26_3
                    try clear hcz26_4
                    try clear hcz34_0
                    try clear hcz34_1
                    try clear hcz34_2
                    try clear hcz34_3
                    try clear hcz34_4
                    try clear hcz39_0
                    try clear hcz39_1
                    try clear hcz39_2
                    try clear hcz39_3
                    try clear hcz39_4
                    try clear hcz41_0
                    try clear hcz41_1
                    try clear hcz41_2
                    try clear hcz41_3
                    try clear hcz41_4
                    try clear hcz44_0
                    try clear hcz44_1
                    try clear hcz44_2
                    try clear hcz44_3
                    try clear hcz44_4
                    try clear hcz46_0
                    try clear hcz46_1
                    try clear hcz46_2
                    try clear hcz46_3
                    try clear hcz46_4
                    try clear hcz56_0
                    try clear hcz56_1
                    try clear hcz56_2
                    try clear hcz56_3
                    try clear hcz56_4
                    try clear hcz58_0
                    try clear hcz58_1
                    try clear hcz58_2
                    try clear hcz58_3
                    try clear hcz58_4
                    try clear hcz61_0
                    try clear hcz61_1
                    try clear hcz61_2
                    try clear hcz61_3
                    try clear hcz61_4
                    try clear hcz63_0
                    try clear hcz63_1
                    try clear hcz63_2
                    try clear hcz63_3
                    try clear hcz63_4
                    try clear hcz73_0
                    try clear hcz73_1
                    try clear hcz73_2
                    try clear hcz73_3
                    try clear hcz73_4
                    try clear hcz86_0
                    try clear hcz86_1
                    try clear hcz86_2
                    try clear hcz86_3
                    try clear hcz86_4
                    try clear hcz89_0
                    try clear hcz89_1
                    try clear hcz89_2
                    try clear hcz89_3
                    try clear hcz89_4
                    try clear hcz93_0
                    try clear hcz93_1
                    try clear hcz93_2
                    try clear hcz93_3
                    try clear hcz93_4
                    try clear hcz96_0
                    try clear hcz96_1
                    try clear hcz96_2
                    try clear hcz96_3
                    try clear hcz96_4
                    try clear hfz105_0
                    try clear hfz105_1
                    try clear hfz105_2
                    try clear hfz105_3
                    try clear hfz105_4
                    try clear hfz117_0
                    try clear hfz117_1
                    try clear hfz117_2
                    try clear hfz117_3
                    try clear hfz117_4
                    try clear hfz119_0
                    try clear hfz119_1
                    try clear hfz119_2
                    try clear hfz119_3
                    try clear hfz119_4
                    try clear hfz122_0
                    try clear hfz122_1
                    try clear hfz122_2
                    try clear hfz122_3
                    try clear hfz122_4
                    try clear hfz124_0
                    try clear hfz124_1
                    try clear hfz124_2
                    try clear hfz124_3
                    try clear hfz124_4
                    try clear hfz14_0
                    try clear hfz14_1
                    try clear hfz14_2
                    try clear hfz14_3
                    try clear hfz14_4
                    try clear hfz16_0
                    try clear hfz16_1
                    try clear hfz16_2
                    try clear hfz16_3
                    try clear hfz16_4
                    try clear hfz21_0
                    try clear hfz21_1
                    try clear hfz21_2
                    try clear hfz21_3
                    try clear hfz21_4
                    try clear hfz24_0
                    try clear hfz24_1
                    try clear hfz24_2
                    try clear hfz24_3
                    try clear hfz24_4
                    try clear hfz26_0
                    try clear hfz26_1
                    try clear hfz26_2
                    try clear hfz26_3
                    try clear hfz26_4
                    try clear hfz34_0
                    try clear hfz34_1
                    try clear hfz34_2
                    try clear hfz34_3
                    try clear hfz34_4
                    try clear hfz39_0
                    try clear hfz39_1
                    try clear hfz39_2
                    try clear hfz39_3
                    try clear hfz39_4
                    try clear hfz41_0
                    try clear hfz41_1
                    try clear hfz41_2
                    try clear hfz41_3
                    try clear hfz41_4
                    try clear hfz44_0
                    try clear hfz44_1
                    try clear hfz44_2
                    try clear hfz44_3
                    try clear hfz44_4
                    try clear hfz46_0
                    try clear hfz46_1
                    try clear hfz46_2
                    try clear hfz46_3
                    try clear hfz46_4
                    try clear hfz56_0
                    try clear hfz56_1
                    try clear hfz56_2
                    try clear hfz56_3
                    try clear hfz56_4
                    try clear hfz58_0
                    try clear hfz58_1
                    try clear hfz58_2
                    try clear hfz58_3
                    try clear hfz58_4
                    try clear hfz61_0
                    try clear hfz61_1
                    try clear hfz61_2
                    try clear hfz61_3
                    try clear hfz61_4
                    try clear hfz63_0
                    try clear hfz63_1
                    try clear hfz63_2
                    try clear hfz63_3
                    try clear hfz63_4
                    try clear hfz73_0
                    try clear hfz73_1
                    try clear hfz73_2
                    try clear hfz73_3
                    try clear hfz73_4
                    try clear hfz86_0
                    try clear hfz86_1
                    try clear hfz86_2
                    try clear hfz86_3
                    try clear hfz86_4
                    try clear hfz89_0
                    try clear hfz89_1
                    try clear hfz89_2
                    try clear hfz89_3
                    try clear hfz89_4
                    try clear hfz93_0
                    try clear hfz93_1
                    try clear hfz93_2
                    try clear hfz93_3
                    try clear hfz93_4
                    try clear hfz96_0
                    try clear hfz96_1
                    try clear hfz96_2
                    try clear hfz96_3
                    try clear hfz96_4
                    try clear p2
                    try clear q4
                    try clear q40
                    try clear q406
                    try clear q41
                    try clear q414
                    try clear q417
                    try clear q42
                    try clear q425
                    try clear q428
                    try clear q43
                    try clear q436
                    obtain ⟨kq, x141_108, rfl, HA, HJ108, BK389, BK405, BK435, HB⟩ := hcut
                    cases kq with
                    | zero => exact absurd HA.out (by simp [paviorlaw09_AreaKeeps.j6])
                    | succ kj108 =>
                      have H := HA.out
                      clear HA
                      simp only [paviorlaw09_AreaKeeps.j6] at H
                      by_cases c125 : x141_108 = true
                      · subst c125
                        have H1 : (some false) = some r := by rw [if_pos rfl] at H; exact H
                        clear H
                        have H := H1
                        clear H1
                        obtain rfl := Option.some.inj H
                        go_wp2
                        go_ret
                        exact ⟨by first | rfl | (simp [errW_none, errW_some] <;> rfl) | (simp [*, errW_none, errW_some] <;> rfl), by repeat (first | (with_reducible first | exact HB.out | apply below_alloc | apply pw_below_drewN | apply below_drew1 | refine below_set ?_ GE389.out | refine below_set ?_ GE405.out | refine below_set ?_ GE435.out) | exact HB.out)⟩
                      · replace c125 := Bool.eq_false_iff.mpr c125
                        subst c125
                        have H1 : (some t390) = some r := by rw [if_neg (show ¬ (false = true) by decide)] at H; exact H
                        clear H
                        have H := H1
                        clear H1
                        obtain rfl := Option.some.inj H
                        go_wp2
                        go_ret
                        exact ⟨by first | rfl | (simp [errW_none, errW_some] <;> rfl) | (simp [*, errW_none, errW_some] <;> rfl), by repeat (first | (with_reducible first | exact HB.out | apply below_alloc | apply pw_below_drewN | apply below_drew1 | refine below_set ?_ GE389.out | refine below_set ?_ GE405.out | refine below_set ?_ GE435.out) | exact HB.out)⟩
          · have H1 : (some t390) = some r := by rw [if_neg (show ¬ (some q428).isNone = true by simp)] at H; exact H
            clear H
            have H := H1
            clear H1
            try simp only [errW_none, errW_some]
            obtain rfl := Option.some.inj H
            go_wp2
            go_ret
            exact ⟨by first | rfl | (simp [errW_none, errW_some] <;> rfl) | (simp [*, errW_none, errW_some] <;> rfl), by repeat (first | (with_reducible first | exact HB.out | apply below_alloc | apply pw_below_drewN | apply below_drew1 | refine below_set ?_ GE389.out | refine below_set ?_ GE405.out) | exact HB.out)⟩

/-- THE ONE PURE STATEMENT of paviorlaw09_AreaKeeps. -/
def paviorlaw09_AreaKeeps.Pure : Prop := ∀ (l0 : List (S32)) (a1_0 : Int) (a1_1 : Int) (a1_2 : Bool) (a1_3 : Bool) (a1_4 : Bool) (a2 : Int), l0.length ≤ maxLen → (∀ x ∈ l0, ((Lit.int .i64 x.f0).wf = true ∧ (Lit.int .i64 x.f1).wf = true ∧ (True ∧ True) ∧ True)) → (((Lit.int .i64 a1_0).wf = true ∧ (Lit.int .i64 a1_1).wf = true ∧ (True ∧ True) ∧ True)) → (Lit.int .i64 a2).wf = true → ∃ k, paviorlaw09_AreaKeeps.f k l0 a1_0 a1_1 a1_2 a1_3 a1_4 a2 = some true

end Go.Proofs.Ytlmjjkggoemabab.Q
