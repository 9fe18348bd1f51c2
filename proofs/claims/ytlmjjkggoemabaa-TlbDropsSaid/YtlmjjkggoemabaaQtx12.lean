-- Written by this session's program wip/tools/xprint.py (the kit's printer, turned by it); not the kit's own print.
import Derived.Test.YtlmjjkggoemabaaQtx0
import Derived.Test.YtlmjjkggoemabaaQtx1
import Derived.Test.YtlmjjkggoemabaaQtx2
import Derived.Test.YtlmjjkggoemabaaQtx5
import Derived.Test.YtlmjjkggoemabaaQtx6
import Derived.Test.YtlmjjkggoemabaaQtx9
import Derived.Test.YtlmjjkggoemabaaQtx11
namespace Go.Proofs.Ytlmjjkggoemabaa.Qt
open Go.RowKit Go.Proofs.YtlmjjkggoemabaaW.PrintWords Go.Proofs.YtlmjjkggoemabaaW.PrintLast Go.Proofs.YtlmjjkggoemabaaW.PrintMore
attribute [local go_sem] max2_int min2_int max_two min_two max_three min_three max_four min_four   -- for this text's walks alone
set_option linter.unusedVariables false
set_option linter.unusedSimpArgs false

attribute [local go_sem high] eqA48
attribute [local go_sem high] eqErr_some neErr_some eqErr_left neErr_left
/-! ### paviorlaw05_TlbDrops: function 9 -/
mutual
def paviorlaw05_TlbDrops.l0 : Nat → List (S48) → Int → Int → Bool → Bool → Int → List (S48) → Bool → Option (Bool)
  | 0, _, _, _, _, _, _, _, _ => none
  | k + 1, x0, x1, x2, x3, x9, x11, x188000, x188001 => if x11 < (x0.length : Int) then (paviorlaw05_TlbDrops.j1 k x0 x1 x2 x3 x9 x11 (decide (x11 < 80)) x188000 x188001) else (paviorlaw05_TlbDrops.j1 k x0 x1 x2 x3 x9 x11 false x188000 x188001)
def paviorlaw05_TlbDrops.j1 : Nat → List (S48) → Int → Int → Bool → Bool → Int → Bool → List (S48) → Bool → Option (Bool)
  | 0, _, _, _, _, _, _, _, _, _ => none
  | k + 1, x0, x1, x2, x3, x9, x11, x28, x188000, x188001 => if x28 = true then (if 0 ≤ x11 then (if x11 < (x0.length : Int) then ((tlb_Buffer_Fill.f k x188000 x188001 ((rd_T48 x0 x11).f0) ((rd_T48 x0 x11).f1) ((rd_T48 x0 x11).f2) ((rd_T48 x0 x11).f3) ((rd_T48 x0 x11).f4) ((rd_T48 x0 x11).f5)).bind fun bt189 => (paviorlaw05_TlbDrops.l0 k x0 x1 x2 x3 x9 (wrap64 (x11 + 1)) bt189.2.1 bt189.2.2)) else (none)) else (none)) else ((tlb_Buffer_Entries.f x188000 x188001).bind fun bt192 => (if x3 = true then ((tlb_Buffer_Space.f bt192.2.1 bt192.2.2 x1).bind fun bt197 => (paviorlaw05_TlbDrops.j2 k x1 x2 x3 x9 bt192.1 bt197.1 bt197.2)) else ((tlb_Buffer_Page.f bt192.2.1 bt192.2.2 x1 x2).bind fun bt199 => (paviorlaw05_TlbDrops.j2 k x1 x2 x3 x9 bt192.1 bt199.1 bt199.2))))
def paviorlaw05_TlbDrops.j2 : Nat → Int → Int → Bool → Bool → List (S48) → List (S48) → Bool → Option (Bool)
  | 0, _, _, _, _, _, _, _ => none
  | k + 1, x1, x2, x3, x9, x12, x188000, x188001 => (tlb_Buffer_Entries.f x188000 x188001).bind fun bt201 => (paviorlaw05_TlbDrops.l1 k x1 x2 x3 x9 x12 bt201.1 0 0)
def paviorlaw05_TlbDrops.l1 : Nat → Int → Int → Bool → Bool → List (S48) → List (S48) → Int → Int → Option (Bool)
  | 0, _, _, _, _, _, _, _, _ => none
  | k + 1, x1, x2, x3, x9, x12, x13, x14, x15 => if x15 < (x12.length : Int) then (if 0 ≤ x15 then ((paviorref05_Is.f ((rd_T48 x12 x15).f0) ((rd_T48 x12 x15).f1) ((rd_T48 x12 x15).f2) ((rd_T48 x12 x15).f3) ((rd_T48 x12 x15).f4) ((rd_T48 x12 x15).f5) x1 x2).bind fun t207 => (if x3 = true then (paviorlaw05_TlbDrops.j4 k x1 x2 x3 x9 x12 x13 x14 x15 (((rd_T48 x12 x15).f0) == x1)) else (paviorlaw05_TlbDrops.j4 k x1 x2 x3 x9 x12 x13 x14 x15 t207))) else (none)) else (if x9 = true then (some (x14 == (x13.length : Int))) else (some false))
def paviorlaw05_TlbDrops.j4 : Nat → Int → Int → Bool → Bool → List (S48) → List (S48) → Int → Int → Bool → Option (Bool)
  | 0, _, _, _, _, _, _, _, _, _ => none
  | k + 1, x1, x2, x3, x9, x12, x13, x14, x15, x16 => if x16 = true then (paviorlaw05_TlbDrops.l1 k x1 x2 x3 x9 x12 x13 x14 (wrap64 (x15 + 1))) else (if x14 ≥ (x13.length : Int) then (paviorlaw05_TlbDrops.j5 k x1 x2 x3 x9 x12 x13 x14 x15 true) else (if 0 ≤ x14 then (if x14 < (x13.length : Int) then (if 0 ≤ x15 then (if x15 < (x12.length : Int) then (paviorlaw05_TlbDrops.j5 k x1 x2 x3 x9 x12 x13 x14 x15 (!(((rd_T48 x13 x14).f0) == ((rd_T48 x12 x15).f0)) || (!(((rd_T48 x13 x14).f1) == ((rd_T48 x12 x15).f1)) || (!(((rd_T48 x13 x14).f2) == ((rd_T48 x12 x15).f2)) || (!(((rd_T48 x13 x14).f3) == ((rd_T48 x12 x15).f3)) || (!(((rd_T48 x13 x14).f4) == ((rd_T48 x12 x15).f4)) || (!(((rd_T48 x13 x14).f5) == ((rd_T48 x12 x15).f5))))))))) else (none)) else (none)) else (none)) else (none)))
def paviorlaw05_TlbDrops.j5 : Nat → Int → Int → Bool → Bool → List (S48) → List (S48) → Int → Int → Bool → Option (Bool)
  | 0, _, _, _, _, _, _, _, _, _ => none
  | k + 1, x1, x2, x3, x9, x12, x13, x14, x15, x85 => if x85 = true then (some false) else (paviorlaw05_TlbDrops.l1 k x1 x2 x3 x9 x12 x13 (wrap64 (x14 + 1)) (wrap64 (x15 + 1)))
end
def paviorlaw05_TlbDrops.f (k : Nat) (l0 : List (S48)) (a1 : Int) (a2 : Int) (a3 : Bool) : Option (Bool) := (paviorlaw05_up.f k).bind fun t184 => ((tlb_New.f).bind fun bt185 => (paviorlaw05_TlbDrops.l0 k l0 a1 a2 a3 t184 0 bt185.1 bt185.2))
theorem paviorlaw05_TlbDrops.mono_l : ∀ k, (∀ y0 y1 y2 y3 y4 y5 y6 y7, LeO (paviorlaw05_TlbDrops.l0 k y0 y1 y2 y3 y4 y5 y6 y7) (paviorlaw05_TlbDrops.l0 (k + 1) y0 y1 y2 y3 y4 y5 y6 y7)) ∧ (∀ y0 y1 y2 y3 y4 y5 y6 y7 y8, LeO (paviorlaw05_TlbDrops.j1 k y0 y1 y2 y3 y4 y5 y6 y7 y8) (paviorlaw05_TlbDrops.j1 (k + 1) y0 y1 y2 y3 y4 y5 y6 y7 y8)) ∧ (∀ y0 y1 y2 y3 y4 y5 y6, LeO (paviorlaw05_TlbDrops.j2 k y0 y1 y2 y3 y4 y5 y6) (paviorlaw05_TlbDrops.j2 (k + 1) y0 y1 y2 y3 y4 y5 y6)) ∧ (∀ y0 y1 y2 y3 y4 y5 y6 y7, LeO (paviorlaw05_TlbDrops.l1 k y0 y1 y2 y3 y4 y5 y6 y7) (paviorlaw05_TlbDrops.l1 (k + 1) y0 y1 y2 y3 y4 y5 y6 y7)) ∧ (∀ y0 y1 y2 y3 y4 y5 y6 y7 y8, LeO (paviorlaw05_TlbDrops.j4 k y0 y1 y2 y3 y4 y5 y6 y7 y8) (paviorlaw05_TlbDrops.j4 (k + 1) y0 y1 y2 y3 y4 y5 y6 y7 y8)) ∧ (∀ y0 y1 y2 y3 y4 y5 y6 y7 y8, LeO (paviorlaw05_TlbDrops.j5 k y0 y1 y2 y3 y4 y5 y6 y7 y8) (paviorlaw05_TlbDrops.j5 (k + 1) y0 y1 y2 y3 y4 y5 y6 y7 y8))
  | 0 => ⟨fun _ _ _ _ _ _ _ _ r h => by simp [paviorlaw05_TlbDrops.l0] at h, fun _ _ _ _ _ _ _ _ _ r h => by simp [paviorlaw05_TlbDrops.j1] at h, fun _ _ _ _ _ _ _ r h => by simp [paviorlaw05_TlbDrops.j2] at h, fun _ _ _ _ _ _ _ _ r h => by simp [paviorlaw05_TlbDrops.l1] at h, fun _ _ _ _ _ _ _ _ _ r h => by simp [paviorlaw05_TlbDrops.j4] at h, fun _ _ _ _ _ _ _ _ _ r h => by simp [paviorlaw05_TlbDrops.j5] at h⟩
  | k + 1 => by
    obtain ⟨ih0, ih1, ih2, ih3, ih4, ih5⟩ := paviorlaw05_TlbDrops.mono_l k
    refine ⟨?_, ?_, ?_, ?_, ?_, ?_⟩
    · intro y0 y1 y2 y3 y4 y5 y6 y7
      unfold paviorlaw05_TlbDrops.l0
      repeat' first
      | (with_reducible exact ih0 _ _ _ _ _ _ _ _)
      | (with_reducible exact ih1 _ _ _ _ _ _ _ _ _)
      | (with_reducible exact ih2 _ _ _ _ _ _ _)
      | (with_reducible exact ih3 _ _ _ _ _ _ _ _)
      | (with_reducible exact ih4 _ _ _ _ _ _ _ _ _)
      | (with_reducible exact ih5 _ _ _ _ _ _ _ _ _)
      | (with_reducible exact paviorlaw05_up.mono _)
      | (with_reducible exact tlb_Buffer_Fill.mono _ _ _ _ _ _ _ _ _)
      | (with_reducible exact LeO.refl _)
      | (with_reducible exact LeO.none _)
      | (with_reducible refine LeO.ite ?_ ?_)
      | (with_reducible refine LeO.bind ?_ (fun _ => ?_))
      | exact ih0 _ _ _ _ _ _ _ _
      | exact ih1 _ _ _ _ _ _ _ _ _
      | exact ih2 _ _ _ _ _ _ _
      | exact ih3 _ _ _ _ _ _ _ _
      | exact ih4 _ _ _ _ _ _ _ _ _
      | exact ih5 _ _ _ _ _ _ _ _ _
      | exact paviorlaw05_up.mono _
      | exact tlb_Buffer_Fill.mono _ _ _ _ _ _ _ _ _
      | exact LeO.none _
      | refine LeO.ite ?_ ?_
      | refine LeO.bind ?_ (fun _ => ?_)
    · intro y0 y1 y2 y3 y4 y5 y6 y7 y8
      unfold paviorlaw05_TlbDrops.j1
      repeat' first
      | (with_reducible exact ih0 _ _ _ _ _ _ _ _)
      | (with_reducible exact ih1 _ _ _ _ _ _ _ _ _)
      | (with_reducible exact ih2 _ _ _ _ _ _ _)
      | (with_reducible exact ih3 _ _ _ _ _ _ _ _)
      | (with_reducible exact ih4 _ _ _ _ _ _ _ _ _)
      | (with_reducible exact ih5 _ _ _ _ _ _ _ _ _)
      | (with_reducible exact paviorlaw05_up.mono _)
      | (with_reducible exact tlb_Buffer_Fill.mono _ _ _ _ _ _ _ _ _)
      | (with_reducible exact LeO.refl _)
      | (with_reducible exact LeO.none _)
      | (with_reducible refine LeO.ite ?_ ?_)
      | (with_reducible refine LeO.bind ?_ (fun _ => ?_))
      | exact ih0 _ _ _ _ _ _ _ _
      | exact ih1 _ _ _ _ _ _ _ _ _
      | exact ih2 _ _ _ _ _ _ _
      | exact ih3 _ _ _ _ _ _ _ _
      | exact ih4 _ _ _ _ _ _ _ _ _
      | exact ih5 _ _ _ _ _ _ _ _ _
      | exact paviorlaw05_up.mono _
      | exact tlb_Buffer_Fill.mono _ _ _ _ _ _ _ _ _
      | exact LeO.none _
      | refine LeO.ite ?_ ?_
      | refine LeO.bind ?_ (fun _ => ?_)
    · intro y0 y1 y2 y3 y4 y5 y6
      unfold paviorlaw05_TlbDrops.j2
      repeat' first
      | (with_reducible exact ih0 _ _ _ _ _ _ _ _)
      | (with_reducible exact ih1 _ _ _ _ _ _ _ _ _)
      | (with_reducible exact ih2 _ _ _ _ _ _ _)
      | (with_reducible exact ih3 _ _ _ _ _ _ _ _)
      | (with_reducible exact ih4 _ _ _ _ _ _ _ _ _)
      | (with_reducible exact ih5 _ _ _ _ _ _ _ _ _)
      | (with_reducible exact paviorlaw05_up.mono _)
      | (with_reducible exact tlb_Buffer_Fill.mono _ _ _ _ _ _ _ _ _)
      | (with_reducible exact LeO.refl _)
      | (with_reducible exact LeO.none _)
      | (with_reducible refine LeO.ite ?_ ?_)
      | (with_reducible refine LeO.bind ?_ (fun _ => ?_))
      | exact ih0 _ _ _ _ _ _ _ _
      | exact ih1 _ _ _ _ _ _ _ _ _
      | exact ih2 _ _ _ _ _ _ _
      | exact ih3 _ _ _ _ _ _ _ _
      | exact ih4 _ _ _ _ _ _ _ _ _
      | exact ih5 _ _ _ _ _ _ _ _ _
      | exact paviorlaw05_up.mono _
      | exact tlb_Buffer_Fill.mono _ _ _ _ _ _ _ _ _
      | exact LeO.none _
      | refine LeO.ite ?_ ?_
      | refine LeO.bind ?_ (fun _ => ?_)
    · intro y0 y1 y2 y3 y4 y5 y6 y7
      unfold paviorlaw05_TlbDrops.l1
      repeat' first
      | (with_reducible exact ih0 _ _ _ _ _ _ _ _)
      | (with_reducible exact ih1 _ _ _ _ _ _ _ _ _)
      | (with_reducible exact ih2 _ _ _ _ _ _ _)
      | (with_reducible exact ih3 _ _ _ _ _ _ _ _)
      | (with_reducible exact ih4 _ _ _ _ _ _ _ _ _)
      | (with_reducible exact ih5 _ _ _ _ _ _ _ _ _)
      | (with_reducible exact paviorlaw05_up.mono _)
      | (with_reducible exact tlb_Buffer_Fill.mono _ _ _ _ _ _ _ _ _)
      | (with_reducible exact LeO.refl _)
      | (with_reducible exact LeO.none _)
      | (with_reducible refine LeO.ite ?_ ?_)
      | (with_reducible refine LeO.bind ?_ (fun _ => ?_))
      | exact ih0 _ _ _ _ _ _ _ _
      | exact ih1 _ _ _ _ _ _ _ _ _
      | exact ih2 _ _ _ _ _ _ _
      | exact ih3 _ _ _ _ _ _ _ _
      | exact ih4 _ _ _ _ _ _ _ _ _
      | exact ih5 _ _ _ _ _ _ _ _ _
      | exact paviorlaw05_up.mono _
      | exact tlb_Buffer_Fill.mono _ _ _ _ _ _ _ _ _
      | exact LeO.none _
      | refine LeO.ite ?_ ?_
      | refine LeO.bind ?_ (fun _ => ?_)
    · intro y0 y1 y2 y3 y4 y5 y6 y7 y8
      unfold paviorlaw05_TlbDrops.j4
      repeat' first
      | (with_reducible exact ih0 _ _ _ _ _ _ _ _)
      | (with_reducible exact ih1 _ _ _ _ _ _ _ _ _)
      | (with_reducible exact ih2 _ _ _ _ _ _ _)
      | (with_reducible exact ih3 _ _ _ _ _ _ _ _)
      | (with_reducible exact ih4 _ _ _ _ _ _ _ _ _)
      | (with_reducible exact ih5 _ _ _ _ _ _ _ _ _)
      | (with_reducible exact paviorlaw05_up.mono _)
      | (with_reducible exact tlb_Buffer_Fill.mono _ _ _ _ _ _ _ _ _)
      | (with_reducible exact LeO.refl _)
      | (with_reducible exact LeO.none _)
      | (with_reducible refine LeO.ite ?_ ?_)
      | (with_reducible refine LeO.bind ?_ (fun _ => ?_))
      | exact ih0 _ _ _ _ _ _ _ _
      | exact ih1 _ _ _ _ _ _ _ _ _
      | exact ih2 _ _ _ _ _ _ _
      | exact ih3 _ _ _ _ _ _ _ _
      | exact ih4 _ _ _ _ _ _ _ _ _
      | exact ih5 _ _ _ _ _ _ _ _ _
      | exact paviorlaw05_up.mono _
      | exact tlb_Buffer_Fill.mono _ _ _ _ _ _ _ _ _
      | exact LeO.none _
      | refine LeO.ite ?_ ?_
      | refine LeO.bind ?_ (fun _ => ?_)
    · intro y0 y1 y2 y3 y4 y5 y6 y7 y8
      unfold paviorlaw05_TlbDrops.j5
      repeat' first
      | (with_reducible exact ih0 _ _ _ _ _ _ _ _)
      | (with_reducible exact ih1 _ _ _ _ _ _ _ _ _)
      | (with_reducible exact ih2 _ _ _ _ _ _ _)
      | (with_reducible exact ih3 _ _ _ _ _ _ _ _)
      | (with_reducible exact ih4 _ _ _ _ _ _ _ _ _)
      | (with_reducible exact ih5 _ _ _ _ _ _ _ _ _)
      | (with_reducible exact paviorlaw05_up.mono _)
      | (with_reducible exact tlb_Buffer_Fill.mono _ _ _ _ _ _ _ _ _)
      | (with_reducible exact LeO.refl _)
      | (with_reducible exact LeO.none _)
      | (with_reducible refine LeO.ite ?_ ?_)
      | (with_reducible refine LeO.bind ?_ (fun _ => ?_))
      | exact ih0 _ _ _ _ _ _ _ _
      | exact ih1 _ _ _ _ _ _ _ _ _
      | exact ih2 _ _ _ _ _ _ _
      | exact ih3 _ _ _ _ _ _ _ _
      | exact ih4 _ _ _ _ _ _ _ _ _
      | exact ih5 _ _ _ _ _ _ _ _ _
      | exact paviorlaw05_up.mono _
      | exact tlb_Buffer_Fill.mono _ _ _ _ _ _ _ _ _
      | exact LeO.none _
      | refine LeO.ite ?_ ?_
      | refine LeO.bind ?_ (fun _ => ?_)
theorem paviorlaw05_TlbDrops.mono : ∀ a0 a1 a2 a3 k, LeO (paviorlaw05_TlbDrops.f k a0 a1 a2 a3) (paviorlaw05_TlbDrops.f (k + 1) a0 a1 a2 a3) := by
  intro a0 a1 a2 a3 k
  obtain ⟨ih0, ih1, ih2, ih3, ih4, ih5⟩ := paviorlaw05_TlbDrops.mono_l k
  unfold paviorlaw05_TlbDrops.f
  repeat' first
      | (with_reducible exact ih0 _ _ _ _ _ _ _ _)
      | (with_reducible exact ih1 _ _ _ _ _ _ _ _ _)
      | (with_reducible exact ih2 _ _ _ _ _ _ _)
      | (with_reducible exact ih3 _ _ _ _ _ _ _ _)
      | (with_reducible exact ih4 _ _ _ _ _ _ _ _ _)
      | (with_reducible exact ih5 _ _ _ _ _ _ _ _ _)
      | (with_reducible exact paviorlaw05_up.mono _)
      | (with_reducible exact tlb_Buffer_Fill.mono _ _ _ _ _ _ _ _ _)
      | (with_reducible exact LeO.refl _)
      | (with_reducible exact LeO.none _)
      | (with_reducible refine LeO.ite ?_ ?_)
      | (with_reducible refine LeO.bind ?_ (fun _ => ?_))
      | exact ih0 _ _ _ _ _ _ _ _
      | exact ih1 _ _ _ _ _ _ _ _ _
      | exact ih2 _ _ _ _ _ _ _
      | exact ih3 _ _ _ _ _ _ _ _
      | exact ih4 _ _ _ _ _ _ _ _ _
      | exact ih5 _ _ _ _ _ _ _ _ _
      | exact paviorlaw05_up.mono _
      | exact tlb_Buffer_Fill.mono _ _ _ _ _ _ _ _ _
      | exact LeO.none _
      | refine LeO.ite ?_ ?_
      | refine LeO.bind ?_ (fun _ => ?_)
set_option maxHeartbeats 8000000 in
set_option maxRecDepth 100000 in
theorem paviorlaw05_TlbDrops.calls (k : Nat) (A0 : Option Addr) (c0 : Nat) (l0 : List (S48)) (a1 : Int) (a2 : Int) (a3 : Bool) (r : Bool) (w : World) (hr0 : Kd.C k48 w A0 l0.length l0) (hc0 : l0.length ≤ c0) (h : paviorlaw05_TlbDrops.f k l0 a1 a2 a3 = some r) :
    Calls Try.prog 9 #[.slice A0 l0.length c0, .int .i64 a1, .int .i64 a2, .bool a3] w fun e w' => e = .returned (.bool r) ∧ Below w.heap.size w w' := by
  have hu48 := Try.underlying48
  have HR0 := Aside0.mk hr0
  have HC0 := Aside0.mk hc0
  clear hr0 hc0
  have HB := Aside0.mk (Below.refl w.heap.size w)
  have H : ((paviorlaw05_up.f k).bind fun t184 => ((tlb_New.f).bind fun bt185 => (paviorlaw05_TlbDrops.l0 k l0 a1 a2 a3 t184 0 bt185.1 bt185.2))) = some r := h
  clear h
  replace H := Option.bind_eq_some_iff.mp H
  obtain ⟨t184, A50, H⟩ := H
  replace H : ((tlb_New.f).bind fun bt185 => (paviorlaw05_TlbDrops.l0 k l0 a1 a2 a3 t184 0 bt185.1 bt185.2)) = some r := H
  have A5 := Aside0.mk A50
  clear A50
  replace H := Option.bind_eq_some_iff.mp H
  obtain ⟨⟨t185, t186⟩, A60, H⟩ := H
  replace H : (paviorlaw05_TlbDrops.l0 k l0 a1 a2 a3 t184 0 t185 t186) = some r := H
  have A6 := Aside0.mk A60
  clear A60
  have H' := Aside0.mk H
  clear H
  go_enter Try.func9, Try.ntmps9
  go_wp2_with (first | (go_at_call 19; (with_reducible refine (paviorlaw05_up.calls k  t184 _ A5.out).mono ?_); rintro e w7 ⟨rfl, hb⟩; have n0_ := Aside0.mk (below_step (by repeat (first | (with_reducible first | exact HB.out | apply below_alloc | apply pw_below_drewN | apply below_drew1) | exact HB.out)) hb); clear HB; have HB := n0_; clear n0_; (try clear hb); (try clear hb2); (try clear hk); (try clear hi)) | (go_at_call 20; (with_reducible refine (tlb_New.calls  t185 t186 w _ ?side1 A6.out).mono ?_); (case side1 => repeat (first | (with_reducible first | exact HB.out | apply below_alloc | apply pw_below_drewN | apply below_drew1) | exact HB.out)); rintro e w8 ⟨g187, rfl, hi, hb, hb2⟩; have n0_ := Aside0.mk (hb); have n1_ := Aside0.mk (hi); clear HB; have HB := n0_; have HI187 := n1_; clear n0_ n1_; (try clear hb); (try clear hb2); (try clear hk); (try clear hi)))
  repeat (go_quiet (first | (go_at_call 19; (with_reducible refine (paviorlaw05_up.calls k  t184 _ A5.out).mono ?_); rintro e w7 ⟨rfl, hb⟩; have n0_ := Aside0.mk (below_step (by repeat (first | (with_reducible first | exact HB.out | apply below_alloc | apply pw_below_drewN | apply below_drew1) | exact HB.out)) hb); clear HB; have HB := n0_; clear n0_; (try clear hb); (try clear hb2); (try clear hk); (try clear hi)) | (go_at_call 20; (with_reducible refine (tlb_New.calls  t185 t186 w _ ?side1 A6.out).mono ?_); (case side1 => repeat (first | (with_reducible first | exact HB.out | apply below_alloc | apply pw_below_drewN | apply below_drew1) | exact HB.out)); rintro e w8 ⟨g187, rfl, hi, hb, hb2⟩; have n0_ := Aside0.mk (hb); have n1_ := Aside0.mk (hi); clear HB; have HB := n0_; have HI187 := n1_; clear n0_ n1_; (try clear hb); (try clear hb2); (try clear hk); (try clear hi))); try go_wp2_with (first | (go_at_call 19; (with_reducible refine (paviorlaw05_up.calls k  t184 _ A5.out).mono ?_); rintro e w7 ⟨rfl, hb⟩; have n0_ := Aside0.mk (below_step (by repeat (first | (with_reducible first | exact HB.out | apply below_alloc | apply pw_below_drewN | apply below_drew1) | exact HB.out)) hb); clear HB; have HB := n0_; clear n0_; (try clear hb); (try clear hb2); (try clear hk); (try clear hi)) | (go_at_call 20; (with_reducible refine (tlb_New.calls  t185 t186 w _ ?side1 A6.out).mono ?_); (case side1 => repeat (first | (with_reducible first | exact HB.out | apply below_alloc | apply pw_below_drewN | apply below_drew1) | exact HB.out)); rintro e w8 ⟨g187, rfl, hi, hb, hb2⟩; have n0_ := Aside0.mk (hb); have n1_ := Aside0.mk (hi); clear HB; have HB := n0_; have HI187 := n1_; clear n0_ n1_; (try clear hb); (try clear hb2); (try clear hk); (try clear hi))))
  go_loopg [11] k (fun kq v11 w' => ∃ (x11_1 : Int) (x188000_1 : List (S48)) (x188001_1 : Bool), v11 = .int .i64 x11_1 ∧ Aside0 (paviorlaw05_TlbDrops.l0 kq l0 a1 a2 a3 t184 x11_1 x188000_1 x188001_1 = some r) ∧ Aside0 (kq ≤ k) ∧ Aside0 (IsS84 w w' g187 x188000_1 x188001_1) ∧ Aside0 (Below w.heap.size w w'))
  case atStart => exact ⟨(0), (t185), (t186), (by first | rfl | (simp; done) | (simp [*]; done)), H', ⟨Nat.le_refl _⟩, ⟨by repeat (first | (with_reducible first | exact HI187.out | apply IsS84.alloc | apply IsS84.drewN | apply IsS84.drew | apply IsS84.set_0 | apply IsS84.set_1) | exact HI187.out)⟩, ⟨by repeat (first | (with_reducible first | exact HB.out | apply below_alloc | apply pw_below_drewN | apply below_drew1 | refine below_set ?_ (IsS84.ge HI187.out)) | exact HB.out)⟩⟩
  case round =>
    clear H'
    try clear p2
    obtain ⟨x11_1, x188000_1, x188001_1, rfl, HA, HK1, HI187, HB⟩ := hrel
    cases gk with
    | zero => exact absurd HA.out (by simp [paviorlaw05_TlbDrops.l0])
    | succ k1 =>
      have H := HA.out
      clear HA
      simp only [paviorlaw05_TlbDrops.l0] at H
      have HC9 := Aside0.mk H
      clear H
      go_upto_region 6 with (fail)
      repeat (go_quiet (fail); go_upto_region 6 with (fail))
      go_cut [28] (fun v28 wc => ∃ (kq : Nat) (x28_8 : Bool), v28 = .bool x28_8 ∧ Aside0 (paviorlaw05_TlbDrops.j1 kq l0 a1 a2 a3 t184 x11_1 x28_8 x188000_1 x188001_1 = some r) ∧ Aside0 (kq ≤ k1) ∧ Aside0 (IsS84 w wc g187 x188000_1 x188001_1) ∧ Aside0 (Below w.heap.size w wc))
      case first =>
        have H := HC9.out
        clear HC9
        by_cases c10 : x11_1 < (l0.length : Int)
        · rw [if_pos c10] at H
          have c10b0 : decide (x11_1 < (l0.length : Int)) = true := decide_eq_true c10
          clear c10
          (first | rw [c10b0] | (simp only [i64_w, i32_w]; rw [c10b0]) | skip)
          have H' := Aside0.mk H
          clear H
          go_wp2
          repeat (go_quiet (fail); try go_wp2)
          go_meet
          case rel => exact ⟨_, (decide (x11_1 < 80)), (by first | rfl | (simp; done) | (simp [*]; done)), H', ⟨by have := HK1.out; first | omega | exact Nat.le_refl _⟩, ⟨by repeat (first | (with_reducible first | exact HI187.out | apply IsS84.alloc | apply IsS84.drewN | apply IsS84.drew | apply IsS84.set_0 | apply IsS84.set_1) | exact HI187.out)⟩, ⟨by repeat (first | (with_reducible first | exact HB.out | apply below_alloc | apply pw_below_drewN | apply below_drew1 | refine below_set ?_ (IsS84.ge HI187.out)) | exact HB.out)⟩⟩
        · rw [if_neg c10] at H
          have c10b0 : decide (x11_1 < (l0.length : Int)) = false := decide_eq_false c10
          clear c10
          (first | rw [c10b0] | (simp only [i64_w, i32_w]; rw [c10b0]) | skip)
          have H' := Aside0.mk H
          clear H
          go_wp2
          repeat (go_quiet (fail); try go_wp2)
          go_meet
          case rel => exact ⟨_, (false), (by first | rfl | (simp; done) | (simp [*]; done)), H', ⟨by have := HK1.out; first | omega | exact Nat.le_refl _⟩, ⟨by repeat (first | (with_reducible first | exact HI187.out | apply IsS84.alloc | apply IsS84.drewN | apply IsS84.drew | apply IsS84.set_0 | apply IsS84.set_1) | exact HI187.out)⟩, ⟨by repeat (first | (with_reducible first | exact HB.out | apply below_alloc | apply pw_below_drewN | apply below_drew1 | refine below_set ?_ (IsS84.ge HI187.out)) | exact HB.out)⟩⟩
      case rest =>
        clear HC9
        try clear c1
        try clear p2
        try clear c9
        try clear c10
        try clear c10b0
        try clear p2
        obtain ⟨kq, x28_8, rfl, HA, HJ8, HI187, HB⟩ := hcut
        cases kq with
        | zero => exact absurd HA.out (by simp [paviorlaw05_TlbDrops.j1])
        | succ kj8 =>
          have H := HA.out
          clear HA
          simp only [paviorlaw05_TlbDrops.j1] at H
          by_cases c11 : x28_8 = true
          · subst c11
            have H1 : (if 0 ≤ x11_1 then (if x11_1 < (l0.length : Int) then ((tlb_Buffer_Fill.f kj8 x188000_1 x188001_1 ((rd_T48 l0 x11_1).f0) ((rd_T48 l0 x11_1).f1) ((rd_T48 l0 x11_1).f2) ((rd_T48 l0 x11_1).f3) ((rd_T48 l0 x11_1).f4) ((rd_T48 l0 x11_1).f5)).bind fun bt189 => (paviorlaw05_TlbDrops.l0 kj8 l0 a1 a2 a3 t184 (wrap64 (x11_1 + 1)) bt189.2.1 bt189.2.2)) else (none)) else (none)) = some r := by rw [if_pos rfl] at H; exact H
            clear H
            have H := H1
            clear H1
            by_cases c12 : 0 ≤ x11_1
            · rw [if_pos c12] at H
              have c12b0 : decide (0 ≤ x11_1) = true := decide_eq_true c12
              clear c12
              by_cases c13 : x11_1 < (l0.length : Int)
              · rw [if_pos c13] at H
                have c13b0 : decide (x11_1 < (l0.length : Int)) = true := decide_eq_true c13
                clear c13
                replace H := Option.bind_eq_some_iff.mp H
                obtain ⟨⟨t189, t190, t191⟩, A140, H⟩ := H
                replace H : (paviorlaw05_TlbDrops.l0 kj8 l0 a1 a2 a3 t184 (wrap64 (x11_1 + 1)) t190 t191) = some r := H
                have A14 := Aside0.mk A140
                clear A140
                have H' := Aside0.mk H
                clear H
                have p188 : 0 ≤ (x11_1 : Int) := of_decide_eq_true (by first | (with_reducible assumption) | assumption)
                have q188 : x11_1 < (l0.length : Int) := of_decide_eq_true (by first | (with_reducible assumption) | assumption)
                obtain ⟨ad188, e188, hx188_0, hx188_1, hx188_2, hx188_3, hx188_4, hx188_5⟩ := at_T48 HR0.out x11_1 p188 q188
                cases e188
                replace hx188_0 := (HB.out.cell (World.block_lt_of_cell? w _ hx188_0)).trans hx188_0
                replace hx188_1 := (HB.out.cell (World.block_lt_of_cell? w _ hx188_1)).trans hx188_1
                replace hx188_2 := (HB.out.cell (World.block_lt_of_cell? w _ hx188_2)).trans hx188_2
                replace hx188_3 := (HB.out.cell (World.block_lt_of_cell? w _ hx188_3)).trans hx188_3
                replace hx188_4 := (HB.out.cell (World.block_lt_of_cell? w _ hx188_4)).trans hx188_4
                replace hx188_5 := (HB.out.cell (World.block_lt_of_cell? w _ hx188_5)).trans hx188_5
                replace p188 := eq_true p188
                replace q188 := eq_true q188
                go_wp2_with (first | (go_at_call 22; (with_reducible refine (tlb_Buffer_Fill.calls kj8 g187 x188000_1 x188001_1 ((rd_T48 l0 x11_1).f0) ((rd_T48 l0 x11_1).f1) ((rd_T48 l0 x11_1).f2) ((rd_T48 l0 x11_1).f3) ((rd_T48 l0 x11_1).f4) ((rd_T48 l0 x11_1).f5) t189 t190 t191 w _ ?side1 ?side2 A14.out).mono ?_); (case side1 => repeat (first | (with_reducible first | exact HI187.out | apply IsS84.alloc | apply IsS84.drewN | apply IsS84.drew | apply IsS84.set_0 | apply IsS84.set_1) | exact HI187.out)); (case side2 => repeat (first | (with_reducible first | exact HB.out | apply below_alloc | apply pw_below_drewN | apply below_drew1 | refine below_set ?_ (IsS84.ge HI187.out)) | exact HB.out)); rintro e w15 ⟨rfl, hi, hb, hk⟩; have n0_ := Aside0.mk (hb); have n1_ := Aside0.mk (hi); clear HB; clear HI187; have HB := n0_; have HI187 := n1_; clear n0_ n1_; (try clear hb); (try clear hb2); (try clear hk); (try clear hi); (try simp only [errW_none, errW_some])))
                repeat (go_quiet (first | (go_at_call 22; (with_reducible refine (tlb_Buffer_Fill.calls kj8 g187 x188000_1 x188001_1 ((rd_T48 l0 x11_1).f0) ((rd_T48 l0 x11_1).f1) ((rd_T48 l0 x11_1).f2) ((rd_T48 l0 x11_1).f3) ((rd_T48 l0 x11_1).f4) ((rd_T48 l0 x11_1).f5) t189 t190 t191 w _ ?side1 ?side2 A14.out).mono ?_); (case side1 => repeat (first | (with_reducible first | exact HI187.out | apply IsS84.alloc | apply IsS84.drewN | apply IsS84.drew | apply IsS84.set_0 | apply IsS84.set_1) | exact HI187.out)); (case side2 => repeat (first | (with_reducible first | exact HB.out | apply below_alloc | apply pw_below_drewN | apply below_drew1 | refine below_set ?_ (IsS84.ge HI187.out)) | exact HB.out)); rintro e w15 ⟨rfl, hi, hb, hk⟩; have n0_ := Aside0.mk (hb); have n1_ := Aside0.mk (hi); clear HB; clear HI187; have HB := n0_; have HI187 := n1_; clear n0_ n1_; (try clear hb); (try clear hb2); (try clear hk); (try clear hi); (try simp only [errW_none, errW_some]))); try go_wp2_with (first | (go_at_call 22; (with_reducible refine (tlb_Buffer_Fill.calls kj8 g187 x188000_1 x188001_1 ((rd_T48 l0 x11_1).f0) ((rd_T48 l0 x11_1).f1) ((rd_T48 l0 x11_1).f2) ((rd_T48 l0 x11_1).f3) ((rd_T48 l0 x11_1).f4) ((rd_T48 l0 x11_1).f5) t189 t190 t191 w _ ?side1 ?side2 A14.out).mono ?_); (case side1 => repeat (first | (with_reducible first | exact HI187.out | apply IsS84.alloc | apply IsS84.drewN | apply IsS84.drew | apply IsS84.set_0 | apply IsS84.set_1) | exact HI187.out)); (case side2 => repeat (first | (with_reducible first | exact HB.out | apply below_alloc | apply pw_below_drewN | apply below_drew1 | refine below_set ?_ (IsS84.ge HI187.out)) | exact HB.out)); rintro e w15 ⟨rfl, hi, hb, hk⟩; have n0_ := Aside0.mk (hb); have n1_ := Aside0.mk (hi); clear HB; clear HI187; have HB := n0_; have HI187 := n1_; clear n0_ n1_; (try clear hb); (try clear hb2); (try clear hk); (try clear hi); (try simp only [errW_none, errW_some]))))
                go_roundg kj8
                case measure => have := HK1.out; have := HJ8.out; omega
                case rel => exact ⟨(wrap64 (x11_1 + 1)), (t190), (t191), (by first | rfl | (simp; done) | (simp [*]; done)), H', ⟨by have := HK1.out; have := HJ8.out; omega⟩, ⟨by repeat (first | (with_reducible first | exact HI187.out | apply IsS84.alloc | apply IsS84.drewN | apply IsS84.drew | apply IsS84.set_0 | apply IsS84.set_1) | exact HI187.out)⟩, ⟨by repeat (first | (with_reducible first | exact HB.out | apply below_alloc | apply pw_below_drewN | apply below_drew1 | refine below_set ?_ (IsS84.ge HI187.out)) | exact HB.out)⟩⟩
              · rw [if_neg c13] at H
                exact absurd H (by simp)
            · rw [if_neg c12] at H
              exact absurd H (by simp)
          · replace c11 := Bool.eq_false_iff.mpr c11
            subst c11
            have H1 : ((tlb_Buffer_Entries.f x188000_1 x188001_1).bind fun bt192 => (if a3 = true then ((tlb_Buffer_Space.f bt192.2.1 bt192.2.2 a1).bind fun bt197 => (paviorlaw05_TlbDrops.j2 kj8 a1 a2 a3 t184 bt192.1 bt197.1 bt197.2)) else ((tlb_Buffer_Page.f bt192.2.1 bt192.2.2 a1 a2).bind fun bt199 => (paviorlaw05_TlbDrops.j2 kj8 a1 a2 a3 t184 bt192.1 bt199.1 bt199.2)))) = some r := by rw [if_neg (show ¬ (false = true) by decide)] at H; exact H
            clear H
            have H := H1
            clear H1
            replace H := Option.bind_eq_some_iff.mp H
            obtain ⟨⟨t192, t195, t196⟩, A160, H⟩ := H
            replace H : (if a3 = true then ((tlb_Buffer_Space.f t195 t196 a1).bind fun bt197 => (paviorlaw05_TlbDrops.j2 kj8 a1 a2 a3 t184 t192 bt197.1 bt197.2)) else ((tlb_Buffer_Page.f t195 t196 a1 a2).bind fun bt199 => (paviorlaw05_TlbDrops.j2 kj8 a1 a2 a3 t184 t192 bt199.1 bt199.2))) = some r := H
            have A16 := Aside0.mk A160
            clear A160
            have HC17 := Aside0.mk H
            clear H
            go_upto_if 39 with (first | (go_at_call 23; (with_reducible refine (tlb_Buffer_Entries.calls g187 x188000_1 x188001_1 t192 t195 t196 w _ ?side1 ?side2 A16.out).mono ?_); (case side1 => repeat (first | (with_reducible first | exact HI187.out | apply IsS84.alloc | apply IsS84.drewN | apply IsS84.drew | apply IsS84.set_0 | apply IsS84.set_1) | exact HI187.out)); (case side2 => repeat (first | (with_reducible first | exact HB.out | apply below_alloc | apply pw_below_drewN | apply below_drew1 | refine below_set ?_ (IsS84.ge HI187.out)) | exact HB.out)); rintro e w18 ⟨v193, rfl, ho0, hi, hb, hk⟩; have n0_ := Aside0.mk (Kd.R_lower ho0 (below_size (by repeat (first | (with_reducible first | exact HB.out | apply below_alloc | apply pw_below_drewN | apply below_drew1 | refine below_set ?_ (IsS84.ge HI187.out)) | exact HB.out)))); have n1_ := Aside0.mk (hb); have n2_ := Aside0.mk (hi); clear HB; clear HI187; have HO194 := n0_; have HB := n1_; have HI187 := n2_; clear n0_ n1_ n2_; (try clear hb); (try clear hb2); (try clear hk); (try clear hi); (try clear ho0)))
            repeat (go_quiet (first | (go_at_call 23; (with_reducible refine (tlb_Buffer_Entries.calls g187 x188000_1 x188001_1 t192 t195 t196 w _ ?side1 ?side2 A16.out).mono ?_); (case side1 => repeat (first | (with_reducible first | exact HI187.out | apply IsS84.alloc | apply IsS84.drewN | apply IsS84.drew | apply IsS84.set_0 | apply IsS84.set_1) | exact HI187.out)); (case side2 => repeat (first | (with_reducible first | exact HB.out | apply below_alloc | apply pw_below_drewN | apply below_drew1 | refine below_set ?_ (IsS84.ge HI187.out)) | exact HB.out)); rintro e w18 ⟨v193, rfl, ho0, hi, hb, hk⟩; have n0_ := Aside0.mk (Kd.R_lower ho0 (below_size (by repeat (first | (with_reducible first | exact HB.out | apply below_alloc | apply pw_below_drewN | apply below_drew1 | refine below_set ?_ (IsS84.ge HI187.out)) | exact HB.out)))); have n1_ := Aside0.mk (hb); have n2_ := Aside0.mk (hi); clear HB; clear HI187; have HO194 := n0_; have HB := n1_; have HI187 := n2_; clear n0_ n1_ n2_; (try clear hb); (try clear hb2); (try clear hk); (try clear hi); (try clear ho0))); go_upto_if 39 with (first | (go_at_call 23; (with_reducible refine (tlb_Buffer_Entries.calls g187 x188000_1 x188001_1 t192 t195 t196 w _ ?side1 ?side2 A16.out).mono ?_); (case side1 => repeat (first | (with_reducible first | exact HI187.out | apply IsS84.alloc | apply IsS84.drewN | apply IsS84.drew | apply IsS84.set_0 | apply IsS84.set_1) | exact HI187.out)); (case side2 => repeat (first | (with_reducible first | exact HB.out | apply below_alloc | apply pw_below_drewN | apply below_drew1 | refine below_set ?_ (IsS84.ge HI187.out)) | exact HB.out)); rintro e w18 ⟨v193, rfl, ho0, hi, hb, hk⟩; have n0_ := Aside0.mk (Kd.R_lower ho0 (below_size (by repeat (first | (with_reducible first | exact HB.out | apply below_alloc | apply pw_below_drewN | apply below_drew1 | refine below_set ?_ (IsS84.ge HI187.out)) | exact HB.out)))); have n1_ := Aside0.mk (hb); have n2_ := Aside0.mk (hi); clear HB; clear HI187; have HO194 := n0_; have HB := n1_; have HI187 := n2_; clear n0_ n1_ n2_; (try clear hb); (try clear hb2); (try clear hk); (try clear hi); (try clear ho0))))
            (try simp only [Act.put, List.setIfInBounds_toArray, List.set_cons_zero, List.set_cons_succ])
            go_cut [] (fun wc => ∃ (kq : Nat) (x188000_16 : List (S48)) (x188001_16 : Bool), Aside0 (paviorlaw05_TlbDrops.j2 kq a1 a2 a3 t184 t192 x188000_16 x188001_16 = some r) ∧ Aside0 (kq ≤ kj8) ∧ Aside0 (Kd.R k48 48 wc w.heap.size (fun _ => True) v193 t192) ∧ Aside0 (IsS84 w wc g187 x188000_16 x188001_16) ∧ Aside0 (Below w.heap.size w wc))
            case first =>
              have H := HC17.out
              clear HC17
              by_cases c19 : a3 = true
              · subst c19
                have H1 : ((tlb_Buffer_Space.f t195 t196 a1).bind fun bt197 => (paviorlaw05_TlbDrops.j2 kj8 a1 a2 true t184 t192 bt197.1 bt197.2)) = some r := by rw [if_pos rfl] at H; exact H
                clear H
                have H := H1
                clear H1
                replace H := Option.bind_eq_some_iff.mp H
                obtain ⟨⟨t197, t198⟩, A200, H⟩ := H
                replace H : (paviorlaw05_TlbDrops.j2 kj8 a1 a2 true t184 t192 t197 t198) = some r := H
                have A20 := Aside0.mk A200
                clear A200
                have H' := Aside0.mk H
                clear H
                go_wp2_with (first | (go_at_call 25; (with_reducible refine (tlb_Buffer_Space.calls g187 t195 t196 a1 t197 t198 w _ ?side1 ?side2 A20.out).mono ?_); (case side1 => repeat (first | (with_reducible first | exact HI187.out | apply IsS84.alloc | apply IsS84.drewN | apply IsS84.drew | apply IsS84.set_0 | apply IsS84.set_1) | exact HI187.out)); (case side2 => repeat (first | (with_reducible first | exact HB.out | apply below_alloc | apply pw_below_drewN | apply below_drew1 | refine below_set ?_ (IsS84.ge HI187.out)) | exact HB.out)); rintro e w21 ⟨rfl, hi, hb, hk⟩; have n0_ := Aside0.mk (Kd.R_mono (Kd.R_keep (IsS84.apart (show IsS84 w _ g187 t195 t196 from by repeat (first | (with_reducible first | exact HI187.out | apply IsS84.alloc | apply IsS84.drewN | apply IsS84.drew | apply IsS84.set_0 | apply IsS84.set_1) | exact HI187.out)) (by (with_reducible repeat (first | apply Kd.R_alloc | apply Kd.R_drewN | apply Kd.R_drew)); exact HO194.out) (by decide)) hk (fun _ h => h.2)) (fun _ h => h.1)); have n1_ := Aside0.mk (hb); have n2_ := Aside0.mk (hi); clear HO194; clear HB; clear HI187; have HO194 := n0_; have HB := n1_; have HI187 := n2_; clear n0_ n1_ n2_; (try clear hb); (try clear hb2); (try clear hk); (try clear hi)))
                repeat (go_quiet (first | (go_at_call 25; (with_reducible refine (tlb_Buffer_Space.calls g187 t195 t196 a1 t197 t198 w _ ?side1 ?side2 A20.out).mono ?_); (case side1 => repeat (first | (with_reducible first | exact HI187.out | apply IsS84.alloc | apply IsS84.drewN | apply IsS84.drew | apply IsS84.set_0 | apply IsS84.set_1) | exact HI187.out)); (case side2 => repeat (first | (with_reducible first | exact HB.out | apply below_alloc | apply pw_below_drewN | apply below_drew1 | refine below_set ?_ (IsS84.ge HI187.out)) | exact HB.out)); rintro e w21 ⟨rfl, hi, hb, hk⟩; have n0_ := Aside0.mk (Kd.R_mono (Kd.R_keep (IsS84.apart (show IsS84 w _ g187 t195 t196 from by repeat (first | (with_reducible first | exact HI187.out | apply IsS84.alloc | apply IsS84.drewN | apply IsS84.drew | apply IsS84.set_0 | apply IsS84.set_1) | exact HI187.out)) (by (with_reducible repeat (first | apply Kd.R_alloc | apply Kd.R_drewN | apply Kd.R_drew)); exact HO194.out) (by decide)) hk (fun _ h => h.2)) (fun _ h => h.1)); have n1_ := Aside0.mk (hb); have n2_ := Aside0.mk (hi); clear HO194; clear HB; clear HI187; have HO194 := n0_; have HB := n1_; have HI187 := n2_; clear n0_ n1_ n2_; (try clear hb); (try clear hb2); (try clear hk); (try clear hi))); try go_wp2_with (first | (go_at_call 25; (with_reducible refine (tlb_Buffer_Space.calls g187 t195 t196 a1 t197 t198 w _ ?side1 ?side2 A20.out).mono ?_); (case side1 => repeat (first | (with_reducible first | exact HI187.out | apply IsS84.alloc | apply IsS84.drewN | apply IsS84.drew | apply IsS84.set_0 | apply IsS84.set_1) | exact HI187.out)); (case side2 => repeat (first | (with_reducible first | exact HB.out | apply below_alloc | apply pw_below_drewN | apply below_drew1 | refine below_set ?_ (IsS84.ge HI187.out)) | exact HB.out)); rintro e w21 ⟨rfl, hi, hb, hk⟩; have n0_ := Aside0.mk (Kd.R_mono (Kd.R_keep (IsS84.apart (show IsS84 w _ g187 t195 t196 from by repeat (first | (with_reducible first | exact HI187.out | apply IsS84.alloc | apply IsS84.drewN | apply IsS84.drew | apply IsS84.set_0 | apply IsS84.set_1) | exact HI187.out)) (by (with_reducible repeat (first | apply Kd.R_alloc | apply Kd.R_drewN | apply Kd.R_drew)); exact HO194.out) (by decide)) hk (fun _ h => h.2)) (fun _ h => h.1)); have n1_ := Aside0.mk (hb); have n2_ := Aside0.mk (hi); clear HO194; clear HB; clear HI187; have HO194 := n0_; have HB := n1_; have HI187 := n2_; clear n0_ n1_ n2_; (try clear hb); (try clear hb2); (try clear hk); (try clear hi))))
                go_meet
                case rel => exact ⟨_, (t197), (t198), H', ⟨by have := HK1.out; have := HJ8.out; first | omega | exact Nat.le_refl _⟩, ⟨by (with_reducible repeat (first | apply Kd.R_alloc | apply Kd.R_drewN | apply Kd.R_drew)); exact HO194.out⟩, ⟨by repeat (first | (with_reducible first | exact HI187.out | apply IsS84.alloc | apply IsS84.drewN | apply IsS84.drew | apply IsS84.set_0 | apply IsS84.set_1) | exact HI187.out)⟩, ⟨by repeat (first | (with_reducible first | exact HB.out | apply below_alloc | apply pw_below_drewN | apply below_drew1 | refine below_set ?_ (IsS84.ge HI187.out)) | exact HB.out)⟩⟩
              · replace c19 := Bool.eq_false_iff.mpr c19
                subst c19
                have H1 : ((tlb_Buffer_Page.f t195 t196 a1 a2).bind fun bt199 => (paviorlaw05_TlbDrops.j2 kj8 a1 a2 false t184 t192 bt199.1 bt199.2)) = some r := by rw [if_neg (show ¬ (false = true) by decide)] at H; exact H
                clear H
                have H := H1
                clear H1
                replace H := Option.bind_eq_some_iff.mp H
                obtain ⟨⟨t199, t200⟩, A220, H⟩ := H
                replace H : (paviorlaw05_TlbDrops.j2 kj8 a1 a2 false t184 t192 t199 t200) = some r := H
                have A22 := Aside0.mk A220
                clear A220
                have H' := Aside0.mk H
                clear H
                go_wp2_with (first | (go_at_call 27; (with_reducible refine (tlb_Buffer_Page.calls g187 t195 t196 a1 a2 t199 t200 w _ ?side1 ?side2 A22.out).mono ?_); (case side1 => repeat (first | (with_reducible first | exact HI187.out | apply IsS84.alloc | apply IsS84.drewN | apply IsS84.drew | apply IsS84.set_0 | apply IsS84.set_1) | exact HI187.out)); (case side2 => repeat (first | (with_reducible first | exact HB.out | apply below_alloc | apply pw_below_drewN | apply below_drew1 | refine below_set ?_ (IsS84.ge HI187.out)) | exact HB.out)); rintro e w23 ⟨rfl, hi, hb, hk⟩; have n0_ := Aside0.mk (Kd.R_mono (Kd.R_keep (IsS84.apart (show IsS84 w _ g187 t195 t196 from by repeat (first | (with_reducible first | exact HI187.out | apply IsS84.alloc | apply IsS84.drewN | apply IsS84.drew | apply IsS84.set_0 | apply IsS84.set_1) | exact HI187.out)) (by (with_reducible repeat (first | apply Kd.R_alloc | apply Kd.R_drewN | apply Kd.R_drew)); exact HO194.out) (by decide)) hk (fun _ h => h.2)) (fun _ h => h.1)); have n1_ := Aside0.mk (hb); have n2_ := Aside0.mk (hi); clear HO194; clear HB; clear HI187; have HO194 := n0_; have HB := n1_; have HI187 := n2_; clear n0_ n1_ n2_; (try clear hb); (try clear hb2); (try clear hk); (try clear hi)))
                repeat (go_quiet (first | (go_at_call 27; (with_reducible refine (tlb_Buffer_Page.calls g187 t195 t196 a1 a2 t199 t200 w _ ?side1 ?side2 A22.out).mono ?_); (case side1 => repeat (first | (with_reducible first | exact HI187.out | apply IsS84.alloc | apply IsS84.drewN | apply IsS84.drew | apply IsS84.set_0 | apply IsS84.set_1) | exact HI187.out)); (case side2 => repeat (first | (with_reducible first | exact HB.out | apply below_alloc | apply pw_below_drewN | apply below_drew1 | refine below_set ?_ (IsS84.ge HI187.out)) | exact HB.out)); rintro e w23 ⟨rfl, hi, hb, hk⟩; have n0_ := Aside0.mk (Kd.R_mono (Kd.R_keep (IsS84.apart (show IsS84 w _ g187 t195 t196 from by repeat (first | (with_reducible first | exact HI187.out | apply IsS84.alloc | apply IsS84.drewN | apply IsS84.drew | apply IsS84.set_0 | apply IsS84.set_1) | exact HI187.out)) (by (with_reducible repeat (first | apply Kd.R_alloc | apply Kd.R_drewN | apply Kd.R_drew)); exact HO194.out) (by decide)) hk (fun _ h => h.2)) (fun _ h => h.1)); have n1_ := Aside0.mk (hb); have n2_ := Aside0.mk (hi); clear HO194; clear HB; clear HI187; have HO194 := n0_; have HB := n1_; have HI187 := n2_; clear n0_ n1_ n2_; (try clear hb); (try clear hb2); (try clear hk); (try clear hi))); try go_wp2_with (first | (go_at_call 27; (with_reducible refine (tlb_Buffer_Page.calls g187 t195 t196 a1 a2 t199 t200 w _ ?side1 ?side2 A22.out).mono ?_); (case side1 => repeat (first | (with_reducible first | exact HI187.out | apply IsS84.alloc | apply IsS84.drewN | apply IsS84.drew | apply IsS84.set_0 | apply IsS84.set_1) | exact HI187.out)); (case side2 => repeat (first | (with_reducible first | exact HB.out | apply below_alloc | apply pw_below_drewN | apply below_drew1 | refine below_set ?_ (IsS84.ge HI187.out)) | exact HB.out)); rintro e w23 ⟨rfl, hi, hb, hk⟩; have n0_ := Aside0.mk (Kd.R_mono (Kd.R_keep (IsS84.apart (show IsS84 w _ g187 t195 t196 from by repeat (first | (with_reducible first | exact HI187.out | apply IsS84.alloc | apply IsS84.drewN | apply IsS84.drew | apply IsS84.set_0 | apply IsS84.set_1) | exact HI187.out)) (by (with_reducible repeat (first | apply Kd.R_alloc | apply Kd.R_drewN | apply Kd.R_drew)); exact HO194.out) (by decide)) hk (fun _ h => h.2)) (fun _ h => h.1)); have n1_ := Aside0.mk (hb); have n2_ := Aside0.mk (hi); clear HO194; clear HB; clear HI187; have HO194 := n0_; have HB := n1_; have HI187 := n2_; clear n0_ n1_ n2_; (try clear hb); (try clear hb2); (try clear hk); (try clear hi))))
                go_meet
                case rel => exact ⟨_, (t199), (t200), H', ⟨by have := HK1.out; have := HJ8.out; first | omega | exact Nat.le_refl _⟩, ⟨by (with_reducible repeat (first | apply Kd.R_alloc | apply Kd.R_drewN | apply Kd.R_drew)); exact HO194.out⟩, ⟨by repeat (first | (with_reducible first | exact HI187.out | apply IsS84.alloc | apply IsS84.drewN | apply IsS84.drew | apply IsS84.set_0 | apply IsS84.set_1) | exact HI187.out)⟩, ⟨by repeat (first | (with_reducible first | exact HB.out | apply below_alloc | apply pw_below_drewN | apply below_drew1 | refine below_set ?_ (IsS84.ge HI187.out)) | exact HB.out)⟩⟩
            case rest =>
              clear HC17
              try clear c1
              try clear p1
              try clear q1
              try clear hx1
              try clear p2
              try clear p6
              try clear c9
              try clear c10
              try clear c10b0
              try clear c11
              try clear c12
              try clear c12b0
              try clear c13
              try clear c13b0
              try clear p18
              try clear q18
              try clear hx18
              try clear c19
              try clear hx188_0
              try clear hx188_1
              try clear hx188_2
              try clear hx188_3
              try clear hx188_4
              try clear hx188_5
              try clear p188
              try clear p2
              try clear q188
              obtain ⟨kq, x188000_16, x188001_16, HA, HJ16, HO_12, HI187, HB⟩ := hcut
              cases kq with
              | zero => exact absurd HA.out (by simp [paviorlaw05_TlbDrops.j2])
              | succ kj16 =>
                have H := HA.out
                clear HA
                simp only [paviorlaw05_TlbDrops.j2] at H
                replace H := Option.bind_eq_some_iff.mp H
                obtain ⟨⟨t201, t204, t205⟩, A240, H⟩ := H
                replace H : (paviorlaw05_TlbDrops.l1 kj16 a1 a2 a3 t184 t192 t201 0 0) = some r := H
                have A24 := Aside0.mk A240
                clear A240
                have H' := Aside0.mk H
                clear H
                go_wp2_with (first | (go_at_call 23; (with_reducible refine (tlb_Buffer_Entries.calls g187 x188000_16 x188001_16 t201 t204 t205 w _ ?side1 ?side2 A24.out).mono ?_); (case side1 => repeat (first | (with_reducible first | exact HI187.out | apply IsS84.alloc | apply IsS84.drewN | apply IsS84.drew | apply IsS84.set_0 | apply IsS84.set_1) | exact HI187.out)); (case side2 => repeat (first | (with_reducible first | exact HB.out | apply below_alloc | apply pw_below_drewN | apply below_drew1 | refine below_set ?_ (IsS84.ge HI187.out)) | exact HB.out)); rintro e w25 ⟨v202, rfl, ho0, hi, hb, hk⟩; have n0_ := Aside0.mk (Kd.R_mono (Kd.R_told (Kd.R_oldK (IsS84.apart (show IsS84 w _ g187 x188000_16 x188001_16 from by repeat (first | (with_reducible first | exact HI187.out | apply IsS84.alloc | apply IsS84.drewN | apply IsS84.drew | apply IsS84.set_0 | apply IsS84.set_1) | exact HI187.out)) (by (with_reducible repeat (first | apply Kd.R_alloc | apply Kd.R_drewN | apply Kd.R_drew)); exact HO_12.out) (by decide)) hk) (Kd.R_base ho0)) (fun _ h_ => h_.1)); have n1_ := Aside0.mk (Kd.R_lower (Kd.R_new' ho0 (Kd.R_lt (by (with_reducible repeat (first | apply Kd.R_alloc | apply Kd.R_drewN | apply Kd.R_drew)); exact HO_12.out))) (below_size (by repeat (first | (with_reducible first | exact HB.out | apply below_alloc | apply pw_below_drewN | apply below_drew1 | refine below_set ?_ (IsS84.ge HI187.out)) | exact HB.out)))); have n2_ := Aside0.mk (hb); have n3_ := Aside0.mk (hi); clear HO_12; clear HB; clear HI187; have HO_12 := n0_; have HO203 := n1_; have HB := n2_; have HI187 := n3_; clear n0_ n1_ n2_ n3_; (try clear hb); (try clear hb2); (try clear hk); (try clear hi); (try clear ho0)))
                repeat (go_quiet (first | (go_at_call 23; (with_reducible refine (tlb_Buffer_Entries.calls g187 x188000_16 x188001_16 t201 t204 t205 w _ ?side1 ?side2 A24.out).mono ?_); (case side1 => repeat (first | (with_reducible first | exact HI187.out | apply IsS84.alloc | apply IsS84.drewN | apply IsS84.drew | apply IsS84.set_0 | apply IsS84.set_1) | exact HI187.out)); (case side2 => repeat (first | (with_reducible first | exact HB.out | apply below_alloc | apply pw_below_drewN | apply below_drew1 | refine below_set ?_ (IsS84.ge HI187.out)) | exact HB.out)); rintro e w25 ⟨v202, rfl, ho0, hi, hb, hk⟩; have n0_ := Aside0.mk (Kd.R_mono (Kd.R_told (Kd.R_oldK (IsS84.apart (show IsS84 w _ g187 x188000_16 x188001_16 from by repeat (first | (with_reducible first | exact HI187.out | apply IsS84.alloc | apply IsS84.drewN | apply IsS84.drew | apply IsS84.set_0 | apply IsS84.set_1) | exact HI187.out)) (by (with_reducible repeat (first | apply Kd.R_alloc | apply Kd.R_drewN | apply Kd.R_drew)); exact HO_12.out) (by decide)) hk) (Kd.R_base ho0)) (fun _ h_ => h_.1)); have n1_ := Aside0.mk (Kd.R_lower (Kd.R_new' ho0 (Kd.R_lt (by (with_reducible repeat (first | apply Kd.R_alloc | apply Kd.R_drewN | apply Kd.R_drew)); exact HO_12.out))) (below_size (by repeat (first | (with_reducible first | exact HB.out | apply below_alloc | apply pw_below_drewN | apply below_drew1 | refine below_set ?_ (IsS84.ge HI187.out)) | exact HB.out)))); have n2_ := Aside0.mk (hb); have n3_ := Aside0.mk (hi); clear HO_12; clear HB; clear HI187; have HO_12 := n0_; have HO203 := n1_; have HB := n2_; have HI187 := n3_; clear n0_ n1_ n2_ n3_; (try clear hb); (try clear hb2); (try clear hk); (try clear hi); (try clear ho0))); try go_wp2_with (first | (go_at_call 23; (with_reducible refine (tlb_Buffer_Entries.calls g187 x188000_16 x188001_16 t201 t204 t205 w _ ?side1 ?side2 A24.out).mono ?_); (case side1 => repeat (first | (with_reducible first | exact HI187.out | apply IsS84.alloc | apply IsS84.drewN | apply IsS84.drew | apply IsS84.set_0 | apply IsS84.set_1) | exact HI187.out)); (case side2 => repeat (first | (with_reducible first | exact HB.out | apply below_alloc | apply pw_below_drewN | apply below_drew1 | refine below_set ?_ (IsS84.ge HI187.out)) | exact HB.out)); rintro e w25 ⟨v202, rfl, ho0, hi, hb, hk⟩; have n0_ := Aside0.mk (Kd.R_mono (Kd.R_told (Kd.R_oldK (IsS84.apart (show IsS84 w _ g187 x188000_16 x188001_16 from by repeat (first | (with_reducible first | exact HI187.out | apply IsS84.alloc | apply IsS84.drewN | apply IsS84.drew | apply IsS84.set_0 | apply IsS84.set_1) | exact HI187.out)) (by (with_reducible repeat (first | apply Kd.R_alloc | apply Kd.R_drewN | apply Kd.R_drew)); exact HO_12.out) (by decide)) hk) (Kd.R_base ho0)) (fun _ h_ => h_.1)); have n1_ := Aside0.mk (Kd.R_lower (Kd.R_new' ho0 (Kd.R_lt (by (with_reducible repeat (first | apply Kd.R_alloc | apply Kd.R_drewN | apply Kd.R_drew)); exact HO_12.out))) (below_size (by repeat (first | (with_reducible first | exact HB.out | apply below_alloc | apply pw_below_drewN | apply below_drew1 | refine below_set ?_ (IsS84.ge HI187.out)) | exact HB.out)))); have n2_ := Aside0.mk (hb); have n3_ := Aside0.mk (hi); clear HO_12; clear HB; clear HI187; have HO_12 := n0_; have HO203 := n1_; have HB := n2_; have HI187 := n3_; clear n0_ n1_ n2_ n3_; (try clear hb); (try clear hb2); (try clear hk); (try clear hi); (try clear ho0))))
                go_loopg [14, 15] kj16 (fun kq v14 v15 w' => ∃ (x14_4 : Int) (x15_4 : Int), v14 = .int .i64 x14_4 ∧ v15 = .int .i64 x15_4 ∧ Aside0 (paviorlaw05_TlbDrops.l1 kq a1 a2 a3 t184 t192 t201 x14_4 x15_4 = some r) ∧ Aside0 (kq ≤ kj16) ∧ Aside0 (Kd.R k48 48 w' w.heap.size (fun k_ => some k_ ≠ (v202 : Value).ownBlock) v193 t192) ∧ Aside0 (Kd.R k48 48 w' w.heap.size (fun k_ => some k_ ≠ (v193 : Value).ownBlock) v202 t201) ∧ Aside0 (Below w.heap.size w w'))
                case atStart => exact ⟨(0), (0), (by first | rfl | (simp; done) | (simp [*]; done)), (by first | rfl | (simp; done) | (simp [*]; done)), H', ⟨Nat.le_refl _⟩, ⟨by (with_reducible repeat (first | apply Kd.R_alloc | apply Kd.R_drewN | apply Kd.R_drew)); exact Kd.R_mono HO_12.out (fun _ hk => hk.2)⟩, ⟨by (with_reducible repeat (first | apply Kd.R_alloc | apply Kd.R_drewN | apply Kd.R_drew)); exact Kd.R_mono HO203.out (fun _ hk => hk.2)⟩, ⟨by repeat (first | (with_reducible first | exact HB.out | apply below_alloc | apply pw_below_drewN | apply below_drew1 | refine below_set ?_ (IsS84.ge HI187.out)) | exact HB.out)⟩⟩
                case round =>
                  clear H'
                  try clear c1
                  try clear p1
                  try clear q1
                  try clear hx1
                  try clear p2
                  try clear p6
                  try clear c9
                  try clear c10
                  try clear c10b0
                  try clear c11
                  try clear c12
                  try clear c12b0
                  try clear c13
                  try clear c13b0
                  try clear p18
                  try clear q18
                  try clear hx18
                  try clear c19
                  try clear hx188_0
                  try clear hx188_1
                  try clear hx188_2
                  try clear hx188_3
                  try clear hx188_4
                  try clear hx188_5
                  try clear p1
                  try clear p18
                  try clear p188
                  try clear p2
                  try clear p6
                  try clear q1
                  try clear q18
                  try clear q188
                  obtain ⟨x14_4, x15_4, rfl, rfl, HA, HK4, HO_12, HO_13, HB⟩ := hrel
                  cases gk with
                  | zero => exact absurd HA.out (by simp [paviorlaw05_TlbDrops.l1])
                  | succ k4 =>
                    have H := HA.out
                    clear HA
                    simp only [paviorlaw05_TlbDrops.l1] at H
                    by_cases c26 : x15_4 < (t192.length : Int)
                    · rw [if_pos c26] at H
                      have c26b0 : decide (x15_4 < (t192.length : Int)) = true := decide_eq_true c26
                      clear c26
                      by_cases c27 : 0 ≤ x15_4
                      · rw [if_pos c27] at H
                        have c27b0 : decide (0 ≤ x15_4) = true := decide_eq_true c27
                        clear c27
                        replace H := Option.bind_eq_some_iff.mp H
                        obtain ⟨t207, A280, H⟩ := H
                        replace H : (if a3 = true then (paviorlaw05_TlbDrops.j4 k4 a1 a2 a3 t184 t192 t201 x14_4 x15_4 (((rd_T48 t192 x15_4).f0) == a1)) else (paviorlaw05_TlbDrops.j4 k4 a1 a2 a3 t184 t192 t201 x14_4 x15_4 t207)) = some r := H
                        have A28 := Aside0.mk A280
                        clear A280
                        have HC29 := Aside0.mk H
                        clear H
                        obtain ⟨Ao30, co30, eo30⟩ := Kd.R_slice HO_12.out
                        subst eo30
                        have p206 : 0 ≤ (x15_4 : Int) := of_decide_eq_true (by first | (with_reducible assumption) | assumption)
                        have q206 : x15_4 < (t192.length : Int) := of_decide_eq_true (by first | (with_reducible assumption) | assumption)
                        obtain ⟨ad206, e206, hx206_0, hx206_1, hx206_2, hx206_3, hx206_4, hx206_5⟩ := at_T48 (Kd.R_reads' HO_12.out).2.2 x15_4 p206 q206
                        cases e206
                        replace p206 := eq_true p206
                        replace q206 := eq_true q206
                        go_upto_if 62 with (first | (go_at_call 28; (with_reducible refine (paviorref05_Is.calls ((rd_T48 t192 x15_4).f0) ((rd_T48 t192 x15_4).f1) ((rd_T48 t192 x15_4).f2) ((rd_T48 t192 x15_4).f3) ((rd_T48 t192 x15_4).f4) ((rd_T48 t192 x15_4).f5) a1 a2 t207 _ A28.out).mono ?_); rintro e w31 ⟨rfl, hb⟩; have n0_ := Aside0.mk (Kd.R_below (by (with_reducible repeat (first | apply Kd.R_alloc | apply Kd.R_drewN | apply Kd.R_drew)); exact HO_12.out) hb); have n1_ := Aside0.mk (Kd.R_below (by (with_reducible repeat (first | apply Kd.R_alloc | apply Kd.R_drewN | apply Kd.R_drew)); exact HO_13.out) hb); have n2_ := Aside0.mk (below_step (by repeat (first | (with_reducible first | exact HB.out | apply below_alloc | apply pw_below_drewN | apply below_drew1) | exact HB.out)) hb); clear HO_12; clear HO_13; clear HB; have HO_12 := n0_; have HO_13 := n1_; have HB := n2_; clear n0_ n1_ n2_; (try clear hb); (try clear hb2); (try clear hk); (try clear hi)))
                        repeat (go_quiet (first | (go_at_call 28; (with_reducible refine (paviorref05_Is.calls ((rd_T48 t192 x15_4).f0) ((rd_T48 t192 x15_4).f1) ((rd_T48 t192 x15_4).f2) ((rd_T48 t192 x15_4).f3) ((rd_T48 t192 x15_4).f4) ((rd_T48 t192 x15_4).f5) a1 a2 t207 _ A28.out).mono ?_); rintro e w31 ⟨rfl, hb⟩; have n0_ := Aside0.mk (Kd.R_below (by (with_reducible repeat (first | apply Kd.R_alloc | apply Kd.R_drewN | apply Kd.R_drew)); exact HO_12.out) hb); have n1_ := Aside0.mk (Kd.R_below (by (with_reducible repeat (first | apply Kd.R_alloc | apply Kd.R_drewN | apply Kd.R_drew)); exact HO_13.out) hb); have n2_ := Aside0.mk (below_step (by repeat (first | (with_reducible first | exact HB.out | apply below_alloc | apply pw_below_drewN | apply below_drew1) | exact HB.out)) hb); clear HO_12; clear HO_13; clear HB; have HO_12 := n0_; have HO_13 := n1_; have HB := n2_; clear n0_ n1_ n2_; (try clear hb); (try clear hb2); (try clear hk); (try clear hi))); go_upto_if 62 with (first | (go_at_call 28; (with_reducible refine (paviorref05_Is.calls ((rd_T48 t192 x15_4).f0) ((rd_T48 t192 x15_4).f1) ((rd_T48 t192 x15_4).f2) ((rd_T48 t192 x15_4).f3) ((rd_T48 t192 x15_4).f4) ((rd_T48 t192 x15_4).f5) a1 a2 t207 _ A28.out).mono ?_); rintro e w31 ⟨rfl, hb⟩; have n0_ := Aside0.mk (Kd.R_below (by (with_reducible repeat (first | apply Kd.R_alloc | apply Kd.R_drewN | apply Kd.R_drew)); exact HO_12.out) hb); have n1_ := Aside0.mk (Kd.R_below (by (with_reducible repeat (first | apply Kd.R_alloc | apply Kd.R_drewN | apply Kd.R_drew)); exact HO_13.out) hb); have n2_ := Aside0.mk (below_step (by repeat (first | (with_reducible first | exact HB.out | apply below_alloc | apply pw_below_drewN | apply below_drew1) | exact HB.out)) hb); clear HO_12; clear HO_13; clear HB; have HO_12 := n0_; have HO_13 := n1_; have HB := n2_; clear n0_ n1_ n2_; (try clear hb); (try clear hb2); (try clear hk); (try clear hi))))
                        (try simp only [Act.put, List.setIfInBounds_toArray, List.set_cons_zero, List.set_cons_succ])
                        go_cut [16] (fun v16 wc => ∃ (kq : Nat) (x16_28 : Bool), v16 = .bool x16_28 ∧ Aside0 (paviorlaw05_TlbDrops.j4 kq a1 a2 a3 t184 t192 t201 x14_4 x15_4 x16_28 = some r) ∧ Aside0 (kq ≤ k4) ∧ Aside0 (Kd.R k48 48 wc w.heap.size (fun k_ => some k_ ≠ (v202 : Value).ownBlock) (.slice (some ad206) t192.length co30) t192) ∧ Aside0 (Kd.R k48 48 wc w.heap.size (fun k_ => some k_ ≠ ((.slice (some ad206) t192.length co30) : Value).ownBlock) v202 t201) ∧ Aside0 (Below w.heap.size w wc))
                        case first =>
                          have H := HC29.out
                          clear HC29
                          by_cases c32 : a3 = true
                          · subst c32
                            have H1 : (paviorlaw05_TlbDrops.j4 k4 a1 a2 true t184 t192 t201 x14_4 x15_4 (((rd_T48 t192 x15_4).f0) == a1)) = some r := by rw [if_pos rfl] at H; exact H
                            clear H
                            have H := H1
                            clear H1
                            have H' := Aside0.mk H
                            clear H
                            have p208 : 0 ≤ (x15_4 : Int) := of_decide_eq_true (by first | (with_reducible assumption) | assumption)
                            have q208 : x15_4 < (t192.length : Int) := of_decide_eq_true (by first | (with_reducible assumption) | assumption)
                            obtain ⟨ad208, e208, hx208_0, hx208_1, hx208_2, hx208_3, hx208_4, hx208_5⟩ := at_T48 (Kd.R_reads' HO_12.out).2.2 x15_4 p208 q208
                            obtain rfl : ad206 = ad208 := (by injection e208)
                            replace p208 := eq_true p208
                            replace q208 := eq_true q208
                            go_wp2
                            repeat (go_quiet (fail); try go_wp2)
                            go_meet
                            case rel => exact ⟨_, ((((rd_T48 t192 x15_4).f0) == a1)), (by first | rfl | (simp; done) | (simp [*]; done)), H', ⟨by have := HK1.out; have := HJ8.out; have := HJ16.out; have := HK4.out; first | omega | exact Nat.le_refl _⟩, ⟨by (with_reducible repeat (first | apply Kd.R_alloc | apply Kd.R_drewN | apply Kd.R_drew)); exact HO_12.out⟩, ⟨by (with_reducible repeat (first | apply Kd.R_alloc | apply Kd.R_drewN | apply Kd.R_drew)); exact HO_13.out⟩, ⟨by repeat (first | (with_reducible first | exact HB.out | apply below_alloc | apply pw_below_drewN | apply below_drew1) | exact HB.out)⟩⟩
                          · replace c32 := Bool.eq_false_iff.mpr c32
                            subst c32
                            have H1 : (paviorlaw05_TlbDrops.j4 k4 a1 a2 false t184 t192 t201 x14_4 x15_4 t207) = some r := by rw [if_neg (show ¬ (false = true) by decide)] at H; exact H
                            clear H
                            have H := H1
                            clear H1
                            have H' := Aside0.mk H
                            clear H
                            go_wp2
                            repeat (go_quiet (fail); try go_wp2)
                            go_meet
                            case rel => exact ⟨_, (t207), (by first | rfl | (simp; done) | (simp [*]; done)), H', ⟨by have := HK1.out; have := HJ8.out; have := HJ16.out; have := HK4.out; first | omega | exact Nat.le_refl _⟩, ⟨by (with_reducible repeat (first | apply Kd.R_alloc | apply Kd.R_drewN | apply Kd.R_drew)); exact HO_12.out⟩, ⟨by (with_reducible repeat (first | apply Kd.R_alloc | apply Kd.R_drewN | apply Kd.R_drew)); exact HO_13.out⟩, ⟨by repeat (first | (with_reducible first | exact HB.out | apply below_alloc | apply pw_below_drewN | apply below_drew1) | exact HB.out)⟩⟩
                        case rest =>
                          clear HC29
                          try clear c1
                          try clear p1
                          try clear q1
                          try clear hx1
                          try clear c2
                          try clear p2
                          try clear q2
                          try clear hx2
                          try clear c3
                          try clear p6
                          try clear c9
                          try clear c10
                          try clear c10b0
                          try clear c11
                          try clear c12
                          try clear c12b0
                          try clear c13
                          try clear c13b0
                          try clear p18
                          try clear q18
                          try clear hx18
                          try clear c19
                          try clear p20
                          try clear q20
                          try clear hx20
                          try clear c26
                          try clear c26b0
                          try clear c27
                          try clear c27b0
                          try clear c32
                          try clear hx188_0
                          try clear hx188_1
                          try clear hx188_2
                          try clear hx188_3
                          try clear hx188_4
                          try clear hx188_5
                          try clear hx206_0
                          try clear hx206_1
                          try clear hx206_2
                          try clear hx206_3
                          try clear hx206_4
                          try clear hx206_5
                          try clear hx208_0
                          try clear hx208_1
                          try clear hx208_2
                          try clear hx208_3
                          try clear hx208_4
                          try clear hx208_5
                          try clear p1
                          try clear p18
                          try clear p188
                          try clear p2
                          try clear p206
                          try clear p208
                          try clear p6
                          try clear q1
                          try clear q18
                          try clear q188
                          try clear q206
                          try clear q208
                          obtain ⟨kq, x16_28, rfl, HA, HJ28, HO_12, HO_13, HB⟩ := hcut
                          cases kq with
                          | zero => exact absurd HA.out (by simp [paviorlaw05_TlbDrops.j4])
                          | succ kj28 =>
                            have H := HA.out
                            clear HA
                            simp only [paviorlaw05_TlbDrops.j4] at H
                            by_cases c33 : x16_28 = true
                            · subst c33
                              have H1 : (paviorlaw05_TlbDrops.l1 kj28 a1 a2 a3 t184 t192 t201 x14_4 (wrap64 (x15_4 + 1))) = some r := by rw [if_pos rfl] at H; exact H
                              clear H
                              have H := H1
                              clear H1
                              have H' := Aside0.mk H
                              clear H
                              go_wp2
                              repeat (go_quiet (fail); try go_wp2)
                              go_roundg kj28
                              case measure => have := HK1.out; have := HJ8.out; have := HJ16.out; have := HK4.out; have := HJ28.out; omega
                              case rel => exact ⟨(x14_4), (wrap64 (x15_4 + 1)), (by first | rfl | (simp; done) | (simp [*]; done)), (by first | rfl | (simp; done) | (simp [*]; done)), H', ⟨by have := HK1.out; have := HJ8.out; have := HJ16.out; have := HK4.out; have := HJ28.out; omega⟩, ⟨by (with_reducible repeat (first | apply Kd.R_alloc | apply Kd.R_drewN | apply Kd.R_drew)); exact HO_12.out⟩, ⟨by (with_reducible repeat (first | apply Kd.R_alloc | apply Kd.R_drewN | apply Kd.R_drew)); exact HO_13.out⟩, ⟨by repeat (first | (with_reducible first | exact HB.out | apply below_alloc | apply pw_below_drewN | apply below_drew1) | exact HB.out)⟩⟩
                            · replace c33 := Bool.eq_false_iff.mpr c33
                              subst c33
                              have H1 : (if x14_4 ≥ (t201.length : Int) then (paviorlaw05_TlbDrops.j5 kj28 a1 a2 a3 t184 t192 t201 x14_4 x15_4 true) else (if 0 ≤ x14_4 then (if x14_4 < (t201.length : Int) then (if 0 ≤ x15_4 then (if x15_4 < (t192.length : Int) then (paviorlaw05_TlbDrops.j5 kj28 a1 a2 a3 t184 t192 t201 x14_4 x15_4 (!(((rd_T48 t201 x14_4).f0) == ((rd_T48 t192 x15_4).f0)) || (!(((rd_T48 t201 x14_4).f1) == ((rd_T48 t192 x15_4).f1)) || (!(((rd_T48 t201 x14_4).f2) == ((rd_T48 t192 x15_4).f2)) || (!(((rd_T48 t201 x14_4).f3) == ((rd_T48 t192 x15_4).f3)) || (!(((rd_T48 t201 x14_4).f4) == ((rd_T48 t192 x15_4).f4)) || (!(((rd_T48 t201 x14_4).f5) == ((rd_T48 t192 x15_4).f5))))))))) else (none)) else (none)) else (none)) else (none))) = some r := by rw [if_neg (show ¬ (false = true) by decide)] at H; exact H
                              clear H
                              have H := H1
                              clear H1
                              have HC34 := Aside0.mk H
                              clear H
                              go_upto_region 22 with (fail)
                              repeat (go_quiet (fail); go_upto_region 22 with (fail))
                              go_cut [85] (fun v85 wc => ∃ (kq : Nat) (x85_33 : Bool), v85 = .bool x85_33 ∧ Aside0 (paviorlaw05_TlbDrops.j5 kq a1 a2 a3 t184 t192 t201 x14_4 x15_4 x85_33 = some r) ∧ Aside0 (kq ≤ kj28) ∧ Aside0 (Kd.R k48 48 wc w.heap.size (fun k_ => some k_ ≠ (v202 : Value).ownBlock) (.slice (some ad206) t192.length co30) t192) ∧ Aside0 (Kd.R k48 48 wc w.heap.size (fun k_ => some k_ ≠ ((.slice (some ad206) t192.length co30) : Value).ownBlock) v202 t201) ∧ Aside0 (Below w.heap.size w wc))
                              case first =>
                                have H := HC34.out
                                clear HC34
                                by_cases c35 : x14_4 ≥ (t201.length : Int)
                                · rw [if_pos c35] at H
                                  have c35b0 : decide ((t201.length : Int) ≤ x14_4) = true := decide_eq_true c35
                                  clear c35
                                  (first | rw [c35b0] | (simp only [i64_w, i32_w]; rw [c35b0]) | skip)
                                  have H' := Aside0.mk H
                                  clear H
                                  obtain ⟨Ao36, co36, eo36⟩ := Kd.R_slice HO_13.out
                                  subst eo36
                                  go_wp2
                                  repeat (go_quiet (fail); try go_wp2)
                                  go_meet
                                  case rel => exact ⟨_, (true), (by first | rfl | (simp; done) | (simp [*]; done)), H', ⟨by have := HK1.out; have := HJ8.out; have := HJ16.out; have := HK4.out; have := HJ28.out; first | omega | exact Nat.le_refl _⟩, ⟨by (with_reducible repeat (first | apply Kd.R_alloc | apply Kd.R_drewN | apply Kd.R_drew)); exact HO_12.out⟩, ⟨by (with_reducible repeat (first | apply Kd.R_alloc | apply Kd.R_drewN | apply Kd.R_drew)); exact HO_13.out⟩, ⟨by repeat (first | (with_reducible first | exact HB.out | apply below_alloc | apply pw_below_drewN | apply below_drew1) | exact HB.out)⟩⟩
                                · rw [if_neg c35] at H
                                  have c35b0 : decide ((t201.length : Int) ≤ x14_4) = false := decide_eq_false c35
                                  clear c35
                                  (first | rw [c35b0] | (simp only [i64_w, i32_w]; rw [c35b0]) | skip)
                                  by_cases c37 : 0 ≤ x14_4
                                  · rw [if_pos c37] at H
                                    have c37b0 : decide (0 ≤ x14_4) = true := decide_eq_true c37
                                    clear c37
                                    by_cases c38 : x14_4 < (t201.length : Int)
                                    · rw [if_pos c38] at H
                                      have c38b0 : decide (x14_4 < (t201.length : Int)) = true := decide_eq_true c38
                                      clear c38
                                      by_cases c39 : 0 ≤ x15_4
                                      · rw [if_pos c39] at H
                                        have c39b0 : decide (0 ≤ x15_4) = true := decide_eq_true c39
                                        clear c39
                                        by_cases c40 : x15_4 < (t192.length : Int)
                                        · rw [if_pos c40] at H
                                          have c40b0 : decide (x15_4 < (t192.length : Int)) = true := decide_eq_true c40
                                          clear c40
                                          have H' := Aside0.mk H
                                          clear H
                                          obtain ⟨Ao41, co41, eo41⟩ := Kd.R_slice HO_13.out
                                          subst eo41
                                          have p209 : 0 ≤ (x14_4 : Int) := of_decide_eq_true (by first | (with_reducible assumption) | assumption)
                                          have q209 : x14_4 < (t201.length : Int) := of_decide_eq_true (by first | (with_reducible assumption) | assumption)
                                          obtain ⟨ad209, e209, hx209_0, hx209_1, hx209_2, hx209_3, hx209_4, hx209_5⟩ := at_T48 (Kd.R_reads' HO_13.out).2.2 x14_4 p209 q209
                                          cases e209
                                          replace p209 := eq_true p209
                                          replace q209 := eq_true q209
                                          have p210 : 0 ≤ (x15_4 : Int) := of_decide_eq_true (by first | (with_reducible assumption) | assumption)
                                          have q210 : x15_4 < (t192.length : Int) := of_decide_eq_true (by first | (with_reducible assumption) | assumption)
                                          obtain ⟨ad210, e210, hx210_0, hx210_1, hx210_2, hx210_3, hx210_4, hx210_5⟩ := at_T48 (Kd.R_reads' HO_12.out).2.2 x15_4 p210 q210
                                          obtain rfl : ad206 = ad210 := (by injection e210)
                                          replace p210 := eq_true p210
                                          replace q210 := eq_true q210
                                          go_wp2
                                          repeat (go_quiet (fail); try go_wp2)
                                          go_meet
                                          case rel => exact ⟨_, ((!(((rd_T48 t201 x14_4).f0) == ((rd_T48 t192 x15_4).f0)) || (!(((rd_T48 t201 x14_4).f1) == ((rd_T48 t192 x15_4).f1)) || (!(((rd_T48 t201 x14_4).f2) == ((rd_T48 t192 x15_4).f2)) || (!(((rd_T48 t201 x14_4).f3) == ((rd_T48 t192 x15_4).f3)) || (!(((rd_T48 t201 x14_4).f4) == ((rd_T48 t192 x15_4).f4)) || (!(((rd_T48 t201 x14_4).f5) == ((rd_T48 t192 x15_4).f5))))))))), (by first | rfl | (simp; done) | (simp [*]; done)), H', ⟨by have := HK1.out; have := HJ8.out; have := HJ16.out; have := HK4.out; have := HJ28.out; first | omega | exact Nat.le_refl _⟩, ⟨by (with_reducible repeat (first | apply Kd.R_alloc | apply Kd.R_drewN | apply Kd.R_drew)); exact HO_12.out⟩, ⟨by (with_reducible repeat (first | apply Kd.R_alloc | apply Kd.R_drewN | apply Kd.R_drew)); exact HO_13.out⟩, ⟨by repeat (first | (with_reducible first | exact HB.out | apply below_alloc | apply pw_below_drewN | apply below_drew1) | exact HB.out)⟩⟩
                                        · rw [if_neg c40] at H
                                          exact absurd H (by simp)
                                      · rw [if_neg c39] at H
                                        exact absurd H (by simp)
                                    · rw [if_neg c38] at H
                                      exact absurd H (by simp)
                                  · rw [if_neg c37] at H
                                    exact absurd H (by simp)
                              case rest =>
                                clear HC34
                                try clear c1
                                try clear p1
                                try clear q1
                                try clear hx1
                                try clear c2
                                try clear p2
                                try clear q2
                                try clear hx2
                                try clear c3
                                try clear c4
                                try clear p6
                                try clear c9
                                try clear c10
                                try clear c10b0
                                try clear c11
                                try clear c12
                                try clear c12b0
                                try clear c13
                                try clear c13b0
                                try clear p18
                                try clear q18
                                try clear hx18
                                try clear c19
                                try clear p20
                                try clear q20
                                try clear hx20
                                try clear p21
                                try clear q21
                                try clear hx21
                                try clear c26
                                try clear c26b0
                                try clear c27
                                try clear c27b0
                                try clear c32
                                try clear c33
                                try clear c35
                                try clear c35b0
                                try clear c37
                                try clear c37b0
                                try clear c38
                                try clear c38b0
                                try clear c39
                                try clear c39b0
                                try clear c40
                                try clear c40b0
                                try clear hx188_0
                                try clear hx188_1
                                try clear hx188_2
                                try clear hx188_3
                                try clear hx188_4
                                try clear hx188_5
                                try clear hx206_0
                                try clear hx206_1
                                try clear hx206_2
                                try clear hx206_3
                                try clear hx206_4
                                try clear hx206_5
                                try clear hx208_0
                                try clear hx208_1
                                try clear hx208_2
                                try clear hx208_3
                                try clear hx208_4
                                try clear hx208_5
                                try clear hx209_0
                                try clear hx209_1
                                try clear hx209_2
                                try clear hx209_3
                                try clear hx209_4
                                try clear hx209_5
                                try clear hx210_0
                                try clear hx210_1
                                try clear hx210_2
                                try clear hx210_3
                                try clear hx210_4
                                try clear hx210_5
                                try clear p1
                                try clear p18
                                try clear p188
                                try clear p2
                                try clear p20
                                try clear p206
                                try clear p208
                                try clear p209
                                try clear p210
                                try clear p6
                                try clear q1
                                try clear q18
                                try clear q188
                                try clear q2
                                try clear q20
                                try clear q206
                                try clear q208
                                try clear q209
                                try clear q210
                                obtain ⟨kq, x85_33, rfl, HA, HJ33, HO_12, HO_13, HB⟩ := hcut
                                cases kq with
                                | zero => exact absurd HA.out (by simp [paviorlaw05_TlbDrops.j5])
                                | succ kj33 =>
                                  have H := HA.out
                                  clear HA
                                  simp only [paviorlaw05_TlbDrops.j5] at H
                                  by_cases c42 : x85_33 = true
                                  · subst c42
                                    have H1 : (some false) = some r := by rw [if_pos rfl] at H; exact H
                                    clear H
                                    have H := H1
                                    clear H1
                                    obtain rfl := Option.some.inj H
                                    go_wp2
                                    repeat (go_quiet (fail); try go_wp2)
                                    go_ret
                                    exact ⟨by first | rfl | (simp [errW_none, errW_some] <;> rfl) | (simp [*, errW_none, errW_some] <;> rfl), by repeat (first | (with_reducible first | exact HB.out | apply below_alloc | apply pw_below_drewN | apply below_drew1) | exact HB.out)⟩
                                  · replace c42 := Bool.eq_false_iff.mpr c42
                                    subst c42
                                    have H1 : (paviorlaw05_TlbDrops.l1 kj33 a1 a2 a3 t184 t192 t201 (wrap64 (x14_4 + 1)) (wrap64 (x15_4 + 1))) = some r := by rw [if_neg (show ¬ (false = true) by decide)] at H; exact H
                                    clear H
                                    have H := H1
                                    clear H1
                                    have H' := Aside0.mk H
                                    clear H
                                    go_wp2
                                    repeat (go_quiet (fail); try go_wp2)
                                    go_roundg kj33
                                    case measure => have := HK1.out; have := HJ8.out; have := HJ16.out; have := HK4.out; have := HJ28.out; have := HJ33.out; omega
                                    case rel => exact ⟨(wrap64 (x14_4 + 1)), (wrap64 (x15_4 + 1)), (by first | rfl | (simp; done) | (simp [*]; done)), (by first | rfl | (simp; done) | (simp [*]; done)), H', ⟨by have := HK1.out; have := HJ8.out; have := HJ16.out; have := HK4.out; have := HJ28.out; have := HJ33.out; omega⟩, ⟨by (with_reducible repeat (first | apply Kd.R_alloc | apply Kd.R_drewN | apply Kd.R_drew)); exact HO_12.out⟩, ⟨by (with_reducible repeat (first | apply Kd.R_alloc | apply Kd.R_drewN | apply Kd.R_drew)); exact HO_13.out⟩, ⟨by repeat (first | (with_reducible first | exact HB.out | apply below_alloc | apply pw_below_drewN | apply below_drew1) | exact HB.out)⟩⟩
                      · rw [if_neg c27] at H
                        exact absurd H (by simp)
                    · rw [if_neg c26] at H
                      have c26b0 : decide (x15_4 < (t192.length : Int)) = false := decide_eq_false c26
                      clear c26
                      by_cases c43 : t184 = true
                      · subst c43
                        have H1 : (some (x14_4 == (t201.length : Int))) = some r := by rw [if_pos rfl] at H; exact H
                        clear H
                        have H := H1
                        clear H1
                        obtain rfl := Option.some.inj H
                        obtain ⟨Ao44, co44, eo44⟩ := Kd.R_slice HO_12.out
                        subst eo44
                        obtain ⟨Ao45, co45, eo45⟩ := Kd.R_slice HO_13.out
                        subst eo45
                        go_wp2
                        repeat (go_quiet (fail); try go_wp2)
                        go_ret
                        exact ⟨by first | rfl | (simp [errW_none, errW_some] <;> rfl) | (simp [*, errW_none, errW_some] <;> rfl), by repeat (first | (with_reducible first | exact HB.out | apply below_alloc | apply pw_below_drewN | apply below_drew1) | exact HB.out)⟩
                      · replace c43 := Bool.eq_false_iff.mpr c43
                        subst c43
                        have H1 : (some false) = some r := by rw [if_neg (show ¬ (false = true) by decide)] at H; exact H
                        clear H
                        have H := H1
                        clear H1
                        obtain rfl := Option.some.inj H
                        obtain ⟨Ao46, co46, eo46⟩ := Kd.R_slice HO_12.out
                        subst eo46
                        go_wp2
                        repeat (go_quiet (fail); try go_wp2)
                        go_ret
                        exact ⟨by first | rfl | (simp [errW_none, errW_some] <;> rfl) | (simp [*, errW_none, errW_some] <;> rfl), by repeat (first | (with_reducible first | exact HB.out | apply below_alloc | apply pw_below_drewN | apply below_drew1) | exact HB.out)⟩

/-- THE ONE PURE STATEMENT of paviorlaw05_TlbDrops. -/
def paviorlaw05_TlbDrops.Pure : Prop := ∀ (l0 : List (S48)) (a1 : Int) (a2 : Int) (a3 : Bool), l0.length ≤ maxLen → (∀ x ∈ l0, ((Lit.int .i64 x.f0).wf = true ∧ (Lit.int .i64 x.f1).wf = true ∧ (Lit.int .i64 x.f2).wf = true ∧ (Lit.int .i64 x.f3).wf = true ∧ True ∧ True)) → (Lit.int .i64 a1).wf = true → (Lit.int .i64 a2).wf = true → ∃ k, paviorlaw05_TlbDrops.f k l0 a1 a2 a3 = some true

end Go.Proofs.Ytlmjjkggoemabaa.Qt
