-- Written by this session's program wip/tools/xprint.py (the kit's printer, turned by it); not the kit's own print.
import Derived.Test.YtobbcfpkmmafnabQx0
import Derived.Test.YtobbcfpkmmafnabQx1
import Derived.Test.YtobbcfpkmmafnabQx2
import Derived.Test.YtobbcfpkmmafnabQx3
namespace Go.Proofs.Ytobbcfpkmmafnab.Q
open Go.RowKit Go.Proofs.YtobbcfpkmmafnabW.PrintWords Go.Proofs.YtobbcfpkmmafnabW.PrintLast Go.Proofs.YtobbcfpkmmafnabW.PrintMore
attribute [local go_sem] max2_int min2_int max_two min_two max_three min_three max_four min_four   -- for this text's walks alone
set_option linter.unusedVariables false
set_option linter.unusedSimpArgs false

attribute [local go_sem high] eqA25
attribute [local go_sem high] eqErr_some neErr_some eqErr_left neErr_left
/-! ### paviorlaw02_PteBack: function 5 -/
mutual
def paviorlaw02_PteBack.j0 : Nat → Int → Int → Bool → Bool → Option (Bool)
  | 0, _, _, _, _ => none
  | k + 1, x0, x2, x7, x37 => if x37 = true then (some false) else ((pte_Decode.f k x0 x2).bind fun bt245 => (if bt245.2.2.2.2.2.2.2.isNone = true then (paviorlaw02_PteBack.j1 k x0 x2 x7 (bt245.1 == 5) bt245.1 bt245.2.1 bt245.2.2.1 bt245.2.2.2.1 bt245.2.2.2.2.1 bt245.2.2.2.2.2.1 bt245.2.2.2.2.2.2.1) else (paviorlaw02_PteBack.j1 k x0 x2 x7 true bt245.1 bt245.2.1 bt245.2.2.1 bt245.2.2.2.1 bt245.2.2.2.2.1 bt245.2.2.2.2.2.1 bt245.2.2.2.2.2.2.1)))
def paviorlaw02_PteBack.j1 : Nat → Int → Int → Bool → Bool → Int → Int → Bool → Bool → Bool → Bool → Int → Option (Bool)
  | 0, _, _, _, _, _, _, _, _, _, _, _ => none
  | k + 1, x0, x2, x7, x50, x254000, x254001, x254002, x254003, x254004, x254005, x254006 => if x50 = true then (some x7) else ((pte_Encode.f k x0 x254000 x254001 x254002 x254003 x254004 x254005 x254006).bind fun bt255 => (if x7 = true then (if bt255.2.isNone = true then (some (bt255.1 == x2)) else (some false)) else (some false)))
def paviorlaw02_PteBack.j2 : Nat → Int → Int → Bool → Bool → Int → Int → Bool → Bool → Bool → Bool → Int → Option (Bool)
  | 0, _, _, _, _, _, _, _, _, _, _, _ => none
  | k + 1, x0, x2, x7, x50, x267000, x267001, x267002, x267003, x267004, x267005, x267006 => if x50 = true then (some x7) else ((pte_Encode.f k x0 x267000 x267001 x267002 x267003 x267004 x267005 x267006).bind fun bt268 => (if x7 = true then (if bt268.2.isNone = true then (some (bt268.1 == x2)) else (some false)) else (some false)))
end
def paviorlaw02_PteBack.f (k : Nat) (a0 : Int) (a1_0 : Int) (a1_1 : Int) (a1_2 : Bool) (a1_3 : Bool) (a1_4 : Bool) (a1_5 : Bool) (a1_6 : Int) (a2 : Int) : Option (Bool) := (paviorlaw02_up.f k).bind fun t231 => ((pte_Encode.f k a0 a1_0 a1_1 a1_2 a1_3 a1_4 a1_5 a1_6).bind fun bt232 => (if bt232.2.isNone = true then ((pte_Decode.f k a0 bt232.1).bind fun bt235 => (if bt235.2.2.2.2.2.2.2.isNone = true then (paviorlaw02_PteBack.j0 k a0 a2 t231 (!(bt235.1 == a1_0) || (!(bt235.2.1 == a1_1) || (!(bt235.2.2.1 == a1_2) || (!(bt235.2.2.2.1 == a1_3) || (!(bt235.2.2.2.2.1 == a1_4) || (!(bt235.2.2.2.2.2.1 == a1_5) || (!(bt235.2.2.2.2.2.2.1 == a1_6))))))))) else (paviorlaw02_PteBack.j0 k a0 a2 t231 true))) else ((pte_Decode.f k a0 a2).bind fun bt258 => (if bt258.2.2.2.2.2.2.2.isNone = true then (paviorlaw02_PteBack.j2 k a0 a2 t231 (bt258.1 == 5) bt258.1 bt258.2.1 bt258.2.2.1 bt258.2.2.2.1 bt258.2.2.2.2.1 bt258.2.2.2.2.2.1 bt258.2.2.2.2.2.2.1) else (paviorlaw02_PteBack.j2 k a0 a2 t231 true bt258.1 bt258.2.1 bt258.2.2.1 bt258.2.2.2.1 bt258.2.2.2.2.1 bt258.2.2.2.2.2.1 bt258.2.2.2.2.2.2.1)))))
theorem paviorlaw02_PteBack.mono_l : ∀ k, (∀ y0 y1 y2 y3, LeO (paviorlaw02_PteBack.j0 k y0 y1 y2 y3) (paviorlaw02_PteBack.j0 (k + 1) y0 y1 y2 y3)) ∧ (∀ y0 y1 y2 y3 y4 y5 y6 y7 y8 y9 y10, LeO (paviorlaw02_PteBack.j1 k y0 y1 y2 y3 y4 y5 y6 y7 y8 y9 y10) (paviorlaw02_PteBack.j1 (k + 1) y0 y1 y2 y3 y4 y5 y6 y7 y8 y9 y10)) ∧ (∀ y0 y1 y2 y3 y4 y5 y6 y7 y8 y9 y10, LeO (paviorlaw02_PteBack.j2 k y0 y1 y2 y3 y4 y5 y6 y7 y8 y9 y10) (paviorlaw02_PteBack.j2 (k + 1) y0 y1 y2 y3 y4 y5 y6 y7 y8 y9 y10))
  | 0 => ⟨fun _ _ _ _ r h => by simp [paviorlaw02_PteBack.j0] at h, fun _ _ _ _ _ _ _ _ _ _ _ r h => by simp [paviorlaw02_PteBack.j1] at h, fun _ _ _ _ _ _ _ _ _ _ _ r h => by simp [paviorlaw02_PteBack.j2] at h⟩
  | k + 1 => by
    obtain ⟨ih0, ih1, ih2⟩ := paviorlaw02_PteBack.mono_l k
    refine ⟨?_, ?_, ?_⟩
    · intro y0 y1 y2 y3
      unfold paviorlaw02_PteBack.j0
      repeat' first
      | (with_reducible exact ih0 _ _ _ _)
      | (with_reducible exact ih1 _ _ _ _ _ _ _ _ _ _ _)
      | (with_reducible exact ih2 _ _ _ _ _ _ _ _ _ _ _)
      | (with_reducible exact paviorlaw02_up.mono _)
      | (with_reducible exact pte_Decode.mono _ _ _)
      | (with_reducible exact pte_Encode.mono _ _ _ _ _ _ _ _ _)
      | (with_reducible exact LeO.refl _)
      | (with_reducible exact LeO.none _)
      | (with_reducible refine LeO.ite ?_ ?_)
      | (with_reducible refine LeO.bind ?_ (fun _ => ?_))
      | exact ih0 _ _ _ _
      | exact ih1 _ _ _ _ _ _ _ _ _ _ _
      | exact ih2 _ _ _ _ _ _ _ _ _ _ _
      | exact paviorlaw02_up.mono _
      | exact pte_Decode.mono _ _ _
      | exact pte_Encode.mono _ _ _ _ _ _ _ _ _
      | exact LeO.none _
      | refine LeO.ite ?_ ?_
      | refine LeO.bind ?_ (fun _ => ?_)
    · intro y0 y1 y2 y3 y4 y5 y6 y7 y8 y9 y10
      unfold paviorlaw02_PteBack.j1
      repeat' first
      | (with_reducible exact ih0 _ _ _ _)
      | (with_reducible exact ih1 _ _ _ _ _ _ _ _ _ _ _)
      | (with_reducible exact ih2 _ _ _ _ _ _ _ _ _ _ _)
      | (with_reducible exact paviorlaw02_up.mono _)
      | (with_reducible exact pte_Decode.mono _ _ _)
      | (with_reducible exact pte_Encode.mono _ _ _ _ _ _ _ _ _)
      | (with_reducible exact LeO.refl _)
      | (with_reducible exact LeO.none _)
      | (with_reducible refine LeO.ite ?_ ?_)
      | (with_reducible refine LeO.bind ?_ (fun _ => ?_))
      | exact ih0 _ _ _ _
      | exact ih1 _ _ _ _ _ _ _ _ _ _ _
      | exact ih2 _ _ _ _ _ _ _ _ _ _ _
      | exact paviorlaw02_up.mono _
      | exact pte_Decode.mono _ _ _
      | exact pte_Encode.mono _ _ _ _ _ _ _ _ _
      | exact LeO.none _
      | refine LeO.ite ?_ ?_
      | refine LeO.bind ?_ (fun _ => ?_)
    · intro y0 y1 y2 y3 y4 y5 y6 y7 y8 y9 y10
      unfold paviorlaw02_PteBack.j2
      repeat' first
      | (with_reducible exact ih0 _ _ _ _)
      | (with_reducible exact ih1 _ _ _ _ _ _ _ _ _ _ _)
      | (with_reducible exact ih2 _ _ _ _ _ _ _ _ _ _ _)
      | (with_reducible exact paviorlaw02_up.mono _)
      | (with_reducible exact pte_Decode.mono _ _ _)
      | (with_reducible exact pte_Encode.mono _ _ _ _ _ _ _ _ _)
      | (with_reducible exact LeO.refl _)
      | (with_reducible exact LeO.none _)
      | (with_reducible refine LeO.ite ?_ ?_)
      | (with_reducible refine LeO.bind ?_ (fun _ => ?_))
      | exact ih0 _ _ _ _
      | exact ih1 _ _ _ _ _ _ _ _ _ _ _
      | exact ih2 _ _ _ _ _ _ _ _ _ _ _
      | exact paviorlaw02_up.mono _
      | exact pte_Decode.mono _ _ _
      | exact pte_Encode.mono _ _ _ _ _ _ _ _ _
      | exact LeO.none _
      | refine LeO.ite ?_ ?_
      | refine LeO.bind ?_ (fun _ => ?_)
theorem paviorlaw02_PteBack.mono : ∀ a0 a1 a2 a3 a4 a5 a6 a7 a8 k, LeO (paviorlaw02_PteBack.f k a0 a1 a2 a3 a4 a5 a6 a7 a8) (paviorlaw02_PteBack.f (k + 1) a0 a1 a2 a3 a4 a5 a6 a7 a8) := by
  intro a0 a1 a2 a3 a4 a5 a6 a7 a8 k
  obtain ⟨ih0, ih1, ih2⟩ := paviorlaw02_PteBack.mono_l k
  unfold paviorlaw02_PteBack.f
  repeat' first
      | (with_reducible exact ih0 _ _ _ _)
      | (with_reducible exact ih1 _ _ _ _ _ _ _ _ _ _ _)
      | (with_reducible exact ih2 _ _ _ _ _ _ _ _ _ _ _)
      | (with_reducible exact paviorlaw02_up.mono _)
      | (with_reducible exact pte_Decode.mono _ _ _)
      | (with_reducible exact pte_Encode.mono _ _ _ _ _ _ _ _ _)
      | (with_reducible exact LeO.refl _)
      | (with_reducible exact LeO.none _)
      | (with_reducible refine LeO.ite ?_ ?_)
      | (with_reducible refine LeO.bind ?_ (fun _ => ?_))
      | exact ih0 _ _ _ _
      | exact ih1 _ _ _ _ _ _ _ _ _ _ _
      | exact ih2 _ _ _ _ _ _ _ _ _ _ _
      | exact paviorlaw02_up.mono _
      | exact pte_Decode.mono _ _ _
      | exact pte_Encode.mono _ _ _ _ _ _ _ _ _
      | exact LeO.none _
      | refine LeO.ite ?_ ?_
      | refine LeO.bind ?_ (fun _ => ?_)
set_option maxHeartbeats 8000000 in
set_option maxRecDepth 100000 in
theorem paviorlaw02_PteBack.calls (k : Nat) (a0 : Int) (a1_0 : Int) (a1_1 : Int) (a1_2 : Bool) (a1_3 : Bool) (a1_4 : Bool) (a1_5 : Bool) (a1_6 : Int) (a2 : Int) (r : Bool) (w : World) (h : paviorlaw02_PteBack.f k a0 a1_0 a1_1 a1_2 a1_3 a1_4 a1_5 a1_6 a2 = some r) :
    Calls Try.prog 5 #[.int .i64 a0, .agg #[.int .i64 a1_0, .int .i64 a1_1, .bool a1_2, .bool a1_3, .bool a1_4, .bool a1_5, .int .i64 a1_6], .int .u64 a2] w fun e w' => e = .returned (.bool r) ∧ Below w.heap.size w w' := by
  have hu25 := Try.underlying25
  have hu27 := Try.underlying27
  have hu30 := Try.underlying30
  have HB := Aside0.mk (Below.refl w.heap.size w)
  have H : ((paviorlaw02_up.f k).bind fun t231 => ((pte_Encode.f k a0 a1_0 a1_1 a1_2 a1_3 a1_4 a1_5 a1_6).bind fun bt232 => (if bt232.2.isNone = true then ((pte_Decode.f k a0 bt232.1).bind fun bt235 => (if bt235.2.2.2.2.2.2.2.isNone = true then (paviorlaw02_PteBack.j0 k a0 a2 t231 (!(bt235.1 == a1_0) || (!(bt235.2.1 == a1_1) || (!(bt235.2.2.1 == a1_2) || (!(bt235.2.2.2.1 == a1_3) || (!(bt235.2.2.2.2.1 == a1_4) || (!(bt235.2.2.2.2.2.1 == a1_5) || (!(bt235.2.2.2.2.2.2.1 == a1_6))))))))) else (paviorlaw02_PteBack.j0 k a0 a2 t231 true))) else ((pte_Decode.f k a0 a2).bind fun bt258 => (if bt258.2.2.2.2.2.2.2.isNone = true then (paviorlaw02_PteBack.j2 k a0 a2 t231 (bt258.1 == 5) bt258.1 bt258.2.1 bt258.2.2.1 bt258.2.2.2.1 bt258.2.2.2.2.1 bt258.2.2.2.2.2.1 bt258.2.2.2.2.2.2.1) else (paviorlaw02_PteBack.j2 k a0 a2 t231 true bt258.1 bt258.2.1 bt258.2.2.1 bt258.2.2.2.1 bt258.2.2.2.2.1 bt258.2.2.2.2.2.1 bt258.2.2.2.2.2.2.1)))))) = some r := h
  clear h
  replace H := Option.bind_eq_some_iff.mp H
  obtain ⟨t231, A40, H⟩ := H
  replace H : ((pte_Encode.f k a0 a1_0 a1_1 a1_2 a1_3 a1_4 a1_5 a1_6).bind fun bt232 => (if bt232.2.isNone = true then ((pte_Decode.f k a0 bt232.1).bind fun bt235 => (if bt235.2.2.2.2.2.2.2.isNone = true then (paviorlaw02_PteBack.j0 k a0 a2 t231 (!(bt235.1 == a1_0) || (!(bt235.2.1 == a1_1) || (!(bt235.2.2.1 == a1_2) || (!(bt235.2.2.2.1 == a1_3) || (!(bt235.2.2.2.2.1 == a1_4) || (!(bt235.2.2.2.2.2.1 == a1_5) || (!(bt235.2.2.2.2.2.2.1 == a1_6))))))))) else (paviorlaw02_PteBack.j0 k a0 a2 t231 true))) else ((pte_Decode.f k a0 a2).bind fun bt258 => (if bt258.2.2.2.2.2.2.2.isNone = true then (paviorlaw02_PteBack.j2 k a0 a2 t231 (bt258.1 == 5) bt258.1 bt258.2.1 bt258.2.2.1 bt258.2.2.2.1 bt258.2.2.2.2.1 bt258.2.2.2.2.2.1 bt258.2.2.2.2.2.2.1) else (paviorlaw02_PteBack.j2 k a0 a2 t231 true bt258.1 bt258.2.1 bt258.2.2.1 bt258.2.2.2.1 bt258.2.2.2.2.1 bt258.2.2.2.2.2.1 bt258.2.2.2.2.2.2.1))))) = some r := H
  have A4 := Aside0.mk A40
  clear A40
  replace H := Option.bind_eq_some_iff.mp H
  obtain ⟨⟨t232, t233⟩, A50, H⟩ := H
  replace H : (if t233.isNone = true then ((pte_Decode.f k a0 t232).bind fun bt235 => (if bt235.2.2.2.2.2.2.2.isNone = true then (paviorlaw02_PteBack.j0 k a0 a2 t231 (!(bt235.1 == a1_0) || (!(bt235.2.1 == a1_1) || (!(bt235.2.2.1 == a1_2) || (!(bt235.2.2.2.1 == a1_3) || (!(bt235.2.2.2.2.1 == a1_4) || (!(bt235.2.2.2.2.2.1 == a1_5) || (!(bt235.2.2.2.2.2.2.1 == a1_6))))))))) else (paviorlaw02_PteBack.j0 k a0 a2 t231 true))) else ((pte_Decode.f k a0 a2).bind fun bt258 => (if bt258.2.2.2.2.2.2.2.isNone = true then (paviorlaw02_PteBack.j2 k a0 a2 t231 (bt258.1 == 5) bt258.1 bt258.2.1 bt258.2.2.1 bt258.2.2.2.1 bt258.2.2.2.2.1 bt258.2.2.2.2.2.1 bt258.2.2.2.2.2.2.1) else (paviorlaw02_PteBack.j2 k a0 a2 t231 true bt258.1 bt258.2.1 bt258.2.2.1 bt258.2.2.2.1 bt258.2.2.2.2.1 bt258.2.2.2.2.2.1 bt258.2.2.2.2.2.2.1)))) = some r := H
  have A5 := Aside0.mk A50
  clear A50
  rcases t233 with _ | q234
  · have H1 : ((pte_Decode.f k a0 t232).bind fun bt235 => (if bt235.2.2.2.2.2.2.2.isNone = true then (paviorlaw02_PteBack.j0 k a0 a2 t231 (!(bt235.1 == a1_0) || (!(bt235.2.1 == a1_1) || (!(bt235.2.2.1 == a1_2) || (!(bt235.2.2.2.1 == a1_3) || (!(bt235.2.2.2.2.1 == a1_4) || (!(bt235.2.2.2.2.2.1 == a1_5) || (!(bt235.2.2.2.2.2.2.1 == a1_6))))))))) else (paviorlaw02_PteBack.j0 k a0 a2 t231 true))) = some r := by rw [if_pos (show (none : Option Int).isNone = true by rfl)] at H; exact H
    clear H
    have H := H1
    clear H1
    try simp only [errW_none, errW_some]
    replace H := Option.bind_eq_some_iff.mp H
    obtain ⟨⟨t235, t236, t237, t238, t239, t240, t241, t242⟩, A60, H⟩ := H
    replace H : (if t242.isNone = true then (paviorlaw02_PteBack.j0 k a0 a2 t231 (!(t235 == a1_0) || (!(t236 == a1_1) || (!(t237 == a1_2) || (!(t238 == a1_3) || (!(t239 == a1_4) || (!(t240 == a1_5) || (!(t241 == a1_6))))))))) else (paviorlaw02_PteBack.j0 k a0 a2 t231 true)) = some r := H
    have A6 := Aside0.mk A60
    clear A60
    have HC7 := Aside0.mk H
    clear H
    go_enter Try.func5, Try.ntmps5
    go_upto_region 5 with (first | ((with_reducible refine gate_dst (N := 4) rfl ?_); refine box_event ?hg (N := 4) ?hd (cs := #[.int .i64 a1_0, .int .i64 a1_1, .bool a1_2, .bool a1_3, .bool a1_4, .bool a1_5, .int .i64 a1_6]) (t := 25) ?hr ?_; (case hd => rfl); (case hg => rfl); (case hr => first | (go_simp; done) | (go_simp; rfl)); intro gb230 hg w8 hbox hb; have n0_ := Aside0.mk (below_step (by repeat (first | (with_reducible first | exact HB.out | apply below_alloc | apply pw_below_drewN | apply below_drew1) | exact HB.out)) hb); have n1_ := Aside0.mk (hbox); have n2_ := Aside0.mk ((by rw [hg]; exact (below_size (by repeat (first | (with_reducible first | exact HB.out | apply below_alloc | apply pw_below_drewN | apply below_drew1) | exact HB.out))) : w.heap.size ≤ gb230)); have n3_ := Aside0.mk ((by rw [hg]; exact (below_size (by repeat (first | (with_reducible first | exact HB.out | apply below_alloc | apply pw_below_drewN | apply below_drew1) | exact HB.out))) : w.heap.size ≤ gb230)); clear HB; have HB := n0_; have BK230 := n1_; have GW230 := n2_; have GE230 := n3_; clear n0_ n1_ n2_ n3_; clear hb hbox hg) | ((with_reducible refine gate_callee (f := 10) rfl ?_); refine goesL_ (some 16) rfl rfl Try.func10 (by kernel_rfl) rfl #[] rfl (by (try simp only [List.map_toArray, List.map_cons, List.map_nil]); first | done | rfl | (simp only [List.length_drop, List.length_take]; rfl)) ?_; (with_reducible refine (paviorlaw02_up.calls k  t231 _ A4.out).mono ?_); rintro e w9 ⟨rfl, hb⟩; refine ⟨_, rfl, ?_⟩; have n0_ := Aside0.mk (blk_below (g := gb230) (o := .cells #[.int .i64 a1_0, .int .i64 a1_1, .bool a1_2, .bool a1_3, .bool a1_4, .bool a1_5, .int .i64 a1_6] 25 (0, 0)) (by (with_reducible repeat (first | refine blk_drewN ?_ _ | refine blk_drew ?_ | refine blk_alloc ?_ _)); exact BK230.out) hb); have n1_ := Aside0.mk (below_step (by repeat (first | (with_reducible first | exact HB.out | apply below_alloc | apply pw_below_drewN | apply below_drew1 | refine below_set ?_ GE230.out) | exact HB.out)) hb); clear BK230; clear HB; have BK230 := n0_; have HB := n1_; clear n0_ n1_; (try clear hb); (try clear hb2); (try clear hk); (try clear hi); have hcz10_0 : w9.cell? ⟨gb230, 0, none⟩ = some (.int .i64 a1_0) := (blk_cell BK230.out 0).trans rfl; have hcz10_1 : w9.cell? ⟨gb230, 1, none⟩ = some (.int .i64 a1_1) := (blk_cell BK230.out 1).trans rfl; have hcz10_2 : w9.cell? ⟨gb230, 2, none⟩ = some (.bool a1_2) := (blk_cell BK230.out 2).trans rfl; have hcz10_3 : w9.cell? ⟨gb230, 3, none⟩ = some (.bool a1_3) := (blk_cell BK230.out 3).trans rfl; have hcz10_4 : w9.cell? ⟨gb230, 4, none⟩ = some (.bool a1_4) := (blk_cell BK230.out 4).trans rfl; have hcz10_5 : w9.cell? ⟨gb230, 5, none⟩ = some (.bool a1_5) := (blk_cell BK230.out 5).trans rfl; have hcz10_6 : w9.cell? ⟨gb230, 6, none⟩ = some (.int .i64 a1_6) := (blk_cell BK230.out 6).trans rfl; have hfz10_0 := blk_frozen BK230.out 0; have hfz10_1 := blk_frozen BK230.out 1; have hfz10_2 := blk_frozen BK230.out 2; have hfz10_3 := blk_frozen BK230.out 3; have hfz10_4 := blk_frozen BK230.out 4; have hfz10_5 := blk_frozen BK230.out 5; have hfz10_6 := blk_frozen BK230.out 6) | ((with_reducible refine gate_callee (f := 13) rfl ?_); refine goesL_ (some 20) rfl rfl Try.func13 (by kernel_rfl) rfl #[.int .i64 a0, .agg #[.int .i64 a1_0, .int .i64 a1_1, .bool a1_2, .bool a1_3, .bool a1_4, .bool a1_5, .int .i64 a1_6]] rfl (by (try simp only [List.map_toArray, List.map_cons, List.map_nil]); first | done | rfl | (simp only [List.length_drop, List.length_take]; rfl)) ?_; (with_reducible refine (pte_Encode.calls k a0 a1_0 a1_1 a1_2 a1_3 a1_4 a1_5 a1_6 t232 none _ A5.out).mono ?_); rintro e w11 ⟨rfl, hb⟩; refine ⟨_, rfl, ?_⟩; have n0_ := Aside0.mk (blk_below (g := gb230) (o := .cells #[.int .i64 a1_0, .int .i64 a1_1, .bool a1_2, .bool a1_3, .bool a1_4, .bool a1_5, .int .i64 a1_6] 25 (0, 0)) (by (with_reducible repeat (first | refine blk_drewN ?_ _ | refine blk_drew ?_ | refine blk_alloc ?_ _)); exact BK230.out) hb); have n1_ := Aside0.mk (below_step (by repeat (first | (with_reducible first | exact HB.out | apply below_alloc | apply pw_below_drewN | apply below_drew1 | refine below_set ?_ GE230.out) | exact HB.out)) hb); clear BK230; clear HB; have BK230 := n0_; have HB := n1_; clear n0_ n1_; (try clear hb); (try clear hb2); (try clear hk); (try clear hi); (try simp only [errW_none, errW_some])) | ((with_reducible refine gate_callee (f := 11) rfl ?_); refine goesL_ (some 28) rfl rfl Try.func11 (by kernel_rfl) rfl #[.int .i64 a0, .int .u64 t232] rfl (by (try simp only [List.map_toArray, List.map_cons, List.map_nil]); first | done | rfl | (simp only [List.length_drop, List.length_take]; rfl)) ?_; (with_reducible refine (pte_Decode.calls k a0 t232 t235 t236 t237 t238 t239 t240 t241 t242 _ A6.out).mono ?_); rintro e w12 ⟨rfl, hb⟩; refine ⟨_, rfl, ?_⟩; have n0_ := Aside0.mk (blk_below (g := gb230) (o := .cells #[.int .i64 a1_0, .int .i64 a1_1, .bool a1_2, .bool a1_3, .bool a1_4, .bool a1_5, .int .i64 a1_6] 25 (0, 0)) (by (with_reducible repeat (first | refine blk_drewN ?_ _ | refine blk_drew ?_ | refine blk_alloc ?_ _)); exact BK230.out) hb); have n1_ := Aside0.mk (below_step (by repeat (first | (with_reducible first | exact HB.out | apply below_alloc | apply pw_below_drewN | apply below_drew1 | refine below_set ?_ GE230.out) | exact HB.out)) hb); clear BK230; clear HB; have BK230 := n0_; have HB := n1_; clear n0_ n1_; (try clear hb); (try clear hb2); (try clear hk); (try clear hi); (try simp only [errW_none, errW_some])) | ((with_reducible refine gate_dst (N := 10) rfl ?_); refine box_event ?hg (N := 10) ?hd (cs := #[.int .i64 0, .int .i64 0, .bool false, .bool false, .bool false, .bool false, .int .i64 0]) (t := 25) ?hr ?_; (case hd => rfl); (case hg => rfl); (case hr => first | (go_simp; done) | (go_simp; rfl)); intro gb243 hg w13 hbox hb; have n0_ := Aside0.mk (blk_below (g := gb230) (o := .cells #[.int .i64 a1_0, .int .i64 a1_1, .bool a1_2, .bool a1_3, .bool a1_4, .bool a1_5, .int .i64 a1_6] 25 (0, 0)) (by (with_reducible repeat (first | refine blk_drewN ?_ _ | refine blk_drew ?_ | refine blk_alloc ?_ _)); exact BK230.out) hb); have n1_ := Aside0.mk (below_step (by repeat (first | (with_reducible first | exact HB.out | apply below_alloc | apply pw_below_drewN | apply below_drew1 | refine below_set ?_ GE230.out) | exact HB.out)) hb); have n2_ := Aside0.mk (hbox); have n3_ := Aside0.mk ((by rw [hg]; exact (below_size (by repeat (first | (with_reducible first | exact HB.out | apply below_alloc | apply pw_below_drewN | apply below_drew1 | refine below_set ?_ GE230.out) | exact HB.out))) : w.heap.size ≤ gb243)); have n4_ := Aside0.mk ((by rw [hg]; exact (below_size (by repeat (first | (with_reducible first | exact HB.out | apply below_alloc | apply pw_below_drewN | apply below_drew1 | refine below_set ?_ GE230.out) | exact HB.out))) : w.heap.size ≤ gb243)); have n5_ := Aside0.mk ((by rw [hg]; exact Nat.ne_of_lt (blk_lt (g := gb230) (o := .cells #[.int .i64 a1_0, .int .i64 a1_1, .bool a1_2, .bool a1_3, .bool a1_4, .bool a1_5, .int .i64 a1_6] 25 (0, 0)) (by (with_reducible repeat (first | refine blk_drewN ?_ _ | refine blk_drew ?_ | refine blk_alloc ?_ _)); exact BK230.out)) : gb230 ≠ gb243)); have n6_ := Aside0.mk ((by rw [hg]; exact Nat.ne_of_gt (blk_lt (g := gb230) (o := .cells #[.int .i64 a1_0, .int .i64 a1_1, .bool a1_2, .bool a1_3, .bool a1_4, .bool a1_5, .int .i64 a1_6] 25 (0, 0)) (by (with_reducible repeat (first | refine blk_drewN ?_ _ | refine blk_drew ?_ | refine blk_alloc ?_ _)); exact BK230.out)) : gb243 ≠ gb230)); clear BK230; clear HB; have BK230 := n0_; have HB := n1_; have BK243 := n2_; have GW243 := n3_; have GE243 := n4_; have NB230_243 := n5_; have NB243_230 := n6_; clear n0_ n1_ n2_ n3_ n4_ n5_ n6_; clear hb hbox hg; have hnb14 := NB243_230.out; have hnc14 := NB230_243.out; have hcz15_0 : w13.cell? ⟨gb243, 0, none⟩ = some (.int .i64 0) := (blk_cell BK243.out 0).trans rfl; have hcz15_1 : w13.cell? ⟨gb243, 1, none⟩ = some (.int .i64 0) := (blk_cell BK243.out 1).trans rfl; have hcz15_2 : w13.cell? ⟨gb243, 2, none⟩ = some (.bool false) := (blk_cell BK243.out 2).trans rfl; have hcz15_3 : w13.cell? ⟨gb243, 3, none⟩ = some (.bool false) := (blk_cell BK243.out 3).trans rfl; have hcz15_4 : w13.cell? ⟨gb243, 4, none⟩ = some (.bool false) := (blk_cell BK243.out 4).trans rfl; have hcz15_5 : w13.cell? ⟨gb243, 5, none⟩ = some (.bool false) := (blk_cell BK243.out 5).trans rfl; have hcz15_6 : w13.cell? ⟨gb243, 6, none⟩ = some (.int .i64 0) := (blk_cell BK243.out 6).trans rfl; have hfz15_0 := blk_frozen BK243.out 0; have hfz15_1 := blk_frozen BK243.out 1; have hfz15_2 := blk_frozen BK243.out 2; have hfz15_3 := blk_frozen BK243.out 3; have hfz15_4 := blk_frozen BK243.out 4; have hfz15_5 := blk_frozen BK243.out 5; have hfz15_6 := blk_frozen BK243.out 6))
    (try simp only [Act.put, List.setIfInBounds_toArray, List.set_cons_zero, List.set_cons_succ])
    go_cut [37] (fun v37 wc => ∃ (kq : Nat) (x37_6 : Bool), v37 = .bool x37_6 ∧ Aside0 (paviorlaw02_PteBack.j0 kq a0 a2 t231 x37_6 = some r) ∧ Aside0 (kq ≤ k) ∧ Aside0 (wc.heap[gb230]? = some (.cells #[.int .i64 a1_0, .int .i64 a1_1, .bool a1_2, .bool a1_3, .bool a1_4, .bool a1_5, .int .i64 a1_6] 25 (0, 0))) ∧ Aside0 (wc.heap[gb243]? = some (.cells #[.int .i64 t235, .int .i64 t236, .bool t237, .bool t238, .bool t239, .bool t240, .int .i64 t241] 25 (0, 0))) ∧ Aside0 (Below w.heap.size w wc))
    case first =>
      have H := HC7.out
      clear HC7
      rcases t242 with _ | q244
      · have H1 : (paviorlaw02_PteBack.j0 k a0 a2 t231 (!(t235 == a1_0) || (!(t236 == a1_1) || (!(t237 == a1_2) || (!(t238 == a1_3) || (!(t239 == a1_4) || (!(t240 == a1_5) || (!(t241 == a1_6))))))))) = some r := by rw [if_pos (show (none : Option Int).isNone = true by rfl)] at H; exact H
        clear H
        have H := H1
        clear H1
        try simp only [errW_none, errW_some]
        have H' := Aside0.mk H
        clear H
        have hnb16 := NB243_230.out
        have hnc16 := NB230_243.out
        have hcz17_0 : w13.cell? ⟨gb243, 0, none⟩ = some (.int .i64 0) := (blk_cell BK243.out 0).trans rfl
        have hcz17_1 : w13.cell? ⟨gb243, 1, none⟩ = some (.int .i64 0) := (blk_cell BK243.out 1).trans rfl
        have hcz17_2 : w13.cell? ⟨gb243, 2, none⟩ = some (.bool false) := (blk_cell BK243.out 2).trans rfl
        have hcz17_3 : w13.cell? ⟨gb243, 3, none⟩ = some (.bool false) := (blk_cell BK243.out 3).trans rfl
        have hcz17_4 : w13.cell? ⟨gb243, 4, none⟩ = some (.bool false) := (blk_cell BK243.out 4).trans rfl
        have hcz17_5 : w13.cell? ⟨gb243, 5, none⟩ = some (.bool false) := (blk_cell BK243.out 5).trans rfl
        have hcz17_6 : w13.cell? ⟨gb243, 6, none⟩ = some (.int .i64 0) := (blk_cell BK243.out 6).trans rfl
        have hfz17_0 := blk_frozen BK243.out 0
        have hfz17_1 := blk_frozen BK243.out 1
        have hfz17_2 := blk_frozen BK243.out 2
        have hfz17_3 := blk_frozen BK243.out 3
        have hfz17_4 := blk_frozen BK243.out 4
        have hfz17_5 := blk_frozen BK243.out 5
        have hfz17_6 := blk_frozen BK243.out 6
        have hcz18_0 : w13.cell? ⟨gb230, 0, none⟩ = some (.int .i64 a1_0) := (blk_cell BK230.out 0).trans rfl
        have hcz18_1 : w13.cell? ⟨gb230, 1, none⟩ = some (.int .i64 a1_1) := (blk_cell BK230.out 1).trans rfl
        have hcz18_2 : w13.cell? ⟨gb230, 2, none⟩ = some (.bool a1_2) := (blk_cell BK230.out 2).trans rfl
        have hcz18_3 : w13.cell? ⟨gb230, 3, none⟩ = some (.bool a1_3) := (blk_cell BK230.out 3).trans rfl
        have hcz18_4 : w13.cell? ⟨gb230, 4, none⟩ = some (.bool a1_4) := (blk_cell BK230.out 4).trans rfl
        have hcz18_5 : w13.cell? ⟨gb230, 5, none⟩ = some (.bool a1_5) := (blk_cell BK230.out 5).trans rfl
        have hcz18_6 : w13.cell? ⟨gb230, 6, none⟩ = some (.int .i64 a1_6) := (blk_cell BK230.out 6).trans rfl
        have hfz18_0 := blk_frozen BK230.out 0
        have hfz18_1 := blk_frozen BK230.out 1
        have hfz18_2 := blk_frozen BK230.out 2
        have hfz18_3 := blk_frozen BK230.out 3
        have hfz18_4 := blk_frozen BK230.out 4
        have hfz18_5 := blk_frozen BK230.out 5
        have hfz18_6 := blk_frozen BK230.out 6
        go_wp2
        go_meet
        case rel => exact ⟨_, ((!(t235 == a1_0) || (!(t236 == a1_1) || (!(t237 == a1_2) || (!(t238 == a1_3) || (!(t239 == a1_4) || (!(t240 == a1_5) || (!(t241 == a1_6))))))))), (by first | rfl | (simp; done) | (simp [*]; done)), H', ⟨by first | omega | exact Nat.le_refl _⟩, ⟨by (with_reducible repeat (first | refine blk_drewN ?_ _ | refine blk_drew ?_ | refine blk_alloc ?_ _)); refine blk_far ?_ NB230_243.out _; (with_reducible repeat (first | refine blk_drewN ?_ _ | refine blk_drew ?_ | refine blk_alloc ?_ _)); refine blk_far ?_ NB230_243.out _; (with_reducible repeat (first | refine blk_drewN ?_ _ | refine blk_drew ?_ | refine blk_alloc ?_ _)); refine blk_far ?_ NB230_243.out _; (with_reducible repeat (first | refine blk_drewN ?_ _ | refine blk_drew ?_ | refine blk_alloc ?_ _)); refine blk_far ?_ NB230_243.out _; (with_reducible repeat (first | refine blk_drewN ?_ _ | refine blk_drew ?_ | refine blk_alloc ?_ _)); refine blk_far ?_ NB230_243.out _; (with_reducible repeat (first | refine blk_drewN ?_ _ | refine blk_drew ?_ | refine blk_alloc ?_ _)); refine blk_far ?_ NB230_243.out _; (with_reducible repeat (first | refine blk_drewN ?_ _ | refine blk_drew ?_ | refine blk_alloc ?_ _)); refine blk_far ?_ NB230_243.out _; (with_reducible repeat (first | refine blk_drewN ?_ _ | refine blk_drew ?_ | refine blk_alloc ?_ _)); exact BK230.out⟩, ⟨by (with_reducible repeat (first | refine blk_drewN ?_ _ | refine blk_drew ?_ | refine blk_alloc ?_ _)); refine blk_put (cs := #[.int .i64 t235, .int .i64 t236, .bool t237, .bool t238, .bool t239, .bool t240, .int .i64 0]) ?_ 6 _ rfl; (with_reducible repeat (first | refine blk_drewN ?_ _ | refine blk_drew ?_ | refine blk_alloc ?_ _)); refine blk_put (cs := #[.int .i64 t235, .int .i64 t236, .bool t237, .bool t238, .bool t239, .bool false, .int .i64 0]) ?_ 5 _ rfl; (with_reducible repeat (first | refine blk_drewN ?_ _ | refine blk_drew ?_ | refine blk_alloc ?_ _)); refine blk_put (cs := #[.int .i64 t235, .int .i64 t236, .bool t237, .bool t238, .bool false, .bool false, .int .i64 0]) ?_ 4 _ rfl; (with_reducible repeat (first | refine blk_drewN ?_ _ | refine blk_drew ?_ | refine blk_alloc ?_ _)); refine blk_put (cs := #[.int .i64 t235, .int .i64 t236, .bool t237, .bool false, .bool false, .bool false, .int .i64 0]) ?_ 3 _ rfl; (with_reducible repeat (first | refine blk_drewN ?_ _ | refine blk_drew ?_ | refine blk_alloc ?_ _)); refine blk_put (cs := #[.int .i64 t235, .int .i64 t236, .bool false, .bool false, .bool false, .bool false, .int .i64 0]) ?_ 2 _ rfl; (with_reducible repeat (first | refine blk_drewN ?_ _ | refine blk_drew ?_ | refine blk_alloc ?_ _)); refine blk_put (cs := #[.int .i64 t235, .int .i64 0, .bool false, .bool false, .bool false, .bool false, .int .i64 0]) ?_ 1 _ rfl; (with_reducible repeat (first | refine blk_drewN ?_ _ | refine blk_drew ?_ | refine blk_alloc ?_ _)); refine blk_put (cs := #[.int .i64 0, .int .i64 0, .bool false, .bool false, .bool false, .bool false, .int .i64 0]) ?_ 0 _ rfl; (with_reducible repeat (first | refine blk_drewN ?_ _ | refine blk_drew ?_ | refine blk_alloc ?_ _)); exact BK243.out⟩, ⟨by repeat (first | (with_reducible first | exact HB.out | apply below_alloc | apply pw_below_drewN | apply below_drew1 | refine below_set ?_ GE230.out | refine below_set ?_ GE243.out) | exact HB.out)⟩⟩
      · have H1 : (paviorlaw02_PteBack.j0 k a0 a2 t231 true) = some r := by rw [if_neg (show ¬ (some q244).isNone = true by simp)] at H; exact H
        clear H
        have H := H1
        clear H1
        try simp only [errW_none, errW_some]
        have H' := Aside0.mk H
        clear H
        go_wp2
        go_meet
        case rel => exact ⟨_, (true), (by first | rfl | (simp; done) | (simp [*]; done)), H', ⟨by first | omega | exact Nat.le_refl _⟩, ⟨by (with_reducible repeat (first | refine blk_drewN ?_ _ | refine blk_drew ?_ | refine blk_alloc ?_ _)); refine blk_far ?_ NB230_243.out _; (with_reducible repeat (first | refine blk_drewN ?_ _ | refine blk_drew ?_ | refine blk_alloc ?_ _)); refine blk_far ?_ NB230_243.out _; (with_reducible repeat (first | refine blk_drewN ?_ _ | refine blk_drew ?_ | refine blk_alloc ?_ _)); refine blk_far ?_ NB230_243.out _; (with_reducible repeat (first | refine blk_drewN ?_ _ | refine blk_drew ?_ | refine blk_alloc ?_ _)); refine blk_far ?_ NB230_243.out _; (with_reducible repeat (first | refine blk_drewN ?_ _ | refine blk_drew ?_ | refine blk_alloc ?_ _)); refine blk_far ?_ NB230_243.out _; (with_reducible repeat (first | refine blk_drewN ?_ _ | refine blk_drew ?_ | refine blk_alloc ?_ _)); refine blk_far ?_ NB230_243.out _; (with_reducible repeat (first | refine blk_drewN ?_ _ | refine blk_drew ?_ | refine blk_alloc ?_ _)); refine blk_far ?_ NB230_243.out _; (with_reducible repeat (first | refine blk_drewN ?_ _ | refine blk_drew ?_ | refine blk_alloc ?_ _)); exact BK230.out⟩, ⟨by (with_reducible repeat (first | refine blk_drewN ?_ _ | refine blk_drew ?_ | refine blk_alloc ?_ _)); refine blk_put (cs := #[.int .i64 t235, .int .i64 t236, .bool t237, .bool t238, .bool t239, .bool t240, .int .i64 0]) ?_ 6 _ rfl; (with_reducible repeat (first | refine blk_drewN ?_ _ | refine blk_drew ?_ | refine blk_alloc ?_ _)); refine blk_put (cs := #[.int .i64 t235, .int .i64 t236, .bool t237, .bool t238, .bool t239, .bool false, .int .i64 0]) ?_ 5 _ rfl; (with_reducible repeat (first | refine blk_drewN ?_ _ | refine blk_drew ?_ | refine blk_alloc ?_ _)); refine blk_put (cs := #[.int .i64 t235, .int .i64 t236, .bool t237, .bool t238, .bool false, .bool false, .int .i64 0]) ?_ 4 _ rfl; (with_reducible repeat (first | refine blk_drewN ?_ _ | refine blk_drew ?_ | refine blk_alloc ?_ _)); refine blk_put (cs := #[.int .i64 t235, .int .i64 t236, .bool t237, .bool false, .bool false, .bool false, .int .i64 0]) ?_ 3 _ rfl; (with_reducible repeat (first | refine blk_drewN ?_ _ | refine blk_drew ?_ | refine blk_alloc ?_ _)); refine blk_put (cs := #[.int .i64 t235, .int .i64 t236, .bool false, .bool false, .bool false, .bool false, .int .i64 0]) ?_ 2 _ rfl; (with_reducible repeat (first | refine blk_drewN ?_ _ | refine blk_drew ?_ | refine blk_alloc ?_ _)); refine blk_put (cs := #[.int .i64 t235, .int .i64 0, .bool false, .bool false, .bool false, .bool false, .int .i64 0]) ?_ 1 _ rfl; (with_reducible repeat (first | refine blk_drewN ?_ _ | refine blk_drew ?_ | refine blk_alloc ?_ _)); refine blk_put (cs := #[.int .i64 0, .int .i64 0, .bool false, .bool false, .bool false, .bool false, .int .i64 0]) ?_ 0 _ rfl; (with_reducible repeat (first | refine blk_drewN ?_ _ | refine blk_drew ?_ | refine blk_alloc ?_ _)); exact BK243.out⟩, ⟨by repeat (first | (with_reducible first | exact HB.out | apply below_alloc | apply pw_below_drewN | apply below_drew1 | refine below_set ?_ GE230.out | refine below_set ?_ GE243.out) | exact HB.out)⟩⟩
    case rest =>
      clear HC7
      try clear c1
      try clear p2
      try clear q2
      try clear c5
      try clear c10
      try clear c11
      try clear c13
      try clear c14
      try clear c16
      try clear hcz10_0
      try clear hcz10_1
      try clear hcz10_2
      try clear hcz10_3
      try clear hcz10_4
      try clear hcz10_5
      try clear hcz10_6
      try clear hcz15_0
      try clear hcz15_1
      try clear hcz15_2
      try clear hcz15_3
      try clear hcz15_4
      try clear hcz15_5
      try clear hcz15_6
      try clear hcz17_0
      try clear hcz17_1
      try clear hcz17_2
      try clear hcz17_3
      try clear hcz17_4
      try clear hcz17_5
      try clear hcz17_6
      try clear hcz18_0
      try clear hcz18_1
      try clear hcz18_2
      try clear hcz18_3
      try clear hcz18_4
      try clear hcz18_5
      try clear hcz18_6
      try clear hfz10_0
      try clear hfz10_1
      try clear hfz10_2
      try clear hfz10_3
      try clear hfz10_4
      try clear hfz10_5
      try clear hfz10_6
      try clear hfz15_0
      try clear hfz15_1
      try clear hfz15_2
      try clear hfz15_3
      try clear hfz15_4
      try clear hfz15_5
      try clear hfz15_6
      try clear hfz17_0
      try clear hfz17_1
      try clear hfz17_2
      try clear hfz17_3
      try clear hfz17_4
      try clear hfz17_5
      try clear hfz17_6
      try clear hfz18_0
      try clear hfz18_1
      try clear hfz18_2
      try clear hfz18_3
      try clear hfz18_4
      try clear hfz18_5
      try clear hfz18_6
      try clear q234
      try clear q244
      obtain ⟨kq, x37_6, rfl, HA, HJ6, BK230, BK243, HB⟩ := hcut
      cases kq with
      | zero => exact absurd HA.out (by simp [paviorlaw02_PteBack.j0])
      | succ kj6 =>
        have H := HA.out
        clear HA
        simp only [paviorlaw02_PteBack.j0] at H
        by_cases c19 : x37_6 = true
        · subst c19
          have H1 : (some false) = some r := by rw [if_pos rfl] at H; exact H
          clear H
          have H := H1
          clear H1
          obtain rfl := Option.some.inj H
          go_wp2
          go_ret
          exact ⟨by first | rfl | (simp [errW_none, errW_some] <;> rfl) | (simp [*, errW_none, errW_some] <;> rfl), by repeat (first | (with_reducible first | exact HB.out | apply below_alloc | apply pw_below_drewN | apply below_drew1 | refine below_set ?_ GE230.out | refine below_set ?_ GE243.out) | exact HB.out)⟩
        · replace c19 := Bool.eq_false_iff.mpr c19
          subst c19
          have H1 : ((pte_Decode.f kj6 a0 a2).bind fun bt245 => (if bt245.2.2.2.2.2.2.2.isNone = true then (paviorlaw02_PteBack.j1 kj6 a0 a2 t231 (bt245.1 == 5) bt245.1 bt245.2.1 bt245.2.2.1 bt245.2.2.2.1 bt245.2.2.2.2.1 bt245.2.2.2.2.2.1 bt245.2.2.2.2.2.2.1) else (paviorlaw02_PteBack.j1 kj6 a0 a2 t231 true bt245.1 bt245.2.1 bt245.2.2.1 bt245.2.2.2.1 bt245.2.2.2.2.1 bt245.2.2.2.2.2.1 bt245.2.2.2.2.2.2.1))) = some r := by rw [if_neg (show ¬ (false = true) by decide)] at H; exact H
          clear H
          have H := H1
          clear H1
          replace H := Option.bind_eq_some_iff.mp H
          obtain ⟨⟨t245, t246, t247, t248, t249, t250, t251, t252⟩, A200, H⟩ := H
          replace H : (if t252.isNone = true then (paviorlaw02_PteBack.j1 kj6 a0 a2 t231 (t245 == 5) t245 t246 t247 t248 t249 t250 t251) else (paviorlaw02_PteBack.j1 kj6 a0 a2 t231 true t245 t246 t247 t248 t249 t250 t251)) = some r := H
          have A20 := Aside0.mk A200
          clear A200
          have HC21 := Aside0.mk H
          clear H
          go_upto_region 8 with (first | ((with_reducible refine gate_callee (f := 11) rfl ?_); refine goesL_ (some 41) rfl rfl Try.func11 (by kernel_rfl) rfl #[.int .i64 a0, .int .u64 a2] rfl (by (try simp only [List.map_toArray, List.map_cons, List.map_nil]); first | done | rfl | (simp only [List.length_drop, List.length_take]; rfl)) ?_; (with_reducible refine (pte_Decode.calls kj6 a0 a2 t245 t246 t247 t248 t249 t250 t251 t252 _ A20.out).mono ?_); rintro e w22 ⟨rfl, hb⟩; refine ⟨_, rfl, ?_⟩; have n0_ := Aside0.mk (blk_below (g := gb230) (o := .cells #[.int .i64 a1_0, .int .i64 a1_1, .bool a1_2, .bool a1_3, .bool a1_4, .bool a1_5, .int .i64 a1_6] 25 (0, 0)) (by (with_reducible repeat (first | refine blk_drewN ?_ _ | refine blk_drew ?_ | refine blk_alloc ?_ _)); exact BK230.out) hb); have n1_ := Aside0.mk (blk_below (g := gb243) (o := .cells #[.int .i64 t235, .int .i64 t236, .bool t237, .bool t238, .bool t239, .bool t240, .int .i64 t241] 25 (0, 0)) (by (with_reducible repeat (first | refine blk_drewN ?_ _ | refine blk_drew ?_ | refine blk_alloc ?_ _)); exact BK243.out) hb); have n2_ := Aside0.mk (below_step (by repeat (first | (with_reducible first | exact HB.out | apply below_alloc | apply pw_below_drewN | apply below_drew1 | refine below_set ?_ GE230.out | refine below_set ?_ GE243.out) | exact HB.out)) hb); clear BK230; clear BK243; clear HB; have BK230 := n0_; have BK243 := n1_; have HB := n2_; clear n0_ n1_ n2_; (try clear hb); (try clear hb2); (try clear hk); (try clear hi); (try simp only [errW_none, errW_some])) | ((with_reducible refine gate_dst (N := 12) rfl ?_); refine box_event ?hg (N := 12) ?hd (cs := #[.int .i64 0, .int .i64 0, .bool false, .bool false, .bool false, .bool false, .int .i64 0]) (t := 25) ?hr ?_; (case hd => rfl); (case hg => rfl); (case hr => first | (go_simp; done) | (go_simp; rfl)); intro gb253 hg w23 hbox hb; have n0_ := Aside0.mk (blk_below (g := gb230) (o := .cells #[.int .i64 a1_0, .int .i64 a1_1, .bool a1_2, .bool a1_3, .bool a1_4, .bool a1_5, .int .i64 a1_6] 25 (0, 0)) (by (with_reducible repeat (first | refine blk_drewN ?_ _ | refine blk_drew ?_ | refine blk_alloc ?_ _)); exact BK230.out) hb); have n1_ := Aside0.mk (blk_below (g := gb243) (o := .cells #[.int .i64 t235, .int .i64 t236, .bool t237, .bool t238, .bool t239, .bool t240, .int .i64 t241] 25 (0, 0)) (by (with_reducible repeat (first | refine blk_drewN ?_ _ | refine blk_drew ?_ | refine blk_alloc ?_ _)); exact BK243.out) hb); have n2_ := Aside0.mk (below_step (by repeat (first | (with_reducible first | exact HB.out | apply below_alloc | apply pw_below_drewN | apply below_drew1 | refine below_set ?_ GE230.out | refine below_set ?_ GE243.out) | exact HB.out)) hb); have n3_ := Aside0.mk (hbox); have n4_ := Aside0.mk ((by rw [hg]; exact (below_size (by repeat (first | (with_reducible first | exact HB.out | apply below_alloc | apply pw_below_drewN | apply below_drew1 | refine below_set ?_ GE230.out | refine below_set ?_ GE243.out) | exact HB.out))) : w.heap.size ≤ gb253)); have n5_ := Aside0.mk ((by rw [hg]; exact (below_size (by repeat (first | (with_reducible first | exact HB.out | apply below_alloc | apply pw_below_drewN | apply below_drew1 | refine below_set ?_ GE230.out | refine below_set ?_ GE243.out) | exact HB.out))) : w.heap.size ≤ gb253)); have n6_ := Aside0.mk ((by rw [hg]; exact Nat.ne_of_lt (blk_lt (g := gb230) (o := .cells #[.int .i64 a1_0, .int .i64 a1_1, .bool a1_2, .bool a1_3, .bool a1_4, .bool a1_5, .int .i64 a1_6] 25 (0, 0)) (by (with_reducible repeat (first | refine blk_drewN ?_ _ | refine blk_drew ?_ | refine blk_alloc ?_ _)); exact BK230.out)) : gb230 ≠ gb253)); have n7_ := Aside0.mk ((by rw [hg]; exact Nat.ne_of_gt (blk_lt (g := gb230) (o := .cells #[.int .i64 a1_0, .int .i64 a1_1, .bool a1_2, .bool a1_3, .bool a1_4, .bool a1_5, .int .i64 a1_6] 25 (0, 0)) (by (with_reducible repeat (first | refine blk_drewN ?_ _ | refine blk_drew ?_ | refine blk_alloc ?_ _)); exact BK230.out)) : gb253 ≠ gb230)); have n8_ := Aside0.mk ((by rw [hg]; exact Nat.ne_of_lt (blk_lt (g := gb243) (o := .cells #[.int .i64 t235, .int .i64 t236, .bool t237, .bool t238, .bool t239, .bool t240, .int .i64 t241] 25 (0, 0)) (by (with_reducible repeat (first | refine blk_drewN ?_ _ | refine blk_drew ?_ | refine blk_alloc ?_ _)); exact BK243.out)) : gb243 ≠ gb253)); have n9_ := Aside0.mk ((by rw [hg]; exact Nat.ne_of_gt (blk_lt (g := gb243) (o := .cells #[.int .i64 t235, .int .i64 t236, .bool t237, .bool t238, .bool t239, .bool t240, .int .i64 t241] 25 (0, 0)) (by (with_reducible repeat (first | refine blk_drewN ?_ _ | refine blk_drew ?_ | refine blk_alloc ?_ _)); exact BK243.out)) : gb253 ≠ gb243)); clear BK230; clear BK243; clear HB; have BK230 := n0_; have BK243 := n1_; have HB := n2_; have BK253 := n3_; have GW253 := n4_; have GE253 := n5_; have NB230_253 := n6_; have NB253_230 := n7_; have NB243_253 := n8_; have NB253_243 := n9_; clear n0_ n1_ n2_ n3_ n4_ n5_ n6_ n7_ n8_ n9_; clear hb hbox hg; have hnb24 := NB253_230.out; have hnc24 := NB230_253.out; have hnb25 := NB253_243.out; have hnc25 := NB243_253.out; have hcz26_0 : w23.cell? ⟨gb253, 0, none⟩ = some (.int .i64 0) := (blk_cell BK253.out 0).trans rfl; have hcz26_1 : w23.cell? ⟨gb253, 1, none⟩ = some (.int .i64 0) := (blk_cell BK253.out 1).trans rfl; have hcz26_2 : w23.cell? ⟨gb253, 2, none⟩ = some (.bool false) := (blk_cell BK253.out 2).trans rfl; have hcz26_3 : w23.cell? ⟨gb253, 3, none⟩ = some (.bool false) := (blk_cell BK253.out 3).trans rfl; have hcz26_4 : w23.cell? ⟨gb253, 4, none⟩ = some (.bool false) := (blk_cell BK253.out 4).trans rfl; have hcz26_5 : w23.cell? ⟨gb253, 5, none⟩ = some (.bool false) := (blk_cell BK253.out 5).trans rfl; have hcz26_6 : w23.cell? ⟨gb253, 6, none⟩ = some (.int .i64 0) := (blk_cell BK253.out 6).trans rfl; have hfz26_0 := blk_frozen BK253.out 0; have hfz26_1 := blk_frozen BK253.out 1; have hfz26_2 := blk_frozen BK253.out 2; have hfz26_3 := blk_frozen BK253.out 3; have hfz26_4 := blk_frozen BK253.out 4; have hfz26_5 := blk_frozen BK253.out 5; have hfz26_6 := blk_frozen BK253.out 6))
          (try simp only [Act.put, List.setIfInBounds_toArray, List.set_cons_zero, List.set_cons_succ])
          go_cut [50] (fun v50 wc => ∃ (kq : Nat) (x50_20 : Bool), v50 = .bool x50_20 ∧ Aside0 (paviorlaw02_PteBack.j1 kq a0 a2 t231 x50_20 t245 t246 t247 t248 t249 t250 t251 = some r) ∧ Aside0 (kq ≤ kj6) ∧ Aside0 (wc.heap[gb230]? = some (.cells #[.int .i64 a1_0, .int .i64 a1_1, .bool a1_2, .bool a1_3, .bool a1_4, .bool a1_5, .int .i64 a1_6] 25 (0, 0))) ∧ Aside0 (wc.heap[gb243]? = some (.cells #[.int .i64 t235, .int .i64 t236, .bool t237, .bool t238, .bool t239, .bool t240, .int .i64 t241] 25 (0, 0))) ∧ Aside0 (wc.heap[gb253]? = some (.cells #[.int .i64 t245, .int .i64 t246, .bool t247, .bool t248, .bool t249, .bool t250, .int .i64 t251] 25 (0, 0))) ∧ Aside0 (Below w.heap.size w wc))
          case first =>
            have H := HC21.out
            clear HC21
            rcases t252 with _ | q254
            · have H1 : (paviorlaw02_PteBack.j1 kj6 a0 a2 t231 (t245 == 5) t245 t246 t247 t248 t249 t250 t251) = some r := by rw [if_pos (show (none : Option Int).isNone = true by rfl)] at H; exact H
              clear H
              have H := H1
              clear H1
              try simp only [errW_none, errW_some]
              have H' := Aside0.mk H
              clear H
              have hnb27 := NB253_230.out
              have hnc27 := NB230_253.out
              have hnb28 := NB253_243.out
              have hnc28 := NB243_253.out
              have hcz29_0 : w23.cell? ⟨gb253, 0, none⟩ = some (.int .i64 0) := (blk_cell BK253.out 0).trans rfl
              have hcz29_1 : w23.cell? ⟨gb253, 1, none⟩ = some (.int .i64 0) := (blk_cell BK253.out 1).trans rfl
              have hcz29_2 : w23.cell? ⟨gb253, 2, none⟩ = some (.bool false) := (blk_cell BK253.out 2).trans rfl
              have hcz29_3 : w23.cell? ⟨gb253, 3, none⟩ = some (.bool false) := (blk_cell BK253.out 3).trans rfl
              have hcz29_4 : w23.cell? ⟨gb253, 4, none⟩ = some (.bool false) := (blk_cell BK253.out 4).trans rfl
              have hcz29_5 : w23.cell? ⟨gb253, 5, none⟩ = some (.bool false) := (blk_cell BK253.out 5).trans rfl
              have hcz29_6 : w23.cell? ⟨gb253, 6, none⟩ = some (.int .i64 0) := (blk_cell BK253.out 6).trans rfl
              have hfz29_0 := blk_frozen BK253.out 0
              have hfz29_1 := blk_frozen BK253.out 1
              have hfz29_2 := blk_frozen BK253.out 2
              have hfz29_3 := blk_frozen BK253.out 3
              have hfz29_4 := blk_frozen BK253.out 4
              have hfz29_5 := blk_frozen BK253.out 5
              have hfz29_6 := blk_frozen BK253.out 6
              go_wp2
              go_meet
              case rel => exact ⟨_, ((t245 == 5)), (by first | rfl | (simp; done) | (simp [*]; done)), H', ⟨by have := HJ6.out; first | omega | exact Nat.le_refl _⟩, ⟨by (with_reducible repeat (first | refine blk_drewN ?_ _ | refine blk_drew ?_ | refine blk_alloc ?_ _)); refine blk_far ?_ NB230_253.out _; (with_reducible repeat (first | refine blk_drewN ?_ _ | refine blk_drew ?_ | refine blk_alloc ?_ _)); refine blk_far ?_ NB230_253.out _; (with_reducible repeat (first | refine blk_drewN ?_ _ | refine blk_drew ?_ | refine blk_alloc ?_ _)); refine blk_far ?_ NB230_253.out _; (with_reducible repeat (first | refine blk_drewN ?_ _ | refine blk_drew ?_ | refine blk_alloc ?_ _)); refine blk_far ?_ NB230_253.out _; (with_reducible repeat (first | refine blk_drewN ?_ _ | refine blk_drew ?_ | refine blk_alloc ?_ _)); refine blk_far ?_ NB230_253.out _; (with_reducible repeat (first | refine blk_drewN ?_ _ | refine blk_drew ?_ | refine blk_alloc ?_ _)); refine blk_far ?_ NB230_253.out _; (with_reducible repeat (first | refine blk_drewN ?_ _ | refine blk_drew ?_ | refine blk_alloc ?_ _)); refine blk_far ?_ NB230_253.out _; (with_reducible repeat (first | refine blk_drewN ?_ _ | refine blk_drew ?_ | refine blk_alloc ?_ _)); exact BK230.out⟩, ⟨by (with_reducible repeat (first | refine blk_drewN ?_ _ | refine blk_drew ?_ | refine blk_alloc ?_ _)); refine blk_far ?_ NB243_253.out _; (with_reducible repeat (first | refine blk_drewN ?_ _ | refine blk_drew ?_ | refine blk_alloc ?_ _)); refine blk_far ?_ NB243_253.out _; (with_reducible repeat (first | refine blk_drewN ?_ _ | refine blk_drew ?_ | refine blk_alloc ?_ _)); refine blk_far ?_ NB243_253.out _; (with_reducible repeat (first | refine blk_drewN ?_ _ | refine blk_drew ?_ | refine blk_alloc ?_ _)); refine blk_far ?_ NB243_253.out _; (with_reducible repeat (first | refine blk_drewN ?_ _ | refine blk_drew ?_ | refine blk_alloc ?_ _)); refine blk_far ?_ NB243_253.out _; (with_reducible repeat (first | refine blk_drewN ?_ _ | refine blk_drew ?_ | refine blk_alloc ?_ _)); refine blk_far ?_ NB243_253.out _; (with_reducible repeat (first | refine blk_drewN ?_ _ | refine blk_drew ?_ | refine blk_alloc ?_ _)); refine blk_far ?_ NB243_253.out _; (with_reducible repeat (first | refine blk_drewN ?_ _ | refine blk_drew ?_ | refine blk_alloc ?_ _)); exact BK243.out⟩, ⟨by (with_reducible repeat (first | refine blk_drewN ?_ _ | refine blk_drew ?_ | refine blk_alloc ?_ _)); refine blk_put (cs := #[.int .i64 t245, .int .i64 t246, .bool t247, .bool t248, .bool t249, .bool t250, .int .i64 0]) ?_ 6 _ rfl; (with_reducible repeat (first | refine blk_drewN ?_ _ | refine blk_drew ?_ | refine blk_alloc ?_ _)); refine blk_put (cs := #[.int .i64 t245, .int .i64 t246, .bool t247, .bool t248, .bool t249, .bool false, .int .i64 0]) ?_ 5 _ rfl; (with_reducible repeat (first | refine blk_drewN ?_ _ | refine blk_drew ?_ | refine blk_alloc ?_ _)); refine blk_put (cs := #[.int .i64 t245, .int .i64 t246, .bool t247, .bool t248, .bool false, .bool false, .int .i64 0]) ?_ 4 _ rfl; (with_reducible repeat (first | refine blk_drewN ?_ _ | refine blk_drew ?_ | refine blk_alloc ?_ _)); refine blk_put (cs := #[.int .i64 t245, .int .i64 t246, .bool t247, .bool false, .bool false, .bool false, .int .i64 0]) ?_ 3 _ rfl; (with_reducible repeat (first | refine blk_drewN ?_ _ | refine blk_drew ?_ | refine blk_alloc ?_ _)); refine blk_put (cs := #[.int .i64 t245, .int .i64 t246, .bool false, .bool false, .bool false, .bool false, .int .i64 0]) ?_ 2 _ rfl; (with_reducible repeat (first | refine blk_drewN ?_ _ | refine blk_drew ?_ | refine blk_alloc ?_ _)); refine blk_put (cs := #[.int .i64 t245, .int .i64 0, .bool false, .bool false, .bool false, .bool false, .int .i64 0]) ?_ 1 _ rfl; (with_reducible repeat (first | refine blk_drewN ?_ _ | refine blk_drew ?_ | refine blk_alloc ?_ _)); refine blk_put (cs := #[.int .i64 0, .int .i64 0, .bool false, .bool false, .bool false, .bool false, .int .i64 0]) ?_ 0 _ rfl; (with_reducible repeat (first | refine blk_drewN ?_ _ | refine blk_drew ?_ | refine blk_alloc ?_ _)); exact BK253.out⟩, ⟨by repeat (first | (with_reducible first | exact HB.out | apply below_alloc | apply pw_below_drewN | apply below_drew1 | refine below_set ?_ GE230.out | refine below_set ?_ GE243.out | refine below_set ?_ GE253.out) | exact HB.out)⟩⟩
            · have H1 : (paviorlaw02_PteBack.j1 kj6 a0 a2 t231 true t245 t246 t247 t248 t249 t250 t251) = some r := by rw [if_neg (show ¬ (some q254).isNone = true by simp)] at H; exact H
              clear H
              have H := H1
              clear H1
              try simp only [errW_none, errW_some]
              have H' := Aside0.mk H
              clear H
              go_wp2
              go_meet
              case rel => exact ⟨_, (true), (by first | rfl | (simp; done) | (simp [*]; done)), H', ⟨by have := HJ6.out; first | omega | exact Nat.le_refl _⟩, ⟨by (with_reducible repeat (first | refine blk_drewN ?_ _ | refine blk_drew ?_ | refine blk_alloc ?_ _)); refine blk_far ?_ NB230_253.out _; (with_reducible repeat (first | refine blk_drewN ?_ _ | refine blk_drew ?_ | refine blk_alloc ?_ _)); refine blk_far ?_ NB230_253.out _; (with_reducible repeat (first | refine blk_drewN ?_ _ | refine blk_drew ?_ | refine blk_alloc ?_ _)); refine blk_far ?_ NB230_253.out _; (with_reducible repeat (first | refine blk_drewN ?_ _ | refine blk_drew ?_ | refine blk_alloc ?_ _)); refine blk_far ?_ NB230_253.out _; (with_reducible repeat (first | refine blk_drewN ?_ _ | refine blk_drew ?_ | refine blk_alloc ?_ _)); refine blk_far ?_ NB230_253.out _; (with_reducible repeat (first | refine blk_drewN ?_ _ | refine blk_drew ?_ | refine blk_alloc ?_ _)); refine blk_far ?_ NB230_253.out _; (with_reducible repeat (first | refine blk_drewN ?_ _ | refine blk_drew ?_ | refine blk_alloc ?_ _)); refine blk_far ?_ NB230_253.out _; (with_reducible repeat (first | refine blk_drewN ?_ _ | refine blk_drew ?_ | refine blk_alloc ?_ _)); exact BK230.out⟩, ⟨by (with_reducible repeat (first | refine blk_drewN ?_ _ | refine blk_drew ?_ | refine blk_alloc ?_ _)); refine blk_far ?_ NB243_253.out _; (with_reducible repeat (first | refine blk_drewN ?_ _ | refine blk_drew ?_ | refine blk_alloc ?_ _)); refine blk_far ?_ NB243_253.out _; (with_reducible repeat (first | refine blk_drewN ?_ _ | refine blk_drew ?_ | refine blk_alloc ?_ _)); refine blk_far ?_ NB243_253.out _; (with_reducible repeat (first | refine blk_drewN ?_ _ | refine blk_drew ?_ | refine blk_alloc ?_ _)); refine blk_far ?_ NB243_253.out _; (with_reducible repeat (first | refine blk_drewN ?_ _ | refine blk_drew ?_ | refine blk_alloc ?_ _)); refine blk_far ?_ NB243_253.out _; (with_reducible repeat (first | refine blk_drewN ?_ _ | refine blk_drew ?_ | refine blk_alloc ?_ _)); refine blk_far ?_ NB243_253.out _; (with_reducible repeat (first | refine blk_drewN ?_ _ | refine blk_drew ?_ | refine blk_alloc ?_ _)); refine blk_far ?_ NB243_253.out _; (with_reducible repeat (first | refine blk_drewN ?_ _ | refine blk_drew ?_ | refine blk_alloc ?_ _)); exact BK243.out⟩, ⟨by (with_reducible repeat (first | refine blk_drewN ?_ _ | refine blk_drew ?_ | refine blk_alloc ?_ _)); refine blk_put (cs := #[.int .i64 t245, .int .i64 t246, .bool t247, .bool t248, .bool t249, .bool t250, .int .i64 0]) ?_ 6 _ rfl; (with_reducible repeat (first | refine blk_drewN ?_ _ | refine blk_drew ?_ | refine blk_alloc ?_ _)); refine blk_put (cs := #[.int .i64 t245, .int .i64 t246, .bool t247, .bool t248, .bool t249, .bool false, .int .i64 0]) ?_ 5 _ rfl; (with_reducible repeat (first | refine blk_drewN ?_ _ | refine blk_drew ?_ | refine blk_alloc ?_ _)); refine blk_put (cs := #[.int .i64 t245, .int .i64 t246, .bool t247, .bool t248, .bool false, .bool false, .int .i64 0]) ?_ 4 _ rfl; (with_reducible repeat (first | refine blk_drewN ?_ _ | refine blk_drew ?_ | refine blk_alloc ?_ _)); refine blk_put (cs := #[.int .i64 t245, .int .i64 t246, .bool t247, .bool false, .bool false, .bool false, .int .i64 0]) ?_ 3 _ rfl; (with_reducible repeat (first | refine blk_drewN ?_ _ | refine blk_drew ?_ | refine blk_alloc ?_ _)); refine blk_put (cs := #[.int .i64 t245, .int .i64 t246, .bool false, .bool false, .bool false, .bool false, .int .i64 0]) ?_ 2 _ rfl; (with_reducible repeat (first | refine blk_drewN ?_ _ | refine blk_drew ?_ | refine blk_alloc ?_ _)); refine blk_put (cs := #[.int .i64 t245, .int .i64 0, .bool false, .bool false, .bool false, .bool false, .int .i64 0]) ?_ 1 _ rfl; (with_reducible repeat (first | refine blk_drewN ?_ _ | refine blk_drew ?_ | refine blk_alloc ?_ _)); refine blk_put (cs := #[.int .i64 0, .int .i64 0, .bool false, .bool false, .bool false, .bool false, .int .i64 0]) ?_ 0 _ rfl; (with_reducible repeat (first | refine blk_drewN ?_ _ | refine blk_drew ?_ | refine blk_alloc ?_ _)); exact BK253.out⟩, ⟨by repeat (first | (with_reducible first | exact HB.out | apply below_alloc | apply pw_below_drewN | apply below_drew1 | refine below_set ?_ GE230.out | refine below_set ?_ GE243.out | refine below_set ?_ GE253.out) | exact HB.out)⟩⟩
          case rest =>
            clear HC21
            try clear c1
            try clear c2
            try clear p2
            try clear q2
            try clear c5
            try clear c10
            try clear c11
            try clear c13
            try clear c14
            try clear c16
            try clear c19
            try clear q23
            try clear c24
            try clear q24
            try clear c25
            try clear q25
            try clear c27
            try clear c28
            try clear hcz10_0
            try clear hcz10_1
            try clear hcz10_2
            try clear hcz10_3
            try clear hcz10_4
            try clear hcz10_5
            try clear hcz10_6
            try clear hcz15_0
            try clear hcz15_1
            try clear hcz15_2
            try clear hcz15_3
            try clear hcz15_4
            try clear hcz15_5
            try clear hcz15_6
            try clear hcz17_0
            try clear hcz17_1
            try clear hcz17_2
            try clear hcz17_3
            try clear hcz17_4
            try clear hcz17_5
            try clear hcz17_6
            try clear hcz18_0
            try clear hcz18_1
            try clear hcz18_2
            try clear hcz18_3
            try clear hcz18_4
            try clear hcz18_5
            try clear hcz18_6
            try clear hcz26_0
            try clear hcz26_1
            try clear hcz26_2
            try clear hcz26_3
            try clear hcz26_4
            try clear hcz26_5
            try clear hcz26_6
            try clear hcz29_0
            try clear hcz29_1
            try clear hcz29_2
            try clear hcz29_3
            try clear hcz29_4
            try clear hcz29_5
            try clear hcz29_6
            try clear hfz10_0
            try clear hfz10_1
            try clear hfz10_2
            try clear hfz10_3
            try clear hfz10_4
            try clear hfz10_5
            try clear hfz10_6
            try clear hfz15_0
            try clear hfz15_1
            try clear hfz15_2
            try clear hfz15_3
            try clear hfz15_4
            try clear hfz15_5
            try clear hfz15_6
            try clear hfz17_0
            try clear hfz17_1
            try clear hfz17_2
            try clear hfz17_3
            try clear hfz17_4
            try clear hfz17_5
            try clear hfz17_6
            try clear hfz18_0
            try clear hfz18_1
            try clear hfz18_2
            try clear hfz18_3
            try clear hfz18_4
            try clear hfz18_5
            try clear hfz18_6
            try clear hfz26_0
            try clear hfz26_1
            try clear hfz26_2
            try clear hfz26_3
            try clear hfz26_4
            try clear hfz26_5
            try clear hfz26_6
            try clear hfz29_0
            try clear hfz29_1
            try clear hfz29_2
            try clear hfz29_3
            try clear hfz29_4
            try clear hfz29_5
            try clear hfz29_6
            try clear p2
            try clear q2
            try clear q234
            try clear q244
            try clear q254
            obtain ⟨kq, x50_20, rfl, HA, HJ20, BK230, BK243, BK253, HB⟩ := hcut
            cases kq with
            | zero => exact absurd HA.out (by simp [paviorlaw02_PteBack.j1])
            | succ kj20 =>
              have H := HA.out
              clear HA
              simp only [paviorlaw02_PteBack.j1] at H
              by_cases c30 : x50_20 = true
              · subst c30
                have H1 : (some t231) = some r := by rw [if_pos rfl] at H; exact H
                clear H
                have H := H1
                clear H1
                obtain rfl := Option.some.inj H
                go_wp2
                go_ret
                exact ⟨by first | rfl | (simp [errW_none, errW_some] <;> rfl) | (simp [*, errW_none, errW_some] <;> rfl), by repeat (first | (with_reducible first | exact HB.out | apply below_alloc | apply pw_below_drewN | apply below_drew1 | refine below_set ?_ GE230.out | refine below_set ?_ GE243.out | refine below_set ?_ GE253.out) | exact HB.out)⟩
              · replace c30 := Bool.eq_false_iff.mpr c30
                subst c30
                have H1 : ((pte_Encode.f kj20 a0 t245 t246 t247 t248 t249 t250 t251).bind fun bt255 => (if t231 = true then (if bt255.2.isNone = true then (some (bt255.1 == a2)) else (some false)) else (some false))) = some r := by rw [if_neg (show ¬ (false = true) by decide)] at H; exact H
                clear H
                have H := H1
                clear H1
                replace H := Option.bind_eq_some_iff.mp H
                obtain ⟨⟨t255, t256⟩, A310, H⟩ := H
                replace H : (if t231 = true then (if t256.isNone = true then (some (t255 == a2)) else (some false)) else (some false)) = some r := H
                have A31 := Aside0.mk A310
                clear A310
                by_cases c32 : t231 = true
                · subst c32
                  have H1 : (if t256.isNone = true then (some (t255 == a2)) else (some false)) = some r := by rw [if_pos rfl] at H; exact H
                  clear H
                  have H := H1
                  clear H1
                  rcases t256 with _ | q257
                  · have H1 : (some (t255 == a2)) = some r := by rw [if_pos (show (none : Option Int).isNone = true by rfl)] at H; exact H
                    clear H
                    have H := H1
                    clear H1
                    try simp only [errW_none, errW_some]
                    obtain rfl := Option.some.inj H
                    have hnb33 := NB253_230.out
                    have hnc33 := NB230_253.out
                    have hnb34 := NB253_243.out
                    have hnc34 := NB243_253.out
                    have hcz35_0 : wc.cell? ⟨gb253, 0, none⟩ = some (.int .i64 t245) := (blk_cell BK253.out 0).trans rfl
                    have hcz35_1 : wc.cell? ⟨gb253, 1, none⟩ = some (.int .i64 t246) := (blk_cell BK253.out 1).trans rfl
                    have hcz35_2 : wc.cell? ⟨gb253, 2, none⟩ = some (.bool t247) := (blk_cell BK253.out 2).trans rfl
                    have hcz35_3 : wc.cell? ⟨gb253, 3, none⟩ = some (.bool t248) := (blk_cell BK253.out 3).trans rfl
                    have hcz35_4 : wc.cell? ⟨gb253, 4, none⟩ = some (.bool t249) := (blk_cell BK253.out 4).trans rfl
                    have hcz35_5 : wc.cell? ⟨gb253, 5, none⟩ = some (.bool t250) := (blk_cell BK253.out 5).trans rfl
                    have hcz35_6 : wc.cell? ⟨gb253, 6, none⟩ = some (.int .i64 t251) := (blk_cell BK253.out 6).trans rfl
                    have hfz35_0 := blk_frozen BK253.out 0
                    have hfz35_1 := blk_frozen BK253.out 1
                    have hfz35_2 := blk_frozen BK253.out 2
                    have hfz35_3 := blk_frozen BK253.out 3
                    have hfz35_4 := blk_frozen BK253.out 4
                    have hfz35_5 := blk_frozen BK253.out 5
                    have hfz35_6 := blk_frozen BK253.out 6
                    go_wp2_with (first | ((with_reducible refine gate_callee (f := 13) rfl ?_); refine goesL_ (some 55) rfl rfl Try.func13 (by kernel_rfl) rfl #[.int .i64 a0, .agg #[.int .i64 t245, .int .i64 t246, .bool t247, .bool t248, .bool t249, .bool t250, .int .i64 t251]] rfl (by (try simp only [List.map_toArray, List.map_cons, List.map_nil]); first | done | rfl | (simp only [List.length_drop, List.length_take]; rfl)) ?_; (with_reducible refine (pte_Encode.calls kj20 a0 t245 t246 t247 t248 t249 t250 t251 t255 none _ A31.out).mono ?_); rintro e w36 ⟨rfl, hb⟩; refine ⟨_, rfl, ?_⟩; have n0_ := Aside0.mk (blk_below (g := gb230) (o := .cells #[.int .i64 a1_0, .int .i64 a1_1, .bool a1_2, .bool a1_3, .bool a1_4, .bool a1_5, .int .i64 a1_6] 25 (0, 0)) (by (with_reducible repeat (first | refine blk_drewN ?_ _ | refine blk_drew ?_ | refine blk_alloc ?_ _)); exact BK230.out) hb); have n1_ := Aside0.mk (blk_below (g := gb243) (o := .cells #[.int .i64 t235, .int .i64 t236, .bool t237, .bool t238, .bool t239, .bool t240, .int .i64 t241] 25 (0, 0)) (by (with_reducible repeat (first | refine blk_drewN ?_ _ | refine blk_drew ?_ | refine blk_alloc ?_ _)); exact BK243.out) hb); have n2_ := Aside0.mk (blk_below (g := gb253) (o := .cells #[.int .i64 t245, .int .i64 t246, .bool t247, .bool t248, .bool t249, .bool t250, .int .i64 t251] 25 (0, 0)) (by (with_reducible repeat (first | refine blk_drewN ?_ _ | refine blk_drew ?_ | refine blk_alloc ?_ _)); exact BK253.out) hb); have n3_ := Aside0.mk (below_step (by repeat (first | (with_reducible first | exact HB.out | apply below_alloc | apply pw_below_drewN | apply below_drew1 | refine below_set ?_ GE230.out | refine below_set ?_ GE243.out | refine below_set ?_ GE253.out) | exact HB.out)) hb); clear BK230; clear BK243; clear BK253; clear HB; have BK230 := n0_; have BK243 := n1_; have BK253 := n2_; have HB := n3_; clear n0_ n1_ n2_ n3_; (try clear hb); (try clear hb2); (try clear hk); (try clear hi); (try simp only [errW_none, errW_some])))
                    go_ret
                    exact ⟨by first | rfl | (simp [errW_none, errW_some] <;> rfl) | (simp [*, errW_none, errW_some] <;> rfl), by repeat (first | (with_reducible first | exact HB.out | apply below_alloc | apply pw_below_drewN | apply below_drew1 | refine below_set ?_ GE230.out | refine below_set ?_ GE243.out | refine below_set ?_ GE253.out) | exact HB.out)⟩
                  · have H1 : (some false) = some r := by rw [if_neg (show ¬ (some q257).isNone = true by simp)] at H; exact H
                    clear H
                    have H := H1
                    clear H1
                    try simp only [errW_none, errW_some]
                    obtain rfl := Option.some.inj H
                    have hnb37 := NB253_230.out
                    have hnc37 := NB230_253.out
                    have hnb38 := NB253_243.out
                    have hnc38 := NB243_253.out
                    have hcz39_0 : wc.cell? ⟨gb253, 0, none⟩ = some (.int .i64 t245) := (blk_cell BK253.out 0).trans rfl
                    have hcz39_1 : wc.cell? ⟨gb253, 1, none⟩ = some (.int .i64 t246) := (blk_cell BK253.out 1).trans rfl
                    have hcz39_2 : wc.cell? ⟨gb253, 2, none⟩ = some (.bool t247) := (blk_cell BK253.out 2).trans rfl
                    have hcz39_3 : wc.cell? ⟨gb253, 3, none⟩ = some (.bool t248) := (blk_cell BK253.out 3).trans rfl
                    have hcz39_4 : wc.cell? ⟨gb253, 4, none⟩ = some (.bool t249) := (blk_cell BK253.out 4).trans rfl
                    have hcz39_5 : wc.cell? ⟨gb253, 5, none⟩ = some (.bool t250) := (blk_cell BK253.out 5).trans rfl
                    have hcz39_6 : wc.cell? ⟨gb253, 6, none⟩ = some (.int .i64 t251) := (blk_cell BK253.out 6).trans rfl
                    have hfz39_0 := blk_frozen BK253.out 0
                    have hfz39_1 := blk_frozen BK253.out 1
                    have hfz39_2 := blk_frozen BK253.out 2
                    have hfz39_3 := blk_frozen BK253.out 3
                    have hfz39_4 := blk_frozen BK253.out 4
                    have hfz39_5 := blk_frozen BK253.out 5
                    have hfz39_6 := blk_frozen BK253.out 6
                    go_wp2_with (first | ((with_reducible refine gate_callee (f := 13) rfl ?_); refine goesL_ (some 55) rfl rfl Try.func13 (by kernel_rfl) rfl #[.int .i64 a0, .agg #[.int .i64 t245, .int .i64 t246, .bool t247, .bool t248, .bool t249, .bool t250, .int .i64 t251]] rfl (by (try simp only [List.map_toArray, List.map_cons, List.map_nil]); first | done | rfl | (simp only [List.length_drop, List.length_take]; rfl)) ?_; (with_reducible refine (pte_Encode.calls kj20 a0 t245 t246 t247 t248 t249 t250 t251 t255 (some q257) _ A31.out).mono ?_); rintro e w40 ⟨rfl, hb⟩; refine ⟨_, rfl, ?_⟩; have n0_ := Aside0.mk (blk_below (g := gb230) (o := .cells #[.int .i64 a1_0, .int .i64 a1_1, .bool a1_2, .bool a1_3, .bool a1_4, .bool a1_5, .int .i64 a1_6] 25 (0, 0)) (by (with_reducible repeat (first | refine blk_drewN ?_ _ | refine blk_drew ?_ | refine blk_alloc ?_ _)); exact BK230.out) hb); have n1_ := Aside0.mk (blk_below (g := gb243) (o := .cells #[.int .i64 t235, .int .i64 t236, .bool t237, .bool t238, .bool t239, .bool t240, .int .i64 t241] 25 (0, 0)) (by (with_reducible repeat (first | refine blk_drewN ?_ _ | refine blk_drew ?_ | refine blk_alloc ?_ _)); exact BK243.out) hb); have n2_ := Aside0.mk (blk_below (g := gb253) (o := .cells #[.int .i64 t245, .int .i64 t246, .bool t247, .bool t248, .bool t249, .bool t250, .int .i64 t251] 25 (0, 0)) (by (with_reducible repeat (first | refine blk_drewN ?_ _ | refine blk_drew ?_ | refine blk_alloc ?_ _)); exact BK253.out) hb); have n3_ := Aside0.mk (below_step (by repeat (first | (with_reducible first | exact HB.out | apply below_alloc | apply pw_below_drewN | apply below_drew1 | refine below_set ?_ GE230.out | refine below_set ?_ GE243.out | refine below_set ?_ GE253.out) | exact HB.out)) hb); clear BK230; clear BK243; clear BK253; clear HB; have BK230 := n0_; have BK243 := n1_; have BK253 := n2_; have HB := n3_; clear n0_ n1_ n2_ n3_; (try clear hb); (try clear hb2); (try clear hk); (try clear hi); (try simp only [errW_none, errW_some])))
                    go_ret
                    exact ⟨by first | rfl | (simp [errW_none, errW_some] <;> rfl) | (simp [*, errW_none, errW_some] <;> rfl), by repeat (first | (with_reducible first | exact HB.out | apply below_alloc | apply pw_below_drewN | apply below_drew1 | refine below_set ?_ GE230.out | refine below_set ?_ GE243.out | refine below_set ?_ GE253.out) | exact HB.out)⟩
                · replace c32 := Bool.eq_false_iff.mpr c32
                  subst c32
                  have H1 : (some false) = some r := by rw [if_neg (show ¬ (false = true) by decide)] at H; exact H
                  clear H
                  have H := H1
                  clear H1
                  obtain rfl := Option.some.inj H
                  have hnb41 := NB253_230.out
                  have hnc41 := NB230_253.out
                  have hnb42 := NB253_243.out
                  have hnc42 := NB243_253.out
                  have hcz43_0 : wc.cell? ⟨gb253, 0, none⟩ = some (.int .i64 t245) := (blk_cell BK253.out 0).trans rfl
                  have hcz43_1 : wc.cell? ⟨gb253, 1, none⟩ = some (.int .i64 t246) := (blk_cell BK253.out 1).trans rfl
                  have hcz43_2 : wc.cell? ⟨gb253, 2, none⟩ = some (.bool t247) := (blk_cell BK253.out 2).trans rfl
                  have hcz43_3 : wc.cell? ⟨gb253, 3, none⟩ = some (.bool t248) := (blk_cell BK253.out 3).trans rfl
                  have hcz43_4 : wc.cell? ⟨gb253, 4, none⟩ = some (.bool t249) := (blk_cell BK253.out 4).trans rfl
                  have hcz43_5 : wc.cell? ⟨gb253, 5, none⟩ = some (.bool t250) := (blk_cell BK253.out 5).trans rfl
                  have hcz43_6 : wc.cell? ⟨gb253, 6, none⟩ = some (.int .i64 t251) := (blk_cell BK253.out 6).trans rfl
                  have hfz43_0 := blk_frozen BK253.out 0
                  have hfz43_1 := blk_frozen BK253.out 1
                  have hfz43_2 := blk_frozen BK253.out 2
                  have hfz43_3 := blk_frozen BK253.out 3
                  have hfz43_4 := blk_frozen BK253.out 4
                  have hfz43_5 := blk_frozen BK253.out 5
                  have hfz43_6 := blk_frozen BK253.out 6
                  go_wp2_with (first | ((with_reducible refine gate_callee (f := 13) rfl ?_); refine goesL_ (some 55) rfl rfl Try.func13 (by kernel_rfl) rfl #[.int .i64 a0, .agg #[.int .i64 t245, .int .i64 t246, .bool t247, .bool t248, .bool t249, .bool t250, .int .i64 t251]] rfl (by (try simp only [List.map_toArray, List.map_cons, List.map_nil]); first | done | rfl | (simp only [List.length_drop, List.length_take]; rfl)) ?_; (with_reducible refine (pte_Encode.calls kj20 a0 t245 t246 t247 t248 t249 t250 t251 t255 t256 _ A31.out).mono ?_); rintro e w44 ⟨rfl, hb⟩; refine ⟨_, rfl, ?_⟩; have n0_ := Aside0.mk (blk_below (g := gb230) (o := .cells #[.int .i64 a1_0, .int .i64 a1_1, .bool a1_2, .bool a1_3, .bool a1_4, .bool a1_5, .int .i64 a1_6] 25 (0, 0)) (by (with_reducible repeat (first | refine blk_drewN ?_ _ | refine blk_drew ?_ | refine blk_alloc ?_ _)); exact BK230.out) hb); have n1_ := Aside0.mk (blk_below (g := gb243) (o := .cells #[.int .i64 t235, .int .i64 t236, .bool t237, .bool t238, .bool t239, .bool t240, .int .i64 t241] 25 (0, 0)) (by (with_reducible repeat (first | refine blk_drewN ?_ _ | refine blk_drew ?_ | refine blk_alloc ?_ _)); exact BK243.out) hb); have n2_ := Aside0.mk (blk_below (g := gb253) (o := .cells #[.int .i64 t245, .int .i64 t246, .bool t247, .bool t248, .bool t249, .bool t250, .int .i64 t251] 25 (0, 0)) (by (with_reducible repeat (first | refine blk_drewN ?_ _ | refine blk_drew ?_ | refine blk_alloc ?_ _)); exact BK253.out) hb); have n3_ := Aside0.mk (below_step (by repeat (first | (with_reducible first | exact HB.out | apply below_alloc | apply pw_below_drewN | apply below_drew1 | refine below_set ?_ GE230.out | refine below_set ?_ GE243.out | refine below_set ?_ GE253.out) | exact HB.out)) hb); clear BK230; clear BK243; clear BK253; clear HB; have BK230 := n0_; have BK243 := n1_; have BK253 := n2_; have HB := n3_; clear n0_ n1_ n2_ n3_; (try clear hb); (try clear hb2); (try clear hk); (try clear hi); (try simp only [errW_none, errW_some])))
                  go_ret
                  exact ⟨by first | rfl | (simp [errW_none, errW_some] <;> rfl) | (simp [*, errW_none, errW_some] <;> rfl), by repeat (first | (with_reducible first | exact HB.out | apply below_alloc | apply pw_below_drewN | apply below_drew1 | refine below_set ?_ GE230.out | refine below_set ?_ GE243.out | refine below_set ?_ GE253.out) | exact HB.out)⟩
  · have H1 : ((pte_Decode.f k a0 a2).bind fun bt258 => (if bt258.2.2.2.2.2.2.2.isNone = true then (paviorlaw02_PteBack.j2 k a0 a2 t231 (bt258.1 == 5) bt258.1 bt258.2.1 bt258.2.2.1 bt258.2.2.2.1 bt258.2.2.2.2.1 bt258.2.2.2.2.2.1 bt258.2.2.2.2.2.2.1) else (paviorlaw02_PteBack.j2 k a0 a2 t231 true bt258.1 bt258.2.1 bt258.2.2.1 bt258.2.2.2.1 bt258.2.2.2.2.1 bt258.2.2.2.2.2.1 bt258.2.2.2.2.2.2.1))) = some r := by rw [if_neg (show ¬ (some q234).isNone = true by simp)] at H; exact H
    clear H
    have H := H1
    clear H1
    try simp only [errW_none, errW_some]
    replace H := Option.bind_eq_some_iff.mp H
    obtain ⟨⟨t258, t259, t260, t261, t262, t263, t264, t265⟩, A450, H⟩ := H
    replace H : (if t265.isNone = true then (paviorlaw02_PteBack.j2 k a0 a2 t231 (t258 == 5) t258 t259 t260 t261 t262 t263 t264) else (paviorlaw02_PteBack.j2 k a0 a2 t231 true t258 t259 t260 t261 t262 t263 t264)) = some r := H
    have A45 := Aside0.mk A450
    clear A450
    have HC46 := Aside0.mk H
    clear H
    go_enter Try.func5, Try.ntmps5
    go_upto_region 8 with (first | ((with_reducible refine gate_dst (N := 4) rfl ?_); refine box_event ?hg (N := 4) ?hd (cs := #[.int .i64 a1_0, .int .i64 a1_1, .bool a1_2, .bool a1_3, .bool a1_4, .bool a1_5, .int .i64 a1_6]) (t := 25) ?hr ?_; (case hd => rfl); (case hg => rfl); (case hr => first | (go_simp; done) | (go_simp; rfl)); intro gb230 hg w47 hbox hb; have n0_ := Aside0.mk (below_step (by repeat (first | (with_reducible first | exact HB.out | apply below_alloc | apply pw_below_drewN | apply below_drew1) | exact HB.out)) hb); have n1_ := Aside0.mk (hbox); have n2_ := Aside0.mk ((by rw [hg]; exact (below_size (by repeat (first | (with_reducible first | exact HB.out | apply below_alloc | apply pw_below_drewN | apply below_drew1) | exact HB.out))) : w.heap.size ≤ gb230)); have n3_ := Aside0.mk ((by rw [hg]; exact (below_size (by repeat (first | (with_reducible first | exact HB.out | apply below_alloc | apply pw_below_drewN | apply below_drew1) | exact HB.out))) : w.heap.size ≤ gb230)); clear HB; have HB := n0_; have BK230 := n1_; have GW230 := n2_; have GE230 := n3_; clear n0_ n1_ n2_ n3_; clear hb hbox hg) | ((with_reducible refine gate_callee (f := 10) rfl ?_); refine goesL_ (some 16) rfl rfl Try.func10 (by kernel_rfl) rfl #[] rfl (by (try simp only [List.map_toArray, List.map_cons, List.map_nil]); first | done | rfl | (simp only [List.length_drop, List.length_take]; rfl)) ?_; (with_reducible refine (paviorlaw02_up.calls k  t231 _ A4.out).mono ?_); rintro e w48 ⟨rfl, hb⟩; refine ⟨_, rfl, ?_⟩; have n0_ := Aside0.mk (blk_below (g := gb230) (o := .cells #[.int .i64 a1_0, .int .i64 a1_1, .bool a1_2, .bool a1_3, .bool a1_4, .bool a1_5, .int .i64 a1_6] 25 (0, 0)) (by (with_reducible repeat (first | refine blk_drewN ?_ _ | refine blk_drew ?_ | refine blk_alloc ?_ _)); exact BK230.out) hb); have n1_ := Aside0.mk (below_step (by repeat (first | (with_reducible first | exact HB.out | apply below_alloc | apply pw_below_drewN | apply below_drew1 | refine below_set ?_ GE230.out) | exact HB.out)) hb); clear BK230; clear HB; have BK230 := n0_; have HB := n1_; clear n0_ n1_; (try clear hb); (try clear hb2); (try clear hk); (try clear hi); have hcz49_0 : w48.cell? ⟨gb230, 0, none⟩ = some (.int .i64 a1_0) := (blk_cell BK230.out 0).trans rfl; have hcz49_1 : w48.cell? ⟨gb230, 1, none⟩ = some (.int .i64 a1_1) := (blk_cell BK230.out 1).trans rfl; have hcz49_2 : w48.cell? ⟨gb230, 2, none⟩ = some (.bool a1_2) := (blk_cell BK230.out 2).trans rfl; have hcz49_3 : w48.cell? ⟨gb230, 3, none⟩ = some (.bool a1_3) := (blk_cell BK230.out 3).trans rfl; have hcz49_4 : w48.cell? ⟨gb230, 4, none⟩ = some (.bool a1_4) := (blk_cell BK230.out 4).trans rfl; have hcz49_5 : w48.cell? ⟨gb230, 5, none⟩ = some (.bool a1_5) := (blk_cell BK230.out 5).trans rfl; have hcz49_6 : w48.cell? ⟨gb230, 6, none⟩ = some (.int .i64 a1_6) := (blk_cell BK230.out 6).trans rfl; have hfz49_0 := blk_frozen BK230.out 0; have hfz49_1 := blk_frozen BK230.out 1; have hfz49_2 := blk_frozen BK230.out 2; have hfz49_3 := blk_frozen BK230.out 3; have hfz49_4 := blk_frozen BK230.out 4; have hfz49_5 := blk_frozen BK230.out 5; have hfz49_6 := blk_frozen BK230.out 6) | ((with_reducible refine gate_callee (f := 13) rfl ?_); refine goesL_ (some 20) rfl rfl Try.func13 (by kernel_rfl) rfl #[.int .i64 a0, .agg #[.int .i64 a1_0, .int .i64 a1_1, .bool a1_2, .bool a1_3, .bool a1_4, .bool a1_5, .int .i64 a1_6]] rfl (by (try simp only [List.map_toArray, List.map_cons, List.map_nil]); first | done | rfl | (simp only [List.length_drop, List.length_take]; rfl)) ?_; (with_reducible refine (pte_Encode.calls k a0 a1_0 a1_1 a1_2 a1_3 a1_4 a1_5 a1_6 t232 (some q234) _ A5.out).mono ?_); rintro e w50 ⟨rfl, hb⟩; refine ⟨_, rfl, ?_⟩; have n0_ := Aside0.mk (blk_below (g := gb230) (o := .cells #[.int .i64 a1_0, .int .i64 a1_1, .bool a1_2, .bool a1_3, .bool a1_4, .bool a1_5, .int .i64 a1_6] 25 (0, 0)) (by (with_reducible repeat (first | refine blk_drewN ?_ _ | refine blk_drew ?_ | refine blk_alloc ?_ _)); exact BK230.out) hb); have n1_ := Aside0.mk (below_step (by repeat (first | (with_reducible first | exact HB.out | apply below_alloc | apply pw_below_drewN | apply below_drew1 | refine below_set ?_ GE230.out) | exact HB.out)) hb); clear BK230; clear HB; have BK230 := n0_; have HB := n1_; clear n0_ n1_; (try clear hb); (try clear hb2); (try clear hk); (try clear hi); (try simp only [errW_none, errW_some])) | ((with_reducible refine gate_callee (f := 11) rfl ?_); refine goesL_ (some 41) rfl rfl Try.func11 (by kernel_rfl) rfl #[.int .i64 a0, .int .u64 a2] rfl (by (try simp only [List.map_toArray, List.map_cons, List.map_nil]); first | done | rfl | (simp only [List.length_drop, List.length_take]; rfl)) ?_; (with_reducible refine (pte_Decode.calls k a0 a2 t258 t259 t260 t261 t262 t263 t264 t265 _ A45.out).mono ?_); rintro e w51 ⟨rfl, hb⟩; refine ⟨_, rfl, ?_⟩; have n0_ := Aside0.mk (blk_below (g := gb230) (o := .cells #[.int .i64 a1_0, .int .i64 a1_1, .bool a1_2, .bool a1_3, .bool a1_4, .bool a1_5, .int .i64 a1_6] 25 (0, 0)) (by (with_reducible repeat (first | refine blk_drewN ?_ _ | refine blk_drew ?_ | refine blk_alloc ?_ _)); exact BK230.out) hb); have n1_ := Aside0.mk (below_step (by repeat (first | (with_reducible first | exact HB.out | apply below_alloc | apply pw_below_drewN | apply below_drew1 | refine below_set ?_ GE230.out) | exact HB.out)) hb); clear BK230; clear HB; have BK230 := n0_; have HB := n1_; clear n0_ n1_; (try clear hb); (try clear hb2); (try clear hk); (try clear hi); (try simp only [errW_none, errW_some])) | ((with_reducible refine gate_dst (N := 12) rfl ?_); refine box_event ?hg (N := 12) ?hd (cs := #[.int .i64 0, .int .i64 0, .bool false, .bool false, .bool false, .bool false, .int .i64 0]) (t := 25) ?hr ?_; (case hd => rfl); (case hg => rfl); (case hr => first | (go_simp; done) | (go_simp; rfl)); intro gb266 hg w52 hbox hb; have n0_ := Aside0.mk (blk_below (g := gb230) (o := .cells #[.int .i64 a1_0, .int .i64 a1_1, .bool a1_2, .bool a1_3, .bool a1_4, .bool a1_5, .int .i64 a1_6] 25 (0, 0)) (by (with_reducible repeat (first | refine blk_drewN ?_ _ | refine blk_drew ?_ | refine blk_alloc ?_ _)); exact BK230.out) hb); have n1_ := Aside0.mk (below_step (by repeat (first | (with_reducible first | exact HB.out | apply below_alloc | apply pw_below_drewN | apply below_drew1 | refine below_set ?_ GE230.out) | exact HB.out)) hb); have n2_ := Aside0.mk (hbox); have n3_ := Aside0.mk ((by rw [hg]; exact (below_size (by repeat (first | (with_reducible first | exact HB.out | apply below_alloc | apply pw_below_drewN | apply below_drew1 | refine below_set ?_ GE230.out) | exact HB.out))) : w.heap.size ≤ gb266)); have n4_ := Aside0.mk ((by rw [hg]; exact (below_size (by repeat (first | (with_reducible first | exact HB.out | apply below_alloc | apply pw_below_drewN | apply below_drew1 | refine below_set ?_ GE230.out) | exact HB.out))) : w.heap.size ≤ gb266)); have n5_ := Aside0.mk ((by rw [hg]; exact Nat.ne_of_lt (blk_lt (g := gb230) (o := .cells #[.int .i64 a1_0, .int .i64 a1_1, .bool a1_2, .bool a1_3, .bool a1_4, .bool a1_5, .int .i64 a1_6] 25 (0, 0)) (by (with_reducible repeat (first | refine blk_drewN ?_ _ | refine blk_drew ?_ | refine blk_alloc ?_ _)); exact BK230.out)) : gb230 ≠ gb266)); have n6_ := Aside0.mk ((by rw [hg]; exact Nat.ne_of_gt (blk_lt (g := gb230) (o := .cells #[.int .i64 a1_0, .int .i64 a1_1, .bool a1_2, .bool a1_3, .bool a1_4, .bool a1_5, .int .i64 a1_6] 25 (0, 0)) (by (with_reducible repeat (first | refine blk_drewN ?_ _ | refine blk_drew ?_ | refine blk_alloc ?_ _)); exact BK230.out)) : gb266 ≠ gb230)); clear BK230; clear HB; have BK230 := n0_; have HB := n1_; have BK266 := n2_; have GW266 := n3_; have GE266 := n4_; have NB230_266 := n5_; have NB266_230 := n6_; clear n0_ n1_ n2_ n3_ n4_ n5_ n6_; clear hb hbox hg; have hnb53 := NB266_230.out; have hnc53 := NB230_266.out; have hcz54_0 : w52.cell? ⟨gb266, 0, none⟩ = some (.int .i64 0) := (blk_cell BK266.out 0).trans rfl; have hcz54_1 : w52.cell? ⟨gb266, 1, none⟩ = some (.int .i64 0) := (blk_cell BK266.out 1).trans rfl; have hcz54_2 : w52.cell? ⟨gb266, 2, none⟩ = some (.bool false) := (blk_cell BK266.out 2).trans rfl; have hcz54_3 : w52.cell? ⟨gb266, 3, none⟩ = some (.bool false) := (blk_cell BK266.out 3).trans rfl; have hcz54_4 : w52.cell? ⟨gb266, 4, none⟩ = some (.bool false) := (blk_cell BK266.out 4).trans rfl; have hcz54_5 : w52.cell? ⟨gb266, 5, none⟩ = some (.bool false) := (blk_cell BK266.out 5).trans rfl; have hcz54_6 : w52.cell? ⟨gb266, 6, none⟩ = some (.int .i64 0) := (blk_cell BK266.out 6).trans rfl; have hfz54_0 := blk_frozen BK266.out 0; have hfz54_1 := blk_frozen BK266.out 1; have hfz54_2 := blk_frozen BK266.out 2; have hfz54_3 := blk_frozen BK266.out 3; have hfz54_4 := blk_frozen BK266.out 4; have hfz54_5 := blk_frozen BK266.out 5; have hfz54_6 := blk_frozen BK266.out 6))
    (try simp only [Act.put, List.setIfInBounds_toArray, List.set_cons_zero, List.set_cons_succ])
    go_cut [50] (fun v50 wc => ∃ (kq : Nat) (x50_45 : Bool), v50 = .bool x50_45 ∧ Aside0 (paviorlaw02_PteBack.j2 kq a0 a2 t231 x50_45 t258 t259 t260 t261 t262 t263 t264 = some r) ∧ Aside0 (kq ≤ k) ∧ Aside0 (wc.heap[gb230]? = some (.cells #[.int .i64 a1_0, .int .i64 a1_1, .bool a1_2, .bool a1_3, .bool a1_4, .bool a1_5, .int .i64 a1_6] 25 (0, 0))) ∧ Aside0 (wc.heap[gb266]? = some (.cells #[.int .i64 t258, .int .i64 t259, .bool t260, .bool t261, .bool t262, .bool t263, .int .i64 t264] 25 (0, 0))) ∧ Aside0 (Below w.heap.size w wc))
    case first =>
      have H := HC46.out
      clear HC46
      rcases t265 with _ | q267
      · have H1 : (paviorlaw02_PteBack.j2 k a0 a2 t231 (t258 == 5) t258 t259 t260 t261 t262 t263 t264) = some r := by rw [if_pos (show (none : Option Int).isNone = true by rfl)] at H; exact H
        clear H
        have H := H1
        clear H1
        try simp only [errW_none, errW_some]
        have H' := Aside0.mk H
        clear H
        have hnb55 := NB266_230.out
        have hnc55 := NB230_266.out
        have hcz56_0 : w52.cell? ⟨gb266, 0, none⟩ = some (.int .i64 0) := (blk_cell BK266.out 0).trans rfl
        have hcz56_1 : w52.cell? ⟨gb266, 1, none⟩ = some (.int .i64 0) := (blk_cell BK266.out 1).trans rfl
        have hcz56_2 : w52.cell? ⟨gb266, 2, none⟩ = some (.bool false) := (blk_cell BK266.out 2).trans rfl
        have hcz56_3 : w52.cell? ⟨gb266, 3, none⟩ = some (.bool false) := (blk_cell BK266.out 3).trans rfl
        have hcz56_4 : w52.cell? ⟨gb266, 4, none⟩ = some (.bool false) := (blk_cell BK266.out 4).trans rfl
        have hcz56_5 : w52.cell? ⟨gb266, 5, none⟩ = some (.bool false) := (blk_cell BK266.out 5).trans rfl
        have hcz56_6 : w52.cell? ⟨gb266, 6, none⟩ = some (.int .i64 0) := (blk_cell BK266.out 6).trans rfl
        have hfz56_0 := blk_frozen BK266.out 0
        have hfz56_1 := blk_frozen BK266.out 1
        have hfz56_2 := blk_frozen BK266.out 2
        have hfz56_3 := blk_frozen BK266.out 3
        have hfz56_4 := blk_frozen BK266.out 4
        have hfz56_5 := blk_frozen BK266.out 5
        have hfz56_6 := blk_frozen BK266.out 6
        go_wp2
        go_meet
        case rel => exact ⟨_, ((t258 == 5)), (by first | rfl | (simp; done) | (simp [*]; done)), H', ⟨by first | omega | exact Nat.le_refl _⟩, ⟨by (with_reducible repeat (first | refine blk_drewN ?_ _ | refine blk_drew ?_ | refine blk_alloc ?_ _)); refine blk_far ?_ NB230_266.out _; (with_reducible repeat (first | refine blk_drewN ?_ _ | refine blk_drew ?_ | refine blk_alloc ?_ _)); refine blk_far ?_ NB230_266.out _; (with_reducible repeat (first | refine blk_drewN ?_ _ | refine blk_drew ?_ | refine blk_alloc ?_ _)); refine blk_far ?_ NB230_266.out _; (with_reducible repeat (first | refine blk_drewN ?_ _ | refine blk_drew ?_ | refine blk_alloc ?_ _)); refine blk_far ?_ NB230_266.out _; (with_reducible repeat (first | refine blk_drewN ?_ _ | refine blk_drew ?_ | refine blk_alloc ?_ _)); refine blk_far ?_ NB230_266.out _; (with_reducible repeat (first | refine blk_drewN ?_ _ | refine blk_drew ?_ | refine blk_alloc ?_ _)); refine blk_far ?_ NB230_266.out _; (with_reducible repeat (first | refine blk_drewN ?_ _ | refine blk_drew ?_ | refine blk_alloc ?_ _)); refine blk_far ?_ NB230_266.out _; (with_reducible repeat (first | refine blk_drewN ?_ _ | refine blk_drew ?_ | refine blk_alloc ?_ _)); exact BK230.out⟩, ⟨by (with_reducible repeat (first | refine blk_drewN ?_ _ | refine blk_drew ?_ | refine blk_alloc ?_ _)); refine blk_put (cs := #[.int .i64 t258, .int .i64 t259, .bool t260, .bool t261, .bool t262, .bool t263, .int .i64 0]) ?_ 6 _ rfl; (with_reducible repeat (first | refine blk_drewN ?_ _ | refine blk_drew ?_ | refine blk_alloc ?_ _)); refine blk_put (cs := #[.int .i64 t258, .int .i64 t259, .bool t260, .bool t261, .bool t262, .bool false, .int .i64 0]) ?_ 5 _ rfl; (with_reducible repeat (first | refine blk_drewN ?_ _ | refine blk_drew ?_ | refine blk_alloc ?_ _)); refine blk_put (cs := #[.int .i64 t258, .int .i64 t259, .bool t260, .bool t261, .bool false, .bool false, .int .i64 0]) ?_ 4 _ rfl; (with_reducible repeat (first | refine blk_drewN ?_ _ | refine blk_drew ?_ | refine blk_alloc ?_ _)); refine blk_put (cs := #[.int .i64 t258, .int .i64 t259, .bool t260, .bool false, .bool false, .bool false, .int .i64 0]) ?_ 3 _ rfl; (with_reducible repeat (first | refine blk_drewN ?_ _ | refine blk_drew ?_ | refine blk_alloc ?_ _)); refine blk_put (cs := #[.int .i64 t258, .int .i64 t259, .bool false, .bool false, .bool false, .bool false, .int .i64 0]) ?_ 2 _ rfl; (with_reducible repeat (first | refine blk_drewN ?_ _ | refine blk_drew ?_ | refine blk_alloc ?_ _)); refine blk_put (cs := #[.int .i64 t258, .int .i64 0, .bool false, .bool false, .bool false, .bool false, .int .i64 0]) ?_ 1 _ rfl; (with_reducible repeat (first | refine blk_drewN ?_ _ | refine blk_drew ?_ | refine blk_alloc ?_ _)); refine blk_put (cs := #[.int .i64 0, .int .i64 0, .bool false, .bool false, .bool false, .bool false, .int .i64 0]) ?_ 0 _ rfl; (with_reducible repeat (first | refine blk_drewN ?_ _ | refine blk_drew ?_ | refine blk_alloc ?_ _)); exact BK266.out⟩, ⟨by repeat (first | (with_reducible first | exact HB.out | apply below_alloc | apply pw_below_drewN | apply below_drew1 | refine below_set ?_ GE230.out | refine below_set ?_ GE266.out) | exact HB.out)⟩⟩
      · have H1 : (paviorlaw02_PteBack.j2 k a0 a2 t231 true t258 t259 t260 t261 t262 t263 t264) = some r := by rw [if_neg (show ¬ (some q267).isNone = true by simp)] at H; exact H
        clear H
        have H := H1
        clear H1
        try simp only [errW_none, errW_some]
        have H' := Aside0.mk H
        clear H
        go_wp2
        go_meet
        case rel => exact ⟨_, (true), (by first | rfl | (simp; done) | (simp [*]; done)), H', ⟨by first | omega | exact Nat.le_refl _⟩, ⟨by (with_reducible repeat (first | refine blk_drewN ?_ _ | refine blk_drew ?_ | refine blk_alloc ?_ _)); refine blk_far ?_ NB230_266.out _; (with_reducible repeat (first | refine blk_drewN ?_ _ | refine blk_drew ?_ | refine blk_alloc ?_ _)); refine blk_far ?_ NB230_266.out _; (with_reducible repeat (first | refine blk_drewN ?_ _ | refine blk_drew ?_ | refine blk_alloc ?_ _)); refine blk_far ?_ NB230_266.out _; (with_reducible repeat (first | refine blk_drewN ?_ _ | refine blk_drew ?_ | refine blk_alloc ?_ _)); refine blk_far ?_ NB230_266.out _; (with_reducible repeat (first | refine blk_drewN ?_ _ | refine blk_drew ?_ | refine blk_alloc ?_ _)); refine blk_far ?_ NB230_266.out _; (with_reducible repeat (first | refine blk_drewN ?_ _ | refine blk_drew ?_ | refine blk_alloc ?_ _)); refine blk_far ?_ NB230_266.out _; (with_reducible repeat (first | refine blk_drewN ?_ _ | refine blk_drew ?_ | refine blk_alloc ?_ _)); refine blk_far ?_ NB230_266.out _; (with_reducible repeat (first | refine blk_drewN ?_ _ | refine blk_drew ?_ | refine blk_alloc ?_ _)); exact BK230.out⟩, ⟨by (with_reducible repeat (first | refine blk_drewN ?_ _ | refine blk_drew ?_ | refine blk_alloc ?_ _)); refine blk_put (cs := #[.int .i64 t258, .int .i64 t259, .bool t260, .bool t261, .bool t262, .bool t263, .int .i64 0]) ?_ 6 _ rfl; (with_reducible repeat (first | refine blk_drewN ?_ _ | refine blk_drew ?_ | refine blk_alloc ?_ _)); refine blk_put (cs := #[.int .i64 t258, .int .i64 t259, .bool t260, .bool t261, .bool t262, .bool false, .int .i64 0]) ?_ 5 _ rfl; (with_reducible repeat (first | refine blk_drewN ?_ _ | refine blk_drew ?_ | refine blk_alloc ?_ _)); refine blk_put (cs := #[.int .i64 t258, .int .i64 t259, .bool t260, .bool t261, .bool false, .bool false, .int .i64 0]) ?_ 4 _ rfl; (with_reducible repeat (first | refine blk_drewN ?_ _ | refine blk_drew ?_ | refine blk_alloc ?_ _)); refine blk_put (cs := #[.int .i64 t258, .int .i64 t259, .bool t260, .bool false, .bool false, .bool false, .int .i64 0]) ?_ 3 _ rfl; (with_reducible repeat (first | refine blk_drewN ?_ _ | refine blk_drew ?_ | refine blk_alloc ?_ _)); refine blk_put (cs := #[.int .i64 t258, .int .i64 t259, .bool false, .bool false, .bool false, .bool false, .int .i64 0]) ?_ 2 _ rfl; (with_reducible repeat (first | refine blk_drewN ?_ _ | refine blk_drew ?_ | refine blk_alloc ?_ _)); refine blk_put (cs := #[.int .i64 t258, .int .i64 0, .bool false, .bool false, .bool false, .bool false, .int .i64 0]) ?_ 1 _ rfl; (with_reducible repeat (first | refine blk_drewN ?_ _ | refine blk_drew ?_ | refine blk_alloc ?_ _)); refine blk_put (cs := #[.int .i64 0, .int .i64 0, .bool false, .bool false, .bool false, .bool false, .int .i64 0]) ?_ 0 _ rfl; (with_reducible repeat (first | refine blk_drewN ?_ _ | refine blk_drew ?_ | refine blk_alloc ?_ _)); exact BK266.out⟩, ⟨by repeat (first | (with_reducible first | exact HB.out | apply below_alloc | apply pw_below_drewN | apply below_drew1 | refine below_set ?_ GE230.out | refine below_set ?_ GE266.out) | exact HB.out)⟩⟩
    case rest =>
      clear HC46
      try clear c1
      try clear c2
      try clear p2
      try clear q2
      try clear c3
      try clear c4
      try clear c5
      try clear c10
      try clear c11
      try clear c13
      try clear c14
      try clear c16
      try clear c19
      try clear q23
      try clear c24
      try clear q24
      try clear c25
      try clear q25
      try clear q26
      try clear c27
      try clear c28
      try clear c30
      try clear c32
      try clear c33
      try clear c34
      try clear c37
      try clear c38
      try clear c41
      try clear c42
      try clear c53
      try clear c55
      try clear hcz10_0
      try clear hcz10_1
      try clear hcz10_2
      try clear hcz10_3
      try clear hcz10_4
      try clear hcz10_5
      try clear hcz10_6
      try clear hcz15_0
      try clear hcz15_1
      try clear hcz15_2
      try clear hcz15_3
      try clear hcz15_4
      try clear hcz15_5
      try clear hcz15_6
      try clear hcz17_0
      try clear hcz17_1
      try clear hcz17_2
      try clear hcz17_3
      try clear hcz17_4
      try clear hcz17_5
      try clear hcz17_6
      try clear hcz18_0
      try clear hcz18_1
      try clear hcz18_2
      try clear hcz18_3
      try clear hcz18_4
      try clear hcz18_5
      try clear hcz18_6
      try clear hcz26_0
      try clear hcz26_1
      try clear hcz26_2
      try clear hcz26_3
      try clear hcz26_4
      try clear hcz26_5
      try clear hcz26_6
      try clear hcz29_0
      try clear hcz29_1
      try clear hcz29_2
      try clear hcz29_3
      try clear hcz29_4
      try clear hcz29_5
      try clear hcz29_6
      try clear hcz35_0
      try clear hcz35_1
      try clear hcz35_2
      try clear hcz35_3
      try clear hcz35_4
      try clear hcz35_5
      try clear hcz35_6
      try clear hcz39_0
      try clear hcz39_1
      try clear hcz39_2
      try clear hcz39_3
      try clear hcz39_4
      try clear hcz39_5
      try clear hcz39_6
      try clear hcz43_0
      try clear hcz43_1
      try clear hcz43_2
      try clear hcz43_3
      try clear hcz43_4
      try clear hcz43_5
      try clear hcz43_6
      try clear hcz49_0
      try clear hcz49_1
      try clear hcz49_2
      try clear hcz49_3
      try clear hcz49_4
      try clear hcz49_5
      try clear hcz49_6
      try clear hcz54_0
      try clear hcz54_1
      try clear hcz54_2
      try clear hcz54_3
      try clear hcz54_4
      try clear hcz54_5
      try clear hcz54_6
      try clear hcz56_0
      try clear hcz56_1
      try clear hcz56_2
      try clear hcz56_3
      try clear hcz56_4
      try clear hcz56_5
      try clear hcz56_6
      try clear hfz10_0
      try clear hfz10_1
      try clear hfz10_2
      try clear hfz10_3
      try clear hfz10_4
      try clear hfz10_5
      try clear hfz10_6
      try clear hfz15_0
      try clear hfz15_1
      try clear hfz15_2
      try clear hfz15_3
      try clear hfz15_4
      try clear hfz15_5
      try clear hfz15_6
      try clear hfz17_0
      try clear hfz17_1
      try clear hfz17_2
      try clear hfz17_3
      try clear hfz17_4
      try clear hfz17_5
      try clear hfz17_6
      try clear hfz18_0
      try clear hfz18_1
      try clear hfz18_2
      try clear hfz18_3
      try clear hfz18_4
      try clear hfz18_5
      try clear hfz18_6
      try clear hfz26_0
      try clear hfz26_1
      try clear hfz26_2
      try clear hfz26_3
      try clear hfz26_4
      try clear hfz26_5
      try clear hfz26_6
      try clear hfz29_0
      try clear hfz29_1
      try clear hfz29_2
      try clear hfz29_3
      try clear hfz29_4
      try clear hfz29_5
      try clear hfz29_6
      try clear hfz35_0
      try clear hfz35_1
      try clear hfz35_2
      try clear hfz35_3
      try clear hfz35_4
      try clear hfz35_5
      try clear hfz35_6
      try clear hfz39_0
      try clear hfz39_1
      try clear hfz39_2
      try clear hfz39_3
      try clear hfz39_4
      try clear hfz39_5
      try clear hfz39_6
      try clear hfz43_0
      try clear hfz43_1
      try clear hfz43_2
      try clear hfz43_3
      try clear hfz43_4
      try clear hfz43_5
      try clear hfz43_6
      try clear hfz49_0
      try clear hfz49_1
      try clear hfz49_2
      try clear hfz49_3
      try clear hfz49_4
      try clear hfz49_5
      try clear hfz49_6
      try clear hfz54_0
      try clear hfz54_1
      try clear hfz54_2
      try clear hfz54_3
      try clear hfz54_4
      try clear hfz54_5
      try clear hfz54_6
      try clear hfz56_0
      try clear hfz56_1
      try clear hfz56_2
      try clear hfz56_3
      try clear hfz56_4
      try clear hfz56_5
      try clear hfz56_6
      try clear p2
      try clear q2
      try clear q23
      try clear q234
      try clear q24
      try clear q244
      try clear q25
      try clear q254
      try clear q257
      try clear q267
      obtain ⟨kq, x50_45, rfl, HA, HJ45, BK230, BK266, HB⟩ := hcut
      cases kq with
      | zero => exact absurd HA.out (by simp [paviorlaw02_PteBack.j2])
      | succ kj45 =>
        have H := HA.out
        clear HA
        simp only [paviorlaw02_PteBack.j2] at H
        by_cases c57 : x50_45 = true
        · subst c57
          have H1 : (some t231) = some r := by rw [if_pos rfl] at H; exact H
          clear H
          have H := H1
          clear H1
          obtain rfl := Option.some.inj H
          go_wp2
          go_ret
          exact ⟨by first | rfl | (simp [errW_none, errW_some] <;> rfl) | (simp [*, errW_none, errW_some] <;> rfl), by repeat (first | (with_reducible first | exact HB.out | apply below_alloc | apply pw_below_drewN | apply below_drew1 | refine below_set ?_ GE230.out | refine below_set ?_ GE266.out) | exact HB.out)⟩
        · replace c57 := Bool.eq_false_iff.mpr c57
          subst c57
          have H1 : ((pte_Encode.f kj45 a0 t258 t259 t260 t261 t262 t263 t264).bind fun bt268 => (if t231 = true then (if bt268.2.isNone = true then (some (bt268.1 == a2)) else (some false)) else (some false))) = some r := by rw [if_neg (show ¬ (false = true) by decide)] at H; exact H
          clear H
          have H := H1
          clear H1
          replace H := Option.bind_eq_some_iff.mp H
          obtain ⟨⟨t268, t269⟩, A580, H⟩ := H
          replace H : (if t231 = true then (if t269.isNone = true then (some (t268 == a2)) else (some false)) else (some false)) = some r := H
          have A58 := Aside0.mk A580
          clear A580
          by_cases c59 : t231 = true
          · subst c59
            have H1 : (if t269.isNone = true then (some (t268 == a2)) else (some false)) = some r := by rw [if_pos rfl] at H; exact H
            clear H
            have H := H1
            clear H1
            rcases t269 with _ | q270
            · have H1 : (some (t268 == a2)) = some r := by rw [if_pos (show (none : Option Int).isNone = true by rfl)] at H; exact H
              clear H
              have H := H1
              clear H1
              try simp only [errW_none, errW_some]
              obtain rfl := Option.some.inj H
              have hnb60 := NB266_230.out
              have hnc60 := NB230_266.out
              have hcz61_0 : wc.cell? ⟨gb266, 0, none⟩ = some (.int .i64 t258) := (blk_cell BK266.out 0).trans rfl
              have hcz61_1 : wc.cell? ⟨gb266, 1, none⟩ = some (.int .i64 t259) := (blk_cell BK266.out 1).trans rfl
              have hcz61_2 : wc.cell? ⟨gb266, 2, none⟩ = some (.bool t260) := (blk_cell BK266.out 2).trans rfl
              have hcz61_3 : wc.cell? ⟨gb266, 3, none⟩ = some (.bool t261) := (blk_cell BK266.out 3).trans rfl
              have hcz61_4 : wc.cell? ⟨gb266, 4, none⟩ = some (.bool t262) := (blk_cell BK266.out 4).trans rfl
              have hcz61_5 : wc.cell? ⟨gb266, 5, none⟩ = some (.bool t263) := (blk_cell BK266.out 5).trans rfl
              have hcz61_6 : wc.cell? ⟨gb266, 6, none⟩ = some (.int .i64 t264) := (blk_cell BK266.out 6).trans rfl
              have hfz61_0 := blk_frozen BK266.out 0
              have hfz61_1 := blk_frozen BK266.out 1
              have hfz61_2 := blk_frozen BK266.out 2
              have hfz61_3 := blk_frozen BK266.out 3
              have hfz61_4 := blk_frozen BK266.out 4
              have hfz61_5 := blk_frozen BK266.out 5
              have hfz61_6 := blk_frozen BK266.out 6
              go_wp2_with (first | ((with_reducible refine gate_callee (f := 13) rfl ?_); refine goesL_ (some 55) rfl rfl Try.func13 (by kernel_rfl) rfl #[.int .i64 a0, .agg #[.int .i64 t258, .int .i64 t259, .bool t260, .bool t261, .bool t262, .bool t263, .int .i64 t264]] rfl (by (try simp only [List.map_toArray, List.map_cons, List.map_nil]); first | done | rfl | (simp only [List.length_drop, List.length_take]; rfl)) ?_; (with_reducible refine (pte_Encode.calls kj45 a0 t258 t259 t260 t261 t262 t263 t264 t268 none _ A58.out).mono ?_); rintro e w62 ⟨rfl, hb⟩; refine ⟨_, rfl, ?_⟩; have n0_ := Aside0.mk (blk_below (g := gb230) (o := .cells #[.int .i64 a1_0, .int .i64 a1_1, .bool a1_2, .bool a1_3, .bool a1_4, .bool a1_5, .int .i64 a1_6] 25 (0, 0)) (by (with_reducible repeat (first | refine blk_drewN ?_ _ | refine blk_drew ?_ | refine blk_alloc ?_ _)); exact BK230.out) hb); have n1_ := Aside0.mk (blk_below (g := gb266) (o := .cells #[.int .i64 t258, .int .i64 t259, .bool t260, .bool t261, .bool t262, .bool t263, .int .i64 t264] 25 (0, 0)) (by (with_reducible repeat (first | refine blk_drewN ?_ _ | refine blk_drew ?_ | refine blk_alloc ?_ _)); exact BK266.out) hb); have n2_ := Aside0.mk (below_step (by repeat (first | (with_reducible first | exact HB.out | apply below_alloc | apply pw_below_drewN | apply below_drew1 | refine below_set ?_ GE230.out | refine below_set ?_ GE266.out) | exact HB.out)) hb); clear BK230; clear BK266; clear HB; have BK230 := n0_; have BK266 := n1_; have HB := n2_; clear n0_ n1_ n2_; (try clear hb); (try clear hb2); (try clear hk); (try clear hi); (try simp only [errW_none, errW_some])))
              go_ret
              exact ⟨by first | rfl | (simp [errW_none, errW_some] <;> rfl) | (simp [*, errW_none, errW_some] <;> rfl), by repeat (first | (with_reducible first | exact HB.out | apply below_alloc | apply pw_below_drewN | apply below_drew1 | refine below_set ?_ GE230.out | refine below_set ?_ GE266.out) | exact HB.out)⟩
            · have H1 : (some false) = some r := by rw [if_neg (show ¬ (some q270).isNone = true by simp)] at H; exact H
              clear H
              have H := H1
              clear H1
              try simp only [errW_none, errW_some]
              obtain rfl := Option.some.inj H
              have hnb63 := NB266_230.out
              have hnc63 := NB230_266.out
              have hcz64_0 : wc.cell? ⟨gb266, 0, none⟩ = some (.int .i64 t258) := (blk_cell BK266.out 0).trans rfl
              have hcz64_1 : wc.cell? ⟨gb266, 1, none⟩ = some (.int .i64 t259) := (blk_cell BK266.out 1).trans rfl
              have hcz64_2 : wc.cell? ⟨gb266, 2, none⟩ = some (.bool t260) := (blk_cell BK266.out 2).trans rfl
              have hcz64_3 : wc.cell? ⟨gb266, 3, none⟩ = some (.bool t261) := (blk_cell BK266.out 3).trans rfl
              have hcz64_4 : wc.cell? ⟨gb266, 4, none⟩ = some (.bool t262) := (blk_cell BK266.out 4).trans rfl
              have hcz64_5 : wc.cell? ⟨gb266, 5, none⟩ = some (.bool t263) := (blk_cell BK266.out 5).trans rfl
              have hcz64_6 : wc.cell? ⟨gb266, 6, none⟩ = some (.int .i64 t264) := (blk_cell BK266.out 6).trans rfl
              have hfz64_0 := blk_frozen BK266.out 0
              have hfz64_1 := blk_frozen BK266.out 1
              have hfz64_2 := blk_frozen BK266.out 2
              have hfz64_3 := blk_frozen BK266.out 3
              have hfz64_4 := blk_frozen BK266.out 4
              have hfz64_5 := blk_frozen BK266.out 5
              have hfz64_6 := blk_frozen BK266.out 6
              go_wp2_with (first | ((with_reducible refine gate_callee (f := 13) rfl ?_); refine goesL_ (some 55) rfl rfl Try.func13 (by kernel_rfl) rfl #[.int .i64 a0, .agg #[.int .i64 t258, .int .i64 t259, .bool t260, .bool t261, .bool t262, .bool t263, .int .i64 t264]] rfl (by (try simp only [List.map_toArray, List.map_cons, List.map_nil]); first | done | rfl | (simp only [List.length_drop, List.length_take]; rfl)) ?_; (with_reducible refine (pte_Encode.calls kj45 a0 t258 t259 t260 t261 t262 t263 t264 t268 (some q270) _ A58.out).mono ?_); rintro e w65 ⟨rfl, hb⟩; refine ⟨_, rfl, ?_⟩; have n0_ := Aside0.mk (blk_below (g := gb230) (o := .cells #[.int .i64 a1_0, .int .i64 a1_1, .bool a1_2, .bool a1_3, .bool a1_4, .bool a1_5, .int .i64 a1_6] 25 (0, 0)) (by (with_reducible repeat (first | refine blk_drewN ?_ _ | refine blk_drew ?_ | refine blk_alloc ?_ _)); exact BK230.out) hb); have n1_ := Aside0.mk (blk_below (g := gb266) (o := .cells #[.int .i64 t258, .int .i64 t259, .bool t260, .bool t261, .bool t262, .bool t263, .int .i64 t264] 25 (0, 0)) (by (with_reducible repeat (first | refine blk_drewN ?_ _ | refine blk_drew ?_ | refine blk_alloc ?_ _)); exact BK266.out) hb); have n2_ := Aside0.mk (below_step (by repeat (first | (with_reducible first | exact HB.out | apply below_alloc | apply pw_below_drewN | apply below_drew1 | refine below_set ?_ GE230.out | refine below_set ?_ GE266.out) | exact HB.out)) hb); clear BK230; clear BK266; clear HB; have BK230 := n0_; have BK266 := n1_; have HB := n2_; clear n0_ n1_ n2_; (try clear hb); (try clear hb2); (try clear hk); (try clear hi); (try simp only [errW_none, errW_some])))
              go_ret
              exact ⟨by first | rfl | (simp [errW_none, errW_some] <;> rfl) | (simp [*, errW_none, errW_some] <;> rfl), by repeat (first | (with_reducible first | exact HB.out | apply below_alloc | apply pw_below_drewN | apply below_drew1 | refine below_set ?_ GE230.out | refine below_set ?_ GE266.out) | exact HB.out)⟩
          · replace c59 := Bool.eq_false_iff.mpr c59
            subst c59
            have H1 : (some false) = some r := by rw [if_neg (show ¬ (false = true) by decide)] at H; exact H
            clear H
            have H := H1
            clear H1
            obtain rfl := Option.some.inj H
            have hnb66 := NB266_230.out
            have hnc66 := NB230_266.out
            have hcz67_0 : wc.cell? ⟨gb266, 0, none⟩ = some (.int .i64 t258) := (blk_cell BK266.out 0).trans rfl
            have hcz67_1 : wc.cell? ⟨gb266, 1, none⟩ = some (.int .i64 t259) := (blk_cell BK266.out 1).trans rfl
            have hcz67_2 : wc.cell? ⟨gb266, 2, none⟩ = some (.bool t260) := (blk_cell BK266.out 2).trans rfl
            have hcz67_3 : wc.cell? ⟨gb266, 3, none⟩ = some (.bool t261) := (blk_cell BK266.out 3).trans rfl
            have hcz67_4 : wc.cell? ⟨gb266, 4, none⟩ = some (.bool t262) := (blk_cell BK266.out 4).trans rfl
            have hcz67_5 : wc.cell? ⟨gb266, 5, none⟩ = some (.bool t263) := (blk_cell BK266.out 5).trans rfl
            have hcz67_6 : wc.cell? ⟨gb266, 6, none⟩ = some (.int .i64 t264) := (blk_cell BK266.out 6).trans rfl
            have hfz67_0 := blk_frozen BK266.out 0
            have hfz67_1 := blk_frozen BK266.out 1
            have hfz67_2 := blk_frozen BK266.out 2
            have hfz67_3 := blk_frozen BK266.out 3
            have hfz67_4 := blk_frozen BK266.out 4
            have hfz67_5 := blk_frozen BK266.out 5
            have hfz67_6 := blk_frozen BK266.out 6
            go_wp2_with (first | ((with_reducible refine gate_callee (f := 13) rfl ?_); refine goesL_ (some 55) rfl rfl Try.func13 (by kernel_rfl) rfl #[.int .i64 a0, .agg #[.int .i64 t258, .int .i64 t259, .bool t260, .bool t261, .bool t262, .bool t263, .int .i64 t264]] rfl (by (try simp only [List.map_toArray, List.map_cons, List.map_nil]); first | done | rfl | (simp only [List.length_drop, List.length_take]; rfl)) ?_; (with_reducible refine (pte_Encode.calls kj45 a0 t258 t259 t260 t261 t262 t263 t264 t268 t269 _ A58.out).mono ?_); rintro e w68 ⟨rfl, hb⟩; refine ⟨_, rfl, ?_⟩; have n0_ := Aside0.mk (blk_below (g := gb230) (o := .cells #[.int .i64 a1_0, .int .i64 a1_1, .bool a1_2, .bool a1_3, .bool a1_4, .bool a1_5, .int .i64 a1_6] 25 (0, 0)) (by (with_reducible repeat (first | refine blk_drewN ?_ _ | refine blk_drew ?_ | refine blk_alloc ?_ _)); exact BK230.out) hb); have n1_ := Aside0.mk (blk_below (g := gb266) (o := .cells #[.int .i64 t258, .int .i64 t259, .bool t260, .bool t261, .bool t262, .bool t263, .int .i64 t264] 25 (0, 0)) (by (with_reducible repeat (first | refine blk_drewN ?_ _ | refine blk_drew ?_ | refine blk_alloc ?_ _)); exact BK266.out) hb); have n2_ := Aside0.mk (below_step (by repeat (first | (with_reducible first | exact HB.out | apply below_alloc | apply pw_below_drewN | apply below_drew1 | refine below_set ?_ GE230.out | refine below_set ?_ GE266.out) | exact HB.out)) hb); clear BK230; clear BK266; clear HB; have BK230 := n0_; have BK266 := n1_; have HB := n2_; clear n0_ n1_ n2_; (try clear hb); (try clear hb2); (try clear hk); (try clear hi); (try simp only [errW_none, errW_some])))
            go_ret
            exact ⟨by first | rfl | (simp [errW_none, errW_some] <;> rfl) | (simp [*, errW_none, errW_some] <;> rfl), by repeat (first | (with_reducible first | exact HB.out | apply below_alloc | apply pw_below_drewN | apply below_drew1 | refine below_set ?_ GE230.out | refine below_set ?_ GE266.out) | exact HB.out)⟩

/-- THE ONE PURE STATEMENT of paviorlaw02_PteBack. -/
def paviorlaw02_PteBack.Pure : Prop := ∀ (a0 : Int) (a1_0 : Int) (a1_1 : Int) (a1_2 : Bool) (a1_3 : Bool) (a1_4 : Bool) (a1_5 : Bool) (a1_6 : Int) (a2 : Int), (Lit.int .i64 a0).wf = true → (((Lit.int .i64 a1_0).wf = true ∧ (Lit.int .i64 a1_1).wf = true ∧ True ∧ True ∧ True ∧ True ∧ (Lit.int .i64 a1_6).wf = true)) → (Lit.int .u64 a2).wf = true → ∃ k, paviorlaw02_PteBack.f k a0 a1_0 a1_1 a1_2 a1_3 a1_4 a1_5 a1_6 a2 = some true

end Go.Proofs.Ytobbcfpkmmafnab.Q
