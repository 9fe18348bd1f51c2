-- Written by this session's program wip/tools/xprint.py (the kit's printer, turned by it); not the kit's own print.
import Derived.Test.YtlmjjkggoemabaaQtx0
import Derived.Test.YtlmjjkggoemabaaQtx2
import Derived.Test.YtlmjjkggoemabaaQtx3
import Derived.Test.YtlmjjkggoemabaaQtx8
namespace Go.Proofs.Ytlmjjkggoemabaa.Qt
open Go.RowKit Go.Proofs.YtlmjjkggoemabaaW.PrintWords Go.Proofs.YtlmjjkggoemabaaW.PrintLast Go.Proofs.YtlmjjkggoemabaaW.PrintMore
attribute [local go_sem] max2_int min2_int max_two min_two max_three min_three max_four min_four   -- for this text's walks alone
set_option linter.unusedVariables false
set_option linter.unusedSimpArgs false

attribute [local go_sem high] eqErr_some neErr_some eqErr_left neErr_left
/-! ### tlb_Buffer_drop: function 48 -/
set_option maxHeartbeats 4000000 in
set_option maxRecDepth 100000 in
theorem tlb_Buffer_drop.calls (g : Nat) (s0_0 : List (S48)) (s0_1 : Bool) (φ : S48 → Option Bool) (ψ : S48 → Bool) (vF : Value) (w0 w : World) (hI : IsS84 w0 w g s0_0 s0_1) (hB : Below w0.heap.size w0 w) (c0 : s0_0.length < 1000) (hs : ∀ x ∈ s0_0, φ x = some (ψ x)) (hF : HFn.FnOfO Try.prog eF53 rF53 φ vF w) :
    Calls Try.prog 48 #[.pointer (some ⟨g, 0, none⟩), vF] w fun e w' => e = .returned (.tuple #[]) ∧ IsS84 w0 w' g (s0_0.filter (fun x => !ψ x)) s0_1 ∧ Below w0.heap.size w0 w' ∧ KeepBut w w' g none := by
  have HI := Aside0.mk hI
  have HB := Aside0.mk hB
  obtain ⟨sv, hb, hg, hr⟩ := hI
  obtain ⟨A0, n0, rfl⟩ := Kd.R_slice hr
  have HG := Aside0.mk hb
  have HRd := Aside0.mk (Kd.R_reads' hr)
  have HF := Aside0.mk hF
  have HS := Aside0.mk hs
  have LM := Aside0.mk c0
  have hcg0 : w.cell? ⟨g, 0, none⟩ = some (.slice A0 s0_0.length n0) := (blk_cell hb 0).trans rfl
  clear hb hg hr hB hF hs c0
  go_enter Try.func48, Try.ntmps48
  go_wp2_with (first
    | (go_at_call 45; (with_reducible refine (api_Entry_45.calls A0 n0 s0_0 s0_0 _ ?side1 ?side2 ?side3).mono ?_); (case side1 => exact HRd.out.2.2); (case side2 => exact HRd.out.2.1); (case side3 => exact if_pos (by have := LM.out; omega)); rintro e w1 ⟨v1, rfl, hr1, hb⟩; (obtain ⟨A1, n1, rfl⟩ := Kd.R_slice hr1); have HR1 := Aside0.mk hr1; have HB1 := Aside0.mk hb; clear hr1 hb)
    | (go_at_call 61; (with_reducible refine (api_Entry_61.calls s0_0 φ ψ A1 n1 vF w _ LM.out HS.out HR1.out HF.out HB1.out).mono ?_); rintro e w2 ⟨v2, rfl, hr2, hb⟩; (obtain ⟨A2, n2, rfl⟩ := Kd.R_slice hr2); (obtain ⟨m2, hm2⟩ : ∃ m, (s0_0.filter (fun x => !ψ x)).length = m := ⟨_, rfl⟩); rw [hm2] at hr2 ⊢; have HR2 := Aside0.mk hr2; have HB2 := Aside0.mk hb; have HG2 := Aside0.mk (blk_below HG.out hb); clear hr2 hb hm2 hcg0; have hcg0 : w2.cell? ⟨g, 0, none⟩ = some (.slice A0 s0_0.length n0) := (blk_cell HG2.out 0).trans rfl; have hfg0 := blk_frozen HG2.out 0))
  go_end0
  have hb2 := below_step HB.out HB2.out
  exact ⟨rfl, ⟨_, blk_put HG2.out 0 _ rfl, HI.out.ge, Kd.R_mono (Kd.R_far (p := ⟨g, 0, none⟩) (Kd.R_types (Kd.R_lower HR2.out HB.out.size) HG2.out (by decide)) (fun _ hk => hk.2) _) (fun _ _ => trivial : ∀ k, _ → (fun _ : Nat => True) k)⟩, below_set (j := 0) hb2 HI.out.ge, (KeepBut.of_below HB2.out g none).set_ 0 _⟩


/-! ### tlb_Buffer_Space: function 25 -/
set_option maxHeartbeats 4000000 in
set_option maxRecDepth 100000 in
theorem tlb_Buffer_Space.lit (a1 : Int) (B1 : Nat) (x : S48) (W : World) (hc1 : W.cell? ⟨B1, 0, none⟩ = some (.int .i64 a1)) :
    Calls Try.prog 49 #[eF53 x, .pointer (some ⟨B1, 0, none⟩)] W fun e W' => e = .returned (rF53 (x.f0 == a1)) ∧ Below W.heap.size W W' := by
  obtain ⟨x0, x1, x2, x3, x4, x5⟩ := x
  unfold eF53 rF53
  dsimp only
  go_enter Try.func49, Try.ntmps49
  go_wp2_with (first | ((with_reducible refine gate_dst (N := 2) rfl ?_); refine box_event ?hg (N := 2) ?hd (cs := #[.int .i64 x0, .int .i64 x1, .int .i64 x2, .int .i64 x3, .bool x4, .bool x5]) (t := 48) ?hr ?_; (case hd => rfl); (case hg => rfl); (case hr => first | (go_simp; done) | (go_simp; rfl)); intro gb hg w1 hbox hb; have HB1 := Aside0.mk hb; have hcz0 : w1.cell? ⟨gb, 0, none⟩ = some (.int .i64 x0) := (blk_cell hbox 0).trans rfl; have hcz1 : w1.cell? ⟨gb, 1, none⟩ = some (.int .i64 x1) := (blk_cell hbox 1).trans rfl; have hcz2 : w1.cell? ⟨gb, 2, none⟩ = some (.int .i64 x2) := (blk_cell hbox 2).trans rfl; have hcz3 : w1.cell? ⟨gb, 3, none⟩ = some (.int .i64 x3) := (blk_cell hbox 3).trans rfl; have hcz4 : w1.cell? ⟨gb, 4, none⟩ = some (.bool x4) := (blk_cell hbox 4).trans rfl; have hcz5 : w1.cell? ⟨gb, 5, none⟩ = some (.bool x5) := (blk_cell hbox 5).trans rfl; replace hc1 := (hb.cell (World.block_lt_of_cell? W _ hc1)).trans hc1; clear hb hbox hg))
  go_ret
  exact ⟨by first | rfl | (simp; done), HB1.out⟩
def tlb_Buffer_Space.f (s0_0 : List (S48)) (s0_1 : Bool) (a1 : Int) : Option (List (S48) × Bool) := if s0_0.length < 1000 then some (s0_0.filter (fun x => !(x.f0 == a1)), s0_1) else none
set_option maxHeartbeats 4000000 in
set_option maxRecDepth 100000 in
theorem tlb_Buffer_Space.calls (g : Nat) (s0_0 : List (S48)) (s0_1 : Bool) (a1 : Int) (r1 : List (S48)) (r2 : Bool) (w0 w : World) (hI : IsS84 w0 w g s0_0 s0_1) (hB : Below w0.heap.size w0 w) (h : tlb_Buffer_Space.f s0_0 s0_1 a1 = some (r1, r2)) :
    Calls Try.prog 25 #[.pointer (some ⟨g, 0, none⟩), .int .i64 a1] w fun e w' => e = .returned (.tuple #[]) ∧ IsS84 w0 w' g r1 r2 ∧ Below w0.heap.size w0 w' ∧ KeepBut w w' g none := by
  unfold tlb_Buffer_Space.f at h
  by_cases c0 : s0_0.length < 1000
  · rw [if_pos c0] at h
    simp only [Option.some.injEq, Prod.mk.injEq] at h
    obtain ⟨rfl, rfl⟩ := h
    have LM := Aside0.mk c0
    have HI := Aside0.mk hI
    have HB := Aside0.mk hB
    have HW := Aside0.mk (Below.refl w.heap.size w)
    clear hI hB c0
    go_enter Try.func25, Try.ntmps25
    go_wp2_with (first | ((with_reducible refine gate_dst (N := 3) rfl ?_); refine box_event ?hg (N := 3) ?hd (cs := #[.int .i64 a1]) (t := 3) ?hr ?_; (case hd => rfl); (case hg => rfl); (case hr => first | (go_simp; done) | (go_simp; rfl)); intro gb1 hg wb1 hbox hb; have n1 := Aside0.mk (HI.out.below hb); have n2 := Aside0.mk (below_step HB.out hb); have n3 := Aside0.mk (below_step HW.out hb); clear HI HB HW; have HI := n1; have HB := n2; have HW := n3; clear n1 n2 n3; have hz1 : wb1.cell? ⟨gb1, 0, none⟩ = some (.int .i64 a1) := (blk_cell hbox 0).trans rfl; clear hb hbox hg) | (go_at_call 48; (with_reducible refine (tlb_Buffer_drop.calls g s0_0 s0_1 (fun x => some (x.f0 == a1)) (fun x => x.f0 == a1) _ w0 _ HI.out HB.out LM.out ?side1 ?side2).mono ?_); (case side1 => exact fun _ _ => rfl); (case side2 => exact ⟨49, _, _, rfl, Try.func49, by kernel_rfl, rfl, fun W x y hy hW => by injection hy with hy; rw [← hy]; exact tlb_Buffer_Space.lit a1 gb1 x W ((hW.cell (World.block_lt_of_cell? _ _ hz1)).trans hz1)⟩); rintro e w3 ⟨rfl, hi, hb, hk⟩; clear HI HB; have HI := Aside0.mk hi; have HB := Aside0.mk hb; have HK := Aside0.mk ((KeepBut.of_below HW.out g none).trans hk (.inl rfl)); clear hi hb hk))
    go_end0
    exact ⟨rfl, HI.out, HB.out, HK.out⟩
  · rw [if_neg c0] at h
    cases h


/-! ### paviorref05_power: function 50 -/
def paviorref05_power.f (a0 : Int) : Option (Int) := if a0 = 3 then (some 8) else (if a0 = 2 then (some 4) else (some 1))
set_option maxHeartbeats 8000000 in
set_option maxRecDepth 100000 in
theorem paviorref05_power.calls (a0 : Int) (r : Int) (w : World) (h : paviorref05_power.f a0 = some r) :
    Calls Try.prog 50 #[.int .i64 a0] w fun e w' => e = .returned (.int .i64 r) ∧ Drawn0 w w' := by
  have H : (if a0 = 3 then (some 8) else (if a0 = 2 then (some 4) else (some 1))) = some r := h
  clear h
  by_cases c2 : a0 = 3
  · rw [if_pos c2] at H
    have c2b0 : (a0 == 3) = true := beq_iff_eq.mpr c2
    have c2b1 : (a0 != 3) = false := bne_eq_false_iff_eq.mpr c2
    clear c2
    obtain rfl := Option.some.inj H
    go_enter Try.func50, Try.ntmps50
    go_wp2
    go_ret
    exact ⟨by first | rfl | (simp; done) | (simp [*]; done), by repeat (first | exact Drawn0.refl _ | apply Drawn0.step)⟩
  · rw [if_neg c2] at H
    have c2b0 : (a0 == 3) = false := beq_eq_false_iff_ne.mpr c2
    have c2b1 : (a0 != 3) = true := bne_iff_ne.mpr c2
    by_cases c3 : a0 = 2
    · rw [if_pos c3] at H
      have c3b0 : (a0 == 2) = true := beq_iff_eq.mpr c3
      have c3b1 : (a0 != 2) = false := bne_eq_false_iff_eq.mpr c3
      clear c3
      obtain rfl := Option.some.inj H
      go_enter Try.func50, Try.ntmps50
      go_wp2
      go_ret
      exact ⟨by first | rfl | (simp; done) | (simp [*]; done), by repeat (first | exact Drawn0.refl _ | apply Drawn0.step)⟩
    · rw [if_neg c3] at H
      have c3b0 : (a0 == 2) = false := beq_eq_false_iff_ne.mpr c3
      have c3b1 : (a0 != 2) = true := bne_iff_ne.mpr c3
      obtain rfl := Option.some.inj H
      go_enter Try.func50, Try.ntmps50
      go_wp2
      go_ret
      exact ⟨by first | rfl | (simp; done) | (simp [*]; done), by repeat (first | exact Drawn0.refl _ | apply Drawn0.step)⟩

/-! ### paviorref05_May: function 26 -/
def paviorref05_May.j0 : Nat → Bool → Int → Int → Int → Int → Bool → Bool → Option (Bool)
  | 0, _, _, _, _, _, _, _ => none
  | k + 1, x25, x156000, x156001, x156002, x156003, x156004, x156005 => if x25 = true then (some false) else (if x156002 = 0 then ((paviorref05_power.f x156002).bind fun t156 => (if t156 = 0 then (none) else (some ((Int.tmod x156001 t156) == 0)))) else (if x156002 = 2 then ((paviorref05_power.f x156002).bind fun t157 => (if t157 = 0 then (none) else (some ((Int.tmod x156001 t157) == 0)))) else (if x156002 = 3 then ((paviorref05_power.f x156002).bind fun t158 => (if t158 = 0 then (none) else (some ((Int.tmod x156001 t158) == 0)))) else (some false))))
def paviorref05_May.f (k : Nat) (a0_0 : Int) (a0_1 : Int) (a0_2 : Int) (a0_3 : Int) (a0_4 : Bool) (a0_5 : Bool) : Option (Bool) := if a0_0 < 0 then (paviorref05_May.j0 k true a0_0 a0_1 a0_2 a0_3 a0_4 a0_5) else (if a0_0 > 255 then (paviorref05_May.j0 k true a0_0 a0_1 a0_2 a0_3 a0_4 a0_5) else (if a0_1 < 0 then (paviorref05_May.j0 k true a0_0 a0_1 a0_2 a0_3 a0_4 a0_5) else (if a0_1 > 4095 then (paviorref05_May.j0 k true a0_0 a0_1 a0_2 a0_3 a0_4 a0_5) else (paviorref05_May.j0 k (decide (a0_3 < 0)) a0_0 a0_1 a0_2 a0_3 a0_4 a0_5))))
theorem paviorref05_May.mono_l : ∀ k, (∀ y0 y1 y2 y3 y4 y5 y6, LeO (paviorref05_May.j0 k y0 y1 y2 y3 y4 y5 y6) (paviorref05_May.j0 (k + 1) y0 y1 y2 y3 y4 y5 y6))
  | 0 => fun _ _ _ _ _ _ _ r h => by simp [paviorref05_May.j0] at h
  | k + 1 => by
    have ih0 := paviorref05_May.mono_l k
    · intro y0 y1 y2 y3 y4 y5 y6
      unfold paviorref05_May.j0
      repeat' first
      | (with_reducible exact ih0 _ _ _ _ _ _ _)
      | (with_reducible exact LeO.refl _)
      | (with_reducible exact LeO.none _)
      | (with_reducible refine LeO.ite ?_ ?_)
      | (with_reducible refine LeO.bind ?_ (fun _ => ?_))
      | exact ih0 _ _ _ _ _ _ _
      | exact LeO.none _
      | refine LeO.ite ?_ ?_
      | refine LeO.bind ?_ (fun _ => ?_)
theorem paviorref05_May.mono : ∀ a0 a1 a2 a3 a4 a5 k, LeO (paviorref05_May.f k a0 a1 a2 a3 a4 a5) (paviorref05_May.f (k + 1) a0 a1 a2 a3 a4 a5) := by
  intro a0 a1 a2 a3 a4 a5 k
  have ih0 := paviorref05_May.mono_l k
  unfold paviorref05_May.f
  repeat' first
      | (with_reducible exact ih0 _ _ _ _ _ _ _)
      | (with_reducible exact LeO.refl _)
      | (with_reducible exact LeO.none _)
      | (with_reducible refine LeO.ite ?_ ?_)
      | (with_reducible refine LeO.bind ?_ (fun _ => ?_))
      | exact ih0 _ _ _ _ _ _ _
      | exact LeO.none _
      | refine LeO.ite ?_ ?_
      | refine LeO.bind ?_ (fun _ => ?_)
set_option maxHeartbeats 8000000 in
set_option maxRecDepth 100000 in
theorem paviorref05_May.calls (k : Nat) (a0_0 : Int) (a0_1 : Int) (a0_2 : Int) (a0_3 : Int) (a0_4 : Bool) (a0_5 : Bool) (r : Bool) (w : World) (h : paviorref05_May.f k a0_0 a0_1 a0_2 a0_3 a0_4 a0_5 = some r) :
    Calls Try.prog 26 #[.agg #[.int .i64 a0_0, .int .i64 a0_1, .int .i64 a0_2, .int .i64 a0_3, .bool a0_4, .bool a0_5]] w fun e w' => e = .returned (.bool r) ∧ Below w.heap.size w w' := by
  have hu48 := Try.underlying48
  have HB := Aside0.mk (Below.refl w.heap.size w)
  have H : (if a0_0 < 0 then (paviorref05_May.j0 k true a0_0 a0_1 a0_2 a0_3 a0_4 a0_5) else (if a0_0 > 255 then (paviorref05_May.j0 k true a0_0 a0_1 a0_2 a0_3 a0_4 a0_5) else (if a0_1 < 0 then (paviorref05_May.j0 k true a0_0 a0_1 a0_2 a0_3 a0_4 a0_5) else (if a0_1 > 4095 then (paviorref05_May.j0 k true a0_0 a0_1 a0_2 a0_3 a0_4 a0_5) else (paviorref05_May.j0 k (decide (a0_3 < 0)) a0_0 a0_1 a0_2 a0_3 a0_4 a0_5))))) = some r := h
  clear h
  have HC2 := Aside0.mk H
  clear H
  go_enter Try.func26, Try.ntmps26
  go_upto_region 1 with (first | ((with_reducible refine gate_dst (N := 1) rfl ?_); refine box_event ?hg (N := 1) ?hd (cs := #[.int .i64 a0_0, .int .i64 a0_1, .int .i64 a0_2, .int .i64 a0_3, .bool a0_4, .bool a0_5]) (t := 48) ?hr ?_; (case hd => rfl); (case hg => rfl); (case hr => first | (go_simp; done) | (go_simp; rfl)); intro gb155 hg w3 hbox hb; have n0_ := Aside0.mk (below_step (by repeat (first | (with_reducible first | exact HB.out | apply below_alloc | apply pw_below_drewN | apply below_drew1) | exact HB.out)) hb); have n1_ := Aside0.mk (hbox); have n2_ := Aside0.mk ((by rw [hg]; exact (below_size (by repeat (first | (with_reducible first | exact HB.out | apply below_alloc | apply pw_below_drewN | apply below_drew1) | exact HB.out))) : w.heap.size ≤ gb155)); have n3_ := Aside0.mk ((by rw [hg]; exact (below_size (by repeat (first | (with_reducible first | exact HB.out | apply below_alloc | apply pw_below_drewN | apply below_drew1) | exact HB.out))) : w.heap.size ≤ gb155)); clear HB; have HB := n0_; have BK155 := n1_; have GW155 := n2_; have GE155 := n3_; clear n0_ n1_ n2_ n3_; clear hb hbox hg))
  repeat (go_quiet (first | ((with_reducible refine gate_dst (N := 1) rfl ?_); refine box_event ?hg (N := 1) ?hd (cs := #[.int .i64 a0_0, .int .i64 a0_1, .int .i64 a0_2, .int .i64 a0_3, .bool a0_4, .bool a0_5]) (t := 48) ?hr ?_; (case hd => rfl); (case hg => rfl); (case hr => first | (go_simp; done) | (go_simp; rfl)); intro gb155 hg w3 hbox hb; have n0_ := Aside0.mk (below_step (by repeat (first | (with_reducible first | exact HB.out | apply below_alloc | apply pw_below_drewN | apply below_drew1) | exact HB.out)) hb); have n1_ := Aside0.mk (hbox); have n2_ := Aside0.mk ((by rw [hg]; exact (below_size (by repeat (first | (with_reducible first | exact HB.out | apply below_alloc | apply pw_below_drewN | apply below_drew1) | exact HB.out))) : w.heap.size ≤ gb155)); have n3_ := Aside0.mk ((by rw [hg]; exact (below_size (by repeat (first | (with_reducible first | exact HB.out | apply below_alloc | apply pw_below_drewN | apply below_drew1) | exact HB.out))) : w.heap.size ≤ gb155)); clear HB; have HB := n0_; have BK155 := n1_; have GW155 := n2_; have GE155 := n3_; clear n0_ n1_ n2_ n3_; clear hb hbox hg)); go_upto_region 1 with (first | ((with_reducible refine gate_dst (N := 1) rfl ?_); refine box_event ?hg (N := 1) ?hd (cs := #[.int .i64 a0_0, .int .i64 a0_1, .int .i64 a0_2, .int .i64 a0_3, .bool a0_4, .bool a0_5]) (t := 48) ?hr ?_; (case hd => rfl); (case hg => rfl); (case hr => first | (go_simp; done) | (go_simp; rfl)); intro gb155 hg w3 hbox hb; have n0_ := Aside0.mk (below_step (by repeat (first | (with_reducible first | exact HB.out | apply below_alloc | apply pw_below_drewN | apply below_drew1) | exact HB.out)) hb); have n1_ := Aside0.mk (hbox); have n2_ := Aside0.mk ((by rw [hg]; exact (below_size (by repeat (first | (with_reducible first | exact HB.out | apply below_alloc | apply pw_below_drewN | apply below_drew1) | exact HB.out))) : w.heap.size ≤ gb155)); have n3_ := Aside0.mk ((by rw [hg]; exact (below_size (by repeat (first | (with_reducible first | exact HB.out | apply below_alloc | apply pw_below_drewN | apply below_drew1) | exact HB.out))) : w.heap.size ≤ gb155)); clear HB; have HB := n0_; have BK155 := n1_; have GW155 := n2_; have GE155 := n3_; clear n0_ n1_ n2_ n3_; clear hb hbox hg)))
  (try simp only [Act.put, List.setIfInBounds_toArray, List.set_cons_zero, List.set_cons_succ])
  go_cut [25] (fun v25 wc => ∃ (kq : Nat) (x25_1 : Bool), v25 = .bool x25_1 ∧ Aside0 (paviorref05_May.j0 kq x25_1 a0_0 a0_1 a0_2 a0_3 a0_4 a0_5 = some r) ∧ Aside0 (kq ≤ k) ∧ Aside0 (wc.heap[gb155]? = some (.cells #[.int .i64 a0_0, .int .i64 a0_1, .int .i64 a0_2, .int .i64 a0_3, .bool a0_4, .bool a0_5] 48 (0, 0))) ∧ Aside0 (Below w.heap.size w wc))
  case first =>
    have H := HC2.out
    clear HC2
    by_cases c4 : a0_0 < 0
    · rw [if_pos c4] at H
      have c4b0 : decide (a0_0 < 0) = true := decide_eq_true c4
      clear c4
      (first | rw [c4b0] | (simp only [i64_w, i32_w]; rw [c4b0]) | skip)
      have H' := Aside0.mk H
      clear H
      have hcz5_0 : w3.cell? ⟨gb155, 0, none⟩ = some (.int .i64 a0_0) := (blk_cell BK155.out 0).trans rfl
      have hcz5_1 : w3.cell? ⟨gb155, 1, none⟩ = some (.int .i64 a0_1) := (blk_cell BK155.out 1).trans rfl
      have hcz5_2 : w3.cell? ⟨gb155, 2, none⟩ = some (.int .i64 a0_2) := (blk_cell BK155.out 2).trans rfl
      have hcz5_3 : w3.cell? ⟨gb155, 3, none⟩ = some (.int .i64 a0_3) := (blk_cell BK155.out 3).trans rfl
      have hcz5_4 : w3.cell? ⟨gb155, 4, none⟩ = some (.bool a0_4) := (blk_cell BK155.out 4).trans rfl
      have hcz5_5 : w3.cell? ⟨gb155, 5, none⟩ = some (.bool a0_5) := (blk_cell BK155.out 5).trans rfl
      have hfz5_0 := blk_frozen BK155.out 0
      have hfz5_1 := blk_frozen BK155.out 1
      have hfz5_2 := blk_frozen BK155.out 2
      have hfz5_3 := blk_frozen BK155.out 3
      have hfz5_4 := blk_frozen BK155.out 4
      have hfz5_5 := blk_frozen BK155.out 5
      go_wp2
      repeat (go_quiet (fail); try go_wp2)
      go_meet
      case rel => exact ⟨_, (true), (by first | rfl | (simp; done) | (simp [*]; done)), H', ⟨by first | omega | exact Nat.le_refl _⟩, ⟨by (with_reducible repeat (first | refine blk_drewN ?_ _ | refine blk_drew ?_ | refine blk_alloc ?_ _)); exact BK155.out⟩, ⟨by repeat (first | (with_reducible first | exact HB.out | apply below_alloc | apply pw_below_drewN | apply below_drew1 | refine below_set ?_ GE155.out) | exact HB.out)⟩⟩
    · rw [if_neg c4] at H
      have c4b0 : decide (a0_0 < 0) = false := decide_eq_false c4
      clear c4
      (first | rw [c4b0] | (simp only [i64_w, i32_w]; rw [c4b0]) | skip)
      by_cases c6 : a0_0 > 255
      · rw [if_pos c6] at H
        have c6b0 : decide (255 < a0_0) = true := decide_eq_true c6
        clear c6
        have H' := Aside0.mk H
        clear H
        have hcz7_0 : w3.cell? ⟨gb155, 0, none⟩ = some (.int .i64 a0_0) := (blk_cell BK155.out 0).trans rfl
        have hcz7_1 : w3.cell? ⟨gb155, 1, none⟩ = some (.int .i64 a0_1) := (blk_cell BK155.out 1).trans rfl
        have hcz7_2 : w3.cell? ⟨gb155, 2, none⟩ = some (.int .i64 a0_2) := (blk_cell BK155.out 2).trans rfl
        have hcz7_3 : w3.cell? ⟨gb155, 3, none⟩ = some (.int .i64 a0_3) := (blk_cell BK155.out 3).trans rfl
        have hcz7_4 : w3.cell? ⟨gb155, 4, none⟩ = some (.bool a0_4) := (blk_cell BK155.out 4).trans rfl
        have hcz7_5 : w3.cell? ⟨gb155, 5, none⟩ = some (.bool a0_5) := (blk_cell BK155.out 5).trans rfl
        have hfz7_0 := blk_frozen BK155.out 0
        have hfz7_1 := blk_frozen BK155.out 1
        have hfz7_2 := blk_frozen BK155.out 2
        have hfz7_3 := blk_frozen BK155.out 3
        have hfz7_4 := blk_frozen BK155.out 4
        have hfz7_5 := blk_frozen BK155.out 5
        go_wp2
        repeat (go_quiet (fail); try go_wp2)
        go_meet
        case rel => exact ⟨_, (true), (by first | rfl | (simp; done) | (simp [*]; done)), H', ⟨by first | omega | exact Nat.le_refl _⟩, ⟨by (with_reducible repeat (first | refine blk_drewN ?_ _ | refine blk_drew ?_ | refine blk_alloc ?_ _)); exact BK155.out⟩, ⟨by repeat (first | (with_reducible first | exact HB.out | apply below_alloc | apply pw_below_drewN | apply below_drew1 | refine below_set ?_ GE155.out) | exact HB.out)⟩⟩
      · rw [if_neg c6] at H
        have c6b0 : decide (255 < a0_0) = false := decide_eq_false c6
        clear c6
        by_cases c8 : a0_1 < 0
        · rw [if_pos c8] at H
          have c8b0 : decide (a0_1 < 0) = true := decide_eq_true c8
          clear c8
          have H' := Aside0.mk H
          clear H
          have hcz9_0 : w3.cell? ⟨gb155, 0, none⟩ = some (.int .i64 a0_0) := (blk_cell BK155.out 0).trans rfl
          have hcz9_1 : w3.cell? ⟨gb155, 1, none⟩ = some (.int .i64 a0_1) := (blk_cell BK155.out 1).trans rfl
          have hcz9_2 : w3.cell? ⟨gb155, 2, none⟩ = some (.int .i64 a0_2) := (blk_cell BK155.out 2).trans rfl
          have hcz9_3 : w3.cell? ⟨gb155, 3, none⟩ = some (.int .i64 a0_3) := (blk_cell BK155.out 3).trans rfl
          have hcz9_4 : w3.cell? ⟨gb155, 4, none⟩ = some (.bool a0_4) := (blk_cell BK155.out 4).trans rfl
          have hcz9_5 : w3.cell? ⟨gb155, 5, none⟩ = some (.bool a0_5) := (blk_cell BK155.out 5).trans rfl
          have hfz9_0 := blk_frozen BK155.out 0
          have hfz9_1 := blk_frozen BK155.out 1
          have hfz9_2 := blk_frozen BK155.out 2
          have hfz9_3 := blk_frozen BK155.out 3
          have hfz9_4 := blk_frozen BK155.out 4
          have hfz9_5 := blk_frozen BK155.out 5
          go_wp2
          repeat (go_quiet (fail); try go_wp2)
          go_meet
          case rel => exact ⟨_, (true), (by first | rfl | (simp; done) | (simp [*]; done)), H', ⟨by first | omega | exact Nat.le_refl _⟩, ⟨by (with_reducible repeat (first | refine blk_drewN ?_ _ | refine blk_drew ?_ | refine blk_alloc ?_ _)); exact BK155.out⟩, ⟨by repeat (first | (with_reducible first | exact HB.out | apply below_alloc | apply pw_below_drewN | apply below_drew1 | refine below_set ?_ GE155.out) | exact HB.out)⟩⟩
        · rw [if_neg c8] at H
          have c8b0 : decide (a0_1 < 0) = false := decide_eq_false c8
          clear c8
          by_cases c10 : a0_1 > 4095
          · rw [if_pos c10] at H
            have c10b0 : decide (4095 < a0_1) = true := decide_eq_true c10
            clear c10
            have H' := Aside0.mk H
            clear H
            have hcz11_0 : w3.cell? ⟨gb155, 0, none⟩ = some (.int .i64 a0_0) := (blk_cell BK155.out 0).trans rfl
            have hcz11_1 : w3.cell? ⟨gb155, 1, none⟩ = some (.int .i64 a0_1) := (blk_cell BK155.out 1).trans rfl
            have hcz11_2 : w3.cell? ⟨gb155, 2, none⟩ = some (.int .i64 a0_2) := (blk_cell BK155.out 2).trans rfl
            have hcz11_3 : w3.cell? ⟨gb155, 3, none⟩ = some (.int .i64 a0_3) := (blk_cell BK155.out 3).trans rfl
            have hcz11_4 : w3.cell? ⟨gb155, 4, none⟩ = some (.bool a0_4) := (blk_cell BK155.out 4).trans rfl
            have hcz11_5 : w3.cell? ⟨gb155, 5, none⟩ = some (.bool a0_5) := (blk_cell BK155.out 5).trans rfl
            have hfz11_0 := blk_frozen BK155.out 0
            have hfz11_1 := blk_frozen BK155.out 1
            have hfz11_2 := blk_frozen BK155.out 2
            have hfz11_3 := blk_frozen BK155.out 3
            have hfz11_4 := blk_frozen BK155.out 4
            have hfz11_5 := blk_frozen BK155.out 5
            go_wp2
            repeat (go_quiet (fail); try go_wp2)
            go_meet
            case rel => exact ⟨_, (true), (by first | rfl | (simp; done) | (simp [*]; done)), H', ⟨by first | omega | exact Nat.le_refl _⟩, ⟨by (with_reducible repeat (first | refine blk_drewN ?_ _ | refine blk_drew ?_ | refine blk_alloc ?_ _)); exact BK155.out⟩, ⟨by repeat (first | (with_reducible first | exact HB.out | apply below_alloc | apply pw_below_drewN | apply below_drew1 | refine below_set ?_ GE155.out) | exact HB.out)⟩⟩
          · rw [if_neg c10] at H
            have c10b0 : decide (4095 < a0_1) = false := decide_eq_false c10
            clear c10
            have H' := Aside0.mk H
            clear H
            have hcz12_0 : w3.cell? ⟨gb155, 0, none⟩ = some (.int .i64 a0_0) := (blk_cell BK155.out 0).trans rfl
            have hcz12_1 : w3.cell? ⟨gb155, 1, none⟩ = some (.int .i64 a0_1) := (blk_cell BK155.out 1).trans rfl
            have hcz12_2 : w3.cell? ⟨gb155, 2, none⟩ = some (.int .i64 a0_2) := (blk_cell BK155.out 2).trans rfl
            have hcz12_3 : w3.cell? ⟨gb155, 3, none⟩ = some (.int .i64 a0_3) := (blk_cell BK155.out 3).trans rfl
            have hcz12_4 : w3.cell? ⟨gb155, 4, none⟩ = some (.bool a0_4) := (blk_cell BK155.out 4).trans rfl
            have hcz12_5 : w3.cell? ⟨gb155, 5, none⟩ = some (.bool a0_5) := (blk_cell BK155.out 5).trans rfl
            have hfz12_0 := blk_frozen BK155.out 0
            have hfz12_1 := blk_frozen BK155.out 1
            have hfz12_2 := blk_frozen BK155.out 2
            have hfz12_3 := blk_frozen BK155.out 3
            have hfz12_4 := blk_frozen BK155.out 4
            have hfz12_5 := blk_frozen BK155.out 5
            go_wp2
            repeat (go_quiet (fail); try go_wp2)
            go_meet
            case rel => exact ⟨_, (decide (a0_3 < 0)), (by first | rfl | (simp; done) | (simp [*]; done)), H', ⟨by first | omega | exact Nat.le_refl _⟩, ⟨by (with_reducible repeat (first | refine blk_drewN ?_ _ | refine blk_drew ?_ | refine blk_alloc ?_ _)); exact BK155.out⟩, ⟨by repeat (first | (with_reducible first | exact HB.out | apply below_alloc | apply pw_below_drewN | apply below_drew1 | refine below_set ?_ GE155.out) | exact HB.out)⟩⟩
  case rest =>
    clear HC2
    try clear c1
    try clear c2
    try clear p2
    try clear c4
    try clear c4b0
    try clear c6
    try clear c6b0
    try clear c8
    try clear c8b0
    try clear c10
    try clear c10b0
    try clear hcz11_0
    try clear hcz11_1
    try clear hcz11_2
    try clear hcz11_3
    try clear hcz11_4
    try clear hcz11_5
    try clear hcz12_0
    try clear hcz12_1
    try clear hcz12_2
    try clear hcz12_3
    try clear hcz12_4
    try clear hcz12_5
    try clear hcz5_0
    try clear hcz5_1
    try clear hcz5_2
    try clear hcz5_3
    try clear hcz5_4
    try clear hcz5_5
    try clear hcz7_0
    try clear hcz7_1
    try clear hcz7_2
    try clear hcz7_3
    try clear hcz7_4
    try clear hcz7_5
    try clear hcz9_0
    try clear hcz9_1
    try clear hcz9_2
    try clear hcz9_3
    try clear hcz9_4
    try clear hcz9_5
    try clear hfz11_0
    try clear hfz11_1
    try clear hfz11_2
    try clear hfz11_3
    try clear hfz11_4
    try clear hfz11_5
    try clear hfz12_0
    try clear hfz12_1
    try clear hfz12_2
    try clear hfz12_3
    try clear hfz12_4
    try clear hfz12_5
    try clear hfz5_0
    try clear hfz5_1
    try clear hfz5_2
    try clear hfz5_3
    try clear hfz5_4
    try clear hfz5_5
    try clear hfz7_0
    try clear hfz7_1
    try clear hfz7_2
    try clear hfz7_3
    try clear hfz7_4
    try clear hfz7_5
    try clear hfz9_0
    try clear hfz9_1
    try clear hfz9_2
    try clear hfz9_3
    try clear hfz9_4
    try clear hfz9_5
    obtain ⟨kq, x25_1, rfl, HA, HJ1, BK155, HB⟩ := hcut
    cases kq with
    | zero => exact absurd HA.out (by simp [paviorref05_May.j0])
    | succ kj1 =>
      have H := HA.out
      clear HA
      simp only [paviorref05_May.j0] at H
      by_cases c13 : x25_1 = true
      · subst c13
        have H1 : (some false) = some r := by rw [if_pos rfl] at H; exact H
        clear H
        have H := H1
        clear H1
        obtain rfl := Option.some.inj H
        go_wp2
        repeat (go_quiet (fail); try go_wp2)
        go_ret
        exact ⟨by first | rfl | (simp [errW_none, errW_some] <;> rfl) | (simp [*, errW_none, errW_some] <;> rfl), by repeat (first | (with_reducible first | exact HB.out | apply below_alloc | apply pw_below_drewN | apply below_drew1 | refine below_set ?_ GE155.out) | exact HB.out)⟩
      · replace c13 := Bool.eq_false_iff.mpr c13
        subst c13
        have H1 : (if a0_2 = 0 then ((paviorref05_power.f a0_2).bind fun t156 => (if t156 = 0 then (none) else (some ((Int.tmod a0_1 t156) == 0)))) else (if a0_2 = 2 then ((paviorref05_power.f a0_2).bind fun t157 => (if t157 = 0 then (none) else (some ((Int.tmod a0_1 t157) == 0)))) else (if a0_2 = 3 then ((paviorref05_power.f a0_2).bind fun t158 => (if t158 = 0 then (none) else (some ((Int.tmod a0_1 t158) == 0)))) else (some false)))) = some r := by rw [if_neg (show ¬ (false = true) by decide)] at H; exact H
        clear H
        have H := H1
        clear H1
        by_cases c14 : a0_2 = 0
        · rw [if_pos c14] at H
          have c14b0 : (a0_2 == 0) = true := beq_iff_eq.mpr c14
          have c14b1 : (a0_2 != 0) = false := bne_eq_false_iff_eq.mpr c14
          clear c14
          replace H := Option.bind_eq_some_iff.mp H
          obtain ⟨t156, A150, H⟩ := H
          replace H : (if t156 = 0 then (none) else (some ((Int.tmod a0_1 t156) == 0))) = some r := H
          have A15 := Aside0.mk A150
          clear A150
          by_cases c16 : t156 = 0
          · rw [if_pos c16] at H
            exact absurd H (by simp)
          · rw [if_neg c16] at H
            have c16b0 : (t156 == 0) = false := beq_eq_false_iff_ne.mpr c16
            have c16b1 : (t156 != 0) = true := bne_iff_ne.mpr c16
            obtain rfl := Option.some.inj H
            have hcz17_0 : wc.cell? ⟨gb155, 0, none⟩ = some (.int .i64 a0_0) := (blk_cell BK155.out 0).trans rfl
            have hcz17_1 : wc.cell? ⟨gb155, 1, none⟩ = some (.int .i64 a0_1) := (blk_cell BK155.out 1).trans rfl
            have hcz17_2 : wc.cell? ⟨gb155, 2, none⟩ = some (.int .i64 a0_2) := (blk_cell BK155.out 2).trans rfl
            have hcz17_3 : wc.cell? ⟨gb155, 3, none⟩ = some (.int .i64 a0_3) := (blk_cell BK155.out 3).trans rfl
            have hcz17_4 : wc.cell? ⟨gb155, 4, none⟩ = some (.bool a0_4) := (blk_cell BK155.out 4).trans rfl
            have hcz17_5 : wc.cell? ⟨gb155, 5, none⟩ = some (.bool a0_5) := (blk_cell BK155.out 5).trans rfl
            have hfz17_0 := blk_frozen BK155.out 0
            have hfz17_1 := blk_frozen BK155.out 1
            have hfz17_2 := blk_frozen BK155.out 2
            have hfz17_3 := blk_frozen BK155.out 3
            have hfz17_4 := blk_frozen BK155.out 4
            have hfz17_5 := blk_frozen BK155.out 5
            go_wp2_with (first | (go_at_call 50; (with_reducible refine (paviorref05_power.calls a0_2 t156 _ A15.out).mono ?_); rintro e w' ⟨rfl, ⟨nd, rfl⟩⟩; (try first | exact ⟨rfl, _, World.drewN_drewN _ _ _⟩ | exact ⟨rfl, _, Eq.trans (World.drewN_drewN _ _ _) (congrArg (World.drewN _) (Nat.add_assoc _ _ _))⟩)))
            repeat (go_quiet (first | (go_at_call 50; (with_reducible refine (paviorref05_power.calls a0_2 t156 _ A15.out).mono ?_); rintro e w' ⟨rfl, ⟨nd, rfl⟩⟩; (try first | exact ⟨rfl, _, World.drewN_drewN _ _ _⟩ | exact ⟨rfl, _, Eq.trans (World.drewN_drewN _ _ _) (congrArg (World.drewN _) (Nat.add_assoc _ _ _))⟩))); try go_wp2_with (first | (go_at_call 50; (with_reducible refine (paviorref05_power.calls a0_2 t156 _ A15.out).mono ?_); rintro e w' ⟨rfl, ⟨nd, rfl⟩⟩; (try first | exact ⟨rfl, _, World.drewN_drewN _ _ _⟩ | exact ⟨rfl, _, Eq.trans (World.drewN_drewN _ _ _) (congrArg (World.drewN _) (Nat.add_assoc _ _ _))⟩))))
            go_ret
            exact ⟨by first | rfl | (simp [errW_none, errW_some] <;> rfl) | (simp [*, errW_none, errW_some] <;> rfl), by repeat (first | (with_reducible first | exact HB.out | apply below_alloc | apply pw_below_drewN | apply below_drew1 | refine below_set ?_ GE155.out) | exact HB.out)⟩
        · rw [if_neg c14] at H
          have c14b0 : (a0_2 == 0) = false := beq_eq_false_iff_ne.mpr c14
          have c14b1 : (a0_2 != 0) = true := bne_iff_ne.mpr c14
          by_cases c18 : a0_2 = 2
          · rw [if_pos c18] at H
            have c18b0 : (a0_2 == 2) = true := beq_iff_eq.mpr c18
            have c18b1 : (a0_2 != 2) = false := bne_eq_false_iff_eq.mpr c18
            clear c18
            replace H := Option.bind_eq_some_iff.mp H
            obtain ⟨t157, A190, H⟩ := H
            replace H : (if t157 = 0 then (none) else (some ((Int.tmod a0_1 t157) == 0))) = some r := H
            have A19 := Aside0.mk A190
            clear A190
            by_cases c20 : t157 = 0
            · rw [if_pos c20] at H
              exact absurd H (by simp)
            · rw [if_neg c20] at H
              have c20b0 : (t157 == 0) = false := beq_eq_false_iff_ne.mpr c20
              have c20b1 : (t157 != 0) = true := bne_iff_ne.mpr c20
              obtain rfl := Option.some.inj H
              have hcz21_0 : wc.cell? ⟨gb155, 0, none⟩ = some (.int .i64 a0_0) := (blk_cell BK155.out 0).trans rfl
              have hcz21_1 : wc.cell? ⟨gb155, 1, none⟩ = some (.int .i64 a0_1) := (blk_cell BK155.out 1).trans rfl
              have hcz21_2 : wc.cell? ⟨gb155, 2, none⟩ = some (.int .i64 a0_2) := (blk_cell BK155.out 2).trans rfl
              have hcz21_3 : wc.cell? ⟨gb155, 3, none⟩ = some (.int .i64 a0_3) := (blk_cell BK155.out 3).trans rfl
              have hcz21_4 : wc.cell? ⟨gb155, 4, none⟩ = some (.bool a0_4) := (blk_cell BK155.out 4).trans rfl
              have hcz21_5 : wc.cell? ⟨gb155, 5, none⟩ = some (.bool a0_5) := (blk_cell BK155.out 5).trans rfl
              have hfz21_0 := blk_frozen BK155.out 0
              have hfz21_1 := blk_frozen BK155.out 1
              have hfz21_2 := blk_frozen BK155.out 2
              have hfz21_3 := blk_frozen BK155.out 3
              have hfz21_4 := blk_frozen BK155.out 4
              have hfz21_5 := blk_frozen BK155.out 5
              go_wp2_with (first | (go_at_call 50; (with_reducible refine (paviorref05_power.calls a0_2 t157 _ A19.out).mono ?_); rintro e w' ⟨rfl, ⟨nd, rfl⟩⟩; (try first | exact ⟨rfl, _, World.drewN_drewN _ _ _⟩ | exact ⟨rfl, _, Eq.trans (World.drewN_drewN _ _ _) (congrArg (World.drewN _) (Nat.add_assoc _ _ _))⟩)))
              repeat (go_quiet (first | (go_at_call 50; (with_reducible refine (paviorref05_power.calls a0_2 t157 _ A19.out).mono ?_); rintro e w' ⟨rfl, ⟨nd, rfl⟩⟩; (try first | exact ⟨rfl, _, World.drewN_drewN _ _ _⟩ | exact ⟨rfl, _, Eq.trans (World.drewN_drewN _ _ _) (congrArg (World.drewN _) (Nat.add_assoc _ _ _))⟩))); try go_wp2_with (first | (go_at_call 50; (with_reducible refine (paviorref05_power.calls a0_2 t157 _ A19.out).mono ?_); rintro e w' ⟨rfl, ⟨nd, rfl⟩⟩; (try first | exact ⟨rfl, _, World.drewN_drewN _ _ _⟩ | exact ⟨rfl, _, Eq.trans (World.drewN_drewN _ _ _) (congrArg (World.drewN _) (Nat.add_assoc _ _ _))⟩))))
              go_ret
              exact ⟨by first | rfl | (simp [errW_none, errW_some] <;> rfl) | (simp [*, errW_none, errW_some] <;> rfl), by repeat (first | (with_reducible first | exact HB.out | apply below_alloc | apply pw_below_drewN | apply below_drew1 | refine below_set ?_ GE155.out) | exact HB.out)⟩
          · rw [if_neg c18] at H
            have c18b0 : (a0_2 == 2) = false := beq_eq_false_iff_ne.mpr c18
            have c18b1 : (a0_2 != 2) = true := bne_iff_ne.mpr c18
            by_cases c22 : a0_2 = 3
            · rw [if_pos c22] at H
              have c22b0 : (a0_2 == 3) = true := beq_iff_eq.mpr c22
              have c22b1 : (a0_2 != 3) = false := bne_eq_false_iff_eq.mpr c22
              clear c22
              replace H := Option.bind_eq_some_iff.mp H
              obtain ⟨t158, A230, H⟩ := H
              replace H : (if t158 = 0 then (none) else (some ((Int.tmod a0_1 t158) == 0))) = some r := H
              have A23 := Aside0.mk A230
              clear A230
              by_cases c24 : t158 = 0
              · rw [if_pos c24] at H
                exact absurd H (by simp)
              · rw [if_neg c24] at H
                have c24b0 : (t158 == 0) = false := beq_eq_false_iff_ne.mpr c24
                have c24b1 : (t158 != 0) = true := bne_iff_ne.mpr c24
                obtain rfl := Option.some.inj H
                have hcz25_0 : wc.cell? ⟨gb155, 0, none⟩ = some (.int .i64 a0_0) := (blk_cell BK155.out 0).trans rfl
                have hcz25_1 : wc.cell? ⟨gb155, 1, none⟩ = some (.int .i64 a0_1) := (blk_cell BK155.out 1).trans rfl
                have hcz25_2 : wc.cell? ⟨gb155, 2, none⟩ = some (.int .i64 a0_2) := (blk_cell BK155.out 2).trans rfl
                have hcz25_3 : wc.cell? ⟨gb155, 3, none⟩ = some (.int .i64 a0_3) := (blk_cell BK155.out 3).trans rfl
                have hcz25_4 : wc.cell? ⟨gb155, 4, none⟩ = some (.bool a0_4) := (blk_cell BK155.out 4).trans rfl
                have hcz25_5 : wc.cell? ⟨gb155, 5, none⟩ = some (.bool a0_5) := (blk_cell BK155.out 5).trans rfl
                have hfz25_0 := blk_frozen BK155.out 0
                have hfz25_1 := blk_frozen BK155.out 1
                have hfz25_2 := blk_frozen BK155.out 2
                have hfz25_3 := blk_frozen BK155.out 3
                have hfz25_4 := blk_frozen BK155.out 4
                have hfz25_5 := blk_frozen BK155.out 5
                go_wp2_with (first | (go_at_call 50; (with_reducible refine (paviorref05_power.calls a0_2 t158 _ A23.out).mono ?_); rintro e w' ⟨rfl, ⟨nd, rfl⟩⟩; (try first | exact ⟨rfl, _, World.drewN_drewN _ _ _⟩ | exact ⟨rfl, _, Eq.trans (World.drewN_drewN _ _ _) (congrArg (World.drewN _) (Nat.add_assoc _ _ _))⟩)))
                repeat (go_quiet (first | (go_at_call 50; (with_reducible refine (paviorref05_power.calls a0_2 t158 _ A23.out).mono ?_); rintro e w' ⟨rfl, ⟨nd, rfl⟩⟩; (try first | exact ⟨rfl, _, World.drewN_drewN _ _ _⟩ | exact ⟨rfl, _, Eq.trans (World.drewN_drewN _ _ _) (congrArg (World.drewN _) (Nat.add_assoc _ _ _))⟩))); try go_wp2_with (first | (go_at_call 50; (with_reducible refine (paviorref05_power.calls a0_2 t158 _ A23.out).mono ?_); rintro e w' ⟨rfl, ⟨nd, rfl⟩⟩; (try first | exact ⟨rfl, _, World.drewN_drewN _ _ _⟩ | exact ⟨rfl, _, Eq.trans (World.drewN_drewN _ _ _) (congrArg (World.drewN _) (Nat.add_assoc _ _ _))⟩))))
                go_ret
                exact ⟨by first | rfl | (simp [errW_none, errW_some] <;> rfl) | (simp [*, errW_none, errW_some] <;> rfl), by repeat (first | (with_reducible first | exact HB.out | apply below_alloc | apply pw_below_drewN | apply below_drew1 | refine below_set ?_ GE155.out) | exact HB.out)⟩
            · rw [if_neg c22] at H
              have c22b0 : (a0_2 == 3) = false := beq_eq_false_iff_ne.mpr c22
              have c22b1 : (a0_2 != 3) = true := bne_iff_ne.mpr c22
              obtain rfl := Option.some.inj H
              have hcz26_0 : wc.cell? ⟨gb155, 0, none⟩ = some (.int .i64 a0_0) := (blk_cell BK155.out 0).trans rfl
              have hcz26_1 : wc.cell? ⟨gb155, 1, none⟩ = some (.int .i64 a0_1) := (blk_cell BK155.out 1).trans rfl
              have hcz26_2 : wc.cell? ⟨gb155, 2, none⟩ = some (.int .i64 a0_2) := (blk_cell BK155.out 2).trans rfl
              have hcz26_3 : wc.cell? ⟨gb155, 3, none⟩ = some (.int .i64 a0_3) := (blk_cell BK155.out 3).trans rfl
              have hcz26_4 : wc.cell? ⟨gb155, 4, none⟩ = some (.bool a0_4) := (blk_cell BK155.out 4).trans rfl
              have hcz26_5 : wc.cell? ⟨gb155, 5, none⟩ = some (.bool a0_5) := (blk_cell BK155.out 5).trans rfl
              have hfz26_0 := blk_frozen BK155.out 0
              have hfz26_1 := blk_frozen BK155.out 1
              have hfz26_2 := blk_frozen BK155.out 2
              have hfz26_3 := blk_frozen BK155.out 3
              have hfz26_4 := blk_frozen BK155.out 4
              have hfz26_5 := blk_frozen BK155.out 5
              go_wp2
              repeat (go_quiet (fail); try go_wp2)
              go_ret
              exact ⟨by first | rfl | (simp [errW_none, errW_some] <;> rfl) | (simp [*, errW_none, errW_some] <;> rfl), by repeat (first | (with_reducible first | exact HB.out | apply below_alloc | apply pw_below_drewN | apply below_drew1 | refine below_set ?_ GE155.out) | exact HB.out)⟩

end Go.Proofs.Ytlmjjkggoemabaa.Qt
