-- Written by this session's program wip/tools/xprint.py (the kit's printer, turned by it); not the kit's own print.
import Derived.Test.YtobbcfpkmmafnaaDoorQx0
import Derived.Test.YtobbcfpkmmafnaaDoorQx2
import Derived.Test.YtobbcfpkmmafnaaDoorQx3
namespace Go.Proofs.YtobbcfpkmmafnaaDoor.Q
open Go.RowKit Go.Proofs.YtobbcfpkmmafnaaDoorW.PrintWords Go.Proofs.YtobbcfpkmmafnaaDoorW.PrintLast Go.Proofs.YtobbcfpkmmafnaaDoorW.PrintMore
attribute [local go_sem] max2_int min2_int max_two min_two max_three min_three max_four min_four   -- for this text's walks alone
set_option linter.unusedVariables false
set_option linter.unusedSimpArgs false

attribute [local go_sem high] eqErr_some neErr_some eqErr_left neErr_left
/-! ### paviorlaw01_WordLies: function 6 -/
mutual
def paviorlaw01_WordLies.l0 : Nat → Int → Bool → List (S39) → Int → Int → Option (Bool)
  | 0, _, _, _, _, _ => none
  | k + 1, x1, x5, x6, x8, x9 => if x9 < (x6.length : Int) then (if 0 ≤ x9 then (if ((rd_T39 x6 x9).f0) = x8 then (if ((rd_T39 x6 x9).f1) < 0 then (paviorlaw01_WordLies.j1 k x1 x5 x6 x8 x9 true) else (paviorlaw01_WordLies.j1 k x1 x5 x6 x8 x9 (decide (((rd_T39 x6 x9).f1) > 20)))) else (paviorlaw01_WordLies.j1 k x1 x5 x6 x8 x9 true)) else (none)) else (if x5 = true then (some (x8 == x1)) else (some false))
def paviorlaw01_WordLies.j1 : Nat → Int → Bool → List (S39) → Int → Int → Bool → Option (Bool)
  | 0, _, _, _, _, _, _ => none
  | k + 1, x1, x5, x6, x8, x9, x50 => if x50 = true then (some false) else (if 0 ≤ x9 then (if x9 < (x6.length : Int) then ((paviorref01_Power.f k ((rd_T39 x6 x9).f1)).bind fun t187 => (if t187 = 0 then (none) else (if (Int.tmod x8 t187) = 0 then (if x9 > 0 then (if 0 ≤ (wrap64 (x9 - 1)) then (if (wrap64 (x9 - 1)) < (x6.length : Int) then (if ((rd_T39 x6 (wrap64 (x9 - 1))).f1) = ((rd_T39 x6 x9).f1) then (if (wrap64 (2 * t187)) = 0 then (none) else (if (Int.tmod ((rd_T39 x6 (wrap64 (x9 - 1))).f0) (wrap64 (2 * t187))) = 0 then (paviorlaw01_WordLies.j2 k x1 x5 x6 x8 x9 t187 (decide (((rd_T39 x6 x9).f1) < 20))) else (paviorlaw01_WordLies.j2 k x1 x5 x6 x8 x9 t187 false))) else (paviorlaw01_WordLies.j2 k x1 x5 x6 x8 x9 t187 false)) else (none)) else (none)) else (paviorlaw01_WordLies.j2 k x1 x5 x6 x8 x9 t187 false)) else (some false)))) else (none)) else (none))
def paviorlaw01_WordLies.j2 : Nat → Int → Bool → List (S39) → Int → Int → Int → Bool → Option (Bool)
  | 0, _, _, _, _, _, _, _ => none
  | k + 1, x1, x5, x6, x8, x9, x10, x96 => if x96 = true then (some false) else (paviorlaw01_WordLies.l0 k x1 x5 x6 (wrap64 (x8 + x10)) (wrap64 (x9 + 1)))
end
def paviorlaw01_WordLies.f (k : Nat) (a0 : Int) (a1 : Int) : Option (Bool) := (paviorlaw01_up.f k).bind fun t177 => ((word_Cut.f k a0 a1).bind fun bt178 => (if bt178.2.isNone = true then (paviorlaw01_WordLies.l0 k a1 t177 bt178.1 a0 0) else (some t177)))
theorem paviorlaw01_WordLies.mono_l : ∀ k, (∀ y0 y1 y2 y3 y4, LeO (paviorlaw01_WordLies.l0 k y0 y1 y2 y3 y4) (paviorlaw01_WordLies.l0 (k + 1) y0 y1 y2 y3 y4)) ∧ (∀ y0 y1 y2 y3 y4 y5, LeO (paviorlaw01_WordLies.j1 k y0 y1 y2 y3 y4 y5) (paviorlaw01_WordLies.j1 (k + 1) y0 y1 y2 y3 y4 y5)) ∧ (∀ y0 y1 y2 y3 y4 y5 y6, LeO (paviorlaw01_WordLies.j2 k y0 y1 y2 y3 y4 y5 y6) (paviorlaw01_WordLies.j2 (k + 1) y0 y1 y2 y3 y4 y5 y6))
  | 0 => ⟨fun _ _ _ _ _ r h => by simp [paviorlaw01_WordLies.l0] at h, fun _ _ _ _ _ _ r h => by simp [paviorlaw01_WordLies.j1] at h, fun _ _ _ _ _ _ _ r h => by simp [paviorlaw01_WordLies.j2] at h⟩
  | k + 1 => by
    obtain ⟨ih0, ih1, ih2⟩ := paviorlaw01_WordLies.mono_l k
    refine ⟨?_, ?_, ?_⟩
    · intro y0 y1 y2 y3 y4
      unfold paviorlaw01_WordLies.l0
      repeat' first
      | (with_reducible exact ih0 _ _ _ _ _)
      | (with_reducible exact ih1 _ _ _ _ _ _)
      | (with_reducible exact ih2 _ _ _ _ _ _ _)
      | (with_reducible exact paviorlaw01_up.mono _)
      | (with_reducible exact paviorref01_Power.mono _ _)
      | (with_reducible exact word_Cut.mono _ _ _)
      | (with_reducible exact LeO.refl _)
      | (with_reducible exact LeO.none _)
      | (with_reducible refine LeO.ite ?_ ?_)
      | (with_reducible refine LeO.bind ?_ (fun _ => ?_))
      | exact ih0 _ _ _ _ _
      | exact ih1 _ _ _ _ _ _
      | exact ih2 _ _ _ _ _ _ _
      | exact paviorlaw01_up.mono _
      | exact paviorref01_Power.mono _ _
      | exact word_Cut.mono _ _ _
      | exact LeO.none _
      | refine LeO.ite ?_ ?_
      | refine LeO.bind ?_ (fun _ => ?_)
    · intro y0 y1 y2 y3 y4 y5
      unfold paviorlaw01_WordLies.j1
      repeat' first
      | (with_reducible exact ih0 _ _ _ _ _)
      | (with_reducible exact ih1 _ _ _ _ _ _)
      | (with_reducible exact ih2 _ _ _ _ _ _ _)
      | (with_reducible exact paviorlaw01_up.mono _)
      | (with_reducible exact paviorref01_Power.mono _ _)
      | (with_reducible exact word_Cut.mono _ _ _)
      | (with_reducible exact LeO.refl _)
      | (with_reducible exact LeO.none _)
      | (with_reducible refine LeO.ite ?_ ?_)
      | (with_reducible refine LeO.bind ?_ (fun _ => ?_))
      | exact ih0 _ _ _ _ _
      | exact ih1 _ _ _ _ _ _
      | exact ih2 _ _ _ _ _ _ _
      | exact paviorlaw01_up.mono _
      | exact paviorref01_Power.mono _ _
      | exact word_Cut.mono _ _ _
      | exact LeO.none _
      | refine LeO.ite ?_ ?_
      | refine LeO.bind ?_ (fun _ => ?_)
    · intro y0 y1 y2 y3 y4 y5 y6
      unfold paviorlaw01_WordLies.j2
      repeat' first
      | (with_reducible exact ih0 _ _ _ _ _)
      | (with_reducible exact ih1 _ _ _ _ _ _)
      | (with_reducible exact ih2 _ _ _ _ _ _ _)
      | (with_reducible exact paviorlaw01_up.mono _)
      | (with_reducible exact paviorref01_Power.mono _ _)
      | (with_reducible exact word_Cut.mono _ _ _)
      | (with_reducible exact LeO.refl _)
      | (with_reducible exact LeO.none _)
      | (with_reducible refine LeO.ite ?_ ?_)
      | (with_reducible refine LeO.bind ?_ (fun _ => ?_))
      | exact ih0 _ _ _ _ _
      | exact ih1 _ _ _ _ _ _
      | exact ih2 _ _ _ _ _ _ _
      | exact paviorlaw01_up.mono _
      | exact paviorref01_Power.mono _ _
      | exact word_Cut.mono _ _ _
      | exact LeO.none _
      | refine LeO.ite ?_ ?_
      | refine LeO.bind ?_ (fun _ => ?_)
theorem paviorlaw01_WordLies.mono : ∀ a0 a1 k, LeO (paviorlaw01_WordLies.f k a0 a1) (paviorlaw01_WordLies.f (k + 1) a0 a1) := by
  intro a0 a1 k
  obtain ⟨ih0, ih1, ih2⟩ := paviorlaw01_WordLies.mono_l k
  unfold paviorlaw01_WordLies.f
  repeat' first
      | (with_reducible exact ih0 _ _ _ _ _)
      | (with_reducible exact ih1 _ _ _ _ _ _)
      | (with_reducible exact ih2 _ _ _ _ _ _ _)
      | (with_reducible exact paviorlaw01_up.mono _)
      | (with_reducible exact paviorref01_Power.mono _ _)
      | (with_reducible exact word_Cut.mono _ _ _)
      | (with_reducible exact LeO.refl _)
      | (with_reducible exact LeO.none _)
      | (with_reducible refine LeO.ite ?_ ?_)
      | (with_reducible refine LeO.bind ?_ (fun _ => ?_))
      | exact ih0 _ _ _ _ _
      | exact ih1 _ _ _ _ _ _
      | exact ih2 _ _ _ _ _ _ _
      | exact paviorlaw01_up.mono _
      | exact paviorref01_Power.mono _ _
      | exact word_Cut.mono _ _ _
      | exact LeO.none _
      | refine LeO.ite ?_ ?_
      | refine LeO.bind ?_ (fun _ => ?_)
set_option maxHeartbeats 8000000 in
set_option maxRecDepth 100000 in
theorem paviorlaw01_WordLies.calls (k : Nat) (a0 : Int) (a1 : Int) (r : Bool) (w : World) (hT : Tab w) (h : paviorlaw01_WordLies.f k a0 a1 = some r) :
    Calls Tryd.prog 6 #[.int .i64 a0, .int .i64 a1] w fun e w' => e = .returned (.bool r) ∧ Below w.heap.size w w' := by
  have hu25 := Tryd.underlying25
  have hu30 := Tryd.underlying30
  have HB := Aside0.mk (Below.refl w.heap.size w)
  have hTB := Aside0.mk hT
  clear hT
  have H : ((paviorlaw01_up.f k).bind fun t177 => ((word_Cut.f k a0 a1).bind fun bt178 => (if bt178.2.isNone = true then (paviorlaw01_WordLies.l0 k a1 t177 bt178.1 a0 0) else (some t177)))) = some r := h
  clear h
  replace H := Option.bind_eq_some_iff.mp H
  obtain ⟨t177, A30, H⟩ := H
  replace H : ((word_Cut.f k a0 a1).bind fun bt178 => (if bt178.2.isNone = true then (paviorlaw01_WordLies.l0 k a1 t177 bt178.1 a0 0) else (some t177))) = some r := H
  have A3 := Aside0.mk A30
  clear A30
  replace H := Option.bind_eq_some_iff.mp H
  obtain ⟨⟨t178, t179⟩, A40, H⟩ := H
  replace H : (if t179.isNone = true then (paviorlaw01_WordLies.l0 k a1 t177 t178 a0 0) else (some t177)) = some r := H
  have A4 := Aside0.mk A40
  clear A40
  rcases t179 with _ | q182
  · have H1 : (paviorlaw01_WordLies.l0 k a1 t177 t178 a0 0) = some r := by rw [if_pos (show (none : Option Int).isNone = true by rfl)] at H; exact H
    clear H
    have H := H1
    clear H1
    try simp only [errW_none, errW_some]
    have H' := Aside0.mk H
    clear H
    go_enter Tryd.func6, Tryd.ntmps6
    go_wp2_with (first | (go_at_call 11; (with_reducible refine (paviorlaw01_up.calls k  t177 _ ?side1 A3.out).mono ?_); (case side1 => exact tab_below hTB.out (by repeat (first | (with_reducible first | exact HB.out | apply below_alloc | apply pw_below_drewN | apply below_drew1) | exact HB.out))); rintro e w5 ⟨rfl, hb⟩; have n0_ := Aside0.mk (below_step (by repeat (first | (with_reducible first | exact HB.out | apply below_alloc | apply pw_below_drewN | apply below_drew1) | exact HB.out)) hb); clear HB; have HB := n0_; clear n0_; (try clear hb); (try clear hb2); (try clear hk); (try clear hi)) | (go_at_call 18; (with_reducible refine (word_Cut.calls k a0 a1 t178 none _ ?side1 A4.out).mono ?_); (case side1 => exact tab_below hTB.out (by repeat (first | (with_reducible first | exact HB.out | apply below_alloc | apply pw_below_drewN | apply below_drew1) | exact HB.out))); rintro e w6 ⟨v180, rfl, ho0, hb⟩; have n0_ := Aside0.mk (Kd.R_lower ho0 (below_size (by repeat (first | (with_reducible first | exact HB.out | apply below_alloc | apply pw_below_drewN | apply below_drew1) | exact HB.out)))); have n1_ := Aside0.mk (below_step (by repeat (first | (with_reducible first | exact HB.out | apply below_alloc | apply pw_below_drewN | apply below_drew1) | exact HB.out)) hb); clear HB; have HO181 := n0_; have HB := n1_; clear n0_ n1_; (try clear hb); (try clear hb2); (try clear hk); (try clear hi); (try clear ho0); (try simp only [errW_none, errW_some])))
    repeat (go_quiet (first | (go_at_call 11; (with_reducible refine (paviorlaw01_up.calls k  t177 _ ?side1 A3.out).mono ?_); (case side1 => exact tab_below hTB.out (by repeat (first | (with_reducible first | exact HB.out | apply below_alloc | apply pw_below_drewN | apply below_drew1) | exact HB.out))); rintro e w5 ⟨rfl, hb⟩; have n0_ := Aside0.mk (below_step (by repeat (first | (with_reducible first | exact HB.out | apply below_alloc | apply pw_below_drewN | apply below_drew1) | exact HB.out)) hb); clear HB; have HB := n0_; clear n0_; (try clear hb); (try clear hb2); (try clear hk); (try clear hi)) | (go_at_call 18; (with_reducible refine (word_Cut.calls k a0 a1 t178 none _ ?side1 A4.out).mono ?_); (case side1 => exact tab_below hTB.out (by repeat (first | (with_reducible first | exact HB.out | apply below_alloc | apply pw_below_drewN | apply below_drew1) | exact HB.out))); rintro e w6 ⟨v180, rfl, ho0, hb⟩; have n0_ := Aside0.mk (Kd.R_lower ho0 (below_size (by repeat (first | (with_reducible first | exact HB.out | apply below_alloc | apply pw_below_drewN | apply below_drew1) | exact HB.out)))); have n1_ := Aside0.mk (below_step (by repeat (first | (with_reducible first | exact HB.out | apply below_alloc | apply pw_below_drewN | apply below_drew1) | exact HB.out)) hb); clear HB; have HO181 := n0_; have HB := n1_; clear n0_ n1_; (try clear hb); (try clear hb2); (try clear hk); (try clear hi); (try clear ho0); (try simp only [errW_none, errW_some]))); try go_wp2_with (first | (go_at_call 11; (with_reducible refine (paviorlaw01_up.calls k  t177 _ ?side1 A3.out).mono ?_); (case side1 => exact tab_below hTB.out (by repeat (first | (with_reducible first | exact HB.out | apply below_alloc | apply pw_below_drewN | apply below_drew1) | exact HB.out))); rintro e w5 ⟨rfl, hb⟩; have n0_ := Aside0.mk (below_step (by repeat (first | (with_reducible first | exact HB.out | apply below_alloc | apply pw_below_drewN | apply below_drew1) | exact HB.out)) hb); clear HB; have HB := n0_; clear n0_; (try clear hb); (try clear hb2); (try clear hk); (try clear hi)) | (go_at_call 18; (with_reducible refine (word_Cut.calls k a0 a1 t178 none _ ?side1 A4.out).mono ?_); (case side1 => exact tab_below hTB.out (by repeat (first | (with_reducible first | exact HB.out | apply below_alloc | apply pw_below_drewN | apply below_drew1) | exact HB.out))); rintro e w6 ⟨v180, rfl, ho0, hb⟩; have n0_ := Aside0.mk (Kd.R_lower ho0 (below_size (by repeat (first | (with_reducible first | exact HB.out | apply below_alloc | apply pw_below_drewN | apply below_drew1) | exact HB.out)))); have n1_ := Aside0.mk (below_step (by repeat (first | (with_reducible first | exact HB.out | apply below_alloc | apply pw_below_drewN | apply below_drew1) | exact HB.out)) hb); clear HB; have HO181 := n0_; have HB := n1_; clear n0_ n1_; (try clear hb); (try clear hb2); (try clear hk); (try clear hi); (try clear ho0); (try simp only [errW_none, errW_some]))))
    go_loopg [8, 9] k (fun kq v8 v9 w' => ∃ (x8_1 : Int) (x9_1 : Int), v8 = .int .i64 x8_1 ∧ v9 = .int .i64 x9_1 ∧ Aside0 (paviorlaw01_WordLies.l0 kq a1 t177 t178 x8_1 x9_1 = some r) ∧ Aside0 (kq ≤ k) ∧ Aside0 (Kd.R k39 39 w' w.heap.size (fun _ => True) v180 t178) ∧ Aside0 (Below w.heap.size w w'))
    case atStart => exact ⟨(a0), (0), (by first | rfl | (simp; done) | (simp [*]; done)), (by first | rfl | (simp; done) | (simp [*]; done)), H', ⟨Nat.le_refl _⟩, ⟨by (with_reducible repeat (first | apply Kd.R_alloc | apply Kd.R_drewN | apply Kd.R_drew)); exact HO181.out⟩, ⟨by repeat (first | (with_reducible first | exact HB.out | apply below_alloc | apply pw_below_drewN | apply below_drew1) | exact HB.out)⟩⟩
    case round =>
      clear H'
      try clear q1
      try clear p2
      try clear c6
      try clear q182
      obtain ⟨x8_1, x9_1, rfl, rfl, HA, HK1, HO_6, HB⟩ := hrel
      cases gk with
      | zero => exact absurd HA.out (by simp [paviorlaw01_WordLies.l0])
      | succ k1 =>
        have H := HA.out
        clear HA
        simp only [paviorlaw01_WordLies.l0] at H
        by_cases c7 : x9_1 < (t178.length : Int)
        · rw [if_pos c7] at H
          have c7b0 : decide (x9_1 < (t178.length : Int)) = true := decide_eq_true c7
          clear c7
          have HC8 := Aside0.mk H
          clear H
          obtain ⟨Ao9, co9, eo9⟩ := Kd.R_slice HO_6.out
          subst eo9
          go_upto_region 9 with (fail)
          repeat (go_quiet (fail); go_upto_region 9 with (fail))
          go_cut [50] (fun v50 wc => ∃ (kq : Nat) (x50_7 : Bool), v50 = .bool x50_7 ∧ Aside0 (paviorlaw01_WordLies.j1 kq a1 t177 t178 x8_1 x9_1 x50_7 = some r) ∧ Aside0 (kq ≤ k1) ∧ Aside0 (Kd.R k39 39 wc w.heap.size (fun _ => True) (.slice Ao9 t178.length co9) t178) ∧ Aside0 (Below w.heap.size w wc))
          case first =>
            have H := HC8.out
            clear HC8
            by_cases c10 : 0 ≤ x9_1
            · rw [if_pos c10] at H
              have c10b0 : decide (0 ≤ x9_1) = true := decide_eq_true c10
              clear c10
              (first | rw [c10b0] | (simp only [i64_w, i32_w]; rw [c10b0]) | skip)
              by_cases c11 : ((rd_T39 t178 x9_1).f0) = x8_1
              · rw [if_pos c11] at H
                have c11b0 : (((rd_T39 t178 x9_1).f0) == x8_1) = true := beq_iff_eq.mpr c11
                have c11b1 : (((rd_T39 t178 x9_1).f0) != x8_1) = false := bne_eq_false_iff_eq.mpr c11
                clear c11
                by_cases c12 : ((rd_T39 t178 x9_1).f1) < 0
                · rw [if_pos c12] at H
                  have c12b0 : decide (((rd_T39 t178 x9_1).f1) < 0) = true := decide_eq_true c12
                  clear c12
                  have H' := Aside0.mk H
                  clear H
                  have p183 : 0 ≤ (x9_1 : Int) := of_decide_eq_true (by first | (with_reducible assumption) | assumption)
                  have q183 : x9_1 < (t178.length : Int) := of_decide_eq_true (by first | (with_reducible assumption) | assumption)
                  obtain ⟨ad183, e183, hx183_0, hx183_1⟩ := at_T39 (Kd.R_reads' HO_6.out).2.2 x9_1 p183 q183
                  cases e183
                  replace p183 := eq_true p183
                  replace q183 := eq_true q183
                  have p184 : 0 ≤ (x9_1 : Int) := of_decide_eq_true (by first | (with_reducible assumption) | assumption)
                  have q184 : x9_1 < (t178.length : Int) := of_decide_eq_true (by first | (with_reducible assumption) | assumption)
                  obtain ⟨ad184, e184, hx184_0, hx184_1⟩ := at_T39 (Kd.R_reads' HO_6.out).2.2 x9_1 p184 q184
                  obtain rfl : ad183 = ad184 := (by injection e184)
                  replace p184 := eq_true p184
                  replace q184 := eq_true q184
                  go_wp2
                  repeat (go_quiet (fail); try go_wp2)
                  go_meet
                  case rel => exact ⟨_, (true), (by first | rfl | (simp; done) | (simp [*]; done)), H', ⟨by have := HK1.out; first | omega | exact Nat.le_refl _⟩, ⟨by (with_reducible repeat (first | apply Kd.R_alloc | apply Kd.R_drewN | apply Kd.R_drew)); exact HO_6.out⟩, ⟨by repeat (first | (with_reducible first | exact HB.out | apply below_alloc | apply pw_below_drewN | apply below_drew1) | exact HB.out)⟩⟩
                · rw [if_neg c12] at H
                  have c12b0 : decide (((rd_T39 t178 x9_1).f1) < 0) = false := decide_eq_false c12
                  clear c12
                  have H' := Aside0.mk H
                  clear H
                  have p183 : 0 ≤ (x9_1 : Int) := of_decide_eq_true (by first | (with_reducible assumption) | assumption)
                  have q183 : x9_1 < (t178.length : Int) := of_decide_eq_true (by first | (with_reducible assumption) | assumption)
                  obtain ⟨ad183, e183, hx183_0, hx183_1⟩ := at_T39 (Kd.R_reads' HO_6.out).2.2 x9_1 p183 q183
                  cases e183
                  replace p183 := eq_true p183
                  replace q183 := eq_true q183
                  have p184 : 0 ≤ (x9_1 : Int) := of_decide_eq_true (by first | (with_reducible assumption) | assumption)
                  have q184 : x9_1 < (t178.length : Int) := of_decide_eq_true (by first | (with_reducible assumption) | assumption)
                  obtain ⟨ad184, e184, hx184_0, hx184_1⟩ := at_T39 (Kd.R_reads' HO_6.out).2.2 x9_1 p184 q184
                  obtain rfl : ad183 = ad184 := (by injection e184)
                  replace p184 := eq_true p184
                  replace q184 := eq_true q184
                  have p185 : 0 ≤ (x9_1 : Int) := of_decide_eq_true (by first | (with_reducible assumption) | assumption)
                  have q185 : x9_1 < (t178.length : Int) := of_decide_eq_true (by first | (with_reducible assumption) | assumption)
                  obtain ⟨ad185, e185, hx185_0, hx185_1⟩ := at_T39 (Kd.R_reads' HO_6.out).2.2 x9_1 p185 q185
                  obtain rfl : ad183 = ad185 := (by injection e185)
                  replace p185 := eq_true p185
                  replace q185 := eq_true q185
                  go_wp2
                  repeat (go_quiet (fail); try go_wp2)
                  go_meet
                  case rel => exact ⟨_, (decide (((rd_T39 t178 x9_1).f1) > 20)), (by first | rfl | (simp; done) | (simp [*]; done)), H', ⟨by have := HK1.out; first | omega | exact Nat.le_refl _⟩, ⟨by (with_reducible repeat (first | apply Kd.R_alloc | apply Kd.R_drewN | apply Kd.R_drew)); exact HO_6.out⟩, ⟨by repeat (first | (with_reducible first | exact HB.out | apply below_alloc | apply pw_below_drewN | apply below_drew1) | exact HB.out)⟩⟩
              · rw [if_neg c11] at H
                have c11b0 : (((rd_T39 t178 x9_1).f0) == x8_1) = false := beq_eq_false_iff_ne.mpr c11
                have c11b1 : (((rd_T39 t178 x9_1).f0) != x8_1) = true := bne_iff_ne.mpr c11
                have H' := Aside0.mk H
                clear H
                have p183 : 0 ≤ (x9_1 : Int) := of_decide_eq_true (by first | (with_reducible assumption) | assumption)
                have q183 : x9_1 < (t178.length : Int) := of_decide_eq_true (by first | (with_reducible assumption) | assumption)
                obtain ⟨ad183, e183, hx183_0, hx183_1⟩ := at_T39 (Kd.R_reads' HO_6.out).2.2 x9_1 p183 q183
                cases e183
                replace p183 := eq_true p183
                replace q183 := eq_true q183
                go_wp2
                repeat (go_quiet (fail); try go_wp2)
                go_meet
                case rel => exact ⟨_, (true), (by first | rfl | (simp; done) | (simp [*]; done)), H', ⟨by have := HK1.out; first | omega | exact Nat.le_refl _⟩, ⟨by (with_reducible repeat (first | apply Kd.R_alloc | apply Kd.R_drewN | apply Kd.R_drew)); exact HO_6.out⟩, ⟨by repeat (first | (with_reducible first | exact HB.out | apply below_alloc | apply pw_below_drewN | apply below_drew1) | exact HB.out)⟩⟩
            · rw [if_neg c10] at H
              exact absurd H (by simp)
          case rest =>
            clear HC8
            try clear c1
            try clear p1
            try clear q1
            try clear hx1
            try clear p2
            try clear c6
            try clear c7
            try clear c7b0
            try clear c10
            try clear c10b0
            try clear c11
            try clear c11b0
            try clear c11b1
            try clear c12
            try clear c12b0
            try clear hx183_0
            try clear hx183_1
            try clear hx184_0
            try clear hx184_1
            try clear hx185_0
            try clear hx185_1
            try clear p183
            try clear p184
            try clear p185
            try clear p2
            try clear q1
            try clear q182
            try clear q183
            try clear q184
            try clear q185
            obtain ⟨kq, x50_7, rfl, HA, HJ7, HO_6, HB⟩ := hcut
            cases kq with
            | zero => exact absurd HA.out (by simp [paviorlaw01_WordLies.j1])
            | succ kj7 =>
              have H := HA.out
              clear HA
              simp only [paviorlaw01_WordLies.j1] at H
              by_cases c13 : x50_7 = true
              · subst c13
                have H1 : (some false) = some r := by rw [if_pos rfl] at H; exact H
                clear H
                have H := H1
                clear H1
                obtain rfl := Option.some.inj H
                go_wp2
                repeat (go_quiet (fail); try go_wp2)
                go_ret
                exact ⟨by first | rfl | (simp [errW_none, errW_some] <;> rfl) | (simp [*, errW_none, errW_some] <;> rfl), by repeat (first | (with_reducible first | exact HB.out | apply below_alloc | apply pw_below_drewN | apply below_drew1) | exact HB.out)⟩
              · replace c13 := Bool.eq_false_iff.mpr c13
                subst c13
                have H1 : (if 0 ≤ x9_1 then (if x9_1 < (t178.length : Int) then ((paviorref01_Power.f kj7 ((rd_T39 t178 x9_1).f1)).bind fun t187 => (if t187 = 0 then (none) else (if (Int.tmod x8_1 t187) = 0 then (if x9_1 > 0 then (if 0 ≤ (wrap64 (x9_1 - 1)) then (if (wrap64 (x9_1 - 1)) < (t178.length : Int) then (if ((rd_T39 t178 (wrap64 (x9_1 - 1))).f1) = ((rd_T39 t178 x9_1).f1) then (if (wrap64 (2 * t187)) = 0 then (none) else (if (Int.tmod ((rd_T39 t178 (wrap64 (x9_1 - 1))).f0) (wrap64 (2 * t187))) = 0 then (paviorlaw01_WordLies.j2 kj7 a1 t177 t178 x8_1 x9_1 t187 (decide (((rd_T39 t178 x9_1).f1) < 20))) else (paviorlaw01_WordLies.j2 kj7 a1 t177 t178 x8_1 x9_1 t187 false))) else (paviorlaw01_WordLies.j2 kj7 a1 t177 t178 x8_1 x9_1 t187 false)) else (none)) else (none)) else (paviorlaw01_WordLies.j2 kj7 a1 t177 t178 x8_1 x9_1 t187 false)) else (some false)))) else (none)) else (none)) = some r := by rw [if_neg (show ¬ (false = true) by decide)] at H; exact H
                clear H
                have H := H1
                clear H1
                by_cases c14 : 0 ≤ x9_1
                · rw [if_pos c14] at H
                  have c14b0 : decide (0 ≤ x9_1) = true := decide_eq_true c14
                  clear c14
                  by_cases c15 : x9_1 < (t178.length : Int)
                  · rw [if_pos c15] at H
                    have c15b0 : decide (x9_1 < (t178.length : Int)) = true := decide_eq_true c15
                    clear c15
                    replace H := Option.bind_eq_some_iff.mp H
                    obtain ⟨t187, A160, H⟩ := H
                    replace H : (if t187 = 0 then (none) else (if (Int.tmod x8_1 t187) = 0 then (if x9_1 > 0 then (if 0 ≤ (wrap64 (x9_1 - 1)) then (if (wrap64 (x9_1 - 1)) < (t178.length : Int) then (if ((rd_T39 t178 (wrap64 (x9_1 - 1))).f1) = ((rd_T39 t178 x9_1).f1) then (if (wrap64 (2 * t187)) = 0 then (none) else (if (Int.tmod ((rd_T39 t178 (wrap64 (x9_1 - 1))).f0) (wrap64 (2 * t187))) = 0 then (paviorlaw01_WordLies.j2 kj7 a1 t177 t178 x8_1 x9_1 t187 (decide (((rd_T39 t178 x9_1).f1) < 20))) else (paviorlaw01_WordLies.j2 kj7 a1 t177 t178 x8_1 x9_1 t187 false))) else (paviorlaw01_WordLies.j2 kj7 a1 t177 t178 x8_1 x9_1 t187 false)) else (none)) else (none)) else (paviorlaw01_WordLies.j2 kj7 a1 t177 t178 x8_1 x9_1 t187 false)) else (some false))) = some r := H
                    have A16 := Aside0.mk A160
                    clear A160
                    by_cases c17 : t187 = 0
                    · rw [if_pos c17] at H
                      exact absurd H (by simp)
                    · rw [if_neg c17] at H
                      have c17b0 : (t187 == 0) = false := beq_eq_false_iff_ne.mpr c17
                      have c17b1 : (t187 != 0) = true := bne_iff_ne.mpr c17
                      by_cases c18 : (Int.tmod x8_1 t187) = 0
                      · rw [if_pos c18] at H
                        have c18b0 : ((Int.tmod x8_1 t187) == 0) = true := beq_iff_eq.mpr c18
                        have c18b1 : ((Int.tmod x8_1 t187) != 0) = false := bne_eq_false_iff_eq.mpr c18
                        clear c18
                        have HC19 := Aside0.mk H
                        clear H
                        have p186 : 0 ≤ (x9_1 : Int) := of_decide_eq_true (by first | (with_reducible assumption) | assumption)
                        have q186 : x9_1 < (t178.length : Int) := of_decide_eq_true (by first | (with_reducible assumption) | assumption)
                        obtain ⟨ad186, e186, hx186_0, hx186_1⟩ := at_T39 (Kd.R_reads' HO_6.out).2.2 x9_1 p186 q186
                        cases e186
                        replace p186 := eq_true p186
                        replace q186 := eq_true q186
                        go_upto_region 14 with (first | (go_at_call 20; (with_reducible refine (paviorref01_Power.calls kj7 ((rd_T39 t178 x9_1).f1) t187 _ A16.out).mono ?_); rintro e w' ⟨rfl, ⟨nd, rfl⟩⟩; (try first | exact ⟨rfl, _, World.drewN_drewN _ _ _⟩ | exact ⟨rfl, _, Eq.trans (World.drewN_drewN _ _ _) (congrArg (World.drewN _) (Nat.add_assoc _ _ _))⟩)))
                        repeat (go_quiet (first | (go_at_call 20; (with_reducible refine (paviorref01_Power.calls kj7 ((rd_T39 t178 x9_1).f1) t187 _ A16.out).mono ?_); rintro e w' ⟨rfl, ⟨nd, rfl⟩⟩; (try first | exact ⟨rfl, _, World.drewN_drewN _ _ _⟩ | exact ⟨rfl, _, Eq.trans (World.drewN_drewN _ _ _) (congrArg (World.drewN _) (Nat.add_assoc _ _ _))⟩))); go_upto_region 14 with (first | (go_at_call 20; (with_reducible refine (paviorref01_Power.calls kj7 ((rd_T39 t178 x9_1).f1) t187 _ A16.out).mono ?_); rintro e w' ⟨rfl, ⟨nd, rfl⟩⟩; (try first | exact ⟨rfl, _, World.drewN_drewN _ _ _⟩ | exact ⟨rfl, _, Eq.trans (World.drewN_drewN _ _ _) (congrArg (World.drewN _) (Nat.add_assoc _ _ _))⟩))))
                        (try simp only [Act.put, List.setIfInBounds_toArray, List.set_cons_zero, List.set_cons_succ])
                        go_cut [96] (fun v96 wc => ∃ (kq : Nat) (x96_18 : Bool), v96 = .bool x96_18 ∧ Aside0 (paviorlaw01_WordLies.j2 kq a1 t177 t178 x8_1 x9_1 t187 x96_18 = some r) ∧ Aside0 (kq ≤ kj7) ∧ Aside0 (Kd.R k39 39 wc w.heap.size (fun _ => True) (.slice (some ad186) t178.length co9) t178) ∧ Aside0 (Below w.heap.size w wc))
                        case first =>
                          have H := HC19.out
                          clear HC19
                          by_cases c20 : x9_1 > 0
                          · rw [if_pos c20] at H
                            have c20b0 : decide (0 < x9_1) = true := decide_eq_true c20
                            clear c20
                            (first | rw [c20b0] | (simp only [i64_w, i32_w]; rw [c20b0]) | skip)
                            obtain ⟨ji21, hji21⟩ : ∃ j_ : Int, (wrap64 (x9_1 - 1)) = j_ := ⟨_, rfl⟩
                            replace H : (if 0 ≤ (ji21) then (if (ji21) < (t178.length : Int) then (if ((rd_T39 t178 (ji21)).f1) = ((rd_T39 t178 x9_1).f1) then (if (wrap64 (2 * t187)) = 0 then (none) else (if (Int.tmod ((rd_T39 t178 (ji21)).f0) (wrap64 (2 * t187))) = 0 then (paviorlaw01_WordLies.j2 kj7 a1 t177 t178 x8_1 x9_1 t187 (decide (((rd_T39 t178 x9_1).f1) < 20))) else (paviorlaw01_WordLies.j2 kj7 a1 t177 t178 x8_1 x9_1 t187 false))) else (paviorlaw01_WordLies.j2 kj7 a1 t177 t178 x8_1 x9_1 t187 false)) else (none)) else (none)) = some r := by first | (rw [hji21] at H; exact H) | (simp only [hji21] at H ⊢; exact H)
                            have hji21w : (IntKind.i64.wrap (x9_1 - 1)) = ji21 := (i64_w _).trans hji21
                            by_cases c22 : 0 ≤ (ji21)
                            · rw [if_pos c22] at H
                              have c22b0 : decide (0 ≤ (ji21)) = true := decide_eq_true c22
                              clear c22
                              by_cases c23 : (ji21) < (t178.length : Int)
                              · rw [if_pos c23] at H
                                have c23b0 : decide ((ji21) < (t178.length : Int)) = true := decide_eq_true c23
                                clear c23
                                by_cases c24 : ((rd_T39 t178 (ji21)).f1) = ((rd_T39 t178 x9_1).f1)
                                · rw [if_pos c24] at H
                                  have c24b0 : (((rd_T39 t178 (ji21)).f1) == ((rd_T39 t178 x9_1).f1)) = true := beq_iff_eq.mpr c24
                                  have c24b1 : (((rd_T39 t178 (ji21)).f1) != ((rd_T39 t178 x9_1).f1)) = false := bne_eq_false_iff_eq.mpr c24
                                  clear c24
                                  by_cases c25 : (wrap64 (2 * t187)) = 0
                                  · rw [if_pos c25] at H
                                    exact absurd H (by simp)
                                  · rw [if_neg c25] at H
                                    have c25b0 : ((wrap64 (2 * t187)) == 0) = false := beq_eq_false_iff_ne.mpr c25
                                    have c25b1 : ((wrap64 (2 * t187)) != 0) = true := bne_iff_ne.mpr c25
                                    by_cases c26 : (Int.tmod ((rd_T39 t178 (ji21)).f0) (wrap64 (2 * t187))) = 0
                                    · rw [if_pos c26] at H
                                      have c26b0 : ((Int.tmod ((rd_T39 t178 (ji21)).f0) (wrap64 (2 * t187))) == 0) = true := beq_iff_eq.mpr c26
                                      have c26b1 : ((Int.tmod ((rd_T39 t178 (ji21)).f0) (wrap64 (2 * t187))) != 0) = false := bne_eq_false_iff_eq.mpr c26
                                      clear c26
                                      have H' := Aside0.mk H
                                      clear H
                                      have p188 : 0 ≤ ((ji21) : Int) := of_decide_eq_true (by first | (with_reducible assumption) | assumption)
                                      have q188 : (ji21) < (t178.length : Int) := of_decide_eq_true (by first | (with_reducible assumption) | assumption)
                                      obtain ⟨ad188, e188, hx188_0, hx188_1⟩ := at_T39 (Kd.R_reads' HO_6.out).2.2 (ji21) p188 q188
                                      obtain rfl : ad186 = ad188 := (by injection e188)
                                      replace p188 := eq_true p188
                                      replace q188 := eq_true q188
                                      have p189 : 0 ≤ (x9_1 : Int) := of_decide_eq_true (by first | (with_reducible assumption) | assumption)
                                      have q189 : x9_1 < (t178.length : Int) := of_decide_eq_true (by first | (with_reducible assumption) | assumption)
                                      obtain ⟨ad189, e189, hx189_0, hx189_1⟩ := at_T39 (Kd.R_reads' HO_6.out).2.2 x9_1 p189 q189
                                      obtain rfl : ad186 = ad189 := (by injection e189)
                                      replace p189 := eq_true p189
                                      replace q189 := eq_true q189
                                      have p190 : 0 ≤ ((ji21) : Int) := of_decide_eq_true (by first | (with_reducible assumption) | assumption)
                                      have q190 : (ji21) < (t178.length : Int) := of_decide_eq_true (by first | (with_reducible assumption) | assumption)
                                      obtain ⟨ad190, e190, hx190_0, hx190_1⟩ := at_T39 (Kd.R_reads' HO_6.out).2.2 (ji21) p190 q190
                                      obtain rfl : ad186 = ad190 := (by injection e190)
                                      replace p190 := eq_true p190
                                      replace q190 := eq_true q190
                                      have p191 : 0 ≤ (x9_1 : Int) := of_decide_eq_true (by first | (with_reducible assumption) | assumption)
                                      have q191 : x9_1 < (t178.length : Int) := of_decide_eq_true (by first | (with_reducible assumption) | assumption)
                                      obtain ⟨ad191, e191, hx191_0, hx191_1⟩ := at_T39 (Kd.R_reads' HO_6.out).2.2 x9_1 p191 q191
                                      obtain rfl : ad186 = ad191 := (by injection e191)
                                      replace p191 := eq_true p191
                                      replace q191 := eq_true q191
                                      go_wp2
                                      repeat (go_quiet (fail); try go_wp2)
                                      go_meet
                                      case rel => exact ⟨_, (decide (((rd_T39 t178 x9_1).f1) < 20)), (by first | rfl | (simp; done) | (simp [*]; done)), H', ⟨by have := HK1.out; have := HJ7.out; first | omega | exact Nat.le_refl _⟩, ⟨by (with_reducible repeat (first | apply Kd.R_alloc | apply Kd.R_drewN | apply Kd.R_drew)); exact HO_6.out⟩, ⟨by repeat (first | (with_reducible first | exact HB.out | apply below_alloc | apply pw_below_drewN | apply below_drew1) | exact HB.out)⟩⟩
                                    · rw [if_neg c26] at H
                                      have c26b0 : ((Int.tmod ((rd_T39 t178 (ji21)).f0) (wrap64 (2 * t187))) == 0) = false := beq_eq_false_iff_ne.mpr c26
                                      have c26b1 : ((Int.tmod ((rd_T39 t178 (ji21)).f0) (wrap64 (2 * t187))) != 0) = true := bne_iff_ne.mpr c26
                                      have H' := Aside0.mk H
                                      clear H
                                      have p188 : 0 ≤ ((ji21) : Int) := of_decide_eq_true (by first | (with_reducible assumption) | assumption)
                                      have q188 : (ji21) < (t178.length : Int) := of_decide_eq_true (by first | (with_reducible assumption) | assumption)
                                      obtain ⟨ad188, e188, hx188_0, hx188_1⟩ := at_T39 (Kd.R_reads' HO_6.out).2.2 (ji21) p188 q188
                                      obtain rfl : ad186 = ad188 := (by injection e188)
                                      replace p188 := eq_true p188
                                      replace q188 := eq_true q188
                                      have p189 : 0 ≤ (x9_1 : Int) := of_decide_eq_true (by first | (with_reducible assumption) | assumption)
                                      have q189 : x9_1 < (t178.length : Int) := of_decide_eq_true (by first | (with_reducible assumption) | assumption)
                                      obtain ⟨ad189, e189, hx189_0, hx189_1⟩ := at_T39 (Kd.R_reads' HO_6.out).2.2 x9_1 p189 q189
                                      obtain rfl : ad186 = ad189 := (by injection e189)
                                      replace p189 := eq_true p189
                                      replace q189 := eq_true q189
                                      have p190 : 0 ≤ ((ji21) : Int) := of_decide_eq_true (by first | (with_reducible assumption) | assumption)
                                      have q190 : (ji21) < (t178.length : Int) := of_decide_eq_true (by first | (with_reducible assumption) | assumption)
                                      obtain ⟨ad190, e190, hx190_0, hx190_1⟩ := at_T39 (Kd.R_reads' HO_6.out).2.2 (ji21) p190 q190
                                      obtain rfl : ad186 = ad190 := (by injection e190)
                                      replace p190 := eq_true p190
                                      replace q190 := eq_true q190
                                      go_wp2
                                      repeat (go_quiet (fail); try go_wp2)
                                      go_meet
                                      case rel => exact ⟨_, (false), (by first | rfl | (simp; done) | (simp [*]; done)), H', ⟨by have := HK1.out; have := HJ7.out; first | omega | exact Nat.le_refl _⟩, ⟨by (with_reducible repeat (first | apply Kd.R_alloc | apply Kd.R_drewN | apply Kd.R_drew)); exact HO_6.out⟩, ⟨by repeat (first | (with_reducible first | exact HB.out | apply below_alloc | apply pw_below_drewN | apply below_drew1) | exact HB.out)⟩⟩
                                · rw [if_neg c24] at H
                                  have c24b0 : (((rd_T39 t178 (ji21)).f1) == ((rd_T39 t178 x9_1).f1)) = false := beq_eq_false_iff_ne.mpr c24
                                  have c24b1 : (((rd_T39 t178 (ji21)).f1) != ((rd_T39 t178 x9_1).f1)) = true := bne_iff_ne.mpr c24
                                  have H' := Aside0.mk H
                                  clear H
                                  have p188 : 0 ≤ ((ji21) : Int) := of_decide_eq_true (by first | (with_reducible assumption) | assumption)
                                  have q188 : (ji21) < (t178.length : Int) := of_decide_eq_true (by first | (with_reducible assumption) | assumption)
                                  obtain ⟨ad188, e188, hx188_0, hx188_1⟩ := at_T39 (Kd.R_reads' HO_6.out).2.2 (ji21) p188 q188
                                  obtain rfl : ad186 = ad188 := (by injection e188)
                                  replace p188 := eq_true p188
                                  replace q188 := eq_true q188
                                  have p189 : 0 ≤ (x9_1 : Int) := of_decide_eq_true (by first | (with_reducible assumption) | assumption)
                                  have q189 : x9_1 < (t178.length : Int) := of_decide_eq_true (by first | (with_reducible assumption) | assumption)
                                  obtain ⟨ad189, e189, hx189_0, hx189_1⟩ := at_T39 (Kd.R_reads' HO_6.out).2.2 x9_1 p189 q189
                                  obtain rfl : ad186 = ad189 := (by injection e189)
                                  replace p189 := eq_true p189
                                  replace q189 := eq_true q189
                                  go_wp2
                                  repeat (go_quiet (fail); try go_wp2)
                                  go_meet
                                  case rel => exact ⟨_, (false), (by first | rfl | (simp; done) | (simp [*]; done)), H', ⟨by have := HK1.out; have := HJ7.out; first | omega | exact Nat.le_refl _⟩, ⟨by (with_reducible repeat (first | apply Kd.R_alloc | apply Kd.R_drewN | apply Kd.R_drew)); exact HO_6.out⟩, ⟨by repeat (first | (with_reducible first | exact HB.out | apply below_alloc | apply pw_below_drewN | apply below_drew1) | exact HB.out)⟩⟩
                              · rw [if_neg c23] at H
                                exact absurd H (by simp)
                            · rw [if_neg c22] at H
                              exact absurd H (by simp)
                          · rw [if_neg c20] at H
                            have c20b0 : decide (0 < x9_1) = false := decide_eq_false c20
                            clear c20
                            (first | rw [c20b0] | (simp only [i64_w, i32_w]; rw [c20b0]) | skip)
                            have H' := Aside0.mk H
                            clear H
                            go_wp2
                            repeat (go_quiet (fail); try go_wp2)
                            go_meet
                            case rel => exact ⟨_, (false), (by first | rfl | (simp; done) | (simp [*]; done)), H', ⟨by have := HK1.out; have := HJ7.out; first | omega | exact Nat.le_refl _⟩, ⟨by (with_reducible repeat (first | apply Kd.R_alloc | apply Kd.R_drewN | apply Kd.R_drew)); exact HO_6.out⟩, ⟨by repeat (first | (with_reducible first | exact HB.out | apply below_alloc | apply pw_below_drewN | apply below_drew1) | exact HB.out)⟩⟩
                        case rest =>
                          clear HC19
                          try clear c1
                          try clear p1
                          try clear q1
                          try clear hx1
                          try clear c2
                          try clear p2
                          try clear c6
                          try clear p6
                          try clear c7
                          try clear c7b0
                          try clear c10
                          try clear c10b0
                          try clear c11
                          try clear c11b0
                          try clear c11b1
                          try clear c12
                          try clear c12b0
                          try clear c13
                          try clear c14
                          try clear c14b0
                          try clear c15
                          try clear c15b0
                          try clear c17
                          try clear c17b0
                          try clear c17b1
                          try clear c18
                          try clear c18b0
                          try clear c18b1
                          try clear p18
                          try clear q18
                          try clear hx18
                          try clear p19
                          try clear q19
                          try clear hx19
                          try clear c20
                          try clear c20b0
                          try clear c22
                          try clear c22b0
                          try clear c23
                          try clear c23b0
                          try clear c24
                          try clear c24b0
                          try clear c24b1
                          try clear c25
                          try clear c25b0
                          try clear c25b1
                          try clear c26
                          try clear c26b0
                          try clear c26b1
                          try clear hx183_0
                          try clear hx183_1
                          try clear hx184_0
                          try clear hx184_1
                          try clear hx185_0
                          try clear hx185_1
                          try clear hx186_0
                          try clear hx186_1
                          try clear hx188_0
                          try clear hx188_1
                          try clear hx189_0
                          try clear hx189_1
                          try clear hx190_0
                          try clear hx190_1
                          try clear hx191_0
                          try clear hx191_1
                          try clear p1
                          try clear p183
                          try clear p184
                          try clear p185
                          try clear p186
                          try clear p188
                          try clear p189
                          try clear p190
                          try clear p191
                          try clear p2
                          try clear q1
                          try clear q182
                          try clear q183
                          try clear q184
                          try clear q185
                          try clear q186
                          try clear q188
                          try clear q189
                          try clear q190
                          try clear q191
                          obtain ⟨kq, x96_18, rfl, HA, HJ18, HO_6, HB⟩ := hcut
                          cases kq with
                          | zero => exact absurd HA.out (by simp [paviorlaw01_WordLies.j2])
                          | succ kj18 =>
                            have H := HA.out
                            clear HA
                            simp only [paviorlaw01_WordLies.j2] at H
                            by_cases c27 : x96_18 = true
                            · subst c27
                              have H1 : (some false) = some r := by rw [if_pos rfl] at H; exact H
                              clear H
                              have H := H1
                              clear H1
                              obtain rfl := Option.some.inj H
                              go_wp2
                              repeat (go_quiet (fail); try go_wp2)
                              go_ret
                              exact ⟨by first | rfl | (simp [errW_none, errW_some] <;> rfl) | (simp [*, errW_none, errW_some] <;> rfl), by repeat (first | (with_reducible first | exact HB.out | apply below_alloc | apply pw_below_drewN | apply below_drew1) | exact HB.out)⟩
                            · replace c27 := Bool.eq_false_iff.mpr c27
                              subst c27
                              have H1 : (paviorlaw01_WordLies.l0 kj18 a1 t177 t178 (wrap64 (x8_1 + t187)) (wrap64 (x9_1 + 1))) = some r := by rw [if_neg (show ¬ (false = true) by decide)] at H; exact H
                              clear H
                              have H := H1
                              clear H1
                              have H' := Aside0.mk H
                              clear H
                              go_wp2
                              repeat (go_quiet (fail); try go_wp2)
                              go_roundg kj18
                              case measure => have := HK1.out; have := HJ7.out; have := HJ18.out; omega
                              case rel => exact ⟨(wrap64 (x8_1 + t187)), (wrap64 (x9_1 + 1)), (by first | rfl | (simp; done) | (simp [*]; done)), (by first | rfl | (simp; done) | (simp [*]; done)), H', ⟨by have := HK1.out; have := HJ7.out; have := HJ18.out; omega⟩, ⟨by (with_reducible repeat (first | apply Kd.R_alloc | apply Kd.R_drewN | apply Kd.R_drew)); exact HO_6.out⟩, ⟨by repeat (first | (with_reducible first | exact HB.out | apply below_alloc | apply pw_below_drewN | apply below_drew1) | exact HB.out)⟩⟩
                      · rw [if_neg c18] at H
                        have c18b0 : ((Int.tmod x8_1 t187) == 0) = false := beq_eq_false_iff_ne.mpr c18
                        have c18b1 : ((Int.tmod x8_1 t187) != 0) = true := bne_iff_ne.mpr c18
                        obtain rfl := Option.some.inj H
                        have p186 : 0 ≤ (x9_1 : Int) := of_decide_eq_true (by first | (with_reducible assumption) | assumption)
                        have q186 : x9_1 < (t178.length : Int) := of_decide_eq_true (by first | (with_reducible assumption) | assumption)
                        obtain ⟨ad186, e186, hx186_0, hx186_1⟩ := at_T39 (Kd.R_reads' HO_6.out).2.2 x9_1 p186 q186
                        cases e186
                        replace p186 := eq_true p186
                        replace q186 := eq_true q186
                        go_wp2_with (first | (go_at_call 20; (with_reducible refine (paviorref01_Power.calls kj7 ((rd_T39 t178 x9_1).f1) t187 _ A16.out).mono ?_); rintro e w' ⟨rfl, ⟨nd, rfl⟩⟩; (try first | exact ⟨rfl, _, World.drewN_drewN _ _ _⟩ | exact ⟨rfl, _, Eq.trans (World.drewN_drewN _ _ _) (congrArg (World.drewN _) (Nat.add_assoc _ _ _))⟩)))
                        repeat (go_quiet (first | (go_at_call 20; (with_reducible refine (paviorref01_Power.calls kj7 ((rd_T39 t178 x9_1).f1) t187 _ A16.out).mono ?_); rintro e w' ⟨rfl, ⟨nd, rfl⟩⟩; (try first | exact ⟨rfl, _, World.drewN_drewN _ _ _⟩ | exact ⟨rfl, _, Eq.trans (World.drewN_drewN _ _ _) (congrArg (World.drewN _) (Nat.add_assoc _ _ _))⟩))); try go_wp2_with (first | (go_at_call 20; (with_reducible refine (paviorref01_Power.calls kj7 ((rd_T39 t178 x9_1).f1) t187 _ A16.out).mono ?_); rintro e w' ⟨rfl, ⟨nd, rfl⟩⟩; (try first | exact ⟨rfl, _, World.drewN_drewN _ _ _⟩ | exact ⟨rfl, _, Eq.trans (World.drewN_drewN _ _ _) (congrArg (World.drewN _) (Nat.add_assoc _ _ _))⟩))))
                        go_ret
                        exact ⟨by first | rfl | (simp [errW_none, errW_some] <;> rfl) | (simp [*, errW_none, errW_some] <;> rfl), by repeat (first | (with_reducible first | exact HB.out | apply below_alloc | apply pw_below_drewN | apply below_drew1) | exact HB.out)⟩
                  · rw [if_neg c15] at H
                    exact absurd H (by simp)
                · rw [if_neg c14] at H
                  exact absurd H (by simp)
        · rw [if_neg c7] at H
          have c7b0 : decide (x9_1 < (t178.length : Int)) = false := decide_eq_false c7
          clear c7
          by_cases c28 : t177 = true
          · subst c28
            have H1 : (some (x8_1 == a1)) = some r := by rw [if_pos rfl] at H; exact H
            clear H
            have H := H1
            clear H1
            obtain rfl := Option.some.inj H
            obtain ⟨Ao29, co29, eo29⟩ := Kd.R_slice HO_6.out
            subst eo29
            go_wp2
            repeat (go_quiet (fail); try go_wp2)
            go_ret
            exact ⟨by first | rfl | (simp [errW_none, errW_some] <;> rfl) | (simp [*, errW_none, errW_some] <;> rfl), by repeat (first | (with_reducible first | exact HB.out | apply below_alloc | apply pw_below_drewN | apply below_drew1) | exact HB.out)⟩
          · replace c28 := Bool.eq_false_iff.mpr c28
            subst c28
            have H1 : (some false) = some r := by rw [if_neg (show ¬ (false = true) by decide)] at H; exact H
            clear H
            have H := H1
            clear H1
            obtain rfl := Option.some.inj H
            obtain ⟨Ao30, co30, eo30⟩ := Kd.R_slice HO_6.out
            subst eo30
            go_wp2
            repeat (go_quiet (fail); try go_wp2)
            go_ret
            exact ⟨by first | rfl | (simp [errW_none, errW_some] <;> rfl) | (simp [*, errW_none, errW_some] <;> rfl), by repeat (first | (with_reducible first | exact HB.out | apply below_alloc | apply pw_below_drewN | apply below_drew1) | exact HB.out)⟩
  · have H1 : (some t177) = some r := by rw [if_neg (show ¬ (some q182).isNone = true by simp)] at H; exact H
    clear H
    have H := H1
    clear H1
    try simp only [errW_none, errW_some]
    obtain rfl := Option.some.inj H
    go_enter Tryd.func6, Tryd.ntmps6
    go_wp2_with (first | (go_at_call 11; (with_reducible refine (paviorlaw01_up.calls k  t177 _ ?side1 A3.out).mono ?_); (case side1 => exact tab_below hTB.out (by repeat (first | (with_reducible first | exact HB.out | apply below_alloc | apply pw_below_drewN | apply below_drew1) | exact HB.out))); rintro e w31 ⟨rfl, hb⟩; have n0_ := Aside0.mk (below_step (by repeat (first | (with_reducible first | exact HB.out | apply below_alloc | apply pw_below_drewN | apply below_drew1) | exact HB.out)) hb); clear HB; have HB := n0_; clear n0_; (try clear hb); (try clear hb2); (try clear hk); (try clear hi)) | (go_at_call 18; (with_reducible refine (word_Cut.calls k a0 a1 t178 (some q182) _ ?side1 A4.out).mono ?_); (case side1 => exact tab_below hTB.out (by repeat (first | (with_reducible first | exact HB.out | apply below_alloc | apply pw_below_drewN | apply below_drew1) | exact HB.out))); rintro e w32 ⟨v180, rfl, ho0, hb⟩; have n0_ := Aside0.mk (Kd.R_lower ho0 (below_size (by repeat (first | (with_reducible first | exact HB.out | apply below_alloc | apply pw_below_drewN | apply below_drew1) | exact HB.out)))); have n1_ := Aside0.mk (below_step (by repeat (first | (with_reducible first | exact HB.out | apply below_alloc | apply pw_below_drewN | apply below_drew1) | exact HB.out)) hb); clear HB; have HO181 := n0_; have HB := n1_; clear n0_ n1_; (try clear hb); (try clear hb2); (try clear hk); (try clear hi); (try clear ho0); (try simp only [errW_none, errW_some])))
    repeat (go_quiet (first | (go_at_call 11; (with_reducible refine (paviorlaw01_up.calls k  t177 _ ?side1 A3.out).mono ?_); (case side1 => exact tab_below hTB.out (by repeat (first | (with_reducible first | exact HB.out | apply below_alloc | apply pw_below_drewN | apply below_drew1) | exact HB.out))); rintro e w31 ⟨rfl, hb⟩; have n0_ := Aside0.mk (below_step (by repeat (first | (with_reducible first | exact HB.out | apply below_alloc | apply pw_below_drewN | apply below_drew1) | exact HB.out)) hb); clear HB; have HB := n0_; clear n0_; (try clear hb); (try clear hb2); (try clear hk); (try clear hi)) | (go_at_call 18; (with_reducible refine (word_Cut.calls k a0 a1 t178 (some q182) _ ?side1 A4.out).mono ?_); (case side1 => exact tab_below hTB.out (by repeat (first | (with_reducible first | exact HB.out | apply below_alloc | apply pw_below_drewN | apply below_drew1) | exact HB.out))); rintro e w32 ⟨v180, rfl, ho0, hb⟩; have n0_ := Aside0.mk (Kd.R_lower ho0 (below_size (by repeat (first | (with_reducible first | exact HB.out | apply below_alloc | apply pw_below_drewN | apply below_drew1) | exact HB.out)))); have n1_ := Aside0.mk (below_step (by repeat (first | (with_reducible first | exact HB.out | apply below_alloc | apply pw_below_drewN | apply below_drew1) | exact HB.out)) hb); clear HB; have HO181 := n0_; have HB := n1_; clear n0_ n1_; (try clear hb); (try clear hb2); (try clear hk); (try clear hi); (try clear ho0); (try simp only [errW_none, errW_some]))); try go_wp2_with (first | (go_at_call 11; (with_reducible refine (paviorlaw01_up.calls k  t177 _ ?side1 A3.out).mono ?_); (case side1 => exact tab_below hTB.out (by repeat (first | (with_reducible first | exact HB.out | apply below_alloc | apply pw_below_drewN | apply below_drew1) | exact HB.out))); rintro e w31 ⟨rfl, hb⟩; have n0_ := Aside0.mk (below_step (by repeat (first | (with_reducible first | exact HB.out | apply below_alloc | apply pw_below_drewN | apply below_drew1) | exact HB.out)) hb); clear HB; have HB := n0_; clear n0_; (try clear hb); (try clear hb2); (try clear hk); (try clear hi)) | (go_at_call 18; (with_reducible refine (word_Cut.calls k a0 a1 t178 (some q182) _ ?side1 A4.out).mono ?_); (case side1 => exact tab_below hTB.out (by repeat (first | (with_reducible first | exact HB.out | apply below_alloc | apply pw_below_drewN | apply below_drew1) | exact HB.out))); rintro e w32 ⟨v180, rfl, ho0, hb⟩; have n0_ := Aside0.mk (Kd.R_lower ho0 (below_size (by repeat (first | (with_reducible first | exact HB.out | apply below_alloc | apply pw_below_drewN | apply below_drew1) | exact HB.out)))); have n1_ := Aside0.mk (below_step (by repeat (first | (with_reducible first | exact HB.out | apply below_alloc | apply pw_below_drewN | apply below_drew1) | exact HB.out)) hb); clear HB; have HO181 := n0_; have HB := n1_; clear n0_ n1_; (try clear hb); (try clear hb2); (try clear hk); (try clear hi); (try clear ho0); (try simp only [errW_none, errW_some]))))
    go_ret
    exact ⟨by first | rfl | (simp [errW_none, errW_some] <;> rfl) | (simp [*, errW_none, errW_some] <;> rfl), by repeat (first | (with_reducible first | exact HB.out | apply below_alloc | apply pw_below_drewN | apply below_drew1) | exact HB.out)⟩

/-- THE ONE PURE STATEMENT of paviorlaw01_WordLies. -/
def paviorlaw01_WordLies.Pure : Prop := ∀ (a0 : Int) (a1 : Int), (Lit.int .i64 a0).wf = true → (Lit.int .i64 a1).wf = true → ∃ k, paviorlaw01_WordLies.f k a0 a1 = some true

end Go.Proofs.YtobbcfpkmmafnaaDoor.Q
