-- Written by this session's program wip/tools/xprint.py (the kit's printer, turned by it); not the kit's own print.
import Derived.Test.YtobbcfpkmmafnaaDoorQx0
import Derived.Test.YtobbcfpkmmafnaaDoorQx2
import Derived.Test.YtobbcfpkmmafnaaDoorQx3
import Derived.Test.YtobbcfpkmmafnaaDoorQx7
namespace Go.Proofs.YtobbcfpkmmafnaaDoor.Q
open Go.RowKit Go.Proofs.YtobbcfpkmmafnaaDoorW.PrintWords Go.Proofs.YtobbcfpkmmafnaaDoorW.PrintLast Go.Proofs.YtobbcfpkmmafnaaDoorW.PrintMore
attribute [local go_sem] max2_int min2_int max_two min_two max_three min_three max_four min_four   -- for this text's walks alone
set_option linter.unusedVariables false
set_option linter.unusedSimpArgs false

attribute [local go_sem high] eqErr_some neErr_some eqErr_left neErr_left
/-! ### paviorlaw01_WordAligns: function 9 -/
def paviorlaw01_WordAligns.j0 : Nat → Int → Int → Bool → Int → Option Int → Int → Option Int → Bool → Option (Bool)
  | 0, _, _, _, _, _, _, _, _ => none
  | k + 1, x0, x1, x5, x6, x7, x8, x9, x37 => if x37 = true then (if x5 = true then (if x7.isNone = true then (some false) else (if (x7.getD 0) = 1 then (if x9.isNone = true then (some false) else (if (x9.getD 0) = 1 then (if x6 = 0 then (some (x8 == 0)) else (some false)) else (some false))) else (some false))) else (some false)) else ((paviorref01_Power.f k x1).bind fun t216 => (if x5 = true then (if x7.isNone = true then (if x9.isNone = true then (if t216 = 0 then (none) else (if (Int.tmod x6 t216) = 0 then (if (Int.tmod x8 t216) = 0 then (if x6 ≤ x0 then (if (wrap64 (x0 - x6)) < t216 then (if x8 ≥ x0 then (some (decide ((wrap64 (x8 - x0)) < t216))) else (some false)) else (some false)) else (some false)) else (some false)) else (some false))) else (some false)) else (some false)) else (some false)))
def paviorlaw01_WordAligns.f (k : Nat) (a0 : Int) (a1 : Int) : Option (Bool) := (paviorlaw01_up.f k).bind fun t209 => ((word_Down.f a0 a1).bind fun bt210 => ((word_Up.f a0 a1).bind fun bt212 => (if a0 < 0 then (paviorlaw01_WordAligns.j0 k a0 a1 t209 bt210.1 bt210.2 bt212.1 bt212.2 true) else (if a0 > 1099511627776 then (paviorlaw01_WordAligns.j0 k a0 a1 t209 bt210.1 bt210.2 bt212.1 bt212.2 true) else (if a1 < 0 then (paviorlaw01_WordAligns.j0 k a0 a1 t209 bt210.1 bt210.2 bt212.1 bt212.2 true) else (paviorlaw01_WordAligns.j0 k a0 a1 t209 bt210.1 bt210.2 bt212.1 bt212.2 (decide (a1 > 20))))))))
theorem paviorlaw01_WordAligns.mono_l : ∀ k, (∀ y0 y1 y2 y3 y4 y5 y6 y7, LeO (paviorlaw01_WordAligns.j0 k y0 y1 y2 y3 y4 y5 y6 y7) (paviorlaw01_WordAligns.j0 (k + 1) y0 y1 y2 y3 y4 y5 y6 y7))
  | 0 => fun _ _ _ _ _ _ _ _ r h => by simp [paviorlaw01_WordAligns.j0] at h
  | k + 1 => by
    have ih0 := paviorlaw01_WordAligns.mono_l k
    · intro y0 y1 y2 y3 y4 y5 y6 y7
      unfold paviorlaw01_WordAligns.j0
      repeat' first
      | (with_reducible exact ih0 _ _ _ _ _ _ _ _)
      | (with_reducible exact paviorlaw01_up.mono _)
      | (with_reducible exact paviorref01_Power.mono _ _)
      | (with_reducible exact LeO.refl _)
      | (with_reducible exact LeO.none _)
      | (with_reducible refine LeO.ite ?_ ?_)
      | (with_reducible refine LeO.bind ?_ (fun _ => ?_))
      | exact ih0 _ _ _ _ _ _ _ _
      | exact paviorlaw01_up.mono _
      | exact paviorref01_Power.mono _ _
      | exact LeO.none _
      | refine LeO.ite ?_ ?_
      | refine LeO.bind ?_ (fun _ => ?_)
theorem paviorlaw01_WordAligns.mono : ∀ a0 a1 k, LeO (paviorlaw01_WordAligns.f k a0 a1) (paviorlaw01_WordAligns.f (k + 1) a0 a1) := by
  intro a0 a1 k
  have ih0 := paviorlaw01_WordAligns.mono_l k
  unfold paviorlaw01_WordAligns.f
  repeat' first
      | (with_reducible exact ih0 _ _ _ _ _ _ _ _)
      | (with_reducible exact paviorlaw01_up.mono _)
      | (with_reducible exact paviorref01_Power.mono _ _)
      | (with_reducible exact LeO.refl _)
      | (with_reducible exact LeO.none _)
      | (with_reducible refine LeO.ite ?_ ?_)
      | (with_reducible refine LeO.bind ?_ (fun _ => ?_))
      | exact ih0 _ _ _ _ _ _ _ _
      | exact paviorlaw01_up.mono _
      | exact paviorref01_Power.mono _ _
      | exact LeO.none _
      | refine LeO.ite ?_ ?_
      | refine LeO.bind ?_ (fun _ => ?_)
set_option maxHeartbeats 8000000 in
set_option maxRecDepth 100000 in
theorem paviorlaw01_WordAligns.calls (k : Nat) (a0 : Int) (a1 : Int) (r : Bool) (w : World) (hT : Tab w) (h : paviorlaw01_WordAligns.f k a0 a1 = some r) :
    Calls Tryd.prog 9 #[.int .i64 a0, .int .i64 a1] w fun e w' => e = .returned (.bool r) ∧ Below w.heap.size w w' := by
  have hu25 := Tryd.underlying25
  have hu30 := Tryd.underlying30
  have HB := Aside0.mk (Below.refl w.heap.size w)
  have hTB := Aside0.mk hT
  clear hT
  have H : ((paviorlaw01_up.f k).bind fun t209 => ((word_Down.f a0 a1).bind fun bt210 => ((word_Up.f a0 a1).bind fun bt212 => (if a0 < 0 then (paviorlaw01_WordAligns.j0 k a0 a1 t209 bt210.1 bt210.2 bt212.1 bt212.2 true) else (if a0 > 1099511627776 then (paviorlaw01_WordAligns.j0 k a0 a1 t209 bt210.1 bt210.2 bt212.1 bt212.2 true) else (if a1 < 0 then (paviorlaw01_WordAligns.j0 k a0 a1 t209 bt210.1 bt210.2 bt212.1 bt212.2 true) else (paviorlaw01_WordAligns.j0 k a0 a1 t209 bt210.1 bt210.2 bt212.1 bt212.2 (decide (a1 > 20))))))))) = some r := h
  clear h
  replace H := Option.bind_eq_some_iff.mp H
  obtain ⟨t209, A30, H⟩ := H
  replace H : ((word_Down.f a0 a1).bind fun bt210 => ((word_Up.f a0 a1).bind fun bt212 => (if a0 < 0 then (paviorlaw01_WordAligns.j0 k a0 a1 t209 bt210.1 bt210.2 bt212.1 bt212.2 true) else (if a0 > 1099511627776 then (paviorlaw01_WordAligns.j0 k a0 a1 t209 bt210.1 bt210.2 bt212.1 bt212.2 true) else (if a1 < 0 then (paviorlaw01_WordAligns.j0 k a0 a1 t209 bt210.1 bt210.2 bt212.1 bt212.2 true) else (paviorlaw01_WordAligns.j0 k a0 a1 t209 bt210.1 bt210.2 bt212.1 bt212.2 (decide (a1 > 20)))))))) = some r := H
  have A3 := Aside0.mk A30
  clear A30
  replace H := Option.bind_eq_some_iff.mp H
  obtain ⟨⟨t210, t211⟩, A40, H⟩ := H
  replace H : ((word_Up.f a0 a1).bind fun bt212 => (if a0 < 0 then (paviorlaw01_WordAligns.j0 k a0 a1 t209 t210 t211 bt212.1 bt212.2 true) else (if a0 > 1099511627776 then (paviorlaw01_WordAligns.j0 k a0 a1 t209 t210 t211 bt212.1 bt212.2 true) else (if a1 < 0 then (paviorlaw01_WordAligns.j0 k a0 a1 t209 t210 t211 bt212.1 bt212.2 true) else (paviorlaw01_WordAligns.j0 k a0 a1 t209 t210 t211 bt212.1 bt212.2 (decide (a1 > 20))))))) = some r := H
  have A4 := Aside0.mk A40
  clear A40
  replace H := Option.bind_eq_some_iff.mp H
  obtain ⟨⟨t212, t213⟩, A50, H⟩ := H
  replace H : (if a0 < 0 then (paviorlaw01_WordAligns.j0 k a0 a1 t209 t210 t211 t212 t213 true) else (if a0 > 1099511627776 then (paviorlaw01_WordAligns.j0 k a0 a1 t209 t210 t211 t212 t213 true) else (if a1 < 0 then (paviorlaw01_WordAligns.j0 k a0 a1 t209 t210 t211 t212 t213 true) else (paviorlaw01_WordAligns.j0 k a0 a1 t209 t210 t211 t212 t213 (decide (a1 > 20)))))) = some r := H
  have A5 := Aside0.mk A50
  clear A50
  have HC6 := Aside0.mk H
  clear H
  go_enter Tryd.func9, Tryd.ntmps9
  go_upto_region 4 with (first | ((with_reducible refine gate_callee (f := 11) rfl ?_); refine goesL_ (some 11) rfl rfl Tryd.func11 (by kernel_rfl) rfl #[] rfl (by (try simp only [List.map_toArray, List.map_cons, List.map_nil]); first | done | rfl | (simp only [List.length_drop, List.length_take]; rfl)) ?_; (with_reducible refine (paviorlaw01_up.calls k  t209 _ ?side1 A3.out).mono ?_); (case side1 => exact tab_below hTB.out (by repeat (first | (with_reducible first | exact HB.out | apply below_alloc | apply pw_below_drewN | apply below_drew1) | exact HB.out))); rintro e w7 ⟨rfl, hb⟩; refine ⟨_, rfl, ?_⟩; have n0_ := Aside0.mk (below_step (by repeat (first | (with_reducible first | exact HB.out | apply below_alloc | apply pw_below_drewN | apply below_drew1) | exact HB.out)) hb); clear HB; have HB := n0_; clear n0_; (try clear hb); (try clear hb2); (try clear hk); (try clear hi)) | ((with_reducible refine gate_callee (f := 22) rfl ?_); refine goesL_ (some 15) rfl rfl Tryd.func22 (by kernel_rfl) rfl #[.int .i64 a0, .int .i64 a1] rfl (by (try simp only [List.map_toArray, List.map_cons, List.map_nil]); first | done | rfl | (simp only [List.length_drop, List.length_take]; rfl)) ?_; (with_reducible refine (word_Down.calls a0 a1 t210 t211 _ A4.out).mono ?_); rintro e w' ⟨rfl, ⟨nd, rfl⟩⟩; refine ⟨_, rfl, ?_⟩; (try simp only [errW_none, errW_some])) | ((with_reducible refine gate_callee (f := 23) rfl ?_); refine goesL_ (some 21) rfl rfl Tryd.func23 (by kernel_rfl) rfl #[.int .i64 a0, .int .i64 a1] rfl (by (try simp only [List.map_toArray, List.map_cons, List.map_nil]); first | done | rfl | (simp only [List.length_drop, List.length_take]; rfl)) ?_; (with_reducible refine (word_Up.calls a0 a1 t212 t213 _ A5.out).mono ?_); rintro e w' ⟨rfl, ⟨nd, rfl⟩⟩; refine ⟨_, rfl, ?_⟩; (try simp only [errW_none, errW_some])))
  (try simp only [Act.put, List.setIfInBounds_toArray, List.set_cons_zero, List.set_cons_succ])
  go_cut [37] (fun v37 wc => ∃ (kq : Nat) (x37_5 : Bool), v37 = .bool x37_5 ∧ Aside0 (paviorlaw01_WordAligns.j0 kq a0 a1 t209 t210 t211 t212 t213 x37_5 = some r) ∧ Aside0 (kq ≤ k) ∧ Aside0 (Below w.heap.size w wc))
  case first =>
    have H := HC6.out
    clear HC6
    by_cases c8 : a0 < 0
    · rw [if_pos c8] at H
      have c8b0 : decide (a0 < 0) = true := decide_eq_true c8
      clear c8
      (first | rw [c8b0] | (simp only [i64_w, i32_w]; rw [c8b0]) | skip)
      have H' := Aside0.mk H
      clear H
      go_wp2
      go_meet
      case rel => exact ⟨_, (true), (by first | rfl | (simp; done) | (simp [*]; done)), H', ⟨by first | omega | exact Nat.le_refl _⟩, ⟨by repeat (first | (with_reducible first | exact HB.out | apply below_alloc | apply pw_below_drewN | apply below_drew1) | exact HB.out)⟩⟩
    · rw [if_neg c8] at H
      have c8b0 : decide (a0 < 0) = false := decide_eq_false c8
      clear c8
      (first | rw [c8b0] | (simp only [i64_w, i32_w]; rw [c8b0]) | skip)
      by_cases c9 : a0 > 1099511627776
      · rw [if_pos c9] at H
        have c9b0 : decide (1099511627776 < a0) = true := decide_eq_true c9
        clear c9
        have H' := Aside0.mk H
        clear H
        go_wp2
        go_meet
        case rel => exact ⟨_, (true), (by first | rfl | (simp; done) | (simp [*]; done)), H', ⟨by first | omega | exact Nat.le_refl _⟩, ⟨by repeat (first | (with_reducible first | exact HB.out | apply below_alloc | apply pw_below_drewN | apply below_drew1) | exact HB.out)⟩⟩
      · rw [if_neg c9] at H
        have c9b0 : decide (1099511627776 < a0) = false := decide_eq_false c9
        clear c9
        by_cases c10 : a1 < 0
        · rw [if_pos c10] at H
          have c10b0 : decide (a1 < 0) = true := decide_eq_true c10
          clear c10
          have H' := Aside0.mk H
          clear H
          go_wp2
          go_meet
          case rel => exact ⟨_, (true), (by first | rfl | (simp; done) | (simp [*]; done)), H', ⟨by first | omega | exact Nat.le_refl _⟩, ⟨by repeat (first | (with_reducible first | exact HB.out | apply below_alloc | apply pw_below_drewN | apply below_drew1) | exact HB.out)⟩⟩
        · rw [if_neg c10] at H
          have c10b0 : decide (a1 < 0) = false := decide_eq_false c10
          clear c10
          have H' := Aside0.mk H
          clear H
          go_wp2
          go_meet
          case rel => exact ⟨_, (decide (a1 > 20)), (by first | rfl | (simp; done) | (simp [*]; done)), H', ⟨by first | omega | exact Nat.le_refl _⟩, ⟨by repeat (first | (with_reducible first | exact HB.out | apply below_alloc | apply pw_below_drewN | apply below_drew1) | exact HB.out)⟩⟩
  case rest =>
    clear HC6
    try clear c1
    try clear c2
    try clear p2
    try clear c8
    try clear c8b0
    try clear c9
    try clear c9b0
    try clear c10
    try clear c10b0
    obtain ⟨kq, x37_5, rfl, HA, HJ5, HB⟩ := hcut
    cases kq with
    | zero => exact absurd HA.out (by simp [paviorlaw01_WordAligns.j0])
    | succ kj5 =>
      have H := HA.out
      clear HA
      simp only [paviorlaw01_WordAligns.j0] at H
      by_cases c11 : x37_5 = true
      · subst c11
        have H1 : (if t209 = true then (if t211.isNone = true then (some false) else (if (t211.getD 0) = 1 then (if t213.isNone = true then (some false) else (if (t213.getD 0) = 1 then (if t210 = 0 then (some (t212 == 0)) else (some false)) else (some false))) else (some false))) else (some false)) = some r := by rw [if_pos rfl] at H; exact H
        clear H
        have H := H1
        clear H1
        by_cases c12 : t209 = true
        · subst c12
          have H1 : (if t211.isNone = true then (some false) else (if (t211.getD 0) = 1 then (if t213.isNone = true then (some false) else (if (t213.getD 0) = 1 then (if t210 = 0 then (some (t212 == 0)) else (some false)) else (some false))) else (some false))) = some r := by rw [if_pos rfl] at H; exact H
          clear H
          have H := H1
          clear H1
          rcases t211 with _ | q214
          · have H1 : (some false) = some r := by rw [if_pos (show (none : Option Int).isNone = true by rfl)] at H; exact H
            clear H
            have H := H1
            clear H1
            try simp only [errW_none, errW_some]
            obtain rfl := Option.some.inj H
            go_wp2
            go_ret
            exact ⟨by first | rfl | (simp [errW_none, errW_some] <;> rfl) | (simp [*, errW_none, errW_some] <;> rfl), by repeat (first | (with_reducible first | exact HB.out | apply below_alloc | apply pw_below_drewN | apply below_drew1) | exact HB.out)⟩
          · have H1 : (if q214 = 1 then (if t213.isNone = true then (some false) else (if (t213.getD 0) = 1 then (if t210 = 0 then (some (t212 == 0)) else (some false)) else (some false))) else (some false)) = some r := by rw [if_neg (show ¬ (some q214).isNone = true by simp)] at H; exact H
            clear H
            have H := H1
            clear H1
            try simp only [errW_none, errW_some]
            by_cases c13 : q214 = 1
            · rw [if_pos c13] at H
              have c13b0 : (q214 == 1) = true := beq_iff_eq.mpr c13
              have c13b1 : (q214 != 1) = false := bne_eq_false_iff_eq.mpr c13
              clear c13
              rcases t213 with _ | q215
              · have H1 : (some false) = some r := by rw [if_pos (show (none : Option Int).isNone = true by rfl)] at H; exact H
                clear H
                have H := H1
                clear H1
                try simp only [errW_none, errW_some]
                obtain rfl := Option.some.inj H
                go_wp2
                go_ret
                exact ⟨by first | rfl | (simp [errW_none, errW_some] <;> rfl) | (simp [*, errW_none, errW_some] <;> rfl), by repeat (first | (with_reducible first | exact HB.out | apply below_alloc | apply pw_below_drewN | apply below_drew1) | exact HB.out)⟩
              · have H1 : (if q215 = 1 then (if t210 = 0 then (some (t212 == 0)) else (some false)) else (some false)) = some r := by rw [if_neg (show ¬ (some q215).isNone = true by simp)] at H; exact H
                clear H
                have H := H1
                clear H1
                try simp only [errW_none, errW_some]
                by_cases c14 : q215 = 1
                · rw [if_pos c14] at H
                  have c14b0 : (q215 == 1) = true := beq_iff_eq.mpr c14
                  have c14b1 : (q215 != 1) = false := bne_eq_false_iff_eq.mpr c14
                  clear c14
                  by_cases c15 : t210 = 0
                  · rw [if_pos c15] at H
                    have c15b0 : (t210 == 0) = true := beq_iff_eq.mpr c15
                    have c15b1 : (t210 != 0) = false := bne_eq_false_iff_eq.mpr c15
                    clear c15
                    obtain rfl := Option.some.inj H
                    go_wp2
                    go_ret
                    exact ⟨by first | rfl | (simp [errW_none, errW_some] <;> rfl) | (simp [*, errW_none, errW_some] <;> rfl), by repeat (first | (with_reducible first | exact HB.out | apply below_alloc | apply pw_below_drewN | apply below_drew1) | exact HB.out)⟩
                  · rw [if_neg c15] at H
                    have c15b0 : (t210 == 0) = false := beq_eq_false_iff_ne.mpr c15
                    have c15b1 : (t210 != 0) = true := bne_iff_ne.mpr c15
                    obtain rfl := Option.some.inj H
                    go_wp2
                    go_ret
                    exact ⟨by first | rfl | (simp [errW_none, errW_some] <;> rfl) | (simp [*, errW_none, errW_some] <;> rfl), by repeat (first | (with_reducible first | exact HB.out | apply below_alloc | apply pw_below_drewN | apply below_drew1) | exact HB.out)⟩
                · rw [if_neg c14] at H
                  have c14b0 : (q215 == 1) = false := beq_eq_false_iff_ne.mpr c14
                  have c14b1 : (q215 != 1) = true := bne_iff_ne.mpr c14
                  obtain rfl := Option.some.inj H
                  go_wp2
                  go_ret
                  exact ⟨by first | rfl | (simp [errW_none, errW_some] <;> rfl) | (simp [*, errW_none, errW_some] <;> rfl), by repeat (first | (with_reducible first | exact HB.out | apply below_alloc | apply pw_below_drewN | apply below_drew1) | exact HB.out)⟩
            · rw [if_neg c13] at H
              have c13b0 : (q214 == 1) = false := beq_eq_false_iff_ne.mpr c13
              have c13b1 : (q214 != 1) = true := bne_iff_ne.mpr c13
              obtain rfl := Option.some.inj H
              go_wp2
              go_ret
              exact ⟨by first | rfl | (simp [errW_none, errW_some] <;> rfl) | (simp [*, errW_none, errW_some] <;> rfl), by repeat (first | (with_reducible first | exact HB.out | apply below_alloc | apply pw_below_drewN | apply below_drew1) | exact HB.out)⟩
        · replace c12 := Bool.eq_false_iff.mpr c12
          subst c12
          have H1 : (some false) = some r := by rw [if_neg (show ¬ (false = true) by decide)] at H; exact H
          clear H
          have H := H1
          clear H1
          obtain rfl := Option.some.inj H
          go_wp2
          go_ret
          exact ⟨by first | rfl | (simp [errW_none, errW_some] <;> rfl) | (simp [*, errW_none, errW_some] <;> rfl), by repeat (first | (with_reducible first | exact HB.out | apply below_alloc | apply pw_below_drewN | apply below_drew1) | exact HB.out)⟩
      · replace c11 := Bool.eq_false_iff.mpr c11
        subst c11
        have H1 : ((paviorref01_Power.f kj5 a1).bind fun t216 => (if t209 = true then (if t211.isNone = true then (if t213.isNone = true then (if t216 = 0 then (none) else (if (Int.tmod t210 t216) = 0 then (if (Int.tmod t212 t216) = 0 then (if t210 ≤ a0 then (if (wrap64 (a0 - t210)) < t216 then (if t212 ≥ a0 then (some (decide ((wrap64 (t212 - a0)) < t216))) else (some false)) else (some false)) else (some false)) else (some false)) else (some false))) else (some false)) else (some false)) else (some false))) = some r := by rw [if_neg (show ¬ (false = true) by decide)] at H; exact H
        clear H
        have H := H1
        clear H1
        replace H := Option.bind_eq_some_iff.mp H
        obtain ⟨t216, A160, H⟩ := H
        replace H : (if t209 = true then (if t211.isNone = true then (if t213.isNone = true then (if t216 = 0 then (none) else (if (Int.tmod t210 t216) = 0 then (if (Int.tmod t212 t216) = 0 then (if t210 ≤ a0 then (if (wrap64 (a0 - t210)) < t216 then (if t212 ≥ a0 then (some (decide ((wrap64 (t212 - a0)) < t216))) else (some false)) else (some false)) else (some false)) else (some false)) else (some false))) else (some false)) else (some false)) else (some false)) = some r := H
        have A16 := Aside0.mk A160
        clear A160
        by_cases c17 : t209 = true
        · subst c17
          have H1 : (if t211.isNone = true then (if t213.isNone = true then (if t216 = 0 then (none) else (if (Int.tmod t210 t216) = 0 then (if (Int.tmod t212 t216) = 0 then (if t210 ≤ a0 then (if (wrap64 (a0 - t210)) < t216 then (if t212 ≥ a0 then (some (decide ((wrap64 (t212 - a0)) < t216))) else (some false)) else (some false)) else (some false)) else (some false)) else (some false))) else (some false)) else (some false)) = some r := by rw [if_pos rfl] at H; exact H
          clear H
          have H := H1
          clear H1
          rcases t211 with _ | q217
          · have H1 : (if t213.isNone = true then (if t216 = 0 then (none) else (if (Int.tmod t210 t216) = 0 then (if (Int.tmod t212 t216) = 0 then (if t210 ≤ a0 then (if (wrap64 (a0 - t210)) < t216 then (if t212 ≥ a0 then (some (decide ((wrap64 (t212 - a0)) < t216))) else (some false)) else (some false)) else (some false)) else (some false)) else (some false))) else (some false)) = some r := by rw [if_pos (show (none : Option Int).isNone = true by rfl)] at H; exact H
            clear H
            have H := H1
            clear H1
            try simp only [errW_none, errW_some]
            rcases t213 with _ | q218
            · have H1 : (if t216 = 0 then (none) else (if (Int.tmod t210 t216) = 0 then (if (Int.tmod t212 t216) = 0 then (if t210 ≤ a0 then (if (wrap64 (a0 - t210)) < t216 then (if t212 ≥ a0 then (some (decide ((wrap64 (t212 - a0)) < t216))) else (some false)) else (some false)) else (some false)) else (some false)) else (some false))) = some r := by rw [if_pos (show (none : Option Int).isNone = true by rfl)] at H; exact H
              clear H
              have H := H1
              clear H1
              try simp only [errW_none, errW_some]
              by_cases c18 : t216 = 0
              · rw [if_pos c18] at H
                exact absurd H (by simp)
              · rw [if_neg c18] at H
                have c18b0 : (t216 == 0) = false := beq_eq_false_iff_ne.mpr c18
                have c18b1 : (t216 != 0) = true := bne_iff_ne.mpr c18
                by_cases c19 : (Int.tmod t210 t216) = 0
                · rw [if_pos c19] at H
                  have c19b0 : ((Int.tmod t210 t216) == 0) = true := beq_iff_eq.mpr c19
                  have c19b1 : ((Int.tmod t210 t216) != 0) = false := bne_eq_false_iff_eq.mpr c19
                  clear c19
                  by_cases c20 : (Int.tmod t212 t216) = 0
                  · rw [if_pos c20] at H
                    have c20b0 : ((Int.tmod t212 t216) == 0) = true := beq_iff_eq.mpr c20
                    have c20b1 : ((Int.tmod t212 t216) != 0) = false := bne_eq_false_iff_eq.mpr c20
                    clear c20
                    by_cases c21 : t210 ≤ a0
                    · rw [if_pos c21] at H
                      have c21b0 : decide (t210 ≤ a0) = true := decide_eq_true c21
                      clear c21
                      by_cases c22 : (wrap64 (a0 - t210)) < t216
                      · rw [if_pos c22] at H
                        have c22b0 : decide ((wrap64 (a0 - t210)) < t216) = true := decide_eq_true c22
                        clear c22
                        by_cases c23 : t212 ≥ a0
                        · rw [if_pos c23] at H
                          have c23b0 : decide (a0 ≤ t212) = true := decide_eq_true c23
                          clear c23
                          obtain rfl := Option.some.inj H
                          go_wp2_with (first | ((with_reducible refine gate_callee (f := 20) rfl ?_); refine goesL_ (some 58) rfl rfl Tryd.func20 (by kernel_rfl) rfl #[.int .i64 a1] rfl (by (try simp only [List.map_toArray, List.map_cons, List.map_nil]); first | done | rfl | (simp only [List.length_drop, List.length_take]; rfl)) ?_; (with_reducible refine (paviorref01_Power.calls kj5 a1 t216 _ A16.out).mono ?_); rintro e w' ⟨rfl, ⟨nd, rfl⟩⟩; refine ⟨_, rfl, ?_⟩))
                          go_ret
                          exact ⟨by first | rfl | (simp [errW_none, errW_some] <;> rfl) | (simp [*, errW_none, errW_some] <;> rfl), by repeat (first | (with_reducible first | exact HB.out | apply below_alloc | apply pw_below_drewN | apply below_drew1) | exact HB.out)⟩
                        · rw [if_neg c23] at H
                          have c23b0 : decide (a0 ≤ t212) = false := decide_eq_false c23
                          clear c23
                          obtain rfl := Option.some.inj H
                          go_wp2_with (first | ((with_reducible refine gate_callee (f := 20) rfl ?_); refine goesL_ (some 58) rfl rfl Tryd.func20 (by kernel_rfl) rfl #[.int .i64 a1] rfl (by (try simp only [List.map_toArray, List.map_cons, List.map_nil]); first | done | rfl | (simp only [List.length_drop, List.length_take]; rfl)) ?_; (with_reducible refine (paviorref01_Power.calls kj5 a1 t216 _ A16.out).mono ?_); rintro e w' ⟨rfl, ⟨nd, rfl⟩⟩; refine ⟨_, rfl, ?_⟩))
                          go_ret
                          exact ⟨by first | rfl | (simp [errW_none, errW_some] <;> rfl) | (simp [*, errW_none, errW_some] <;> rfl), by repeat (first | (with_reducible first | exact HB.out | apply below_alloc | apply pw_below_drewN | apply below_drew1) | exact HB.out)⟩
                      · rw [if_neg c22] at H
                        have c22b0 : decide ((wrap64 (a0 - t210)) < t216) = false := decide_eq_false c22
                        clear c22
                        obtain rfl := Option.some.inj H
                        go_wp2_with (first | ((with_reducible refine gate_callee (f := 20) rfl ?_); refine goesL_ (some 58) rfl rfl Tryd.func20 (by kernel_rfl) rfl #[.int .i64 a1] rfl (by (try simp only [List.map_toArray, List.map_cons, List.map_nil]); first | done | rfl | (simp only [List.length_drop, List.length_take]; rfl)) ?_; (with_reducible refine (paviorref01_Power.calls kj5 a1 t216 _ A16.out).mono ?_); rintro e w' ⟨rfl, ⟨nd, rfl⟩⟩; refine ⟨_, rfl, ?_⟩))
                        go_ret
                        exact ⟨by first | rfl | (simp [errW_none, errW_some] <;> rfl) | (simp [*, errW_none, errW_some] <;> rfl), by repeat (first | (with_reducible first | exact HB.out | apply below_alloc | apply pw_below_drewN | apply below_drew1) | exact HB.out)⟩
                    · rw [if_neg c21] at H
                      have c21b0 : decide (t210 ≤ a0) = false := decide_eq_false c21
                      clear c21
                      obtain rfl := Option.some.inj H
                      go_wp2_with (first | ((with_reducible refine gate_callee (f := 20) rfl ?_); refine goesL_ (some 58) rfl rfl Tryd.func20 (by kernel_rfl) rfl #[.int .i64 a1] rfl (by (try simp only [List.map_toArray, List.map_cons, List.map_nil]); first | done | rfl | (simp only [List.length_drop, List.length_take]; rfl)) ?_; (with_reducible refine (paviorref01_Power.calls kj5 a1 t216 _ A16.out).mono ?_); rintro e w' ⟨rfl, ⟨nd, rfl⟩⟩; refine ⟨_, rfl, ?_⟩))
                      go_ret
                      exact ⟨by first | rfl | (simp [errW_none, errW_some] <;> rfl) | (simp [*, errW_none, errW_some] <;> rfl), by repeat (first | (with_reducible first | exact HB.out | apply below_alloc | apply pw_below_drewN | apply below_drew1) | exact HB.out)⟩
                  · rw [if_neg c20] at H
                    have c20b0 : ((Int.tmod t212 t216) == 0) = false := beq_eq_false_iff_ne.mpr c20
                    have c20b1 : ((Int.tmod t212 t216) != 0) = true := bne_iff_ne.mpr c20
                    obtain rfl := Option.some.inj H
                    go_wp2_with (first | ((with_reducible refine gate_callee (f := 20) rfl ?_); refine goesL_ (some 58) rfl rfl Tryd.func20 (by kernel_rfl) rfl #[.int .i64 a1] rfl (by (try simp only [List.map_toArray, List.map_cons, List.map_nil]); first | done | rfl | (simp only [List.length_drop, List.length_take]; rfl)) ?_; (with_reducible refine (paviorref01_Power.calls kj5 a1 t216 _ A16.out).mono ?_); rintro e w' ⟨rfl, ⟨nd, rfl⟩⟩; refine ⟨_, rfl, ?_⟩))
                    go_ret
                    exact ⟨by first | rfl | (simp [errW_none, errW_some] <;> rfl) | (simp [*, errW_none, errW_some] <;> rfl), by repeat (first | (with_reducible first | exact HB.out | apply below_alloc | apply pw_below_drewN | apply below_drew1) | exact HB.out)⟩
                · rw [if_neg c19] at H
                  have c19b0 : ((Int.tmod t210 t216) == 0) = false := beq_eq_false_iff_ne.mpr c19
                  have c19b1 : ((Int.tmod t210 t216) != 0) = true := bne_iff_ne.mpr c19
                  obtain rfl := Option.some.inj H
                  go_wp2_with (first | ((with_reducible refine gate_callee (f := 20) rfl ?_); refine goesL_ (some 58) rfl rfl Tryd.func20 (by kernel_rfl) rfl #[.int .i64 a1] rfl (by (try simp only [List.map_toArray, List.map_cons, List.map_nil]); first | done | rfl | (simp only [List.length_drop, List.length_take]; rfl)) ?_; (with_reducible refine (paviorref01_Power.calls kj5 a1 t216 _ A16.out).mono ?_); rintro e w' ⟨rfl, ⟨nd, rfl⟩⟩; refine ⟨_, rfl, ?_⟩))
                  go_ret
                  exact ⟨by first | rfl | (simp [errW_none, errW_some] <;> rfl) | (simp [*, errW_none, errW_some] <;> rfl), by repeat (first | (with_reducible first | exact HB.out | apply below_alloc | apply pw_below_drewN | apply below_drew1) | exact HB.out)⟩
            · have H1 : (some false) = some r := by rw [if_neg (show ¬ (some q218).isNone = true by simp)] at H; exact H
              clear H
              have H := H1
              clear H1
              try simp only [errW_none, errW_some]
              obtain rfl := Option.some.inj H
              go_wp2_with (first | ((with_reducible refine gate_callee (f := 20) rfl ?_); refine goesL_ (some 58) rfl rfl Tryd.func20 (by kernel_rfl) rfl #[.int .i64 a1] rfl (by (try simp only [List.map_toArray, List.map_cons, List.map_nil]); first | done | rfl | (simp only [List.length_drop, List.length_take]; rfl)) ?_; (with_reducible refine (paviorref01_Power.calls kj5 a1 t216 _ A16.out).mono ?_); rintro e w' ⟨rfl, ⟨nd, rfl⟩⟩; refine ⟨_, rfl, ?_⟩))
              go_ret
              exact ⟨by first | rfl | (simp [errW_none, errW_some] <;> rfl) | (simp [*, errW_none, errW_some] <;> rfl), by repeat (first | (with_reducible first | exact HB.out | apply below_alloc | apply pw_below_drewN | apply below_drew1) | exact HB.out)⟩
          · have H1 : (some false) = some r := by rw [if_neg (show ¬ (some q217).isNone = true by simp)] at H; exact H
            clear H
            have H := H1
            clear H1
            try simp only [errW_none, errW_some]
            obtain rfl := Option.some.inj H
            go_wp2_with (first | ((with_reducible refine gate_callee (f := 20) rfl ?_); refine goesL_ (some 58) rfl rfl Tryd.func20 (by kernel_rfl) rfl #[.int .i64 a1] rfl (by (try simp only [List.map_toArray, List.map_cons, List.map_nil]); first | done | rfl | (simp only [List.length_drop, List.length_take]; rfl)) ?_; (with_reducible refine (paviorref01_Power.calls kj5 a1 t216 _ A16.out).mono ?_); rintro e w' ⟨rfl, ⟨nd, rfl⟩⟩; refine ⟨_, rfl, ?_⟩))
            go_ret
            exact ⟨by first | rfl | (simp [errW_none, errW_some] <;> rfl) | (simp [*, errW_none, errW_some] <;> rfl), by repeat (first | (with_reducible first | exact HB.out | apply below_alloc | apply pw_below_drewN | apply below_drew1) | exact HB.out)⟩
        · replace c17 := Bool.eq_false_iff.mpr c17
          subst c17
          have H1 : (some false) = some r := by rw [if_neg (show ¬ (false = true) by decide)] at H; exact H
          clear H
          have H := H1
          clear H1
          obtain rfl := Option.some.inj H
          go_wp2_with (first | ((with_reducible refine gate_callee (f := 20) rfl ?_); refine goesL_ (some 58) rfl rfl Tryd.func20 (by kernel_rfl) rfl #[.int .i64 a1] rfl (by (try simp only [List.map_toArray, List.map_cons, List.map_nil]); first | done | rfl | (simp only [List.length_drop, List.length_take]; rfl)) ?_; (with_reducible refine (paviorref01_Power.calls kj5 a1 t216 _ A16.out).mono ?_); rintro e w' ⟨rfl, ⟨nd, rfl⟩⟩; refine ⟨_, rfl, ?_⟩))
          go_ret
          exact ⟨by first | rfl | (simp [errW_none, errW_some] <;> rfl) | (simp [*, errW_none, errW_some] <;> rfl), by repeat (first | (with_reducible first | exact HB.out | apply below_alloc | apply pw_below_drewN | apply below_drew1) | exact HB.out)⟩

/-- THE ONE PURE STATEMENT of paviorlaw01_WordAligns. -/
def paviorlaw01_WordAligns.Pure : Prop := ∀ (a0 : Int) (a1 : Int), (Lit.int .i64 a0).wf = true → (Lit.int .i64 a1).wf = true → ∃ k, paviorlaw01_WordAligns.f k a0 a1 = some true

/-! ### paviorlaw01_WordNear: function 10 -/
def paviorlaw01_WordNear.j0 : Nat → Int → Int → Bool → Int → Option Int → Int → Option Int → Bool → Option (Bool)
  | 0, _, _, _, _, _, _, _, _ => none
  | k + 1, x0, x1, x5, x6, x7, x8, x9, x29 => if x29 = true then (if x5 = true then (if x7.isNone = true then (some false) else (if x9.isNone = true then (some false) else (some true))) else (some false)) else ((paviorref01_Power.f k x1).bind fun t228 => (if t228 = 0 then (none) else (if (Int.tmod x0 t228) = 0 then (if x5 = true then (if x6 = x0 then (some (x8 == x0)) else (some false)) else (some false)) else (if x5 = true then (some (x8 == (wrap64 (x6 + t228)))) else (some false)))))
def paviorlaw01_WordNear.f (k : Nat) (a0 : Int) (a1 : Int) : Option (Bool) := (paviorlaw01_up.f k).bind fun t219 => ((word_Down.f a0 a1).bind fun bt220 => ((word_Up.f a0 a1).bind fun bt222 => (if bt220.2.isNone = true then (if bt222.2.isNone = true then (paviorlaw01_WordNear.j0 k a0 a1 t219 bt220.1 none bt222.1 none false) else (paviorlaw01_WordNear.j0 k a0 a1 t219 bt220.1 none bt222.1 (some (bt222.2.getD 0)) true)) else (paviorlaw01_WordNear.j0 k a0 a1 t219 bt220.1 (some (bt220.2.getD 0)) bt222.1 bt222.2 true))))
theorem paviorlaw01_WordNear.mono_l : ∀ k, (∀ y0 y1 y2 y3 y4 y5 y6 y7, LeO (paviorlaw01_WordNear.j0 k y0 y1 y2 y3 y4 y5 y6 y7) (paviorlaw01_WordNear.j0 (k + 1) y0 y1 y2 y3 y4 y5 y6 y7))
  | 0 => fun _ _ _ _ _ _ _ _ r h => by simp [paviorlaw01_WordNear.j0] at h
  | k + 1 => by
    have ih0 := paviorlaw01_WordNear.mono_l k
    · intro y0 y1 y2 y3 y4 y5 y6 y7
      unfold paviorlaw01_WordNear.j0
      repeat' first
      | (with_reducible exact ih0 _ _ _ _ _ _ _ _)
      | (with_reducible exact paviorlaw01_up.mono _)
      | (with_reducible exact paviorref01_Power.mono _ _)
      | (with_reducible exact LeO.refl _)
      | (with_reducible exact LeO.none _)
      | (with_reducible refine LeO.ite ?_ ?_)
      | (with_reducible refine LeO.bind ?_ (fun _ => ?_))
      | exact ih0 _ _ _ _ _ _ _ _
      | exact paviorlaw01_up.mono _
      | exact paviorref01_Power.mono _ _
      | exact LeO.none _
      | refine LeO.ite ?_ ?_
      | refine LeO.bind ?_ (fun _ => ?_)
theorem paviorlaw01_WordNear.mono : ∀ a0 a1 k, LeO (paviorlaw01_WordNear.f k a0 a1) (paviorlaw01_WordNear.f (k + 1) a0 a1) := by
  intro a0 a1 k
  have ih0 := paviorlaw01_WordNear.mono_l k
  unfold paviorlaw01_WordNear.f
  repeat' first
      | (with_reducible exact ih0 _ _ _ _ _ _ _ _)
      | (with_reducible exact paviorlaw01_up.mono _)
      | (with_reducible exact paviorref01_Power.mono _ _)
      | (with_reducible exact LeO.refl _)
      | (with_reducible exact LeO.none _)
      | (with_reducible refine LeO.ite ?_ ?_)
      | (with_reducible refine LeO.bind ?_ (fun _ => ?_))
      | exact ih0 _ _ _ _ _ _ _ _
      | exact paviorlaw01_up.mono _
      | exact paviorref01_Power.mono _ _
      | exact LeO.none _
      | refine LeO.ite ?_ ?_
      | refine LeO.bind ?_ (fun _ => ?_)
set_option maxHeartbeats 8000000 in
set_option maxRecDepth 100000 in
theorem paviorlaw01_WordNear.calls (k : Nat) (a0 : Int) (a1 : Int) (r : Bool) (w : World) (hT : Tab w) (h : paviorlaw01_WordNear.f k a0 a1 = some r) :
    Calls Tryd.prog 10 #[.int .i64 a0, .int .i64 a1] w fun e w' => e = .returned (.bool r) ∧ Below w.heap.size w w' := by
  have hu25 := Tryd.underlying25
  have hu30 := Tryd.underlying30
  have HB := Aside0.mk (Below.refl w.heap.size w)
  have hTB := Aside0.mk hT
  clear hT
  have H : ((paviorlaw01_up.f k).bind fun t219 => ((word_Down.f a0 a1).bind fun bt220 => ((word_Up.f a0 a1).bind fun bt222 => (if bt220.2.isNone = true then (if bt222.2.isNone = true then (paviorlaw01_WordNear.j0 k a0 a1 t219 bt220.1 none bt222.1 none false) else (paviorlaw01_WordNear.j0 k a0 a1 t219 bt220.1 none bt222.1 (some (bt222.2.getD 0)) true)) else (paviorlaw01_WordNear.j0 k a0 a1 t219 bt220.1 (some (bt220.2.getD 0)) bt222.1 bt222.2 true))))) = some r := h
  clear h
  replace H := Option.bind_eq_some_iff.mp H
  obtain ⟨t219, A30, H⟩ := H
  replace H : ((word_Down.f a0 a1).bind fun bt220 => ((word_Up.f a0 a1).bind fun bt222 => (if bt220.2.isNone = true then (if bt222.2.isNone = true then (paviorlaw01_WordNear.j0 k a0 a1 t219 bt220.1 none bt222.1 none false) else (paviorlaw01_WordNear.j0 k a0 a1 t219 bt220.1 none bt222.1 (some (bt222.2.getD 0)) true)) else (paviorlaw01_WordNear.j0 k a0 a1 t219 bt220.1 (some (bt220.2.getD 0)) bt222.1 bt222.2 true)))) = some r := H
  have A3 := Aside0.mk A30
  clear A30
  replace H := Option.bind_eq_some_iff.mp H
  obtain ⟨⟨t220, t221⟩, A40, H⟩ := H
  replace H : ((word_Up.f a0 a1).bind fun bt222 => (if t221.isNone = true then (if bt222.2.isNone = true then (paviorlaw01_WordNear.j0 k a0 a1 t219 t220 none bt222.1 none false) else (paviorlaw01_WordNear.j0 k a0 a1 t219 t220 none bt222.1 (some (bt222.2.getD 0)) true)) else (paviorlaw01_WordNear.j0 k a0 a1 t219 t220 (some (t221.getD 0)) bt222.1 bt222.2 true))) = some r := H
  have A4 := Aside0.mk A40
  clear A40
  replace H := Option.bind_eq_some_iff.mp H
  obtain ⟨⟨t222, t223⟩, A50, H⟩ := H
  replace H : (if t221.isNone = true then (if t223.isNone = true then (paviorlaw01_WordNear.j0 k a0 a1 t219 t220 none t222 none false) else (paviorlaw01_WordNear.j0 k a0 a1 t219 t220 none t222 (some (t223.getD 0)) true)) else (paviorlaw01_WordNear.j0 k a0 a1 t219 t220 (some (t221.getD 0)) t222 t223 true)) = some r := H
  have A5 := Aside0.mk A50
  clear A50
  have HC6 := Aside0.mk H
  clear H
  go_enter Tryd.func10, Tryd.ntmps10
  go_upto_region 4 with (first | ((with_reducible refine gate_callee (f := 11) rfl ?_); refine goesL_ (some 11) rfl rfl Tryd.func11 (by kernel_rfl) rfl #[] rfl (by (try simp only [List.map_toArray, List.map_cons, List.map_nil]); first | done | rfl | (simp only [List.length_drop, List.length_take]; rfl)) ?_; (with_reducible refine (paviorlaw01_up.calls k  t219 _ ?side1 A3.out).mono ?_); (case side1 => exact tab_below hTB.out (by repeat (first | (with_reducible first | exact HB.out | apply below_alloc | apply pw_below_drewN | apply below_drew1) | exact HB.out))); rintro e w7 ⟨rfl, hb⟩; refine ⟨_, rfl, ?_⟩; have n0_ := Aside0.mk (below_step (by repeat (first | (with_reducible first | exact HB.out | apply below_alloc | apply pw_below_drewN | apply below_drew1) | exact HB.out)) hb); clear HB; have HB := n0_; clear n0_; (try clear hb); (try clear hb2); (try clear hk); (try clear hi)) | ((with_reducible refine gate_callee (f := 22) rfl ?_); refine goesL_ (some 15) rfl rfl Tryd.func22 (by kernel_rfl) rfl #[.int .i64 a0, .int .i64 a1] rfl (by (try simp only [List.map_toArray, List.map_cons, List.map_nil]); first | done | rfl | (simp only [List.length_drop, List.length_take]; rfl)) ?_; (with_reducible refine (word_Down.calls a0 a1 t220 t221 _ A4.out).mono ?_); rintro e w' ⟨rfl, ⟨nd, rfl⟩⟩; refine ⟨_, rfl, ?_⟩; (try simp only [errW_none, errW_some])) | ((with_reducible refine gate_callee (f := 23) rfl ?_); refine goesL_ (some 21) rfl rfl Tryd.func23 (by kernel_rfl) rfl #[.int .i64 a0, .int .i64 a1] rfl (by (try simp only [List.map_toArray, List.map_cons, List.map_nil]); first | done | rfl | (simp only [List.length_drop, List.length_take]; rfl)) ?_; (with_reducible refine (word_Up.calls a0 a1 t222 t223 _ A5.out).mono ?_); rintro e w' ⟨rfl, ⟨nd, rfl⟩⟩; refine ⟨_, rfl, ?_⟩; (try simp only [errW_none, errW_some])))
  (try simp only [Act.put, List.setIfInBounds_toArray, List.set_cons_zero, List.set_cons_succ])
  go_cut [29] (fun v29 wc => ∃ (kq : Nat) (x29_5 : Bool), v29 = .bool x29_5 ∧ Aside0 (paviorlaw01_WordNear.j0 kq a0 a1 t219 t220 t221 t222 t223 x29_5 = some r) ∧ Aside0 (kq ≤ k) ∧ Aside0 (Below w.heap.size w wc))
  case first =>
    have H := HC6.out
    clear HC6
    rcases t221 with _ | q224
    · have H1 : (if t223.isNone = true then (paviorlaw01_WordNear.j0 k a0 a1 t219 t220 none t222 none false) else (paviorlaw01_WordNear.j0 k a0 a1 t219 t220 none t222 (some (t223.getD 0)) true)) = some r := by rw [if_pos (show (none : Option Int).isNone = true by rfl)] at H; exact H
      clear H
      have H := H1
      clear H1
      try simp only [errW_none, errW_some]
      rcases t223 with _ | q225
      · have H1 : (paviorlaw01_WordNear.j0 k a0 a1 t219 t220 none t222 none false) = some r := by rw [if_pos (show (none : Option Int).isNone = true by rfl)] at H; exact H
        clear H
        have H := H1
        clear H1
        try simp only [errW_none, errW_some]
        have H' := Aside0.mk H
        clear H
        go_wp2
        go_meet
        case rel => exact ⟨_, (false), (by first | rfl | (simp; done) | (simp [*]; done)), H', ⟨by first | omega | exact Nat.le_refl _⟩, ⟨by repeat (first | (with_reducible first | exact HB.out | apply below_alloc | apply pw_below_drewN | apply below_drew1) | exact HB.out)⟩⟩
      · have H1 : (paviorlaw01_WordNear.j0 k a0 a1 t219 t220 none t222 (some q225) true) = some r := by rw [if_neg (show ¬ (some q225).isNone = true by simp)] at H; exact H
        clear H
        have H := H1
        clear H1
        try simp only [errW_none, errW_some]
        have H' := Aside0.mk H
        clear H
        go_wp2
        go_meet
        case rel => exact ⟨_, (true), (by first | rfl | (simp; done) | (simp [*]; done)), H', ⟨by first | omega | exact Nat.le_refl _⟩, ⟨by repeat (first | (with_reducible first | exact HB.out | apply below_alloc | apply pw_below_drewN | apply below_drew1) | exact HB.out)⟩⟩
    · have H1 : (paviorlaw01_WordNear.j0 k a0 a1 t219 t220 (some q224) t222 t223 true) = some r := by rw [if_neg (show ¬ (some q224).isNone = true by simp)] at H; exact H
      clear H
      have H := H1
      clear H1
      try simp only [errW_none, errW_some]
      have H' := Aside0.mk H
      clear H
      go_wp2
      go_meet
      case rel => exact ⟨_, (true), (by first | rfl | (simp; done) | (simp [*]; done)), H', ⟨by first | omega | exact Nat.le_refl _⟩, ⟨by repeat (first | (with_reducible first | exact HB.out | apply below_alloc | apply pw_below_drewN | apply below_drew1) | exact HB.out)⟩⟩
  case rest =>
    clear HC6
    try clear c1
    try clear c2
    try clear p2
    try clear q2
    try clear q224
    try clear q225
    obtain ⟨kq, x29_5, rfl, HA, HJ5, HB⟩ := hcut
    cases kq with
    | zero => exact absurd HA.out (by simp [paviorlaw01_WordNear.j0])
    | succ kj5 =>
      have H := HA.out
      clear HA
      simp only [paviorlaw01_WordNear.j0] at H
      by_cases c8 : x29_5 = true
      · subst c8
        have H1 : (if t219 = true then (if t221.isNone = true then (some false) else (if t223.isNone = true then (some false) else (some true))) else (some false)) = some r := by rw [if_pos rfl] at H; exact H
        clear H
        have H := H1
        clear H1
        by_cases c9 : t219 = true
        · subst c9
          have H1 : (if t221.isNone = true then (some false) else (if t223.isNone = true then (some false) else (some true))) = some r := by rw [if_pos rfl] at H; exact H
          clear H
          have H := H1
          clear H1
          rcases t221 with _ | q226
          · have H1 : (some false) = some r := by rw [if_pos (show (none : Option Int).isNone = true by rfl)] at H; exact H
            clear H
            have H := H1
            clear H1
            try simp only [errW_none, errW_some]
            obtain rfl := Option.some.inj H
            go_wp2
            go_ret
            exact ⟨by first | rfl | (simp [errW_none, errW_some] <;> rfl) | (simp [*, errW_none, errW_some] <;> rfl), by repeat (first | (with_reducible first | exact HB.out | apply below_alloc | apply pw_below_drewN | apply below_drew1) | exact HB.out)⟩
          · have H1 : (if t223.isNone = true then (some false) else (some true)) = some r := by rw [if_neg (show ¬ (some q226).isNone = true by simp)] at H; exact H
            clear H
            have H := H1
            clear H1
            try simp only [errW_none, errW_some]
            rcases t223 with _ | q227
            · have H1 : (some false) = some r := by rw [if_pos (show (none : Option Int).isNone = true by rfl)] at H; exact H
              clear H
              have H := H1
              clear H1
              try simp only [errW_none, errW_some]
              obtain rfl := Option.some.inj H
              go_wp2
              go_ret
              exact ⟨by first | rfl | (simp [errW_none, errW_some] <;> rfl) | (simp [*, errW_none, errW_some] <;> rfl), by repeat (first | (with_reducible first | exact HB.out | apply below_alloc | apply pw_below_drewN | apply below_drew1) | exact HB.out)⟩
            · have H1 : (some true) = some r := by rw [if_neg (show ¬ (some q227).isNone = true by simp)] at H; exact H
              clear H
              have H := H1
              clear H1
              try simp only [errW_none, errW_some]
              obtain rfl := Option.some.inj H
              go_wp2
              go_ret
              exact ⟨by first | rfl | (simp [errW_none, errW_some] <;> rfl) | (simp [*, errW_none, errW_some] <;> rfl), by repeat (first | (with_reducible first | exact HB.out | apply below_alloc | apply pw_below_drewN | apply below_drew1) | exact HB.out)⟩
        · replace c9 := Bool.eq_false_iff.mpr c9
          subst c9
          have H1 : (some false) = some r := by rw [if_neg (show ¬ (false = true) by decide)] at H; exact H
          clear H
          have H := H1
          clear H1
          obtain rfl := Option.some.inj H
          go_wp2
          go_ret
          exact ⟨by first | rfl | (simp [errW_none, errW_some] <;> rfl) | (simp [*, errW_none, errW_some] <;> rfl), by repeat (first | (with_reducible first | exact HB.out | apply below_alloc | apply pw_below_drewN | apply below_drew1) | exact HB.out)⟩
      · replace c8 := Bool.eq_false_iff.mpr c8
        subst c8
        have H1 : ((paviorref01_Power.f kj5 a1).bind fun t228 => (if t228 = 0 then (none) else (if (Int.tmod a0 t228) = 0 then (if t219 = true then (if t220 = a0 then (some (t222 == a0)) else (some false)) else (some false)) else (if t219 = true then (some (t222 == (wrap64 (t220 + t228)))) else (some false))))) = some r := by rw [if_neg (show ¬ (false = true) by decide)] at H; exact H
        clear H
        have H := H1
        clear H1
        replace H := Option.bind_eq_some_iff.mp H
        obtain ⟨t228, A100, H⟩ := H
        replace H : (if t228 = 0 then (none) else (if (Int.tmod a0 t228) = 0 then (if t219 = true then (if t220 = a0 then (some (t222 == a0)) else (some false)) else (some false)) else (if t219 = true then (some (t222 == (wrap64 (t220 + t228)))) else (some false)))) = some r := H
        have A10 := Aside0.mk A100
        clear A100
        by_cases c11 : t228 = 0
        · rw [if_pos c11] at H
          exact absurd H (by simp)
        · rw [if_neg c11] at H
          have c11b0 : (t228 == 0) = false := beq_eq_false_iff_ne.mpr c11
          have c11b1 : (t228 != 0) = true := bne_iff_ne.mpr c11
          by_cases c12 : (Int.tmod a0 t228) = 0
          · rw [if_pos c12] at H
            have c12b0 : ((Int.tmod a0 t228) == 0) = true := beq_iff_eq.mpr c12
            have c12b1 : ((Int.tmod a0 t228) != 0) = false := bne_eq_false_iff_eq.mpr c12
            clear c12
            by_cases c13 : t219 = true
            · subst c13
              have H1 : (if t220 = a0 then (some (t222 == a0)) else (some false)) = some r := by rw [if_pos rfl] at H; exact H
              clear H
              have H := H1
              clear H1
              by_cases c14 : t220 = a0
              · rw [if_pos c14] at H
                have c14b0 : (t220 == a0) = true := beq_iff_eq.mpr c14
                have c14b1 : (t220 != a0) = false := bne_eq_false_iff_eq.mpr c14
                clear c14
                obtain rfl := Option.some.inj H
                go_wp2_with (first | ((with_reducible refine gate_callee (f := 20) rfl ?_); refine goesL_ (some 40) rfl rfl Tryd.func20 (by kernel_rfl) rfl #[.int .i64 a1] rfl (by (try simp only [List.map_toArray, List.map_cons, List.map_nil]); first | done | rfl | (simp only [List.length_drop, List.length_take]; rfl)) ?_; (with_reducible refine (paviorref01_Power.calls kj5 a1 t228 _ A10.out).mono ?_); rintro e w' ⟨rfl, ⟨nd, rfl⟩⟩; refine ⟨_, rfl, ?_⟩))
                go_ret
                exact ⟨by first | rfl | (simp [errW_none, errW_some] <;> rfl) | (simp [*, errW_none, errW_some] <;> rfl), by repeat (first | (with_reducible first | exact HB.out | apply below_alloc | apply pw_below_drewN | apply below_drew1) | exact HB.out)⟩
              · rw [if_neg c14] at H
                have c14b0 : (t220 == a0) = false := beq_eq_false_iff_ne.mpr c14
                have c14b1 : (t220 != a0) = true := bne_iff_ne.mpr c14
                obtain rfl := Option.some.inj H
                go_wp2_with (first | ((with_reducible refine gate_callee (f := 20) rfl ?_); refine goesL_ (some 40) rfl rfl Tryd.func20 (by kernel_rfl) rfl #[.int .i64 a1] rfl (by (try simp only [List.map_toArray, List.map_cons, List.map_nil]); first | done | rfl | (simp only [List.length_drop, List.length_take]; rfl)) ?_; (with_reducible refine (paviorref01_Power.calls kj5 a1 t228 _ A10.out).mono ?_); rintro e w' ⟨rfl, ⟨nd, rfl⟩⟩; refine ⟨_, rfl, ?_⟩))
                go_ret
                exact ⟨by first | rfl | (simp [errW_none, errW_some] <;> rfl) | (simp [*, errW_none, errW_some] <;> rfl), by repeat (first | (with_reducible first | exact HB.out | apply below_alloc | apply pw_below_drewN | apply below_drew1) | exact HB.out)⟩
            · replace c13 := Bool.eq_false_iff.mpr c13
              subst c13
              have H1 : (some false) = some r := by rw [if_neg (show ¬ (false = true) by decide)] at H; exact H
              clear H
              have H := H1
              clear H1
              obtain rfl := Option.some.inj H
              go_wp2_with (first | ((with_reducible refine gate_callee (f := 20) rfl ?_); refine goesL_ (some 40) rfl rfl Tryd.func20 (by kernel_rfl) rfl #[.int .i64 a1] rfl (by (try simp only [List.map_toArray, List.map_cons, List.map_nil]); first | done | rfl | (simp only [List.length_drop, List.length_take]; rfl)) ?_; (with_reducible refine (paviorref01_Power.calls kj5 a1 t228 _ A10.out).mono ?_); rintro e w' ⟨rfl, ⟨nd, rfl⟩⟩; refine ⟨_, rfl, ?_⟩))
              go_ret
              exact ⟨by first | rfl | (simp [errW_none, errW_some] <;> rfl) | (simp [*, errW_none, errW_some] <;> rfl), by repeat (first | (with_reducible first | exact HB.out | apply below_alloc | apply pw_below_drewN | apply below_drew1) | exact HB.out)⟩
          · rw [if_neg c12] at H
            have c12b0 : ((Int.tmod a0 t228) == 0) = false := beq_eq_false_iff_ne.mpr c12
            have c12b1 : ((Int.tmod a0 t228) != 0) = true := bne_iff_ne.mpr c12
            by_cases c15 : t219 = true
            · subst c15
              have H1 : (some (t222 == (wrap64 (t220 + t228)))) = some r := by rw [if_pos rfl] at H; exact H
              clear H
              have H := H1
              clear H1
              obtain rfl := Option.some.inj H
              go_wp2_with (first | ((with_reducible refine gate_callee (f := 20) rfl ?_); refine goesL_ (some 40) rfl rfl Tryd.func20 (by kernel_rfl) rfl #[.int .i64 a1] rfl (by (try simp only [List.map_toArray, List.map_cons, List.map_nil]); first | done | rfl | (simp only [List.length_drop, List.length_take]; rfl)) ?_; (with_reducible refine (paviorref01_Power.calls kj5 a1 t228 _ A10.out).mono ?_); rintro e w' ⟨rfl, ⟨nd, rfl⟩⟩; refine ⟨_, rfl, ?_⟩))
              go_ret
              exact ⟨by first | rfl | (simp [errW_none, errW_some] <;> rfl) | (simp [*, errW_none, errW_some] <;> rfl), by repeat (first | (with_reducible first | exact HB.out | apply below_alloc | apply pw_below_drewN | apply below_drew1) | exact HB.out)⟩
            · replace c15 := Bool.eq_false_iff.mpr c15
              subst c15
              have H1 : (some false) = some r := by rw [if_neg (show ¬ (false = true) by decide)] at H; exact H
              clear H
              have H := H1
              clear H1
              obtain rfl := Option.some.inj H
              go_wp2_with (first | ((with_reducible refine gate_callee (f := 20) rfl ?_); refine goesL_ (some 40) rfl rfl Tryd.func20 (by kernel_rfl) rfl #[.int .i64 a1] rfl (by (try simp only [List.map_toArray, List.map_cons, List.map_nil]); first | done | rfl | (simp only [List.length_drop, List.length_take]; rfl)) ?_; (with_reducible refine (paviorref01_Power.calls kj5 a1 t228 _ A10.out).mono ?_); rintro e w' ⟨rfl, ⟨nd, rfl⟩⟩; refine ⟨_, rfl, ?_⟩))
              go_ret
              exact ⟨by first | rfl | (simp [errW_none, errW_some] <;> rfl) | (simp [*, errW_none, errW_some] <;> rfl), by repeat (first | (with_reducible first | exact HB.out | apply below_alloc | apply pw_below_drewN | apply below_drew1) | exact HB.out)⟩

/-- THE ONE PURE STATEMENT of paviorlaw01_WordNear. -/
def paviorlaw01_WordNear.Pure : Prop := ∀ (a0 : Int) (a1 : Int), (Lit.int .i64 a0).wf = true → (Lit.int .i64 a1).wf = true → ∃ k, paviorlaw01_WordNear.f k a0 a1 = some true

end Go.Proofs.YtobbcfpkmmafnaaDoor.Q
