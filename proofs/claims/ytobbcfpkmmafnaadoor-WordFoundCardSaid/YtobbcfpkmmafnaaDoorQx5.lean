-- Written by this session's program wip/tools/xprint.py (the kit's printer, turned by it); not the kit's own print.
import Derived.Test.YtobbcfpkmmafnaaDoorQx0
import Derived.Test.YtobbcfpkmmafnaaDoorQx2
namespace Go.Proofs.YtobbcfpkmmafnaaDoor.Q
open Go.RowKit Go.Proofs.YtobbcfpkmmafnaaDoorW.PrintWords Go.Proofs.YtobbcfpkmmafnaaDoorW.PrintLast Go.Proofs.YtobbcfpkmmafnaaDoorW.PrintMore
attribute [local go_sem] max2_int min2_int max_two min_two max_three min_three max_four min_four   -- for this text's walks alone
set_option linter.unusedVariables false
set_option linter.unusedSimpArgs false

attribute [local go_sem high] eqErr_some neErr_some eqErr_left neErr_left
/-! ### paviorlaw01_WordFound: function 5 -/
mutual
def paviorlaw01_WordFound.j0 : Nat → Int → Int → Int → Int → Int → Bool → Int → Bool → Option (Bool)
  | 0, _, _, _, _, _, _, _, _ => none
  | k + 1, x0, x1, x2, x4, x5, x13, x14, x47 => if x47 = true then (some false) else ((word_Field.f x0 x4 x5).bind fun bt168 => ((word_Field.f x14 x4 x5).bind fun bt170 => (if bt168.2.isNone = true then (if bt170.2.isNone = true then (if x4 < (wrap64 (x1 + x2)) then (paviorlaw01_WordFound.j1 k x13 bt168.1 none bt170.1 none (decide (x1 < (wrap64 (x4 + x5))))) else (paviorlaw01_WordFound.j1 k x13 bt168.1 none bt170.1 none false)) else (paviorlaw01_WordFound.j1 k x13 bt168.1 none bt170.1 (some (bt170.2.getD 0)) true)) else (paviorlaw01_WordFound.j1 k x13 bt168.1 (some (bt168.2.getD 0)) bt170.1 bt170.2 true))))
def paviorlaw01_WordFound.j1 : Nat → Bool → Int → Option Int → Int → Option Int → Bool → Option (Bool)
  | 0, _, _, _, _, _, _ => none
  | k + 1, x13, x18, x19, x20, x21, x81 => if x81 = true then (if x13 = true then (if x19.isNone = true then (if x21.isNone = true then (some true) else (some false)) else (if x21.isNone = true then (some false) else (some true))) else (some false)) else (if x13 = true then (some (x18 == x20)) else (some false))
end
def paviorlaw01_WordFound.f (k : Nat) (a0 : Int) (a1 : Int) (a2 : Int) (a3 : Int) (a4 : Int) (a5 : Int) : Option (Bool) := (paviorlaw01_up.f k).bind fun t161 => ((word_Put.f a0 a1 a2 a3).bind fun bt162 => (if bt162.2.isNone = true then ((word_Field.f bt162.1 a1 a2).bind fun bt165 => (if bt165.2.isNone = true then (paviorlaw01_WordFound.j0 k a0 a1 a2 a4 a5 t161 bt162.1 (bt165.1 != a3)) else (paviorlaw01_WordFound.j0 k a0 a1 a2 a4 a5 t161 bt162.1 true))) else (some t161)))
theorem paviorlaw01_WordFound.mono_l : ∀ k, (∀ y0 y1 y2 y3 y4 y5 y6 y7, LeO (paviorlaw01_WordFound.j0 k y0 y1 y2 y3 y4 y5 y6 y7) (paviorlaw01_WordFound.j0 (k + 1) y0 y1 y2 y3 y4 y5 y6 y7)) ∧ (∀ y0 y1 y2 y3 y4 y5, LeO (paviorlaw01_WordFound.j1 k y0 y1 y2 y3 y4 y5) (paviorlaw01_WordFound.j1 (k + 1) y0 y1 y2 y3 y4 y5))
  | 0 => ⟨fun _ _ _ _ _ _ _ _ r h => by simp [paviorlaw01_WordFound.j0] at h, fun _ _ _ _ _ _ r h => by simp [paviorlaw01_WordFound.j1] at h⟩
  | k + 1 => by
    obtain ⟨ih0, ih1⟩ := paviorlaw01_WordFound.mono_l k
    refine ⟨?_, ?_⟩
    · intro y0 y1 y2 y3 y4 y5 y6 y7
      unfold paviorlaw01_WordFound.j0
      repeat' first
      | (with_reducible exact ih0 _ _ _ _ _ _ _ _)
      | (with_reducible exact ih1 _ _ _ _ _ _)
      | (with_reducible exact paviorlaw01_up.mono _)
      | (with_reducible exact LeO.refl _)
      | (with_reducible exact LeO.none _)
      | (with_reducible refine LeO.ite ?_ ?_)
      | (with_reducible refine LeO.bind ?_ (fun _ => ?_))
      | exact ih0 _ _ _ _ _ _ _ _
      | exact ih1 _ _ _ _ _ _
      | exact paviorlaw01_up.mono _
      | exact LeO.none _
      | refine LeO.ite ?_ ?_
      | refine LeO.bind ?_ (fun _ => ?_)
    · intro y0 y1 y2 y3 y4 y5
      unfold paviorlaw01_WordFound.j1
      repeat' first
      | (with_reducible exact ih0 _ _ _ _ _ _ _ _)
      | (with_reducible exact ih1 _ _ _ _ _ _)
      | (with_reducible exact paviorlaw01_up.mono _)
      | (with_reducible exact LeO.refl _)
      | (with_reducible exact LeO.none _)
      | (with_reducible refine LeO.ite ?_ ?_)
      | (with_reducible refine LeO.bind ?_ (fun _ => ?_))
      | exact ih0 _ _ _ _ _ _ _ _
      | exact ih1 _ _ _ _ _ _
      | exact paviorlaw01_up.mono _
      | exact LeO.none _
      | refine LeO.ite ?_ ?_
      | refine LeO.bind ?_ (fun _ => ?_)
theorem paviorlaw01_WordFound.mono : ∀ a0 a1 a2 a3 a4 a5 k, LeO (paviorlaw01_WordFound.f k a0 a1 a2 a3 a4 a5) (paviorlaw01_WordFound.f (k + 1) a0 a1 a2 a3 a4 a5) := by
  intro a0 a1 a2 a3 a4 a5 k
  obtain ⟨ih0, ih1⟩ := paviorlaw01_WordFound.mono_l k
  unfold paviorlaw01_WordFound.f
  repeat' first
      | (with_reducible exact ih0 _ _ _ _ _ _ _ _)
      | (with_reducible exact ih1 _ _ _ _ _ _)
      | (with_reducible exact paviorlaw01_up.mono _)
      | (with_reducible exact LeO.refl _)
      | (with_reducible exact LeO.none _)
      | (with_reducible refine LeO.ite ?_ ?_)
      | (with_reducible refine LeO.bind ?_ (fun _ => ?_))
      | exact ih0 _ _ _ _ _ _ _ _
      | exact ih1 _ _ _ _ _ _
      | exact paviorlaw01_up.mono _
      | exact LeO.none _
      | refine LeO.ite ?_ ?_
      | refine LeO.bind ?_ (fun _ => ?_)
set_option maxHeartbeats 8000000 in
set_option maxRecDepth 100000 in
theorem paviorlaw01_WordFound.calls (k : Nat) (a0 : Int) (a1 : Int) (a2 : Int) (a3 : Int) (a4 : Int) (a5 : Int) (r : Bool) (w : World) (hT : Tab w) (h : paviorlaw01_WordFound.f k a0 a1 a2 a3 a4 a5 = some r) :
    Calls Tryd.prog 5 #[.int .u64 a0, .int .i64 a1, .int .i64 a2, .int .u64 a3, .int .i64 a4, .int .i64 a5] w fun e w' => e = .returned (.bool r) ∧ Below w.heap.size w w' := by
  have hu25 := Tryd.underlying25
  have hu30 := Tryd.underlying30
  have HB := Aside0.mk (Below.refl w.heap.size w)
  have hTB := Aside0.mk hT
  clear hT
  have H : ((paviorlaw01_up.f k).bind fun t161 => ((word_Put.f a0 a1 a2 a3).bind fun bt162 => (if bt162.2.isNone = true then ((word_Field.f bt162.1 a1 a2).bind fun bt165 => (if bt165.2.isNone = true then (paviorlaw01_WordFound.j0 k a0 a1 a2 a4 a5 t161 bt162.1 (bt165.1 != a3)) else (paviorlaw01_WordFound.j0 k a0 a1 a2 a4 a5 t161 bt162.1 true))) else (some t161)))) = some r := h
  clear h
  replace H := Option.bind_eq_some_iff.mp H
  obtain ⟨t161, A70, H⟩ := H
  replace H : ((word_Put.f a0 a1 a2 a3).bind fun bt162 => (if bt162.2.isNone = true then ((word_Field.f bt162.1 a1 a2).bind fun bt165 => (if bt165.2.isNone = true then (paviorlaw01_WordFound.j0 k a0 a1 a2 a4 a5 t161 bt162.1 (bt165.1 != a3)) else (paviorlaw01_WordFound.j0 k a0 a1 a2 a4 a5 t161 bt162.1 true))) else (some t161))) = some r := H
  have A7 := Aside0.mk A70
  clear A70
  replace H := Option.bind_eq_some_iff.mp H
  obtain ⟨⟨t162, t163⟩, A80, H⟩ := H
  replace H : (if t163.isNone = true then ((word_Field.f t162 a1 a2).bind fun bt165 => (if bt165.2.isNone = true then (paviorlaw01_WordFound.j0 k a0 a1 a2 a4 a5 t161 t162 (bt165.1 != a3)) else (paviorlaw01_WordFound.j0 k a0 a1 a2 a4 a5 t161 t162 true))) else (some t161)) = some r := H
  have A8 := Aside0.mk A80
  clear A80
  rcases t163 with _ | q164
  · have H1 : ((word_Field.f t162 a1 a2).bind fun bt165 => (if bt165.2.isNone = true then (paviorlaw01_WordFound.j0 k a0 a1 a2 a4 a5 t161 t162 (bt165.1 != a3)) else (paviorlaw01_WordFound.j0 k a0 a1 a2 a4 a5 t161 t162 true))) = some r := by rw [if_pos (show (none : Option Int).isNone = true by rfl)] at H; exact H
    clear H
    have H := H1
    clear H1
    try simp only [errW_none, errW_some]
    replace H := Option.bind_eq_some_iff.mp H
    obtain ⟨⟨t165, t166⟩, A90, H⟩ := H
    replace H : (if t166.isNone = true then (paviorlaw01_WordFound.j0 k a0 a1 a2 a4 a5 t161 t162 (t165 != a3)) else (paviorlaw01_WordFound.j0 k a0 a1 a2 a4 a5 t161 t162 true)) = some r := H
    have A9 := Aside0.mk A90
    clear A90
    have HC10 := Aside0.mk H
    clear H
    go_enter Tryd.func5, Tryd.ntmps5
    go_upto_region 6 with (first | (go_at_call 11; (with_reducible refine (paviorlaw01_up.calls k  t161 _ ?side1 A7.out).mono ?_); (case side1 => exact tab_below hTB.out (by repeat (first | (with_reducible first | exact HB.out | apply below_alloc | apply pw_below_drewN | apply below_drew1) | exact HB.out))); rintro e w11 ⟨rfl, hb⟩; have n0_ := Aside0.mk (below_step (by repeat (first | (with_reducible first | exact HB.out | apply below_alloc | apply pw_below_drewN | apply below_drew1) | exact HB.out)) hb); clear HB; have HB := n0_; clear n0_; (try clear hb); (try clear hb2); (try clear hk); (try clear hi)) | (go_at_call 13; (with_reducible refine (word_Put.calls a0 a1 a2 a3 t162 none _ A8.out).mono ?_); rintro e w' ⟨rfl, ⟨nd, rfl⟩⟩; (try simp only [errW_none, errW_some]); (try first | exact ⟨rfl, _, World.drewN_drewN _ _ _⟩ | exact ⟨rfl, _, Eq.trans (World.drewN_drewN _ _ _) (congrArg (World.drewN _) (Nat.add_assoc _ _ _))⟩)) | (go_at_call 12; (with_reducible refine (word_Field.calls t162 a1 a2 t165 t166 _ A9.out).mono ?_); rintro e w' ⟨rfl, ⟨nd, rfl⟩⟩; (try simp only [errW_none, errW_some]); (try first | exact ⟨rfl, _, World.drewN_drewN _ _ _⟩ | exact ⟨rfl, _, Eq.trans (World.drewN_drewN _ _ _) (congrArg (World.drewN _) (Nat.add_assoc _ _ _))⟩)))
    repeat (go_quiet (first | (go_at_call 11; (with_reducible refine (paviorlaw01_up.calls k  t161 _ ?side1 A7.out).mono ?_); (case side1 => exact tab_below hTB.out (by repeat (first | (with_reducible first | exact HB.out | apply below_alloc | apply pw_below_drewN | apply below_drew1) | exact HB.out))); rintro e w11 ⟨rfl, hb⟩; have n0_ := Aside0.mk (below_step (by repeat (first | (with_reducible first | exact HB.out | apply below_alloc | apply pw_below_drewN | apply below_drew1) | exact HB.out)) hb); clear HB; have HB := n0_; clear n0_; (try clear hb); (try clear hb2); (try clear hk); (try clear hi)) | (go_at_call 13; (with_reducible refine (word_Put.calls a0 a1 a2 a3 t162 none _ A8.out).mono ?_); rintro e w' ⟨rfl, ⟨nd, rfl⟩⟩; (try simp only [errW_none, errW_some]); (try first | exact ⟨rfl, _, World.drewN_drewN _ _ _⟩ | exact ⟨rfl, _, Eq.trans (World.drewN_drewN _ _ _) (congrArg (World.drewN _) (Nat.add_assoc _ _ _))⟩)) | (go_at_call 12; (with_reducible refine (word_Field.calls t162 a1 a2 t165 t166 _ A9.out).mono ?_); rintro e w' ⟨rfl, ⟨nd, rfl⟩⟩; (try simp only [errW_none, errW_some]); (try first | exact ⟨rfl, _, World.drewN_drewN _ _ _⟩ | exact ⟨rfl, _, Eq.trans (World.drewN_drewN _ _ _) (congrArg (World.drewN _) (Nat.add_assoc _ _ _))⟩))); go_upto_region 6 with (first | (go_at_call 11; (with_reducible refine (paviorlaw01_up.calls k  t161 _ ?side1 A7.out).mono ?_); (case side1 => exact tab_below hTB.out (by repeat (first | (with_reducible first | exact HB.out | apply below_alloc | apply pw_below_drewN | apply below_drew1) | exact HB.out))); rintro e w11 ⟨rfl, hb⟩; have n0_ := Aside0.mk (below_step (by repeat (first | (with_reducible first | exact HB.out | apply below_alloc | apply pw_below_drewN | apply below_drew1) | exact HB.out)) hb); clear HB; have HB := n0_; clear n0_; (try clear hb); (try clear hb2); (try clear hk); (try clear hi)) | (go_at_call 13; (with_reducible refine (word_Put.calls a0 a1 a2 a3 t162 none _ A8.out).mono ?_); rintro e w' ⟨rfl, ⟨nd, rfl⟩⟩; (try simp only [errW_none, errW_some]); (try first | exact ⟨rfl, _, World.drewN_drewN _ _ _⟩ | exact ⟨rfl, _, Eq.trans (World.drewN_drewN _ _ _) (congrArg (World.drewN _) (Nat.add_assoc _ _ _))⟩)) | (go_at_call 12; (with_reducible refine (word_Field.calls t162 a1 a2 t165 t166 _ A9.out).mono ?_); rintro e w' ⟨rfl, ⟨nd, rfl⟩⟩; (try simp only [errW_none, errW_some]); (try first | exact ⟨rfl, _, World.drewN_drewN _ _ _⟩ | exact ⟨rfl, _, Eq.trans (World.drewN_drewN _ _ _) (congrArg (World.drewN _) (Nat.add_assoc _ _ _))⟩))))
    (try simp only [Act.put, List.setIfInBounds_toArray, List.set_cons_zero, List.set_cons_succ])
    go_cut [47] (fun v47 wc => ∃ (kq : Nat) (x47_9 : Bool), v47 = .bool x47_9 ∧ Aside0 (paviorlaw01_WordFound.j0 kq a0 a1 a2 a4 a5 t161 t162 x47_9 = some r) ∧ Aside0 (kq ≤ k) ∧ Aside0 (Below w.heap.size w wc))
    case first =>
      have H := HC10.out
      clear HC10
      rcases t166 with _ | q167
      · have H1 : (paviorlaw01_WordFound.j0 k a0 a1 a2 a4 a5 t161 t162 (t165 != a3)) = some r := by rw [if_pos (show (none : Option Int).isNone = true by rfl)] at H; exact H
        clear H
        have H := H1
        clear H1
        try simp only [errW_none, errW_some]
        have H' := Aside0.mk H
        clear H
        go_wp2
        repeat (go_quiet (fail); try go_wp2)
        go_meet
        case rel => exact ⟨_, ((t165 != a3)), (by first | rfl | (simp; done) | (simp [*]; done)), H', ⟨by first | omega | exact Nat.le_refl _⟩, ⟨by repeat (first | (with_reducible first | exact HB.out | apply below_alloc | apply pw_below_drewN | apply below_drew1) | exact HB.out)⟩⟩
      · have H1 : (paviorlaw01_WordFound.j0 k a0 a1 a2 a4 a5 t161 t162 true) = some r := by rw [if_neg (show ¬ (some q167).isNone = true by simp)] at H; exact H
        clear H
        have H := H1
        clear H1
        try simp only [errW_none, errW_some]
        have H' := Aside0.mk H
        clear H
        go_wp2
        repeat (go_quiet (fail); try go_wp2)
        go_meet
        case rel => exact ⟨_, (true), (by first | rfl | (simp; done) | (simp [*]; done)), H', ⟨by first | omega | exact Nat.le_refl _⟩, ⟨by repeat (first | (with_reducible first | exact HB.out | apply below_alloc | apply pw_below_drewN | apply below_drew1) | exact HB.out)⟩⟩
    case rest =>
      clear HC10
      try clear q1
      try clear p2
      try clear c5
      try clear q164
      try clear q167
      obtain ⟨kq, x47_9, rfl, HA, HJ9, HB⟩ := hcut
      cases kq with
      | zero => exact absurd HA.out (by simp [paviorlaw01_WordFound.j0])
      | succ kj9 =>
        have H := HA.out
        clear HA
        simp only [paviorlaw01_WordFound.j0] at H
        by_cases c12 : x47_9 = true
        · subst c12
          have H1 : (some false) = some r := by rw [if_pos rfl] at H; exact H
          clear H
          have H := H1
          clear H1
          obtain rfl := Option.some.inj H
          go_wp2
          repeat (go_quiet (fail); try go_wp2)
          go_ret
          exact ⟨by first | rfl | (simp [errW_none, errW_some] <;> rfl) | (simp [*, errW_none, errW_some] <;> rfl), by repeat (first | (with_reducible first | exact HB.out | apply below_alloc | apply pw_below_drewN | apply below_drew1) | exact HB.out)⟩
        · replace c12 := Bool.eq_false_iff.mpr c12
          subst c12
          have H1 : ((word_Field.f a0 a4 a5).bind fun bt168 => ((word_Field.f t162 a4 a5).bind fun bt170 => (if bt168.2.isNone = true then (if bt170.2.isNone = true then (if a4 < (wrap64 (a1 + a2)) then (paviorlaw01_WordFound.j1 kj9 t161 bt168.1 none bt170.1 none (decide (a1 < (wrap64 (a4 + a5))))) else (paviorlaw01_WordFound.j1 kj9 t161 bt168.1 none bt170.1 none false)) else (paviorlaw01_WordFound.j1 kj9 t161 bt168.1 none bt170.1 (some (bt170.2.getD 0)) true)) else (paviorlaw01_WordFound.j1 kj9 t161 bt168.1 (some (bt168.2.getD 0)) bt170.1 bt170.2 true)))) = some r := by rw [if_neg (show ¬ (false = true) by decide)] at H; exact H
          clear H
          have H := H1
          clear H1
          replace H := Option.bind_eq_some_iff.mp H
          obtain ⟨⟨t168, t169⟩, A130, H⟩ := H
          replace H : ((word_Field.f t162 a4 a5).bind fun bt170 => (if t169.isNone = true then (if bt170.2.isNone = true then (if a4 < (wrap64 (a1 + a2)) then (paviorlaw01_WordFound.j1 kj9 t161 t168 none bt170.1 none (decide (a1 < (wrap64 (a4 + a5))))) else (paviorlaw01_WordFound.j1 kj9 t161 t168 none bt170.1 none false)) else (paviorlaw01_WordFound.j1 kj9 t161 t168 none bt170.1 (some (bt170.2.getD 0)) true)) else (paviorlaw01_WordFound.j1 kj9 t161 t168 (some (t169.getD 0)) bt170.1 bt170.2 true))) = some r := H
          have A13 := Aside0.mk A130
          clear A130
          replace H := Option.bind_eq_some_iff.mp H
          obtain ⟨⟨t170, t171⟩, A140, H⟩ := H
          replace H : (if t169.isNone = true then (if t171.isNone = true then (if a4 < (wrap64 (a1 + a2)) then (paviorlaw01_WordFound.j1 kj9 t161 t168 none t170 none (decide (a1 < (wrap64 (a4 + a5))))) else (paviorlaw01_WordFound.j1 kj9 t161 t168 none t170 none false)) else (paviorlaw01_WordFound.j1 kj9 t161 t168 none t170 (some (t171.getD 0)) true)) else (paviorlaw01_WordFound.j1 kj9 t161 t168 (some (t169.getD 0)) t170 t171 true)) = some r := H
          have A14 := Aside0.mk A140
          clear A140
          have HC15 := Aside0.mk H
          clear H
          go_upto_region 10 with (first | (go_at_call 12; (with_reducible refine (word_Field.calls a0 a4 a5 t168 t169 _ A13.out).mono ?_); rintro e w' ⟨rfl, ⟨nd, rfl⟩⟩; (try simp only [errW_none, errW_some]); (try first | exact ⟨rfl, _, World.drewN_drewN _ _ _⟩ | exact ⟨rfl, _, Eq.trans (World.drewN_drewN _ _ _) (congrArg (World.drewN _) (Nat.add_assoc _ _ _))⟩)) | (go_at_call 12; (with_reducible refine (word_Field.calls t162 a4 a5 t170 t171 _ A14.out).mono ?_); rintro e w' ⟨rfl, ⟨nd, rfl⟩⟩; (try simp only [errW_none, errW_some]); (try first | exact ⟨rfl, _, World.drewN_drewN _ _ _⟩ | exact ⟨rfl, _, Eq.trans (World.drewN_drewN _ _ _) (congrArg (World.drewN _) (Nat.add_assoc _ _ _))⟩)))
          repeat (go_quiet (first | (go_at_call 12; (with_reducible refine (word_Field.calls a0 a4 a5 t168 t169 _ A13.out).mono ?_); rintro e w' ⟨rfl, ⟨nd, rfl⟩⟩; (try simp only [errW_none, errW_some]); (try first | exact ⟨rfl, _, World.drewN_drewN _ _ _⟩ | exact ⟨rfl, _, Eq.trans (World.drewN_drewN _ _ _) (congrArg (World.drewN _) (Nat.add_assoc _ _ _))⟩)) | (go_at_call 12; (with_reducible refine (word_Field.calls t162 a4 a5 t170 t171 _ A14.out).mono ?_); rintro e w' ⟨rfl, ⟨nd, rfl⟩⟩; (try simp only [errW_none, errW_some]); (try first | exact ⟨rfl, _, World.drewN_drewN _ _ _⟩ | exact ⟨rfl, _, Eq.trans (World.drewN_drewN _ _ _) (congrArg (World.drewN _) (Nat.add_assoc _ _ _))⟩))); go_upto_region 10 with (first | (go_at_call 12; (with_reducible refine (word_Field.calls a0 a4 a5 t168 t169 _ A13.out).mono ?_); rintro e w' ⟨rfl, ⟨nd, rfl⟩⟩; (try simp only [errW_none, errW_some]); (try first | exact ⟨rfl, _, World.drewN_drewN _ _ _⟩ | exact ⟨rfl, _, Eq.trans (World.drewN_drewN _ _ _) (congrArg (World.drewN _) (Nat.add_assoc _ _ _))⟩)) | (go_at_call 12; (with_reducible refine (word_Field.calls t162 a4 a5 t170 t171 _ A14.out).mono ?_); rintro e w' ⟨rfl, ⟨nd, rfl⟩⟩; (try simp only [errW_none, errW_some]); (try first | exact ⟨rfl, _, World.drewN_drewN _ _ _⟩ | exact ⟨rfl, _, Eq.trans (World.drewN_drewN _ _ _) (congrArg (World.drewN _) (Nat.add_assoc _ _ _))⟩))))
          (try simp only [Act.put, List.setIfInBounds_toArray, List.set_cons_zero, List.set_cons_succ])
          go_cut [81] (fun v81 wc => ∃ (kq : Nat) (x81_14 : Bool), v81 = .bool x81_14 ∧ Aside0 (paviorlaw01_WordFound.j1 kq t161 t168 t169 t170 t171 x81_14 = some r) ∧ Aside0 (kq ≤ kj9) ∧ Aside0 (Below w.heap.size w wc))
          case first =>
            have H := HC15.out
            clear HC15
            rcases t169 with _ | q172
            · have H1 : (if t171.isNone = true then (if a4 < (wrap64 (a1 + a2)) then (paviorlaw01_WordFound.j1 kj9 t161 t168 none t170 none (decide (a1 < (wrap64 (a4 + a5))))) else (paviorlaw01_WordFound.j1 kj9 t161 t168 none t170 none false)) else (paviorlaw01_WordFound.j1 kj9 t161 t168 none t170 (some (t171.getD 0)) true)) = some r := by rw [if_pos (show (none : Option Int).isNone = true by rfl)] at H; exact H
              clear H
              have H := H1
              clear H1
              try simp only [errW_none, errW_some]
              rcases t171 with _ | q173
              · have H1 : (if a4 < (wrap64 (a1 + a2)) then (paviorlaw01_WordFound.j1 kj9 t161 t168 none t170 none (decide (a1 < (wrap64 (a4 + a5))))) else (paviorlaw01_WordFound.j1 kj9 t161 t168 none t170 none false)) = some r := by rw [if_pos (show (none : Option Int).isNone = true by rfl)] at H; exact H
                clear H
                have H := H1
                clear H1
                try simp only [errW_none, errW_some]
                by_cases c16 : a4 < (wrap64 (a1 + a2))
                · rw [if_pos c16] at H
                  have c16b0 : decide (a4 < (wrap64 (a1 + a2))) = true := decide_eq_true c16
                  clear c16
                  (first | rw [c16b0] | (simp only [i64_w, i32_w]; rw [c16b0]) | skip)
                  have H' := Aside0.mk H
                  clear H
                  go_wp2
                  repeat (go_quiet (fail); try go_wp2)
                  go_meet
                  case rel => exact ⟨_, (decide (a1 < (wrap64 (a4 + a5)))), (by first | rfl | (simp; done) | (simp [*]; done)), H', ⟨by have := HJ9.out; first | omega | exact Nat.le_refl _⟩, ⟨by repeat (first | (with_reducible first | exact HB.out | apply below_alloc | apply pw_below_drewN | apply below_drew1) | exact HB.out)⟩⟩
                · rw [if_neg c16] at H
                  have c16b0 : decide (a4 < (wrap64 (a1 + a2))) = false := decide_eq_false c16
                  clear c16
                  (first | rw [c16b0] | (simp only [i64_w, i32_w]; rw [c16b0]) | skip)
                  have H' := Aside0.mk H
                  clear H
                  go_wp2
                  repeat (go_quiet (fail); try go_wp2)
                  go_meet
                  case rel => exact ⟨_, (false), (by first | rfl | (simp; done) | (simp [*]; done)), H', ⟨by have := HJ9.out; first | omega | exact Nat.le_refl _⟩, ⟨by repeat (first | (with_reducible first | exact HB.out | apply below_alloc | apply pw_below_drewN | apply below_drew1) | exact HB.out)⟩⟩
              · have H1 : (paviorlaw01_WordFound.j1 kj9 t161 t168 none t170 (some q173) true) = some r := by rw [if_neg (show ¬ (some q173).isNone = true by simp)] at H; exact H
                clear H
                have H := H1
                clear H1
                try simp only [errW_none, errW_some]
                have H' := Aside0.mk H
                clear H
                go_wp2
                repeat (go_quiet (fail); try go_wp2)
                go_meet
                case rel => exact ⟨_, (true), (by first | rfl | (simp; done) | (simp [*]; done)), H', ⟨by have := HJ9.out; first | omega | exact Nat.le_refl _⟩, ⟨by repeat (first | (with_reducible first | exact HB.out | apply below_alloc | apply pw_below_drewN | apply below_drew1) | exact HB.out)⟩⟩
            · have H1 : (paviorlaw01_WordFound.j1 kj9 t161 t168 (some q172) t170 t171 true) = some r := by rw [if_neg (show ¬ (some q172).isNone = true by simp)] at H; exact H
              clear H
              have H := H1
              clear H1
              try simp only [errW_none, errW_some]
              have H' := Aside0.mk H
              clear H
              go_wp2
              repeat (go_quiet (fail); try go_wp2)
              go_meet
              case rel => exact ⟨_, (true), (by first | rfl | (simp; done) | (simp [*]; done)), H', ⟨by have := HJ9.out; first | omega | exact Nat.le_refl _⟩, ⟨by repeat (first | (with_reducible first | exact HB.out | apply below_alloc | apply pw_below_drewN | apply below_drew1) | exact HB.out)⟩⟩
          case rest =>
            clear HC15
            try clear c1
            try clear q1
            try clear p2
            try clear c5
            try clear p6
            try clear c12
            try clear c16
            try clear c16b0
            try clear q16
            try clear p2
            try clear q1
            try clear q164
            try clear q167
            try clear q172
            try clear q173
            obtain ⟨kq, x81_14, rfl, HA, HJ14, HB⟩ := hcut
            cases kq with
            | zero => exact absurd HA.out (by simp [paviorlaw01_WordFound.j1])
            | succ kj14 =>
              have H := HA.out
              clear HA
              simp only [paviorlaw01_WordFound.j1] at H
              by_cases c17 : x81_14 = true
              · subst c17
                have H1 : (if t161 = true then (if t169.isNone = true then (if t171.isNone = true then (some true) else (some false)) else (if t171.isNone = true then (some false) else (some true))) else (some false)) = some r := by rw [if_pos rfl] at H; exact H
                clear H
                have H := H1
                clear H1
                by_cases c18 : t161 = true
                · subst c18
                  have H1 : (if t169.isNone = true then (if t171.isNone = true then (some true) else (some false)) else (if t171.isNone = true then (some false) else (some true))) = some r := by rw [if_pos rfl] at H; exact H
                  clear H
                  have H := H1
                  clear H1
                  rcases t169 with _ | q174
                  · have H1 : (if t171.isNone = true then (some true) else (some false)) = some r := by rw [if_pos (show (none : Option Int).isNone = true by rfl)] at H; exact H
                    clear H
                    have H := H1
                    clear H1
                    try simp only [errW_none, errW_some]
                    rcases t171 with _ | q175
                    · have H1 : (some true) = some r := by rw [if_pos (show (none : Option Int).isNone = true by rfl)] at H; exact H
                      clear H
                      have H := H1
                      clear H1
                      try simp only [errW_none, errW_some]
                      obtain rfl := Option.some.inj H
                      go_wp2
                      repeat (go_quiet (fail); try go_wp2)
                      go_ret
                      exact ⟨by first | rfl | (simp [errW_none, errW_some] <;> rfl) | (simp [*, errW_none, errW_some] <;> rfl), by repeat (first | (with_reducible first | exact HB.out | apply below_alloc | apply pw_below_drewN | apply below_drew1) | exact HB.out)⟩
                    · have H1 : (some false) = some r := by rw [if_neg (show ¬ (some q175).isNone = true by simp)] at H; exact H
                      clear H
                      have H := H1
                      clear H1
                      try simp only [errW_none, errW_some]
                      obtain rfl := Option.some.inj H
                      go_wp2
                      repeat (go_quiet (fail); try go_wp2)
                      go_ret
                      exact ⟨by first | rfl | (simp [errW_none, errW_some] <;> rfl) | (simp [*, errW_none, errW_some] <;> rfl), by repeat (first | (with_reducible first | exact HB.out | apply below_alloc | apply pw_below_drewN | apply below_drew1) | exact HB.out)⟩
                  · have H1 : (if t171.isNone = true then (some false) else (some true)) = some r := by rw [if_neg (show ¬ (some q174).isNone = true by simp)] at H; exact H
                    clear H
                    have H := H1
                    clear H1
                    try simp only [errW_none, errW_some]
                    rcases t171 with _ | q176
                    · have H1 : (some false) = some r := by rw [if_pos (show (none : Option Int).isNone = true by rfl)] at H; exact H
                      clear H
                      have H := H1
                      clear H1
                      try simp only [errW_none, errW_some]
                      obtain rfl := Option.some.inj H
                      go_wp2
                      repeat (go_quiet (fail); try go_wp2)
                      go_ret
                      exact ⟨by first | rfl | (simp [errW_none, errW_some] <;> rfl) | (simp [*, errW_none, errW_some] <;> rfl), by repeat (first | (with_reducible first | exact HB.out | apply below_alloc | apply pw_below_drewN | apply below_drew1) | exact HB.out)⟩
                    · have H1 : (some true) = some r := by rw [if_neg (show ¬ (some q176).isNone = true by simp)] at H; exact H
                      clear H
                      have H := H1
                      clear H1
                      try simp only [errW_none, errW_some]
                      obtain rfl := Option.some.inj H
                      go_wp2
                      repeat (go_quiet (fail); try go_wp2)
                      go_ret
                      exact ⟨by first | rfl | (simp [errW_none, errW_some] <;> rfl) | (simp [*, errW_none, errW_some] <;> rfl), by repeat (first | (with_reducible first | exact HB.out | apply below_alloc | apply pw_below_drewN | apply below_drew1) | exact HB.out)⟩
                · replace c18 := Bool.eq_false_iff.mpr c18
                  subst c18
                  have H1 : (some false) = some r := by rw [if_neg (show ¬ (false = true) by decide)] at H; exact H
                  clear H
                  have H := H1
                  clear H1
                  obtain rfl := Option.some.inj H
                  go_wp2
                  repeat (go_quiet (fail); try go_wp2)
                  go_ret
                  exact ⟨by first | rfl | (simp [errW_none, errW_some] <;> rfl) | (simp [*, errW_none, errW_some] <;> rfl), by repeat (first | (with_reducible first | exact HB.out | apply below_alloc | apply pw_below_drewN | apply below_drew1) | exact HB.out)⟩
              · replace c17 := Bool.eq_false_iff.mpr c17
                subst c17
                have H1 : (if t161 = true then (some (t168 == t170)) else (some false)) = some r := by rw [if_neg (show ¬ (false = true) by decide)] at H; exact H
                clear H
                have H := H1
                clear H1
                by_cases c19 : t161 = true
                · subst c19
                  have H1 : (some (t168 == t170)) = some r := by rw [if_pos rfl] at H; exact H
                  clear H
                  have H := H1
                  clear H1
                  obtain rfl := Option.some.inj H
                  go_wp2
                  repeat (go_quiet (fail); try go_wp2)
                  go_ret
                  exact ⟨by first | rfl | (simp [errW_none, errW_some] <;> rfl) | (simp [*, errW_none, errW_some] <;> rfl), by repeat (first | (with_reducible first | exact HB.out | apply below_alloc | apply pw_below_drewN | apply below_drew1) | exact HB.out)⟩
                · replace c19 := Bool.eq_false_iff.mpr c19
                  subst c19
                  have H1 : (some false) = some r := by rw [if_neg (show ¬ (false = true) by decide)] at H; exact H
                  clear H
                  have H := H1
                  clear H1
                  obtain rfl := Option.some.inj H
                  go_wp2
                  repeat (go_quiet (fail); try go_wp2)
                  go_ret
                  exact ⟨by first | rfl | (simp [errW_none, errW_some] <;> rfl) | (simp [*, errW_none, errW_some] <;> rfl), by repeat (first | (with_reducible first | exact HB.out | apply below_alloc | apply pw_below_drewN | apply below_drew1) | exact HB.out)⟩
  · have H1 : (some t161) = some r := by rw [if_neg (show ¬ (some q164).isNone = true by simp)] at H; exact H
    clear H
    have H := H1
    clear H1
    try simp only [errW_none, errW_some]
    obtain rfl := Option.some.inj H
    go_enter Tryd.func5, Tryd.ntmps5
    go_wp2_with (first | (go_at_call 11; (with_reducible refine (paviorlaw01_up.calls k  t161 _ ?side1 A7.out).mono ?_); (case side1 => exact tab_below hTB.out (by repeat (first | (with_reducible first | exact HB.out | apply below_alloc | apply pw_below_drewN | apply below_drew1) | exact HB.out))); rintro e w20 ⟨rfl, hb⟩; have n0_ := Aside0.mk (below_step (by repeat (first | (with_reducible first | exact HB.out | apply below_alloc | apply pw_below_drewN | apply below_drew1) | exact HB.out)) hb); clear HB; have HB := n0_; clear n0_; (try clear hb); (try clear hb2); (try clear hk); (try clear hi)) | (go_at_call 13; (with_reducible refine (word_Put.calls a0 a1 a2 a3 t162 (some q164) _ A8.out).mono ?_); rintro e w' ⟨rfl, ⟨nd, rfl⟩⟩; (try simp only [errW_none, errW_some]); (try first | exact ⟨rfl, _, World.drewN_drewN _ _ _⟩ | exact ⟨rfl, _, Eq.trans (World.drewN_drewN _ _ _) (congrArg (World.drewN _) (Nat.add_assoc _ _ _))⟩)))
    repeat (go_quiet (first | (go_at_call 11; (with_reducible refine (paviorlaw01_up.calls k  t161 _ ?side1 A7.out).mono ?_); (case side1 => exact tab_below hTB.out (by repeat (first | (with_reducible first | exact HB.out | apply below_alloc | apply pw_below_drewN | apply below_drew1) | exact HB.out))); rintro e w20 ⟨rfl, hb⟩; have n0_ := Aside0.mk (below_step (by repeat (first | (with_reducible first | exact HB.out | apply below_alloc | apply pw_below_drewN | apply below_drew1) | exact HB.out)) hb); clear HB; have HB := n0_; clear n0_; (try clear hb); (try clear hb2); (try clear hk); (try clear hi)) | (go_at_call 13; (with_reducible refine (word_Put.calls a0 a1 a2 a3 t162 (some q164) _ A8.out).mono ?_); rintro e w' ⟨rfl, ⟨nd, rfl⟩⟩; (try simp only [errW_none, errW_some]); (try first | exact ⟨rfl, _, World.drewN_drewN _ _ _⟩ | exact ⟨rfl, _, Eq.trans (World.drewN_drewN _ _ _) (congrArg (World.drewN _) (Nat.add_assoc _ _ _))⟩))); try go_wp2_with (first | (go_at_call 11; (with_reducible refine (paviorlaw01_up.calls k  t161 _ ?side1 A7.out).mono ?_); (case side1 => exact tab_below hTB.out (by repeat (first | (with_reducible first | exact HB.out | apply below_alloc | apply pw_below_drewN | apply below_drew1) | exact HB.out))); rintro e w20 ⟨rfl, hb⟩; have n0_ := Aside0.mk (below_step (by repeat (first | (with_reducible first | exact HB.out | apply below_alloc | apply pw_below_drewN | apply below_drew1) | exact HB.out)) hb); clear HB; have HB := n0_; clear n0_; (try clear hb); (try clear hb2); (try clear hk); (try clear hi)) | (go_at_call 13; (with_reducible refine (word_Put.calls a0 a1 a2 a3 t162 (some q164) _ A8.out).mono ?_); rintro e w' ⟨rfl, ⟨nd, rfl⟩⟩; (try simp only [errW_none, errW_some]); (try first | exact ⟨rfl, _, World.drewN_drewN _ _ _⟩ | exact ⟨rfl, _, Eq.trans (World.drewN_drewN _ _ _) (congrArg (World.drewN _) (Nat.add_assoc _ _ _))⟩))))
    go_ret
    exact ⟨by first | rfl | (simp [errW_none, errW_some] <;> rfl) | (simp [*, errW_none, errW_some] <;> rfl), by repeat (first | (with_reducible first | exact HB.out | apply below_alloc | apply pw_below_drewN | apply below_drew1) | exact HB.out)⟩

/-- THE ONE PURE STATEMENT of paviorlaw01_WordFound. -/
def paviorlaw01_WordFound.Pure : Prop := ∀ (a0 : Int) (a1 : Int) (a2 : Int) (a3 : Int) (a4 : Int) (a5 : Int), (Lit.int .u64 a0).wf = true → (Lit.int .i64 a1).wf = true → (Lit.int .i64 a2).wf = true → (Lit.int .u64 a3).wf = true → (Lit.int .i64 a4).wf = true → (Lit.int .i64 a5).wf = true → ∃ k, paviorlaw01_WordFound.f k a0 a1 a2 a3 a4 a5 = some true

end Go.Proofs.YtobbcfpkmmafnaaDoor.Q
